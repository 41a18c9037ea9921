/- What the functions compute (printed by a program of ours, checked by the kernel). -/
import Derived.Test.YtbfappllfpngdaaGreatDoorTapC
import Derived.Test.YtbfappllfpngdaaGreatDoorAmKI
set_option linter.all false
namespace Go.Proofs.YtbfappllfpngdaaGreatDoor
open Go Go.Am
set_option maxRecDepth 100000
abbrev p3 : Pat := (.int .i64)
abbrev d3 (v : AV) : Int := Pat.decD p3 v
abbrev n3 (x : Int) : AV := Pat.enc p3 x
theorem fa3 (l : List Int) : allFit (Pat.fits p3) (List.map n3 l) = true := allFit_encs (p := p3) rfl l
theorem md3 (l : List Int) : List.map d3 (List.map n3 l) = l := map_decs (p := p3) rfl l
theorem fn3 (x : Int) : Pat.fits p3 (n3 x) = true := (Pat.fits_enc p3 x rfl).1
theorem dn3 (x : Int) : d3 (n3 x) = x := (Pat.fits_enc p3 x rfl).2
abbrev p5 : Pat := (.int .u8)
abbrev d5 (v : AV) : Int := Pat.decD p5 v
abbrev n5 (x : Int) : AV := Pat.enc p5 x
theorem fa5 (l : List Int) : allFit (Pat.fits p5) (List.map n5 l) = true := allFit_encs (p := p5) rfl l
theorem md5 (l : List Int) : List.map d5 (List.map n5 l) = l := map_decs (p := p5) rfl l
theorem fn5 (x : Int) : Pat.fits p5 (n5 x) = true := (Pat.fits_enc p5 x rfl).1
theorem dn5 (x : Int) : d5 (n5 x) = x := (Pat.fits_enc p5 x rfl).2
abbrev p9 : Pat := .str
abbrev d9 (v : AV) : List UInt8 := Pat.decD p9 v
abbrev n9 (x : List UInt8) : AV := Pat.enc p9 x
theorem fa9 (l : List (List UInt8)) : allFit (Pat.fits p9) (List.map n9 l) = true := allFit_encs (p := p9) rfl l
theorem md9 (l : List (List UInt8)) : List.map d9 (List.map n9 l) = l := map_decs (p := p9) rfl l
theorem fn9 (x : List UInt8) : Pat.fits p9 (n9 x) = true := (Pat.fits_enc p9 x rfl).1
theorem dn9 (x : List UInt8) : d9 (n9 x) = x := (Pat.fits_enc p9 x rfl).2
abbrev p21 : Pat := (.int .i32)
abbrev d21 (v : AV) : Int := Pat.decD p21 v
abbrev n21 (x : Int) : AV := Pat.enc p21 x
theorem fa21 (l : List Int) : allFit (Pat.fits p21) (List.map n21 l) = true := allFit_encs (p := p21) rfl l
theorem md21 (l : List Int) : List.map d21 (List.map n21 l) = l := map_decs (p := p21) rfl l
theorem fn21 (x : Int) : Pat.fits p21 (n21 x) = true := (Pat.fits_enc p21 x rfl).1
theorem dn21 (x : Int) : d21 (n21 x) = x := (Pat.fits_enc p21 x rfl).2
abbrev p23 : Pat := (.int .i64)
abbrev d23 (v : AV) : Int := Pat.decD p23 v
abbrev n23 (x : Int) : AV := Pat.enc p23 x
theorem fa23 (l : List Int) : allFit (Pat.fits p23) (List.map n23 l) = true := allFit_encs (p := p23) rfl l
theorem md23 (l : List Int) : List.map d23 (List.map n23 l) = l := map_decs (p := p23) rfl l
theorem fn23 (x : Int) : Pat.fits p23 (n23 x) = true := (Pat.fits_enc p23 x rfl).1
theorem dn23 (x : Int) : d23 (n23 x) = x := (Pat.fits_enc p23 x rfl).2
abbrev p79 : Pat := (.agg (.cons (.int .i64) (.cons (.int .i64) .nil)))
abbrev d79 (v : AV) : Int × Int := Pat.decD p79 v
abbrev n79 (x : Int × Int) : AV := Pat.enc p79 x
theorem fa79 (l : List (Int × Int)) : allFit (Pat.fits p79) (List.map n79 l) = true := allFit_encs (p := p79) rfl l
theorem md79 (l : List (Int × Int)) : List.map d79 (List.map n79 l) = l := map_decs (p := p79) rfl l
theorem fn79 (x : Int × Int) : Pat.fits p79 (n79 x) = true := (Pat.fits_enc p79 x rfl).1
theorem dn79 (x : Int × Int) : d79 (n79 x) = x := (Pat.fits_enc p79 x rfl).2
abbrev pM174 : Pat := (.agg (.cons (.int .i32) (.cons (.agg (.cons (.int .i64) (.cons (.int .i64) .nil))) .nil)))
abbrev dM174 (v : AV) : Int × (Int × Int) := Pat.decD pM174 v
abbrev nM174 (x : Int × (Int × Int)) : AV := Pat.enc pM174 x
theorem faM174 (l : List (Int × (Int × Int))) : allFit (Pat.fits pM174) (List.map nM174 l) = true := allFit_encs (p := pM174) rfl l
theorem mdM174 (l : List (Int × (Int × Int))) : List.map dM174 (List.map nM174 l) = l := map_decs (p := pM174) rfl l
theorem fnM174 (x : Int × (Int × Int)) : Pat.fits pM174 (nM174 x) = true := (Pat.fits_enc pM174 x rfl).1
theorem dnM174 (x : Int × (Int × Int)) : dM174 (nM174 x) = x := (Pat.fits_enc pM174 x rfl).2
def elpL : List (Nat × Pat) := [(57, (.agg (.cons (.int .i64) (.cons (.int .i64) .nil)))), (60, (.agg (.cons (.int .i64) (.cons (.int .i64) (.cons (.int .i64) .nil))))), (63, (.agg (.cons (.int .i64) (.cons (.int .i64) .nil)))), (108, (.int .i64)), (114, (.int .u8)), (128, (.int .i32)), (139, (.agg (.cons (.int .i32) (.cons (.int .i64) (.cons (.int .i64) (.cons (.int .i64) (.cons (.int .i64) .nil))))))), (146, .str), (170, (.int .i64)), (174, (.agg (.cons (.int .i64) (.cons (.int .i64) .nil))))]
def elpF : List (Nat × Pat) → Nat → Option Pat
  | [], _ => none
  | (a, p) :: l, t => bif Nat.beq a t then some p else elpF l t
noncomputable def envS : Env := { env with elp := elpF elpL }
noncomputable def envDS : EnvD := { envD with toEnv := envS }
noncomputable def gtS : (g : FuncId) → Option (GEntry envS g)
  | 120 => some (ccE (E := envS) lays240 Tryz.Builder_Extra_105.toX72)
  | 74 => some (strE (E := envS) Tryz.lays169 Tryz.Builder_Extra_169 rfl)
  | _ => none
noncomputable def cx (N : Nat) (tab : List (Nat × Entry)) (cert : List (Nat × List (Nat × Cert))) : Ctx := { D := envDS, tab := tabF tab, cert := certF cert, fz := false, N := N, gt := gtS }

noncomputable def T15 (_N : Nat) : Unit → Option Bool := fun _ => some true
noncomputable def e15 (N : Nat) : Entry := ⟨.nil, .bool, T15 N⟩
theorem T15_ok (N : Nat) : EntryOk envS 15 (e15 N) := fun x y h => by
  cases h
  exact PCalls.env (E := env) rfl rfl (PCalls.mono awake_calls fun r ⟨y, h1, h2⟩ => by rw [h1, h2]; rfl)
theorem EntryOk.toS {g : FuncId} {e : Entry} (h : EntryOk env g e) : EntryOk envS g e := fun x y hT => PCalls.env (E := env) rfl rfl (h x y hT)
def T72 (_N : Nat) : List UInt8 × List UInt8 → Option (List UInt8) := trimLeftT
def e72 (N : Nat) : Entry := ⟨p2 .str .str, .str, T72 N⟩
theorem T72_ok (N : Nat) : EntryOk envS 72 (e72 N) := EntryOk.toS L72
def T73 (_N : Nat) : Int → Option (List UInt8) := itoaT
def e73 (N : Nat) : Entry := ⟨p1 (.int .i64), .str, T73 N⟩
theorem T73_ok (N : Nat) : EntryOk envS 73 (e73 N) := EntryOk.toS L73
def T100 (_N : Nat) : List UInt8 × List UInt8 → Option Int := countT
def e100 (N : Nat) : Entry := ⟨p2 .str .str, .int .i64, T100 N⟩
theorem T100_ok (N : Nat) : EntryOk envS 100 (e100 N) := EntryOk.toS L100
def T104 (_N : Nat) : List UInt8 × Int → Option (List UInt8) := repeatT
def e104 (N : Nat) : Entry := ⟨p2 .str (.int .i64), .str, T104 N⟩
theorem T104_ok (N : Nat) : EntryOk envS 104 (e104 N) := EntryOk.toS L104
def T127 (_N : Nat) : List (List UInt8) × List UInt8 → Option (List UInt8) := joinT
def e127 (N : Nat) : Entry := ⟨p2 (.list 1 .str) .str, .str, T127 N⟩
theorem T127_ok (N : Nat) : EntryOk envS 127 (e127 N) := EntryOk.toS L127

def c22 : List (Nat × Cert) := [(6, .join [(.norm, ⟨(.cons .bool .nil), [8], [], [], [], []⟩)])]
-- "codend/codendlaw02.text"
noncomputable def T22 (N : Nat) : (List UInt8) × Int × Int × (List UInt8) → Option Bool := (cx N [] [(22, c22)]).fn 1000 22 (.cons .str (.cons (.int .i64) (.cons (.int .i64) (.cons .str .nil)))) .bool
noncomputable def e22 (N : Nat) : Entry := ⟨(.cons .str (.cons (.int .i64) (.cons (.int .i64) (.cons .str .nil)))), .bool, T22 N⟩
theorem T22_ok (N : Nat) : EntryOk envS 22 (e22 N) := Ctx.fn_ok (fun _ _ h => by cases h) (by kernel_rfl) (by kernel_rfl)
theorem T22_eq (N : Nat) (a0 : List UInt8) (a1 : Int) (a2 : Int) (a3 : List UInt8) : T22 N (a0, a1, a2, a3) =
  (((bif (a1 == a2) then (bif (a2 != 0) then (bif (a0 == ([] : List UInt8)) then (some true) else (bif (a2 == 0) then (some (a0 == a3)) else (some false))) else (bif (a2 == 0) then (some (a0 == a3)) else (some false))) else (some false)) : Option Bool).bind fun o1 => some o1) := by kernel_rfl

def c75 : List (Nat × Cert) := [(26, .loop [] ⟨(.cons (.int .i64) .nil), [7], [], [], [], []⟩ [(.ret, ⟨(.cons (.int .i64) .nil), [2], [], [], [], []⟩), (.ex 0, ⟨.nil, [], [], [], [], []⟩)])]
-- "codend/taper.first"
noncomputable def T75 (N : Nat) : (List Int) → Option Int := (cx N [] [(75, c75)]).fn 1000 75 (.cons (.list 1 (.int .i64)) .nil) (.int .i64)
noncomputable def e75 (N : Nat) : Entry := ⟨(.cons (.list 1 (.int .i64)) .nil), (.int .i64), T75 N⟩
theorem T75_ok (N : Nat) : EntryOk envS 75 (e75 N) := Ctx.fn_ok (fun _ _ h => by cases h) (by kernel_rfl) (by kernel_rfl)
noncomputable def R75x26 (N : Nat) (a0 : List Int) (v1 : Int) : Option (Int ⊕ (Int ⊕ Unit)) :=
  (bif (decide (v1 < ((((List.map n23 a0)).length : Nat) : Int))) then bif (decide ((0 : Int) ≤ v1 ∧ v1 < (((List.map n23 a0)).length : Int)) && Pat.fits p23 (nthD (List.map n23 a0) (Int.toNat v1))) then (bif ((d23 (nthD (List.map n23 a0) (Int.toNat v1))) != 0) then (some (Sum.inr (Sum.inl (d23 (nthD (List.map n23 a0) (Int.toNat v1)))))) else (some (Sum.inl (IntKind.wrap .i64 (v1 + 1))))) else none else (some (Sum.inr (Sum.inr ()))))
theorem T75_eq (N : Nat) (a0 : List Int) : T75 N a0 =
  ((loopR (V := Int) (X := Int ⊕ Unit) (R75x26 N a0) N 0).bind fun o6 => (Sum.elim (fun o7 => some o7) (fun o8 => some 0) o6)) := by kernel_rfl

-- "codend/taper.when"
noncomputable def T76 (N : Nat) : Bool × Int → Option Int := (cx N [] []).fn 1000 76 (.cons .bool (.cons (.int .i64) .nil)) (.int .i64)
noncomputable def e76 (N : Nat) : Entry := ⟨(.cons .bool (.cons (.int .i64) .nil)), (.int .i64), T76 N⟩
theorem T76_ok (N : Nat) : EntryOk envS 76 (e76 N) := Ctx.fn_ok (fun _ _ h => by cases h) (by kernel_rfl) (by kernel_rfl)
theorem T76_eq (N : Nat) (a0 : Bool) (a1 : Int) : T76 N (a0, a1) =
  (bif a0 then some a1 else some 0) := by kernel_rfl

def c101 : List (Nat × Cert) := [(6, .join [(.norm, ⟨(.cons (.int .i64) .nil), [6], [], [], [], []⟩)])]
-- "codend/taper.within"
noncomputable def T101 (N : Nat) : Int × Int × Int → Option Int := (cx N [(76, e76 N)] [(101, c101)]).fn 1000 101 (.cons (.int .i64) (.cons (.int .i64) (.cons (.int .i64) .nil))) (.int .i64)
noncomputable def e101 (N : Nat) : Entry := ⟨(.cons (.int .i64) (.cons (.int .i64) (.cons (.int .i64) .nil))), (.int .i64), T101 N⟩
theorem T101_ok (N : Nat) : EntryOk envS 101 (e101 N) := Ctx.fn_ok (tabF_ok (by intro a e h; simp only [List.mem_cons, Prod.mk.injEq, List.not_mem_nil, or_false] at h; rcases h with ⟨rfl, rfl⟩; exact T76_ok N)) (by kernel_rfl) (by kernel_rfl)
theorem T101_eq (N : Nat) (a0 : Int) (a1 : Int) (a2 : Int) : T101 N (a0, a1, a2) =
  (((bif (decide (a0 < a1)) then (T76 N (true, 3)).bind fun y1 => (some y1) else (T76 N ((decide (a0 > a2)), 3)).bind fun y2 => (some y2)) : Option Int).bind fun o3 => some o3) := by kernel_rfl

def c128 : List (Nat × Cert) := [(12, .loop [] ⟨(.cons (.int .i64) (.cons (.int .i64) .nil)), [0, 1], [], [], [], []⟩ [(.ex 0, ⟨(.cons (.int .i64) .nil), [0], [], [], [], []⟩)])]
-- "codend/taper.divisor"
noncomputable def T128 (N : Nat) : Int × Int → Option Int := (cx N [] [(128, c128)]).fn 1000 128 (.cons (.int .i64) (.cons (.int .i64) .nil)) (.int .i64)
noncomputable def e128 (N : Nat) : Entry := ⟨(.cons (.int .i64) (.cons (.int .i64) .nil)), (.int .i64), T128 N⟩
theorem T128_ok (N : Nat) : EntryOk envS 128 (e128 N) := Ctx.fn_ok (fun _ _ h => by cases h) (by kernel_rfl) (by kernel_rfl)
noncomputable def R128x12 (N : Nat) (v1 : Int × Int) : Option ((Int × Int) ⊕ Int) :=
  (bif (v1.2 != 0) then bif !(decide (v1.2 = 0)) then (some (Sum.inl (v1.2, (Int.tmod v1.1 v1.2)))) else none else (some (Sum.inr v1.1)))
theorem T128_eq (N : Nat) (a0 : Int) (a1 : Int) : T128 N (a0, a1) =
  ((loopR (V := Int × Int) (X := Int) (R128x12 N) N (a0, a1)).bind fun o3 => some o3) := by kernel_rfl

-- "codend/taper.checkRatio"
noncomputable def T90 (N : Nat) : (Int × Int) → Option Int := (cx N [(75, e75 N), (76, e76 N), (101, e101 N), (128, e128 N)] []).fn 1000 90 (.cons (.agg (.cons (.int .i64) (.cons (.int .i64) .nil))) .nil) (.int .i64)
noncomputable def e90 (N : Nat) : Entry := ⟨(.cons (.agg (.cons (.int .i64) (.cons (.int .i64) .nil))) .nil), (.int .i64), T90 N⟩
theorem T90_ok (N : Nat) : EntryOk envS 90 (e90 N) := Ctx.fn_ok (tabF_ok (by intro a e h; simp only [List.mem_cons, Prod.mk.injEq, List.not_mem_nil, or_false] at h; rcases h with ⟨rfl, rfl⟩ | ⟨rfl, rfl⟩ | ⟨rfl, rfl⟩ | ⟨rfl, rfl⟩; exact T75_ok N; exact T76_ok N; exact T101_ok N; exact T128_ok N)) (by kernel_rfl) (by kernel_rfl)
theorem T90_eq (N : Nat) (a0 : Int × Int) : T90 N a0 =
  (T101 N (a0.1, 0, 999999999)).bind fun y1 => bif ((a0.2 == a0.2) && true) then (T101 N (a0.2, 1, 999999999)).bind fun y2 => ((bif (allFit (Pat.fits p23) [(AV.int .i64 y1), (AV.int .i64 y2)] && true) then some (List.map d23 [(AV.int .i64 y1), (AV.int .i64 y2)]) else none : Option ((List Int))).bind fun x4 => (T75 N x4).bind fun y3 => (bif (y3 != 0) then some y3 else (T128 N (a0.1, a0.2)).bind fun y5 => (T76 N ((y5 != 1), 1)).bind fun y6 => some y6)) else none := by kernel_rfl

-- "codend/taper.lowest"
noncomputable def T118 (N : Nat) : Int × Int → Option ((Int × Int)) := (cx N [(128, e128 N)] []).fn 1000 118 (.cons (.int .i64) (.cons (.int .i64) .nil)) (.agg (.cons (.int .i64) (.cons (.int .i64) .nil)))
noncomputable def e118 (N : Nat) : Entry := ⟨(.cons (.int .i64) (.cons (.int .i64) .nil)), (.agg (.cons (.int .i64) (.cons (.int .i64) .nil))), T118 N⟩
theorem T118_ok (N : Nat) : EntryOk envS 118 (e118 N) := Ctx.fn_ok (tabF_ok (by intro a e h; simp only [List.mem_cons, Prod.mk.injEq, List.not_mem_nil, or_false] at h; rcases h with ⟨rfl, rfl⟩; exact T128_ok N)) (by kernel_rfl) (by kernel_rfl)
theorem T118_eq (N : Nat) (a0 : Int) (a1 : Int) : T118 N (a0, a1) =
  (T128 N (a0, a1)).bind fun y1 => bif !(decide (y1 = 0)) then bif !(decide (y1 = 0)) then some ((IntKind.wrap .i64 (Int.tdiv a0 y1)), (IntKind.wrap .i64 (Int.tdiv a1 y1))) else none else none := by kernel_rfl

-- "codend/taper.share"
noncomputable def T91 (N : Nat) : (Int × Int) → Option ((Int × Int)) := (cx N [(118, e118 N)] []).fn 1000 91 (.cons (.agg (.cons (.int .i64) (.cons (.int .i64) .nil))) .nil) (.agg (.cons (.int .i64) (.cons (.int .i64) .nil)))
noncomputable def e91 (N : Nat) : Entry := ⟨(.cons (.agg (.cons (.int .i64) (.cons (.int .i64) .nil))) .nil), (.agg (.cons (.int .i64) (.cons (.int .i64) .nil))), T91 N⟩
theorem T91_ok (N : Nat) : EntryOk envS 91 (e91 N) := Ctx.fn_ok (tabF_ok (by intro a e h; simp only [List.mem_cons, Prod.mk.injEq, List.not_mem_nil, or_false] at h; rcases h with ⟨rfl, rfl⟩; exact T118_ok N)) (by kernel_rfl) (by kernel_rfl)
theorem T91_eq (N : Nat) (a0 : Int × Int) : T91 N a0 =
  (T118 N ((IntKind.wrap .i64 (2 * (if a0.2 < a0.1 then a0.2 else a0.1))), (IntKind.wrap .i64 (a0.1 + a0.2)))).bind fun y1 => some (y1.1, y1.2) := by kernel_rfl

-- "codend/taper.Share"
noncomputable def T28 (N : Nat) : (Int × Int) → Option ((Int × Int) × Int) := (cx N [(90, e90 N), (91, e91 N)] []).fn 1000 28 (.cons (.agg (.cons (.int .i64) (.cons (.int .i64) .nil))) .nil) (.tup (.cons (.agg (.cons (.int .i64) (.cons (.int .i64) .nil))) (.cons (.int .i64) .nil)))
noncomputable def e28 (N : Nat) : Entry := ⟨(.cons (.agg (.cons (.int .i64) (.cons (.int .i64) .nil))) .nil), (.tup (.cons (.agg (.cons (.int .i64) (.cons (.int .i64) .nil))) (.cons (.int .i64) .nil))), T28 N⟩
theorem T28_ok (N : Nat) : EntryOk envS 28 (e28 N) := Ctx.fn_ok (tabF_ok (by intro a e h; simp only [List.mem_cons, Prod.mk.injEq, List.not_mem_nil, or_false] at h; rcases h with ⟨rfl, rfl⟩ | ⟨rfl, rfl⟩; exact T90_ok N; exact T91_ok N)) (by kernel_rfl) (by kernel_rfl)
theorem T28_eq (N : Nat) (a0 : Int × Int) : T28 N a0 =
  (T90 N (a0.1, a0.2)).bind fun y1 => (bif (y1 != 0) then some ((0, 0), y1) else (T91 N (a0.1, a0.2)).bind fun y2 => (bif (decide ((if y2.2 > y2.1 then y2.2 else y2.1) > 999999999)) then some ((0, 0), 4) else some ((y2.1, y2.2), 0))) := by kernel_rfl

def c86 : List (Nat × Cert) := [(122, .loop [(.slot 9, 1, 9)] ⟨(.cons (.own 0 1 .str) (.cons (.int .i64) .nil)), [9, 16], [], [], [.tok 0 1 9], []⟩ [(.ex 0, ⟨(.cons (.own 0 1 .str) .nil), [9], [], [], [.tok 0 1 9], []⟩)]),
  (1958, .join [(.norm, ⟨(.cons (.own 0 1 .str) .nil), [9], [], [], [.tok 0 1 9], []⟩)])]
-- "codend/taper.spread"
noncomputable def T86 (N : Nat) : (List UInt8) × Int × (List UInt8) × Int → Option ((List UInt8)) := (cx N [(127, e127 N)] [(86, c86)]).fn 1000 86 (.cons .str (.cons (.int .i64) (.cons .str (.cons (.int .i64) .nil)))) .str
noncomputable def e86 (N : Nat) : Entry := ⟨(.cons .str (.cons (.int .i64) (.cons .str (.cons (.int .i64) .nil)))), .str, T86 N⟩
theorem T86_ok (N : Nat) : EntryOk envS 86 (e86 N) := Ctx.fn_ok (tabF_ok (by intro a e h; simp only [List.mem_cons, Prod.mk.injEq, List.not_mem_nil, or_false] at h; rcases h with ⟨rfl, rfl⟩; exact T127_ok N)) (by kernel_rfl) (by kernel_rfl)
noncomputable def R86x122 (N : Nat) (a0 : List UInt8) (a1 : Int) (a2 : List UInt8) (a3 : Int) (v1 : (List (List UInt8)) × Int) : Option (((List (List UInt8)) × Int) ⊕ (((List (List UInt8))))) :=
  (bif (decide (v1.2 < (IntKind.wrap .i64 (a1 + a3)))) then ((bif !(decide ((IntKind.wrap .i64 (a1 + a3)) = 0)) then bif !(decide ((IntKind.wrap .i64 (a1 + a3)) = 0)) then (bif (decide ((IntKind.wrap .i64 (Int.tdiv (IntKind.wrap .i64 ((IntKind.wrap .i64 (v1.2 + 1)) * a1)) (IntKind.wrap .i64 (a1 + a3)))) > (IntKind.wrap .i64 (Int.tdiv (IntKind.wrap .i64 (v1.2 * a1)) (IntKind.wrap .i64 (a1 + a3)))))) then bif (decide ((((List.map n9 v1.1)).length) = ((List.map n9 v1.1)).length) && decide ((((List.map n9 v1.1)).length + 1) * 16 ≤ 140737488355328)) then ((bif (allFit (Pat.fits p9) ((List.map n9 v1.1) ++ [(AV.str a0)]) && true) then some (List.map d9 ((List.map n9 v1.1) ++ [(AV.str a0)])) else none : Option ((List (List UInt8)))).bind fun w2 => bif (decide (((((List.map n9 v1.1)).length) + 1) = (List.map n9 w2).length) && true) then some w2 else none) else none else bif (decide ((((List.map n9 v1.1)).length) = ((List.map n9 v1.1)).length) && decide ((((List.map n9 v1.1)).length + 1) * 16 ≤ 140737488355328)) then ((bif (allFit (Pat.fits p9) ((List.map n9 v1.1) ++ [(AV.str a2)]) && true) then some (List.map d9 ((List.map n9 v1.1) ++ [(AV.str a2)])) else none : Option ((List (List UInt8)))).bind fun w3 => bif (decide (((((List.map n9 v1.1)).length) + 1) = (List.map n9 w3).length) && true) then some w3 else none) else none) else none else none : Option (((List (List UInt8))))).bind fun o4 => (((bif (allFit (Pat.fits p9) (List.map n9 o4) && true) then some ((List.map d9 (List.map n9 o4)), (IntKind.wrap .i64 (v1.2 + 1))) else none : Option ((List (List UInt8)) × Int)).bind fun w5 => bif (decide ((((List.map n9 o4)).length) = (List.map n9 w5.1).length) && true) then some w5 else none).bind fun u6 => some (Sum.inl u6))) else (((bif (allFit (Pat.fits p9) (List.map n9 v1.1) && true) then some (List.map d9 (List.map n9 v1.1)) else none : Option ((List (List UInt8)))).bind fun w7 => bif (decide ((((List.map n9 v1.1)).length) = (List.map n9 w7).length) && true) then some w7 else none).bind fun u8 => some (Sum.inr u8)))
theorem T86_eq (N : Nat) (a0 : List UInt8) (a1 : Int) (a2 : List UInt8) (a3 : Int) : T86 N (a0, a1, a2, a3) =
  (((bif (allFit (Pat.fits p9) ([] : List AV) && true) then some ((List.map d9 ([] : List AV)), 0) else none : Option ((List (List UInt8)) × Int)).bind fun w9 => bif (decide (0 = (List.map n9 w9.1).length) && true) then some w9 else none).bind fun x13 => (loopR (V := (List (List UInt8)) × Int) (X := ((List (List UInt8)))) (R86x122 N a0 a1 a2 a3) N x13).bind fun o10 => ((bif (allFit (Pat.fits p9) (List.map n9 o10) && true) then some ((List.map d9 (List.map n9 o10)), ([] : List UInt8)) else none : Option ((List (List UInt8)) × (List UInt8))).bind fun x12 => (T127 N x12).bind fun y11 => some y11)) := by kernel_rfl

def c92 : List (Nat × Cert) := [(29, .join [(.norm, ⟨(.cons .str .nil), [5], [], [], [], []⟩)])]
-- "(codend/taper.Part).word"
noncomputable def T92 (N : Nat) : (Int × Int) × (Int × Int) → Option ((List UInt8)) := (cx N [(86, e86 N)] [(92, c92)]).fn 1000 92 (.cons (.agg (.cons (.int .i64) (.cons (.int .i64) .nil))) (.cons (.agg (.cons (.int .i64) (.cons (.int .i64) .nil))) .nil)) .str
noncomputable def e92 (N : Nat) : Entry := ⟨(.cons (.agg (.cons (.int .i64) (.cons (.int .i64) .nil))) (.cons (.agg (.cons (.int .i64) (.cons (.int .i64) .nil))) .nil)), .str, T92 N⟩
theorem T92_ok (N : Nat) : EntryOk envS 92 (e92 N) := Ctx.fn_ok (tabF_ok (by intro a e h; simp only [List.mem_cons, Prod.mk.injEq, List.not_mem_nil, or_false] at h; rcases h with ⟨rfl, rfl⟩; exact T86_ok N)) (by kernel_rfl) (by kernel_rfl)
theorem T92_eq (N : Nat) (a0 : Int × Int) (a1 : Int × Int) : T92 N (a0, a1) =
  (((bif (decide (a1.1 > a1.2)) then (some ([84] : List UInt8)) else (some ([78] : List UInt8))) : Option (((List UInt8)))).bind fun o1 => (T86 N (([66] : List UInt8), a0.1, o1, (IntKind.wrap .i64 (a0.2 - a0.1)))).bind fun y2 => some y2) := by kernel_rfl

-- "codend/taper.Exact"
noncomputable def T29 (N : Nat) : (Int × Int) → Option ((List UInt8) × Int) := (cx N [(90, e90 N), (91, e91 N), (92, e92 N)] []).fn 1000 29 (.cons (.agg (.cons (.int .i64) (.cons (.int .i64) .nil))) .nil) (.tup (.cons .str (.cons (.int .i64) .nil)))
noncomputable def e29 (N : Nat) : Entry := ⟨(.cons (.agg (.cons (.int .i64) (.cons (.int .i64) .nil))) .nil), (.tup (.cons .str (.cons (.int .i64) .nil))), T29 N⟩
theorem T29_ok (N : Nat) : EntryOk envS 29 (e29 N) := Ctx.fn_ok (tabF_ok (by intro a e h; simp only [List.mem_cons, Prod.mk.injEq, List.not_mem_nil, or_false] at h; rcases h with ⟨rfl, rfl⟩ | ⟨rfl, rfl⟩ | ⟨rfl, rfl⟩; exact T90_ok N; exact T91_ok N; exact T92_ok N)) (by kernel_rfl) (by kernel_rfl)
theorem T29_eq (N : Nat) (a0 : Int × Int) : T29 N a0 =
  (T90 N (a0.1, a0.2)).bind fun y1 => (bif (y1 != 0) then some (([] : List UInt8), y1) else (T91 N (a0.1, a0.2)).bind fun y2 => (bif (decide (y2.2 > 64)) then some (([] : List UInt8), 26) else (T92 N ((y2.1, y2.2), (a0.1, a0.2))).bind fun y3 => some (y3, 0))) := by kernel_rfl

def c62 : List (Nat × Cert) := [(12, .loop [] ⟨(.cons (.int .i64) (.cons (.int .i64) .nil)), [0, 1], [], [], [], []⟩ [(.ex 0, ⟨(.cons (.int .i64) .nil), [0], [], [], [], []⟩)])]
-- "codend/codendref02.Gcd"
noncomputable def T62 (N : Nat) : Int × Int → Option Int := (cx N [] [(62, c62)]).fn 1000 62 (.cons (.int .i64) (.cons (.int .i64) .nil)) (.int .i64)
noncomputable def e62 (N : Nat) : Entry := ⟨(.cons (.int .i64) (.cons (.int .i64) .nil)), (.int .i64), T62 N⟩
theorem T62_ok (N : Nat) : EntryOk envS 62 (e62 N) := Ctx.fn_ok (fun _ _ h => by cases h) (by kernel_rfl) (by kernel_rfl)
noncomputable def R62x12 (N : Nat) (v1 : Int × Int) : Option ((Int × Int) ⊕ Int) :=
  (bif (v1.2 != 0) then bif !(decide (v1.2 = 0)) then (some (Sum.inl (v1.2, (Int.tmod v1.1 v1.2)))) else none else (some (Sum.inr v1.1)))
theorem T62_eq (N : Nat) (a0 : Int) (a1 : Int) : T62 N (a0, a1) =
  ((loopR (V := Int × Int) (X := Int) (R62x12 N) N (a0, a1)).bind fun o3 => some o3) := by kernel_rfl

def c30 : List (Nat × Cert) := [(12, .join [(.norm, ⟨(.cons .bool .nil), [20], [], [], [], []⟩)])]
-- "codend/codendref02.CheckRatio"
noncomputable def T30 (N : Nat) : (Int × Int) → Option Int := (cx N [(62, e62 N)] [(30, c30)]).fn 1000 30 (.cons (.agg (.cons (.int .i64) (.cons (.int .i64) .nil))) .nil) (.int .i64)
noncomputable def e30 (N : Nat) : Entry := ⟨(.cons (.agg (.cons (.int .i64) (.cons (.int .i64) .nil))) .nil), (.int .i64), T30 N⟩
theorem T30_ok (N : Nat) : EntryOk envS 30 (e30 N) := Ctx.fn_ok (tabF_ok (by intro a e h; simp only [List.mem_cons, Prod.mk.injEq, List.not_mem_nil, or_false] at h; rcases h with ⟨rfl, rfl⟩; exact T62_ok N)) (by kernel_rfl) (by kernel_rfl)
theorem T30_eq (N : Nat) (a0 : Int × Int) : T30 N a0 =
  (((bif (decide (a0.1 < 0)) then (some true) else (bif (decide (a0.1 > 999999999)) then (some true) else (bif (decide (a0.2 < 1)) then (some true) else (some (decide (a0.2 > 999999999)))))) : Option Bool).bind fun o1 => (bif o1 then some 3 else (T62 N (a0.1, a0.2)).bind fun y2 => (bif (y2 != 1) then some 1 else some 0))) := by kernel_rfl

-- "codend/codendref02.Steep"
noncomputable def T93 (N : Nat) : (Int × Int) → Option Bool := (cx N [] []).fn 1000 93 (.cons (.agg (.cons (.int .i64) (.cons (.int .i64) .nil))) .nil) .bool
noncomputable def e93 (N : Nat) : Entry := ⟨(.cons (.agg (.cons (.int .i64) (.cons (.int .i64) .nil))) .nil), .bool, T93 N⟩
theorem T93_ok (N : Nat) : EntryOk envS 93 (e93 N) := Ctx.fn_ok (fun _ _ h => by cases h) (by kernel_rfl) (by kernel_rfl)
theorem T93_eq (N : Nat) (a0 : Int × Int) : T93 N a0 =
  some (decide (a0.1 > a0.2)) := by kernel_rfl

-- "codend/codendref02.Lowest"
noncomputable def T94 (N : Nat) : Int × Int → Option ((Int × Int)) := (cx N [(62, e62 N)] []).fn 1000 94 (.cons (.int .i64) (.cons (.int .i64) .nil)) (.agg (.cons (.int .i64) (.cons (.int .i64) .nil)))
noncomputable def e94 (N : Nat) : Entry := ⟨(.cons (.int .i64) (.cons (.int .i64) .nil)), (.agg (.cons (.int .i64) (.cons (.int .i64) .nil))), T94 N⟩
theorem T94_ok (N : Nat) : EntryOk envS 94 (e94 N) := Ctx.fn_ok (tabF_ok (by intro a e h; simp only [List.mem_cons, Prod.mk.injEq, List.not_mem_nil, or_false] at h; rcases h with ⟨rfl, rfl⟩; exact T62_ok N)) (by kernel_rfl) (by kernel_rfl)
theorem T94_eq (N : Nat) (a0 : Int) (a1 : Int) : T94 N (a0, a1) =
  (T62 N (a0, a1)).bind fun y1 => bif !(decide (y1 = 0)) then bif !(decide (y1 = 0)) then some ((IntKind.wrap .i64 (Int.tdiv a0 y1)), (IntKind.wrap .i64 (Int.tdiv a1 y1))) else none else none := by kernel_rfl

-- "codend/codendref02.Share"
noncomputable def T31 (N : Nat) : (Int × Int) → Option ((Int × Int)) := (cx N [(93, e93 N), (94, e94 N)] []).fn 1000 31 (.cons (.agg (.cons (.int .i64) (.cons (.int .i64) .nil))) .nil) (.agg (.cons (.int .i64) (.cons (.int .i64) .nil)))
noncomputable def e31 (N : Nat) : Entry := ⟨(.cons (.agg (.cons (.int .i64) (.cons (.int .i64) .nil))) .nil), (.agg (.cons (.int .i64) (.cons (.int .i64) .nil))), T31 N⟩
theorem T31_ok (N : Nat) : EntryOk envS 31 (e31 N) := Ctx.fn_ok (tabF_ok (by intro a e h; simp only [List.mem_cons, Prod.mk.injEq, List.not_mem_nil, or_false] at h; rcases h with ⟨rfl, rfl⟩ | ⟨rfl, rfl⟩; exact T93_ok N; exact T94_ok N)) (by kernel_rfl) (by kernel_rfl)
theorem T31_eq (N : Nat) (a0 : Int × Int) : T31 N a0 =
  (T93 N (a0.1, a0.2)).bind fun y1 => (bif y1 then (T94 N ((IntKind.wrap .i64 (2 * a0.2)), (IntKind.wrap .i64 (a0.1 + a0.2)))).bind fun y2 => some (y2.1, y2.2) else (T94 N ((IntKind.wrap .i64 (2 * a0.1)), (IntKind.wrap .i64 (a0.1 + a0.2)))).bind fun y3 => some (y3.1, y3.2)) := by kernel_rfl

def c27 : List (Nat × Cert) := [(58, .loop [] ⟨(.cons .str (.cons (.int .i64) .nil)), [9, 10], [], [], [], []⟩ [(.ex 0, ⟨(.cons .str .nil), [9], [], [], [], []⟩)]),
  (466, .join [(.norm, ⟨(.cons .str .nil), [9], [], [], [], []⟩)])]
-- "codend/codendref02.Mix"
noncomputable def T27 (N : Nat) : (List UInt8) × Int × (List UInt8) × Int → Option ((List UInt8)) := (cx N [] [(27, c27)]).fn 1000 27 (.cons .str (.cons (.int .i64) (.cons .str (.cons (.int .i64) .nil)))) .str
noncomputable def e27 (N : Nat) : Entry := ⟨(.cons .str (.cons (.int .i64) (.cons .str (.cons (.int .i64) .nil)))), .str, T27 N⟩
theorem T27_ok (N : Nat) : EntryOk envS 27 (e27 N) := Ctx.fn_ok (fun _ _ h => by cases h) (by kernel_rfl) (by kernel_rfl)
noncomputable def R27x58 (N : Nat) (a0 : List UInt8) (a1 : Int) (a2 : List UInt8) (a3 : Int) (v1 : (List UInt8) × Int) : Option (((List UInt8) × Int) ⊕ (((List UInt8)))) :=
  (bif (decide (v1.2 < (IntKind.wrap .i64 (a1 + a3)))) then ((bif !(decide ((IntKind.wrap .i64 (a1 + a3)) = 0)) then bif !(decide ((IntKind.wrap .i64 (a1 + a3)) = 0)) then (bif (decide ((IntKind.wrap .i64 (Int.tdiv (IntKind.wrap .i64 ((IntKind.wrap .i64 (v1.2 + 1)) * a1)) (IntKind.wrap .i64 (a1 + a3)))) > (IntKind.wrap .i64 (Int.tdiv (IntKind.wrap .i64 (v1.2 * a1)) (IntKind.wrap .i64 (a1 + a3)))))) then bif decide ((v1.1).length + (a0).length ≤ 9223372036854775807) then (some (v1.1 ++ a0)) else none else bif decide ((v1.1).length + (a2).length ≤ 9223372036854775807) then (some (v1.1 ++ a2)) else none) else none else none : Option (((List UInt8)))).bind fun o2 => (some (Sum.inl (o2, (IntKind.wrap .i64 (v1.2 + 1)))))) else (some (Sum.inr v1.1)))
theorem T27_eq (N : Nat) (a0 : List UInt8) (a1 : Int) (a2 : List UInt8) (a3 : Int) : T27 N (a0, a1, a2, a3) =
  ((loopR (V := (List UInt8) × Int) (X := ((List UInt8))) (R27x58 N a0 a1 a2 a3) N (([] : List UInt8), 0)).bind fun o4 => some o4) := by kernel_rfl

-- "codend/codendref02.Word"
noncomputable def T32 (N : Nat) : (Int × Int) × (Int × Int) → Option ((List UInt8)) := (cx N [(27, e27 N), (93, e93 N)] []).fn 1000 32 (.cons (.agg (.cons (.int .i64) (.cons (.int .i64) .nil))) (.cons (.agg (.cons (.int .i64) (.cons (.int .i64) .nil))) .nil)) .str
noncomputable def e32 (N : Nat) : Entry := ⟨(.cons (.agg (.cons (.int .i64) (.cons (.int .i64) .nil))) (.cons (.agg (.cons (.int .i64) (.cons (.int .i64) .nil))) .nil)), .str, T32 N⟩
theorem T32_ok (N : Nat) : EntryOk envS 32 (e32 N) := Ctx.fn_ok (tabF_ok (by intro a e h; simp only [List.mem_cons, Prod.mk.injEq, List.not_mem_nil, or_false] at h; rcases h with ⟨rfl, rfl⟩ | ⟨rfl, rfl⟩; exact T27_ok N; exact T93_ok N)) (by kernel_rfl) (by kernel_rfl)
theorem T32_eq (N : Nat) (a0 : Int × Int) (a1 : Int × Int) : T32 N (a0, a1) =
  (T93 N (a0.1, a0.2)).bind fun y1 => (bif y1 then (T27 N (([66] : List UInt8), a1.1, ([84] : List UInt8), (IntKind.wrap .i64 (a1.2 - a1.1)))).bind fun y2 => some y2 else (T27 N (([66] : List UInt8), a1.1, ([78] : List UInt8), (IntKind.wrap .i64 (a1.2 - a1.1)))).bind fun y3 => some y3) := by kernel_rfl

def c33 : List (Nat × Cert) := [(6, .join [(.norm, ⟨(.cons .bool .nil), [8], [], [], [], []⟩)])]
-- "codend/codendlaw02.ratio"
noncomputable def T33 (N : Nat) : (Int × Int) × Int × Int × (Int × Int) → Option Bool := (cx N [] [(33, c33)]).fn 1000 33 (.cons (.agg (.cons (.int .i64) (.cons (.int .i64) .nil))) (.cons (.int .i64) (.cons (.int .i64) (.cons (.agg (.cons (.int .i64) (.cons (.int .i64) .nil))) .nil)))) .bool
noncomputable def e33 (N : Nat) : Entry := ⟨(.cons (.agg (.cons (.int .i64) (.cons (.int .i64) .nil))) (.cons (.int .i64) (.cons (.int .i64) (.cons (.agg (.cons (.int .i64) (.cons (.int .i64) .nil))) .nil)))), .bool, T33 N⟩
theorem T33_ok (N : Nat) : EntryOk envS 33 (e33 N) := Ctx.fn_ok (fun _ _ h => by cases h) (by kernel_rfl) (by kernel_rfl)
theorem T33_eq (N : Nat) (a0 : Int × Int) (a1 : Int) (a2 : Int) (a3 : Int × Int) : T33 N (a0, a1, a2, a3) =
  (((bif (a1 == a2) then (bif (a2 != 0) then (bif ((a0.1 == 0) && ((a0.2 == 0) && true)) then (some true) else (bif (a2 == 0) then (some ((a0.1 == a3.1) && ((a0.2 == a3.2) && true))) else (some false))) else (bif (a2 == 0) then (some ((a0.1 == a3.1) && ((a0.2 == a3.2) && true))) else (some false))) else (some false)) : Option Bool).bind fun o1 => some o1) := by kernel_rfl

def c5 : List (Nat × Cert) := [(2045, .join [(.norm, ⟨(.cons (.int .i64) (.cons (.int .i64) (.cons .str (.cons (.int .i64) (.cons (.int .i64) .nil))))), [8, 9, 11], [], [(10, 2)], [], []⟩)]),
  (2046, .join [(.norm, ⟨(.cons .bool .nil), [2], [], [], [], []⟩)]),
  (32725, .join [(.norm, ⟨(.cons (.int .i64) (.cons .str .nil)), [9, 11], [], [], [], []⟩)]),
  (32726, .join [(.norm, ⟨(.cons .bool .nil), [49], [], [], [], []⟩)])]
-- "codend/codendlaw02.TaperShares"
noncomputable def T5 (N : Nat) : (Int × Int) → Option Bool := (cx N [(15, e15 N), (22, e22 N), (28, e28 N), (29, e29 N), (30, e30 N), (31, e31 N), (32, e32 N), (33, e33 N)] [(5, c5)]).fn 1000 5 (.cons (.agg (.cons (.int .i64) (.cons (.int .i64) .nil))) .nil) .bool
noncomputable def e5 (N : Nat) : Entry := ⟨(.cons (.agg (.cons (.int .i64) (.cons (.int .i64) .nil))) .nil), .bool, T5 N⟩
theorem T5_ok (N : Nat) : EntryOk envS 5 (e5 N) := Ctx.fn_ok (tabF_ok (by intro a e h; simp only [List.mem_cons, Prod.mk.injEq, List.not_mem_nil, or_false] at h; rcases h with ⟨rfl, rfl⟩ | ⟨rfl, rfl⟩ | ⟨rfl, rfl⟩ | ⟨rfl, rfl⟩ | ⟨rfl, rfl⟩ | ⟨rfl, rfl⟩ | ⟨rfl, rfl⟩ | ⟨rfl, rfl⟩; exact T15_ok N; exact T22_ok N; exact T28_ok N; exact T29_ok N; exact T30_ok N; exact T31_ok N; exact T32_ok N; exact T33_ok N)) (by kernel_rfl) (by kernel_rfl)
theorem T5_eq (N : Nat) (a0 : Int × Int) : T5 N a0 =
  (T15 N ()).bind fun y1 => (bif (!y1) then some false else (T28 N (a0.1, a0.2)).bind fun y2 => (T29 N (a0.1, a0.2)).bind fun y3 => (T30 N (a0.1, a0.2)).bind fun y4 => (((bif (y4 == 0) then (T31 N (a0.1, a0.2)).bind fun y5 => (((bif (decide (y5.2 > 64)) then (some (26, ([] : List UInt8))) else (T32 N ((a0.1, a0.2), (y5.1, y5.2))).bind fun y6 => (some (y4, y6))) : Option ((Int × (List UInt8)))).bind fun o7 => (((bif (decide (y5.1 > 999999999)) then (some true) else (some (decide (y5.2 > 999999999)))) : Option Bool).bind fun o8 => (bif o8 then (some (4, o7.1, o7.2, y5.1, y5.2)) else (some (y4, o7.1, o7.2, y5.1, y5.2))))) else (some (y4, y4, ([] : List UInt8), 0, 0))) : Option ((Int × Int × (List UInt8) × Int × Int))).bind fun o9 => (((T33 N ((y2.1.1, y2.1.2), y2.2, o9.1, (o9.2.2.2.1, o9.2.2.2.2))).bind fun y10 => (bif y10 then (T22 N (y3.1, y3.2, o9.2.1, o9.2.2.1)).bind fun y11 => (some y11) else (some false)) : Option Bool).bind fun o12 => some o12))) := by kernel_rfl

def c148 : List (Nat × Cert) := [(26, .loop [] ⟨(.cons (.int .i64) .nil), [8], [], [], [], []⟩ [(.ret, ⟨(.cons (.int .i64) .nil), [4], [], [], [], []⟩), (.ex 0, ⟨.nil, [], [], [], [], []⟩)])]
-- "slices.Index[[]string,string]"
noncomputable def T148 (N : Nat) : (List (List UInt8)) × (List UInt8) → Option Int := (cx N [] [(148, c148)]).fn 1000 148 (.cons (.list 1 .str) (.cons .str .nil)) (.int .i64)
noncomputable def e148 (N : Nat) : Entry := ⟨(.cons (.list 1 .str) (.cons .str .nil)), (.int .i64), T148 N⟩
theorem T148_ok (N : Nat) : EntryOk envS 148 (e148 N) := Ctx.fn_ok (fun _ _ h => by cases h) (by kernel_rfl) (by kernel_rfl)
noncomputable def R148x26 (N : Nat) (a0 : List (List UInt8)) (a1 : List UInt8) (v1 : Int) : Option (Int ⊕ (Int ⊕ Unit)) :=
  (bif (decide (v1 < ((((List.map n9 a0)).length : Nat) : Int))) then bif (decide ((0 : Int) ≤ v1 ∧ v1 < (((List.map n9 a0)).length : Int)) && Pat.fits p9 (nthD (List.map n9 a0) (Int.toNat v1))) then (bif (a1 == (d9 (nthD (List.map n9 a0) (Int.toNat v1)))) then (some (Sum.inr (Sum.inl v1))) else (some (Sum.inl (IntKind.wrap .i64 (v1 + 1))))) else none else (some (Sum.inr (Sum.inr ()))))
theorem T148_eq (N : Nat) (a0 : List (List UInt8)) (a1 : List UInt8) : T148 N (a0, a1) =
  ((loopR (V := Int) (X := Int ⊕ Unit) (R148x26 N a0 a1) N 0).bind fun o6 => (Sum.elim (fun o7 => some o7) (fun o8 => some (-1)) o6)) := by kernel_rfl

-- "slices.Contains[[]string,string]"
noncomputable def T126 (N : Nat) : (List (List UInt8)) × (List UInt8) → Option Bool := (cx N [(148, e148 N)] []).fn 1000 126 (.cons (.list 1 .str) (.cons .str .nil)) .bool
noncomputable def e126 (N : Nat) : Entry := ⟨(.cons (.list 1 .str) (.cons .str .nil)), .bool, T126 N⟩
theorem T126_ok (N : Nat) : EntryOk envS 126 (e126 N) := Ctx.fn_ok (tabF_ok (by intro a e h; simp only [List.mem_cons, Prod.mk.injEq, List.not_mem_nil, or_false] at h; rcases h with ⟨rfl, rfl⟩; exact T148_ok N)) (by kernel_rfl) (by kernel_rfl)
theorem T126_eq (N : Nat) (a0 : List (List UInt8)) (a1 : List UInt8) : T126 N (a0, a1) =
  ((bif (allFit (Pat.fits p9) (List.map n9 a0) && true) then some ((List.map d9 (List.map n9 a0)), a1) else none : Option ((List (List UInt8)) × (List UInt8))).bind fun x2 => (T148 N x2).bind fun y1 => some (decide (y1 ≥ 0))) := by kernel_rfl

-- "codend/taper.checkLetter"
noncomputable def T84 (N : Nat) : (List UInt8) → Option Int := (cx N [(76, e76 N), (126, e126 N)] []).fn 1000 84 (.cons .str .nil) (.int .i64)
noncomputable def e84 (N : Nat) : Entry := ⟨(.cons .str .nil), (.int .i64), T84 N⟩
theorem T84_ok (N : Nat) : EntryOk envS 84 (e84 N) := Ctx.fn_ok (tabF_ok (by intro a e h; simp only [List.mem_cons, Prod.mk.injEq, List.not_mem_nil, or_false] at h; rcases h with ⟨rfl, rfl⟩ | ⟨rfl, rfl⟩; exact T76_ok N; exact T126_ok N)) (by kernel_rfl) (by kernel_rfl)
theorem T84_eq (N : Nat) (a0 : List UInt8) : T84 N a0 =
  ((bif (allFit (Pat.fits p9) [(AV.str ([78] : List UInt8)), (AV.str ([66] : List UInt8)), (AV.str ([84] : List UInt8))] && true) then some ((List.map d9 [(AV.str ([78] : List UInt8)), (AV.str ([66] : List UInt8)), (AV.str ([84] : List UInt8))]), a0) else none : Option ((List (List UInt8)) × (List UInt8))).bind fun x2 => (T126 N x2).bind fun y1 => (T76 N ((!y1), 1)).bind fun y3 => some y3) := by kernel_rfl

-- "codend/taper.checkTimes"
noncomputable def T85 (N : Nat) : Int → Option Int := (cx N [(101, e101 N)] []).fn 1000 85 (.cons (.int .i64) .nil) (.int .i64)
noncomputable def e85 (N : Nat) : Entry := ⟨(.cons (.int .i64) .nil), (.int .i64), T85 N⟩
theorem T85_ok (N : Nat) : EntryOk envS 85 (e85 N) := Ctx.fn_ok (tabF_ok (by intro a e h; simp only [List.mem_cons, Prod.mk.injEq, List.not_mem_nil, or_false] at h; rcases h with ⟨rfl, rfl⟩; exact T101_ok N)) (by kernel_rfl) (by kernel_rfl)
theorem T85_eq (N : Nat) (a0 : Int) : T85 N a0 =
  (T101 N (a0, 0, 64)).bind fun y1 => some y1 := by kernel_rfl

-- "codend/taper.Spread"
noncomputable def T23 (N : Nat) : (List UInt8) × Int × (List UInt8) × Int → Option ((List UInt8) × Int) := (cx N [(75, e75 N), (76, e76 N), (84, e84 N), (85, e85 N), (86, e86 N)] []).fn 1000 23 (.cons .str (.cons (.int .i64) (.cons .str (.cons (.int .i64) .nil)))) (.tup (.cons .str (.cons (.int .i64) .nil)))
noncomputable def e23 (N : Nat) : Entry := ⟨(.cons .str (.cons (.int .i64) (.cons .str (.cons (.int .i64) .nil)))), (.tup (.cons .str (.cons (.int .i64) .nil))), T23 N⟩
theorem T23_ok (N : Nat) : EntryOk envS 23 (e23 N) := Ctx.fn_ok (tabF_ok (by intro a e h; simp only [List.mem_cons, Prod.mk.injEq, List.not_mem_nil, or_false] at h; rcases h with ⟨rfl, rfl⟩ | ⟨rfl, rfl⟩ | ⟨rfl, rfl⟩ | ⟨rfl, rfl⟩ | ⟨rfl, rfl⟩; exact T75_ok N; exact T76_ok N; exact T84_ok N; exact T85_ok N; exact T86_ok N)) (by kernel_rfl) (by kernel_rfl)
theorem T23_eq (N : Nat) (a0 : List UInt8) (a1 : Int) (a2 : List UInt8) (a3 : Int) : T23 N (a0, a1, a2, a3) =
  (T84 N a0).bind fun y1 => (T85 N a1).bind fun y2 => (T84 N a2).bind fun y3 => (T85 N a3).bind fun y4 => (T76 N ((a0 == a2), 9)).bind fun y5 => ((bif (allFit (Pat.fits p23) [(AV.int .i64 y1), (AV.int .i64 y2), (AV.int .i64 y3), (AV.int .i64 y4), (AV.int .i64 y5)] && true) then some (List.map d23 [(AV.int .i64 y1), (AV.int .i64 y2), (AV.int .i64 y3), (AV.int .i64 y4), (AV.int .i64 y5)]) else none : Option ((List Int))).bind fun x7 => (T75 N x7).bind fun y6 => (bif (y6 != 0) then some (([] : List UInt8), y6) else (T76 N (((IntKind.wrap .i64 (a1 + a3)) == 0), 12)).bind fun y8 => (T76 N ((decide ((IntKind.wrap .i64 (a1 + a3)) > 64)), 26)).bind fun y9 => ((bif (allFit (Pat.fits p23) [(AV.int .i64 y8), (AV.int .i64 y9)] && true) then some (List.map d23 [(AV.int .i64 y8), (AV.int .i64 y9)]) else none : Option ((List Int))).bind fun x11 => (T75 N x11).bind fun y10 => (bif (y10 != 0) then some (([] : List UInt8), y10) else (T86 N (a0, a1, a2, a3)).bind fun y12 => some (y12, 0))))) := by kernel_rfl

def c83 : List (Nat × Cert) := [(6, .join [(.norm, ⟨(.cons .bool .nil), [2], [], [], [], []⟩)])]
-- "codend/taper.isLetter"
noncomputable def T83 (N : Nat) : Int → Option Bool := (cx N [] [(83, c83)]).fn 1000 83 (.cons (.int .i32) .nil) .bool
noncomputable def e83 (N : Nat) : Entry := ⟨(.cons (.int .i32) .nil), .bool, T83 N⟩
theorem T83_ok (N : Nat) : EntryOk envS 83 (e83 N) := Ctx.fn_ok (fun _ _ h => by cases h) (by kernel_rfl) (by kernel_rfl)
theorem T83_eq (N : Nat) (a0 : Int) : T83 N a0 =
  (((bif (a0 == 78) then (some true) else (bif (a0 == 66) then (some true) else (some (a0 == 84)))) : Option Bool).bind fun o1 => some o1) := by kernel_rfl

def c21 : List (Nat × Cert) := [(58, .loop [] ⟨(.cons .str (.cons (.int .i64) .nil)), [], [], [], [.sit], []⟩ [(.ex 0, ⟨(.cons .str (.cons (.int .i64) .nil)), [], [], [], [.sit], []⟩), (.ret, ⟨(.cons (.int .i64) (.cons .str (.cons (.int .i64) .nil))), [2], [], [], [.sit], []⟩)])]
-- "codend/taper.CheckWord"
noncomputable def T21 (N : Nat) : (List UInt8) → Option Int := (cx N [(75, e75 N), (76, e76 N), (83, e83 N)] [(21, c21)]).fn 1000 21 (.cons .str .nil) (.int .i64)
noncomputable def e21 (N : Nat) : Entry := ⟨(.cons .str .nil), (.int .i64), T21 N⟩
theorem T21_ok (N : Nat) : EntryOk envS 21 (e21 N) := Ctx.fn_ok (tabF_ok (by intro a e h; simp only [List.mem_cons, Prod.mk.injEq, List.not_mem_nil, or_false] at h; rcases h with ⟨rfl, rfl⟩ | ⟨rfl, rfl⟩ | ⟨rfl, rfl⟩; exact T75_ok N; exact T76_ok N; exact T83_ok N)) (by kernel_rfl) (by kernel_rfl)
noncomputable def R21x58 (N : Nat) (v5 : (List UInt8) × Int) : Option (((List UInt8) × Int) ⊕ (((List UInt8) × Int) ⊕ (Int × (List UInt8) × Int))) :=
  (bif Nat.blt (Int.toNat v5.2) (List.length v5.1) then (T83 N (((decodeA v5.1 (Int.toNat v5.2)).1 : Nat) : Int)).bind fun y6 => (bif (!y6) then (some (Sum.inr (Sum.inr (1, v5.1, ((((Int.toNat v5.2) + (decodeA v5.1 (Int.toNat v5.2)).2) : Nat) : Int))))) else (some (Sum.inl (v5.1, ((((Int.toNat v5.2) + (decodeA v5.1 (Int.toNat v5.2)).2) : Nat) : Int))))) else (some (Sum.inr (Sum.inl (v5.1, (((Int.toNat v5.2) : Nat) : Int))))))
theorem T21_eq (N : Nat) (a0 : List UInt8) : T21 N a0 =
  (T76 N ((a0 == ([] : List UInt8)), 12)).bind fun y1 => (T76 N ((decide ((((a0).length : Nat) : Int) > 64)), 26)).bind fun y2 => ((bif (allFit (Pat.fits p23) [(AV.int .i64 y1), (AV.int .i64 y2)] && true) then some (List.map d23 [(AV.int .i64 y1), (AV.int .i64 y2)]) else none : Option ((List Int))).bind fun x4 => (T75 N x4).bind fun y3 => (bif (y3 != 0) then some y3 else ((loopR (V := (List UInt8) × Int) (X := ((List UInt8) × Int) ⊕ (Int × (List UInt8) × Int)) (R21x58 N) N (a0, ((0 : Nat) : Int))).bind fun o11 => (Sum.elim (fun o12 => some 0) (fun o13 => some o13.1) o11)))) := by kernel_rfl

-- "codend/taper.Mix"
noncomputable def T24 (N : Nat) : (List UInt8) × Int × (List UInt8) × Int → Option ((List UInt8) × Int) := (cx N [(21, e21 N), (75, e75 N), (76, e76 N), (85, e85 N), (86, e86 N)] []).fn 1000 24 (.cons .str (.cons (.int .i64) (.cons .str (.cons (.int .i64) .nil)))) (.tup (.cons .str (.cons (.int .i64) .nil)))
noncomputable def e24 (N : Nat) : Entry := ⟨(.cons .str (.cons (.int .i64) (.cons .str (.cons (.int .i64) .nil)))), (.tup (.cons .str (.cons (.int .i64) .nil))), T24 N⟩
theorem T24_ok (N : Nat) : EntryOk envS 24 (e24 N) := Ctx.fn_ok (tabF_ok (by intro a e h; simp only [List.mem_cons, Prod.mk.injEq, List.not_mem_nil, or_false] at h; rcases h with ⟨rfl, rfl⟩ | ⟨rfl, rfl⟩ | ⟨rfl, rfl⟩ | ⟨rfl, rfl⟩ | ⟨rfl, rfl⟩; exact T21_ok N; exact T75_ok N; exact T76_ok N; exact T85_ok N; exact T86_ok N)) (by kernel_rfl) (by kernel_rfl)
theorem T24_eq (N : Nat) (a0 : List UInt8) (a1 : Int) (a2 : List UInt8) (a3 : Int) : T24 N (a0, a1, a2, a3) =
  (T21 N a0).bind fun y1 => (T85 N a1).bind fun y2 => (T21 N a2).bind fun y3 => (T85 N a3).bind fun y4 => ((bif (allFit (Pat.fits p23) [(AV.int .i64 y1), (AV.int .i64 y2), (AV.int .i64 y3), (AV.int .i64 y4)] && true) then some (List.map d23 [(AV.int .i64 y1), (AV.int .i64 y2), (AV.int .i64 y3), (AV.int .i64 y4)]) else none : Option ((List Int))).bind fun x6 => (T75 N x6).bind fun y5 => (bif (y5 != 0) then some (([] : List UInt8), y5) else (T76 N (((IntKind.wrap .i64 (a1 + a3)) == 0), 12)).bind fun y7 => (T76 N ((decide ((IntKind.wrap .i64 ((IntKind.wrap .i64 (a1 * (((a0).length : Nat) : Int))) + (IntKind.wrap .i64 (a3 * (((a2).length : Nat) : Int))))) > 64)), 26)).bind fun y8 => ((bif (allFit (Pat.fits p23) [(AV.int .i64 y7), (AV.int .i64 y8)] && true) then some (List.map d23 [(AV.int .i64 y7), (AV.int .i64 y8)]) else none : Option ((List Int))).bind fun x10 => (T75 N x10).bind fun y9 => (bif (y9 != 0) then some (([] : List UInt8), y9) else (T86 N (a0, a1, a2, a3)).bind fun y11 => some (y11, 0))))) := by kernel_rfl

def c67 : List (Nat × Cert) := [(26, .loop [] ⟨(.cons (.int .i64) .nil), [3], [], [], [], []⟩ [(.ret, ⟨(.cons (.int .i64) .nil), [2], [], [], [], []⟩), (.ex 0, ⟨.nil, [], [], [], [], []⟩)])]
-- "codend/codendref02.First"
noncomputable def T67 (N : Nat) : (List Int) → Option Int := (cx N [] [(67, c67)]).fn 1000 67 (.cons (.list 1 (.int .i64)) .nil) (.int .i64)
noncomputable def e67 (N : Nat) : Entry := ⟨(.cons (.list 1 (.int .i64)) .nil), (.int .i64), T67 N⟩
theorem T67_ok (N : Nat) : EntryOk envS 67 (e67 N) := Ctx.fn_ok (fun _ _ h => by cases h) (by kernel_rfl) (by kernel_rfl)
noncomputable def R67x26 (N : Nat) (a0 : List Int) (v1 : Int) : Option (Int ⊕ (Int ⊕ Unit)) :=
  (bif (decide (v1 < ((((List.map n3 a0)).length : Nat) : Int))) then bif (decide ((0 : Int) ≤ v1 ∧ v1 < (((List.map n3 a0)).length : Int)) && Pat.fits p3 (nthD (List.map n3 a0) (Int.toNat v1))) then (bif ((d3 (nthD (List.map n3 a0) (Int.toNat v1))) != 0) then bif (decide ((0 : Int) ≤ v1 ∧ v1 < (((List.map n3 a0)).length : Int)) && Pat.fits p3 (nthD (List.map n3 a0) (Int.toNat v1))) then (some (Sum.inr (Sum.inl (d3 (nthD (List.map n3 a0) (Int.toNat v1)))))) else none else (some (Sum.inl (IntKind.wrap .i64 (v1 + 1))))) else none else (some (Sum.inr (Sum.inr ()))))
theorem T67_eq (N : Nat) (a0 : List Int) : T67 N a0 =
  ((loopR (V := Int) (X := Int ⊕ Unit) (R67x26 N a0) N 0).bind fun o6 => (Sum.elim (fun o7 => some o7) (fun o8 => some 0) o6)) := by kernel_rfl

def c79 : List (Nat × Cert) := [(6, .join [(.norm, ⟨(.cons .bool .nil), [2], [], [], [], []⟩)])]
-- "codend/codendref02.isLetter"
noncomputable def T79 (N : Nat) : Int → Option Bool := (cx N [] [(79, c79)]).fn 1000 79 (.cons (.int .u8) .nil) .bool
noncomputable def e79 (N : Nat) : Entry := ⟨(.cons (.int .u8) .nil), .bool, T79 N⟩
theorem T79_ok (N : Nat) : EntryOk envS 79 (e79 N) := Ctx.fn_ok (fun _ _ h => by cases h) (by kernel_rfl) (by kernel_rfl)
theorem T79_eq (N : Nat) (a0 : Int) : T79 N a0 =
  (((bif (a0 == 78) then (some true) else (bif (a0 == 66) then (some true) else (some (a0 == 84)))) : Option Bool).bind fun o1 => some o1) := by kernel_rfl

def c89 : List (Nat × Cert) := [(12, .join [(.norm, ⟨(.cons .bool .nil), [14], [], [], [], []⟩)])]
-- "codend/codendref02.outside"
noncomputable def T89 (N : Nat) : Int × Int × Int → Option Int := (cx N [] [(89, c89)]).fn 1000 89 (.cons (.int .i64) (.cons (.int .i64) (.cons (.int .i64) .nil))) (.int .i64)
noncomputable def e89 (N : Nat) : Entry := ⟨(.cons (.int .i64) (.cons (.int .i64) (.cons (.int .i64) .nil))), (.int .i64), T89 N⟩
theorem T89_ok (N : Nat) : EntryOk envS 89 (e89 N) := Ctx.fn_ok (fun _ _ h => by cases h) (by kernel_rfl) (by kernel_rfl)
theorem T89_eq (N : Nat) (a0 : Int) (a1 : Int) (a2 : Int) : T89 N (a0, a1, a2) =
  (((bif (decide (a0 < a1)) then (some true) else (some (decide (a0 > a2)))) : Option Bool).bind fun o1 => (bif o1 then some 3 else some 0)) := by kernel_rfl

def c87 : List (Nat × Cert) := [(12, .join [(.norm, ⟨(.cons .bool .nil), [13], [], [], [], []⟩)])]
-- "codend/codendref02.checkLetter"
noncomputable def T87 (N : Nat) : (List UInt8) × Int → Option Int := (cx N [(79, e79 N), (89, e89 N)] [(87, c87)]).fn 1000 87 (.cons .str (.cons (.int .i64) .nil)) (.int .i64)
noncomputable def e87 (N : Nat) : Entry := ⟨(.cons .str (.cons (.int .i64) .nil)), (.int .i64), T87 N⟩
theorem T87_ok (N : Nat) : EntryOk envS 87 (e87 N) := Ctx.fn_ok (tabF_ok (by intro a e h; simp only [List.mem_cons, Prod.mk.injEq, List.not_mem_nil, or_false] at h; rcases h with ⟨rfl, rfl⟩ | ⟨rfl, rfl⟩; exact T79_ok N; exact T89_ok N)) (by kernel_rfl) (by kernel_rfl)
theorem T87_eq (N : Nat) (a0 : List UInt8) (a1 : Int) : T87 N (a0, a1) =
  (((bif ((((a0).length : Nat) : Int) != 1) then (some true) else bif decide ((0 : Int) ≤ 0 ∧ 0 < ((a0).length : Int)) then (T79 N ((((a0).getD (Int.toNat 0) 0).toNat : Nat) : Int)).bind fun y1 => (some (!y1)) else none) : Option Bool).bind fun o2 => (bif o2 then some 1 else (T89 N (a1, 0, 64)).bind fun y3 => some y3)) := by kernel_rfl

-- "codend/codendref02.checkLength"
noncomputable def T88 (N : Nat) : Int × Int × Int × Int → Option Int := (cx N [] []).fn 1000 88 (.cons (.int .i64) (.cons (.int .i64) (.cons (.int .i64) (.cons (.int .i64) .nil)))) (.int .i64)
noncomputable def e88 (N : Nat) : Entry := ⟨(.cons (.int .i64) (.cons (.int .i64) (.cons (.int .i64) (.cons (.int .i64) .nil)))), (.int .i64), T88 N⟩
theorem T88_ok (N : Nat) : EntryOk envS 88 (e88 N) := Ctx.fn_ok (fun _ _ h => by cases h) (by kernel_rfl) (by kernel_rfl)
theorem T88_eq (N : Nat) (a0 : Int) (a1 : Int) (a2 : Int) (a3 : Int) : T88 N (a0, a1, a2, a3) =
  (bif ((IntKind.wrap .i64 (a0 + a1)) == 0) then some 12 else (bif (decide ((IntKind.wrap .i64 ((IntKind.wrap .i64 (a0 * a2)) + (IntKind.wrap .i64 (a1 * a3)))) > 64)) then some 26 else some 0)) := by kernel_rfl

-- "codend/codendref02.CheckSpread"
noncomputable def T25 (N : Nat) : (List UInt8) × Int × (List UInt8) × Int → Option Int := (cx N [(67, e67 N), (87, e87 N), (88, e88 N)] []).fn 1000 25 (.cons .str (.cons (.int .i64) (.cons .str (.cons (.int .i64) .nil)))) (.int .i64)
noncomputable def e25 (N : Nat) : Entry := ⟨(.cons .str (.cons (.int .i64) (.cons .str (.cons (.int .i64) .nil)))), (.int .i64), T25 N⟩
theorem T25_ok (N : Nat) : EntryOk envS 25 (e25 N) := Ctx.fn_ok (tabF_ok (by intro a e h; simp only [List.mem_cons, Prod.mk.injEq, List.not_mem_nil, or_false] at h; rcases h with ⟨rfl, rfl⟩ | ⟨rfl, rfl⟩ | ⟨rfl, rfl⟩; exact T67_ok N; exact T87_ok N; exact T88_ok N)) (by kernel_rfl) (by kernel_rfl)
theorem T25_eq (N : Nat) (a0 : List UInt8) (a1 : Int) (a2 : List UInt8) (a3 : Int) : T25 N (a0, a1, a2, a3) =
  (T87 N (a0, a1)).bind fun y1 => (T87 N (a2, a3)).bind fun y2 => ((bif (allFit (Pat.fits p3) [(AV.int .i64 y1), (AV.int .i64 y2)] && true) then some (List.map d3 [(AV.int .i64 y1), (AV.int .i64 y2)]) else none : Option ((List Int))).bind fun x4 => (T67 N x4).bind fun y3 => (bif (y3 != 0) then some y3 else (bif (a0 == a2) then some 9 else (T88 N (a1, a3, 1, 1)).bind fun y5 => some y5))) := by kernel_rfl

def c18 : List (Nat × Cert) := [(122, .loop [] ⟨(.cons (.int .i64) .nil), [3], [], [], [], []⟩ [(.ret, ⟨(.cons (.int .i64) .nil), [2], [], [], [], []⟩), (.ex 0, ⟨.nil, [], [], [], [], []⟩)])]
-- "codend/codendref02.CheckWord"
noncomputable def T18 (N : Nat) : (List UInt8) → Option Int := (cx N [(79, e79 N)] [(18, c18)]).fn 1000 18 (.cons .str .nil) (.int .i64)
noncomputable def e18 (N : Nat) : Entry := ⟨(.cons .str .nil), (.int .i64), T18 N⟩
theorem T18_ok (N : Nat) : EntryOk envS 18 (e18 N) := Ctx.fn_ok (tabF_ok (by intro a e h; simp only [List.mem_cons, Prod.mk.injEq, List.not_mem_nil, or_false] at h; rcases h with ⟨rfl, rfl⟩; exact T79_ok N)) (by kernel_rfl) (by kernel_rfl)
noncomputable def R18x122 (N : Nat) (a0 : List UInt8) (v1 : Int) : Option (Int ⊕ (Int ⊕ Unit)) :=
  (bif (decide (v1 < (((a0).length : Nat) : Int))) then bif decide ((0 : Int) ≤ v1 ∧ v1 < ((a0).length : Int)) then (T79 N ((((a0).getD (Int.toNat v1) 0).toNat : Nat) : Int)).bind fun y2 => (bif (!y2) then (some (Sum.inr (Sum.inl 1))) else (some (Sum.inl (IntKind.wrap .i64 (v1 + 1))))) else none else (some (Sum.inr (Sum.inr ()))))
theorem T18_eq (N : Nat) (a0 : List UInt8) : T18 N a0 =
  (bif (a0 == ([] : List UInt8)) then some 12 else (bif (decide ((((a0).length : Nat) : Int) > 64)) then some 26 else ((loopR (V := Int) (X := Int ⊕ Unit) (R18x122 N a0) N 0).bind fun o7 => (Sum.elim (fun o8 => some o8) (fun o9 => some 0) o7)))) := by kernel_rfl

-- "codend/codendref02.CheckMix"
noncomputable def T26 (N : Nat) : (List UInt8) × Int × (List UInt8) × Int → Option Int := (cx N [(18, e18 N), (67, e67 N), (88, e88 N), (89, e89 N)] []).fn 1000 26 (.cons .str (.cons (.int .i64) (.cons .str (.cons (.int .i64) .nil)))) (.int .i64)
noncomputable def e26 (N : Nat) : Entry := ⟨(.cons .str (.cons (.int .i64) (.cons .str (.cons (.int .i64) .nil)))), (.int .i64), T26 N⟩
theorem T26_ok (N : Nat) : EntryOk envS 26 (e26 N) := Ctx.fn_ok (tabF_ok (by intro a e h; simp only [List.mem_cons, Prod.mk.injEq, List.not_mem_nil, or_false] at h; rcases h with ⟨rfl, rfl⟩ | ⟨rfl, rfl⟩ | ⟨rfl, rfl⟩ | ⟨rfl, rfl⟩; exact T18_ok N; exact T67_ok N; exact T88_ok N; exact T89_ok N)) (by kernel_rfl) (by kernel_rfl)
theorem T26_eq (N : Nat) (a0 : List UInt8) (a1 : Int) (a2 : List UInt8) (a3 : Int) : T26 N (a0, a1, a2, a3) =
  (T18 N a0).bind fun y1 => (T89 N (a1, 0, 64)).bind fun y2 => (T18 N a2).bind fun y3 => (T89 N (a3, 0, 64)).bind fun y4 => ((bif (allFit (Pat.fits p3) [(AV.int .i64 y1), (AV.int .i64 y2), (AV.int .i64 y3), (AV.int .i64 y4)] && true) then some (List.map d3 [(AV.int .i64 y1), (AV.int .i64 y2), (AV.int .i64 y3), (AV.int .i64 y4)]) else none : Option ((List Int))).bind fun x6 => (T67 N x6).bind fun y5 => (bif (y5 != 0) then some y5 else (T88 N (a1, a3, (((a0).length : Nat) : Int), (((a2).length : Nat) : Int))).bind fun y7 => some y7)) := by kernel_rfl

def c4 : List (Nat × Cert) := [(12, .join [(.norm, ⟨(.cons .bool .nil), [38], [], [], [], []⟩)]),
  (509, .join [(.norm, ⟨(.cons .str .nil), [11], [], [], [], []⟩)]),
  (1021, .join [(.norm, ⟨(.cons .str .nil), [12], [], [], [], []⟩)]),
  (1022, .join [(.norm, ⟨(.cons .bool .nil), [4], [], [], [], []⟩)])]
-- "codend/codendlaw02.TaperSpreads"
noncomputable def T4 (N : Nat) : ((List UInt8) × Int × (List UInt8) × Int) × ((List UInt8) × Int × (List UInt8) × Int) → Option Bool := (cx N [(15, e15 N), (22, e22 N), (23, e23 N), (24, e24 N), (25, e25 N), (26, e26 N), (27, e27 N)] [(4, c4)]).fn 1000 4 (.cons (.agg (.cons .str (.cons (.int .i64) (.cons .str (.cons (.int .i64) .nil))))) (.cons (.agg (.cons .str (.cons (.int .i64) (.cons .str (.cons (.int .i64) .nil))))) .nil)) .bool
noncomputable def e4 (N : Nat) : Entry := ⟨(.cons (.agg (.cons .str (.cons (.int .i64) (.cons .str (.cons (.int .i64) .nil))))) (.cons (.agg (.cons .str (.cons (.int .i64) (.cons .str (.cons (.int .i64) .nil))))) .nil)), .bool, T4 N⟩
theorem T4_ok (N : Nat) : EntryOk envS 4 (e4 N) := Ctx.fn_ok (tabF_ok (by intro a e h; simp only [List.mem_cons, Prod.mk.injEq, List.not_mem_nil, or_false] at h; rcases h with ⟨rfl, rfl⟩ | ⟨rfl, rfl⟩ | ⟨rfl, rfl⟩ | ⟨rfl, rfl⟩ | ⟨rfl, rfl⟩ | ⟨rfl, rfl⟩ | ⟨rfl, rfl⟩; exact T15_ok N; exact T22_ok N; exact T23_ok N; exact T24_ok N; exact T25_ok N; exact T26_ok N; exact T27_ok N)) (by kernel_rfl) (by kernel_rfl)
theorem T4_eq (N : Nat) (a0 : (List UInt8) × Int × (List UInt8) × Int) (a1 : (List UInt8) × Int × (List UInt8) × Int) : T4 N (a0, a1) =
  (((T15 N ()).bind fun y1 => (bif (!y1) then (some true) else (bif (decide ((((a0.1).length : Nat) : Int) > 70)) then (some true) else (bif (decide ((((a0.2.2.1).length : Nat) : Int) > 70)) then (some true) else (bif (decide ((((a1.1).length : Nat) : Int) > 70)) then (some true) else (some (decide ((((a1.2.2.1).length : Nat) : Int) > 70))))))) : Option Bool).bind fun o2 => (bif o2 then (T15 N ()).bind fun y3 => some y3 else (T23 N (a0.1, a0.2.1, a0.2.2.1, a0.2.2.2)).bind fun y4 => (T24 N (a1.1, a1.2.1, a1.2.2.1, a1.2.2.2)).bind fun y5 => (T25 N (a0.1, a0.2.1, a0.2.2.1, a0.2.2.2)).bind fun y6 => bif ((a1.2.2.2 == a1.2.2.2) && ((a1.2.2.1 == a1.2.2.1) && ((a1.2.1 == a1.2.1) && ((a1.1 == a1.1) && true)))) then (T26 N (a1.1, a1.2.1, a1.2.2.1, a1.2.2.2)).bind fun y7 => (((bif (y6 == 0) then (T27 N (a0.1, a0.2.1, a0.2.2.1, a0.2.2.2)).bind fun y8 => (some y8) else (some ([] : List UInt8))) : Option (((List UInt8)))).bind fun o9 => (((bif (y7 == 0) then (T27 N (a1.1, a1.2.1, a1.2.2.1, a1.2.2.2)).bind fun y10 => (some y10) else (some ([] : List UInt8))) : Option (((List UInt8)))).bind fun o11 => (((T22 N (y4.1, y4.2, y6, o9)).bind fun y12 => (bif y12 then (T22 N (y5.1, y5.2, y7, o11)).bind fun y13 => (some y13) else (some false)) : Option Bool).bind fun o14 => some o14))) else none)) := by kernel_rfl

def c16 : List (Nat × Cert) := [(124, .loop [(.row 0 1, 1, 5)] ⟨(.cons .str (.cons (.two .nilp (.ptr 0 0)) (.cons (.own 1 1 (.int .u8)) .nil))), [0], [], [], [.row 2, .tok 2 1 5], []⟩ [(.ex 0, ⟨(.cons (.two .nilp (.ptr 0 0)) (.cons (.own 1 1 (.int .u8)) .nil)), [], [], [], [.row 2, .tok 1 1 5], []⟩)])]
-- "codend/taper.Print"
noncomputable def T16 (N : Nat) : (List UInt8) → Option ((List UInt8) × Int) := (cx N [(21, e21 N), (72, e72 N), (73, e73 N)] [(16, c16)]).fn 1000 16 (.cons .str .nil) (.tup (.cons .str (.cons (.int .i64) .nil)))
noncomputable def e16 (N : Nat) : Entry := ⟨(.cons .str .nil), (.tup (.cons .str (.cons (.int .i64) .nil))), T16 N⟩
theorem T16_ok (N : Nat) : EntryOk envS 16 (e16 N) := Ctx.fn_ok (tabF_ok (by intro a e h; simp only [List.mem_cons, Prod.mk.injEq, List.not_mem_nil, or_false] at h; rcases h with ⟨rfl, rfl⟩ | ⟨rfl, rfl⟩ | ⟨rfl, rfl⟩; exact T21_ok N; exact T72_ok N; exact T73_ok N)) (by kernel_rfl) (by kernel_rfl)
noncomputable def R16x124 (N : Nat) (v2 : (List UInt8) × Bool × (List Int)) : Option (((List UInt8) × Bool × (List Int)) ⊕ ((Bool × (List Int)))) :=
  (bif (!(v2.1 == ([] : List UInt8))) then bif (decide ((0 : Int) ≤ 1 ∧ 1 ≤ ((v2.1).length : Int)) && true) then (T72 N (v2.1, (subA 0 (Int.toNat 1) v2.1))).bind fun y3 => bif (decide ((0 : Int) ≤ 1 ∧ 1 ≤ ((v2.1).length : Int)) && true) then (T73 N (IntKind.wrap .i64 ((((v2.1).length : Nat) : Int) - (((y3).length : Nat) : Int)))).bind fun y4 => bif decide ((y4).length + ((subA 0 (Int.toNat 1) v2.1)).length ≤ 9223372036854775807) then bif ccOk 0 (bif v2.2.1 then AV.ptr 0 0 else AV.nilp) then (bif (decide ((((List.map n5 v2.2.2)).length) = ((List.map n5 v2.2.2)).length) && decide ((((List.map n5 v2.2.2)).length + List.length (List.map byteA (y4 ++ (subA 0 (Int.toNat 1) v2.1)))) * 1 ≤ 140737488355328)) then (((bif (allFit (Pat.fits p5) ((List.map n5 v2.2.2) ++ (List.map byteA (y4 ++ (subA 0 (Int.toNat 1) v2.1)))) && true) then some (y3, true, (List.map d5 ((List.map n5 v2.2.2) ++ (List.map byteA (y4 ++ (subA 0 (Int.toNat 1) v2.1)))))) else none : Option ((List UInt8) × Bool × (List Int))).bind fun w5 => bif (decide (((((List.map n5 v2.2.2)).length) + List.length (List.map byteA (y4 ++ (subA 0 (Int.toNat 1) v2.1)))) = (List.map n5 w5.2.2).length) && true) then some w5 else none).bind fun u6 => some (Sum.inl u6)) else none) else none else none else none else none else (((bif ((sameA (bif v2.2.1 then AV.ptr 0 0 else AV.nilp) AV.nilp || sameA (bif v2.2.1 then AV.ptr 0 0 else AV.nilp) (AV.ptr 0 0)) && (allFit (Pat.fits p5) (List.map n5 v2.2.2) && true)) then some ((sameA (bif v2.2.1 then AV.ptr 0 0 else AV.nilp) (AV.ptr 0 0)), (List.map d5 (List.map n5 v2.2.2))) else none : Option (Bool × (List Int))).bind fun w7 => bif (decide ((((List.map n5 v2.2.2)).length) = (List.map n5 w7.2).length) && true) then some w7 else none).bind fun u8 => some (Sum.inr u8)))
theorem T16_eq (N : Nat) (a0 : List UInt8) : T16 N a0 =
  (T21 N a0).bind fun y1 => (bif (y1 != 0) then some (([] : List UInt8), y1) else (((bif (allFit (Pat.fits p5) ([] : List AV) && true) then some (a0, false, (List.map d5 ([] : List AV))) else none : Option ((List UInt8) × Bool × (List Int))).bind fun w9 => bif (decide (0 = (List.map n5 w9.2.2).length) && true) then some w9 else none).bind fun x11 => (loopR (V := (List UInt8) × Bool × (List Int)) (X := (Bool × (List Int))) (R16x124 N) N x11).bind fun o10 => bif (!List.isEmpty (List.map n5 o10.2) && decide ((((List.map n5 o10.2)).length) = List.length (List.map n5 o10.2)) && byteOk (List.map n5 o10.2)) then some ((bytesD (List.map n5 o10.2)), 0) else none)) := by kernel_rfl

def c77 : List (Nat × Cert) := [(26, .loop [] ⟨(.cons (.int .i64) (.cons .str (.cons (.int .i64) .nil))), [2], [], [], [.sit], []⟩ [(.ex 0, ⟨(.cons .str (.cons (.int .i64) .nil)), [], [], [], [.sit], []⟩), (.ret, ⟨(.cons (.int .i64) (.cons (.int .i32) (.cons (.int .i64) (.cons .str (.cons (.int .i64) .nil))))), [2, 3, 4], [], [], [.sit], []⟩)]),
  (1690, .join [(.norm, ⟨(.cons .bool (.cons .str (.cons (.int .i64) .nil))), [7], [], [], [.sit], []⟩)]),
  (6764, .join [(.norm, ⟨(.cons .bool (.cons .str (.cons (.int .i64) .nil))), [20], [], [], [.sit], []⟩)]),
  (27062, .join [(.norm, ⟨(.cons .bool (.cons .str (.cons (.int .i64) .nil))), [40], [], [], [.sit], []⟩)])]
-- "codend/taper.run"
noncomputable def T77 (N : Nat) : (List UInt8) → Option (Int × Int × Int) := (cx N [(83, e83 N)] [(77, c77)]).fn 1000 77 (.cons .str .nil) (.tup (.cons (.int .i64) (.cons (.int .i32) (.cons (.int .i64) .nil))))
noncomputable def e77 (N : Nat) : Entry := ⟨(.cons .str .nil), (.tup (.cons (.int .i64) (.cons (.int .i32) (.cons (.int .i64) .nil)))), T77 N⟩
theorem T77_ok (N : Nat) : EntryOk envS 77 (e77 N) := Ctx.fn_ok (tabF_ok (by intro a e h; simp only [List.mem_cons, Prod.mk.injEq, List.not_mem_nil, or_false] at h; rcases h with ⟨rfl, rfl⟩; exact T83_ok N)) (by kernel_rfl) (by kernel_rfl)
noncomputable def R77x26 (N : Nat) (v1 : Int × (List UInt8) × Int) : Option ((Int × (List UInt8) × Int) ⊕ (((List UInt8) × Int) ⊕ (Int × Int × Int × (List UInt8) × Int))) :=
  (bif Nat.blt (Int.toNat v1.2.2) (List.length v1.2.1) then (((bif (decide ((((decodeA v1.2.1 (Int.toNat v1.2.2)).1 : Nat) : Int) ≥ 48)) then (some ((decide ((((decodeA v1.2.1 (Int.toNat v1.2.2)).1 : Nat) : Int) ≤ 57)), v1.2.1, ((((Int.toNat v1.2.2) + (decodeA v1.2.1 (Int.toNat v1.2.2)).2) : Nat) : Int))) else (some (false, v1.2.1, ((((Int.toNat v1.2.2) + (decodeA v1.2.1 (Int.toNat v1.2.2)).2) : Nat) : Int)))) : Option ((Bool × (List UInt8) × Int))).bind fun o2 => (((bif o2.1 then (bif (decide ((((Int.toNat v1.2.2) : Nat) : Int) < 2)) then (bif (decide ((((Int.toNat v1.2.2) : Nat) : Int) > 0)) then (some (true, o2.2.1, (((Int.toNat o2.2.2) : Nat) : Int))) else (some (((((decodeA v1.2.1 (Int.toNat v1.2.2)).1 : Nat) : Int) != 48), o2.2.1, (((Int.toNat o2.2.2) : Nat) : Int)))) else (some (false, o2.2.1, (((Int.toNat o2.2.2) : Nat) : Int)))) else (some (false, o2.2.1, (((Int.toNat o2.2.2) : Nat) : Int)))) : Option ((Bool × (List UInt8) × Int))).bind fun o3 => (bif o3.1 then (some (Sum.inl ((IntKind.wrap .i64 ((IntKind.wrap .i64 (10 * v1.1)) + (IntKind.wrap .i64 (IntKind.wrap .i32 ((((decodeA v1.2.1 (Int.toNat v1.2.2)).1 : Nat) : Int) - 48))))), o3.2.1, (((Int.toNat o3.2.2) : Nat) : Int)))) else (((bif (decide ((((Int.toNat v1.2.2) : Nat) : Int) > 0)) then (T83 N (((decodeA v1.2.1 (Int.toNat v1.2.2)).1 : Nat) : Int)).bind fun y4 => (some (y4, o3.2.1, (((Int.toNat o3.2.2) : Nat) : Int))) else (some (false, o3.2.1, (((Int.toNat o3.2.2) : Nat) : Int)))) : Option ((Bool × (List UInt8) × Int))).bind fun o5 => (bif o5.1 then (some (Sum.inr (Sum.inr (v1.1, (((decodeA v1.2.1 (Int.toNat v1.2.2)).1 : Nat) : Int), (IntKind.wrap .i64 ((((Int.toNat v1.2.2) : Nat) : Int) + 1)), o5.2.1, (((Int.toNat o5.2.2) : Nat) : Int))))) else (some (Sum.inr (Sum.inr (0, 0, 0, o5.2.1, (((Int.toNat o5.2.2) : Nat) : Int)))))))))) else (some (Sum.inr (Sum.inl (v1.2.1, (((Int.toNat v1.2.2) : Nat) : Int))))))
theorem T77_eq (N : Nat) (a0 : List UInt8) : T77 N a0 =
  ((loopR (V := Int × (List UInt8) × Int) (X := ((List UInt8) × Int) ⊕ (Int × Int × Int × (List UInt8) × Int)) (R77x26 N) N (0, a0, ((0 : Nat) : Int))).bind fun o12 => (Sum.elim (fun o13 => some (0, 0, 0)) (fun o14 => some (o14.1, o14.2.1, o14.2.2.1)) o12)) := by kernel_rfl

def c78 : List (Nat × Cert) := [(58, .loop [(.slot 5, 1, 21)] ⟨(.cons (.own 0 1 (.int .i32)) (.cons (.int .i64) .nil)), [5, 7], [], [], [.tok 0 1 21], []⟩ [(.ex 0, ⟨(.cons (.own 0 1 (.int .i32)) .nil), [5], [], [], [.tok 0 1 21], []⟩)])]
-- "codend/taper.repeated[rune]"
noncomputable def T78 (N : Nat) : Int × Int → Option ((List Int)) := (cx N [] [(78, c78)]).fn 1000 78 (.cons (.int .i32) (.cons (.int .i64) .nil)) (.list 1 (.int .i32))
noncomputable def e78 (N : Nat) : Entry := ⟨(.cons (.int .i32) (.cons (.int .i64) .nil)), (.list 1 (.int .i32)), T78 N⟩
theorem T78_ok (N : Nat) : EntryOk envS 78 (e78 N) := Ctx.fn_ok (fun _ _ h => by cases h) (by kernel_rfl) (by kernel_rfl)
noncomputable def R78x58 (N : Nat) (a0 : Int) (a1 : Int) (v1 : (List Int) × Int) : Option (((List Int) × Int) ⊕ (((List Int)))) :=
  (bif (decide (v1.2 < a1)) then bif (decide ((((List.map n21 v1.1)).length) = ((List.map n21 v1.1)).length) && decide ((((List.map n21 v1.1)).length + 1) * 4 ≤ 140737488355328)) then (((bif (allFit (Pat.fits p21) ((List.map n21 v1.1) ++ [(AV.int .i32 a0)]) && true) then some ((List.map d21 ((List.map n21 v1.1) ++ [(AV.int .i32 a0)])), (IntKind.wrap .i64 (v1.2 + 1))) else none : Option ((List Int) × Int)).bind fun w2 => bif (decide (((((List.map n21 v1.1)).length) + 1) = (List.map n21 w2.1).length) && true) then some w2 else none).bind fun u3 => some (Sum.inl u3)) else none else (((bif (allFit (Pat.fits p21) (List.map n21 v1.1) && true) then some (List.map d21 (List.map n21 v1.1)) else none : Option ((List Int))).bind fun w4 => bif (decide ((((List.map n21 v1.1)).length) = (List.map n21 w4).length) && true) then some w4 else none).bind fun u5 => some (Sum.inr u5)))
theorem T78_eq (N : Nat) (a0 : Int) (a1 : Int) : T78 N (a0, a1) =
  (((bif (allFit (Pat.fits p21) ([] : List AV) && true) then some ((List.map d21 ([] : List AV)), 0) else none : Option ((List Int) × Int)).bind fun w6 => bif (decide (0 = (List.map n21 w6.1).length) && true) then some w6 else none).bind fun x8 => (loopR (V := (List Int) × Int) (X := ((List Int))) (R78x58 N a0 a1) N x8).bind fun o7 => (bif allFit (Pat.fits p21) (List.map n21 o7) then some (List.map d21 (List.map n21 o7)) else none)) := by kernel_rfl

def c17 : List (Nat × Cert) := [(122, .loop [] ⟨(.cons .str (.cons (.int .i64) .nil)), [6, 7], [], [], [], []⟩ [(.ret, ⟨(.cons .str (.cons (.int .i64) (.cons (.int .i64) .nil))), [2, 3, 4], [], [], [], []⟩), (.ex 0, ⟨(.cons .str .nil), [6], [], [], [], []⟩)])]
-- "codend/taper.Parse"
noncomputable def T17 (N : Nat) : (List UInt8) → Option ((List UInt8) × Int × Int) := (cx N [(75, e75 N), (76, e76 N), (77, e77 N), (78, e78 N)] [(17, c17)]).fn 1000 17 (.cons .str .nil) (.tup (.cons .str (.cons (.int .i64) (.cons (.int .i64) .nil))))
noncomputable def e17 (N : Nat) : Entry := ⟨(.cons .str .nil), (.tup (.cons .str (.cons (.int .i64) (.cons (.int .i64) .nil)))), T17 N⟩
theorem T17_ok (N : Nat) : EntryOk envS 17 (e17 N) := Ctx.fn_ok (tabF_ok (by intro a e h; simp only [List.mem_cons, Prod.mk.injEq, List.not_mem_nil, or_false] at h; rcases h with ⟨rfl, rfl⟩ | ⟨rfl, rfl⟩ | ⟨rfl, rfl⟩ | ⟨rfl, rfl⟩; exact T75_ok N; exact T76_ok N; exact T77_ok N; exact T78_ok N)) (by kernel_rfl) (by kernel_rfl)
noncomputable def R17x122 (N : Nat) (a0 : List UInt8) (v5 : (List UInt8) × Int) : Option (((List UInt8) × Int) ⊕ (((List UInt8) × Int × Int) ⊕ ((List UInt8)))) :=
  (bif (decide (v5.2 < (((a0).length : Nat) : Int))) then bif decide ((0 : Int) ≤ v5.2 ∧ v5.2 ≤ (((a0).length : Nat) : Int)) then (T77 N (subA (Int.toNat v5.2) (a0).length a0)).bind fun y6 => (T76 N ((y6.2.2 == 0), 25)).bind fun y7 => (T76 N ((decide ((IntKind.wrap .i64 ((((v5.1).length : Nat) : Int) + y6.1)) > 64)), 26)).bind fun y8 => ((bif (allFit (Pat.fits p23) [(AV.int .i64 y7), (AV.int .i64 y8)] && true) then some (List.map d23 [(AV.int .i64 y7), (AV.int .i64 y8)]) else none : Option ((List Int))).bind fun x10 => (T75 N x10).bind fun y9 => (bif (y9 != 0) then (some (Sum.inr (Sum.inl (([] : List UInt8), v5.2, y9)))) else (T78 N (y6.2.1, y6.1)).bind fun y13 => bif allFit (Pat.fits (.int .i32)) (List.map n21 y13) then bif decide ((v5.1).length + ((runesD (List.map n21 y13))).length ≤ 9223372036854775807) then (some (Sum.inl ((v5.1 ++ (runesD (List.map n21 y13))), (IntKind.wrap .i64 (v5.2 + y6.2.2))))) else none else none)) else none else (some (Sum.inr (Sum.inr v5.1))))
theorem T17_eq (N : Nat) (a0 : List UInt8) : T17 N a0 =
  (T76 N ((a0 == ([] : List UInt8)), 12)).bind fun y1 => (T76 N ((decide ((((a0).length : Nat) : Int) > 4096)), 26)).bind fun y2 => ((bif (allFit (Pat.fits p23) [(AV.int .i64 y1), (AV.int .i64 y2)] && true) then some (List.map d23 [(AV.int .i64 y1), (AV.int .i64 y2)]) else none : Option ((List Int))).bind fun x4 => (T75 N x4).bind fun y3 => (bif (y3 != 0) then some (([] : List UInt8), 0, y3) else ((loopR (V := (List UInt8) × Int) (X := ((List UInt8) × Int × Int) ⊕ ((List UInt8))) (R17x122 N a0) N (([] : List UInt8), 0)).bind fun o16 => (Sum.elim (fun o17 => some (o17.1, o17.2.1, o17.2.2)) (fun o18 => some (o18, 0, 0)) o16)))) := by kernel_rfl

def c80 : List (Nat × Cert) := [(6, .join [(.norm, ⟨(.cons .bool .nil), [2], [], [], [], []⟩)])]
-- "codend/codendref02.isDigit"
noncomputable def T80 (N : Nat) : Int → Option Bool := (cx N [] [(80, c80)]).fn 1000 80 (.cons (.int .u8) .nil) .bool
noncomputable def e80 (N : Nat) : Entry := ⟨(.cons (.int .u8) .nil), .bool, T80 N⟩
theorem T80_ok (N : Nat) : EntryOk envS 80 (e80 N) := Ctx.fn_ok (fun _ _ h => by cases h) (by kernel_rfl) (by kernel_rfl)
theorem T80_eq (N : Nat) (a0 : Int) : T80 N a0 =
  (((bif (decide (a0 ≥ 48)) then (some (decide (a0 ≤ 57))) else (some false)) : Option Bool).bind fun o1 => some o1) := by kernel_rfl

def c81 : List (Nat × Cert) := [(12, .join [(.norm, ⟨(.cons .bool .nil), [22], [], [], [], []⟩)]),
  (122, .loop [] ⟨(.cons (.int .i64) (.cons (.int .i64) .nil)), [3, 4], [], [], [], []⟩ [(.ret, ⟨(.cons (.int .i64) .nil), [2], [], [], [], []⟩), (.ex 0, ⟨(.cons (.int .i64) .nil), [3], [], [], [], []⟩)]),
  (7824, .join [(.norm, ⟨(.cons .bool .nil), [38], [], [], [], []⟩)])]
-- "codend/codendref01.Number"
noncomputable def T81 (N : Nat) : (List UInt8) → Option Int := (cx N [] [(81, c81)]).fn 1000 81 (.cons .str .nil) (.int .i64)
noncomputable def e81 (N : Nat) : Entry := ⟨(.cons .str .nil), (.int .i64), T81 N⟩
theorem T81_ok (N : Nat) : EntryOk envS 81 (e81 N) := Ctx.fn_ok (fun _ _ h => by cases h) (by kernel_rfl) (by kernel_rfl)
noncomputable def R81x122 (N : Nat) (a0 : List UInt8) (v2 : Int × Int) : Option ((Int × Int) ⊕ (Int ⊕ Int)) :=
  (bif (decide (v2.2 < (((a0).length : Nat) : Int))) then ((bif decide ((0 : Int) ≤ v2.2 ∧ v2.2 < ((a0).length : Int)) then (bif (decide (((((a0).getD (Int.toNat v2.2) 0).toNat : Nat) : Int) < 48)) then (some true) else bif decide ((0 : Int) ≤ v2.2 ∧ v2.2 < ((a0).length : Int)) then (some (decide (((((a0).getD (Int.toNat v2.2) 0).toNat : Nat) : Int) > 57))) else none) else none : Option Bool).bind fun o3 => (bif o3 then (some (Sum.inr (Sum.inl (-1)))) else bif decide ((0 : Int) ≤ v2.2 ∧ v2.2 < ((a0).length : Int)) then (some (Sum.inl ((IntKind.wrap .i64 ((IntKind.wrap .i64 (10 * v2.1)) + (IntKind.wrap .i64 (IntKind.wrap .u8 (((((a0).getD (Int.toNat v2.2) 0).toNat : Nat) : Int) - 48))))), (IntKind.wrap .i64 (v2.2 + 1))))) else none)) else (some (Sum.inr (Sum.inr v2.1))))
theorem T81_eq (N : Nat) (a0 : List UInt8) : T81 N a0 =
  (((bif ((((a0).length : Nat) : Int) == 0) then (some true) else (bif (decide ((((a0).length : Nat) : Int) > 9)) then (some true) else (bif (decide ((((a0).length : Nat) : Int) > 1)) then bif decide ((0 : Int) ≤ 0 ∧ 0 < ((a0).length : Int)) then (some (((((a0).getD (Int.toNat 0) 0).toNat : Nat) : Int) == 48)) else none else (some false)))) : Option Bool).bind fun o1 => (bif o1 then some (-1) else ((loopR (V := Int × Int) (X := Int ⊕ Int) (R81x122 N a0) N (0, 0)).bind fun o8 => (Sum.elim (fun o9 => some o9) (fun o10 => some o10) o8)))) := by kernel_rfl

def c19 : List (Nat × Cert) := [(250, .loop [] ⟨(.cons .str (.cons (.int .i64) .nil)), [5, 6], [], [], [], []⟩ [(.ret, ⟨(.cons .str (.cons (.int .i64) (.cons (.int .i64) .nil))), [2, 3, 4], [], [], [], []⟩), (.ex 0, ⟨(.cons .str .nil), [5], [], [], [], []⟩)]),
  (16020, .loop [] ⟨(.cons (.int .i64) .nil), [7], [], [], [], []⟩ [(.ex 2, ⟨(.cons (.int .i64) .nil), [7], [], [], [], []⟩)]),
  (32044, .join [(.norm, ⟨(.cons .bool .nil), [59], [], [], [], []⟩)]),
  (128160, .join [(.norm, ⟨(.cons .bool .nil), [35], [], [], [], []⟩)]),
  (512762, .loop [] ⟨(.cons .str (.cons (.int .i64) .nil)), [5, 9], [], [], [], []⟩ [(.ex 4, ⟨(.cons .str .nil), [5], [], [], [], []⟩)])]
-- "codend/codendref02.Parse"
noncomputable def T19 (N : Nat) : (List UInt8) → Option ((List UInt8) × Int × Int) := (cx N [(79, e79 N), (80, e80 N), (81, e81 N)] [(19, c19)]).fn 1000 19 (.cons .str .nil) (.tup (.cons .str (.cons (.int .i64) (.cons (.int .i64) .nil))))
noncomputable def e19 (N : Nat) : Entry := ⟨(.cons .str .nil), (.tup (.cons .str (.cons (.int .i64) (.cons (.int .i64) .nil)))), T19 N⟩
theorem T19_ok (N : Nat) : EntryOk envS 19 (e19 N) := Ctx.fn_ok (tabF_ok (by intro a e h; simp only [List.mem_cons, Prod.mk.injEq, List.not_mem_nil, or_false] at h; rcases h with ⟨rfl, rfl⟩ | ⟨rfl, rfl⟩ | ⟨rfl, rfl⟩; exact T79_ok N; exact T80_ok N; exact T81_ok N)) (by kernel_rfl) (by kernel_rfl)
noncomputable def R19x16020 (N : Nat) (a0 : List UInt8) (v1 : (List UInt8) × Int) (v2 : Int) : Option (Int ⊕ Int) :=
  (((bif (decide (v2 < (((a0).length : Nat) : Int))) then (bif (decide (v2 < (IntKind.wrap .i64 (v1.2 + 2)))) then bif decide ((0 : Int) ≤ v2 ∧ v2 < ((a0).length : Int)) then (T80 N ((((a0).getD (Int.toNat v2) 0).toNat : Nat) : Int)).bind fun y3 => (some y3) else none else (some false)) else (some false)) : Option Bool).bind fun o4 => (bif o4 then (some (Sum.inl (IntKind.wrap .i64 (v2 + 1)))) else (some (Sum.inr v2))))
noncomputable def R19x512762 (N : Nat) (a0 : List UInt8) (o6 : Int) (y11 : Int) (v14 : (List UInt8) × Int) : Option (((List UInt8) × Int) ⊕ (((List UInt8)))) :=
  (bif (decide (v14.2 < y11)) then bif (decide ((0 : Int) ≤ (IntKind.wrap .i64 (o6 + 1)) ∧ (IntKind.wrap .i64 (o6 + 1)) ≤ ((a0).length : Int)) && decide ((0 : Int) ≤ o6 ∧ o6 ≤ (((Int.toNat (IntKind.wrap .i64 (o6 + 1))) : Nat) : Int))) then bif decide ((v14.1).length + ((subA (Int.toNat o6) (Int.toNat (IntKind.wrap .i64 (o6 + 1))) a0)).length ≤ 9223372036854775807) then (some (Sum.inl ((v14.1 ++ (subA (Int.toNat o6) (Int.toNat (IntKind.wrap .i64 (o6 + 1))) a0)), (IntKind.wrap .i64 (v14.2 + 1))))) else none else none else (some (Sum.inr v14.1)))
noncomputable def R19x250 (N : Nat) (a0 : List UInt8) (v1 : (List UInt8) × Int) : Option (((List UInt8) × Int) ⊕ (((List UInt8) × Int × Int) ⊕ ((List UInt8)))) :=
  (bif (decide (v1.2 < (((a0).length : Nat) : Int))) then ((loopR (V := Int) (X := Int) (R19x16020 N a0 v1) N v1.2).bind fun o6 => (((bif (o6 == v1.2) then (some true) else bif decide ((0 : Int) ≤ v1.2 ∧ v1.2 < ((a0).length : Int)) then (bif (((((a0).getD (Int.toNat v1.2) 0).toNat : Nat) : Int) == 48) then (some true) else (bif (o6 == (((a0).length : Nat) : Int)) then (some true) else bif decide ((0 : Int) ≤ o6 ∧ o6 < ((a0).length : Int)) then (T79 N ((((a0).getD (Int.toNat o6) 0).toNat : Nat) : Int)).bind fun y7 => (some (!y7)) else none)) else none) : Option Bool).bind fun o8 => (bif o8 then (some (Sum.inr (Sum.inl (([] : List UInt8), v1.2, 25)))) else bif (decide ((0 : Int) ≤ o6 ∧ o6 ≤ ((a0).length : Int)) && decide ((0 : Int) ≤ v1.2 ∧ v1.2 ≤ (((Int.toNat o6) : Nat) : Int))) then (T81 N (subA (Int.toNat v1.2) (Int.toNat o6) a0)).bind fun y11 => (bif (decide ((IntKind.wrap .i64 ((((v1.1).length : Nat) : Int) + y11)) > 64)) then (some (Sum.inr (Sum.inl (([] : List UInt8), v1.2, 26)))) else ((loopR (V := (List UInt8) × Int) (X := ((List UInt8))) (R19x512762 N a0 o6 y11) N (v1.1, 0)).bind fun o16 => (some (Sum.inl (o16, (IntKind.wrap .i64 (o6 + 1))))))) else none))) else (some (Sum.inr (Sum.inr v1.1))))
theorem T19_eq (N : Nat) (a0 : List UInt8) : T19 N a0 =
  (bif (a0 == ([] : List UInt8)) then some (([] : List UInt8), 0, 12) else (bif (decide ((((a0).length : Nat) : Int) > 4096)) then some (([] : List UInt8), 0, 26) else ((loopR (V := (List UInt8) × Int) (X := ((List UInt8) × Int × Int) ⊕ ((List UInt8))) (R19x250 N a0) N (([] : List UInt8), 0)).bind fun o19 => (Sum.elim (fun o20 => some (o20.1, o20.2.1, o20.2.2)) (fun o21 => some (o21, 0, 0)) o19)))) := by kernel_rfl

-- "codend/codendref01.Text"
noncomputable def T82r (N : Nat) : Nat → Int → Option ((List UInt8))
  | 0 => fun _ => none
  | n + 1 => (cx N [(82, ⟨(.cons (.int .i64) .nil), .str, T82r N n⟩)] []).fn 1000 82 (.cons (.int .i64) .nil) .str
noncomputable def T82 (N : Nat) : Int → Option ((List UInt8)) := T82r N N
noncomputable def e82 (N : Nat) : Entry := ⟨(.cons (.int .i64) .nil), .str, T82 N⟩
theorem T82r_ok (N : Nat) : ∀ n, EntryOk envS 82 ⟨(.cons (.int .i64) .nil), .str, T82r N n⟩
  | 0 => fun _ _ h => by cases h
  | n + 1 => Ctx.fn_ok (tabF_ok (by intro a e h; simp only [List.mem_cons, Prod.mk.injEq, List.not_mem_nil, or_false] at h; rcases h with ⟨rfl, rfl⟩; exact T82r_ok N n)) (by kernel_rfl) (by kernel_rfl)
theorem T82_ok (N : Nat) : EntryOk envS 82 (e82 N) := T82r_ok N N
theorem T82r_eq (N n : Nat) (a0 : Int) : T82r N (n + 1) a0 =
  (bif (decide (a0 < (-9))) then (T82r N n (IntKind.wrap .i64 (Int.tdiv a0 10))).bind fun y1 => (T82r N n (IntKind.wrap .i64 (0 - (Int.tmod a0 10)))).bind fun y2 => bif decide ((y1).length + (y2).length ≤ 9223372036854775807) then some (y1 ++ y2) else none else (bif (decide (a0 < 0)) then (T82r N n (IntKind.wrap .i64 (0 - a0))).bind fun y3 => bif decide ((([45] : List UInt8)).length + (y3).length ≤ 9223372036854775807) then some (([45] : List UInt8) ++ y3) else none else (bif (decide (a0 < 10)) then bif (decide ((0 : Int) ≤ (IntKind.wrap .i64 (a0 + 1)) ∧ (IntKind.wrap .i64 (a0 + 1)) ≤ ((([48, 49, 50, 51, 52, 53, 54, 55, 56, 57] : List UInt8)).length : Int)) && decide ((0 : Int) ≤ a0 ∧ a0 ≤ (((Int.toNat (IntKind.wrap .i64 (a0 + 1))) : Nat) : Int))) then some (subA (Int.toNat a0) (Int.toNat (IntKind.wrap .i64 (a0 + 1))) ([48, 49, 50, 51, 52, 53, 54, 55, 56, 57] : List UInt8)) else none else (T82r N n (IntKind.wrap .i64 (Int.tdiv a0 10))).bind fun y4 => (T82r N n (Int.tmod a0 10)).bind fun y5 => bif decide ((y4).length + (y5).length ≤ 9223372036854775807) then some (y4 ++ y5) else none))) := by kernel_rfl

def c20 : List (Nat × Cert) := [(122, .loop [] ⟨(.cons .str (.cons (.int .i64) (.cons (.int .i64) .nil))), [3, 4, 5], [], [], [], []⟩ [(.ex 0, ⟨(.cons .str .nil), [3], [], [], [], []⟩)]),
  (978, .join [(.norm, ⟨(.cons .str (.cons (.int .i64) .nil)), [3, 4], [], [], [], []⟩)]),
  (7826, .join [(.norm, ⟨(.cons .bool .nil), [28], [], [], [], []⟩)])]
-- "codend/codendref02.Print"
noncomputable def T20 (N : Nat) : (List UInt8) → Option ((List UInt8)) := (cx N [(82, e82 N)] [(20, c20)]).fn 1000 20 (.cons .str .nil) .str
noncomputable def e20 (N : Nat) : Entry := ⟨(.cons .str .nil), .str, T20 N⟩
theorem T20_ok (N : Nat) : EntryOk envS 20 (e20 N) := Ctx.fn_ok (tabF_ok (by intro a e h; simp only [List.mem_cons, Prod.mk.injEq, List.not_mem_nil, or_false] at h; rcases h with ⟨rfl, rfl⟩; exact T82_ok N)) (by kernel_rfl) (by kernel_rfl)
noncomputable def R20x122 (N : Nat) (a0 : List UInt8) (v1 : (List UInt8) × Int × Int) : Option (((List UInt8) × Int × Int) ⊕ (((List UInt8)))) :=
  (bif (decide (v1.2.2 < (((a0).length : Nat) : Int))) then (((((bif ((IntKind.wrap .i64 (v1.2.2 + 1)) == (((a0).length : Nat) : Int)) then (some true) else bif decide ((0 : Int) ≤ (IntKind.wrap .i64 (v1.2.2 + 1)) ∧ (IntKind.wrap .i64 (v1.2.2 + 1)) < ((a0).length : Int)) then bif decide ((0 : Int) ≤ v1.2.2 ∧ v1.2.2 < ((a0).length : Int)) then (some (((((a0).getD (Int.toNat (IntKind.wrap .i64 (v1.2.2 + 1))) 0).toNat : Nat) : Int) != ((((a0).getD (Int.toNat v1.2.2) 0).toNat : Nat) : Int))) else none else none) : Option Bool).bind fun o2 => (bif o2 then bif (decide ((0 : Int) ≤ (IntKind.wrap .i64 (v1.2.2 + 1)) ∧ (IntKind.wrap .i64 (v1.2.2 + 1)) ≤ ((a0).length : Int)) && decide ((0 : Int) ≤ v1.2.2 ∧ v1.2.2 ≤ (((Int.toNat (IntKind.wrap .i64 (v1.2.2 + 1))) : Nat) : Int))) then (T82 N (IntKind.wrap .i64 (v1.2.1 + 1))).bind fun y3 => bif decide ((v1.1).length + (y3).length ≤ 9223372036854775807) then bif decide (((v1.1 ++ y3)).length + ((subA (Int.toNat v1.2.2) (Int.toNat (IntKind.wrap .i64 (v1.2.2 + 1))) a0)).length ≤ 9223372036854775807) then (some (((v1.1 ++ y3) ++ (subA (Int.toNat v1.2.2) (Int.toNat (IntKind.wrap .i64 (v1.2.2 + 1))) a0)), 0)) else none else none else none else (some (v1.1, (IntKind.wrap .i64 (v1.2.1 + 1)))))) : Option (((List UInt8) × Int))).bind fun o4 => (some (Sum.inl (o4.1, o4.2, (IntKind.wrap .i64 (v1.2.2 + 1)))))) else (some (Sum.inr v1.1)))
theorem T20_eq (N : Nat) (a0 : List UInt8) : T20 N a0 =
  ((loopR (V := (List UInt8) × Int × Int) (X := ((List UInt8))) (R20x122 N a0) N (([] : List UInt8), 0, 0)).bind fun o6 => some o6) := by kernel_rfl

def c3 : List (Nat × Cert) := [(12, .join [(.norm, ⟨(.cons .bool .nil), [26], [], [], [], []⟩)]),
  (1021, .join [(.norm, ⟨(.cons .str .nil), [14], [], [], [], []⟩)]),
  (1022, .join [(.norm, ⟨(.cons .bool .nil), [4], [], [], [], []⟩)])]
-- "codend/codendlaw02.TaperWords"
noncomputable def T3 (N : Nat) : (List UInt8) × (List UInt8) → Option Bool := (cx N [(15, e15 N), (16, e16 N), (17, e17 N), (18, e18 N), (19, e19 N), (20, e20 N), (21, e21 N), (22, e22 N)] [(3, c3)]).fn 1000 3 (.cons .str (.cons .str .nil)) .bool
noncomputable def e3 (N : Nat) : Entry := ⟨(.cons .str (.cons .str .nil)), .bool, T3 N⟩
theorem T3_ok (N : Nat) : EntryOk envS 3 (e3 N) := Ctx.fn_ok (tabF_ok (by intro a e h; simp only [List.mem_cons, Prod.mk.injEq, List.not_mem_nil, or_false] at h; rcases h with ⟨rfl, rfl⟩ | ⟨rfl, rfl⟩ | ⟨rfl, rfl⟩ | ⟨rfl, rfl⟩ | ⟨rfl, rfl⟩ | ⟨rfl, rfl⟩ | ⟨rfl, rfl⟩ | ⟨rfl, rfl⟩; exact T15_ok N; exact T16_ok N; exact T17_ok N; exact T18_ok N; exact T19_ok N; exact T20_ok N; exact T21_ok N; exact T22_ok N)) (by kernel_rfl) (by kernel_rfl)
theorem T3_eq (N : Nat) (a0 : List UInt8) (a1 : List UInt8) : T3 N (a0, a1) =
  (((T15 N ()).bind fun y1 => (bif (!y1) then (some true) else (bif (decide ((((a0).length : Nat) : Int) > 140)) then (some true) else (some (decide ((((a1).length : Nat) : Int) > 140))))) : Option Bool).bind fun o2 => (bif o2 then (T15 N ()).bind fun y3 => some y3 else (T16 N a0).bind fun y4 => (T17 N a1).bind fun y5 => (T18 N a0).bind fun y6 => (T19 N a1).bind fun y7 => (((bif (y6 == 0) then (T20 N a0).bind fun y8 => (some y8) else (some ([] : List UInt8))) : Option (((List UInt8)))).bind fun o9 => (((T21 N a0).bind fun y10 => (bif (y10 == y6) then (T22 N (y4.1, y4.2, y6, o9)).bind fun y11 => (bif y11 then (bif (y5.2.2 == y7.2.2) then (bif (y5.1 == y7.1) then (some (y5.2.1 == y7.2.1)) else (some false)) else (some false)) else (some false)) else (some false)) : Option Bool).bind fun o12 => some o12)))) := by kernel_rfl

def c103 : List (Nat × Cert) := [(122, .loop [] ⟨(.cons (.int .i64) (.cons (.int .i64) (.cons (.list 2 (.agg (.cons (.int .i32) (.cons (.agg (.cons (.int .i64) (.cons (.int .i64) .nil))) .nil)))) (.cons .str (.cons (.int .i64) .nil))))), [], [], [(4, 2)], [.map, .sit], []⟩ [(.ex 0, ⟨(.cons (.int .i64) (.cons (.int .i64) (.cons (.list 2 (.agg (.cons (.int .i32) (.cons (.agg (.cons (.int .i64) (.cons (.int .i64) .nil))) .nil)))) (.cons .str (.cons (.int .i64) .nil))))), [], [], [(4, 2)], [.map, .sit], []⟩)])]
-- "codend/taper.vector"
noncomputable def T103 (N : Nat) : (List UInt8) → Option ((Int × Int)) := (cx N [] [(103, c103)]).fn 1000 103 (.cons .str .nil) (.agg (.cons (.int .i64) (.cons (.int .i64) .nil)))
noncomputable def e103 (N : Nat) : Entry := ⟨(.cons .str .nil), (.agg (.cons (.int .i64) (.cons (.int .i64) .nil))), T103 N⟩
theorem T103_ok (N : Nat) : EntryOk envS 103 (e103 N) := Ctx.fn_ok (fun _ _ h => by cases h) (by kernel_rfl) (by kernel_rfl)
noncomputable def R103x122 (N : Nat) (v1 : Int × Int × (List (Int × (Int × Int))) × (List UInt8) × Int) : Option ((Int × Int × (List (Int × (Int × Int))) × (List UInt8) × Int) ⊕ ((Int × Int × (List (Int × (Int × Int))) × (List UInt8) × Int))) :=
  (bif Nat.blt (Int.toNat v1.2.2.2.2) (List.length v1.2.2.2.1) then bif (mkeys .int (AV.int .i32 (((decodeA v1.2.2.2.1 (Int.toNat v1.2.2.2.2)).1 : Nat) : Int)) (entriesL (List.map nM174 v1.2.2.1)) && Pat.fits p79 (mgetD .int (AV.int .i32 (((decodeA v1.2.2.2.1 (Int.toNat v1.2.2.2.2)).1 : Nat) : Int)) (AV.agg [(AV.int .i64 0), (AV.int .i64 0)]) (entriesL (List.map nM174 v1.2.2.1)))) then bif (mkeys .int (AV.int .i32 (((decodeA v1.2.2.2.1 (Int.toNat v1.2.2.2.2)).1 : Nat) : Int)) (entriesL (List.map nM174 v1.2.2.1)) && Pat.fits p79 (mgetD .int (AV.int .i32 (((decodeA v1.2.2.2.1 (Int.toNat v1.2.2.2.2)).1 : Nat) : Int)) (AV.agg [(AV.int .i64 0), (AV.int .i64 0)]) (entriesL (List.map nM174 v1.2.2.1)))) then (((bif (allFit (Pat.fits pM174) (mcells (entriesL (List.map nM174 v1.2.2.1))) && true) then some ((IntKind.wrap .i64 (v1.1 + (d79 (mgetD .int (AV.int .i32 (((decodeA v1.2.2.2.1 (Int.toNat v1.2.2.2.2)).1 : Nat) : Int)) (AV.agg [(AV.int .i64 0), (AV.int .i64 0)]) (entriesL (List.map nM174 v1.2.2.1)))).1)), (IntKind.wrap .i64 (v1.2.1 + (d79 (mgetD .int (AV.int .i32 (((decodeA v1.2.2.2.1 (Int.toNat v1.2.2.2.2)).1 : Nat) : Int)) (AV.agg [(AV.int .i64 0), (AV.int .i64 0)]) (entriesL (List.map nM174 v1.2.2.1)))).2)), (List.map dM174 (mcells (entriesL (List.map nM174 v1.2.2.1)))), v1.2.2.2.1, ((((Int.toNat v1.2.2.2.2) + (decodeA v1.2.2.2.1 (Int.toNat v1.2.2.2.2)).2) : Nat) : Int)) else none : Option (Int × Int × (List (Int × (Int × Int))) × (List UInt8) × Int)).bind fun w2 => bif (allX (entriesL (List.map nM174 v1.2.2.1)) && true) then some w2 else none).bind fun u3 => some (Sum.inl u3)) else none else none else (((bif (allFit (Pat.fits pM174) (mcells (entriesL (List.map nM174 v1.2.2.1))) && true) then some (v1.1, v1.2.1, (List.map dM174 (mcells (entriesL (List.map nM174 v1.2.2.1)))), v1.2.2.2.1, (((Int.toNat v1.2.2.2.2) : Nat) : Int)) else none : Option (Int × Int × (List (Int × (Int × Int))) × (List UInt8) × Int)).bind fun w4 => bif (allX (entriesL (List.map nM174 v1.2.2.1)) && true) then some w4 else none).bind fun u5 => some (Sum.inr u5)))
theorem T103_eq (N : Nat) (a0 : List UInt8) : T103 N a0 =
  bif (mkeys .int (AV.int .i32 78) ([] : List (AV × AV))) then bif (mkeys .int (AV.int .i32 66) (mputT .int (AV.int .i32 78) (AV.agg [(AV.int .i64 0), (AV.int .i64 2)]) ([] : List (AV × AV)))) then bif (mkeys .int (AV.int .i32 84) (mputT .int (AV.int .i32 66) (AV.agg [(AV.int .i64 1), (AV.int .i64 1)]) (mputT .int (AV.int .i32 78) (AV.agg [(AV.int .i64 0), (AV.int .i64 2)]) ([] : List (AV × AV))))) then (((bif (allFit (Pat.fits pM174) (mcells (mputT .int (AV.int .i32 84) (AV.agg [(AV.int .i64 2), (AV.int .i64 0)]) (mputT .int (AV.int .i32 66) (AV.agg [(AV.int .i64 1), (AV.int .i64 1)]) (mputT .int (AV.int .i32 78) (AV.agg [(AV.int .i64 0), (AV.int .i64 2)]) ([] : List (AV × AV)))))) && true) then some (0, 0, (List.map dM174 (mcells (mputT .int (AV.int .i32 84) (AV.agg [(AV.int .i64 2), (AV.int .i64 0)]) (mputT .int (AV.int .i32 66) (AV.agg [(AV.int .i64 1), (AV.int .i64 1)]) (mputT .int (AV.int .i32 78) (AV.agg [(AV.int .i64 0), (AV.int .i64 2)]) ([] : List (AV × AV))))))), a0, ((0 : Nat) : Int)) else none : Option (Int × Int × (List (Int × (Int × Int))) × (List UInt8) × Int)).bind fun w6 => bif (allX (mputT .int (AV.int .i32 84) (AV.agg [(AV.int .i64 2), (AV.int .i64 0)]) (mputT .int (AV.int .i32 66) (AV.agg [(AV.int .i64 1), (AV.int .i64 1)]) (mputT .int (AV.int .i32 78) (AV.agg [(AV.int .i64 0), (AV.int .i64 2)]) ([] : List (AV × AV))))) && true) then some w6 else none).bind fun x8 => (loopR (V := Int × Int × (List (Int × (Int × Int))) × (List UInt8) × Int) (X := (Int × Int × (List (Int × (Int × Int))) × (List UInt8) × Int)) (R103x122 N) N x8).bind fun o7 => some (o7.1, o7.2.1)) else none else none else none := by kernel_rfl

-- "codend/taper.Vector"
noncomputable def T46 (N : Nat) : (List UInt8) → Option ((Int × Int) × Int) := (cx N [(21, e21 N), (103, e103 N)] []).fn 1000 46 (.cons .str .nil) (.tup (.cons (.agg (.cons (.int .i64) (.cons (.int .i64) .nil))) (.cons (.int .i64) .nil)))
noncomputable def e46 (N : Nat) : Entry := ⟨(.cons .str .nil), (.tup (.cons (.agg (.cons (.int .i64) (.cons (.int .i64) .nil))) (.cons (.int .i64) .nil))), T46 N⟩
theorem T46_ok (N : Nat) : EntryOk envS 46 (e46 N) := Ctx.fn_ok (tabF_ok (by intro a e h; simp only [List.mem_cons, Prod.mk.injEq, List.not_mem_nil, or_false] at h; rcases h with ⟨rfl, rfl⟩ | ⟨rfl, rfl⟩; exact T21_ok N; exact T103_ok N)) (by kernel_rfl) (by kernel_rfl)
theorem T46_eq (N : Nat) (a0 : List UInt8) : T46 N a0 =
  (T21 N a0).bind fun y1 => (bif (y1 != 0) then some ((0, 0), y1) else (T103 N a0).bind fun y2 => some ((y2.1, y2.2), 0)) := by kernel_rfl

-- "codend/codendref02.Step"
noncomputable def T98 (N : Nat) : Int → Option ((Int × Int)) := (cx N [] []).fn 1000 98 (.cons (.int .u8) .nil) (.agg (.cons (.int .i64) (.cons (.int .i64) .nil)))
noncomputable def e98 (N : Nat) : Entry := ⟨(.cons (.int .u8) .nil), (.agg (.cons (.int .i64) (.cons (.int .i64) .nil))), T98 N⟩
theorem T98_ok (N : Nat) : EntryOk envS 98 (e98 N) := Ctx.fn_ok (fun _ _ h => by cases h) (by kernel_rfl) (by kernel_rfl)
theorem T98_eq (N : Nat) (a0 : Int) : T98 N a0 =
  (bif (a0 == 78) then some (0, 2) else (bif (a0 == 66) then some (1, 1) else some (2, 0))) := by kernel_rfl

def c63 : List (Nat × Cert) := [(58, .loop [] ⟨(.cons (.int .i64) (.cons (.int .i64) (.cons (.int .i64) .nil))), [4], [], [(3, 2)], [], []⟩ [(.ex 0, ⟨(.cons (.int .i64) (.cons (.int .i64) .nil)), [], [], [(3, 2)], [], []⟩)])]
-- "codend/codendref02.Vector"
noncomputable def T63 (N : Nat) : (List UInt8) → Option ((Int × Int)) := (cx N [(98, e98 N)] [(63, c63)]).fn 1000 63 (.cons .str .nil) (.agg (.cons (.int .i64) (.cons (.int .i64) .nil)))
noncomputable def e63 (N : Nat) : Entry := ⟨(.cons .str .nil), (.agg (.cons (.int .i64) (.cons (.int .i64) .nil))), T63 N⟩
theorem T63_ok (N : Nat) : EntryOk envS 63 (e63 N) := Ctx.fn_ok (tabF_ok (by intro a e h; simp only [List.mem_cons, Prod.mk.injEq, List.not_mem_nil, or_false] at h; rcases h with ⟨rfl, rfl⟩; exact T98_ok N)) (by kernel_rfl) (by kernel_rfl)
noncomputable def R63x58 (N : Nat) (a0 : List UInt8) (v1 : Int × Int × Int) : Option ((Int × Int × Int) ⊕ ((Int × Int))) :=
  (bif (decide (v1.1 < (((a0).length : Nat) : Int))) then bif decide ((0 : Int) ≤ v1.1 ∧ v1.1 < ((a0).length : Int)) then (T98 N ((((a0).getD (Int.toNat v1.1) 0).toNat : Nat) : Int)).bind fun y2 => (some (Sum.inl ((IntKind.wrap .i64 (v1.1 + 1)), (IntKind.wrap .i64 (v1.2.1 + y2.1)), (IntKind.wrap .i64 (v1.2.2 + y2.2))))) else none else (some (Sum.inr (v1.2.1, v1.2.2))))
theorem T63_eq (N : Nat) (a0 : List UInt8) : T63 N a0 =
  ((loopR (V := Int × Int × Int) (X := (Int × Int)) (R63x58 N a0) N (0, 0, 0)).bind fun o4 => some (o4.1, o4.2)) := by kernel_rfl

-- "codend/taper.flat"
noncomputable def T117 (N : Nat) : (List UInt8) → Option Int := (cx N [(76, e76 N), (103, e103 N)] []).fn 1000 117 (.cons .str .nil) (.int .i64)
noncomputable def e117 (N : Nat) : Entry := ⟨(.cons .str .nil), (.int .i64), T117 N⟩
theorem T117_ok (N : Nat) : EntryOk envS 117 (e117 N) := Ctx.fn_ok (tabF_ok (by intro a e h; simp only [List.mem_cons, Prod.mk.injEq, List.not_mem_nil, or_false] at h; rcases h with ⟨rfl, rfl⟩ | ⟨rfl, rfl⟩; exact T76_ok N; exact T103_ok N)) (by kernel_rfl) (by kernel_rfl)
theorem T117_eq (N : Nat) (a0 : List UInt8) : T117 N a0 =
  (T103 N a0).bind fun y1 => (T76 N ((y1.2 == 0), 6)).bind fun y2 => some y2 := by kernel_rfl

-- "codend/taper.Rate"
noncomputable def T65 (N : Nat) : (List UInt8) → Option ((Int × Int) × Int) := (cx N [(21, e21 N), (103, e103 N), (117, e117 N), (118, e118 N)] []).fn 1000 65 (.cons .str .nil) (.tup (.cons (.agg (.cons (.int .i64) (.cons (.int .i64) .nil))) (.cons (.int .i64) .nil)))
noncomputable def e65 (N : Nat) : Entry := ⟨(.cons .str .nil), (.tup (.cons (.agg (.cons (.int .i64) (.cons (.int .i64) .nil))) (.cons (.int .i64) .nil))), T65 N⟩
theorem T65_ok (N : Nat) : EntryOk envS 65 (e65 N) := Ctx.fn_ok (tabF_ok (by intro a e h; simp only [List.mem_cons, Prod.mk.injEq, List.not_mem_nil, or_false] at h; rcases h with ⟨rfl, rfl⟩ | ⟨rfl, rfl⟩ | ⟨rfl, rfl⟩ | ⟨rfl, rfl⟩; exact T21_ok N; exact T103_ok N; exact T117_ok N; exact T118_ok N)) (by kernel_rfl) (by kernel_rfl)
theorem T65_eq (N : Nat) (a0 : List UInt8) : T65 N a0 =
  (T21 N a0).bind fun y1 => (bif (y1 != 0) then some ((0, 0), y1) else (T117 N a0).bind fun y2 => (bif (y2 != 0) then some ((0, 0), y2) else (T103 N a0).bind fun y3 => (T118 N (y3.1, y3.2)).bind fun y4 => some ((y4.1, y4.2), 0))) := by kernel_rfl

-- "codend/taper.sign"
noncomputable def T119 (N : Nat) : Int → Option Int := (cx N [] []).fn 1000 119 (.cons (.int .i64) .nil) (.int .i64)
noncomputable def e119 (N : Nat) : Entry := ⟨(.cons (.int .i64) .nil), (.int .i64), T119 N⟩
theorem T119_ok (N : Nat) : EntryOk envS 119 (e119 N) := Ctx.fn_ok (fun _ _ h => by cases h) (by kernel_rfl) (by kernel_rfl)
theorem T119_eq (N : Nat) (a0 : Int) : T119 N a0 =
  some (if (if a0 < 1 then a0 else 1) > (-1) then (if a0 < 1 then a0 else 1) else (-1)) := by kernel_rfl

-- "codend/taper.Compare"
noncomputable def T66 (N : Nat) : (List UInt8) × (List UInt8) → Option (Int × Int) := (cx N [(21, e21 N), (75, e75 N), (103, e103 N), (117, e117 N), (119, e119 N)] []).fn 1000 66 (.cons .str (.cons .str .nil)) (.tup (.cons (.int .i64) (.cons (.int .i64) .nil)))
noncomputable def e66 (N : Nat) : Entry := ⟨(.cons .str (.cons .str .nil)), (.tup (.cons (.int .i64) (.cons (.int .i64) .nil))), T66 N⟩
theorem T66_ok (N : Nat) : EntryOk envS 66 (e66 N) := Ctx.fn_ok (tabF_ok (by intro a e h; simp only [List.mem_cons, Prod.mk.injEq, List.not_mem_nil, or_false] at h; rcases h with ⟨rfl, rfl⟩ | ⟨rfl, rfl⟩ | ⟨rfl, rfl⟩ | ⟨rfl, rfl⟩ | ⟨rfl, rfl⟩; exact T21_ok N; exact T75_ok N; exact T103_ok N; exact T117_ok N; exact T119_ok N)) (by kernel_rfl) (by kernel_rfl)
theorem T66_eq (N : Nat) (a0 : List UInt8) (a1 : List UInt8) : T66 N (a0, a1) =
  (T21 N a0).bind fun y1 => (T21 N a1).bind fun y2 => ((bif (allFit (Pat.fits p23) [(AV.int .i64 y1), (AV.int .i64 y2)] && true) then some (List.map d23 [(AV.int .i64 y1), (AV.int .i64 y2)]) else none : Option ((List Int))).bind fun x4 => (T75 N x4).bind fun y3 => (bif (y3 != 0) then some (0, y3) else (T117 N a0).bind fun y5 => (T117 N a1).bind fun y6 => ((bif (allFit (Pat.fits p23) [(AV.int .i64 y5), (AV.int .i64 y6)] && true) then some (List.map d23 [(AV.int .i64 y5), (AV.int .i64 y6)]) else none : Option ((List Int))).bind fun x8 => (T75 N x8).bind fun y7 => (bif (y7 != 0) then some (0, y7) else (T103 N a0).bind fun y9 => (T103 N a1).bind fun y10 => (T119 N (IntKind.wrap .i64 ((IntKind.wrap .i64 (y9.1 * y10.2)) - (IntKind.wrap .i64 (y10.1 * y9.2))))).bind fun y11 => some (y11, 0))))) := by kernel_rfl

-- "codend/codendref02.Rate"
noncomputable def T68 (N : Nat) : (List UInt8) → Option ((Int × Int) × Bool) := (cx N [(63, e63 N), (94, e94 N)] []).fn 1000 68 (.cons .str .nil) (.tup (.cons (.agg (.cons (.int .i64) (.cons (.int .i64) .nil))) (.cons .bool .nil)))
noncomputable def e68 (N : Nat) : Entry := ⟨(.cons .str .nil), (.tup (.cons (.agg (.cons (.int .i64) (.cons (.int .i64) .nil))) (.cons .bool .nil))), T68 N⟩
theorem T68_ok (N : Nat) : EntryOk envS 68 (e68 N) := Ctx.fn_ok (tabF_ok (by intro a e h; simp only [List.mem_cons, Prod.mk.injEq, List.not_mem_nil, or_false] at h; rcases h with ⟨rfl, rfl⟩ | ⟨rfl, rfl⟩; exact T63_ok N; exact T94_ok N)) (by kernel_rfl) (by kernel_rfl)
theorem T68_eq (N : Nat) (a0 : List UInt8) : T68 N a0 =
  (T63 N a0).bind fun y1 => (bif (y1.2 == 0) then some ((0, 0), false) else (T94 N (y1.1, y1.2)).bind fun y2 => some ((y2.1, y2.2), true)) := by kernel_rfl

-- "codend/codendref02.Compare"
noncomputable def T69 (N : Nat) : (List UInt8) × (List UInt8) → Option Int := (cx N [(63, e63 N)] []).fn 1000 69 (.cons .str (.cons .str .nil)) (.int .i64)
noncomputable def e69 (N : Nat) : Entry := ⟨(.cons .str (.cons .str .nil)), (.int .i64), T69 N⟩
theorem T69_ok (N : Nat) : EntryOk envS 69 (e69 N) := Ctx.fn_ok (tabF_ok (by intro a e h; simp only [List.mem_cons, Prod.mk.injEq, List.not_mem_nil, or_false] at h; rcases h with ⟨rfl, rfl⟩; exact T63_ok N)) (by kernel_rfl) (by kernel_rfl)
theorem T69_eq (N : Nat) (a0 : List UInt8) (a1 : List UInt8) : T69 N (a0, a1) =
  (T63 N a0).bind fun y1 => (T63 N a1).bind fun y2 => (bif (decide ((IntKind.wrap .i64 (y1.1 * y2.2)) < (IntKind.wrap .i64 (y2.1 * y1.2)))) then some (-1) else (bif (decide ((IntKind.wrap .i64 (y1.1 * y2.2)) > (IntKind.wrap .i64 (y2.1 * y1.2)))) then some 1 else some 0)) := by kernel_rfl

def c70 : List (Nat × Cert) := [(6, .join [(.norm, ⟨(.cons .bool .nil), [8], [], [], [], []⟩)])]
-- "codend/codendlaw02.number"
noncomputable def T70 (N : Nat) : Int × Int × Int × Int → Option Bool := (cx N [] [(70, c70)]).fn 1000 70 (.cons (.int .i64) (.cons (.int .i64) (.cons (.int .i64) (.cons (.int .i64) .nil)))) .bool
noncomputable def e70 (N : Nat) : Entry := ⟨(.cons (.int .i64) (.cons (.int .i64) (.cons (.int .i64) (.cons (.int .i64) .nil)))), .bool, T70 N⟩
theorem T70_ok (N : Nat) : EntryOk envS 70 (e70 N) := Ctx.fn_ok (fun _ _ h => by cases h) (by kernel_rfl) (by kernel_rfl)
theorem T70_eq (N : Nat) (a0 : Int) (a1 : Int) (a2 : Int) (a3 : Int) : T70 N (a0, a1, a2, a3) =
  (((bif (a1 == a2) then (bif (a2 != 0) then (bif (a0 == 0) then (some true) else (bif (a2 == 0) then (some (a0 == a3)) else (some false))) else (bif (a2 == 0) then (some (a0 == a3)) else (some false))) else (some false)) : Option Bool).bind fun o1 => some o1) := by kernel_rfl

def c14 : List (Nat × Cert) := [(12, .join [(.norm, ⟨(.cons .bool .nil), [33], [], [], [], []⟩)]),
  (8189, .join [(.norm, ⟨(.cons (.int .i64) (.cons (.int .i64) (.cons (.int .i64) (.cons (.int .i64) (.cons (.int .i64) .nil))))), [12], [], [(14, 2), (15, 2)], [], []⟩)]),
  (16381, .join [(.norm, ⟨(.cons (.int .i64) (.cons (.int .i64) .nil)), [13, 16], [], [], [], []⟩)]),
  (16382, .join [(.norm, ⟨(.cons .bool .nil), [4], [], [], [], []⟩)]),
  (262102, .join [(.norm, ⟨(.cons .bool .nil), [87], [], [], [], []⟩)])]
-- "codend/codendlaw02.TaperRates"
noncomputable def T14 (N : Nat) : (List UInt8) × (List UInt8) → Option Bool := (cx N [(15, e15 N), (18, e18 N), (33, e33 N), (46, e46 N), (63, e63 N), (65, e65 N), (66, e66 N), (67, e67 N), (68, e68 N), (69, e69 N), (70, e70 N)] [(14, c14)]).fn 1000 14 (.cons .str (.cons .str .nil)) .bool
noncomputable def e14 (N : Nat) : Entry := ⟨(.cons .str (.cons .str .nil)), .bool, T14 N⟩
theorem T14_ok (N : Nat) : EntryOk envS 14 (e14 N) := Ctx.fn_ok (tabF_ok (by intro a e h; simp only [List.mem_cons, Prod.mk.injEq, List.not_mem_nil, or_false] at h; rcases h with ⟨rfl, rfl⟩ | ⟨rfl, rfl⟩ | ⟨rfl, rfl⟩ | ⟨rfl, rfl⟩ | ⟨rfl, rfl⟩ | ⟨rfl, rfl⟩ | ⟨rfl, rfl⟩ | ⟨rfl, rfl⟩ | ⟨rfl, rfl⟩ | ⟨rfl, rfl⟩ | ⟨rfl, rfl⟩; exact T15_ok N; exact T18_ok N; exact T33_ok N; exact T46_ok N; exact T63_ok N; exact T65_ok N; exact T66_ok N; exact T67_ok N; exact T68_ok N; exact T69_ok N; exact T70_ok N)) (by kernel_rfl) (by kernel_rfl)
theorem T14_eq (N : Nat) (a0 : List UInt8) (a1 : List UInt8) : T14 N (a0, a1) =
  (((T15 N ()).bind fun y1 => (bif (!y1) then (some true) else (bif (decide ((((a0).length : Nat) : Int) > 140)) then (some true) else (some (decide ((((a1).length : Nat) : Int) > 140))))) : Option Bool).bind fun o2 => (bif o2 then (T15 N ()).bind fun y3 => some y3 else (T46 N a0).bind fun y4 => (T65 N a0).bind fun y5 => (T66 N (a0, a1)).bind fun y6 => (T18 N a0).bind fun y7 => (T18 N a1).bind fun y8 => ((bif (allFit (Pat.fits p3) [(AV.int .i64 y7), (AV.int .i64 y8)] && true) then some (List.map d3 [(AV.int .i64 y7), (AV.int .i64 y8)]) else none : Option ((List Int))).bind fun x10 => (T67 N x10).bind fun y9 => (((bif (y7 == 0) then (T63 N a0).bind fun y11 => (T68 N a0).bind fun y12 => (bif (!y12.2) then (some (6, y11.1, y11.2, y12.1.1, y12.1.2)) else (some (y7, y11.1, y11.2, y12.1.1, y12.1.2))) else (some (y7, 0, 0, 0, 0))) : Option ((Int × Int × Int × Int × Int))).bind fun o13 => (((bif (y9 == 0) then (T68 N a0).bind fun y14 => (T68 N a1).bind fun y15 => (((bif (!y14.2) then (some true) else (some (!y15.2))) : Option Bool).bind fun o16 => (bif o16 then (some (6, 0)) else (T69 N (a0, a1)).bind fun y17 => (some (y9, y17)))) else (some (y9, 0))) : Option ((Int × Int))).bind fun o18 => (((bif ((y4.1.1 == o13.2.1) && ((y4.1.2 == o13.2.2.1) && true)) then (bif (y4.2 == y7) then (T33 N ((y5.1.1, y5.1.2), y5.2, o13.1, (o13.2.2.2.1, o13.2.2.2.2))).bind fun y19 => (bif y19 then (T70 N (y6.1, y6.2, o18.1, o18.2)).bind fun y20 => (some y20) else (some false)) else (some false)) else (some false)) : Option Bool).bind fun o21 => some o21)))))) := by kernel_rfl

def c44 : List (Nat × Cert) := [(122, .rot [true, true, false, true] [] ⟨(.cons (.int .i64) (.cons .str (.cons (.int .i64) .nil))), [59], [], [], [.row 1, .row 1], []⟩ [(.ex 0, ⟨(.cons .str (.cons (.int .i64) .nil)), [], [], [], [.row 1, .row 1], []⟩), (.ret, ⟨(.cons .bool (.cons (.int .i64) (.cons .str (.cons (.int .i64) .nil)))), [2, 3], [], [], [.row 1, .row 1], []⟩)]),
  (7826, (.alt 2 (.loop [] ⟨(.cons (.int .i64) (.cons .str (.cons (.int .i64) .nil))), [29], [], [], [.row 1, .row 1], []⟩ [(.ret, ⟨(.cons .bool (.cons (.int .i64) (.cons .str (.cons (.int .i64) .nil)))), [2, 3], [], [], [.row 1, .row 1], []⟩), (.ex 2, ⟨(.cons .str (.cons (.int .i64) .nil)), [], [], [], [.row 1, .row 1], []⟩)]) (.loop [] ⟨(.cons (.int .i64) (.cons .str (.cons (.int .i64) (.cons (.int .i64) .nil)))), [29], [], [], [.row 1, .row 1, .row 1], []⟩ [(.ret, ⟨(.cons .bool (.cons (.int .i64) (.cons .str (.cons (.int .i64) (.cons (.int .i64) .nil))))), [2, 3], [], [], [.row 1, .row 1, .row 1], []⟩), (.ex 2, ⟨(.cons .str (.cons (.int .i64) (.cons (.int .i64) .nil))), [], [], [], [.row 1, .row 1, .row 1], []⟩)]))),
  (16028474, (.alt 3 (.loop [] ⟨(.cons (.int .i64) (.cons (.int .i64) (.cons (.int .i64) (.cons .str (.cons (.int .i64) (.cons .str .nil)))))), [10, 11, 40], [], [], [.row 1, .row 1, .row 1], []⟩ [(.ex 4, ⟨(.cons (.int .i64) (.cons (.int .i64) (.cons .str (.cons (.int .i64) (.cons .str .nil))))), [10, 11], [], [], [.row 1, .row 1, .row 1], []⟩)]) (.loop [] ⟨(.cons (.int .i64) (.cons (.int .i64) (.cons (.int .i64) (.cons .str (.cons (.int .i64) (.cons (.int .i64) (.cons .str .nil))))))), [10, 11, 40], [], [], [.row 1, .row 1, .row 1, .row 1], []⟩ [(.ex 4, ⟨(.cons (.int .i64) (.cons (.int .i64) (.cons .str (.cons (.int .i64) (.cons (.int .i64) (.cons .str .nil)))))), [10, 11], [], [], [.row 1, .row 1, .row 1, .row 1], []⟩)])))]
-- "codend/taper.Balanced"
noncomputable def T44 (N : Nat) : (List UInt8) → Option (Bool × Int) := (cx N [(21, e21 N), (100, e100 N)] [(44, c44)]).fn 1000 44 (.cons .str .nil) (.tup (.cons .bool (.cons (.int .i64) .nil)))
noncomputable def e44 (N : Nat) : Entry := ⟨(.cons .str .nil), (.tup (.cons .bool (.cons (.int .i64) .nil))), T44 N⟩
theorem T44_ok (N : Nat) : EntryOk envS 44 (e44 N) := Ctx.fn_ok (tabF_ok (by intro a e h; simp only [List.mem_cons, Prod.mk.injEq, List.not_mem_nil, or_false] at h; rcases h with ⟨rfl, rfl⟩ | ⟨rfl, rfl⟩; exact T21_ok N; exact T100_ok N)) (by kernel_rfl) (by kernel_rfl)
noncomputable def R44x16028474 (N : Nat) (a0 : List UInt8) (v6 : Int × Int × Int × (List UInt8) × Int × Int × (List UInt8)) : Option ((Int × Int × Int × (List UInt8) × Int × Int × (List UInt8)) ⊕ ((Int × Int × (List UInt8) × Int × Int × (List UInt8)))) :=
  (bif (decide (v6.2.2.1 < (((a0).length : Nat) : Int))) then bif (decide ((0 : Int) ≤ (IntKind.wrap .i64 (v6.2.2.1 + v6.2.2.2.2.2.1)) ∧ (IntKind.wrap .i64 (v6.2.2.1 + v6.2.2.2.2.2.1)) ≤ ((v6.2.2.2.1).length : Int)) && decide ((0 : Int) ≤ v6.2.2.1 ∧ v6.2.2.1 ≤ (((Int.toNat (IntKind.wrap .i64 (v6.2.2.1 + v6.2.2.2.2.2.1))) : Nat) : Int))) then (T100 N ((subA (Int.toNat v6.2.2.1) (Int.toNat (IntKind.wrap .i64 (v6.2.2.1 + v6.2.2.2.2.2.1))) v6.2.2.2.1), v6.2.2.2.2.2.2)).bind fun y7 => bif (decide ((0 : Int) ≤ (IntKind.wrap .i64 (v6.2.2.1 + v6.2.2.2.2.2.1)) ∧ (IntKind.wrap .i64 (v6.2.2.1 + v6.2.2.2.2.2.1)) ≤ ((v6.2.2.2.1).length : Int)) && decide ((0 : Int) ≤ v6.2.2.1 ∧ v6.2.2.1 ≤ (((Int.toNat (IntKind.wrap .i64 (v6.2.2.1 + v6.2.2.2.2.2.1))) : Nat) : Int))) then (T100 N ((subA (Int.toNat v6.2.2.1) (Int.toNat (IntKind.wrap .i64 (v6.2.2.1 + v6.2.2.2.2.2.1))) v6.2.2.2.1), v6.2.2.2.2.2.2)).bind fun y8 => (some (Sum.inl ((if y7 < v6.1 then y7 else v6.1), (if y8 > v6.2.1 then y8 else v6.2.1), (IntKind.wrap .i64 (v6.2.2.1 + 1)), v6.2.2.2.1, v6.2.2.2.2.1, v6.2.2.2.2.2.1, v6.2.2.2.2.2.2))) else none else none else (some (Sum.inr (v6.1, v6.2.1, v6.2.2.2.1, v6.2.2.2.2.1, v6.2.2.2.2.2.1, v6.2.2.2.2.2.2))))
noncomputable def R44x7826 (N : Nat) (a0 : List UInt8) (v3 : Int × (List UInt8) × Int × Int) : Option ((Int × (List UInt8) × Int × Int) ⊕ ((Bool × Int × (List UInt8) × Int × Int) ⊕ ((List UInt8) × Int × Int))) :=
  (bif (decide (v3.1 < 3)) then bif (decide ((0 : Int) ≤ v3.1 ∧ v3.1 < (([(AV.str ([78] : List UInt8)), (AV.str ([66] : List UInt8)), (AV.str ([84] : List UInt8))]).length : Int)) && Pat.fits p9 (nthD [(AV.str ([78] : List UInt8)), (AV.str ([66] : List UInt8)), (AV.str ([84] : List UInt8))] (Int.toNat v3.1))) then bif (decide ((0 : Int) ≤ (IntKind.wrap .i64 (0 + v3.2.2.2)) ∧ (IntKind.wrap .i64 (0 + v3.2.2.2)) ≤ ((v3.2.1).length : Int)) && decide ((0 : Int) ≤ 0 ∧ 0 ≤ (((Int.toNat (IntKind.wrap .i64 (0 + v3.2.2.2))) : Nat) : Int))) then (T100 N ((subA (Int.toNat 0) (Int.toNat (IntKind.wrap .i64 (0 + v3.2.2.2))) v3.2.1), (d9 (nthD [(AV.str ([78] : List UInt8)), (AV.str ([66] : List UInt8)), (AV.str ([84] : List UInt8))] (Int.toNat v3.1))))).bind fun y4 => bif (decide ((0 : Int) ≤ (IntKind.wrap .i64 (0 + v3.2.2.2)) ∧ (IntKind.wrap .i64 (0 + v3.2.2.2)) ≤ ((v3.2.1).length : Int)) && decide ((0 : Int) ≤ 0 ∧ 0 ≤ (((Int.toNat (IntKind.wrap .i64 (0 + v3.2.2.2))) : Nat) : Int))) then (T100 N ((subA (Int.toNat 0) (Int.toNat (IntKind.wrap .i64 (0 + v3.2.2.2))) v3.2.1), (d9 (nthD [(AV.str ([78] : List UInt8)), (AV.str ([66] : List UInt8)), (AV.str ([84] : List UInt8))] (Int.toNat v3.1))))).bind fun y5 => ((loopR (V := Int × Int × Int × (List UInt8) × Int × Int × (List UInt8)) (X := (Int × Int × (List UInt8) × Int × Int × (List UInt8))) (R44x16028474 N a0) N (y4, y5, 0, v3.2.1, v3.2.2.1, v3.2.2.2, (d9 (nthD [(AV.str ([78] : List UInt8)), (AV.str ([66] : List UInt8)), (AV.str ([84] : List UInt8))] (Int.toNat v3.1))))).bind fun o10 => (bif (decide ((IntKind.wrap .i64 (o10.2.1 - o10.1)) > 1)) then (some (Sum.inr (Sum.inl (false, 0, o10.2.2.1, o10.2.2.2.1, o10.2.2.2.2.1)))) else (some (Sum.inl ((IntKind.wrap .i64 (v3.1 + 1)), o10.2.2.1, o10.2.2.2.1, o10.2.2.2.2.1))))) else none else none else none else (some (Sum.inr (Sum.inr (v3.2.1, v3.2.2.1, v3.2.2.2)))))
noncomputable def R44x16028474b (N : Nat) (a0 : List UInt8) (v25 : Int × Int × Int × (List UInt8) × Int × (List UInt8)) : Option ((Int × Int × Int × (List UInt8) × Int × (List UInt8)) ⊕ ((Int × Int × (List UInt8) × Int × (List UInt8)))) :=
  (bif (decide (v25.2.2.1 < (((a0).length : Nat) : Int))) then bif (decide ((0 : Int) ≤ (IntKind.wrap .i64 (v25.2.2.1 + v25.2.2.2.2.1)) ∧ (IntKind.wrap .i64 (v25.2.2.1 + v25.2.2.2.2.1)) ≤ ((v25.2.2.2.1).length : Int)) && decide ((0 : Int) ≤ v25.2.2.1 ∧ v25.2.2.1 ≤ (((Int.toNat (IntKind.wrap .i64 (v25.2.2.1 + v25.2.2.2.2.1))) : Nat) : Int))) then (T100 N ((subA (Int.toNat v25.2.2.1) (Int.toNat (IntKind.wrap .i64 (v25.2.2.1 + v25.2.2.2.2.1))) v25.2.2.2.1), v25.2.2.2.2.2)).bind fun y26 => bif (decide ((0 : Int) ≤ (IntKind.wrap .i64 (v25.2.2.1 + v25.2.2.2.2.1)) ∧ (IntKind.wrap .i64 (v25.2.2.1 + v25.2.2.2.2.1)) ≤ ((v25.2.2.2.1).length : Int)) && decide ((0 : Int) ≤ v25.2.2.1 ∧ v25.2.2.1 ≤ (((Int.toNat (IntKind.wrap .i64 (v25.2.2.1 + v25.2.2.2.2.1))) : Nat) : Int))) then (T100 N ((subA (Int.toNat v25.2.2.1) (Int.toNat (IntKind.wrap .i64 (v25.2.2.1 + v25.2.2.2.2.1))) v25.2.2.2.1), v25.2.2.2.2.2)).bind fun y27 => (some (Sum.inl ((if y26 < v25.1 then y26 else v25.1), (if y27 > v25.2.1 then y27 else v25.2.1), (IntKind.wrap .i64 (v25.2.2.1 + 1)), v25.2.2.2.1, v25.2.2.2.2.1, v25.2.2.2.2.2))) else none else none else (some (Sum.inr (v25.1, v25.2.1, v25.2.2.2.1, v25.2.2.2.2.1, v25.2.2.2.2.2))))
noncomputable def R44x7826b (N : Nat) (a0 : List UInt8) (v22 : Int × (List UInt8) × Int) : Option ((Int × (List UInt8) × Int) ⊕ ((Bool × Int × (List UInt8) × Int) ⊕ ((List UInt8) × Int))) :=
  (bif (decide (v22.1 < 3)) then bif (decide ((0 : Int) ≤ v22.1 ∧ v22.1 < (([(AV.str ([78] : List UInt8)), (AV.str ([66] : List UInt8)), (AV.str ([84] : List UInt8))]).length : Int)) && Pat.fits p9 (nthD [(AV.str ([78] : List UInt8)), (AV.str ([66] : List UInt8)), (AV.str ([84] : List UInt8))] (Int.toNat v22.1))) then bif (decide ((0 : Int) ≤ (IntKind.wrap .i64 (0 + v22.2.2)) ∧ (IntKind.wrap .i64 (0 + v22.2.2)) ≤ ((v22.2.1).length : Int)) && decide ((0 : Int) ≤ 0 ∧ 0 ≤ (((Int.toNat (IntKind.wrap .i64 (0 + v22.2.2))) : Nat) : Int))) then (T100 N ((subA (Int.toNat 0) (Int.toNat (IntKind.wrap .i64 (0 + v22.2.2))) v22.2.1), (d9 (nthD [(AV.str ([78] : List UInt8)), (AV.str ([66] : List UInt8)), (AV.str ([84] : List UInt8))] (Int.toNat v22.1))))).bind fun y23 => bif (decide ((0 : Int) ≤ (IntKind.wrap .i64 (0 + v22.2.2)) ∧ (IntKind.wrap .i64 (0 + v22.2.2)) ≤ ((v22.2.1).length : Int)) && decide ((0 : Int) ≤ 0 ∧ 0 ≤ (((Int.toNat (IntKind.wrap .i64 (0 + v22.2.2))) : Nat) : Int))) then (T100 N ((subA (Int.toNat 0) (Int.toNat (IntKind.wrap .i64 (0 + v22.2.2))) v22.2.1), (d9 (nthD [(AV.str ([78] : List UInt8)), (AV.str ([66] : List UInt8)), (AV.str ([84] : List UInt8))] (Int.toNat v22.1))))).bind fun y24 => ((loopR (V := Int × Int × Int × (List UInt8) × Int × (List UInt8)) (X := (Int × Int × (List UInt8) × Int × (List UInt8))) (R44x16028474b N a0) N (y23, y24, 0, v22.2.1, v22.2.2, (d9 (nthD [(AV.str ([78] : List UInt8)), (AV.str ([66] : List UInt8)), (AV.str ([84] : List UInt8))] (Int.toNat v22.1))))).bind fun o29 => (bif (decide ((IntKind.wrap .i64 (o29.2.1 - o29.1)) > 1)) then (some (Sum.inr (Sum.inl (false, 0, o29.2.2.1, o29.2.2.2.1)))) else (some (Sum.inl ((IntKind.wrap .i64 (v22.1 + 1)), o29.2.2.1, o29.2.2.2.1))))) else none else none else none else (some (Sum.inr (Sum.inr (v22.2.1, v22.2.2)))))
noncomputable def R44x122 (N : Nat) (a0 : List UInt8) (v2 : Int × (List UInt8) × Int) : Option ((Int × (List UInt8) × Int) ⊕ (((List UInt8) × Int) ⊕ (Bool × Int × (List UInt8) × Int))) :=
  (bif (decide ((IntKind.wrap .i64 (v2.1 + 1)) < (((a0).length : Nat) : Int))) then ((loopR (V := Int × (List UInt8) × Int × Int) (X := (Bool × Int × (List UInt8) × Int × Int) ⊕ ((List UInt8) × Int × Int)) (R44x7826 N a0) N (0, v2.2.1, v2.2.2, (IntKind.wrap .i64 (v2.1 + 1)))).bind fun o15 => (Sum.elim (fun o16 => (some (Sum.inr (Sum.inr (o16.1, o16.2.1, o16.2.2.1, o16.2.2.2.1))))) (fun o17 => (some (Sum.inl (o17.2.2, o17.1, o17.2.1)))) o15)) else (some (Sum.inr (Sum.inl (v2.2.1, v2.2.2)))))
theorem T44_eq (N : Nat) (a0 : List UInt8) : T44 N a0 =
  (T21 N a0).bind fun y1 => (bif (y1 != 0) then some (false, y1) else bif decide ((a0).length + (a0).length ≤ 9223372036854775807) then ((((bif (decide (1 < (((a0).length : Nat) : Int))) then ((loopR (V := Int × (List UInt8) × Int) (X := (Bool × Int × (List UInt8) × Int) ⊕ ((List UInt8) × Int)) (R44x7826b N a0) N (0, (a0 ++ a0), 1)).bind fun o34 => (Sum.elim (fun o35 => (some (Sum.inr (Sum.inr (o35.1, o35.2.1, o35.2.2.1, o35.2.2.2))))) (fun o36 => (some (Sum.inl (o36.2, o36.1, o36.2)))) o34)) else (some (Sum.inr (Sum.inl ((a0 ++ a0), 1))))) : Option ((Int × (List UInt8) × Int) ⊕ (((List UInt8) × Int) ⊕ (Bool × Int × (List UInt8) × Int)))).bind fun r44 => (Sum.elim (fun x45 => (loopR (V := Int × (List UInt8) × Int) (X := ((List UInt8) × Int) ⊕ (Bool × Int × (List UInt8) × Int)) (R44x122 N a0) N x45)) (fun x45 => some x45) r44 : Option (((List UInt8) × Int) ⊕ (Bool × Int × (List UInt8) × Int)))).bind fun o41 => (Sum.elim (fun o42 => some (true, 0)) (fun o43 => some (o43.1, o43.2.1)) o41)) else none) := by kernel_rfl

-- "codend/taper.rotated"
noncomputable def T102 (N : Nat) : (List UInt8) × Int → Option ((List UInt8)) := (cx N [] []).fn 1000 102 (.cons .str (.cons (.int .i64) .nil)) .str
noncomputable def e102 (N : Nat) : Entry := ⟨(.cons .str (.cons (.int .i64) .nil)), .str, T102 N⟩
theorem T102_ok (N : Nat) : EntryOk envS 102 (e102 N) := Ctx.fn_ok (fun _ _ h => by cases h) (by kernel_rfl) (by kernel_rfl)
theorem T102_eq (N : Nat) (a0 : List UInt8) (a1 : Int) : T102 N (a0, a1) =
  bif decide ((0 : Int) ≤ (((a0).length : Nat) : Int) ∧ (((a0).length : Nat) : Int) ≤ (((a0).length : Nat) : Int) ∧ (((a0).length : Nat) : Int) ≤ 140737488355328 ∧ (((a0).length : Nat) : Int) * 1 ≤ 140737488355328) then bif decide ((0 : Int) ≤ a1 ∧ a1 ≤ (((a0).length : Nat) : Int)) then bif Nat.ble (0 + List.length (List.take (Nat.min (List.length (subA (Int.toNat a1) (a0).length a0)) (Int.toNat (((a0).length : Nat) : Int))) (subA (Int.toNat a1) (a0).length a0))) (List.length (cellsL (List.replicate (Int.toNat (((a0).length : Nat) : Int)) (AV.int .u8 0)))) then bif decide ((0 : Int) ≤ (IntKind.wrap .i64 ((((a0).length : Nat) : Int) - a1)) ∧ (IntKind.wrap .i64 ((((a0).length : Nat) : Int) - a1)) ≤ (((Int.toNat (((a0).length : Nat) : Int)) : Nat) : Int)) then bif (decide ((0 : Int) ≤ a1 ∧ a1 ≤ ((a0).length : Int)) && true) then bif Nat.ble ((bif Nat.beq (Int.toNat (((a0).length : Nat) : Int)) (Int.toNat (IntKind.wrap .i64 ((((a0).length : Nat) : Int) - a1))) then 0 else 0 + (Int.toNat (IntKind.wrap .i64 ((((a0).length : Nat) : Int) - a1))) * 1) + List.length (List.take (Nat.min (List.length (subA 0 (Int.toNat a1) a0)) ((Int.toNat (((a0).length : Nat) : Int)) - (Int.toNat (IntKind.wrap .i64 ((((a0).length : Nat) : Int) - a1))))) (subA 0 (Int.toNat a1) a0))) (List.length (splice (cellsL (List.replicate (Int.toNat (((a0).length : Nat) : Int)) (AV.int .u8 0))) 0 (List.map byteA (List.take (Nat.min (List.length (subA (Int.toNat a1) (a0).length a0)) (Int.toNat (((a0).length : Nat) : Int))) (subA (Int.toNat a1) (a0).length a0))))) then bif (Nat.ble (0 + (Int.toNat (((a0).length : Nat) : Int))) (List.length (splice (splice (cellsL (List.replicate (Int.toNat (((a0).length : Nat) : Int)) (AV.int .u8 0))) 0 (List.map byteA (List.take (Nat.min (List.length (subA (Int.toNat a1) (a0).length a0)) (Int.toNat (((a0).length : Nat) : Int))) (subA (Int.toNat a1) (a0).length a0)))) (bif Nat.beq (Int.toNat (((a0).length : Nat) : Int)) (Int.toNat (IntKind.wrap .i64 ((((a0).length : Nat) : Int) - a1))) then 0 else 0 + (Int.toNat (IntKind.wrap .i64 ((((a0).length : Nat) : Int) - a1))) * 1) (List.map byteA (List.take (Nat.min (List.length (subA 0 (Int.toNat a1) a0)) ((Int.toNat (((a0).length : Nat) : Int)) - (Int.toNat (IntKind.wrap .i64 ((((a0).length : Nat) : Int) - a1))))) (subA 0 (Int.toNat a1) a0))))) && allFit (Pat.fits (.int .u8)) (subA 0 (0 + (Int.toNat (((a0).length : Nat) : Int))) (splice (splice (cellsL (List.replicate (Int.toNat (((a0).length : Nat) : Int)) (AV.int .u8 0))) 0 (List.map byteA (List.take (Nat.min (List.length (subA (Int.toNat a1) (a0).length a0)) (Int.toNat (((a0).length : Nat) : Int))) (subA (Int.toNat a1) (a0).length a0)))) (bif Nat.beq (Int.toNat (((a0).length : Nat) : Int)) (Int.toNat (IntKind.wrap .i64 ((((a0).length : Nat) : Int) - a1))) then 0 else 0 + (Int.toNat (IntKind.wrap .i64 ((((a0).length : Nat) : Int) - a1))) * 1) (List.map byteA (List.take (Nat.min (List.length (subA 0 (Int.toNat a1) a0)) ((Int.toNat (((a0).length : Nat) : Int)) - (Int.toNat (IntKind.wrap .i64 ((((a0).length : Nat) : Int) - a1))))) (subA 0 (Int.toNat a1) a0)))))) then some (bytesD (subA 0 (0 + (Int.toNat (((a0).length : Nat) : Int))) (splice (splice (cellsL (List.replicate (Int.toNat (((a0).length : Nat) : Int)) (AV.int .u8 0))) 0 (List.map byteA (List.take (Nat.min (List.length (subA (Int.toNat a1) (a0).length a0)) (Int.toNat (((a0).length : Nat) : Int))) (subA (Int.toNat a1) (a0).length a0)))) (bif Nat.beq (Int.toNat (((a0).length : Nat) : Int)) (Int.toNat (IntKind.wrap .i64 ((((a0).length : Nat) : Int) - a1))) then 0 else 0 + (Int.toNat (IntKind.wrap .i64 ((((a0).length : Nat) : Int) - a1))) * 1) (List.map byteA (List.take (Nat.min (List.length (subA 0 (Int.toNat a1) a0)) ((Int.toNat (((a0).length : Nat) : Int)) - (Int.toNat (IntKind.wrap .i64 ((((a0).length : Nat) : Int) - a1))))) (subA 0 (Int.toNat a1) a0)))))) else none else none else none else none else none else none else none := by kernel_rfl

-- "codend/taper.Rotate"
noncomputable def T45 (N : Nat) : (List UInt8) × Int → Option ((List UInt8) × Int) := (cx N [(21, e21 N), (75, e75 N), (101, e101 N), (102, e102 N)] []).fn 1000 45 (.cons .str (.cons (.int .i64) .nil)) (.tup (.cons .str (.cons (.int .i64) .nil)))
noncomputable def e45 (N : Nat) : Entry := ⟨(.cons .str (.cons (.int .i64) .nil)), (.tup (.cons .str (.cons (.int .i64) .nil))), T45 N⟩
theorem T45_ok (N : Nat) : EntryOk envS 45 (e45 N) := Ctx.fn_ok (tabF_ok (by intro a e h; simp only [List.mem_cons, Prod.mk.injEq, List.not_mem_nil, or_false] at h; rcases h with ⟨rfl, rfl⟩ | ⟨rfl, rfl⟩ | ⟨rfl, rfl⟩ | ⟨rfl, rfl⟩; exact T21_ok N; exact T75_ok N; exact T101_ok N; exact T102_ok N)) (by kernel_rfl) (by kernel_rfl)
theorem T45_eq (N : Nat) (a0 : List UInt8) (a1 : Int) : T45 N (a0, a1) =
  (T21 N a0).bind fun y1 => (T101 N (a1, 0, 999999999)).bind fun y2 => ((bif (allFit (Pat.fits p23) [(AV.int .i64 y1), (AV.int .i64 y2)] && true) then some (List.map d23 [(AV.int .i64 y1), (AV.int .i64 y2)]) else none : Option ((List Int))).bind fun x4 => (T75 N x4).bind fun y3 => (bif (y3 != 0) then some (([] : List UInt8), y3) else bif !(decide ((((a0).length : Nat) : Int) = 0)) then (T102 N (a0, (Int.tmod a1 (((a0).length : Nat) : Int)))).bind fun y5 => some (y5, 0) else none)) := by kernel_rfl

-- "codend/taper.Power"
noncomputable def T47 (N : Nat) : (List UInt8) × Int → Option ((List UInt8) × Int) := (cx N [(21, e21 N), (75, e75 N), (76, e76 N), (101, e101 N), (104, e104 N)] []).fn 1000 47 (.cons .str (.cons (.int .i64) .nil)) (.tup (.cons .str (.cons (.int .i64) .nil)))
noncomputable def e47 (N : Nat) : Entry := ⟨(.cons .str (.cons (.int .i64) .nil)), (.tup (.cons .str (.cons (.int .i64) .nil))), T47 N⟩
theorem T47_ok (N : Nat) : EntryOk envS 47 (e47 N) := Ctx.fn_ok (tabF_ok (by intro a e h; simp only [List.mem_cons, Prod.mk.injEq, List.not_mem_nil, or_false] at h; rcases h with ⟨rfl, rfl⟩ | ⟨rfl, rfl⟩ | ⟨rfl, rfl⟩ | ⟨rfl, rfl⟩ | ⟨rfl, rfl⟩; exact T21_ok N; exact T75_ok N; exact T76_ok N; exact T101_ok N; exact T104_ok N)) (by kernel_rfl) (by kernel_rfl)
theorem T47_eq (N : Nat) (a0 : List UInt8) (a1 : Int) : T47 N (a0, a1) =
  (T21 N a0).bind fun y1 => (T101 N (a1, 1, 64)).bind fun y2 => (T76 N ((decide ((IntKind.wrap .i64 ((((a0).length : Nat) : Int) * (if 64 < a1 then 64 else a1))) > 64)), 26)).bind fun y3 => ((bif (allFit (Pat.fits p23) [(AV.int .i64 y1), (AV.int .i64 y2), (AV.int .i64 y3)] && true) then some (List.map d23 [(AV.int .i64 y1), (AV.int .i64 y2), (AV.int .i64 y3)]) else none : Option ((List Int))).bind fun x5 => (T75 N x5).bind fun y4 => (bif (y4 != 0) then some (([] : List UInt8), y4) else (T104 N (a0, a1)).bind fun y6 => some (y6, 0))) := by kernel_rfl

def c48 : List (Nat × Cert) := [(60, .loop [] ⟨(.cons (.int .i64) .nil), [6], [], [], [], []⟩ [(.ex 0, ⟨(.cons (.int .i64) .nil), [6], [], [], [], []⟩)])]
-- "codend/taper.Root"
noncomputable def T48 (N : Nat) : (List UInt8) → Option ((List UInt8) × Int × Int) := (cx N [(21, e21 N), (102, e102 N)] [(48, c48)]).fn 1000 48 (.cons .str .nil) (.tup (.cons .str (.cons (.int .i64) (.cons (.int .i64) .nil))))
noncomputable def e48 (N : Nat) : Entry := ⟨(.cons .str .nil), (.tup (.cons .str (.cons (.int .i64) (.cons (.int .i64) .nil)))), T48 N⟩
theorem T48_ok (N : Nat) : EntryOk envS 48 (e48 N) := Ctx.fn_ok (tabF_ok (by intro a e h; simp only [List.mem_cons, Prod.mk.injEq, List.not_mem_nil, or_false] at h; rcases h with ⟨rfl, rfl⟩ | ⟨rfl, rfl⟩; exact T21_ok N; exact T102_ok N)) (by kernel_rfl) (by kernel_rfl)
noncomputable def R48x60 (N : Nat) (a0 : List UInt8) (v2 : Int) : Option (Int ⊕ Int) :=
  bif !(decide ((((a0).length : Nat) : Int) = 0)) then (T102 N (a0, (Int.tmod v2 (((a0).length : Nat) : Int)))).bind fun y3 => (bif (!(y3 == a0)) then (some (Sum.inl (IntKind.wrap .i64 (v2 + 1)))) else (some (Sum.inr v2))) else none
theorem T48_eq (N : Nat) (a0 : List UInt8) : T48 N a0 =
  (T21 N a0).bind fun y1 => (bif (y1 != 0) then some (([] : List UInt8), 0, y1) else ((loopR (V := Int) (X := Int) (R48x60 N a0) N 1).bind fun o5 => bif (decide ((0 : Int) ≤ o5 ∧ o5 ≤ ((a0).length : Int)) && true) then bif !(decide (o5 = 0)) then some ((subA 0 (Int.toNat o5) a0), (IntKind.wrap .i64 (Int.tdiv (((a0).length : Nat) : Int) o5)), 0) else none else none)) := by kernel_rfl

def c49 : List (Nat × Cert) := [(122, .loop [] ⟨(.cons .str (.cons (.int .i64) .nil)), [5, 15], [], [], [], []⟩ [(.ex 0, ⟨(.cons .str .nil), [5], [], [], [], []⟩)])]
-- "codend/taper.Least"
noncomputable def T49 (N : Nat) : (List UInt8) → Option ((List UInt8) × Int) := (cx N [(21, e21 N), (102, e102 N)] [(49, c49)]).fn 1000 49 (.cons .str .nil) (.tup (.cons .str (.cons (.int .i64) .nil)))
noncomputable def e49 (N : Nat) : Entry := ⟨(.cons .str .nil), (.tup (.cons .str (.cons (.int .i64) .nil))), T49 N⟩
theorem T49_ok (N : Nat) : EntryOk envS 49 (e49 N) := Ctx.fn_ok (tabF_ok (by intro a e h; simp only [List.mem_cons, Prod.mk.injEq, List.not_mem_nil, or_false] at h; rcases h with ⟨rfl, rfl⟩ | ⟨rfl, rfl⟩; exact T21_ok N; exact T102_ok N)) (by kernel_rfl) (by kernel_rfl)
noncomputable def R49x122 (N : Nat) (a0 : List UInt8) (v2 : (List UInt8) × Int) : Option (((List UInt8) × Int) ⊕ (((List UInt8)))) :=
  (bif (decide (v2.2 < (((a0).length : Nat) : Int))) then (T102 N (a0, v2.2)).bind fun y3 => (some (Sum.inl ((bif (Op.bytesLess v2.1 y3 || v2.1 == y3) then v2.1 else y3), (IntKind.wrap .i64 (v2.2 + 1))))) else (some (Sum.inr v2.1)))
theorem T49_eq (N : Nat) (a0 : List UInt8) : T49 N a0 =
  (T21 N a0).bind fun y1 => (bif (y1 != 0) then some (([] : List UInt8), y1) else ((loopR (V := (List UInt8) × Int) (X := ((List UInt8))) (R49x122 N a0) N (a0, 0)).bind fun o5 => some (o5, 0))) := by kernel_rfl

def c53 : List (Nat × Cert) := [(58, .loop [] ⟨(.cons .str (.cons (.int .i64) .nil)), [5, 6], [], [], [], []⟩ [(.ex 0, ⟨(.cons .str .nil), [5], [], [], [], []⟩)])]
-- "codend/codendref02.Power"
noncomputable def T53 (N : Nat) : (List UInt8) × Int → Option ((List UInt8)) := (cx N [] [(53, c53)]).fn 1000 53 (.cons .str (.cons (.int .i64) .nil)) .str
noncomputable def e53 (N : Nat) : Entry := ⟨(.cons .str (.cons (.int .i64) .nil)), .str, T53 N⟩
theorem T53_ok (N : Nat) : EntryOk envS 53 (e53 N) := Ctx.fn_ok (fun _ _ h => by cases h) (by kernel_rfl) (by kernel_rfl)
noncomputable def R53x58 (N : Nat) (a0 : List UInt8) (a1 : Int) (v1 : (List UInt8) × Int) : Option (((List UInt8) × Int) ⊕ (((List UInt8)))) :=
  (bif (decide (v1.2 < a1)) then bif decide ((v1.1).length + (a0).length ≤ 9223372036854775807) then (some (Sum.inl ((v1.1 ++ a0), (IntKind.wrap .i64 (v1.2 + 1))))) else none else (some (Sum.inr v1.1)))
theorem T53_eq (N : Nat) (a0 : List UInt8) (a1 : Int) : T53 N (a0, a1) =
  ((loopR (V := (List UInt8) × Int) (X := ((List UInt8))) (R53x58 N a0 a1) N (([] : List UInt8), 0)).bind fun o3 => some o3) := by kernel_rfl

def c50 : List (Nat × Cert) := [(26, .loop [] ⟨(.cons (.int .i64) .nil), [4], [], [], [], []⟩ [(.ret, ⟨(.cons .str (.cons (.int .i64) .nil)), [2, 3], [], [], [], []⟩), (.ex 0, ⟨.nil, [], [], [], [], []⟩)]),
  (840, .join [(.norm, ⟨(.cons .bool .nil), [27], [], [], [], []⟩)])]
-- "codend/codendref02.Root"
noncomputable def T50 (N : Nat) : (List UInt8) → Option ((List UInt8) × Int) := (cx N [(53, e53 N)] [(50, c50)]).fn 1000 50 (.cons .str .nil) (.tup (.cons .str (.cons (.int .i64) .nil)))
noncomputable def e50 (N : Nat) : Entry := ⟨(.cons .str .nil), (.tup (.cons .str (.cons (.int .i64) .nil))), T50 N⟩
theorem T50_ok (N : Nat) : EntryOk envS 50 (e50 N) := Ctx.fn_ok (tabF_ok (by intro a e h; simp only [List.mem_cons, Prod.mk.injEq, List.not_mem_nil, or_false] at h; rcases h with ⟨rfl, rfl⟩; exact T53_ok N)) (by kernel_rfl) (by kernel_rfl)
noncomputable def R50x26 (N : Nat) (a0 : List UInt8) (v1 : Int) : Option (Int ⊕ (((List UInt8) × Int) ⊕ Unit)) :=
  (bif (decide (v1 < (((a0).length : Nat) : Int))) then ((bif !(decide (v1 = 0)) then (bif ((Int.tmod (((a0).length : Nat) : Int) v1) == 0) then bif (decide ((0 : Int) ≤ v1 ∧ v1 ≤ ((a0).length : Int)) && true) then bif !(decide (v1 = 0)) then (T53 N ((subA 0 (Int.toNat v1) a0), (IntKind.wrap .i64 (Int.tdiv (((a0).length : Nat) : Int) v1)))).bind fun y2 => (some (y2 == a0)) else none else none else (some false)) else none : Option Bool).bind fun o3 => (bif o3 then bif (decide ((0 : Int) ≤ v1 ∧ v1 ≤ ((a0).length : Int)) && true) then bif !(decide (v1 = 0)) then (some (Sum.inr (Sum.inl ((subA 0 (Int.toNat v1) a0), (IntKind.wrap .i64 (Int.tdiv (((a0).length : Nat) : Int) v1)))))) else none else none else (some (Sum.inl (IntKind.wrap .i64 (v1 + 1)))))) else (some (Sum.inr (Sum.inr ()))))
theorem T50_eq (N : Nat) (a0 : List UInt8) : T50 N a0 =
  ((loopR (V := Int) (X := ((List UInt8) × Int) ⊕ Unit) (R50x26 N a0) N 1).bind fun o8 => (Sum.elim (fun o9 => some (o9.1, o9.2)) (fun o10 => some (a0, 1)) o8)) := by kernel_rfl

-- "codend/codendref02.Rotate"
noncomputable def T54 (N : Nat) : (List UInt8) × Int → Option ((List UInt8)) := (cx N [] []).fn 1000 54 (.cons .str (.cons (.int .i64) .nil)) .str
noncomputable def e54 (N : Nat) : Entry := ⟨(.cons .str (.cons (.int .i64) .nil)), .str, T54 N⟩
theorem T54_ok (N : Nat) : EntryOk envS 54 (e54 N) := Ctx.fn_ok (fun _ _ h => by cases h) (by kernel_rfl) (by kernel_rfl)
theorem T54_eq (N : Nat) (a0 : List UInt8) (a1 : Int) : T54 N (a0, a1) =
  bif !(decide ((((a0).length : Nat) : Int) = 0)) then bif decide ((0 : Int) ≤ (Int.tmod a1 (((a0).length : Nat) : Int)) ∧ (Int.tmod a1 (((a0).length : Nat) : Int)) ≤ (((a0).length : Nat) : Int)) then bif (decide ((0 : Int) ≤ (Int.tmod a1 (((a0).length : Nat) : Int)) ∧ (Int.tmod a1 (((a0).length : Nat) : Int)) ≤ ((a0).length : Int)) && true) then bif decide (((subA (Int.toNat (Int.tmod a1 (((a0).length : Nat) : Int))) (a0).length a0)).length + ((subA 0 (Int.toNat (Int.tmod a1 (((a0).length : Nat) : Int))) a0)).length ≤ 9223372036854775807) then some ((subA (Int.toNat (Int.tmod a1 (((a0).length : Nat) : Int))) (a0).length a0) ++ (subA 0 (Int.toNat (Int.tmod a1 (((a0).length : Nat) : Int))) a0)) else none else none else none else none := by kernel_rfl

def c51 : List (Nat × Cert) := [(58, .loop [] ⟨(.cons .str (.cons (.int .i64) .nil)), [3, 4], [], [], [], []⟩ [(.ex 0, ⟨(.cons .str .nil), [3], [], [], [], []⟩)]),
  (466, .join [(.norm, ⟨(.cons .str .nil), [3], [], [], [], []⟩)])]
-- "codend/codendref02.Least"
noncomputable def T51 (N : Nat) : (List UInt8) → Option ((List UInt8)) := (cx N [(54, e54 N)] [(51, c51)]).fn 1000 51 (.cons .str .nil) .str
noncomputable def e51 (N : Nat) : Entry := ⟨(.cons .str .nil), .str, T51 N⟩
theorem T51_ok (N : Nat) : EntryOk envS 51 (e51 N) := Ctx.fn_ok (tabF_ok (by intro a e h; simp only [List.mem_cons, Prod.mk.injEq, List.not_mem_nil, or_false] at h; rcases h with ⟨rfl, rfl⟩; exact T54_ok N)) (by kernel_rfl) (by kernel_rfl)
noncomputable def R51x58 (N : Nat) (a0 : List UInt8) (v1 : (List UInt8) × Int) : Option (((List UInt8) × Int) ⊕ (((List UInt8)))) :=
  (bif (decide (v1.2 < (((a0).length : Nat) : Int))) then (((T54 N (a0, v1.2)).bind fun y2 => (bif (Op.bytesLess y2 v1.1) then (some y2) else (some v1.1)) : Option (((List UInt8)))).bind fun o3 => (some (Sum.inl (o3, (IntKind.wrap .i64 (v1.2 + 1)))))) else (some (Sum.inr v1.1)))
theorem T51_eq (N : Nat) (a0 : List UInt8) : T51 N a0 =
  ((loopR (V := (List UInt8) × Int) (X := ((List UInt8))) (R51x58 N a0) N (a0, 1)).bind fun o5 => some o5) := by kernel_rfl

def c105 : List (Nat × Cert) := [(58, .loop [] ⟨(.cons (.int .i64) (.cons (.int .i64) .nil)), [5, 6], [], [], [], []⟩ [(.ex 0, ⟨(.cons (.int .i64) .nil), [5], [], [], [], []⟩)]),
  (466, .join [(.norm, ⟨(.cons (.int .i64) .nil), [5], [], [], [], []⟩)])]
-- "codend/codendref02.count"
noncomputable def T105 (N : Nat) : (List UInt8) × Int → Option Int := (cx N [] [(105, c105)]).fn 1000 105 (.cons .str (.cons (.int .u8) .nil)) (.int .i64)
noncomputable def e105 (N : Nat) : Entry := ⟨(.cons .str (.cons (.int .u8) .nil)), (.int .i64), T105 N⟩
theorem T105_ok (N : Nat) : EntryOk envS 105 (e105 N) := Ctx.fn_ok (fun _ _ h => by cases h) (by kernel_rfl) (by kernel_rfl)
noncomputable def R105x58 (N : Nat) (a0 : List UInt8) (a1 : Int) (v1 : Int × Int) : Option ((Int × Int) ⊕ Int) :=
  (bif (decide (v1.2 < (((a0).length : Nat) : Int))) then ((bif decide ((0 : Int) ≤ v1.2 ∧ v1.2 < ((a0).length : Int)) then (bif (((((a0).getD (Int.toNat v1.2) 0).toNat : Nat) : Int) == a1) then (some (IntKind.wrap .i64 (v1.1 + 1))) else (some v1.1)) else none : Option Int).bind fun o2 => (some (Sum.inl (o2, (IntKind.wrap .i64 (v1.2 + 1)))))) else (some (Sum.inr v1.1)))
theorem T105_eq (N : Nat) (a0 : List UInt8) (a1 : Int) : T105 N (a0, a1) =
  ((loopR (V := Int × Int) (X := Int) (R105x58 N a0 a1) N (0, 0)).bind fun o4 => some o4) := by kernel_rfl

def c52 : List (Nat × Cert) := [(122, .loop [] ⟨(.cons (.int .i64) .nil), [5], [], [], [], []⟩ [(.ret, ⟨(.cons .bool .nil), [2], [], [], [], []⟩), (.ex 0, ⟨.nil, [], [], [], [], []⟩)]),
  (7826, .loop [] ⟨(.cons (.int .i64) .nil), [6], [], [], [], []⟩ [(.ret, ⟨(.cons .bool .nil), [2], [], [], [], []⟩), (.ex 2, ⟨.nil, [], [], [], [], []⟩)]),
  (2003530, .loop [] ⟨(.cons (.int .i64) (.cons (.int .i64) (.cons (.int .i64) .nil))), [7, 8, 9], [], [], [], []⟩ [(.ex 4, ⟨(.cons (.int .i64) (.cons (.int .i64) .nil)), [7, 8], [], [], [], []⟩)])]
-- "codend/codendref02.Balanced"
noncomputable def T52 (N : Nat) : (List UInt8) → Option Bool := (cx N [(105, e105 N)] [(52, c52)]).fn 1000 52 (.cons .str .nil) .bool
noncomputable def e52 (N : Nat) : Entry := ⟨(.cons .str .nil), .bool, T52 N⟩
theorem T52_ok (N : Nat) : EntryOk envS 52 (e52 N) := Ctx.fn_ok (tabF_ok (by intro a e h; simp only [List.mem_cons, Prod.mk.injEq, List.not_mem_nil, or_false] at h; rcases h with ⟨rfl, rfl⟩; exact T105_ok N)) (by kernel_rfl) (by kernel_rfl)
noncomputable def R52x2003530 (N : Nat) (a0 : List UInt8) (v1 : Int) (v2 : Int) (v3 : Int × Int × Int) : Option ((Int × Int × Int) ⊕ ((Int × Int))) :=
  (bif (decide (v3.2.2 < (((a0).length : Nat) : Int))) then bif (decide ((0 : Int) ≤ (IntKind.wrap .i64 (v3.2.2 + v1)) ∧ (IntKind.wrap .i64 (v3.2.2 + v1)) ≤ (((a0 ++ a0)).length : Int)) && decide ((0 : Int) ≤ v3.2.2 ∧ v3.2.2 ≤ (((Int.toNat (IntKind.wrap .i64 (v3.2.2 + v1))) : Nat) : Int))) then bif decide ((0 : Int) ≤ v2 ∧ v2 < ((([78, 66, 84] : List UInt8)).length : Int)) then (T105 N ((subA (Int.toNat v3.2.2) (Int.toNat (IntKind.wrap .i64 (v3.2.2 + v1))) (a0 ++ a0)), ((((([78, 66, 84] : List UInt8)).getD (Int.toNat v2) 0).toNat : Nat) : Int))).bind fun y4 => (some (Sum.inl ((if y4 < v3.1 then y4 else v3.1), (if y4 > v3.2.1 then y4 else v3.2.1), (IntKind.wrap .i64 (v3.2.2 + 1))))) else none else none else (some (Sum.inr (v3.1, v3.2.1))))
noncomputable def R52x7826 (N : Nat) (a0 : List UInt8) (v1 : Int) (v2 : Int) : Option (Int ⊕ (Bool ⊕ Unit)) :=
  (bif (decide (v2 < (((([78, 66, 84] : List UInt8)).length : Nat) : Int))) then ((loopR (V := Int × Int × Int) (X := (Int × Int)) (R52x2003530 N a0 v1 v2) N (v1, 0, 0)).bind fun o6 => (bif (decide ((IntKind.wrap .i64 (o6.2 - o6.1)) > 1)) then (some (Sum.inr (Sum.inl false))) else (some (Sum.inl (IntKind.wrap .i64 (v2 + 1)))))) else (some (Sum.inr (Sum.inr ()))))
noncomputable def R52x122 (N : Nat) (a0 : List UInt8) (v1 : Int) : Option (Int ⊕ (Bool ⊕ Unit)) :=
  (bif (decide (v1 < (((a0).length : Nat) : Int))) then ((loopR (V := Int) (X := Bool ⊕ Unit) (R52x7826 N a0 v1) N 0).bind fun o11 => (Sum.elim (fun o12 => (some (Sum.inr (Sum.inl o12)))) (fun o13 => (some (Sum.inl (IntKind.wrap .i64 (v1 + 1))))) o11)) else (some (Sum.inr (Sum.inr ()))))
theorem T52_eq (N : Nat) (a0 : List UInt8) : T52 N a0 =
  bif decide ((a0).length + (a0).length ≤ 9223372036854775807) then ((loopR (V := Int) (X := Bool ⊕ Unit) (R52x122 N a0) N 1).bind fun o18 => (Sum.elim (fun o19 => some o19) (fun o20 => some true) o18)) else none := by kernel_rfl

def c10 : List (Nat × Cert) := [(12, .join [(.norm, ⟨(.cons .bool .nil), [31], [], [], [], []⟩)]),
  (16381, .join [(.norm, ⟨(.cons (.int .i64) (.cons (.int .i64) (.cons .str (.cons .str (.cons .str (.cons .str (.cons (.int .i64) (.cons .bool .nil)))))))), [17, 18, 19, 20, 21, 22, 23, 24], [], [], [], []⟩)]),
  (16382, .join [(.norm, ⟨(.cons .bool .nil), [4], [], [], [], []⟩)]),
  (524206, .join [(.norm, ⟨(.cons (.int .i64) (.cons .str .nil)), [17, 19], [], [], [], []⟩)]),
  (1048414, .join [(.norm, ⟨(.cons .bool .nil), [97], [], [], [], []⟩)]),
  (2096824, .join [(.norm, ⟨(.cons .bool .nil), [79], [], [], [], []⟩)])]
-- "codend/codendlaw02.TaperChanges"
noncomputable def T10 (N : Nat) : (List UInt8) × Int → Option Bool := (cx N [(15, e15 N), (18, e18 N), (22, e22 N), (44, e44 N), (45, e45 N), (47, e47 N), (48, e48 N), (49, e49 N), (50, e50 N), (51, e51 N), (52, e52 N), (53, e53 N), (54, e54 N)] [(10, c10)]).fn 1000 10 (.cons .str (.cons (.int .i64) .nil)) .bool
noncomputable def e10 (N : Nat) : Entry := ⟨(.cons .str (.cons (.int .i64) .nil)), .bool, T10 N⟩
theorem T10_ok (N : Nat) : EntryOk envS 10 (e10 N) := Ctx.fn_ok (tabF_ok (by intro a e h; simp only [List.mem_cons, Prod.mk.injEq, List.not_mem_nil, or_false] at h; rcases h with ⟨rfl, rfl⟩ | ⟨rfl, rfl⟩ | ⟨rfl, rfl⟩ | ⟨rfl, rfl⟩ | ⟨rfl, rfl⟩ | ⟨rfl, rfl⟩ | ⟨rfl, rfl⟩ | ⟨rfl, rfl⟩ | ⟨rfl, rfl⟩ | ⟨rfl, rfl⟩ | ⟨rfl, rfl⟩ | ⟨rfl, rfl⟩ | ⟨rfl, rfl⟩; exact T15_ok N; exact T18_ok N; exact T22_ok N; exact T44_ok N; exact T45_ok N; exact T47_ok N; exact T48_ok N; exact T49_ok N; exact T50_ok N; exact T51_ok N; exact T52_ok N; exact T53_ok N; exact T54_ok N)) (by kernel_rfl) (by kernel_rfl)
theorem T10_eq (N : Nat) (a0 : List UInt8) (a1 : Int) : T10 N (a0, a1) =
  (((T15 N ()).bind fun y1 => (bif (!y1) then (some true) else (some (decide ((((a0).length : Nat) : Int) > 70)))) : Option Bool).bind fun o2 => (bif o2 then (T15 N ()).bind fun y3 => some y3 else (T47 N (a0, a1)).bind fun y4 => (T45 N (a0, a1)).bind fun y5 => (T48 N a0).bind fun y6 => (T49 N a0).bind fun y7 => (T44 N a0).bind fun y8 => (T18 N a0).bind fun y9 => (((bif (y9 == 0) then (T50 N a0).bind fun y10 => (T51 N a0).bind fun y11 => (T52 N a0).bind fun y12 => (((((bif (decide (a1 < 1)) then (some true) else (some (decide (a1 > 64)))) : Option Bool).bind fun o13 => (bif o13 then (some (3, ([] : List UInt8))) else (bif (decide ((IntKind.wrap .i64 (a1 * (((a0).length : Nat) : Int))) > 64)) then (some (26, ([] : List UInt8))) else (T53 N (a0, a1)).bind fun y14 => (some (y9, y14))))) : Option ((Int × (List UInt8)))).bind fun o15 => (((bif (decide (a1 < 0)) then (some true) else (some (decide (a1 > 999999999)))) : Option Bool).bind fun o16 => (bif o16 then (some (o15.1, 3, o15.2, ([] : List UInt8), y10.1, y11, y10.2, y12)) else (T54 N (a0, a1)).bind fun y17 => (some (o15.1, y9, o15.2, y17, y10.1, y11, y10.2, y12))))) else (some (y9, y9, ([] : List UInt8), ([] : List UInt8), ([] : List UInt8), ([] : List UInt8), 0, false))) : Option ((Int × Int × (List UInt8) × (List UInt8) × (List UInt8) × (List UInt8) × Int × Bool))).bind fun o18 => (((T22 N (y4.1, y4.2, o18.1, o18.2.2.1)).bind fun y19 => (bif y19 then (T22 N (y5.1, y5.2, o18.2.1, o18.2.2.2.1)).bind fun y20 => (bif y20 then (bif (y6.2.2 == y9) then (bif (y6.1 == o18.2.2.2.2.1) then (bif (y6.2.1 == o18.2.2.2.2.2.2.1) then (T22 N (y7.1, y7.2, y9, o18.2.2.2.2.2.1)).bind fun y21 => (bif y21 then (bif (y8.2 == y9) then (some (y8.1 == o18.2.2.2.2.2.2.2)) else (some false)) else (some false)) else (some false)) else (some false)) else (some false)) else (some false)) else (some false)) : Option Bool).bind fun o22 => some o22)))) := by kernel_rfl
end Go.Proofs.YtbfappllfpngdaaGreatDoor
