/- What the functions compute (printed by a program of ours, checked by the kernel). -/
import Derived.Test.YtophnjjjmikmeaaGreatOttT
set_option linter.all false
namespace Go.Proofs.YtophnjjjmikmeaaGreat
open Go Go.Am
set_option maxRecDepth 100000
abbrev p3 : aB := (.int .i64)
abbrev d3 (v : AV) : Int := aB.bf p3 v
abbrev n3 (x : Int) : AV := aB.enc p3 x
noncomputable def Rt (N : Nat) : (Int × Int × Int) → Option ((Int × Int × Int × Int)) := (cx N [] []).fn 1000 73 (.cons (.agg (.cons (.int .i64) (.cons (.int .i64) (.cons (.int .i64) .nil)))) .nil) (.agg (.cons (.int .i64) (.cons (.int .i64) (.cons (.int .i64) (.cons (.int .i64) .nil)))))
noncomputable def Ve (N : Nat) : a8 := ⟨(.cons (.agg (.cons (.int .i64) (.cons (.int .i64) (.cons (.int .i64) .nil)))) .nil), (.agg (.cons (.int .i64) (.cons (.int .i64) (.cons (.int .i64) (.cons (.int .i64) .nil))))), Rt N⟩
theorem Nq (N : Nat) : au cr 73 (Ve N) := fF.bT (fun _ _ h => by cases h) (by kernel_rfl) (by kernel_rfl)
theorem Nr (N : Nat) (a0 : Int × Int × Int) : Rt N a0 =
  some (a0.1, a0.2.1, (IntKind.wrap .i64 (a0.1 + a0.2.2)), (IntKind.wrap .i64 (a0.2.1 + 1))) := by kernel_rfl
def WT : List (Nat × eV) := [(12, .join [(.norm, ⟨(.cons (.int .i64) .nil), [3], [], [], [], []⟩)])]
noncomputable def Qr (N : Nat) : (Int × Int × Int) → Option Int := (cx N [(40, P0 N), (41, Q9 N), (45, P2 N), (46, Tn N), (73, Ve N)] [(53, WT)]).fn 1000 53 (.cons (.agg (.cons (.int .i64) (.cons (.int .i64) (.cons (.int .i64) .nil)))) .nil) (.int .i64)
noncomputable def Vf (N : Nat) : a8 := ⟨(.cons (.agg (.cons (.int .i64) (.cons (.int .i64) (.cons (.int .i64) .nil)))) .nil), (.int .i64), Qr N⟩
theorem Ns (N : Nat) : au cr 53 (Vf N) := fF.bT (bt (by intro a e h; simp only [List.mem_cons, Prod.mk.injEq, List.not_mem_nil, or_false] at h; rcases h with ⟨rfl, rfl⟩ | ⟨rfl, rfl⟩ | ⟨rfl, rfl⟩ | ⟨rfl, rfl⟩ | ⟨rfl, rfl⟩; exact ym N; exact Cd N; exact yo N; exact GS N; exact Nq N)) (by kernel_rfl) (by kernel_rfl)
theorem Nt (N : Nat) (a0 : Int × Int × Int) : Qr N a0 =
  (((Mu N (a0.1, a0.2.1)).bind fun y1 => bif ((a0.2.2 == a0.2.2) && true) then (bif (a0.2.2 != (-1)) then (HP N ((a0.2.2 != 1), 13)).bind fun y2 => ((bif (allFit (aB.fits uQ) [(AV.int .i64 y1), (AV.int .i64 y2)] && true) then some (List.map d30 [(AV.int .i64 y1), (AV.int .i64 y2)]) else none : Option ((List Int))).bind fun x4 => (EM N x4).bind fun y3 => (some y3)) else (HP N (false, 13)).bind fun y5 => ((bif (allFit (aB.fits uQ) [(AV.int .i64 y1), (AV.int .i64 y5)] && true) then some (List.map d30 [(AV.int .i64 y1), (AV.int .i64 y5)]) else none : Option ((List Int))).bind fun x7 => (EM N x7).bind fun y6 => (some y6))) else none : Option Int).bind fun o8 => (bif (o8 != 0) then some o8 else (Rt N (a0.1, a0.2.1, a0.2.2)).bind fun y9 => (Ou N (y9.2.2.1, y9.2.2.2)).bind fun TB => some TB)) := by kernel_rfl
noncomputable def Jx (N : Nat) : Int → Option Bool := (cx N [] []).fn 1000 100 (.cons (.int .i64) .nil) .bool
noncomputable def Qs (N : Nat) : a8 := ⟨(.cons (.int .i64) .nil), .bool, Jx N⟩
theorem Jy (N : Nat) : au cr 100 (Qs N) := fF.bT (fun _ _ h => by cases h) (by kernel_rfl) (by kernel_rfl)
theorem Jz (N : Nat) (a0 : Int) : Jx N a0 =
  some (a0 != a0) := by kernel_rfl
noncomputable def Oy (N : Nat) : Int × Int → Option Int := (cx N [(100, Qs N)] []).fn 1000 77 (.cons (.int .i64) (.cons (.int .i64) .nil)) (.int .i64)
noncomputable def Vg (N : Nat) : a8 := ⟨(.cons (.int .i64) (.cons (.int .i64) .nil)), (.int .i64), Oy N⟩
theorem Nu (N : Nat) : au cr 77 (Vg N) := fF.bT (bt (by intro a e h; simp only [List.mem_cons, Prod.mk.injEq, List.not_mem_nil, or_false] at h; rcases h with ⟨rfl, rfl⟩; exact Jy N)) (by kernel_rfl) (by kernel_rfl)
theorem Nv (N : Nat) (a0 : Int) (a1 : Int) : Oy N (a0, a1) =
  (Jx N a0).bind fun y1 => (Jx N a1).bind fun y2 => (bif y1 then (bif y2 then some 0 else some (-1)) else (bif y2 then some 1 else (bif (decide (a0 < a1)) then some (-1) else (bif (decide (a0 > a1)) then some 1 else some 0)))) := by kernel_rfl
def WU : List (Nat × eV) := [(58, .loop [] ⟨(.cons (.int .i64) .nil), [8], [], [], [], []⟩ [(.ret, ⟨(.cons (.int .i64) .nil), [2], [], [], [], []⟩), (.ex 0, ⟨.nil, [], [], [], [], []⟩)])]
noncomputable def Ru (N : Nat) : (List Int) → Option Int := (cx N [] [(76, WU)]).fn 1000 76 (.cons (.list 1 (.int .i64)) .nil) (.int .i64)
noncomputable def Vh (N : Nat) : a8 := ⟨(.cons (.list 1 (.int .i64)) .nil), (.int .i64), Ru N⟩
theorem Nw (N : Nat) : au cr 76 (Vh N) := fF.bT (fun _ _ h => by cases h) (by kernel_rfl) (by kernel_rfl)
noncomputable def yu (N : Nat) (a0 : List Int) (v1 : Int) : Option (Int ⊕ (Int ⊕ Unit)) :=
  (bif (decide (v1 < ((((List.map n3 a0)).length : Nat) : Int))) then bif (decide ((0 : Int) ≤ v1 ∧ v1 < (((List.map n3 a0)).length : Int)) && aB.fits p3 (aY (List.map n3 a0) (Int.toNat v1))) then (bif ((d3 (aY (List.map n3 a0) (Int.toNat v1))) != 0) then (some (Sum.inr (Sum.inl (d3 (aY (List.map n3 a0) (Int.toNat v1)))))) else (some (Sum.inl (IntKind.wrap .i64 (v1 + 1))))) else none else (some (Sum.inr (Sum.inr ()))))
theorem Nx (N : Nat) (a0 : List Int) : Ru N a0 =
  ((bQ (V := Int) (X := Int ⊕ Unit) (yu N a0) N 0).bind fun o6 => (Sum.elim (fun o7 => some o7) (fun o8 => some 0) o6)) := by kernel_rfl
noncomputable def Qt (N : Nat) : (Int × Int × Int) × (Int × Int × Int) → Option Int := (cx N [(76, Vh N), (77, Vg N)] []).fn 1000 72 (.cons (.agg (.cons (.int .i64) (.cons (.int .i64) (.cons (.int .i64) .nil)))) (.cons (.agg (.cons (.int .i64) (.cons (.int .i64) (.cons (.int .i64) .nil)))) .nil)) (.int .i64)
noncomputable def Vi (N : Nat) : a8 := ⟨(.cons (.agg (.cons (.int .i64) (.cons (.int .i64) (.cons (.int .i64) .nil)))) (.cons (.agg (.cons (.int .i64) (.cons (.int .i64) (.cons (.int .i64) .nil)))) .nil)), (.int .i64), Qt N⟩
theorem Ny (N : Nat) : au cr 72 (Vi N) := fF.bT (bt (by intro a e h; simp only [List.mem_cons, Prod.mk.injEq, List.not_mem_nil, or_false] at h; rcases h with ⟨rfl, rfl⟩ | ⟨rfl, rfl⟩; exact Nw N; exact Nu N)) (by kernel_rfl) (by kernel_rfl)
theorem Nz (N : Nat) (a0 : Int × Int × Int) (a1 : Int × Int × Int) : Qt N (a0, a1) =
  (Oy N (a0.2.1, a1.2.1)).bind fun y1 => bif ((a1.2.2 == a1.2.2) && ((a0.2.2 == a0.2.2) && ((a1.1 == a1.1) && ((a0.1 == a0.1) && true)))) then (Oy N (a0.1, a1.1)).bind fun y2 => bif ((a1.2.2 == a1.2.2) && ((a0.2.2 == a0.2.2) && true)) then (Oy N (a0.2.2, a1.2.2)).bind fun y3 => ((bif (allFit (aB.fits p3) [(AV.int .i64 y1), (AV.int .i64 y2), (AV.int .i64 y3)] && true) then some (List.map d3 [(AV.int .i64 y1), (AV.int .i64 y2), (AV.int .i64 y3)]) else none : Option ((List Int))).bind fun x5 => (Ru N x5).bind fun y4 => some y4) else none else none := by kernel_rfl
def WV : List (Nat × eV) := [(58, .loop [] ⟨(.cons (.int .i64) .nil), [11], [], [], [], []⟩ [(.ret, ⟨(.cons (.int .i64) .nil), [2], [], [], [], []⟩), (.ex 0, ⟨.nil, [], [], [], [], []⟩)]),
  (7474, .join [(.norm, ⟨(.cons (.int .i64) .nil), [5], [], [], [], []⟩)])]
noncomputable def Rv (N : Nat) : (List (Int × Int × Int)) → Option Int := (cx N [(40, P0 N), (45, P2 N), (53, Vf N), (72, Vi N)] [(33, WV)]).fn 1000 33 (.cons (.list 3 (.agg (.cons (.int .i64) (.cons (.int .i64) (.cons (.int .i64) .nil))))) .nil) (.int .i64)
noncomputable def WW (N : Nat) : a8 := ⟨(.cons (.list 3 (.agg (.cons (.int .i64) (.cons (.int .i64) (.cons (.int .i64) .nil))))) .nil), (.int .i64), Rv N⟩
theorem NA (N : Nat) : au cr 33 (WW N) := fF.bT (bt (by intro a e h; simp only [List.mem_cons, Prod.mk.injEq, List.not_mem_nil, or_false] at h; rcases h with ⟨rfl, rfl⟩ | ⟨rfl, rfl⟩ | ⟨rfl, rfl⟩ | ⟨rfl, rfl⟩; exact ym N; exact yo N; exact Ns N; exact Ny N)) (by kernel_rfl) (by kernel_rfl)
noncomputable def uV (N : Nat) (a0 : List (Int × Int × Int)) (v1 : Int) : Option (Int ⊕ (Int ⊕ Unit)) :=
  (bif (decide (v1 < ((((List.map eW a0)).length : Nat) : Int))) then bif (decide ((0 : Int) ≤ v1 ∧ v1 < (((List.map eW a0)).length : Int)) && aB.fits uR (aY (List.map eW a0) (Int.toNat v1))) then (((Qr N ((d59 (aY (List.map eW a0) (Int.toNat v1))).1, (d59 (aY (List.map eW a0) (Int.toNat v1))).2.1, (d59 (aY (List.map eW a0) (Int.toNat v1))).2.2)).bind fun y2 => (bif (decide (v1 > 0)) then bif (decide ((0 : Int) ≤ (if (IntKind.wrap .i64 (v1 - 1)) > 0 then (IntKind.wrap .i64 (v1 - 1)) else 0) ∧ (if (IntKind.wrap .i64 (v1 - 1)) > 0 then (IntKind.wrap .i64 (v1 - 1)) else 0) < (((List.map eW a0)).length : Int)) && aB.fits uR (aY (List.map eW a0) (Int.toNat (if (IntKind.wrap .i64 (v1 - 1)) > 0 then (IntKind.wrap .i64 (v1 - 1)) else 0)))) then (Qt N (((d59 (aY (List.map eW a0) (Int.toNat (if (IntKind.wrap .i64 (v1 - 1)) > 0 then (IntKind.wrap .i64 (v1 - 1)) else 0)))).1, (d59 (aY (List.map eW a0) (Int.toNat (if (IntKind.wrap .i64 (v1 - 1)) > 0 then (IntKind.wrap .i64 (v1 - 1)) else 0)))).2.1, (d59 (aY (List.map eW a0) (Int.toNat (if (IntKind.wrap .i64 (v1 - 1)) > 0 then (IntKind.wrap .i64 (v1 - 1)) else 0)))).2.2), ((d59 (aY (List.map eW a0) (Int.toNat v1))).1, (d59 (aY (List.map eW a0) (Int.toNat v1))).2.1, (d59 (aY (List.map eW a0) (Int.toNat v1))).2.2))).bind fun y3 => (HP N ((decide (y3 ≥ 0)), 11)).bind fun y4 => ((bif (allFit (aB.fits uQ) [(AV.int .i64 y2), (AV.int .i64 y4)] && true) then some (List.map d30 [(AV.int .i64 y2), (AV.int .i64 y4)]) else none : Option ((List Int))).bind fun x6 => (EM N x6).bind fun y5 => (some y5)) else none else (HP N (false, 11)).bind fun y7 => ((bif (allFit (aB.fits uQ) [(AV.int .i64 y2), (AV.int .i64 y7)] && true) then some (List.map d30 [(AV.int .i64 y2), (AV.int .i64 y7)]) else none : Option ((List Int))).bind fun x9 => (EM N x9).bind fun y8 => (some y8))) : Option Int).bind fun LD => (bif (LD != 0) then (some (Sum.inr (Sum.inl LD))) else (some (Sum.inl (IntKind.wrap .i64 (v1 + 1)))))) else none else (some (Sum.inr (Sum.inr ()))))
theorem NB (N : Nat) (a0 : List (Int × Int × Int)) : Rv N a0 =
  (bif (decide (((((List.map eW a0)).length : Nat) : Int) > 4096)) then some 5 else ((bQ (V := Int) (X := Int ⊕ Unit) (uV N a0) N 0).bind fun WX => (Sum.elim (fun WY => some WY) (fun UR => some 0) WX))) := by kernel_rfl
end Go.Proofs.YtophnjjjmikmeaaGreat
