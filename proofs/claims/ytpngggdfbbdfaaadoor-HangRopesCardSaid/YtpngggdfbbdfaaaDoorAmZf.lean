/- The abstract machine: what a laid variable holds. -/
import Derived.Test.YtpngggdfbbdfaaaDoorAmZe
import Derived.FnData
import GoSem.ClaimJoined
set_option linter.all false
namespace Go.Am
open Go

theorem mapM_nth {α β : Type} {f : α → Option β} : ∀ {l : List α} {r : List β}, l.mapM f = some r → r.length = l.length ∧ ∀ (i : Nat) (x : α), l[i]? = some x → ∃ y, r[i]? = some y ∧ f x = some y
  | [], r, h => by
    cases h
    exact ⟨rfl, fun i x h => by simp at h⟩
  | a :: l, r, h => by
    obtain ⟨y, ys, h1, h2, rfl⟩ := mapM_cons_some h
    obtain ⟨k1, k2⟩ := mapM_nth h2
    refine ⟨by simp [k1], fun i x hx => ?_⟩
    cases i with
    | zero =>
      simp at hx
      subst hx
      exact ⟨y, rfl, h1⟩
    | succ i => simpa using k2 i x (by simpa using hx)

section
variable {P : Program} {W : World}

theorem relC_ints {g : Nat} {cs : Array Value} {k : IntKind} (hg : g < W.heap.size) : ∀ (xs : List Int) (o : Nat), (∀ i, i < xs.length → W.cell? ⟨g, o + i, none⟩ = some (.int k (xs[i]?.getD 0))) → RelC (allR W) W g o (xs.map fun x => .int k x)
  | [], _, _ => .nil
  | x :: xs, o, h => .cons (h 0 (by simp)) rfl hg (.int k x) (relC_ints (cs := cs) hg xs (o + 1) fun i hi => by
      have := h (i + 1) (by simpa using hi)
      rw [show o + 1 + i = o + (i + 1) by omega]
      simpa using this)

/-- A laid array of numbers. -/
theorem laid_ints {nm : String} {xs : List Int} {k : IntKind} {g t e : Nat} {ps : List MemPlace} (h : DataW.LaidVars P W [(nm, .agg (xs.map fun x => .lit (.int k x)))] ps)
    (hg : P.globalNamed nm = some g) (ht : (P.globals[g]?).map (·.type) = some t) (hu : P.underlying t = some (.array xs.length e)) (he : P.underlying e = some (.int k)) (hc : P.cellsOf e = 1) (hct : P.cellsOf t = xs.length) (hx : 0 < xs.length) :
    RelC (allR W) W g 0 (xs.map fun x => .int k x) := by
  obtain ⟨g', t', cs, fuel, p, q, h1, h2, h3, h4, _, _⟩ := h
  obtain rfl : g = g' := Option.some.inj (hg.symm.trans h1)
  obtain rfl : t = t' := Option.some.inj (ht.symm.trans h2)
  cases fuel with
  | zero => simp [DataW.trod] at h4
  | succ fuel =>
    unfold DataW.trod at h4
    simp only [hu, hc, Nat.mul_one] at h4
    split at h4
    · rename_i hlen
      rw [hct] at hlen
      cases hm : (List.range xs.length).mapM fun i => DataW.trod (fun _ => ()) P W 0 (fun _ => true) false fuel e ((cs.toList.drop i).take 1) with
      | none => rw [hm] at h4; cases h4
      | some ys =>
        rw [hm] at h4
        have h5 : DataW.agg (ys.map (·.1)) = DataW.agg (xs.map fun x => DataW.lit (.int k x)) := congrArg Prod.fst (Option.some.inj h4)
        have h6 : ys.map (·.1) = xs.map fun x => DataW.lit (.int k x) := by injection h5
        obtain ⟨k1, k2⟩ := mapM_nth hm
        have hcell : ∀ i, i < xs.length → W.cell? ⟨g, i, none⟩ = some (.int k (xs[i]?.getD 0)) := fun i hi => by
          have hi' : i < cs.toList.length := by omega
          rw [Go.World.var?_cell hg h3 i]
          obtain ⟨y, e1, e2⟩ := k2 i i (by rw [List.getElem?_eq_getElem (by simpa using hi)]; simp)
          have e3 : y.1 = DataW.lit (.int k (xs[i]?.getD 0)) := by
            have := congrArg (fun l => l[i]?) h6
            simp only [List.getElem?_map, e1, Option.map_some] at this
            rw [List.getElem?_eq_getElem hi] at this ⊢
            simpa using this
          have e4 : (cs.toList.drop i).take 1 = [cs.toList[i]] := by
            rw [List.drop_eq_getElem_cons hi']
            rfl
          rw [e4] at e2
          have e5 : cs[i]? = some cs.toList[i] := by
            rw [← Array.getElem?_toList, List.getElem?_eq_getElem hi']
          rw [e5]
          generalize cs.toList[i] = c at e2
          cases fuel with
          | zero => simp [DataW.trod] at e2
          | succ fuel =>
            unfold DataW.trod at e2
            simp only [he] at e2
            cases c <;> simp at e2
            obtain ⟨⟨rfl, _⟩, rfl⟩ := e2
            injection e3 with e3
            injection e3 with _ e3
            rw [e3]
        have hgs : g < W.heap.size := by
          have h0 := hcell 0 hx
          unfold World.cell? at h0
          split at h0
          · rename_i hh
            exact (Array.getElem?_eq_some_iff.1 hh).1
          · cases h0
        exact relC_ints (cs := cs) hgs xs 0 fun i hi => by simpa using hcell i hi
    · cases h4
end
end Go.Am
