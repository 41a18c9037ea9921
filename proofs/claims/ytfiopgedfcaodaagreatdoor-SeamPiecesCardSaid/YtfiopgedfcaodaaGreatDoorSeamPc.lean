/- Plain laws: what is sewn, its classes, degrees and counts. -/
import Derived.Test.YtfiopgedfcaodaaGreatDoorSeamTc
import Derived.Test.YtfiopgedfcaodaaGreatDoorSeamPs
import Derived.Test.YtfiopgedfcaodaaGreatDoorSeamPv
import Derived.Test.YtfiopgedfcaodaaGreatDoorAmKK
set_option linter.all false
namespace Go.Proofs.YtfiopgedfcaodaaGreatDoor
open Go Go.Am
set_option maxRecDepth 100000
abbrev P3 := Int × Int × Int
theorem at94 (C : List P3) {k : Nat} (hk : k < C.length) : d94 (nthD (List.map n94 C) k) = C[k] ∧ Pat.fits p94 (nthD (List.map n94 C) k) = true := by
  rw [nthD_map n94 C k hk, dn94, fn94]; exact ⟨rfl, rfl⟩
theorem ME177 : MapEnc (.st (.cons 0 1 false .int (.cons 1 2 true (.st (.cons 0 1 false .int (.cons 1 1 false .int .nil))) .nil))) n94 n4 nM177 := ⟨fun a b => eqK_three a b, fun _ => rfl, fun _ => rfl⟩
theorem mk177 (p : P3) (m : List (P3 × Bool)) : mkeys (.st (.cons 0 1 false .int (.cons 1 2 true (.st (.cons 0 1 false .int (.cons 1 1 false .int .nil))) .nil))) (AV.agg [AV.int .i64 p.1, AV.int .i64 p.2.1, AV.int .i64 p.2.2]) (entriesL (List.map nM177 m)) = true := ME177.keys p m
theorem mg177 (p : P3) (m : List (P3 × Bool)) : mgetD (.st (.cons 0 1 false .int (.cons 1 2 true (.st (.cons 0 1 false .int (.cons 1 1 false .int .nil))) .nil))) (AV.agg [AV.int .i64 p.1, AV.int .i64 p.2.1, AV.int .i64 p.2.2]) (AV.bool false) (entriesL (List.map nM177 m)) = n4 ((getM p m).getD false) := ME177.getD p false m
theorem mp177 (p : P3) (m : List (P3 × Bool)) : mputT (.st (.cons 0 1 false .int (.cons 1 2 true (.st (.cons 0 1 false .int (.cons 1 1 false .int .nil))) .nil))) (AV.agg [AV.int .i64 p.1, AV.int .i64 p.2.1, AV.int .i64 p.2.2]) (AV.bool true) (entriesL (List.map nM177 m)) = entriesL (List.map nM177 (putM p true m)) := ME177.put p true m
theorem mc177 (m : List (P3 × Bool)) : mcells (entriesL (List.map nM177 m)) = List.map nM177 m := ME177.cells m
theorem ax177 (m : List (P3 × Bool)) : allX (entriesL (List.map nM177 m)) = true := ME177.allX m
theorem find_gen {V X : Type} {rd : V → Option (V ⊕ X)} (m : Nat) (E : Nat → V) (b : Nat → Bool) (y : Nat → X) (x : X)
    (h : ∀ k, k < m → rd (E k) = some (if b k then .inr (y k) else .inl (E (k + 1)))) (h0 : rd (E m) = some (.inr x)) (n : Nat) (hn : m < n) :
    loopR rd n (E 0) = some (match (List.range m).find? b with | some j => y j | none => x) := by
  have key := loopR_fold (rd := rd) (S := Unit) (Y := Nat) (List.range m) (fun _ k => E k) (fun _ i => if b i then .inr i else .inl ()) (fun _ => x) y (fun _ _ => True)
    (fun s k hk _ => by
      have hk : k < m := by simpa using hk
      refine ⟨?_, fun _ _ => trivial⟩
      rw [List.getElem_range, h k hk]
      cases b k <;> rfl) (fun _ _ => by rw [List.length_range]; exact h0) n () 0 (Nat.zero_le _) (by simpa using hn) trivial
  rw [List.drop_zero] at key
  refine key.trans (congrArg some ?_)
  clear key h h0 hn
  generalize List.range m = l
  induction l with
  | nil => rfl
  | cons a l ih =>
    simp only [foldI, List.find?_cons]
    cases b a with
    | true => rfl
    | false => simp only [Bool.false_eq_true, if_false, Sum.elim_inl]; exact ih
section
variable {N : Nat} (hN : Big N) (C : List (List P3)) (B : List (Int × Int)) (hC : C.length ≤ 10000) (hB : B.length ≤ 10000) (hc : ∀ c ∈ C, c.length ≤ 10000)
include hN hC hB hc
end
end Go.Proofs.YtfiopgedfcaodaaGreatDoor
