/- The chapter's examples: the closed call, carried out by the kernel. -/
import Derived.Test.YtophnjjjmikmeaaGreatOttCc
set_option linter.all false
namespace Go.Proofs.YtophnjjjmikmeaaGreat
open Go Go.Am
set_option maxRecDepth 1000000
noncomputable def NQ : List (Nat × a8) := [(8, E8), (11, Vc), (17, Vd), (22, Vk)]
theorem JR : ∀ a e, (a, e) ∈ NQ → au env a e := fun a e h => by
  simp only [NQ, List.mem_cons, Prod.mk.injEq, List.not_mem_nil, or_false] at h
  rcases h with ⟨rfl, rfl⟩ | ⟨rfl, rfl⟩ | ⟨rfl, rfl⟩ | ⟨rfl, rfl⟩
  · exact Qo
  · exact No
  · exact Np
  · exact NP
noncomputable def W5 : fF := { D := Js, F9 := B7 NQ, zX := fun _ _ => none, fz := true, N := 0 }
theorem Al : bK env 7 [] (fun r => ∃ y : Bool, r = aB.enc .bool y ∧ y = true) :=
  gP (C := W5) (n := 100000) (p := .bool) (ok := fun (y : Bool) => y) (bt JR) (by kernel_rfl) (by kernel_rfl) (by kernel_rfl)
end Go.Proofs.YtophnjjjmikmeaaGreat
