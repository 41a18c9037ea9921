/- The functions of Go's library that this program calls, by their contracts. -/
import Derived.Test.YtophnjjjmikmeaaGreatOttEnv
import Derived.Test.YtophnjjjmikmeaaGreatOttShelf
import Derived.Test.YtophnjjjmikmeaaGreatAmKO
set_option linter.all false
namespace Go.Proofs.YtophnjjjmikmeaaGreat
open Go Go.Am Go.Proofs Go.Shelf
set_option maxRecDepth 100000
theorem pw (s : List UInt8) : ∀ n, Lib.repeatL s n = ga s n
  | 0 => rfl
  | n + 1 => by rw [Lib.repeatL, ga, pw s n]
theorem nT (sep : List UInt8) : ∀ xs, Lib.join xs sep = lh xs sep
  | [] => rfl
  | [a] => Lib.join_one a sep
  | a :: b :: l => by
    have h := nT sep (b :: l)
    show _ = a ++ sep ++ lh (b :: l) sep
    rw [← h, Lib.join_cons, Lib.join_cons]
    simp [Lib.joinTail]
theorem UI : au env 69 yj := Eo (E := env) ⟨_, Tryz.func69, rfl, rfl⟩ fun s c w h1 h2 => by
  have := Any.strings_Repeat Tryz.Jt Tryz.pu s c w h1 h2
  rw [pw] at this
  exact this
theorem PW : au env 102 Ca := IK (E := env) ⟨_, Tryz.func102, rfl, rfl⟩ (fun a c sep w => Any.strings_Join_none Tryz.C5 Tryz.jF a c sep w) fun bk o c xs sep w h1 h2 h3 h4 h5 => by
  have := Any.strings_Join Tryz.C5 Tryz.jF bk o c xs sep w h1 h2 h3 h4 (by rw [nT]; exact h5)
  rw [nT] at this
  exact this
def Mj : List (Nat × a8) := [(69, yj), (102, Ca)]
theorem yl : ∀ a e, (a, e) ∈ Mj → au env a e := fun a e h => by
  simp only [Mj, List.mem_cons, Prod.mk.injEq, List.not_mem_nil, or_false] at h
  rcases h with ⟨rfl, rfl⟩ | ⟨rfl, rfl⟩
  · exact UI
  · exact PW
end Go.Proofs.YtophnjjjmikmeaaGreat
