/- The functions of Go's library that this program calls, by their contracts. -/
import Derived.Test.YtbfappllfpngdaaGreatDoorTapEnv
import Derived.Test.YtbfappllfpngdaaGreatDoorTapShelf
import Derived.Test.YtbfappllfpngdaaGreatDoorAmKI
set_option linter.all false
namespace Go.Proofs.YtbfappllfpngdaaGreatDoor
open Go Go.Am Go.Proofs Go.Shelf
set_option maxRecDepth 100000

theorem decDigits_dig2 (i : Nat) (h : i < 100) : Lib.decDigits i = dig2 i := by
  unfold dig2
  by_cases h1 : i < 10
  · rw [Lib.decDigits]
    have : decide ((i : Int) < 10) = true := by simp; omega
    simp [h1, this]
  · rw [Lib.decDigits, Lib.decDigits]
    have : decide ((i : Int) < 10) = false := by simp; omega
    have h2 : i / 10 < 10 := by omega
    simp [h1, h2, this]

theorem repeatL_repT (s : List UInt8) : ∀ n, Lib.repeatL s n = repT s n
  | 0 => rfl
  | n + 1 => by rw [Lib.repeatL, repT, repeatL_repT s n]

theorem join_joinL (sep : List UInt8) : ∀ xs, Lib.join xs sep = joinL xs sep
  | [] => rfl
  | [a] => Lib.join_one a sep
  | a :: b :: l => by
    have h := join_joinL sep (b :: l)
    show _ = a ++ sep ++ joinL (b :: l) sep
    rw [← h, Lib.join_cons, Lib.join_cons]
    simp [Lib.joinTail]

theorem L72 : EntryOk env 72 trimLeftE := trimLeft_ok (E := env) ⟨_, Tryz.func72, rfl, rfl⟩ fun s c hc w => Any.strings_TrimLeft_one Tryz.lays161 s c hc w
theorem L73 : EntryOk env 73 itoaE := itoa_ok (E := env) ⟨_, Tryz.func73, rfl, rfl⟩ fun i hi w => by
  have := Any.strconv_Itoa_small Tryz.lays171 i hi w
  rw [decDigits_dig2 i hi] at this
  exact this
theorem L100 : EntryOk env 100 countE := count_ok (E := env) ⟨_, Tryz.func100, rfl, rfl⟩ fun s c w => Any.strings_Count_one Tryz.lays138 s c w
theorem L104 : EntryOk env 104 repeatE := repeat_ok (E := env) ⟨_, Tryz.func104, rfl, rfl⟩ fun s c w h1 h2 => by
  have := Any.strings_Repeat Tryz.lays105 Tryz.Builder_Extra_105 s c w h1 h2
  rw [repeatL_repT] at this
  exact this
theorem L127 : EntryOk env 127 joinE' := join_ok (E := env) ⟨_, Tryz.func127, rfl, rfl⟩ (fun a c sep w => Any.strings_Join_none Tryz.lays156 Tryz.Builder_Extra_156 a c sep w) fun bk o c xs sep w h1 h2 h3 h4 h5 => by
  have := Any.strings_Join Tryz.lays156 Tryz.Builder_Extra_156 bk o c xs sep w h1 h2 h3 h4 (by rw [join_joinL]; exact h5)
  rw [join_joinL] at this
  exact this

/-- The table of the library's functions. -/
def libL : List (Nat × Entry) := [(72, trimLeftE), (73, itoaE), (100, countE), (104, repeatE), (127, joinE')]
theorem libL_ok : ∀ a e, (a, e) ∈ libL → EntryOk env a e := fun a e h => by
  simp only [libL, List.mem_cons, Prod.mk.injEq, List.not_mem_nil, or_false] at h
  rcases h with ⟨rfl, rfl⟩ | ⟨rfl, rfl⟩ | ⟨rfl, rfl⟩ | ⟨rfl, rfl⟩ | ⟨rfl, rfl⟩
  · exact L72
  · exact L73
  · exact L100
  · exact L104
  · exact L127

theorem lays240 : Lays.n240 Tryz.prog Tryz.lays105_ren := { Tryz.lays105 with }
noncomputable def gtE : (g : FuncId) → Option (GEntry env g)
  | 120 => some (ccE (E := env) lays240 Tryz.Builder_Extra_105.toX72)
  | 74 => some (strE (E := env) Tryz.lays169 Tryz.Builder_Extra_169 rfl)
  | _ => none
end Go.Proofs.YtbfappllfpngdaaGreatDoor
