/- The abstract machine's surroundings for this program: its types as a table (printed by a program of ours, checked by the kernel). -/
import Derived.Test.YtophnjjjmikmeaaGreatProg
import Derived.Test.YtophnjjjmikmeaaGreatAmKO
import Derived.KernelRfl
set_option linter.all false
namespace Go.Proofs.YtophnjjjmikmeaaGreat
open Go Go.Am
set_option maxRecDepth 100000
def tI (k : TK) (n : Nat) (a : Bool) (z : Option AV) (e : EK) : Option TI := some ⟨k, n, a, z, e⟩
def Wp (t : Nat) : Option TI :=
 bif Nat.ble t 104 then
 bif Nat.ble t 51 then
 bif Nat.ble t 25 then
 bif Nat.ble t 12 then
 bif Nat.ble t 5 then
 bif Nat.ble t 2 then
 bif Nat.ble t 0 then
 tI (.sc) 1 false (some (.bC [])) (.no)
 else
 bif Nat.ble t 1 then
 tI (.sc) 1 false (some (.cV)) (.no)
 else
 tI (.int .i64) 1 false (some (.int .i64 0)) (.int)
 else
 bif Nat.ble t 3 then
 tI (.int .i64) 1 false (some (.int .i64 0)) (.int)
 else
 bif Nat.ble t 4 then
 tI (.sc) 1 false (some (.bool false)) (.bool)
 else
 tI (.int .u8) 1 false (some (.int .u8 0)) (.int)
 else
 bif Nat.ble t 8 then
 bif Nat.ble t 6 then
 tI (.int .u8) 1 false (some (.int .u8 0)) (.int)
 else
 bif Nat.ble t 7 then
 tI (.st [(0, 1, false), (1, 1, false), (2, 1, false), (3, 1, false)]) 4 true (some (.agg [.int .i64 0, .int .i64 0, .bool false, .int .u8 0])) ((.st (.cons 0 1 false .int (.cons 1 1 false .int (.cons 2 1 false .bool (.cons 3 1 false .int .nil))))))
 else
 tI (.st [(0, 1, false), (1, 1, false), (2, 1, false), (3, 1, false)]) 4 true (some (.agg [.int .i64 0, .int .i64 0, .bool false, .int .u8 0])) ((.st (.cons 0 1 false .int (.cons 1 1 false .int (.cons 2 1 false .bool (.cons 3 1 false .int .nil))))))
 else
 bif Nat.ble t 10 then
 bif Nat.ble t 9 then
 tI (.str) 1 false (some (.str [])) (.str)
 else
 none
 else
 bif Nat.ble t 11 then
 tI (.str) 1 false (some (.str [])) (.str)
 else
 tI (.int .u64) 1 false (some (.int .u64 0)) (.int)
 else
 bif Nat.ble t 18 then
 bif Nat.ble t 15 then
 none
 else
 bif Nat.ble t 16 then
 tI (.sc) 1 false (some (.gB)) (.no)
 else
 bif Nat.ble t 17 then
 tI (.sc) 1 false (some (.gB)) (.no)
 else
 none
 else
 bif Nat.ble t 21 then
 bif Nat.ble t 19 then
 none
 else
 bif Nat.ble t 20 then
 tI (.sc) 1 false (some (.li)) (.no)
 else
 tI (.int .i32) 1 false (some (.int .i32 0)) (.int)
 else
 bif Nat.ble t 23 then
 bif Nat.ble t 22 then
 none
 else
 tI (.st [(0, 1, false), (1, 1, false)]) 2 true (some (.agg [.int .i64 0, .int .i64 0])) ((.st (.cons 0 1 false .int (.cons 1 1 false .int .nil))))
 else
 bif Nat.ble t 24 then
 tI (.st [(0, 1, false), (1, 1, false)]) 2 true (some (.agg [.str [], .int .i64 0])) ((.st (.cons 0 1 false .str (.cons 1 1 false .int .nil))))
 else
 none
 else
 bif Nat.ble t 38 then
 bif Nat.ble t 31 then
 bif Nat.ble t 28 then
 bif Nat.ble t 26 then
 tI (.int .i8) 1 false (some (.int .i8 0)) (.int)
 else
 none
 else
 bif Nat.ble t 29 then
 tI (.sl 59 3 true 24 (some (.agg [.int .i64 0, .int .i64 0, .int .i64 0]))) 1 false (some (.list .nil 0 [])) (.no)
 else
 bif Nat.ble t 30 then
 tI (.int .i64) 1 false (some (.int .i64 0)) (.int)
 else
 tI (.sc) 1 false (some (.bC [.list .nil 0 [], .int .i64 0])) (.no)
 else
 bif Nat.ble t 34 then
 bif Nat.ble t 32 then
 tI (.sc) 1 false (some (.cV)) (.no)
 else
 none
 else
 bif Nat.ble t 36 then
 bif Nat.ble t 35 then
 none
 else
 tI (.st [(0, 1, false), (1, 1, false), (2, 1, false), (3, 1, false), (4, 1, false)]) 5 true (some (.agg [.int .i64 0, .int .i64 0, .int .i64 0, .int .i64 0, .int .i64 0])) ((.st (.cons 0 1 false .int (.cons 1 1 false .int (.cons 2 1 false .int (.cons 3 1 false .int (.cons 4 1 false .int .nil)))))))
 else
 bif Nat.ble t 37 then
 tI (.sc) 1 false (none) (.no)
 else
 none
 else
 bif Nat.ble t 44 then
 bif Nat.ble t 41 then
 bif Nat.ble t 39 then
 none
 else
 bif Nat.ble t 40 then
 tI (.sc) 1 false (none) (.no)
 else
 none
 else
 none
 else
 bif Nat.ble t 47 then
 bif Nat.ble t 45 then
 tI (.sc) 1 false (some (.cV)) (.no)
 else
 bif Nat.ble t 46 then
 tI (.arr 2 1 false) 2 true (some (.agg [.int .i64 0, .int .i64 0])) ((.st (.cons 0 1 false .int (.cons 1 1 false .int .nil))))
 else
 none
 else
 bif Nat.ble t 49 then
 bif Nat.ble t 48 then
 tI (.sc) 1 false (some (.cV)) (.no)
 else
 none
 else
 bif Nat.ble t 50 then
 tI (.sc) 1 false (some (.bC [.list .nil 0 [], .int .i64 0])) (.no)
 else
 none
 else
 bif Nat.ble t 77 then
 bif Nat.ble t 64 then
 bif Nat.ble t 57 then
 bif Nat.ble t 54 then
 bif Nat.ble t 52 then
 none
 else
 bif Nat.ble t 53 then
 tI (.sl 57 2 true 16 (some (.agg [.int .i64 0, .int .i64 0]))) 1 false (some (.list .nil 0 [])) (.no)
 else
 none
 else
 bif Nat.ble t 55 then
 none
 else
 bif Nat.ble t 56 then
 none
 else
 tI (.st [(0, 1, false), (1, 1, false)]) 2 true (some (.agg [.int .i64 0, .int .i64 0])) ((.st (.cons 0 1 false .int (.cons 1 1 false .int .nil))))
 else
 bif Nat.ble t 60 then
 bif Nat.ble t 58 then
 tI (.st [(0, 1, false), (1, 1, false), (2, 1, false)]) 3 true (some (.agg [.int .i64 0, .int .i64 0, .int .i64 0])) ((.st (.cons 0 1 false .int (.cons 1 1 false .int (.cons 2 1 false .int .nil)))))
 else
 bif Nat.ble t 59 then
 tI (.st [(0, 1, false), (1, 1, false), (2, 1, false)]) 3 true (some (.agg [.int .i64 0, .int .i64 0, .int .i64 0])) ((.st (.cons 0 1 false .int (.cons 1 1 false .int (.cons 2 1 false .int .nil)))))
 else
 tI (.sc) 1 false (some (.bC [.bool false, .int .i64 0])) (.no)
 else
 bif Nat.ble t 62 then
 bif Nat.ble t 61 then
 tI (.sc) 1 false (some (.cV)) (.no)
 else
 none
 else
 bif Nat.ble t 63 then
 tI (.st [(0, 1, false), (1, 1, false)]) 2 true (some (.agg [.int .i64 0, .int .i64 0])) ((.st (.cons 0 1 false .int (.cons 1 1 false .int .nil))))
 else
 tI (.sc) 1 false (some (.cV)) (.no)
 else
 bif Nat.ble t 70 then
 bif Nat.ble t 67 then
 bif Nat.ble t 65 then
 tI (.sc) 1 false (some (.bC [.str [], .int .i64 0])) (.no)
 else
 bif Nat.ble t 66 then
 tI (.sc) 1 false (some (.cV)) (.no)
 else
 none
 else
 bif Nat.ble t 68 then
 tI (.sc) 1 false (none) (.no)
 else
 bif Nat.ble t 69 then
 none
 else
 tI (.sl 23 2 true 16 (some (.agg [.int .i64 0, .int .i64 0]))) 1 false (some (.list .nil 0 [])) (.no)
 else
 bif Nat.ble t 73 then
 bif Nat.ble t 71 then
 tI (.sc) 1 false (some (.bC [.list .nil 0 [], .int .i64 0])) (.no)
 else
 none
 else
 bif Nat.ble t 75 then
 bif Nat.ble t 74 then
 tI (.sc) 1 false (some (.cV)) (.no)
 else
 none
 else
 bif Nat.ble t 76 then
 tI (.sl 80 5 true 40 (some (.agg [.int .i32 0, .int .i64 0, .int .i64 0, .int .i64 0, .int .i64 0]))) 1 false (some (.list .nil 0 [])) (.no)
 else
 tI (.sc) 1 false (some (.bC [.list .nil 0 [], .int .i64 0])) (.no)
 else
 bif Nat.ble t 90 then
 bif Nat.ble t 83 then
 bif Nat.ble t 80 then
 bif Nat.ble t 78 then
 tI (.sc) 1 false (some (.cV)) (.no)
 else
 bif Nat.ble t 79 then
 none
 else
 tI (.st [(0, 1, false), (1, 2, true), (3, 2, true)]) 5 true (some (.agg [.int .i32 0, .int .i64 0, .int .i64 0, .int .i64 0, .int .i64 0])) ((.st (.cons 0 1 false .int (.cons 1 2 true (.st (.cons 0 1 false .int (.cons 1 1 false .int .nil))) (.cons 3 2 true (.st (.cons 0 1 false .int (.cons 1 1 false .int .nil))) .nil)))))
 else
 bif Nat.ble t 81 then
 none
 else
 bif Nat.ble t 82 then
 tI (.sc) 1 false (some (.cV)) (.no)
 else
 tI (.sc) 1 false (some (.cV)) (.no)
 else
 bif Nat.ble t 86 then
 bif Nat.ble t 84 then
 tI (.sc) 1 false (some (.cV)) (.no)
 else
 bif Nat.ble t 85 then
 none
 else
 tI (.sl 29 1 false 24 (some (.list .nil 0 []))) 1 false (some (.list .nil 0 [])) (.no)
 else
 none
 else
 bif Nat.ble t 97 then
 bif Nat.ble t 93 then
 none
 else
 bif Nat.ble t 95 then
 none
 else
 bif Nat.ble t 96 then
 none
 else
 tI (.sc) 1 false (some (.cV)) (.no)
 else
 bif Nat.ble t 100 then
 bif Nat.ble t 98 then
 none
 else
 bif Nat.ble t 99 then
 tI (.sc) 1 false (some (.cV)) (.no)
 else
 tI (.sc) 1 false (some (.cV)) (.no)
 else
 bif Nat.ble t 102 then
 bif Nat.ble t 101 then
 tI (.sc) 1 false (some (.cV)) (.no)
 else
 tI (.sc) 1 false (some (.cV)) (.no)
 else
 bif Nat.ble t 103 then
 tI (.sc) 1 false (some (.cV)) (.no)
 else
 tI (.sc) 1 false (some (.cV)) (.no)
 else
 bif Nat.ble t 156 then
 bif Nat.ble t 130 then
 bif Nat.ble t 117 then
 bif Nat.ble t 110 then
 bif Nat.ble t 107 then
 bif Nat.ble t 105 then
 tI (.sc) 1 false (some (.cV)) (.no)
 else
 none
 else
 bif Nat.ble t 108 then
 tI (.sc) 1 false (some (.cV)) (.no)
 else
 bif Nat.ble t 109 then
 none
 else
 tI (.st [(0, 1, false), (1, 1, false)]) 2 true (some (.agg [.int .i64 0, .int .i64 0])) ((.st (.cons 0 1 false .int (.cons 1 1 false .int .nil))))
 else
 bif Nat.ble t 113 then
 bif Nat.ble t 111 then
 tI (.sc) 1 false (some (.cV)) (.no)
 else
 bif Nat.ble t 112 then
 tI (.sc) 1 false (some (.cV)) (.no)
 else
 none
 else
 bif Nat.ble t 115 then
 bif Nat.ble t 114 then
 tI (.sc) 1 false (some (.cV)) (.no)
 else
 tI (.sc) 1 false (some (.cV)) (.no)
 else
 bif Nat.ble t 116 then
 tI (.sc) 1 false (some (.cV)) (.no)
 else
 tI (.sc) 1 false (some (.cV)) (.no)
 else
 bif Nat.ble t 123 then
 bif Nat.ble t 120 then
 bif Nat.ble t 118 then
 tI (.map 21 46 (some (.agg [.int .i64 0, .int .i64 0]))) 1 false (some (.jW)) (.no)
 else
 bif Nat.ble t 119 then
 tI (.sc) 1 false (some (.cV)) (.no)
 else
 none
 else
 bif Nat.ble t 121 then
 tI (.sc) 1 false (some (.cV)) (.no)
 else
 bif Nat.ble t 122 then
 tI (.arr 2 2 true) 4 true (some (.agg [.int .i64 0, .int .i64 0, .int .i64 0, .int .i64 0])) ((.st (.cons 0 2 true (.st (.cons 0 1 false .int (.cons 1 1 false .int .nil))) (.cons 2 2 true (.st (.cons 0 1 false .int (.cons 1 1 false .int .nil))) .nil))))
 else
 none
 else
 bif Nat.ble t 126 then
 bif Nat.ble t 124 then
 none
 else
 bif Nat.ble t 125 then
 none
 else
 tI (.sc) 1 false (some (.cV)) (.no)
 else
 bif Nat.ble t 128 then
 bif Nat.ble t 127 then
 none
 else
 tI (.sc) 1 false (some (.cV)) (.no)
 else
 bif Nat.ble t 129 then
 tI (.map 59 4 (some (.bool false))) 1 false (some (.jW)) (.no)
 else
 tI (.arr 4 3 true) 12 true (some (.agg [.int .i64 0, .int .i64 0, .int .i64 0, .int .i64 0, .int .i64 0, .int .i64 0, .int .i64 0, .int .i64 0, .int .i64 0, .int .i64 0, .int .i64 0, .int .i64 0])) ((.st (.cons 0 3 true (.st (.cons 0 1 false .int (.cons 1 1 false .int (.cons 2 1 false .int .nil)))) (.cons 3 3 true (.st (.cons 0 1 false .int (.cons 1 1 false .int (.cons 2 1 false .int .nil)))) (.cons 6 3 true (.st (.cons 0 1 false .int (.cons 1 1 false .int (.cons 2 1 false .int .nil)))) (.cons 9 3 true (.st (.cons 0 1 false .int (.cons 1 1 false .int (.cons 2 1 false .int .nil)))) .nil))))))
 else
 bif Nat.ble t 143 then
 bif Nat.ble t 136 then
 bif Nat.ble t 133 then
 bif Nat.ble t 131 then
 none
 else
 bif Nat.ble t 132 then
 none
 else
 tI (.sl 30 1 false 8 (some (.int .i64 0))) 1 false (some (.list .nil 0 [])) (.no)
 else
 bif Nat.ble t 134 then
 none
 else
 bif Nat.ble t 135 then
 tI (.sc) 1 false (some (.cV)) (.no)
 else
 none
 else
 bif Nat.ble t 139 then
 bif Nat.ble t 137 then
 tI (.sc) 1 false (some (.bC [.int .i64 0, .bool false])) (.no)
 else
 none
 else
 bif Nat.ble t 141 then
 bif Nat.ble t 140 then
 none
 else
 tI (.int .u64) 1 false (some (.int .u64 0)) (.int)
 else
 bif Nat.ble t 142 then
 tI (.sc) 1 false (some (.bC [.int .u64 0, .int .u64 0])) (.no)
 else
 none
 else
 bif Nat.ble t 149 then
 bif Nat.ble t 146 then
 bif Nat.ble t 144 then
 none
 else
 bif Nat.ble t 145 then
 tI (.sc) 1 false (some (.gB)) (.no)
 else
 tI (.sl 5 1 false 1 (some (.int .u8 0))) 1 false (some (.list .nil 0 [])) (.no)
 else
 bif Nat.ble t 147 then
 none
 else
 bif Nat.ble t 148 then
 tI (.st [(0, 1, false), (1, 1, false)]) 2 true (some (.agg [.gB, .list .nil 0 []])) ((.st (.cons 0 1 false .no (.cons 1 1 false .no .nil))))
 else
 none
 else
 bif Nat.ble t 152 then
 bif Nat.ble t 150 then
 none
 else
 bif Nat.ble t 151 then
 tI (.sc) 1 false (some (.li)) (.no)
 else
 tI (.sc) 1 false (some (.bC [.int .i64 0, .li])) (.no)
 else
 none
 else
 bif Nat.ble t 182 then
 bif Nat.ble t 169 then
 bif Nat.ble t 162 then
 bif Nat.ble t 159 then
 bif Nat.ble t 157 then
 none
 else
 bif Nat.ble t 158 then
 tI (.sl 3 1 false 8 (some (.int .i64 0))) 1 false (some (.list .nil 0 [])) (.no)
 else
 none
 else
 bif Nat.ble t 160 then
 tI (.sl 9 1 false 16 (some (.str []))) 1 false (some (.list .nil 0 [])) (.no)
 else
 bif Nat.ble t 161 then
 none
 else
 tI (.int .u32) 1 false (some (.int .u32 0)) (.int)
 else
 bif Nat.ble t 165 then
 bif Nat.ble t 163 then
 tI (.sc) 1 false (some (.bC [.int .u32 0, .int .u32 0])) (.no)
 else
 bif Nat.ble t 164 then
 none
 else
 tI (.int .u64) 1 false (some (.int .u64 0)) (.int)
 else
 bif Nat.ble t 167 then
 bif Nat.ble t 166 then
 tI (.sc) 1 false (some (.bC [.int .u64 0, .int .u64 0])) (.no)
 else
 none
 else
 bif Nat.ble t 168 then
 tI (.sc) 1 false (some (.gB)) (.no)
 else
 none
 else
 bif Nat.ble t 175 then
 bif Nat.ble t 172 then
 bif Nat.ble t 170 then
 tI (.int .i64) 1 false (some (.int .i64 0)) (.int)
 else
 bif Nat.ble t 171 then
 tI (.sc) 1 false (some (.bC [.int .i64 0, .int .i64 0])) (.no)
 else
 none
 else
 none
 else
 none
 else
 bif Nat.ble t 195 then
 bif Nat.ble t 188 then
 bif Nat.ble t 185 then
 bif Nat.ble t 183 then
 tI (.sc) 1 false (some (.gB)) (.no)
 else
 none
 else
 bif Nat.ble t 186 then
 tI (.int .u64) 1 false (some (.int .u64 0)) (.int)
 else
 none
 else
 bif Nat.ble t 191 then
 bif Nat.ble t 189 then
 none
 else
 bif Nat.ble t 190 then
 tI (.sc) 1 false (some (.gB)) (.no)
 else
 none
 else
 bif Nat.ble t 193 then
 none
 else
 bif Nat.ble t 194 then
 tI (.sc) 1 false (some (.gB)) (.no)
 else
 tI (.sc) 1 false (some (.bC [.int .i64 0, .int .i64 0])) (.no)
 else
 none
def PS (t : Nat) : Option TI := bif Nat.ble 210 t then none else Wp t
theorem IM : (List.range 210).map (fun t => match PS t with | none => none | some _ => Dk Tryz.prog t) = (List.range 210).map PS := by kernel_rfl
theorem Dl (t : TypeId) (i : TI) (h : PS t = some i) : Dk Tryz.prog t = some i := by
  by_cases ht : t < 210
  · have h1 := congrArg (fun l => l[t]?) IM
    simp only [List.getElem?_map, List.getElem?_range ht, Option.map_some, Option.some.injEq] at h1
    rw [h] at h1
    exact h1
  · have hb : Nat.ble 210 t = true := Nat.ble_eq_true_of_le (Nat.not_lt.1 ht)
    rw [PS, hb] at h
    cases h
def PT : List ((Nat × Nat) × List (Option Nat × Nat × Nat)) := [((34, 3), [(none, 2, 23)])]
def Ku : List ((Nat × Nat) × List (Option Nat × Nat × Nat)) → Nat → Nat → List (Option Nat × Nat × Nat)
  | [], _, _ => []
  | ((a, b), x) :: l, f, t => bif Nat.beq a f && Nat.beq b t then x else Ku l f t
def S9 (f t : Nat) : List (Option Nat × Nat × Nat) := Ku PT f t
def Ta (f t : Nat) : Bool :=
  (Nat.beq f 1000000 && Nat.beq t 1000000) ||
  (Nat.beq f 27 && (Nat.beq t 65563)) ||
  (Nat.beq f 34 && (Nat.beq t 6 || Nat.beq t 262160)) ||
  (Nat.beq f 48 && (Nat.beq t 3 || Nat.beq t 4 || Nat.beq t 5)) ||
  (Nat.beq f 69 && (Nat.beq t 9)) ||
  (Nat.beq f 78 && (Nat.beq t 262148 || Nat.beq t 393220)) ||
  (Nat.beq f 82 && (Nat.beq t 2)) ||
  (Nat.beq f 102 && (Nat.beq t 8)) ||
  (Nat.beq f 110 && (Nat.beq t 9)) ||
  (Nat.beq f 111 && (Nat.beq t 11)) ||
  (Nat.beq f 120 && (Nat.beq t 9)) ||
  (Nat.beq f 121 && (Nat.beq t 11))
def Kv : bU := []
theorem IN : Kv.all (fun p => aN p.2) = true := by kernel_rfl
def PU (g : Nat) : Option (List AV) := cF Kv g
noncomputable def env : Env := { P := Tryz.prog, ti := PS, cw := PU, sw := Ta, HR := fun _ => none, TN := S9, Dl := Dl, mixed := by kernel_rfl, wT := fun _ _ h => HX IN h }
def bB (l:List Nat):List (List Nat):=l.map fun m=>(List.range (m.log2+1)).filter m.testBit
def cn (a:Nat):Nat→DT→DT
 | 0,t=>t
 | n+1,t=>xH (a+1) fun b=>.take a [] (cn b n t)
def cm (i:Nat) (t:DT):DT:=.br i [] [] t .stop
def PV:ai:=⟨bB [0,1,3,7,7,23,63,127,7,7,775,1799,4095,8191,16383],bB [0,1,2,4,4,20,44,68,4,4,772,1028,0,4100,8196],(cn 0 12 (cm 12 (cn 13 2 .done)))⟩
def LX:ai:=⟨bB [0,1,0,7,15,31,0,64,0,256,960,0,2048,0,14336,32704,65535,131071,262143,524287],bB [0,1,0,6,8,0,0,64,0,256,640,0,2048,0,12288,17408,0,65568,0,262144],(cn 0 5 (.take 6 [] (.take 7 [7] (.take 8 [7] (.take 9 [7] (.take 10 [7] (.take 11 [7] (.take 12 [12,7] (.take 13 [12,7] (.take 14 [12,7] (.take 15 [12,7] (.br 5 [12,7] [] (cm 16 (.take 17 [] (cm 18 (.take 19 [] .done)))) .stop))))))))))))⟩
def LY:ai:=⟨bB [0,1,0,7,15,31,63],bB [0,0,0,0,10,0,32],(.take 0 [] (.take 2 [2] (.br 1 [2] [] (cm 3 (.take 4 [] (cm 5 (.take 6 [] .done)))) .stop)))⟩
def LZ:ai:=⟨bB [0,0,3,0,0,24,63,127],bB [0,0,3,0,0,24,36,0],(cn 0 7 (cm 7 .done))⟩
def L0:ai:=⟨bB [0,1,0,4,15,31,31,95,223,511,1023,31,4095,8191,16383,32767,65535,131071,262143],bB [0,0,0,4,8,16,16,80,144,304,528,16,0,4112,8208,0,32770,0,131072],(.take 0 [] (cn 2 2 (cm 1 (cn 4 8 (cm 12 (cn 13 2 (cm 15 (.take 16 [] (cm 17 (.take 18 [] .done))))))))))⟩
def L3:ai:=⟨bB [0,1,0,4,12,3,63],bB [0,1,0,4,8,2,16],(cn 0 7 .done)⟩
def L4:ai:=⟨bB [0,1,0,4,0,16,60,124,252,511,1023,2047,4095],bB [0,0,0,4,0,16,40,64,128,0,514,0,2048],(.take 0 [] (.take 2 [] (.take 3 [3] (.take 4 [3] (.take 5 [5,3] (.take 6 [5,3] (.take 7 [5,3] (.take 8 [5,3] (.br 1 [5,3] [] (cm 9 (.take 10 [] (cm 11 (.take 12 [] .done)))) .stop)))))))))⟩
def L5:ai:=⟨bB [0,1,3,0,8,31,63,127,255],bB [0,1,0,0,8,0,36,0,128],(cn 0 2 (.take 3 [] (.take 4 [4] (.br 2 [4] [] (cm 5 (.take 6 [] (cm 7 (.take 8 [] .done)))) .stop))))⟩
def L6:ai:=⟨bB [0,1,0,4,15,31,0,64,192,511,1023,2047,4095,8191,16383,32767,65535,131071],bB [0,1,0,4,10,0,0,64,128,256,512,1536,2560,4608,0,16416,0,65536],(cn 0 5 (.take 6 [] (.take 7 [7] (.take 8 [7] (.br 5 [7] [] (cn 9 5 (cm 14 (.take 15 [] (cm 16 (.take 17 [] .done))))) .stop)))))⟩
def L7:ai:=⟨bB [0,0,0,6,3,31],bB [0,0,0,6,3,13],(cn 0 6 .done)⟩
def L8:ai:=⟨bB [0,1,3,0,8,31,63,127,255],bB [0,1,0,0,8,0,36,0,128],(cn 0 2 (.take 3 [] (.take 4 [4] (.br 2 [4] [] (cm 5 (.take 6 [] (cm 7 (.take 8 [] .done)))) .stop))))⟩
def L9:ai:=⟨bB [0,0,3,0,0,24,63,127],bB [0,0,3,0,0,24,36,0],(cn 0 7 (cm 7 .done))⟩
def Ma:ai:=⟨bB [0,1,0,4,15,0,32,0,128,511,0,1024,0,4096,16383,32767,65535,131071],bB [0,1,0,4,0,0,32,0,128,0,0,1024,0,4096,0,16912,0,65536],(cn 0 4 (.take 5 [] (.take 6 [6] (.take 7 [6] (.take 8 [8,6] (.take 10 [8,6] (.take 11 [11,8,6] (.take 12 [11,8,6] (.take 13 [13,11,8,6] (.br 4 [13,11,8,6] [13,11] (.br 9 [13,11] [] (cm 14 (.take 15 [] (cm 16 (.take 17 [] .done)))) .stop) .stop))))))))))⟩
def Mb:ai:=⟨bB [0,1,0,4,15,0,32,0,128,511,1023,2047,4095],bB [0,1,0,4,0,0,32,0,128,0,528,0,2048],(cn 0 4 (.take 5 [] (.take 6 [6] (.take 7 [6] (.take 8 [8,6] (.br 4 [8,6] [] (cm 9 (.take 10 [] (cm 11 (.take 12 [] .done)))) .stop))))))⟩
def Mc:ai:=⟨bB [0,0,0,6,14,0,0,64,224,480,1023],bB [0,0,0,6,8,0,0,64,160,256,0],(cn 0 10 (cm 10 .done))⟩
def IP:ai:=⟨bB [0,0,0,6,14,0,0,64,224,480,1023,2047],bB [0,0,0,6,8,0,0,64,160,256,0,1024],(cn 0 10 (cm 10 (.take 11 [] .done)))⟩
def Md:ai:=⟨bB [0,0,0,6,14,0,63,127],bB [0,0,0,6,8,0,0,64],(cn 0 6 (cm 6 (.take 7 [] .done)))⟩
def Me:ai:=⟨bB [0,0,0,6,14,30,30,30,222,478,30,2046,4094,8190,4095,32767],bB [0,0,0,6,8,16,16,16,208,272,16,0,2064,4112,1,8192],(cn 0 11 (cm 11 (cn 12 4 .done)))⟩
def Mf:ai:=⟨bB [0,0,0,6,3,31],bB [0,0,0,6,3,13],(cn 0 6 .done)⟩
def Mg:ai:=⟨bB [0,1,0,7,0,31,0,0,192,0,960,2047],bB [0,1,0,6,0,24,0,0,192,0,768,1056],(cn 0 12 .done)⟩
def Mh:ai:=⟨bB [0,1,3,7,15,0,32,96,224,480,1023,0,4095],bB [0,1,2,4,0,0,32,64,128,256,528,0,3072],(cn 0 4 (cn 5 3 (.take 8 [8] (.take 9 [9,8] (.take 11 [9,8] (.br 4 [9,8] [] (.take 10 [] (.take 12 [] .done)) .stop))))))⟩
def Mi:ai:=⟨bB [0,1,3,7,15,0,32,96,224,480,1023,2047],bB [0,1,2,4,0,0,32,64,128,256,0,1024],(cn 0 4 (cn 5 3 (.take 8 [8] (.take 9 [9,8] (.br 4 [9,8] [] (cm 10 (.take 11 [] .done)) .stop)))))⟩
def IQ:ai:=⟨bB [0,1,3,7,7,7,39,119,247,7,7,1543,3591,8191,16383,32767,65535],bB [0,1,2,4,4,4,36,84,132,4,4,1540,2052,0,8196,16388,32772],(cn 0 13 (cm 13 (cn 14 3 .done)))⟩
def Gp:ai:=⟨bB [0,1,3,7,7,7,39,119,247,7,7,1543,3591,8191,16383,32767,65535],bB [0,1,2,4,4,4,36,84,132,4,4,1540,2052,0,8196,16388,32772],(cn 0 13 (cm 13 (cn 14 3 .done)))⟩
def IR:ai:=⟨bB [0,1,3,7,15,31,0,127,255,0,512,1536,3584,7680,16383,32767],bB [0,1,2,4,0,16,0,96,0,0,512,1024,2048,4096,8448,16384],(cn 0 4 (.take 6 [] (cn 9 3 (.take 12 [12] (.take 13 [13,12] (.br 4 [13,12] [13,12] (.take 5 [13,12] (.take 7 [13,12] (.br 8 [13,12] [] (cn 14 2 .done) .stop))) .stop))))))⟩
def IS:ai:=⟨bB [0,0,3,7,15,15,15,111,239,15,15,1039,3599,7695,16383,32767,65535],bB [0,0,3,4,8,8,8,104,136,8,8,1032,2568,4104,0,16392,32776],(cn 0 14 (cm 14 (cn 15 2 .done)))⟩
def IT:ai:=⟨bB [0,0,0,0,8,0,0,64,224,480,0,0,3072,7168,16355,32739,65535,131071],bB [0,0,0,0,8,0,0,64,160,256,0,0,3072,4096,3,0,20,0],(cn 0 15 (cm 15 (.take 16 [] (cm 17 .done))))⟩
def Gq:ai:=⟨bB [0,0,0,0,0,24,0,0,0,384,960,1984,0,0,12288,28672,65475,131011,262143,524287],bB [0,0,0,0,0,24,0,0,0,384,576,1024,0,0,12288,16384,3,0,36,0],(cn 0 17 (cm 17 (.take 18 [] (cm 19 .done))))⟩
def Gr:ai:=⟨bB [0,0,0,0,0,24,0,0,0,384,960,1984,0,0,12288,28672,65475,131011,262143,524287],bB [0,0,0,0,0,24,0,0,0,384,576,1024,0,0,12288,16384,3,0,36,0],(cn 0 17 (cm 17 (.take 18 [] (cm 19 .done))))⟩
def IU:ai:=⟨bB [0,0,0,0,0,0,48,112,0,0,768,1792,4083,8179,16383,32767],bB [0,0,0,0,0,0,48,64,0,0,768,1024,3,0,12,0],(cn 0 13 (cm 13 (.take 14 [] (cm 15 .done))))⟩
def IV:ai:=⟨bB [0,0,3,7,15,15,15,111,239,15,15,1039,3599,7695,16383,32767,65535,131071],bB [0,0,3,4,8,8,8,104,136,8,8,1032,2568,4104,0,16392,32776,65544],(cn 0 14 (cm 14 (cn 15 3 .done)))⟩
def Gs:ai:=⟨bB [0,0,0,0,8,0,0,64,224,480,0,0,3072,7168,16355,32739,65535,131071],bB [0,0,0,0,8,0,0,64,160,256,0,0,3072,4096,3,0,20,0],(cn 0 15 (cm 15 (.take 16 [] (cm 17 .done))))⟩
def Gt:ai:=⟨bB [0,0,0,6,14,0,0,64,224,480,1023,2047,4095],bB [0,0,0,6,8,0,0,64,160,256,0,1024,2048],(cn 0 10 (cm 10 (cn 11 2 .done)))⟩
def Gu:ai:=⟨bB [0,0,0,0,8,0,0,64,224,480,0,0,3072,7168,16355,32739,65535,131071],bB [0,0,0,0,8,0,0,64,160,256,0,0,3072,4096,3,0,20,0],(cn 0 15 (cm 15 (.take 16 [] (cm 17 .done))))⟩
def Gv:ai:=⟨bB [0,0,0,6,14,0,0,64,224,480,1023,2047,4095],bB [0,0,0,6,8,0,0,64,160,256,0,1024,2048],(cn 0 10 (cm 10 (cn 11 2 .done)))⟩
def Gw:ai:=⟨bB [0,0,0,0,8,0,0,64,224,480,0,0,3072,7168,16355,32739,65535,131071],bB [0,0,0,0,8,0,0,64,160,256,0,0,3072,4096,3,0,20,0],(cn 0 15 (cm 15 (.take 16 [] (cm 17 .done))))⟩
def IW:ai:=⟨bB [0,0,0,0,0,0,48,112,0,0,768,1792,4083,8179,16383,32767],bB [0,0,0,0,0,0,48,64,0,0,768,1024,3,0,12,0],(cn 0 13 (cm 13 (.take 14 [] (cm 15 .done))))⟩
def IX:ai:=⟨bB [0,0,3,7,15,15,15,111,239,15,15,1551,3599,8191,16383,32767,65535],bB [0,0,3,4,8,8,8,104,136,8,8,1544,2056,0,8200,16392,32776],(cn 0 13 (cm 13 (cn 14 3 .done)))⟩
def IY:ai:=⟨bB [0,0,3,7,15,15,15,111,239,15,15,1551,3599,8191,16383,32767],bB [0,0,3,4,8,8,8,104,136,8,8,1544,2056,0,8200,16392],(cn 0 13 (cm 13 (cn 14 2 .done)))⟩
def IZ:ai:=⟨bB [0,0,0,0,0,0,48,112,0,0,768,1792,4083,8179,16383,32767],bB [0,0,0,0,0,0,48,64,0,0,768,1024,3,0,12,0],(cn 0 13 (cm 13 (.take 14 [] (cm 15 .done))))⟩
def I0:ai:=⟨bB [0,0,0,0,0,0,48,112,0,0,768,1792,4083,8179,16383,32767],bB [0,0,0,0,0,0,48,64,0,0,768,1024,3,0,12,0],(cn 0 13 (cm 13 (.take 14 [] (cm 15 .done))))⟩
def I1:ai:=⟨bB [0,0,3,7,15,15,15,111,239,15,15,1551,3599,8191,16383,32767],bB [0,0,3,4,8,8,8,104,136,8,8,1544,2056,0,8200,16392],(cn 0 13 (cm 13 (cn 14 2 .done)))⟩
def I2:ai:=⟨bB [0,0,3,7,15,15,15,111,239,15,15,1551,3599,8191,16383,32767,65535],bB [0,0,3,4,8,8,8,104,136,8,8,1544,2056,0,8200,16392,32776],(cn 0 13 (cm 13 (cn 14 3 .done)))⟩
def I3:ai:=⟨bB [0,0,0,0,0,0,48,112,0,0,768,1792,4083,8179,16383,32767],bB [0,0,0,0,0,0,48,64,0,0,768,1024,3,0,12,0],(cn 0 13 (cm 13 (.take 14 [] (cm 15 .done))))⟩
def Gx:ai:=⟨bB [0,0,0,0,0,0,48,112,0,0,768,1792,4083,8179,16383,32767],bB [0,0,0,0,0,0,48,64,0,0,768,1024,3,0,12,0],(cn 0 13 (cm 13 (.take 14 [] (cm 15 .done))))⟩
def Gy:ai:=⟨bB [0,0,3,7,15,15,15,111,239,15,15,1551,3599,8191,16383,32767],bB [0,0,3,4,8,8,8,104,136,8,8,1544,2056,0,8200,16392],(cn 0 13 (cm 13 (cn 14 2 .done)))⟩
def Gz:ai:=⟨bB [0,0,3,7,15,15,15,111,239,15,15,1551,3599,8191,16383,32767,65535],bB [0,0,3,4,8,8,8,104,136,8,8,1544,2056,0,8200,16392,32776],(cn 0 13 (cm 13 (cn 14 3 .done)))⟩
def GA:ai:=⟨bB [0,0,0,0,0,0,48,112,0,0,768,1792,4083,8179,16383,32767],bB [0,0,0,0,0,0,48,64,0,0,768,1024,3,0,12,0],(cn 0 13 (cm 13 (.take 14 [] (cm 15 .done))))⟩
def GB:ai:=⟨bB [0,0,0,0,0,0,48,112,0,0,768,1792,4083,8179,16383,32767],bB [0,0,0,0,0,0,48,64,0,0,768,1024,3,0,12,0],(cn 0 13 (cm 13 (.take 14 [] (cm 15 .done))))⟩
def I4:ai:=⟨bB [0,0,3,7,15,15,15,111,239,15,15,1039,3599,7695,16383,32767,65535],bB [0,0,3,4,8,8,8,104,136,8,8,1032,2568,4104,0,16392,32776],(cn 0 14 (cm 14 (cn 15 2 .done)))⟩
def I5:ai:=⟨bB [0,0,0,0,8,0,0,64,224,480,0,0,3072,7168,16355,32739,65535,131071],bB [0,0,0,0,8,0,0,64,160,256,0,0,3072,4096,3,0,20,0],(cn 0 15 (cm 15 (.take 16 [] (cm 17 .done))))⟩
def GC:ai:=⟨bB [0,0,0,0,0,24,0,0,0,384,960,1984,0,0,12288,28672,65475,131011,262143,524287],bB [0,0,0,0,0,24,0,0,0,384,576,1024,0,0,12288,16384,3,0,36,0],(cn 0 17 (cm 17 (.take 18 [] (cm 19 .done))))⟩
def GD:ai:=⟨bB [0,0,0,0,0,24,0,0,0,384,960,1984,0,0,12288,28672,65475,131011,262143,524287],bB [0,0,0,0,0,24,0,0,0,384,576,1024,0,0,12288,16384,3,0,36,0],(cn 0 17 (cm 17 (.take 18 [] (cm 19 .done))))⟩
def I6:ai:=⟨bB [0,0,0,0,0,0,48,112,0,0,768,1792,4083,8179,16383,32767],bB [0,0,0,0,0,0,48,64,0,0,768,1024,3,0,12,0],(cn 0 13 (cm 13 (.take 14 [] (cm 15 .done))))⟩
def I7:ai:=⟨bB [0,0,3,7,15,15,15,111,239,15,15,1039,3599,7695,16383,32767,65535,131071],bB [0,0,3,4,8,8,8,104,136,8,8,1032,2568,4104,0,16392,32776,65544],(cn 0 14 (cm 14 (cn 15 3 .done)))⟩
def GF:ai:=⟨bB [0,0,0,0,8,0,0,64,224,480,0,0,3072,7168,16355,32739,65535,131071],bB [0,0,0,0,8,0,0,64,160,256,0,0,3072,4096,3,0,20,0],(cn 0 15 (cm 15 (.take 16 [] (cm 17 .done))))⟩
def GG:ai:=⟨bB [0,0,0,6,14,0,0,64,224,480,1023,2047,4095],bB [0,0,0,6,8,0,0,64,160,256,0,1024,2048],(cn 0 10 (cm 10 (cn 11 2 .done)))⟩
def GH:ai:=⟨bB [0,0,0,0,8,0,0,64,224,480,0,0,3072,7168,16355,32739,65535,131071],bB [0,0,0,0,8,0,0,64,160,256,0,0,3072,4096,3,0,20,0],(cn 0 15 (cm 15 (.take 16 [] (cm 17 .done))))⟩
def GI:ai:=⟨bB [0,0,0,6,14,0,0,64,224,480,1023,2047,4095],bB [0,0,0,6,8,0,0,64,160,256,0,1024,2048],(cn 0 10 (cm 10 (cn 11 2 .done)))⟩
def GJ:ai:=⟨bB [0,0,0,0,8,0,0,64,224,480,0,0,3072,7168,16355,32739,65535,131071],bB [0,0,0,0,8,0,0,64,160,256,0,0,3072,4096,3,0,20,0],(cn 0 15 (cm 15 (.take 16 [] (cm 17 .done))))⟩
def I8:ai:=⟨bB [0,0,0,0,0,0,48,112,0,0,768,1792,4083,8179,16383,32767],bB [0,0,0,0,0,0,48,64,0,0,768,1024,3,0,12,0],(cn 0 13 (cm 13 (.take 14 [] (cm 15 .done))))⟩
def I9:ai:=⟨bB [0,0,3,7,15,15,15,111,239,15,15,1551,3599,8191,16383,32767,65535],bB [0,0,3,4,8,8,8,104,136,8,8,1544,2056,0,8200,16392,32776],(cn 0 13 (cm 13 (cn 14 3 .done)))⟩
def Ja:ai:=⟨bB [0,0,3,7,15,15,15,111,239,15,15,1551,3599,8191,16383,32767],bB [0,0,3,4,8,8,8,104,136,8,8,1544,2056,0,8200,16392],(cn 0 13 (cm 13 (cn 14 2 .done)))⟩
def Jb:ai:=⟨bB [0,0,0,0,0,0,48,112,0,0,768,1792,4083,8179,16383,32767],bB [0,0,0,0,0,0,48,64,0,0,768,1024,3,0,12,0],(cn 0 13 (cm 13 (.take 14 [] (cm 15 .done))))⟩
def Jc:ai:=⟨bB [0,0,0,0,0,0,48,112,0,0,768,1792,4083,8179,16383,32767],bB [0,0,0,0,0,0,48,64,0,0,768,1024,3,0,12,0],(cn 0 13 (cm 13 (.take 14 [] (cm 15 .done))))⟩
def Jd:ai:=⟨bB [0,0,3,7,15,15,15,111,239,15,15,1551,3599,8191,16383,32767],bB [0,0,3,4,8,8,8,104,136,8,8,1544,2056,0,8200,16392],(cn 0 13 (cm 13 (cn 14 2 .done)))⟩
def Je:ai:=⟨bB [0,0,3,7,15,15,15,111,239,15,15,1551,3599,8191,16383,32767,65535],bB [0,0,3,4,8,8,8,104,136,8,8,1544,2056,0,8200,16392,32776],(cn 0 13 (cm 13 (cn 14 3 .done)))⟩
def Jf:ai:=⟨bB [0,0,0,0,0,0,48,112,0,0,768,1792,4083,8179,16383,32767],bB [0,0,0,0,0,0,48,64,0,0,768,1024,3,0,12,0],(cn 0 13 (cm 13 (.take 14 [] (cm 15 .done))))⟩
def GK:ai:=⟨bB [0,0,0,0,0,0,48,112,0,0,768,1792,4083,8179,16383,32767],bB [0,0,0,0,0,0,48,64,0,0,768,1024,3,0,12,0],(cn 0 13 (cm 13 (.take 14 [] (cm 15 .done))))⟩
def GM:ai:=⟨bB [0,0,3,7,15,15,15,111,239,15,15,1551,3599,8191,16383,32767],bB [0,0,3,4,8,8,8,104,136,8,8,1544,2056,0,8200,16392],(cn 0 13 (cm 13 (cn 14 2 .done)))⟩
def GN:ai:=⟨bB [0,0,3,7,15,15,15,111,239,15,15,1551,3599,8191,16383,32767,65535],bB [0,0,3,4,8,8,8,104,136,8,8,1544,2056,0,8200,16392,32776],(cn 0 13 (cm 13 (cn 14 3 .done)))⟩
def GP:ai:=⟨bB [0,0,0,0,0,0,48,112,0,0,768,1792,4083,8179,16383,32767],bB [0,0,0,0,0,0,48,64,0,0,768,1024,3,0,12,0],(cn 0 13 (cm 13 (.take 14 [] (cm 15 .done))))⟩
def GQ:ai:=⟨bB [0,0,0,0,0,0,48,112,0,0,768,1792,4083,8179,16383,32767],bB [0,0,0,0,0,0,48,64,0,0,768,1024,3,0,12,0],(cn 0 13 (cm 13 (.take 14 [] (cm 15 .done))))⟩
def Jg:ai:=⟨bB [0,1,0,7,15,31,31,31,31,415,991,2015,31,31,31,24607,57375,127007,258079,524287,1048575,2097151],bB [0,1,0,6,8,16,16,16,16,400,592,1040,16,16,16,24592,32784,69648,131088,0,524304,1048592],(cn 0 19 (cm 19 (cn 20 2 .done)))⟩
def Jh:ai:=⟨bB [0,0,0,0,12,30,62,0,0,0,768,1920,3968,8191,16383,32767],bB [0,0,0,0,12,18,32,0,0,0,768,1152,2048,0,8192,16384],(cn 0 13 (cm 13 (cn 14 2 .done)))⟩
def Ji:ai:=⟨bB [0,0,0,6,0,0,0,96,0,0,0,1536,3840,7936,0,0,0,98304,245760,507904,1048335,2096911,4194303,8388607],bB [0,0,0,6,0,0,0,96,0,0,0,1536,2304,4096,0,0,0,98304,147456,262144,9,0,144,0],(cn 0 21 (cm 21 (.take 22 [] (cm 23 .done))))⟩
def Jj:ai:=⟨bB [0,1,3,0,8,24,56,127,255,511],bB [0,1,2,0,8,16,32,68,1,0],(cn 0 9 (cm 9 .done))⟩
def Jk:ai:=⟨bB [0,1,3,0,8,24,56,127,255,511],bB [0,1,2,0,8,16,32,68,1,0],(cn 0 9 (cm 9 .done))⟩
def Jl:ai:=⟨bB [0,1,3,0,8,24,56,127,255,511],bB [0,1,2,0,8,16,32,68,1,0],(cn 0 9 (cm 9 .done))⟩
def Jm:ai:=⟨bB [0,1,0,7,15,31,31,31,31,415,991,2015,31,31,31,24607,57375,127007,258079,524287,1048575,2097151],bB [0,1,0,6,8,16,16,16,16,400,592,1040,16,16,16,24592,32784,69648,131088,0,524304,1048592],(cn 0 19 (cm 19 (cn 20 2 .done)))⟩
def Jn:ai:=⟨bB [0,0,0,0,12,30,62,0,0,0,768,1920,3968,8191,16383,32767],bB [0,0,0,0,12,18,32,0,0,0,768,1152,2048,0,8192,16384],(cn 0 13 (cm 13 (cn 14 2 .done)))⟩
def Jo:ai:=⟨bB [0,0,0,6,0,0,0,96,0,0,0,1536,3840,7936,0,0,0,98304,245760,507904,1048335,2096911,4194303,8388607],bB [0,0,0,6,0,0,0,96,0,0,0,1536,2304,4096,0,0,0,98304,147456,262144,9,0,144,0],(cn 0 21 (cm 21 (.take 22 [] (cm 23 .done))))⟩
def Jp:ai:=⟨bB [0,0,0,6,14,0,0,96,224,511,1023],bB [0,0,0,6,8,0,0,96,128,0,512],(cn 0 9 (cm 9 (.take 10 [] .done)))⟩
def Jq:ai:=⟨bB [0,0,0,6,14,0,0,96,224,511,1023],bB [0,0,0,6,8,0,0,96,128,0,512],(cn 0 9 (cm 9 (.take 10 [] .done)))⟩
def Tb (f r : Nat) : Option ai :=
  bif Nat.beq f 9 then (bif Nat.beq r 9 then some PV else none) else
  bif Nat.beq f 17 then (bif Nat.beq r 4 then some LX else none) else
  bif Nat.beq f 22 then (bif Nat.beq r 1 then some LY else none) else
  bif Nat.beq f 23 then (bif Nat.beq r 2 then some LZ else none) else
  bif Nat.beq f 33 then (bif Nat.beq r 6 then some L0 else none) else
  bif Nat.beq f 35 then (bif Nat.beq r 5 then some L3 else none) else
  bif Nat.beq f 41 then (bif Nat.beq r 1 then some L4 else none) else
  bif Nat.beq f 46 then (bif Nat.beq r 1 then some L5 else none) else
  bif Nat.beq f 53 then (bif Nat.beq r 1 then some L6 else none) else
  bif Nat.beq f 55 then (bif Nat.beq r 2 then some L7 else none) else
  bif Nat.beq f 56 then (bif Nat.beq r 1 then some L8 else none) else
  bif Nat.beq f 63 then (bif Nat.beq r 2 then some L9 else none) else
  bif Nat.beq f 72 then (bif Nat.beq r 1 then some Ma else none) else
  bif Nat.beq f 75 then (bif Nat.beq r 1 then some Mb else none) else
  bif Nat.beq f 78 then (bif Nat.beq r 6 then some Mc else bif Nat.beq r 11 then some IP else none) else
  bif Nat.beq f 85 then (bif Nat.beq r 5 then some Md else bif Nat.beq r 8 then some Me else none) else
  bif Nat.beq f 89 then (bif Nat.beq r 2 then some Mf else none) else
  bif Nat.beq f 90 then (bif Nat.beq r 6 then some Mg else none) else
  bif Nat.beq f 94 then (bif Nat.beq r 3 then some Mh else none) else
  bif Nat.beq f 97 then (bif Nat.beq r 1 then some Mi else none) else
  bif Nat.beq f 98 then (bif Nat.beq r 17 then some IQ else none) else
  bif Nat.beq f 101 then (bif Nat.beq r 17 then some Gp else none) else
  bif Nat.beq f 107 then (bif Nat.beq r 0 then some IR else none) else
  bif Nat.beq f 108 then (bif Nat.beq r 4 then some IS else bif Nat.beq r 6 then some IT else none) else
  bif Nat.beq f 109 then (bif Nat.beq r 10 then some Gq else none) else
  bif Nat.beq f 110 then (bif Nat.beq r 10 then some Gr else none) else
  bif Nat.beq f 112 then (bif Nat.beq r 3 then some IU else none) else
  bif Nat.beq f 113 then (bif Nat.beq r 5 then some IV else bif Nat.beq r 11 then some Gs else bif Nat.beq r 16 then some Gt else bif Nat.beq r 17 then some Gu else bif Nat.beq r 22 then some Gv else bif Nat.beq r 23 then some Gw else none) else
  bif Nat.beq f 114 then (bif Nat.beq r 1 then some IW else bif Nat.beq r 3 then some IX else bif Nat.beq r 5 then some IY else bif Nat.beq r 8 then some IZ else none) else
  bif Nat.beq f 115 then (bif Nat.beq r 1 then some I0 else bif Nat.beq r 3 then some I1 else bif Nat.beq r 5 then some I2 else bif Nat.beq r 8 then some I3 else bif Nat.beq r 10 then some Gx else bif Nat.beq r 13 then some Gy else bif Nat.beq r 15 then some Gz else bif Nat.beq r 18 then some GA else bif Nat.beq r 21 then some GB else none) else
  bif Nat.beq f 118 then (bif Nat.beq r 4 then some I4 else bif Nat.beq r 6 then some I5 else none) else
  bif Nat.beq f 119 then (bif Nat.beq r 10 then some GC else none) else
  bif Nat.beq f 120 then (bif Nat.beq r 10 then some GD else none) else
  bif Nat.beq f 122 then (bif Nat.beq r 3 then some I6 else none) else
  bif Nat.beq f 123 then (bif Nat.beq r 5 then some I7 else bif Nat.beq r 11 then some GF else bif Nat.beq r 16 then some GG else bif Nat.beq r 17 then some GH else bif Nat.beq r 22 then some GI else bif Nat.beq r 23 then some GJ else none) else
  bif Nat.beq f 124 then (bif Nat.beq r 1 then some I8 else bif Nat.beq r 3 then some I9 else bif Nat.beq r 5 then some Ja else bif Nat.beq r 8 then some Jb else none) else
  bif Nat.beq f 125 then (bif Nat.beq r 1 then some Jc else bif Nat.beq r 3 then some Jd else bif Nat.beq r 5 then some Je else bif Nat.beq r 8 then some Jf else bif Nat.beq r 10 then some GK else bif Nat.beq r 13 then some GM else bif Nat.beq r 15 then some GN else bif Nat.beq r 18 then some GP else bif Nat.beq r 21 then some GQ else none) else
  bif Nat.beq f 128 then (bif Nat.beq r 3 then some Jg else bif Nat.beq r 5 then some Jh else bif Nat.beq r 6 then some Ji else none) else
  bif Nat.beq f 130 then (bif Nat.beq r 1 then some Jj else bif Nat.beq r 2 then some Jk else bif Nat.beq r 3 then some Jl else none) else
  bif Nat.beq f 133 then (bif Nat.beq r 3 then some Jm else bif Nat.beq r 5 then some Jn else bif Nat.beq r 6 then some Jo else none) else
  bif Nat.beq f 136 then (bif Nat.beq r 1 then some Jp else none) else
  bif Nat.beq f 137 then (bif Nat.beq r 1 then some Jq else none) else none
def okF (f : Nat) : Bool := Nat.blt f 156 && !(([4, 14, 15, 18, 37, 38, 42, 84] : List Nat).any (Nat.beq f))
theorem GR : (List.range 156).all (fun f => !okF f || match Tryz.prog.funcs[f]? with
  | some fn => match fn.body with
    | some c => bi (Tb f) c
    | none => true
  | none => true) = true := by kernel_rfl
theorem Jr (f : FuncId) (fn : Func) (c : Code) (h : okF f = true) (hf : Tryz.prog.funcs[f]? = some fn) (hb : fn.body = some c) : bi (Tb f) c = true := by
  have bR : f < 156 := by
    have : Nat.blt f 156 = true := by
      rw [okF, Bool.and_eq_true] at h
      exact h.1
    exact Nat.le_of_ble_eq_true this
  have h1 := List.all_eq_true.1 GR f (List.mem_range.2 bR)
  rw [h, hf] at h1
  simp only [hb] at h1
  simpa using h1
noncomputable def Js : Ly := { toEnv := env, dt := Tb, okF := okF, Kc := Jr }
end Go.Proofs.YtophnjjjmikmeaaGreat
