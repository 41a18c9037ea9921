/- The abstract machine's surroundings for this program: its types as a table (printed by a program of ours,checked by the kernel). -/
import Derived.Test.YtegoimldbgdeiaaProg
import Derived.Test.YtegoimldbgdeiaaAmKL
import Derived.KernelRfl
set_option linter.all false
namespace Go.Proofs.Ytegoimldbgdeiaa
open Go Go.Am
set_option maxRecDepth 100000
def zR (n:Nat) (x:AV):Option AV:=some (.agg (List.replicate n x))
def sK:Nat→Nat→Qu
  |0,_=>.nil
  |n+1,i=>.cons i 1 false .int (sK n (i+1))
def tB (t k : Nat) (a b : Option TI) : Option TI := bif Nat.ble t k then a else b
def tI (k : TK) (n : Nat) (a : Bool) (z : Option AV) (e : EK) : Option TI := some ⟨k, n, a, z, e⟩
def tiT (t : Nat) : Option TI :=
 tB t 116 (tB t 57 (tB t 28 (tB t 13 (tB t 6 (tB t 2 (tB t 0 (tI (.sc) 1 false (some (.bD [])) (.no))
 (tB t 1 (tI (.sc) 1 false (some (.ee)) (.no))
 (tI (.int .i64) 1 false (some (.int .i64 0)) (.int))))
 (tB t 4 (tB t 3 (tI (.int .i64) 1 false (some (.int .i64 0)) (.int))
 (tI (.sc) 1 false (some (.bool false)) (.bool)))
 (tB t 5 (tI (.int .u8) 1 false (some (.int .u8 0)) (.int))
 (tI (.int .u8) 1 false (some (.int .u8 0)) (.int)))))
 (tB t 9 (tB t 7 (tI (.st [(0,1,false),(1,1,false),(2,1,false),(3,1,false)]) 4 true (some (.agg [.int .i64 0,.int .i64 0,.bool false,.int .u8 0])) ((.st (.cons 0 1 false .int (.cons 1 1 false .int (.cons 2 1 false .bool (.cons 3 1 false .int .nil)))))))
 (tB t 8 (tI (.st [(0,1,false),(1,1,false),(2,1,false),(3,1,false)]) 4 true (some (.agg [.int .i64 0,.int .i64 0,.bool false,.int .u8 0])) ((.st (.cons 0 1 false .int (.cons 1 1 false .int (.cons 2 1 false .bool (.cons 3 1 false .int .nil)))))))
 (tI (.str) 1 false (some (.str [])) (.str))))
 (tB t 11 (tB t 10 (tI (.str) 1 false (some (.str [])) (.str))
 (none))
 (tB t 12 (tI (.int .u64) 1 false (some (.int .u64 0)) (.int))
 (none)))))
 (tB t 20 (tB t 16 (tB t 14 (none)
 (tB t 15 (none)
 (tI (.sc) 1 false (some (.na)) (.no))))
 (tB t 18 (none)
 (tB t 19 (none)
 (tI (.sc) 1 false (some (.rE)) (.no)))))
 (tB t 24 (tB t 22 (tB t 21 (tI (.int .i32) 1 false (some (.int .i32 0)) (.int))
 (none))
 (tB t 23 (tI (.arr 2 1 false) 2 true (some (.agg [.int .i64 0,.int .i64 0])) ((.st (sK 2 0))))
 (tI (.sc) 1 false (some (.ee)) (.no))))
 (tB t 26 (tB t 25 (tI (.sl 28 3 true 32 (some (.agg [.str [],.int .i64 0,.int .i64 0]))) 1 false (some (.list .nil 0 [])) (.no))
 (none))
 (tB t 27 (none)
 (tI (.st [(0,1,false),(1,1,false),(2,1,false)]) 3 true (some (.agg [.str [],.int .i64 0,.int .i64 0])) ((.st (.cons 0 1 false .str (.cons 1 1 false .int (.cons 2 1 false .int .nil)))))))))))
 (tB t 42 (tB t 35 (tB t 31 (tB t 29 (tI (.int .i64) 1 false (some (.int .i64 0)) (.int))
 (tB t 30 (tI (.sc) 1 false (some (.bD [.int .i64 0,.int .i64 0,.int .i64 0])) (.no))
 (none)))
 (tB t 33 (tB t 32 (tI (.sc) 1 false (none) (.no))
 (none))
 (none)))
 (tB t 38 (none)
 (tB t 40 (tB t 39 (none)
 (tI (.sl 74 2 true 40 (some (.agg [.str [],.list .nil 0 []]))) 1 false (some (.list .nil 0 [])) (.no)))
 (tB t 41 (tI (.sl 113 5 true 40 (some (.agg [.int .i64 0,.int .i64 0,.int .i64 0,.int .i64 0,.bool false]))) 1 false (some (.list .nil 0 [])) (.no))
 (none)))))
 (tB t 49 (tB t 45 (tB t 43 (tI (.st [(0,1,false),(1,1,false)]) 2 true (some (.agg [.list .nil 0 [],.list .nil 0 []])) ((.st (.cons 0 1 false .no (.cons 1 1 false .no .nil)))))
 (tB t 44 (none)
 (tI (.sl 131 2 true 40 (some (.agg [.str [],.list .nil 0 []]))) 1 false (some (.list .nil 0 [])) (.no))))
 (tB t 47 (tB t 46 (tI (.sl 110 5 true 40 (some (.agg [.int .i64 0,.int .i64 0,.int .i64 0,.int .i64 0,.bool false]))) 1 false (some (.list .nil 0 [])) (.no))
 (none))
 (tB t 48 (tI (.st [(0,1,false),(1,1,false)]) 2 true (some (.agg [.list .nil 0 [],.list .nil 0 []])) ((.st (.cons 0 1 false .no (.cons 1 1 false .no .nil)))))
 (none))))
 (tB t 53 (tB t 51 (tB t 50 (tI (.sl 67 2 true 16 (some (.agg [.int .i64 0,.int .i64 0]))) 1 false (some (.list .nil 0 [])) (.no))
 (none))
 (tB t 52 (none)
 (tI (.sl 50 1 false 24 (some (.list .nil 0 []))) 1 false (some (.list .nil 0 [])) (.no))))
 (tB t 55 (tB t 54 (tI (.sc) 1 false (some (.bD [.list .nil 0 [],.int .i64 0])) (.no))
 (none))
 (tB t 56 (none)
 (tI (.st [(0,1,false),(1,1,false),(2,1,false),(3,1,false),(4,1,false),(5,1,false)]) 6 true (zR 6 (.int .i64 0)) ((.st (sK 6 0))))))))))
 (tB t 86 (tB t 71 (tB t 64 (tB t 60 (tB t 58 (tI (.sc) 1 false (none) (.no))
 (tB t 59 (none)
 (tI (.sl 76 3 true 24 (some (.agg [.bool false,.int .i64 0,.int .i64 0]))) 1 false (some (.list .nil 0 [])) (.no))))
 (tB t 62 (tB t 61 (tI (.sc) 1 false (some (.bD [.list .nil 0 [],.int .i64 0])) (.no))
 (none))
 (tB t 63 (tI (.sc) 1 false (some (.bD [.list .nil 0 [],.int .i64 0,.int .i64 0])) (.no))
 (tI (.sc) 1 false (some (.ee)) (.no)))))
 (tB t 67 (tB t 65 (tI (.map 67 3 (some (.int .i64 0))) 1 false (some (.kJ)) (.no))
 (tB t 66 (tI (.st [(0,1,false),(1,1,false)]) 2 true (some (.agg [.int .i64 0,.int .i64 0])) ((.st (sK 2 0))))
 (tI (.st [(0,1,false),(1,1,false)]) 2 true (some (.agg [.int .i64 0,.int .i64 0])) ((.st (sK 2 0))))))
 (tB t 69 (tB t 68 (none)
 (tI (.st [(0,1,false),(1,1,false)]) 2 true (some (.agg [.int .i64 0,.int .i64 0])) ((.st (sK 2 0)))))
 (tB t 70 (none)
 (tI (.st [(0,1,false),(1,1,false)]) 2 true (some (.agg [.int .i64 0,.int .i64 0])) ((.st (sK 2 0))))))))
 (tB t 78 (tB t 74 (tB t 72 (tI (.sl 71 2 true 16 (some (.agg [.int .i64 0,.int .i64 0]))) 1 false (some (.list .nil 0 [])) (.no))
 (tB t 73 (none)
 (tI (.st [(0,1,false),(1,1,false)]) 2 true (some (.agg [.str [],.list .nil 0 []])) ((.st (.cons 0 1 false .str (.cons 1 1 false .no .nil)))))))
 (tB t 76 (tB t 75 (none)
 (tI (.st [(0,1,false),(1,1,false),(2,1,false)]) 3 true (some (.agg [.bool false,.int .i64 0,.int .i64 0])) ((.st (.cons 0 1 false .bool (.cons 1 1 false .int (.cons 2 1 false .int .nil)))))))
 (tB t 77 (tI (.sl 3 1 false 8 (some (.int .i64 0))) 1 false (some (.list .nil 0 [])) (.no))
 (none))))
 (tB t 82 (tB t 80 (tB t 79 (tI (.st [(0,1,false),(1,1,false)]) 2 true (some (.agg [.int .i64 0,.list .nil 0 []])) ((.st (.cons 0 1 false .int (.cons 1 1 false .no .nil)))))
 (tI (.sc) 1 false (some (.ee)) (.no)))
 (tB t 81 (tI (.sc) 1 false (some (.bD [.list .nil 0 [],.int .i64 0])) (.no))
 (none)))
 (tB t 84 (tB t 83 (tI (.st [(0,1,false),(1,1,false)]) 2 true (some (.agg [.int .i64 0,.list .nil 0 []])) ((.st (.cons 0 1 false .int (.cons 1 1 false .no .nil)))))
 (tI (.sc) 1 false (none) (.no)))
 (tB t 85 (tI (.sc) 1 false (some (.ee)) (.no))
 (none))))))
 (tB t 101 (tB t 93 (tB t 89 (tB t 87 (none)
 (tB t 88 (none)
 (tI (.sc) 1 false (some (.bD [.list .nil 0 [],.bool false])) (.no))))
 (tB t 91 (tB t 90 (tI (.sc) 1 false (some (.ee)) (.no))
 (none))
 (tB t 92 (tI (.sc) 1 false (some (.ee)) (.no))
 (none))))
 (tB t 97 (tB t 95 (tB t 94 (none)
 (tI (.sl 69 2 true 16 (some (.agg [.int .i64 0,.int .i64 0]))) 1 false (some (.list .nil 0 [])) (.no)))
 (tB t 96 (none)
 (tI (.sc) 1 false (none) (.no))))
 (tB t 99 (tB t 98 (tI (.sc) 1 false (some (.ee)) (.no))
 (tI (.sc) 1 false (some (.ee)) (.no)))
 (tB t 100 (tI (.sc) 1 false (some (.ee)) (.no))
 (tI (.sc) 1 false (some (.ee)) (.no))))))
 (tB t 108 (tB t 104 (tB t 102 (tI (.sc) 1 false (none) (.no))
 (tB t 103 (tI (.sc) 1 false (some (.ee)) (.no))
 (none)))
 (tB t 106 (tB t 105 (tI (.sc) 1 false (some (.ee)) (.no))
 (tI (.sl 77 1 false 24 (some (.list .nil 0 []))) 1 false (some (.list .nil 0 [])) (.no)))
 (tB t 107 (tI (.sc) 1 false (some (.bD [.list .nil 0 [],.int .i64 0])) (.no))
 (tI (.sc) 1 false (some (.ee)) (.no)))))
 (tB t 112 (tB t 110 (tB t 109 (tI (.st [(0,2,true),(2,2,true),(4,1,false)]) 5 true (some (.agg [.int .i64 0,.int .i64 0,.int .i64 0,.int .i64 0,.bool false])) ((.st (.cons 0 2 true (.st (sK 2 0)) (.cons 2 2 true (.st (sK 2 0)) (.cons 4 1 false .bool .nil))))))
 (tI (.st [(0,2,true),(2,2,true),(4,1,false)]) 5 true (some (.agg [.int .i64 0,.int .i64 0,.int .i64 0,.int .i64 0,.bool false])) ((.st (.cons 0 2 true (.st (sK 2 0)) (.cons 2 2 true (.st (sK 2 0)) (.cons 4 1 false .bool .nil)))))))
 (tB t 111 (tI (.sc) 1 false (some (.ee)) (.no))
 (tI (.st [(0,2,true),(2,2,true),(4,1,false)]) 5 true (some (.agg [.int .i64 0,.int .i64 0,.int .i64 0,.int .i64 0,.bool false])) ((.st (.cons 0 2 true (.st (sK 2 0)) (.cons 2 2 true (.st (sK 2 0)) (.cons 4 1 false .bool .nil))))))))
 (tB t 114 (tB t 113 (tI (.st [(0,2,true),(2,2,true),(4,1,false)]) 5 true (some (.agg [.int .i64 0,.int .i64 0,.int .i64 0,.int .i64 0,.bool false])) ((.st (.cons 0 2 true (.st (sK 2 0)) (.cons 2 2 true (.st (sK 2 0)) (.cons 4 1 false .bool .nil))))))
 (tI (.sc) 1 false (some (.ee)) (.no)))
 (tB t 115 (tI (.sc) 1 false (some (.ee)) (.no))
 (tI (.sc) 1 false (some (.ee)) (.no)))))))))
 (tB t 175 (tB t 145 (tB t 130 (tB t 123 (tB t 119 (tB t 117 (tI (.sc) 1 false (some (.ee)) (.no))
 (tB t 118 (tI (.sc) 1 false (some (.ee)) (.no))
 (none)))
 (tB t 121 (tB t 120 (tI (.st [(0,2,true),(2,1,false)]) 3 true (some (.agg [.int .i64 0,.int .i64 0,.bool false])) ((.st (.cons 0 2 true (.st (sK 2 0)) (.cons 2 1 false .bool .nil)))))
 (tI (.st [(0,2,true),(2,1,false)]) 3 true (some (.agg [.int .i64 0,.int .i64 0,.bool false])) ((.st (.cons 0 2 true (.st (sK 2 0)) (.cons 2 1 false .bool .nil))))))
 (tB t 122 (tI (.sl 121 3 true 24 (some (.agg [.int .i64 0,.int .i64 0,.bool false]))) 1 false (some (.list .nil 0 [])) (.no))
 (none))))
 (tB t 126 (none)
 (tB t 128 (none)
 (tB t 129 (tI (.sl 132 2 true 16 (some (.agg [.int .i64 0,.int .i64 0]))) 1 false (some (.list .nil 0 [])) (.no))
 (none)))))
 (tB t 137 (tB t 133 (tB t 131 (tI (.st [(0,1,false),(1,1,false)]) 2 true (some (.agg [.str [],.list .nil 0 []])) ((.st (.cons 0 1 false .str (.cons 1 1 false .no .nil)))))
 (tB t 132 (tI (.st [(0,1,false),(1,1,false)]) 2 true (some (.agg [.int .i64 0,.int .i64 0])) ((.st (sK 2 0))))
 (none)))
 (tB t 135 (none)
 (tB t 136 (none)
 (tI (.sc) 1 false (some (.ee)) (.no)))))
 (tB t 141 (tB t 139 (none)
 (tB t 140 (none)
 (tI (.st [(0,1,false),(1,1,false)]) 2 true (some (.agg [.list .nil 0 [],.list .nil 0 []])) ((.st (.cons 0 1 false .no (.cons 1 1 false .no .nil)))))))
 (tB t 143 (tB t 142 (tI (.sc) 1 false (some (.na)) (.no))
 (tI (.sc) 1 false (none) (.no)))
 (none)))))
 (tB t 160 (tB t 152 (tB t 148 (tB t 146 (tI (.sc) 1 false (some (.ee)) (.no))
 (tB t 147 (tI (.sc) 1 false (some (.bD [.int .i64 0,.bool false])) (.no))
 (none)))
 (tB t 150 (tB t 149 (none)
 (tI (.sc) 1 false (some (.ee)) (.no)))
 (tB t 151 (tI (.sc) 1 false (none) (.no))
 (none))))
 (tB t 156 (none)
 (tB t 158 (tB t 157 (none)
 (tI (.map 3 3 (some (.int .i64 0))) 1 false (some (.kJ)) (.no)))
 (tB t 159 (tI (.sc) 1 false (some (.bD [.kJ,.list .nil 0 []])) (.no))
 (none)))))
 (tB t 167 (tB t 163 (tB t 161 (none)
 (tB t 162 (tI (.sc) 1 false (some (.ee)) (.no))
 (tI (.sc) 1 false (some (.ee)) (.no))))
 (tB t 165 (none)
 (tB t 166 (none)
 (tI (.sc) 1 false (some (.ee)) (.no)))))
 (tB t 171 (tB t 169 (tB t 168 (none)
 (tI (.sc) 1 false (some (.ee)) (.no)))
 (none))
 (tB t 173 (tB t 172 (tI (.sl 29 1 false 8 (some (.int .i64 0))) 1 false (some (.list .nil 0 [])) (.no))
 (tI (.map 67 4 (some (.bool false))) 1 false (some (.kJ)) (.no)))
 (tB t 174 (tI (.arr 2 2 true) 4 true (zR 4 (.int .i64 0)) ((.st (.cons 0 2 true (.st (sK 2 0)) (.cons 2 2 true (.st (sK 2 0)) .nil)))))
 (none)))))))
 (tB t 204 (tB t 189 (tB t 182 (tB t 178 (tB t 176 (tI (.sc) 1 false (none) (.no))
 (tB t 177 (none)
 (tI (.map 3 4 (some (.bool false))) 1 false (some (.kJ)) (.no))))
 (tB t 180 (tB t 179 (none)
 (tI (.sl 23 2 true 16 (some (.agg [.int .i64 0,.int .i64 0]))) 1 false (some (.list .nil 0 [])) (.no)))
 (tB t 181 (none)
 (tI (.sc) 1 false (some (.ee)) (.no)))))
 (tB t 185 (tB t 183 (none)
 (tB t 184 (tI (.sc) 1 false (some (.ee)) (.no))
 (none)))
 (tB t 187 (tB t 186 (tI (.sc) 1 false (some (.ee)) (.no))
 (none))
 (none))))
 (tB t 196 (tB t 192 (none)
 (tB t 194 (tB t 193 (none)
 (tI (.sc) 1 false (some (.ee)) (.no)))
 (none)))
 (tB t 200 (tB t 198 (tB t 197 (none)
 (tI (.map 3 122 (some (.list .nil 0 []))) 1 false (some (.kJ)) (.no)))
 (tB t 199 (tI (.sc) 1 false (some (.ee)) (.no))
 (tI (.sc) 1 false (some (.ee)) (.no))))
 (tB t 202 (tB t 201 (none)
 (tI (.sc) 1 false (some (.ee)) (.no)))
 (none)))))
 (tB t 219 (tB t 211 (tB t 207 (tB t 205 (tI (.sl 174 4 true 32 (zR 4 (.int .i64 0))) 1 false (some (.list .nil 0 [])) (.no))
 (tB t 206 (tI (.arr 2 4 true) 8 true (zR 8 (.int .i64 0)) ((.st (.cons 0 4 true (.st (.cons 0 2 true (.st (sK 2 0)) (.cons 2 2 true (.st (sK 2 0)) .nil))) (.cons 4 4 true (.st (.cons 0 2 true (.st (sK 2 0)) (.cons 2 2 true (.st (sK 2 0)) .nil))) .nil)))))
 (none)))
 (none))
 (tB t 215 (tB t 213 (none)
 (tB t 214 (none)
 (tI (.sl 122 1 false 24 (some (.list .nil 0 []))) 1 false (some (.list .nil 0 [])) (.no))))
 (none)))
 (none))))
def X3 (t:Nat):Option TI:=bif Nat.ble 235 t then none else tiT t
theorem OQ:(List.range 235).map (fun t=>match X3 t with | none=>none | some _=>IK Try.prog t)=(List.range 235).map X3:=by kernel_rfl
theorem IL (t:TypeId) (i:TI) (h:X3 t=some i):IK Try.prog t=some i:=by
  by_cases ht:t < 235
  · have h1:=congrArg (fun l=>l[t]?) OQ
    simp only [List.getElem?_map,List.getElem?_range ht,Option.map_some,Option.some.injEq] at h1
    rw [h] at h1
    exact h1
  · have hb:Nat.ble 235 t=true:=Nat.ble_eq_true_of_le (Nat.not_lt.1 ht)
    rw [X3,hb] at h
    cases h
def X4:List ((Nat × Nat) × List (Option Nat × Nat × Nat)):=[((64,1),[(none,2031617,3),(none,2031617,77)]),((64,176),[(some 14,0,1048576)]),((70,6),[(some 0,1,3)]),((78,148),[(some 20,0,1048576)])]
def QY:List ((Nat × Nat) × List (Option Nat × Nat × Nat))→Nat→Nat→List (Option Nat × Nat × Nat)
  |[],_,_=>[]
  |((a,b),x) :: l,f,t=>bif Nat.beq a f&&Nat.beq b t then x else QY l f t
def abx (f t:Nat):List (Option Nat × Nat × Nat):=QY X4 f t
def aby (f t:Nat):Bool:=
  (Nat.beq f 1000000&&Nat.beq t 1000000) ||
  (Nat.beq f 25&&(Nat.beq t 131072)) ||
  (Nat.beq f 27&&(Nat.beq t 2)) ||
  (Nat.beq f 30&&(Nat.beq t 131072 || Nat.beq t 196629)) ||
  (Nat.beq f 38&&(Nat.beq t 3 || Nat.beq t 8)) ||
  (Nat.beq f 41&&(Nat.beq t 5 || Nat.beq t 7 || Nat.beq t 8 || Nat.beq t 131072 || Nat.beq t 131074)) ||
  (Nat.beq f 46&&(Nat.beq t 5 || Nat.beq t 6 || Nat.beq t 131072 || Nat.beq t 131074)) ||
  (Nat.beq f 49&&(Nat.beq t 2)) ||
  (Nat.beq f 56&&(Nat.beq t 1 || Nat.beq t 3)) ||
  (Nat.beq f 58&&(Nat.beq t 3 || Nat.beq t 5)) ||
  (Nat.beq f 60&&(Nat.beq t 5 || Nat.beq t 131072)) ||
  (Nat.beq f 61&&(Nat.beq t 3 || Nat.beq t 5 || Nat.beq t 6)) ||
  (Nat.beq f 64&&(Nat.beq t 197 || Nat.beq t 65585 || Nat.beq t 131072 || Nat.beq t 196635 || Nat.beq t 524345 || Nat.beq t 589842 || Nat.beq t 589846)) ||
  (Nat.beq f 70&&(Nat.beq t 6)) ||
  (Nat.beq f 73&&(Nat.beq t 4)) ||
  (Nat.beq f 78&&(Nat.beq t 1 || Nat.beq t 2 || Nat.beq t 3 || Nat.beq t 4 || Nat.beq t 5 || Nat.beq t 6 || Nat.beq t 7 || Nat.beq t 11)) ||
  (Nat.beq f 80&&(Nat.beq t 1)) ||
  (Nat.beq f 94&&(Nat.beq t 196618)) ||
  (Nat.beq f 96&&(Nat.beq t 196618)) ||
  (Nat.beq f 102&&(Nat.beq t 131072)) ||
  (Nat.beq f 108&&(Nat.beq t 196618)) ||
  (Nat.beq f 110&&(Nat.beq t 196613)) ||
  (Nat.beq f 112&&(Nat.beq t 196613)) ||
  (Nat.beq f 113&&(Nat.beq t 196618)) ||
  (Nat.beq f 127&&(Nat.beq t 2))
def QZ:cD:=[]
theorem OR:QZ.all (fun p=>aF p.2)=true:=by kernel_rfl
def X5 (g:Nat):Option (List AV):=di QZ g
noncomputable def env:Env:={ P:=Try.prog,ti:=X3,dV:=X5,xJ:=aby,NV:=fun _=>none,gho:=abx,IL:=IL,mixed:=by kernel_rfl,B8:=fun _ _ h=>N2 OR h }
def dh (l:List Nat):List (List Nat):=l.map fun m=>(List.range (m.log2+1)).filter m.testBit
def kW (a:Nat):Nat→DT→DT
 | 0,t=>t
 | n+1,t=>CB (a+1) fun b=>.take a [] (kW b n t)
def kB (i:Nat) (t:DT):DT:=.br i [] [] t .stop
def X6:az:=⟨dh [0,1,0,4,0,0,32,115,255,511,1023],dh [0,0,0,4,0,0,32,0,136,0,512],(.take 0 [] (.take 2 [] (.take 3 [3] (.take 4 [3] (.take 5 [3] (.take 6 [6,3] (.br 1 [6,3] [3] (.br 7 [3] [] (.take 8 [] (kB 9 (.take 10 [] .done))) .stop) .stop)))))))⟩
def S4:az:=⟨dh [0,0,3,0,8,24,0,64,248,0,512,2047,0,8191],dh [0,0,0,0,8,16,0,64,160,0,512,1284,0,0],(.al 12 [1,6,7,24,25,26,27,28,29,30,31,32,33,34] (kW 0 2 (.take 3 [] (.take 4 [4] (.take 5 [4] (.take 6 [4] (.take 7 [7,4] (.take 8 [7,4] (.take 9 [7,4] (.take 10 [10,7,4] (.br 2 [10,7,4] [] (.take 11 [] (kB 13 .done)) .stop)))))))))))⟩
def S5:az:=⟨dh [0,1,3,7,15,31,15,79,207,511,1023,2047,4095,8191,16383,32767,65535,131071,262143,131071,655359,131071,2228223,7995391,16383999,33161215,66715647,134217727,268435455,536870911],dh [0,1,2,4,8,24,8,72,136,296,520,1024,2048,6144,10240,18432,32768,65536,196608,65536,589824,65536,2162688,5308416,8454144,16842752,33619968,67436544,134283264,268435456],(kW 0 30 .done)⟩
def S6:az:=⟨dh [0,1,0,4,12,28,63,0,128,384,1023,2047,4095,2047,10239,26623,65535,131071,262143,524287,1048575,2097151],dh [0,0,0,4,8,16,0,0,128,256,512,1024,3072,1024,9216,17408,37888,66560,0,262210,0,1048576],(.take 0 [] (.take 2 [] (.take 3 [3] (.take 4 [4,3] (.take 5 [4,3] (.take 7 [4,3] (.take 8 [8,4,3] (.take 9 [8,4,3] (.br 1 [8,4,3] [8] (.br 6 [8] [] (kW 10 8 (kB 18 (.take 19 [] (kB 20 (.take 21 [] .done))))) .stop) .stop)))))))))⟩
def OS:az:=⟨dh [0,0,2,0,14,0,32,0,224,480,1023,2047],dh [0,0,2,0,12,0,32,0,192,256,0,1024],(kW 0 10 (kB 10 (.take 11 [] .done)))⟩
def S7:az:=⟨dh [0,1,0,7,15,31,63,127,255,127,1023,2047,127,4223,12415,32767,65535],dh [0,1,0,6,8,16,32,64,192,64,832,1088,64,4160,8256,18496,32832],(kW 0 17 .done)⟩
def OT:az:=⟨dh [0,1,3,3,15,31,3,3,195,451,1023,2047,4095],dh [0,1,2,2,14,18,2,2,194,258,546,1026,2049],(kW 0 13 .done)⟩
def OU:az:=⟨dh [0,1,0,7,15,31,63,0,128,0,896,1920,3968,8064,127,32767],dh [0,1,0,6,8,16,32,0,128,0,768,1024,2048,4096,64,8192],(kW 0 16 .done)⟩
def OV:az:=⟨dh [0,0,2,6,15,31,0,0,128,384,960,1984,4095,0,8192,32767],dh [0,0,2,4,9,16,0,0,128,256,576,1024,2080,0,8192,20480],(kW 0 16 .done)⟩
def S8:az:=⟨dh [0,0,3,7,0,0,48,112,255],dh [0,0,3,4,0,0,48,64,136],(kW 0 9 .done)⟩
def S9:az:=⟨dh [0,1,3,7,15,0,32,96,224,511,0,1024,0,4096,12288,28672,64512,131071,0,262144,786432,1835008,4194303,8388607,16777215,33554431],dh [0,1,2,4,0,0,32,64,128,0,0,1024,0,4096,8192,16384,34816,0,0,262144,524288,1048576,0,4325904,0,16777216],(kW 0 4 (.take 5 [] (.take 6 [6] (.take 7 [7,6] (.take 8 [7,6] (.take 10 [7,6] (.take 11 [11,7,6] (.take 12 [11,7,6] (.take 13 [13,11,7,6] (.take 14 [14,13,11,7,6] (.take 15 [15,14,13,11,7,6] (.take 16 [15,14,13,11,7,6] (.take 18 [15,14,13,11,7,6] (.take 19 [19,15,14,13,11,7,6] (.take 20 [20,19,15,14,13,11,7,6] (.take 21 [20,19,15,14,13,11,7,6] (.br 4 [20,19,15,14,13,11,7,6] [20,19,15,14,13,11] (.br 9 [20,19,15,14,13,11] [20,19] (.br 17 [20,19] [] (kB 22 (.take 23 [] (kB 24 (.take 25 [] .done)))) .stop) .stop) .stop)))))))))))))))))⟩
def Ta:az:=⟨dh [0,0,0,4,0,28,63,127],dh [0,0,0,4,0,24,0,64],(kW 0 6 (kB 6 (.take 7 [] .done)))⟩
def OW:az:=⟨dh [0,0,2,0,0,16,56,120,0,0,0,1536,3840,7936,16376,32767,65535],dh [0,0,2,0,0,16,40,64,0,0,0,1536,2304,4096,0,5,0],(.take 0 [0] (.take 1 [0] (.take 2 [2,0] (.take 3 [2,0] (.take 4 [2,0] (.take 5 [2,0] (.take 6 [2,0] (.take 7 [2,0] (.take 8 [2,0] (.take 9 [2,0] (.take 10 [2,0] (.take 11 [2,0] (.take 12 [2,0] (.take 13 [2,0] (.br 14 [2,0] [] (.take 15 [] (kB 16 .done)) .stop)))))))))))))))⟩
def OX:az:=⟨dh [0,0,2,7,15,0,0,64,239,495,511,2047],dh [0,0,2,0,8,0,0,64,0,256,16,512],(kW 0 3 (.take 5 [5] (.take 6 [5] (.take 7 [7,5] (.br 3 [7,5] [] (.take 4 [] (kB 8 (kW 9 3 .done))) .stop)))))⟩
def Tb:az:=⟨dh [0,0,2,0,0,16,56,120,0,0,768,1792,4088,8191,16383],dh [0,0,2,0,0,16,40,64,0,0,768,1024,0,5,0],(.take 0 [0] (.take 1 [0] (.take 2 [2,0] (.take 3 [2,0] (.take 4 [2,0] (.take 5 [2,0] (.take 6 [2,0] (.take 7 [2,0] (.take 8 [2,0] (.take 9 [2,0] (.take 10 [2,0] (.take 11 [2,0] (.br 12 [2,0] [] (.take 13 [] (kB 14 .done)) .stop)))))))))))))⟩
def Tc:az:=⟨dh [0,0,3,7,0,0,48,112,255,511],dh [0,0,3,4,0,0,48,64,0,256],(kW 0 8 (kB 8 (.take 9 [] .done)))⟩
def OY:az:=⟨dh [0,0,0,7,0,0,0,127,255],dh [0,0,0,0,0,0,0,0,136],(kW 0 3 (.take 4 [4] (.take 5 [5,4] (.take 6 [5,4] (.br 3 [5,4] [] (kB 7 (.take 8 [] .done)) .stop)))))⟩
def Td:az:=⟨dh [0,1,3,7,15,0,32,127,0,256,1023,2047,4095,8191],dh [0,1,0,4,0,0,32,0,0,256,0,1168,0,4096],(kW 0 2 (.take 5 [] (.take 6 [6] (.take 8 [6] (.take 9 [9,6] (.br 2 [9,6] [9,6] (.take 3 [9,6] (.br 4 [9,6] [9] (.br 7 [9] [] (kB 10 (.take 11 [] (kB 12 (.take 13 [] .done)))) .stop) .stop)) .stop))))))⟩
def Te:az:=⟨dh [0,1,3,7,0,16,48,112,255,0,1023],dh [0,1,2,0,0,16,32,0,136,0,0],(.al 9 [1,15,16,17,18,19,20,21,22] (.take 0 [] (.take 1 [1] (.take 2 [2,1] (.take 4 [2,1] (.take 5 [5,2,1] (.take 6 [6,5,2,1] (.br 3 [6,5] [2,1] (.br 7 [2,1] [] (.take 8 [] (kB 10 .done)) .stop) (.br 7 [2,1] [6,5] (.br 3 [6,5] [] (.take 8 [] (kB 10 .done)) .stop) .stop)))))))))⟩
def OZ:az:=⟨dh [0,1,0,0,0,0,32,0,224,480,0,999,3047,8191,16383],dh [0,1,0,0,0,0,32,0,192,256,0,6,0,24,0],(kW 0 12 (kB 12 (.take 13 [] (kB 14 .done))))⟩
def O0:az:=⟨dh [0,1,0,0,8,0,56,120,248,511,1023],dh [0,1,0,0,8,0,48,64,128,6,0],(kW 0 10 (kB 10 .done))⟩
def O1:az:=⟨dh [0,1,0,0,8,0,56,120,248,0,512,2040,4095,8191],dh [0,1,0,0,8,0,48,64,0,0,512,0,6,0],(.take 0 [] (.take 1 [1] (.take 2 [1] (.take 3 [1] (.take 4 [1] (.take 5 [1] (.take 6 [1] (.take 7 [1] (.take 9 [1] (.take 10 [1] (.br 8 [1] [1] (.br 11 [1] [] (.take 12 [] (kB 13 .done)) .stop) .stop)))))))))))⟩
def O2:az:=⟨dh [0,1,0,4,12,31,63,0,128,0,512,1536,3968,8064,16383,0,32768,131071],dh [0,1,0,4,8,18,32,0,128,0,512,1024,2304,4096,8256,0,32768,81920],(kW 0 18 .done)⟩
def O3:az:=⟨dh [0,0,0,4,12,30,62,0,128,0,512,1536,3968,8064,0,16384,0,130944,262016,524286,1048574,524161,4194303],dh [0,0,0,4,8,18,32,0,128,0,512,1024,2304,4096,0,16384,0,106496,0,262208,0,0,1048576],(.take 0 [0] (.take 1 [0] (.take 2 [0] (.take 3 [0] (.take 4 [4,0] (.take 5 [4,0] (.take 6 [6,4,0] (.take 7 [6,4,0] (.take 8 [6,4,0] (.take 9 [6,4,0] (.take 10 [6,4,0] (.take 11 [6,4,0] (.take 12 [6,4,0] (.take 13 [6,4,0] (.take 14 [6,4,0] (.take 15 [6,4,0] (.take 16 [6,4,0] (.take 17 [6,4,0] (.br 18 [6,4,0] [6,4,0] (.take 19 [6,4,0] (.br 20 [0] [6,4] (.br 21 [6,4] [] (.take 22 [] .done) .stop) (.br 21 [6,4] [0] (.br 20 [0] [] (.take 22 [] .done) .stop) .stop))) .stop)))))))))))))))))))⟩
def Tf:az:=⟨dh [0,0,3,7,15,0,0,96,224,480,1023],dh [0,0,3,4,8,0,0,96,128,256,528],(kW 0 11 .done)⟩
def O4:az:=⟨dh [0,1,3,0,8,31,63,127,255],dh [0,1,0,0,8,0,36,0,128],(kW 0 2 (.take 3 [] (.take 4 [4] (.br 2 [4] [] (kB 5 (.take 6 [] (kB 7 (.take 8 [] .done)))) .stop))))⟩
def Tg:az:=⟨dh [0,1,0,4,0,28,60,127,255,0,1023],dh [0,1,0,4,0,24,32,66,128,0,0],(.take 0 [0] (.take 1 [1,0] (.take 2 [2,1,0] (.take 3 [3,2,1,0] (.take 4 [4,3,2,1,0] (.take 5 [5,4,3,2,1,0] (.take 6 [6,5,4,3,2,1,0] (.take 7 [7,6,5,4,3,2,1,0] (.take 8 [8,7,6,5,4,3,2,1,0] (.br 9 [8,7,6,5,4,3,2,1,0] [] (kB 10 .done) .stop))))))))))⟩
def Th:az:=⟨dh [0,0,2,6,0,16,0,112,240,496,1008,2046,4094,0,8192,24576,0,65536,0,458752,983040,2031616,4128768,8380416,16769024,33554431,67108863],dh [0,0,2,4,0,16,0,96,128,256,512,1032,2048,0,8192,16384,0,65536,0,393216,524288,1048576,2097152,4227072,8388608,0,33562627],(kW 0 25 (kB 25 (.take 26 [] .done)))⟩
def Ti:az:=⟨dh [0,1,3,7,15,31,15,79,207,511,1023,2047,4095,8191,16383,32767,65535,131071,262143,131071,655359,131071,2228223,7995391,16383999,33161215,66715647,134217727,268435455,536870911],dh [0,1,2,4,8,24,8,72,136,296,520,1024,2048,6144,10240,18432,32768,65536,196608,65536,589824,65536,2162688,5308416,8454144,16842752,33619968,67436544,134283264,268435456],(kW 0 30 .done)⟩
def Tj:az:=⟨dh [0,1,3,7,15,0,63,0,128,384,896,2047,4095,8191,16383,32767,65535,131071,262143,524287,1048575],dh [0,1,0,4,0,0,0,0,128,256,512,1024,2048,6144,10240,18432,34816,0,131152,0,524288],(kW 0 2 (.take 5 [] (.take 7 [] (.take 8 [8] (.take 9 [9,8] (.take 10 [9,8] (.br 2 [9,8] [9,8] (.take 3 [9,8] (.br 4 [9,8] [9,8] (.br 6 [9,8] [] (kW 11 6 (kB 17 (.take 18 [] (kB 19 (.take 20 [] .done))))) .stop) .stop)) .stop)))))))⟩
def O5:az:=⟨dh [0,1,3,0,8,31,63,127,255],dh [0,1,0,0,8,0,36,0,128],(kW 0 2 (.take 3 [] (.take 4 [4] (.br 2 [4] [] (kB 5 (.take 6 [] (kB 7 (.take 8 [] .done)))) .stop))))⟩
def Tk:az:=⟨dh [0,0,2,7,15,0,0,64,239,495,511,2047],dh [0,0,2,0,8,0,0,64,0,256,16,512],(kW 0 3 (.take 5 [5] (.take 6 [5] (.take 7 [7,5] (.br 3 [7,5] [] (.take 4 [] (kB 8 (kW 9 3 .done))) .stop)))))⟩
def Tl:az:=⟨dh [0,0,0,6,15,31,63,63,127,511],dh [0,0,0,6,9,16,32,32,64,128],(kW 0 10 .done)⟩
def Tm:az:=⟨dh [0,0,0,6,15],dh [0,0,0,6,0],(kW 0 4 (kB 4 .done))⟩
def O6:az:=⟨dh [0,0,2,0,0,16,0,0,0,384,896,1984,0,0,8192,28672,62336,0,131072,393216,1045376,2093959,4191111,8388551,16777215,33554431],dh [0,0,2,0,0,16,0,0,0,0,512,1088,0,0,8192,20480,0,0,131072,262144,0,0,2097152,0,0,0],(.take 0 [0] (.take 1 [0] (.take 2 [2,0] (.take 3 [3,2,0] (.take 4 [3,2,0] (.take 5 [5,3,2,0] (.take 6 [5,3,2,0] (.take 7 [5,3,2,0] (.take 8 [5,3,2,0] (.take 12 [12,5,3,2,0] (.take 13 [12,5,3,2,0] (.take 14 [14,12,5,3,2,0] (.take 15 [15,14,12,5,3,2,0] (.take 17 [17,15,14,12,5,3,2,0] (.take 18 [17,15,14,12,5,3,2,0] (.take 19 [17,15,14,12,5,3,2,0] (.br 9 [17,15,14,12,5,3,2,0] [17,5,3,2,0] (.take 10 [17,5,3,2,0] (.take 11 [17,5,3,2,0] (.br 16 [17,5,3,2,0] [5,3,2,0] (.br 20 [5,3,2,0] [5,3] (.br 21 [5,3] [5,3] (.take 22 [5,3] (.br 23 [5,3] [] (kB 24 (kB 25 .done)) .stop)) .stop) .stop) .stop))) .stop)))))))))))))))))⟩
def O7:az:=⟨dh [0,0,2,0,0,16,0,0,0,384,896,1984,0,0,8192,28672,62336,0,131072,393216,1045376,2093959,4191111,8388551,16777215,33554431],dh [0,0,2,0,0,16,0,0,0,0,512,1088,0,0,8192,20480,0,0,131072,262144,0,0,2097152,0,0,0],(.take 0 [0] (.take 1 [0] (.take 2 [2,0] (.take 3 [3,2,0] (.take 4 [3,2,0] (.take 5 [5,3,2,0] (.take 6 [5,3,2,0] (.take 7 [5,3,2,0] (.take 8 [5,3,2,0] (.take 12 [12,5,3,2,0] (.take 13 [12,5,3,2,0] (.take 14 [14,12,5,3,2,0] (.take 15 [15,14,12,5,3,2,0] (.take 17 [17,15,14,12,5,3,2,0] (.take 18 [17,15,14,12,5,3,2,0] (.take 19 [17,15,14,12,5,3,2,0] (.br 9 [17,15,14,12,5,3,2,0] [17,5,3,2,0] (.take 10 [17,5,3,2,0] (.take 11 [17,5,3,2,0] (.br 16 [17,5,3,2,0] [5,3,2,0] (.br 20 [5,3,2,0] [5,3] (.br 21 [5,3] [5,3] (.take 22 [5,3] (.br 23 [5,3] [] (kB 24 (kB 25 .done)) .stop)) .stop) .stop) .stop))) .stop)))))))))))))))))⟩
def O8:az:=⟨dh [0,0,2,7,0,0,32,112,255,0,0,1536,3584,8191],dh [0,0,2,5,0,0,32,80,136,0,0,0,2048,4352],(.take 0 [0] (.take 1 [0] (.take 2 [2,0] (.take 3 [3,2,0] (.take 4 [4,3,2,0] (.take 5 [4,3,2,0] (.take 6 [6,4,3,2,0] (.take 7 [7,6,4,3,2,0] (.take 8 [7,6,4,3,2,0] (.take 9 [7,6,4,3,2,0] (.take 10 [7,6,4,3,2,0] (.br 11 [7,6,4,3,2,0] [] (kW 12 2 .done) .stop))))))))))))⟩
def O9:az:=⟨dh [0,0,0,4,14,0,32,96,0,510,1022,2047,4095],dh [0,0,0,4,10,0,32,64,0,400,0,0,0],(.take 0 [0] (.take 1 [0] (.take 2 [0] (.take 3 [0] (.take 4 [0] (.take 5 [0] (.take 6 [0] (.take 7 [0] (.take 8 [0] (.take 9 [0] (.br 10 [0] [] (kB 11 (kB 12 .done)) .stop)))))))))))⟩
def Tn:az:=⟨dh [0,1,0,4,15,31,63,0,128,511,1023,2047],dh [0,1,0,4,10,16,32,0,128,320,512,0],(kW 0 11 (kB 11 .done))⟩
def To:az:=⟨dh [0,1,0,4,15,31,63,0,128,511,1023,2047],dh [0,1,0,4,10,16,32,0,128,320,512,0],(kW 0 11 (kB 11 .done))⟩
def Tp:az:=⟨dh [0,0,2,0,8,24,0,64,0,256,960,1984,4032,8128,16376,32766,65535,131071],dh [0,0,2,0,8,16,0,64,0,256,640,1024,2048,4096,8224,16388,32769,0],(kW 0 17 (kB 17 .done))⟩
def Tq:az:=⟨dh [0,0,0,6,1,31],dh [0,0,0,6,0,8],(.take 0 [] (.take 1 [1] (.take 2 [2,1] (.take 3 [2,1] (.br 4 [2,1] [] (.take 5 [] .done) .stop)))))⟩
def Tr:az:=⟨dh [0,0,2,0,14,30,63,0],dh [0,0,2,0,12,16,0,0],(kW 0 6 (.take 7 [] (kB 6 .done)))⟩
def Ts:az:=⟨dh [0,1,0,7,15,31,0,127,255,511,1023,511,4095,8191],dh [0,1,0,6,8,16,0,96,128,256,768,256,3328,4352],(kW 0 14 .done)⟩
def Pa:az:=⟨dh [0,1,0,7,15,31,0,127,255,511,1023,511,4095,8191],dh [0,1,0,6,8,16,0,96,128,256,768,256,3328,4352],(kW 0 14 .done)⟩
def Tt:az:=⟨dh [0,1,3,7,7,31,63,7,255,511,1023],dh [0,1,2,4,4,28,36,4,196,260,512],(kW 0 11 .done)⟩
def Pb:az:=⟨dh [0,0,2,7,0,0,32,112,15,511],dh [0,0,2,5,0,0,32,80,8,128],(kW 0 10 .done)⟩
def Tu:az:=⟨dh [0,0,2,6,15,31,0,127,255,511,1023,511,2559,6655,16383,32767,511,66047,511,262655,786943,2032127,4129279,8388607,511,16777727,67108863,134217727,268435455],dh [0,0,2,4,9,16,0,96,128,256,768,256,2304,4352,9472,16640,256,65792,256,262400,524544,1179904,2097408,4227328,256,16777472,41943296,67109120,134217728],(kW 0 29 .done)⟩
def Pc:az:=⟨dh [0,0,0,0,0,0,48,112,0,0,768,1792,4083,8179,16383,32767],dh [0,0,0,0,0,0,48,64,0,0,768,1024,3,0,12,0],(kW 0 13 (kB 13 (.take 14 [] (kB 15 .done))))⟩
def Ma:az:=⟨dh [0,0,2,7,15,31,31,127,255,31,31,1567,3615,31,15903,32287,65535,131071],dh [0,0,2,5,8,16,16,112,144,16,16,1552,2064,16,12304,16400,33040,65552],(kW 0 18 .done)⟩
def Pd:az:=⟨dh [0,0,2,7,0,0,32,112,255,511],dh [0,0,2,5,0,0,32,80,136,0],(kW 0 9 (kB 9 .done))⟩
def Pe:az:=⟨dh [0,0,0,0,0,0,48,112,0,0,768,1792,4083,8179,16383,32767],dh [0,0,0,0,0,0,48,64,0,0,768,1024,3,0,12,0],(kW 0 13 (kB 13 (.take 14 [] (kB 15 .done))))⟩
def Pf:az:=⟨dh [0,0,2,7,0,0,32,127,0,0,1023,2047],dh [0,0,2,0,0,0,32,0,0,0,0,0],(.al 8 [2,3,7,8,9,11,12,13] (.al 9 [2,3,7,8,9,11,12,13] (kW 0 3 (.take 4 [4] (.take 5 [4] (.take 6 [6,4] (.br 3 [6,4] [] (kB 7 (kB 10 (kB 11 .done))) .stop)))))))⟩
def Mb:az:=⟨dh [0,0,2,7,0,0,32,112,15,511],dh [0,0,2,5,0,0,32,80,8,128],(kW 0 10 .done)⟩
def Mc:az:=⟨dh [0,0,0,6,0,16,63],dh [0,0,0,6,0,16,0],(kW 0 6 (kB 6 .done))⟩
def Pg:az:=⟨dh [0,1,0,4,0,28,60,0,252,511,1023],dh [0,1,0,4,0,24,32,0,192,258,0],(kW 0 10 (kB 10 .done))⟩
def dtF (f r:Nat):Option az:=
  bif Nat.beq f 6 then (bif Nat.beq r 5 then some X6 else none) else
  bif Nat.beq f 21 then (bif Nat.beq r 9 then some S4 else none) else
  bif Nat.beq f 23 then (bif Nat.beq r 1 then some S5 else none) else
  bif Nat.beq f 27 then (bif Nat.beq r 1 then some S6 else none) else
  bif Nat.beq f 28 then (bif Nat.beq r 16 then some OS else none) else
  bif Nat.beq f 29 then (bif Nat.beq r 8 then some S7 else none) else
  bif Nat.beq f 30 then (bif Nat.beq r 10 then some OT else bif Nat.beq r 19 then some OU else bif Nat.beq r 32 then some OV else none) else
  bif Nat.beq f 31 then (bif Nat.beq r 6 then some S8 else none) else
  bif Nat.beq f 35 then (bif Nat.beq r 1 then some S9 else bif Nat.beq r 7 then some Ta else none) else
  bif Nat.beq f 41 then (bif Nat.beq r 11 then some OW else none) else
  bif Nat.beq f 42 then (bif Nat.beq r 11 then some OX else none) else
  bif Nat.beq f 46 then (bif Nat.beq r 8 then some Tb else none) else
  bif Nat.beq f 48 then (bif Nat.beq r 6 then some Tc else none) else
  bif Nat.beq f 49 then (bif Nat.beq r 12 then some OY else none) else
  bif Nat.beq f 50 then (bif Nat.beq r 6 then some Td else none) else
  bif Nat.beq f 64 then (bif Nat.beq r 1 then some Te else bif Nat.beq r 19 then some OZ else bif Nat.beq r 21 then some O0 else bif Nat.beq r 22 then some O1 else bif Nat.beq r 29 then some O2 else bif Nat.beq r 32 then some O3 else none) else
  bif Nat.beq f 68 then (bif Nat.beq r 6 then some Tf else bif Nat.beq r 14 then some O4 else none) else
  bif Nat.beq f 69 then (bif Nat.beq r 5 then some Tg else none) else
  bif Nat.beq f 70 then (bif Nat.beq r 9 then some Th else none) else
  bif Nat.beq f 71 then (bif Nat.beq r 1 then some Ti else none) else
  bif Nat.beq f 73 then (bif Nat.beq r 5 then some Tj else bif Nat.beq r 11 then some O5 else none) else
  bif Nat.beq f 74 then (bif Nat.beq r 9 then some Tk else none) else
  bif Nat.beq f 78 then (bif Nat.beq r 7 then some Tl else bif Nat.beq r 9 then some Tm else bif Nat.beq r 19 then some O6 else bif Nat.beq r 21 then some O7 else bif Nat.beq r 27 then some O8 else bif Nat.beq r 30 then some O9 else none) else
  bif Nat.beq f 81 then (bif Nat.beq r 1 then some Tn else none) else
  bif Nat.beq f 88 then (bif Nat.beq r 1 then some To else none) else
  bif Nat.beq f 90 then (bif Nat.beq r 1 then some Tp else none) else
  bif Nat.beq f 91 then (bif Nat.beq r 4 then some Tq else bif Nat.beq r 5 then some Tr else bif Nat.beq r 8 then some Ts else bif Nat.beq r 10 then some Pa else none) else
  bif Nat.beq f 92 then (bif Nat.beq r 1 then some Tt else none) else
  bif Nat.beq f 93 then (bif Nat.beq r 10 then some Pb else none) else
  bif Nat.beq f 99 then (bif Nat.beq r 1 then some Tu else none) else
  bif Nat.beq f 101 then (bif Nat.beq r 3 then some Pc else none) else
  bif Nat.beq f 105 then (bif Nat.beq r 11 then some Ma else none) else
  bif Nat.beq f 111 then (bif Nat.beq r 2 then some Pd else none) else
  bif Nat.beq f 115 then (bif Nat.beq r 3 then some Pe else none) else
  bif Nat.beq f 117 then (bif Nat.beq r 1 then some Pf else none) else
  bif Nat.beq f 118 then (bif Nat.beq r 10 then some Mb else bif Nat.beq r 23 then some Mc else none) else
  bif Nat.beq f 122 then (bif Nat.beq r 3 then some Pg else none) else none
def okF (f:Nat):Bool:=Nat.blt f 144&&!(([3,4,5,7,8,9,13,14,32,34,36,38,39,43,76,82,109]:List Nat).any (Nat.beq f))
theorem Md:(List.range 144).all (fun f=>!okF f || match Try.prog.funcs[f]? with
  |some fn=>match fn.body with
    |some c=>bF (dtF f) c
    |none=>true
  |none=>true)=true:=by kernel_rfl
theorem Ph (f:FuncId) (fn:Func) (c:Code) (h:okF f=true) (hf:Try.prog.funcs[f]?=some fn) (hb:fn.body=some c):bF (dtF f) c=true:=by
  have bO:f < 144:=by
    have:Nat.blt f 144=true:=by
      rw [okF,Bool.and_eq_true] at h
      exact h.1
    exact Nat.le_of_ble_eq_true this
  have h1:=List.all_eq_true.1 Md f (List.mem_range.2 bO)
  rw [h,hf] at h1
  simp only [hb] at h1
  simpa using h1
noncomputable def abA:SH:={ toEnv:=env,dt:=dtF,okF:=okF,QI:=Ph }
end Go.Proofs.Ytegoimldbgdeiaa
