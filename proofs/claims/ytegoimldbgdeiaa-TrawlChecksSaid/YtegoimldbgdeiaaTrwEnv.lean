/- The abstract machine's surroundings for this program: its types as a table (printed by a program of ours,checked by the kernel). -/
import Derived.Test.YtegoimldbgdeiaaProg
import Derived.Test.YtegoimldbgdeiaaAmKK
import Derived.KernelRfl
set_option linter.all false
namespace Go.Proofs.Ytegoimldbgdeiaa
open Go Go.Am
set_option maxRecDepth 100000
def tI (k : TK) (n : Nat) (a : Bool) (z : Option AV) (e : EK) : Option TI := some ⟨k, n, a, z, e⟩
def YK (t : Nat) : Option TI :=
 bif Nat.ble t 116 then
 bif Nat.ble t 57 then
 bif Nat.ble t 28 then
 bif Nat.ble t 13 then
 bif Nat.ble t 6 then
 bif Nat.ble t 2 then
 bif Nat.ble t 0 then
 tI (.sc) 1 false (some (.bh [])) (.no)
 else
 bif Nat.ble t 1 then
 tI (.sc) 1 false (some (.dD)) (.no)
 else
 tI (.int .i64) 1 false (some (.int .i64 0)) (.int)
 else
 bif Nat.ble t 4 then
 bif Nat.ble t 3 then
 tI (.int .i64) 1 false (some (.int .i64 0)) (.int)
 else
 tI (.sc) 1 false (some (.bool false)) (.bool)
 else
 bif Nat.ble t 5 then
 tI (.int .u8) 1 false (some (.int .u8 0)) (.int)
 else
 tI (.int .u8) 1 false (some (.int .u8 0)) (.int)
 else
 bif Nat.ble t 9 then
 bif Nat.ble t 7 then
 tI (.st [(0,1,false),(1,1,false),(2,1,false),(3,1,false)]) 4 true (some (.agg [.int .i64 0,.int .i64 0,.bool false,.int .u8 0])) ((.st (.cons 0 1 false .int (.cons 1 1 false .int (.cons 2 1 false .bool (.cons 3 1 false .int .nil))))))
 else
 bif Nat.ble t 8 then
 tI (.st [(0,1,false),(1,1,false),(2,1,false),(3,1,false)]) 4 true (some (.agg [.int .i64 0,.int .i64 0,.bool false,.int .u8 0])) ((.st (.cons 0 1 false .int (.cons 1 1 false .int (.cons 2 1 false .bool (.cons 3 1 false .int .nil))))))
 else
 tI (.str) 1 false (some (.str [])) (.str)
 else
 bif Nat.ble t 11 then
 bif Nat.ble t 10 then
 tI (.str) 1 false (some (.str [])) (.str)
 else
 none
 else
 bif Nat.ble t 12 then
 tI (.int .u64) 1 false (some (.int .u64 0)) (.int)
 else
 none
 else
 bif Nat.ble t 20 then
 bif Nat.ble t 16 then
 bif Nat.ble t 14 then
 none
 else
 bif Nat.ble t 15 then
 none
 else
 tI (.sc) 1 false (some (.lj)) (.no)
 else
 bif Nat.ble t 18 then
 none
 else
 bif Nat.ble t 19 then
 none
 else
 tI (.sc) 1 false (some (.oB)) (.no)
 else
 bif Nat.ble t 24 then
 bif Nat.ble t 22 then
 bif Nat.ble t 21 then
 tI (.int .i32) 1 false (some (.int .i32 0)) (.int)
 else
 none
 else
 bif Nat.ble t 23 then
 tI (.arr 2 1 false) 2 true (some (.agg [.int .i64 0,.int .i64 0])) ((.st (.cons 0 1 false .int (.cons 1 1 false .int .nil))))
 else
 tI (.sc) 1 false (some (.dD)) (.no)
 else
 bif Nat.ble t 26 then
 bif Nat.ble t 25 then
 tI (.sl 28 3 true 32 (some (.agg [.str [],.int .i64 0,.int .i64 0]))) 1 false (some (.list .nil 0 [])) (.no)
 else
 none
 else
 bif Nat.ble t 27 then
 none
 else
 tI (.st [(0,1,false),(1,1,false),(2,1,false)]) 3 true (some (.agg [.str [],.int .i64 0,.int .i64 0])) ((.st (.cons 0 1 false .str (.cons 1 1 false .int (.cons 2 1 false .int .nil)))))
 else
 bif Nat.ble t 42 then
 bif Nat.ble t 35 then
 bif Nat.ble t 31 then
 bif Nat.ble t 29 then
 tI (.int .i64) 1 false (some (.int .i64 0)) (.int)
 else
 bif Nat.ble t 30 then
 tI (.sc) 1 false (some (.bh [.int .i64 0,.int .i64 0,.int .i64 0])) (.no)
 else
 none
 else
 bif Nat.ble t 33 then
 bif Nat.ble t 32 then
 tI (.sc) 1 false (none) (.no)
 else
 none
 else
 none
 else
 bif Nat.ble t 38 then
 none
 else
 bif Nat.ble t 40 then
 bif Nat.ble t 39 then
 none
 else
 tI (.sl 74 2 true 40 (some (.agg [.str [],.list .nil 0 []]))) 1 false (some (.list .nil 0 [])) (.no)
 else
 bif Nat.ble t 41 then
 tI (.sl 113 5 true 40 (some (.agg [.int .i64 0,.int .i64 0,.int .i64 0,.int .i64 0,.bool false]))) 1 false (some (.list .nil 0 [])) (.no)
 else
 none
 else
 bif Nat.ble t 49 then
 bif Nat.ble t 45 then
 bif Nat.ble t 43 then
 tI (.st [(0,1,false),(1,1,false)]) 2 true (some (.agg [.list .nil 0 [],.list .nil 0 []])) ((.st (.cons 0 1 false .no (.cons 1 1 false .no .nil))))
 else
 bif Nat.ble t 44 then
 none
 else
 tI (.sl 131 2 true 40 (some (.agg [.str [],.list .nil 0 []]))) 1 false (some (.list .nil 0 [])) (.no)
 else
 bif Nat.ble t 47 then
 bif Nat.ble t 46 then
 tI (.sl 110 5 true 40 (some (.agg [.int .i64 0,.int .i64 0,.int .i64 0,.int .i64 0,.bool false]))) 1 false (some (.list .nil 0 [])) (.no)
 else
 none
 else
 bif Nat.ble t 48 then
 tI (.st [(0,1,false),(1,1,false)]) 2 true (some (.agg [.list .nil 0 [],.list .nil 0 []])) ((.st (.cons 0 1 false .no (.cons 1 1 false .no .nil))))
 else
 none
 else
 bif Nat.ble t 53 then
 bif Nat.ble t 51 then
 bif Nat.ble t 50 then
 tI (.sl 67 2 true 16 (some (.agg [.int .i64 0,.int .i64 0]))) 1 false (some (.list .nil 0 [])) (.no)
 else
 tI (.sc) 1 false (some (.bh [.list .nil 0 [],.int .i64 0])) (.no)
 else
 bif Nat.ble t 52 then
 none
 else
 tI (.sl 50 1 false 24 (some (.list .nil 0 []))) 1 false (some (.list .nil 0 [])) (.no)
 else
 bif Nat.ble t 55 then
 bif Nat.ble t 54 then
 tI (.sc) 1 false (some (.bh [.list .nil 0 [],.int .i64 0])) (.no)
 else
 none
 else
 bif Nat.ble t 56 then
 none
 else
 tI (.st [(0,1,false),(1,1,false),(2,1,false),(3,1,false),(4,1,false),(5,1,false)]) 6 true (some (.agg [.int .i64 0,.int .i64 0,.int .i64 0,.int .i64 0,.int .i64 0,.int .i64 0])) ((.st (.cons 0 1 false .int (.cons 1 1 false .int (.cons 2 1 false .int (.cons 3 1 false .int (.cons 4 1 false .int (.cons 5 1 false .int .nil))))))))
 else
 bif Nat.ble t 86 then
 bif Nat.ble t 71 then
 bif Nat.ble t 64 then
 bif Nat.ble t 60 then
 bif Nat.ble t 58 then
 tI (.sc) 1 false (none) (.no)
 else
 bif Nat.ble t 59 then
 none
 else
 tI (.sl 76 3 true 24 (some (.agg [.bool false,.int .i64 0,.int .i64 0]))) 1 false (some (.list .nil 0 [])) (.no)
 else
 bif Nat.ble t 62 then
 bif Nat.ble t 61 then
 tI (.sc) 1 false (some (.bh [.list .nil 0 [],.int .i64 0])) (.no)
 else
 none
 else
 bif Nat.ble t 63 then
 tI (.sc) 1 false (some (.bh [.list .nil 0 [],.int .i64 0,.int .i64 0])) (.no)
 else
 tI (.sc) 1 false (some (.dD)) (.no)
 else
 bif Nat.ble t 67 then
 bif Nat.ble t 65 then
 tI (.map 67 3 (some (.int .i64 0))) 1 false (some (.jt)) (.no)
 else
 bif Nat.ble t 66 then
 tI (.st [(0,1,false),(1,1,false)]) 2 true (some (.agg [.int .i64 0,.int .i64 0])) ((.st (.cons 0 1 false .int (.cons 1 1 false .int .nil))))
 else
 tI (.st [(0,1,false),(1,1,false)]) 2 true (some (.agg [.int .i64 0,.int .i64 0])) ((.st (.cons 0 1 false .int (.cons 1 1 false .int .nil))))
 else
 bif Nat.ble t 69 then
 bif Nat.ble t 68 then
 none
 else
 tI (.st [(0,1,false),(1,1,false)]) 2 true (some (.agg [.int .i64 0,.int .i64 0])) ((.st (.cons 0 1 false .int (.cons 1 1 false .int .nil))))
 else
 bif Nat.ble t 70 then
 none
 else
 tI (.st [(0,1,false),(1,1,false)]) 2 true (some (.agg [.int .i64 0,.int .i64 0])) ((.st (.cons 0 1 false .int (.cons 1 1 false .int .nil))))
 else
 bif Nat.ble t 78 then
 bif Nat.ble t 74 then
 bif Nat.ble t 72 then
 tI (.sl 71 2 true 16 (some (.agg [.int .i64 0,.int .i64 0]))) 1 false (some (.list .nil 0 [])) (.no)
 else
 bif Nat.ble t 73 then
 none
 else
 tI (.st [(0,1,false),(1,1,false)]) 2 true (some (.agg [.str [],.list .nil 0 []])) ((.st (.cons 0 1 false .str (.cons 1 1 false .no .nil))))
 else
 bif Nat.ble t 76 then
 bif Nat.ble t 75 then
 none
 else
 tI (.st [(0,1,false),(1,1,false),(2,1,false)]) 3 true (some (.agg [.bool false,.int .i64 0,.int .i64 0])) ((.st (.cons 0 1 false .bool (.cons 1 1 false .int (.cons 2 1 false .int .nil)))))
 else
 bif Nat.ble t 77 then
 tI (.sl 3 1 false 8 (some (.int .i64 0))) 1 false (some (.list .nil 0 [])) (.no)
 else
 none
 else
 bif Nat.ble t 82 then
 bif Nat.ble t 80 then
 bif Nat.ble t 79 then
 none
 else
 tI (.sc) 1 false (some (.dD)) (.no)
 else
 bif Nat.ble t 81 then
 tI (.sc) 1 false (some (.bh [.list .nil 0 [],.int .i64 0])) (.no)
 else
 none
 else
 bif Nat.ble t 84 then
 bif Nat.ble t 83 then
 tI (.st [(0,1,false),(1,1,false)]) 2 true (some (.agg [.int .i64 0,.list .nil 0 []])) ((.st (.cons 0 1 false .int (.cons 1 1 false .no .nil))))
 else
 none
 else
 bif Nat.ble t 85 then
 tI (.sc) 1 false (some (.dD)) (.no)
 else
 none
 else
 bif Nat.ble t 101 then
 bif Nat.ble t 93 then
 bif Nat.ble t 89 then
 none
 else
 bif Nat.ble t 91 then
 bif Nat.ble t 90 then
 tI (.sc) 1 false (some (.dD)) (.no)
 else
 none
 else
 bif Nat.ble t 92 then
 tI (.sc) 1 false (some (.dD)) (.no)
 else
 tI (.sc) 1 false (none) (.no)
 else
 bif Nat.ble t 97 then
 bif Nat.ble t 95 then
 bif Nat.ble t 94 then
 none
 else
 tI (.sl 69 2 true 16 (some (.agg [.int .i64 0,.int .i64 0]))) 1 false (some (.list .nil 0 [])) (.no)
 else
 bif Nat.ble t 96 then
 none
 else
 tI (.sc) 1 false (none) (.no)
 else
 bif Nat.ble t 99 then
 bif Nat.ble t 98 then
 tI (.sc) 1 false (some (.dD)) (.no)
 else
 tI (.sc) 1 false (some (.dD)) (.no)
 else
 bif Nat.ble t 100 then
 tI (.sc) 1 false (some (.dD)) (.no)
 else
 tI (.sc) 1 false (some (.dD)) (.no)
 else
 bif Nat.ble t 108 then
 bif Nat.ble t 104 then
 bif Nat.ble t 102 then
 tI (.sc) 1 false (none) (.no)
 else
 bif Nat.ble t 103 then
 tI (.sc) 1 false (some (.dD)) (.no)
 else
 none
 else
 bif Nat.ble t 106 then
 bif Nat.ble t 105 then
 tI (.sc) 1 false (some (.dD)) (.no)
 else
 tI (.sl 77 1 false 24 (some (.list .nil 0 []))) 1 false (some (.list .nil 0 [])) (.no)
 else
 bif Nat.ble t 107 then
 tI (.sc) 1 false (some (.bh [.list .nil 0 [],.int .i64 0])) (.no)
 else
 tI (.sc) 1 false (some (.dD)) (.no)
 else
 bif Nat.ble t 112 then
 bif Nat.ble t 110 then
 bif Nat.ble t 109 then
 tI (.st [(0,2,true),(2,2,true),(4,1,false)]) 5 true (some (.agg [.int .i64 0,.int .i64 0,.int .i64 0,.int .i64 0,.bool false])) ((.st (.cons 0 2 true (.st (.cons 0 1 false .int (.cons 1 1 false .int .nil))) (.cons 2 2 true (.st (.cons 0 1 false .int (.cons 1 1 false .int .nil))) (.cons 4 1 false .bool .nil)))))
 else
 tI (.st [(0,2,true),(2,2,true),(4,1,false)]) 5 true (some (.agg [.int .i64 0,.int .i64 0,.int .i64 0,.int .i64 0,.bool false])) ((.st (.cons 0 2 true (.st (.cons 0 1 false .int (.cons 1 1 false .int .nil))) (.cons 2 2 true (.st (.cons 0 1 false .int (.cons 1 1 false .int .nil))) (.cons 4 1 false .bool .nil)))))
 else
 bif Nat.ble t 111 then
 tI (.sc) 1 false (some (.dD)) (.no)
 else
 tI (.st [(0,2,true),(2,2,true),(4,1,false)]) 5 true (some (.agg [.int .i64 0,.int .i64 0,.int .i64 0,.int .i64 0,.bool false])) ((.st (.cons 0 2 true (.st (.cons 0 1 false .int (.cons 1 1 false .int .nil))) (.cons 2 2 true (.st (.cons 0 1 false .int (.cons 1 1 false .int .nil))) (.cons 4 1 false .bool .nil)))))
 else
 bif Nat.ble t 114 then
 bif Nat.ble t 113 then
 tI (.st [(0,2,true),(2,2,true),(4,1,false)]) 5 true (some (.agg [.int .i64 0,.int .i64 0,.int .i64 0,.int .i64 0,.bool false])) ((.st (.cons 0 2 true (.st (.cons 0 1 false .int (.cons 1 1 false .int .nil))) (.cons 2 2 true (.st (.cons 0 1 false .int (.cons 1 1 false .int .nil))) (.cons 4 1 false .bool .nil)))))
 else
 tI (.sc) 1 false (some (.dD)) (.no)
 else
 bif Nat.ble t 115 then
 tI (.sc) 1 false (some (.dD)) (.no)
 else
 tI (.sc) 1 false (some (.dD)) (.no)
 else
 bif Nat.ble t 175 then
 bif Nat.ble t 145 then
 bif Nat.ble t 130 then
 bif Nat.ble t 123 then
 bif Nat.ble t 119 then
 bif Nat.ble t 117 then
 tI (.sc) 1 false (some (.dD)) (.no)
 else
 bif Nat.ble t 118 then
 tI (.sc) 1 false (some (.dD)) (.no)
 else
 none
 else
 bif Nat.ble t 121 then
 bif Nat.ble t 120 then
 tI (.st [(0,2,true),(2,1,false)]) 3 true (some (.agg [.int .i64 0,.int .i64 0,.bool false])) ((.st (.cons 0 2 true (.st (.cons 0 1 false .int (.cons 1 1 false .int .nil))) (.cons 2 1 false .bool .nil))))
 else
 tI (.st [(0,2,true),(2,1,false)]) 3 true (some (.agg [.int .i64 0,.int .i64 0,.bool false])) ((.st (.cons 0 2 true (.st (.cons 0 1 false .int (.cons 1 1 false .int .nil))) (.cons 2 1 false .bool .nil))))
 else
 bif Nat.ble t 122 then
 tI (.sl 121 3 true 24 (some (.agg [.int .i64 0,.int .i64 0,.bool false]))) 1 false (some (.list .nil 0 [])) (.no)
 else
 none
 else
 bif Nat.ble t 126 then
 none
 else
 bif Nat.ble t 128 then
 none
 else
 bif Nat.ble t 129 then
 tI (.sl 132 2 true 16 (some (.agg [.int .i64 0,.int .i64 0]))) 1 false (some (.list .nil 0 [])) (.no)
 else
 none
 else
 bif Nat.ble t 137 then
 bif Nat.ble t 133 then
 bif Nat.ble t 131 then
 tI (.st [(0,1,false),(1,1,false)]) 2 true (some (.agg [.str [],.list .nil 0 []])) ((.st (.cons 0 1 false .str (.cons 1 1 false .no .nil))))
 else
 bif Nat.ble t 132 then
 tI (.st [(0,1,false),(1,1,false)]) 2 true (some (.agg [.int .i64 0,.int .i64 0])) ((.st (.cons 0 1 false .int (.cons 1 1 false .int .nil))))
 else
 none
 else
 bif Nat.ble t 135 then
 none
 else
 bif Nat.ble t 136 then
 none
 else
 tI (.sc) 1 false (some (.dD)) (.no)
 else
 bif Nat.ble t 141 then
 bif Nat.ble t 139 then
 none
 else
 bif Nat.ble t 140 then
 none
 else
 tI (.st [(0,1,false),(1,1,false)]) 2 true (some (.agg [.list .nil 0 [],.list .nil 0 []])) ((.st (.cons 0 1 false .no (.cons 1 1 false .no .nil))))
 else
 bif Nat.ble t 143 then
 bif Nat.ble t 142 then
 tI (.sc) 1 false (some (.lj)) (.no)
 else
 tI (.sc) 1 false (none) (.no)
 else
 none
 else
 bif Nat.ble t 160 then
 bif Nat.ble t 152 then
 bif Nat.ble t 148 then
 bif Nat.ble t 146 then
 tI (.sc) 1 false (some (.dD)) (.no)
 else
 bif Nat.ble t 147 then
 tI (.sc) 1 false (some (.bh [.int .i64 0,.bool false])) (.no)
 else
 none
 else
 bif Nat.ble t 150 then
 bif Nat.ble t 149 then
 none
 else
 tI (.sc) 1 false (some (.dD)) (.no)
 else
 bif Nat.ble t 151 then
 tI (.sc) 1 false (none) (.no)
 else
 none
 else
 bif Nat.ble t 156 then
 none
 else
 bif Nat.ble t 158 then
 bif Nat.ble t 157 then
 none
 else
 tI (.map 3 3 (some (.int .i64 0))) 1 false (some (.jt)) (.no)
 else
 bif Nat.ble t 159 then
 tI (.sc) 1 false (some (.bh [.jt,.list .nil 0 []])) (.no)
 else
 none
 else
 bif Nat.ble t 167 then
 bif Nat.ble t 163 then
 bif Nat.ble t 161 then
 none
 else
 bif Nat.ble t 162 then
 tI (.sc) 1 false (some (.dD)) (.no)
 else
 tI (.sc) 1 false (some (.dD)) (.no)
 else
 bif Nat.ble t 165 then
 none
 else
 bif Nat.ble t 166 then
 none
 else
 tI (.sc) 1 false (some (.dD)) (.no)
 else
 bif Nat.ble t 171 then
 bif Nat.ble t 169 then
 bif Nat.ble t 168 then
 none
 else
 tI (.sc) 1 false (some (.dD)) (.no)
 else
 none
 else
 bif Nat.ble t 173 then
 bif Nat.ble t 172 then
 tI (.sl 29 1 false 8 (some (.int .i64 0))) 1 false (some (.list .nil 0 [])) (.no)
 else
 tI (.map 67 4 (some (.bool false))) 1 false (some (.jt)) (.no)
 else
 bif Nat.ble t 174 then
 tI (.arr 2 2 true) 4 true (some (.agg [.int .i64 0,.int .i64 0,.int .i64 0,.int .i64 0])) ((.st (.cons 0 2 true (.st (.cons 0 1 false .int (.cons 1 1 false .int .nil))) (.cons 2 2 true (.st (.cons 0 1 false .int (.cons 1 1 false .int .nil))) .nil))))
 else
 none
 else
 bif Nat.ble t 204 then
 bif Nat.ble t 189 then
 bif Nat.ble t 182 then
 bif Nat.ble t 178 then
 bif Nat.ble t 176 then
 tI (.sc) 1 false (none) (.no)
 else
 bif Nat.ble t 177 then
 none
 else
 tI (.map 3 4 (some (.bool false))) 1 false (some (.jt)) (.no)
 else
 bif Nat.ble t 180 then
 bif Nat.ble t 179 then
 none
 else
 tI (.sl 23 2 true 16 (some (.agg [.int .i64 0,.int .i64 0]))) 1 false (some (.list .nil 0 [])) (.no)
 else
 bif Nat.ble t 181 then
 none
 else
 tI (.sc) 1 false (some (.dD)) (.no)
 else
 bif Nat.ble t 185 then
 bif Nat.ble t 183 then
 none
 else
 bif Nat.ble t 184 then
 tI (.sc) 1 false (some (.dD)) (.no)
 else
 none
 else
 bif Nat.ble t 187 then
 bif Nat.ble t 186 then
 tI (.sc) 1 false (some (.dD)) (.no)
 else
 none
 else
 none
 else
 bif Nat.ble t 196 then
 bif Nat.ble t 192 then
 none
 else
 bif Nat.ble t 194 then
 bif Nat.ble t 193 then
 none
 else
 tI (.sc) 1 false (some (.dD)) (.no)
 else
 none
 else
 bif Nat.ble t 200 then
 bif Nat.ble t 198 then
 bif Nat.ble t 197 then
 none
 else
 tI (.map 3 122 (some (.list .nil 0 []))) 1 false (some (.jt)) (.no)
 else
 bif Nat.ble t 199 then
 tI (.sc) 1 false (some (.dD)) (.no)
 else
 tI (.sc) 1 false (some (.dD)) (.no)
 else
 bif Nat.ble t 202 then
 bif Nat.ble t 201 then
 none
 else
 tI (.sc) 1 false (some (.dD)) (.no)
 else
 none
 else
 bif Nat.ble t 219 then
 bif Nat.ble t 211 then
 bif Nat.ble t 207 then
 bif Nat.ble t 205 then
 tI (.sl 174 4 true 32 (some (.agg [.int .i64 0,.int .i64 0,.int .i64 0,.int .i64 0]))) 1 false (some (.list .nil 0 [])) (.no)
 else
 bif Nat.ble t 206 then
 tI (.arr 2 4 true) 8 true (some (.agg [.int .i64 0,.int .i64 0,.int .i64 0,.int .i64 0,.int .i64 0,.int .i64 0,.int .i64 0,.int .i64 0])) ((.st (.cons 0 4 true (.st (.cons 0 2 true (.st (.cons 0 1 false .int (.cons 1 1 false .int .nil))) (.cons 2 2 true (.st (.cons 0 1 false .int (.cons 1 1 false .int .nil))) .nil))) (.cons 4 4 true (.st (.cons 0 2 true (.st (.cons 0 1 false .int (.cons 1 1 false .int .nil))) (.cons 2 2 true (.st (.cons 0 1 false .int (.cons 1 1 false .int .nil))) .nil))) .nil))))
 else
 none
 else
 none
 else
 bif Nat.ble t 215 then
 bif Nat.ble t 213 then
 none
 else
 bif Nat.ble t 214 then
 none
 else
 tI (.sl 122 1 false 24 (some (.list .nil 0 []))) 1 false (some (.list .nil 0 [])) (.no)
 else
 none
 else
 none
def RH (t:Nat):Option TI:=bif Nat.ble 235 t then none else YK t
theorem JF:(List.range 235).map (fun t=>match RH t with | none=>none | some _=>Ev Try.prog t)=(List.range 235).map RH:=by kernel_rfl
theorem Ew (t:TypeId) (i:TI) (h:RH t=some i):Ev Try.prog t=some i:=by
  by_cases ht:t < 235
  · have h1:=congrArg (fun l=>l[t]?) JF
    simp only [List.getElem?_map,List.getElem?_range ht,Option.map_some,Option.some.injEq] at h1
    rw [h] at h1
    exact h1
  · have hb:Nat.ble 235 t=true:=Nat.ble_eq_true_of_le (Nat.not_lt.1 ht)
    rw [RH,hb] at h
    cases h
def RI:List ((Nat × Nat) × List (Option Nat × Nat × Nat)):=[((64,176),[(some 14,0,1048576)]),((78,148),[(some 20,0,1048576)])]
def Ls:List ((Nat × Nat) × List (Option Nat × Nat × Nat))→Nat→Nat→List (Option Nat × Nat × Nat)
  | [],_,_=>[]
  | ((a,b),x) :: l,f,t=>bif Nat.beq a f&&Nat.beq b t then x else Ls l f t
def U1 (f t:Nat):List (Option Nat × Nat × Nat):=Ls RI f t
def U2 (f t:Nat):Bool:=
  (Nat.beq f 1000000&&Nat.beq t 1000000) ||
  (Nat.beq f 25&&(Nat.beq t 131072)) ||
  (Nat.beq f 27&&(Nat.beq t 2)) ||
  (Nat.beq f 38&&(Nat.beq t 3 || Nat.beq t 8)) ||
  (Nat.beq f 41&&(Nat.beq t 5 || Nat.beq t 7 || Nat.beq t 8 || Nat.beq t 131072 || Nat.beq t 131074)) ||
  (Nat.beq f 46&&(Nat.beq t 5 || Nat.beq t 6 || Nat.beq t 131072 || Nat.beq t 131074)) ||
  (Nat.beq f 49&&(Nat.beq t 2)) ||
  (Nat.beq f 56&&(Nat.beq t 1 || Nat.beq t 3)) ||
  (Nat.beq f 58&&(Nat.beq t 3 || Nat.beq t 5)) ||
  (Nat.beq f 60&&(Nat.beq t 5 || Nat.beq t 131072)) ||
  (Nat.beq f 61&&(Nat.beq t 3 || Nat.beq t 5 || Nat.beq t 6)) ||
  (Nat.beq f 64&&(Nat.beq t 197)) ||
  (Nat.beq f 70&&(Nat.beq t 6)) ||
  (Nat.beq f 73&&(Nat.beq t 4)) ||
  (Nat.beq f 78&&(Nat.beq t 1 || Nat.beq t 2 || Nat.beq t 3 || Nat.beq t 4 || Nat.beq t 5 || Nat.beq t 6 || Nat.beq t 7 || Nat.beq t 11)) ||
  (Nat.beq f 80&&(Nat.beq t 1)) ||
  (Nat.beq f 94&&(Nat.beq t 196618)) ||
  (Nat.beq f 96&&(Nat.beq t 196618)) ||
  (Nat.beq f 100&&(Nat.beq t 196613)) ||
  (Nat.beq f 108&&(Nat.beq t 196618)) ||
  (Nat.beq f 110&&(Nat.beq t 196613)) ||
  (Nat.beq f 112&&(Nat.beq t 196613)) ||
  (Nat.beq f 113&&(Nat.beq t 196618)) ||
  (Nat.beq f 127&&(Nat.beq t 2))
def Lt:cA:=[]
theorem JG:Lt.all (fun p=>aR p.2)=true:=by kernel_rfl
def RJ (g:Nat):Option (List AV):=dy Lt g
noncomputable def env:Env:={ P:=Try.prog,ti:=RH,dK:=RJ,wG:=U2,IX:=fun _=>none,We:=U1,Ew:=Ew,mixed:=by kernel_rfl,yi:=fun _ _ h=>I3 JG h }
def df (l:List Nat):List (List Nat):=l.map fun m=>(List.range (m.log2+1)).filter m.testBit
def iT (a:Nat):Nat→DT→DT
 | 0,t=>t
 | n+1,t=>yQ (a+1) fun b=>.take a [] (iT b n t)
def jn (i:Nat) (t:DT):DT:=.br i [] [] t .stop
def RK:ax:=⟨df [0,1,0,7,15,31,31,31,0,319,895,2047],df [0,0,0,0,8,16,16,16,0,0,64,128],(.al 8 [2,3,32,33,34,35,36] (.take 0 [] (.take 2 [2] (.br 1 [2] [] (jn 3 (iT 4 4 (jn 9 (iT 10 2 .done)))) .stop))))⟩
def Nk:ax:=⟨df [0,0,3,0,8,24,0,64,248,0,512,2047,0,8191],df [0,0,0,0,8,16,0,64,160,0,512,1284,0,0],(.al 12 [1,6,7,24,25,26,27,28,29,30,31,32,33,34] (iT 0 2 (.take 3 [] (.take 4 [4] (.take 5 [4] (.take 6 [4] (.take 7 [7,4] (.take 8 [7,4] (.take 9 [7,4] (.take 10 [10,7,4] (.br 2 [10,7,4] [] (.take 11 [] (jn 13 .done)) .stop)))))))))))⟩
def Nl:ax:=⟨df [0,1,3,7,15,31,15,79,207,511,1023,2047,4095,8191,16383,32767,65535,131071,262143,131071,655359,131071,2228223,7995391,16383999,33161215,66715647,134217727,268435455,536870911],df [0,1,2,4,8,24,8,72,136,296,520,1024,2048,6144,10240,18432,32768,65536,196608,65536,589824,65536,2162688,5308416,8454144,16842752,33619968,67436544,134283264,268435456],(iT 0 30 .done)⟩
def Nn:ax:=⟨df [0,1,0,4,12,28,63,0,128,384,1023,2047,4095,2047,10239,26623,65535,131071,262143,524287,1048575,2097151],df [0,0,0,4,8,16,0,0,128,256,512,1024,3072,1024,9216,17408,37888,66560,0,262210,0,1048576],(.take 0 [] (.take 2 [] (.take 3 [3] (.take 4 [4,3] (.take 5 [4,3] (.take 7 [4,3] (.take 8 [8,4,3] (.take 9 [8,4,3] (.br 1 [8,4,3] [8] (.br 6 [8] [] (iT 10 8 (jn 18 (.take 19 [] (jn 20 (.take 21 [] .done))))) .stop) .stop)))))))))⟩
def JH:ax:=⟨df [0,0,2,0,14,0,32,0,224,480,1023,2047],df [0,0,2,0,12,0,32,0,192,256,0,1024],(iT 0 10 (jn 10 (.take 11 [] .done)))⟩
def No:ax:=⟨df [0,0,3,7,0,0,48,112,255],df [0,0,3,4,0,0,48,64,136],(iT 0 9 .done)⟩
def Np:ax:=⟨df [0,0,2,0,14,30,62,1,255,511],df [0,0,2,0,12,16,32,0,64,0],(iT 0 2 (.take 2 [2] (.take 3 [2] (.take 4 [2] (.take 5 [2] (.take 6 [6,2] (.br 7 [6,2] [] (iT 8 2 .done) .stop)))))))⟩
def Nq:ax:=⟨df [0,1,0,4,3,31,63],df [0,1,0,4,0,8,0],(iT 0 3 (.take 3 [3] (.br 4 [3] [] (iT 5 2 .done) .stop)))⟩
def Nr:ax:=⟨df [0,1,0,4,3,31,63],df [0,1,0,4,0,8,0],(iT 0 3 (.take 3 [3] (.br 4 [3] [] (iT 5 2 .done) .stop)))⟩
def Ns:ax:=⟨df [0,1,3,7,15,0,32,96,224,511,0,1024,0,4096,12288,28672,64512,131071,0,262144,786432,1835008,4194303,8388607,16777215,33554431],df [0,1,2,4,0,0,32,64,128,0,0,1024,0,4096,8192,16384,34816,0,0,262144,524288,1048576,0,4325904,0,16777216],(iT 0 4 (.take 5 [] (.take 6 [6] (.take 7 [7,6] (.take 8 [7,6] (.take 10 [7,6] (.take 11 [11,7,6] (.take 12 [11,7,6] (.take 13 [13,11,7,6] (.take 14 [14,13,11,7,6] (.take 15 [15,14,13,11,7,6] (.take 16 [15,14,13,11,7,6] (.take 18 [15,14,13,11,7,6] (.take 19 [19,15,14,13,11,7,6] (.take 20 [20,19,15,14,13,11,7,6] (.take 21 [20,19,15,14,13,11,7,6] (.br 4 [20,19,15,14,13,11,7,6] [20,19,15,14,13,11] (.br 9 [20,19,15,14,13,11] [20,19] (.br 17 [20,19] [] (jn 22 (.take 23 [] (jn 24 (.take 25 [] .done)))) .stop) .stop) .stop)))))))))))))))))⟩
def Nt:ax:=⟨df [0,0,0,4,0,28,63,127],df [0,0,0,4,0,24,0,64],(iT 0 6 (jn 6 (.take 7 [] .done)))⟩
def Nu:ax:=⟨df [0,0,3,7,0,0,48,112,255],df [0,0,3,4,0,0,48,64,136],(iT 0 9 .done)⟩
def JI:ax:=⟨df [0,0,2,0,0,16,56,120,0,0,0,1536,3840,7936,16376,32767,65535],df [0,0,2,0,0,16,40,64,0,0,0,1536,2304,4096,0,5,0],(.take 0 [0] (.take 1 [0] (.take 2 [2,0] (.take 3 [2,0] (.take 4 [2,0] (.take 5 [2,0] (.take 6 [2,0] (.take 7 [2,0] (.take 8 [2,0] (.take 9 [2,0] (.take 10 [2,0] (.take 11 [2,0] (.take 12 [2,0] (.take 13 [2,0] (.br 14 [2,0] [] (.take 15 [] (jn 16 .done)) .stop)))))))))))))))⟩
def JJ:ax:=⟨df [0,0,2,7,15,0,0,64,239,495,511,2047],df [0,0,2,0,8,0,0,64,0,256,16,512],(iT 0 3 (.take 5 [5] (.take 6 [5] (.take 7 [7,5] (.br 3 [7,5] [] (.take 4 [] (jn 8 (iT 9 3 .done))) .stop)))))⟩
def Nv:ax:=⟨df [0,0,2,0,0,16,56,120,0,0,768,1792,4088,8191,16383],df [0,0,2,0,0,16,40,64,0,0,768,1024,0,5,0],(.take 0 [0] (.take 1 [0] (.take 2 [2,0] (.take 3 [2,0] (.take 4 [2,0] (.take 5 [2,0] (.take 6 [2,0] (.take 7 [2,0] (.take 8 [2,0] (.take 9 [2,0] (.take 10 [2,0] (.take 11 [2,0] (.br 12 [2,0] [] (.take 13 [] (jn 14 .done)) .stop)))))))))))))⟩
def Nw:ax:=⟨df [0,0,3,7,0,0,48,112,255,511],df [0,0,3,4,0,0,48,64,0,256],(iT 0 8 (jn 8 (.take 9 [] .done)))⟩
def JK:ax:=⟨df [0,0,0,7,0,0,0,127,255],df [0,0,0,0,0,0,0,0,136],(iT 0 3 (.take 4 [4] (.take 5 [5,4] (.take 6 [5,4] (.br 3 [5,4] [] (jn 7 (.take 8 [] .done)) .stop)))))⟩
def Nx:ax:=⟨df [0,1,3,7,15,0,32,127,0,256,1023,2047,4095,8191],df [0,1,0,4,0,0,32,0,0,256,0,1168,0,4096],(iT 0 2 (.take 5 [] (.take 6 [6] (.take 8 [6] (.take 9 [9,6] (.br 2 [9,6] [9,6] (.take 3 [9,6] (.br 4 [9,6] [9] (.br 7 [9] [] (jn 10 (.take 11 [] (jn 12 (.take 13 [] .done)))) .stop) .stop)) .stop))))))⟩
def Ny:ax:=⟨df [0,1,3,7,0,16,48,112,255,0,1023],df [0,1,2,0,0,16,32,0,136,0,0],(.al 9 [1,15,16,17,18,19,20,21,22] (.take 0 [] (.take 1 [1] (.take 2 [2,1] (.take 4 [2,1] (.take 5 [5,2,1] (.take 6 [6,5,2,1] (.br 3 [6,5] [2,1] (.br 7 [2,1] [] (.take 8 [] (jn 10 .done)) .stop) (.br 7 [2,1] [6,5] (.br 3 [6,5] [] (.take 8 [] (jn 10 .done)) .stop) .stop)))))))))⟩
def JL:ax:=⟨df [0,1,0,0,0,0,32,0,224,480,0,999,3047,8191,16383],df [0,1,0,0,0,0,32,0,192,256,0,6,0,24,0],(iT 0 12 (jn 12 (.take 13 [] (jn 14 .done))))⟩
def JM:ax:=⟨df [0,1,0,0,8,0,56,120,248,511,1023],df [0,1,0,0,8,0,48,64,128,6,0],(iT 0 10 (jn 10 .done))⟩
def JN:ax:=⟨df [0,1,0,0,8,0,56,120,248,0,512,2040,4095,8191],df [0,1,0,0,8,0,48,64,0,0,512,0,6,0],(.take 0 [] (.take 1 [1] (.take 2 [1] (.take 3 [1] (.take 4 [1] (.take 5 [1] (.take 6 [1] (.take 7 [1] (.take 9 [1] (.take 10 [1] (.br 8 [1] [1] (.br 11 [1] [] (.take 12 [] (jn 13 .done)) .stop) .stop)))))))))))⟩
def JO:ax:=⟨df [0,1,0,4,12,31,63,0,128,0,512,1536,3968,8064,16383,0,32768,131071],df [0,1,0,4,8,18,32,0,128,0,512,1024,2304,4096,8256,0,32768,81920],(iT 0 18 .done)⟩
def JP:ax:=⟨df [0,0,0,4,12,30,62,0,128,0,512,1536,3968,8064,0,16384,0,130944,262016,524286,1048574,524161,4194303],df [0,0,0,4,8,18,32,0,128,0,512,1024,2304,4096,0,16384,0,106496,0,262208,0,0,1048576],(.take 0 [0] (.take 1 [0] (.take 2 [0] (.take 3 [0] (.take 4 [4,0] (.take 5 [4,0] (.take 6 [6,4,0] (.take 7 [6,4,0] (.take 8 [6,4,0] (.take 9 [6,4,0] (.take 10 [6,4,0] (.take 11 [6,4,0] (.take 12 [6,4,0] (.take 13 [6,4,0] (.take 14 [6,4,0] (.take 15 [6,4,0] (.take 16 [6,4,0] (.take 17 [6,4,0] (.br 18 [6,4,0] [6,4,0] (.take 19 [6,4,0] (.br 20 [0] [6,4] (.br 21 [6,4] [] (.take 22 [] .done) .stop) (.br 21 [6,4] [0] (.br 20 [0] [] (.take 22 [] .done) .stop) .stop))) .stop)))))))))))))))))))⟩
def Nz:ax:=⟨df [0,0,3,7,15,0,0,96,224,480,1023],df [0,0,3,4,8,0,0,96,128,256,528],(iT 0 11 .done)⟩
def JQ:ax:=⟨df [0,1,3,0,8,31,63,127,255],df [0,1,0,0,8,0,36,0,128],(iT 0 2 (.take 3 [] (.take 4 [4] (.br 2 [4] [] (jn 5 (.take 6 [] (jn 7 (.take 8 [] .done)))) .stop))))⟩
def NA:ax:=⟨df [0,1,3,7,15,31,15,79,207,511,1023,2047,4095,8191,16383,32767,65535,131071,262143,131071,655359,131071,2228223,7995391,16383999,33161215,66715647,134217727,268435455,536870911],df [0,1,2,4,8,24,8,72,136,296,520,1024,2048,6144,10240,18432,32768,65536,196608,65536,589824,65536,2162688,5308416,8454144,16842752,33619968,67436544,134283264,268435456],(iT 0 30 .done)⟩
def NB:ax:=⟨df [0,1,3,7,15,0,63,0,128,384,896,2047,4095,8191,16383,32767,65535,131071,262143,524287,1048575],df [0,1,0,4,0,0,0,0,128,256,512,1024,2048,6144,10240,18432,34816,0,131152,0,524288],(iT 0 2 (.take 5 [] (.take 7 [] (.take 8 [8] (.take 9 [9,8] (.take 10 [9,8] (.br 2 [9,8] [9,8] (.take 3 [9,8] (.br 4 [9,8] [9,8] (.br 6 [9,8] [] (iT 11 6 (jn 17 (.take 18 [] (jn 19 (.take 20 [] .done))))) .stop) .stop)) .stop)))))))⟩
def JR:ax:=⟨df [0,1,3,0,8,31,63,127,255],df [0,1,0,0,8,0,36,0,128],(iT 0 2 (.take 3 [] (.take 4 [4] (.br 2 [4] [] (jn 5 (.take 6 [] (jn 7 (.take 8 [] .done)))) .stop))))⟩
def ND:ax:=⟨df [0,0,2,7,15,0,0,64,239,495,511,2047],df [0,0,2,0,8,0,0,64,0,256,16,512],(iT 0 3 (.take 5 [5] (.take 6 [5] (.take 7 [7,5] (.br 3 [7,5] [] (.take 4 [] (jn 8 (iT 9 3 .done))) .stop)))))⟩
def NE:ax:=⟨df [0,0,0,6,15,31,63,63,127,511],df [0,0,0,6,9,16,32,32,64,128],(iT 0 10 .done)⟩
def NF:ax:=⟨df [0,0,0,6,15],df [0,0,0,6,0],(iT 0 4 (jn 4 .done))⟩
def JS:ax:=⟨df [0,0,2,0,0,16,0,0,0,384,896,1984,0,0,8192,28672,62336,0,131072,393216,1045376,2093959,4191111,8388551,16777215,33554431],df [0,0,2,0,0,16,0,0,0,0,512,1088,0,0,8192,20480,0,0,131072,262144,0,0,2097152,0,0,0],(.take 0 [0] (.take 1 [0] (.take 2 [2,0] (.take 3 [3,2,0] (.take 4 [3,2,0] (.take 5 [5,3,2,0] (.take 6 [5,3,2,0] (.take 7 [5,3,2,0] (.take 8 [5,3,2,0] (.take 12 [12,5,3,2,0] (.take 13 [12,5,3,2,0] (.take 14 [14,12,5,3,2,0] (.take 15 [15,14,12,5,3,2,0] (.take 17 [17,15,14,12,5,3,2,0] (.take 18 [17,15,14,12,5,3,2,0] (.take 19 [17,15,14,12,5,3,2,0] (.br 9 [17,15,14,12,5,3,2,0] [17,5,3,2,0] (.take 10 [17,5,3,2,0] (.take 11 [17,5,3,2,0] (.br 16 [17,5,3,2,0] [5,3,2,0] (.br 20 [5,3,2,0] [5,3] (.br 21 [5,3] [5,3] (.take 22 [5,3] (.br 23 [5,3] [] (jn 24 (jn 25 .done)) .stop)) .stop) .stop) .stop))) .stop)))))))))))))))))⟩
def JU:ax:=⟨df [0,0,2,0,0,16,0,0,0,384,896,1984,0,0,8192,28672,62336,0,131072,393216,1045376,2093959,4191111,8388551,16777215,33554431],df [0,0,2,0,0,16,0,0,0,0,512,1088,0,0,8192,20480,0,0,131072,262144,0,0,2097152,0,0,0],(.take 0 [0] (.take 1 [0] (.take 2 [2,0] (.take 3 [3,2,0] (.take 4 [3,2,0] (.take 5 [5,3,2,0] (.take 6 [5,3,2,0] (.take 7 [5,3,2,0] (.take 8 [5,3,2,0] (.take 12 [12,5,3,2,0] (.take 13 [12,5,3,2,0] (.take 14 [14,12,5,3,2,0] (.take 15 [15,14,12,5,3,2,0] (.take 17 [17,15,14,12,5,3,2,0] (.take 18 [17,15,14,12,5,3,2,0] (.take 19 [17,15,14,12,5,3,2,0] (.br 9 [17,15,14,12,5,3,2,0] [17,5,3,2,0] (.take 10 [17,5,3,2,0] (.take 11 [17,5,3,2,0] (.br 16 [17,5,3,2,0] [5,3,2,0] (.br 20 [5,3,2,0] [5,3] (.br 21 [5,3] [5,3] (.take 22 [5,3] (.br 23 [5,3] [] (jn 24 (jn 25 .done)) .stop)) .stop) .stop) .stop))) .stop)))))))))))))))))⟩
def JV:ax:=⟨df [0,0,2,7,0,0,32,112,255,0,0,1536,3584,8191],df [0,0,2,5,0,0,32,80,136,0,0,0,2048,4352],(.take 0 [0] (.take 1 [0] (.take 2 [2,0] (.take 3 [3,2,0] (.take 4 [4,3,2,0] (.take 5 [4,3,2,0] (.take 6 [6,4,3,2,0] (.take 7 [7,6,4,3,2,0] (.take 8 [7,6,4,3,2,0] (.take 9 [7,6,4,3,2,0] (.take 10 [7,6,4,3,2,0] (.br 11 [7,6,4,3,2,0] [] (iT 12 2 .done) .stop))))))))))))⟩
def JW:ax:=⟨df [0,0,0,4,14,0,32,96,0,510,1022,2047,4095],df [0,0,0,4,10,0,32,64,0,400,0,0,0],(.take 0 [0] (.take 1 [0] (.take 2 [0] (.take 3 [0] (.take 4 [0] (.take 5 [0] (.take 6 [0] (.take 7 [0] (.take 8 [0] (.take 9 [0] (.br 10 [0] [] (jn 11 (jn 12 .done)) .stop)))))))))))⟩
def NG:ax:=⟨df [0,1,0,4,15,31,63,0,128,511,1023,2047],df [0,1,0,4,10,16,32,0,128,320,512,0],(iT 0 11 (jn 11 .done))⟩
def NH:ax:=⟨df [0,1,0,4,15,31,63,0,128,511,1023,2047],df [0,1,0,4,10,16,32,0,128,320,512,0],(iT 0 11 (jn 11 .done))⟩
def NI:ax:=⟨df [0,0,2,0,8,24,0,64,0,256,960,1984,4032,8128,16376,32766,65535,131071],df [0,0,2,0,8,16,0,64,0,256,640,1024,2048,4096,8224,16388,32769,0],(iT 0 17 (jn 17 .done))⟩
def NJ:ax:=⟨df [0,0,0,6,1,31],df [0,0,0,6,0,8],(.take 0 [] (.take 1 [1] (.take 2 [2,1] (.take 3 [2,1] (.br 4 [2,1] [] (.take 5 [] .done) .stop)))))⟩
def NK:ax:=⟨df [0,0,2,0,14,30,63,0],df [0,0,2,0,12,16,0,0],(iT 0 6 (.take 7 [] (jn 6 .done)))⟩
def NL:ax:=⟨df [0,1,0,7,15,31,0,127,255,511,1023,511,4095,8191],df [0,1,0,6,8,16,0,96,128,256,768,256,3328,4352],(iT 0 14 .done)⟩
def JX:ax:=⟨df [0,1,0,7,15,31,0,127,255,511,1023,511,4095,8191],df [0,1,0,6,8,16,0,96,128,256,768,256,3328,4352],(iT 0 14 .done)⟩
def NM:ax:=⟨df [0,1,3,7,7,31,63,7,255,511,1023],df [0,1,2,4,4,28,36,4,196,260,512],(iT 0 11 .done)⟩
def JY:ax:=⟨df [0,0,2,7,0,0,32,112,15,511],df [0,0,2,5,0,0,32,80,8,128],(iT 0 10 .done)⟩
def NN:ax:=⟨df [0,0,2,6,15,31,0,127,255,511,1023,511,2559,6655,16383,32767,511,66047,511,262655,786943,2032127,4129279,8388607,511,16777727,67108863,134217727,268435455],df [0,0,2,4,9,16,0,96,128,256,768,256,2304,4352,9472,16640,256,65792,256,262400,524544,1179904,2097408,4227328,256,16777472,41943296,67109120,134217728],(iT 0 29 .done)⟩
def JZ:ax:=⟨df [0,0,0,0,0,0,48,112,0,0,768,1792,4083,8179,16383,32767],df [0,0,0,0,0,0,48,64,0,0,768,1024,3,0,12,0],(iT 0 13 (jn 13 (.take 14 [] (jn 15 .done))))⟩
def J0:ax:=⟨df [0,0,2,7,0,0,32,112,255,511],df [0,0,2,5,0,0,32,80,136,0],(iT 0 9 (jn 9 .done))⟩
def J1:ax:=⟨df [0,0,0,0,0,0,48,112,0,0,768,1792,4083,8179,16383,32767],df [0,0,0,0,0,0,48,64,0,0,768,1024,3,0,12,0],(iT 0 13 (jn 13 (.take 14 [] (jn 15 .done))))⟩
def J2:ax:=⟨df [0,0,2,7,0,0,32,127,0,0,1023,2047],df [0,0,2,0,0,0,32,0,0,0,0,0],(.al 8 [2,3,7,8,9,11,12,13] (.al 9 [2,3,7,8,9,11,12,13] (iT 0 3 (.take 4 [4] (.take 5 [4] (.take 6 [6,4] (.br 3 [6,4] [] (jn 7 (jn 10 (jn 11 .done))) .stop)))))))⟩
def Hs:ax:=⟨df [0,0,2,7,0,0,32,112,15,511],df [0,0,2,5,0,0,32,80,8,128],(iT 0 10 .done)⟩
def Ht:ax:=⟨df [0,0,0,6,0,16,63],df [0,0,0,6,0,16,0],(iT 0 6 (jn 6 .done))⟩
def J3:ax:=⟨df [0,1,0,4,0,28,60,0,252,511,1023],df [0,1,0,4,0,24,32,0,192,258,0],(iT 0 10 (jn 10 .done))⟩
def U3 (f r:Nat):Option ax:=
  bif Nat.beq f 7 then (bif Nat.beq r 5 then some RK else none) else
  bif Nat.beq f 21 then (bif Nat.beq r 9 then some Nk else none) else
  bif Nat.beq f 23 then (bif Nat.beq r 1 then some Nl else none) else
  bif Nat.beq f 27 then (bif Nat.beq r 1 then some Nn else none) else
  bif Nat.beq f 28 then (bif Nat.beq r 16 then some JH else none) else
  bif Nat.beq f 31 then (bif Nat.beq r 6 then some No else none) else
  bif Nat.beq f 32 then (bif Nat.beq r 9 then some Np else none) else
  bif Nat.beq f 34 then (bif Nat.beq r 6 then some Nq else bif Nat.beq r 8 then some Nr else none) else
  bif Nat.beq f 35 then (bif Nat.beq r 1 then some Ns else bif Nat.beq r 7 then some Nt else none) else
  bif Nat.beq f 36 then (bif Nat.beq r 6 then some Nu else none) else
  bif Nat.beq f 41 then (bif Nat.beq r 11 then some JI else none) else
  bif Nat.beq f 42 then (bif Nat.beq r 11 then some JJ else none) else
  bif Nat.beq f 46 then (bif Nat.beq r 8 then some Nv else none) else
  bif Nat.beq f 48 then (bif Nat.beq r 6 then some Nw else none) else
  bif Nat.beq f 49 then (bif Nat.beq r 12 then some JK else none) else
  bif Nat.beq f 50 then (bif Nat.beq r 6 then some Nx else none) else
  bif Nat.beq f 64 then (bif Nat.beq r 1 then some Ny else bif Nat.beq r 19 then some JL else bif Nat.beq r 21 then some JM else bif Nat.beq r 22 then some JN else bif Nat.beq r 29 then some JO else bif Nat.beq r 32 then some JP else none) else
  bif Nat.beq f 68 then (bif Nat.beq r 6 then some Nz else bif Nat.beq r 14 then some JQ else none) else
  bif Nat.beq f 71 then (bif Nat.beq r 1 then some NA else none) else
  bif Nat.beq f 73 then (bif Nat.beq r 5 then some NB else bif Nat.beq r 11 then some JR else none) else
  bif Nat.beq f 74 then (bif Nat.beq r 9 then some ND else none) else
  bif Nat.beq f 78 then (bif Nat.beq r 7 then some NE else bif Nat.beq r 9 then some NF else bif Nat.beq r 19 then some JS else bif Nat.beq r 21 then some JU else bif Nat.beq r 27 then some JV else bif Nat.beq r 30 then some JW else none) else
  bif Nat.beq f 81 then (bif Nat.beq r 1 then some NG else none) else
  bif Nat.beq f 88 then (bif Nat.beq r 1 then some NH else none) else
  bif Nat.beq f 90 then (bif Nat.beq r 1 then some NI else none) else
  bif Nat.beq f 91 then (bif Nat.beq r 4 then some NJ else bif Nat.beq r 5 then some NK else bif Nat.beq r 8 then some NL else bif Nat.beq r 10 then some JX else none) else
  bif Nat.beq f 92 then (bif Nat.beq r 1 then some NM else none) else
  bif Nat.beq f 93 then (bif Nat.beq r 10 then some JY else none) else
  bif Nat.beq f 99 then (bif Nat.beq r 1 then some NN else none) else
  bif Nat.beq f 101 then (bif Nat.beq r 3 then some JZ else none) else
  bif Nat.beq f 111 then (bif Nat.beq r 2 then some J0 else none) else
  bif Nat.beq f 115 then (bif Nat.beq r 3 then some J1 else none) else
  bif Nat.beq f 117 then (bif Nat.beq r 1 then some J2 else none) else
  bif Nat.beq f 118 then (bif Nat.beq r 10 then some Hs else bif Nat.beq r 23 then some Ht else none) else
  bif Nat.beq f 122 then (bif Nat.beq r 3 then some J3 else none) else none
def okF (f:Nat):Bool:=Nat.blt f 144&&!(([3,4,5,6,8,9,13,14,29,30,38,39,43,69,70,76,82,105,109]:List Nat).any (Nat.beq f))
theorem Hu:(List.range 144).all (fun f=>!okF f || match Try.prog.funcs[f]? with
  | some fn=>match fn.body with
    | some c=>bl (U3 f) c
    | none=>true
  | none=>true)=true:=by kernel_rfl
theorem J4 (f:FuncId) (fn:Func) (c:Code) (h:okF f=true) (hf:Try.prog.funcs[f]?=some fn) (hb:fn.body=some c):bl (U3 f) c=true:=by
  have bT:f < 144:=by
    have:Nat.blt f 144=true:=by
      rw [okF,Bool.and_eq_true] at h
      exact h.1
    exact Nat.le_of_ble_eq_true this
  have h1:=List.all_eq_true.1 Hu f (List.mem_range.2 bT)
  rw [h,hf] at h1
  simp only [hb] at h1
  simpa using h1
noncomputable def U4:MY:={ toEnv:=env,dt:=U3,okF:=okF,K9:=J4 }
end Go.Proofs.Ytegoimldbgdeiaa
