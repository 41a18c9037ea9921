/- The abstract machine's surroundings for this program: its types as a table (printed by a program of ours,checked by the kernel). -/
import Derived.Test.YtfiopgedfcaodaaGreatDoorProg
import Derived.Test.YtfiopgedfcaodaaGreatDoorAmKK
import Derived.KernelRfl
set_option linter.all false
namespace Go.Proofs.YtfiopgedfcaodaaGreatDoor
open Go Go.Am
set_option maxRecDepth 100000
def tI (k : TK) (n : Nat) (a : Bool) (z : Option AV) (e : EK) : Option TI := some ⟨k, n, a, z, e⟩
def tiT (t : Nat) : Option TI :=
 bif Nat.ble t 163 then
 bif Nat.ble t 81 then
 bif Nat.ble t 40 then
 bif Nat.ble t 19 then
 bif Nat.ble t 9 then
 bif Nat.ble t 4 then
 bif Nat.ble t 1 then
 bif Nat.ble t 0 then
 tI (.sc) 1 false (some (.tup [])) (.no)
 else
 tI (.sc) 1 false (some (.nilf)) (.no)
 else
 bif Nat.ble t 2 then
 tI (.int .i64) 1 false (some (.int .i64 0)) (.int)
 else
 bif Nat.ble t 3 then
 tI (.int .i64) 1 false (some (.int .i64 0)) (.int)
 else
 tI (.sc) 1 false (some (.bool false)) (.bool)
 else
 bif Nat.ble t 6 then
 bif Nat.ble t 5 then
 tI (.int .u8) 1 false (some (.int .u8 0)) (.int)
 else
 tI (.int .u8) 1 false (some (.int .u8 0)) (.int)
 else
 bif Nat.ble t 7 then
 tI (.st [(0,1,false),(1,1,false),(2,1,false),(3,1,false)]) 4 true (some (.agg [.int .i64 0,.int .i64 0,.bool false,.int .u8 0])) ((.st (.cons 0 1 false .int (.cons 1 1 false .int (.cons 2 1 false .bool (.cons 3 1 false .int .nil))))))
 else
 bif Nat.ble t 8 then
 tI (.st [(0,1,false),(1,1,false),(2,1,false),(3,1,false)]) 4 true (some (.agg [.int .i64 0,.int .i64 0,.bool false,.int .u8 0])) ((.st (.cons 0 1 false .int (.cons 1 1 false .int (.cons 2 1 false .bool (.cons 3 1 false .int .nil))))))
 else
 tI (.str) 1 false (some (.str [])) (.str)
 else
 bif Nat.ble t 14 then
 bif Nat.ble t 11 then
 bif Nat.ble t 10 then
 tI (.str) 1 false (some (.str [])) (.str)
 else
 tI (.str) 1 false (some (.str [])) (.str)
 else
 bif Nat.ble t 12 then
 tI (.int .u64) 1 false (some (.int .u64 0)) (.int)
 else
 none
 else
 bif Nat.ble t 16 then
 bif Nat.ble t 15 then
 tI (.sc) 1 false (some (.nilp)) (.no)
 else
 tI (.sc) 1 false (some (.nilp)) (.no)
 else
 none
 else
 bif Nat.ble t 29 then
 bif Nat.ble t 24 then
 bif Nat.ble t 21 then
 bif Nat.ble t 20 then
 tI (.sc) 1 false (some (.nili)) (.no)
 else
 tI (.int .i32) 1 false (some (.int .i32 0)) (.int)
 else
 bif Nat.ble t 22 then
 tI (.sl 46 2 true 16 (some (.agg [.int .i64 0,.int .i64 0]))) 1 false (some (.list .nil 0 [])) (.no)
 else
 bif Nat.ble t 23 then
 none
 else
 tI (.int .i64) 1 false (some (.int .i64 0)) (.int)
 else
 bif Nat.ble t 26 then
 bif Nat.ble t 25 then
 tI (.sc) 1 false (some (.tup [.list .nil 0 [],.int .i64 0])) (.no)
 else
 tI (.sc) 1 false (some (.nilf)) (.no)
 else
 bif Nat.ble t 27 then
 tI (.st [(0,1,false),(1,1,false)]) 2 true (some (.agg [.int .i64 0,.int .i64 0])) ((.st (.cons 0 1 false .int (.cons 1 1 false .int .nil))))
 else
 bif Nat.ble t 28 then
 tI (.st [(0,1,false),(1,1,false)]) 2 true (some (.agg [.int .i64 0,.int .i64 0])) ((.st (.cons 0 1 false .int (.cons 1 1 false .int .nil))))
 else
 tI (.sc) 1 false (none) (.no)
 else
 bif Nat.ble t 34 then
 bif Nat.ble t 31 then
 bif Nat.ble t 30 then
 none
 else
 tI (.sc) 1 false (some (.nilf)) (.no)
 else
 bif Nat.ble t 32 then
 tI (.sc) 1 false (some (.nilf)) (.no)
 else
 none
 else
 bif Nat.ble t 37 then
 bif Nat.ble t 35 then
 none
 else
 bif Nat.ble t 36 then
 tI (.sc) 1 false (some (.nilf)) (.no)
 else
 none
 else
 none
 else
 bif Nat.ble t 60 then
 bif Nat.ble t 50 then
 bif Nat.ble t 45 then
 bif Nat.ble t 42 then
 none
 else
 bif Nat.ble t 43 then
 none
 else
 bif Nat.ble t 44 then
 none
 else
 tI (.sl 3 1 false 8 (some (.int .i64 0))) 1 false (some (.list .nil 0 [])) (.no)
 else
 bif Nat.ble t 47 then
 bif Nat.ble t 46 then
 tI (.arr 2 1 false) 2 true (some (.agg [.int .i64 0,.int .i64 0])) ((.st (.cons 0 1 false .int (.cons 1 1 false .int .nil))))
 else
 tI (.sc) 1 false (some (.nilf)) (.no)
 else
 bif Nat.ble t 48 then
 tI (.sc) 1 false (some (.nilf)) (.no)
 else
 bif Nat.ble t 49 then
 tI (.sc) 1 false (some (.nilf)) (.no)
 else
 tI (.sl 115 1 false 24 (some (.list .nil 0 []))) 1 false (some (.list .nil 0 [])) (.no)
 else
 bif Nat.ble t 55 then
 bif Nat.ble t 52 then
 bif Nat.ble t 51 then
 tI (.sl 129 6 true 48 (some (.agg [.int .i64 0,.int .i64 0,.int .i64 0,.int .i64 0,.int .i64 0,.int .i64 0]))) 1 false (some (.list .nil 0 [])) (.no)
 else
 tI (.sc) 1 false (some (.nilf)) (.no)
 else
 bif Nat.ble t 53 then
 tI (.sl 94 3 true 24 (some (.agg [.int .i64 0,.int .i64 0,.int .i64 0]))) 1 false (some (.list .nil 0 [])) (.no)
 else
 bif Nat.ble t 54 then
 tI (.sc) 1 false (some (.tup [.list .nil 0 [],.int .i64 0])) (.no)
 else
 tI (.sc) 1 false (some (.nilf)) (.no)
 else
 bif Nat.ble t 57 then
 bif Nat.ble t 56 then
 tI (.sc) 1 false (some (.nilf)) (.no)
 else
 tI (.sl 127 6 true 48 (some (.agg [.int .i64 0,.int .i64 0,.int .i64 0,.int .i64 0,.int .i64 0,.int .i64 0]))) 1 false (some (.list .nil 0 [])) (.no)
 else
 bif Nat.ble t 58 then
 tI (.sc) 1 false (some (.nilf)) (.no)
 else
 bif Nat.ble t 59 then
 tI (.sc) 1 false (some (.tup [.list .nil 0 [],.int .i64 0])) (.no)
 else
 none
 else
 bif Nat.ble t 70 then
 bif Nat.ble t 65 then
 bif Nat.ble t 62 then
 none
 else
 bif Nat.ble t 63 then
 tI (.sl 89 3 true 24 (some (.agg [.int .i64 0,.int .i64 0,.int .i64 0]))) 1 false (some (.list .nil 0 [])) (.no)
 else
 bif Nat.ble t 64 then
 tI (.sc) 1 false (some (.nilf)) (.no)
 else
 tI (.sc) 1 false (some (.tup [.list .nil 0 [],.int .i64 0])) (.no)
 else
 bif Nat.ble t 67 then
 bif Nat.ble t 66 then
 tI (.sc) 1 false (some (.nilf)) (.no)
 else
 none
 else
 bif Nat.ble t 68 then
 none
 else
 bif Nat.ble t 69 then
 none
 else
 tI (.sc) 1 false (some (.nilf)) (.no)
 else
 bif Nat.ble t 75 then
 bif Nat.ble t 72 then
 bif Nat.ble t 71 then
 tI (.sc) 1 false (some (.nilf)) (.no)
 else
 none
 else
 bif Nat.ble t 73 then
 tI (.sc) 1 false (some (.nilf)) (.no)
 else
 bif Nat.ble t 74 then
 tI (.sl 53 1 false 24 (some (.list .nil 0 []))) 1 false (some (.list .nil 0 [])) (.no)
 else
 none
 else
 bif Nat.ble t 78 then
 bif Nat.ble t 76 then
 tI (.st [(0,1,false),(1,1,false)]) 2 true (some (.agg [.list .nil 0 [],.list .nil 0 []])) ((.st (.cons 0 1 false .no (.cons 1 1 false .no .nil))))
 else
 bif Nat.ble t 77 then
 tI (.sc) 1 false (none) (.no)
 else
 none
 else
 none
 else
 bif Nat.ble t 122 then
 bif Nat.ble t 101 then
 bif Nat.ble t 91 then
 bif Nat.ble t 86 then
 none
 else
 bif Nat.ble t 88 then
 bif Nat.ble t 87 then
 tI (.st [(0,1,false),(1,1,false)]) 2 true (some (.agg [.int .i64 0,.int .i64 0])) ((.st (.cons 0 1 false .int (.cons 1 1 false .int .nil))))
 else
 none
 else
 bif Nat.ble t 89 then
 tI (.st [(0,1,false),(1,2,true)]) 3 true (some (.agg [.int .i64 0,.int .i64 0,.int .i64 0])) ((.st (.cons 0 1 false .int (.cons 1 2 true (.st (.cons 0 1 false .int (.cons 1 1 false .int .nil))) .nil))))
 else
 bif Nat.ble t 90 then
 none
 else
 tI (.sc) 1 false (some (.tup [.int .i64 0,.int .i64 0])) (.no)
 else
 bif Nat.ble t 96 then
 bif Nat.ble t 93 then
 none
 else
 bif Nat.ble t 94 then
 tI (.st [(0,1,false),(1,2,true)]) 3 true (some (.agg [.int .i64 0,.int .i64 0,.int .i64 0])) ((.st (.cons 0 1 false .int (.cons 1 2 true (.st (.cons 0 1 false .int (.cons 1 1 false .int .nil))) .nil))))
 else
 bif Nat.ble t 95 then
 tI (.sc) 1 false (some (.tup [.list .nil 0 [],.int .i64 0])) (.no)
 else
 none
 else
 bif Nat.ble t 98 then
 bif Nat.ble t 97 then
 tI (.st [(0,1,false),(1,1,false),(2,1,false),(3,1,false)]) 4 true (some (.agg [.int .i64 0,.int .i64 0,.int .i64 0,.int .i64 0])) ((.st (.cons 0 1 false .int (.cons 1 1 false .int (.cons 2 1 false .int (.cons 3 1 false .int .nil))))))
 else
 tI (.st [(0,1,false),(1,1,false),(2,1,false),(3,1,false)]) 4 true (some (.agg [.int .i64 0,.int .i64 0,.int .i64 0,.int .i64 0])) ((.st (.cons 0 1 false .int (.cons 1 1 false .int (.cons 2 1 false .int (.cons 3 1 false .int .nil))))))
 else
 bif Nat.ble t 99 then
 tI (.sc) 1 false (none) (.no)
 else
 bif Nat.ble t 100 then
 tI (.sc) 1 false (some (.nilf)) (.no)
 else
 tI (.sc) 1 false (some (.nilf)) (.no)
 else
 bif Nat.ble t 111 then
 bif Nat.ble t 106 then
 bif Nat.ble t 103 then
 bif Nat.ble t 102 then
 tI (.st [(0,1,false),(1,1,false),(2,1,false),(3,1,false)]) 4 true (some (.agg [.int .i64 0,.int .i64 0,.int .i64 0,.int .i64 0])) ((.st (.cons 0 1 false .int (.cons 1 1 false .int (.cons 2 1 false .int (.cons 3 1 false .int .nil))))))
 else
 tI (.sc) 1 false (some (.tup [.int .i64 0,.int .i64 0])) (.no)
 else
 bif Nat.ble t 104 then
 tI (.sc) 1 false (some (.nilf)) (.no)
 else
 bif Nat.ble t 105 then
 tI (.sc) 1 false (some (.nilf)) (.no)
 else
 tI (.sc) 1 false (some (.nilf)) (.no)
 else
 bif Nat.ble t 108 then
 bif Nat.ble t 107 then
 tI (.sc) 1 false (some (.nilf)) (.no)
 else
 tI (.sc) 1 false (some (.nilf)) (.no)
 else
 bif Nat.ble t 109 then
 tI (.map 3 3 (some (.int .i64 0))) 1 false (some (.nilm)) (.no)
 else
 bif Nat.ble t 110 then
 tI (.arr 2 1 false) 2 true (some (.agg [.nilm,.nilm])) ((.st (.cons 0 1 false .no (.cons 1 1 false .no .nil))))
 else
 tI (.sc) 1 false (some (.nilf)) (.no)
 else
 bif Nat.ble t 116 then
 bif Nat.ble t 113 then
 bif Nat.ble t 112 then
 tI (.sc) 1 false (some (.tup [.bool false,.int .i64 0])) (.no)
 else
 tI (.sc) 1 false (some (.nilf)) (.no)
 else
 bif Nat.ble t 114 then
 tI (.sc) 1 false (some (.nilf)) (.no)
 else
 bif Nat.ble t 115 then
 tI (.sl 120 3 true 24 (some (.agg [.int .i64 0,.int .i64 0,.int .i64 0]))) 1 false (some (.list .nil 0 [])) (.no)
 else
 tI (.int .u16) 1 false (some (.int .u16 0)) (.int)
 else
 bif Nat.ble t 119 then
 bif Nat.ble t 117 then
 tI (.sc) 1 false (some (.nilf)) (.no)
 else
 bif Nat.ble t 118 then
 tI (.arr 2 1 false) 2 true (some (.agg [.list .nil 0 [],.list .nil 0 []])) ((.st (.cons 0 1 false .no (.cons 1 1 false .no .nil))))
 else
 tI (.st [(0,1,false),(1,1,false),(2,1,false)]) 3 true (some (.agg [.int .i64 0,.int .i64 0,.int .i64 0])) ((.st (.cons 0 1 false .int (.cons 1 1 false .int (.cons 2 1 false .int .nil)))))
 else
 bif Nat.ble t 120 then
 tI (.st [(0,1,false),(1,1,false),(2,1,false)]) 3 true (some (.agg [.int .i64 0,.int .i64 0,.int .i64 0])) ((.st (.cons 0 1 false .int (.cons 1 1 false .int (.cons 2 1 false .int .nil)))))
 else
 bif Nat.ble t 121 then
 tI (.sl 87 2 true 16 (some (.agg [.int .i64 0,.int .i64 0]))) 1 false (some (.list .nil 0 [])) (.no)
 else
 tI (.sc) 1 false (some (.nilf)) (.no)
 else
 bif Nat.ble t 142 then
 bif Nat.ble t 132 then
 bif Nat.ble t 127 then
 bif Nat.ble t 124 then
 bif Nat.ble t 123 then
 tI (.sc) 1 false (some (.nilf)) (.no)
 else
 none
 else
 bif Nat.ble t 125 then
 none
 else
 bif Nat.ble t 126 then
 none
 else
 tI (.st [(0,3,true),(3,3,true)]) 6 true (some (.agg [.int .i64 0,.int .i64 0,.int .i64 0,.int .i64 0,.int .i64 0,.int .i64 0])) ((.st (.cons 0 3 true (.st (.cons 0 1 false .int (.cons 1 2 true (.st (.cons 0 1 false .int (.cons 1 1 false .int .nil))) .nil))) (.cons 3 3 true (.st (.cons 0 1 false .int (.cons 1 2 true (.st (.cons 0 1 false .int (.cons 1 1 false .int .nil))) .nil))) .nil))))
 else
 bif Nat.ble t 129 then
 bif Nat.ble t 128 then
 tI (.st [(0,3,true),(3,3,true)]) 6 true (some (.agg [.int .i64 0,.int .i64 0,.int .i64 0,.int .i64 0,.int .i64 0,.int .i64 0])) ((.st (.cons 0 3 true (.st (.cons 0 1 false .int (.cons 1 2 true (.st (.cons 0 1 false .int (.cons 1 1 false .int .nil))) .nil))) (.cons 3 3 true (.st (.cons 0 1 false .int (.cons 1 2 true (.st (.cons 0 1 false .int (.cons 1 1 false .int .nil))) .nil))) .nil))))
 else
 tI (.st [(0,3,true),(3,3,true)]) 6 true (some (.agg [.int .i64 0,.int .i64 0,.int .i64 0,.int .i64 0,.int .i64 0,.int .i64 0])) ((.st (.cons 0 3 true (.st (.cons 0 1 false .int (.cons 1 2 true (.st (.cons 0 1 false .int (.cons 1 1 false .int .nil))) .nil))) (.cons 3 3 true (.st (.cons 0 1 false .int (.cons 1 2 true (.st (.cons 0 1 false .int (.cons 1 1 false .int .nil))) .nil))) .nil))))
 else
 bif Nat.ble t 130 then
 tI (.sc) 1 false (some (.tup [.list .nil 0 [],.int .i64 0])) (.no)
 else
 bif Nat.ble t 131 then
 none
 else
 tI (.sc) 1 false (some (.nilf)) (.no)
 else
 none
 else
 bif Nat.ble t 152 then
 bif Nat.ble t 147 then
 bif Nat.ble t 144 then
 none
 else
 bif Nat.ble t 145 then
 tI (.sc) 1 false (some (.nilf)) (.no)
 else
 none
 else
 bif Nat.ble t 149 then
 bif Nat.ble t 148 then
 tI (.sc) 1 false (some (.tup [.str [],.int .i64 0])) (.no)
 else
 none
 else
 none
 else
 bif Nat.ble t 157 then
 bif Nat.ble t 154 then
 none
 else
 bif Nat.ble t 155 then
 none
 else
 bif Nat.ble t 156 then
 none
 else
 tI (.sc) 1 false (some (.nilf)) (.no)
 else
 bif Nat.ble t 160 then
 bif Nat.ble t 158 then
 tI (.sc) 1 false (some (.nilf)) (.no)
 else
 none
 else
 none
 else
 bif Nat.ble t 245 then
 bif Nat.ble t 204 then
 bif Nat.ble t 183 then
 bif Nat.ble t 173 then
 bif Nat.ble t 168 then
 bif Nat.ble t 165 then
 bif Nat.ble t 164 then
 none
 else
 tI (.sc) 1 false (some (.nilf)) (.no)
 else
 bif Nat.ble t 166 then
 none
 else
 bif Nat.ble t 167 then
 tI (.sc) 1 false (some (.nilf)) (.no)
 else
 none
 else
 bif Nat.ble t 170 then
 bif Nat.ble t 169 then
 tI (.map 3 45 (some (.list .nil 0 []))) 1 false (some (.nilm)) (.no)
 else
 none
 else
 bif Nat.ble t 171 then
 tI (.sc) 1 false (some (.nilf)) (.no)
 else
 none
 else
 bif Nat.ble t 178 then
 bif Nat.ble t 175 then
 bif Nat.ble t 174 then
 tI (.sc) 1 false (some (.nilf)) (.no)
 else
 none
 else
 bif Nat.ble t 176 then
 none
 else
 bif Nat.ble t 177 then
 tI (.map 94 4 (some (.bool false))) 1 false (some (.nilm)) (.no)
 else
 none
 else
 bif Nat.ble t 180 then
 bif Nat.ble t 179 then
 none
 else
 tI (.sc) 1 false (some (.nilf)) (.no)
 else
 bif Nat.ble t 181 then
 tI (.sc) 1 false (some (.tup [.int .i64 0,.bool false])) (.no)
 else
 bif Nat.ble t 182 then
 none
 else
 tI (.sc) 1 false (some (.nilf)) (.no)
 else
 bif Nat.ble t 193 then
 bif Nat.ble t 188 then
 bif Nat.ble t 185 then
 none
 else
 bif Nat.ble t 186 then
 none
 else
 bif Nat.ble t 187 then
 none
 else
 tI (.sl 24 1 false 8 (some (.int .i64 0))) 1 false (some (.list .nil 0 [])) (.no)
 else
 bif Nat.ble t 190 then
 bif Nat.ble t 189 then
 none
 else
 tI (.sc) 1 false (some (.nilf)) (.no)
 else
 bif Nat.ble t 191 then
 tI (.map 94 3 (some (.int .i64 0))) 1 false (some (.nilm)) (.no)
 else
 bif Nat.ble t 192 then
 none
 else
 tI (.sc) 1 false (some (.nilf)) (.no)
 else
 bif Nat.ble t 198 then
 bif Nat.ble t 195 then
 bif Nat.ble t 194 then
 none
 else
 tI (.sc) 1 false (some (.nilf)) (.no)
 else
 bif Nat.ble t 196 then
 tI (.sl 3 1 false 8 (some (.int .i64 0))) 1 false (some (.list .nil 0 [])) (.no)
 else
 none
 else
 bif Nat.ble t 201 then
 bif Nat.ble t 199 then
 tI (.arr 2 2 true) 4 true (some (.agg [.int .i64 0,.int .i64 0,.int .i64 0,.int .i64 0])) ((.st (.cons 0 2 true (.st (.cons 0 1 false .int (.cons 1 1 false .int .nil))) (.cons 2 2 true (.st (.cons 0 1 false .int (.cons 1 1 false .int .nil))) .nil))))
 else
 none
 else
 none
 else
 bif Nat.ble t 224 then
 bif Nat.ble t 214 then
 bif Nat.ble t 209 then
 bif Nat.ble t 206 then
 none
 else
 bif Nat.ble t 207 then
 tI (.sc) 1 false (some (.nilf)) (.no)
 else
 none
 else
 none
 else
 bif Nat.ble t 219 then
 bif Nat.ble t 216 then
 none
 else
 bif Nat.ble t 217 then
 none
 else
 bif Nat.ble t 218 then
 tI (.sc) 1 false (some (.nilf)) (.no)
 else
 tI (.arr 8 2 true) 16 true (some (.agg [.int .i64 0,.int .i64 0,.int .i64 0,.int .i64 0,.int .i64 0,.int .i64 0,.int .i64 0,.int .i64 0,.int .i64 0,.int .i64 0,.int .i64 0,.int .i64 0,.int .i64 0,.int .i64 0,.int .i64 0,.int .i64 0])) ((.st (.cons 0 2 true (.st (.cons 0 1 false .int (.cons 1 1 false .int .nil))) (.cons 2 2 true (.st (.cons 0 1 false .int (.cons 1 1 false .int .nil))) (.cons 4 2 true (.st (.cons 0 1 false .int (.cons 1 1 false .int .nil))) (.cons 6 2 true (.st (.cons 0 1 false .int (.cons 1 1 false .int .nil))) (.cons 8 2 true (.st (.cons 0 1 false .int (.cons 1 1 false .int .nil))) (.cons 10 2 true (.st (.cons 0 1 false .int (.cons 1 1 false .int .nil))) (.cons 12 2 true (.st (.cons 0 1 false .int (.cons 1 1 false .int .nil))) (.cons 14 2 true (.st (.cons 0 1 false .int (.cons 1 1 false .int .nil))) .nil))))))))))
 else
 bif Nat.ble t 221 then
 bif Nat.ble t 220 then
 tI (.sl 9 1 false 16 (some (.str []))) 1 false (some (.list .nil 0 [])) (.no)
 else
 none
 else
 bif Nat.ble t 222 then
 none
 else
 bif Nat.ble t 223 then
 none
 else
 tI (.sc) 1 false (some (.tup [.str [],.str [],.bool false])) (.no)
 else
 bif Nat.ble t 234 then
 bif Nat.ble t 229 then
 none
 else
 bif Nat.ble t 231 then
 bif Nat.ble t 230 then
 none
 else
 tI (.sc) 1 false (some (.nilf)) (.no)
 else
 bif Nat.ble t 232 then
 none
 else
 bif Nat.ble t 233 then
 none
 else
 tI (.int .u64) 1 false (some (.int .u64 0)) (.int)
 else
 bif Nat.ble t 239 then
 bif Nat.ble t 236 then
 none
 else
 bif Nat.ble t 237 then
 none
 else
 bif Nat.ble t 238 then
 tI (.sc) 1 false (some (.nilf)) (.no)
 else
 none
 else
 bif Nat.ble t 242 then
 bif Nat.ble t 240 then
 tI (.sc) 1 false (some (.nilf)) (.no)
 else
 none
 else
 none
 else
 bif Nat.ble t 286 then
 bif Nat.ble t 265 then
 bif Nat.ble t 255 then
 bif Nat.ble t 250 then
 bif Nat.ble t 247 then
 bif Nat.ble t 246 then
 none
 else
 tI (.sc) 1 false (some (.nilp)) (.no)
 else
 bif Nat.ble t 248 then
 tI (.sl 5 1 false 1 (some (.int .u8 0))) 1 false (some (.list .nil 0 [])) (.no)
 else
 bif Nat.ble t 249 then
 none
 else
 tI (.st [(0,1,false),(1,1,false)]) 2 true (some (.agg [.nilp,.list .nil 0 []])) ((.st (.cons 0 1 false .no (.cons 1 1 false .no .nil))))
 else
 bif Nat.ble t 252 then
 none
 else
 bif Nat.ble t 253 then
 tI (.sc) 1 false (some (.nili)) (.no)
 else
 bif Nat.ble t 254 then
 tI (.sc) 1 false (some (.tup [.int .i64 0,.nili])) (.no)
 else
 tI (.sc) 1 false (some (.nilf)) (.no)
 else
 bif Nat.ble t 260 then
 bif Nat.ble t 257 then
 bif Nat.ble t 256 then
 tI (.sc) 1 false (some (.nilf)) (.no)
 else
 none
 else
 none
 else
 none
 else
 bif Nat.ble t 275 then
 bif Nat.ble t 270 then
 bif Nat.ble t 267 then
 bif Nat.ble t 266 then
 none
 else
 tI (.int .u32) 1 false (some (.int .u32 0)) (.int)
 else
 bif Nat.ble t 268 then
 none
 else
 bif Nat.ble t 269 then
 tI (.int .u64) 1 false (some (.int .u64 0)) (.int)
 else
 none
 else
 bif Nat.ble t 272 then
 bif Nat.ble t 271 then
 tI (.sc) 1 false (some (.nilp)) (.no)
 else
 none
 else
 none
 else
 bif Nat.ble t 280 then
 none
 else
 bif Nat.ble t 283 then
 bif Nat.ble t 281 then
 tI (.sc) 1 false (some (.nilf)) (.no)
 else
 bif Nat.ble t 282 then
 none
 else
 tI (.arr 24 1 false) 24 true (some (.agg [.int .u8 0,.int .u8 0,.int .u8 0,.int .u8 0,.int .u8 0,.int .u8 0,.int .u8 0,.int .u8 0,.int .u8 0,.int .u8 0,.int .u8 0,.int .u8 0,.int .u8 0,.int .u8 0,.int .u8 0,.int .u8 0,.int .u8 0,.int .u8 0,.int .u8 0,.int .u8 0,.int .u8 0,.int .u8 0,.int .u8 0,.int .u8 0])) ((.st (.cons 0 1 false .int (.cons 1 1 false .int (.cons 2 1 false .int (.cons 3 1 false .int (.cons 4 1 false .int (.cons 5 1 false .int (.cons 6 1 false .int (.cons 7 1 false .int (.cons 8 1 false .int (.cons 9 1 false .int (.cons 10 1 false .int (.cons 11 1 false .int (.cons 12 1 false .int (.cons 13 1 false .int (.cons 14 1 false .int (.cons 15 1 false .int (.cons 16 1 false .int (.cons 17 1 false .int (.cons 18 1 false .int (.cons 19 1 false .int (.cons 20 1 false .int (.cons 21 1 false .int (.cons 22 1 false .int (.cons 23 1 false .int .nil))))))))))))))))))))))))))
 else
 bif Nat.ble t 284 then
 none
 else
 bif Nat.ble t 285 then
 tI (.sc) 1 false (some (.tup [.list .nil 0 [],.str []])) (.no)
 else
 none
 else
 bif Nat.ble t 306 then
 bif Nat.ble t 296 then
 bif Nat.ble t 291 then
 bif Nat.ble t 288 then
 bif Nat.ble t 287 then
 tI (.sc) 1 false (some (.nilp)) (.no)
 else
 none
 else
 bif Nat.ble t 289 then
 none
 else
 bif Nat.ble t 290 then
 tI (.sc) 1 false (some (.tup [.int .i32 0,.int .i64 0])) (.no)
 else
 none
 else
 none
 else
 bif Nat.ble t 301 then
 bif Nat.ble t 298 then
 bif Nat.ble t 297 then
 tI (.arr 20 1 false) 20 true (some (.agg [.int .u64 0,.int .u64 0,.int .u64 0,.int .u64 0,.int .u64 0,.int .u64 0,.int .u64 0,.int .u64 0,.int .u64 0,.int .u64 0,.int .u64 0,.int .u64 0,.int .u64 0,.int .u64 0,.int .u64 0,.int .u64 0,.int .u64 0,.int .u64 0,.int .u64 0,.int .u64 0])) ((.st (.cons 0 1 false .int (.cons 1 1 false .int (.cons 2 1 false .int (.cons 3 1 false .int (.cons 4 1 false .int (.cons 5 1 false .int (.cons 6 1 false .int (.cons 7 1 false .int (.cons 8 1 false .int (.cons 9 1 false .int (.cons 10 1 false .int (.cons 11 1 false .int (.cons 12 1 false .int (.cons 13 1 false .int (.cons 14 1 false .int (.cons 15 1 false .int (.cons 16 1 false .int (.cons 17 1 false .int (.cons 18 1 false .int (.cons 19 1 false .int .nil))))))))))))))))))))))
 else
 tI (.arr 65 1 false) 65 true (some (.agg [.int .u8 0,.int .u8 0,.int .u8 0,.int .u8 0,.int .u8 0,.int .u8 0,.int .u8 0,.int .u8 0,.int .u8 0,.int .u8 0,.int .u8 0,.int .u8 0,.int .u8 0,.int .u8 0,.int .u8 0,.int .u8 0,.int .u8 0,.int .u8 0,.int .u8 0,.int .u8 0,.int .u8 0,.int .u8 0,.int .u8 0,.int .u8 0,.int .u8 0,.int .u8 0,.int .u8 0,.int .u8 0,.int .u8 0,.int .u8 0,.int .u8 0,.int .u8 0,.int .u8 0,.int .u8 0,.int .u8 0,.int .u8 0,.int .u8 0,.int .u8 0,.int .u8 0,.int .u8 0,.int .u8 0,.int .u8 0,.int .u8 0,.int .u8 0,.int .u8 0,.int .u8 0,.int .u8 0,.int .u8 0,.int .u8 0,.int .u8 0,.int .u8 0,.int .u8 0,.int .u8 0,.int .u8 0,.int .u8 0,.int .u8 0,.int .u8 0,.int .u8 0,.int .u8 0,.int .u8 0,.int .u8 0,.int .u8 0,.int .u8 0,.int .u8 0,.int .u8 0])) ((.st (.cons 0 1 false .int (.cons 1 1 false .int (.cons 2 1 false .int (.cons 3 1 false .int (.cons 4 1 false .int (.cons 5 1 false .int (.cons 6 1 false .int (.cons 7 1 false .int (.cons 8 1 false .int (.cons 9 1 false .int (.cons 10 1 false .int (.cons 11 1 false .int (.cons 12 1 false .int (.cons 13 1 false .int (.cons 14 1 false .int (.cons 15 1 false .int (.cons 16 1 false .int (.cons 17 1 false .int (.cons 18 1 false .int (.cons 19 1 false .int (.cons 20 1 false .int (.cons 21 1 false .int (.cons 22 1 false .int (.cons 23 1 false .int (.cons 24 1 false .int (.cons 25 1 false .int (.cons 26 1 false .int (.cons 27 1 false .int (.cons 28 1 false .int (.cons 29 1 false .int (.cons 30 1 false .int (.cons 31 1 false .int (.cons 32 1 false .int (.cons 33 1 false .int (.cons 34 1 false .int (.cons 35 1 false .int (.cons 36 1 false .int (.cons 37 1 false .int (.cons 38 1 false .int (.cons 39 1 false .int (.cons 40 1 false .int (.cons 41 1 false .int (.cons 42 1 false .int (.cons 43 1 false .int (.cons 44 1 false .int (.cons 45 1 false .int (.cons 46 1 false .int (.cons 47 1 false .int (.cons 48 1 false .int (.cons 49 1 false .int (.cons 50 1 false .int (.cons 51 1 false .int (.cons 52 1 false .int (.cons 53 1 false .int (.cons 54 1 false .int (.cons 55 1 false .int (.cons 56 1 false .int (.cons 57 1 false .int (.cons 58 1 false .int (.cons 59 1 false .int (.cons 60 1 false .int (.cons 61 1 false .int (.cons 62 1 false .int (.cons 63 1 false .int (.cons 64 1 false .int .nil)))))))))))))))))))))))))))))))))))))))))))))))))))))))))))))))))))
 else
 bif Nat.ble t 299 then
 tI (.sc) 1 false (some (.tup [.int .u32 0,.int .u32 0])) (.no)
 else
 none
 else
 bif Nat.ble t 303 then
 none
 else
 bif Nat.ble t 304 then
 none
 else
 bif Nat.ble t 305 then
 none
 else
 tI (.arr 256 1 false) 256 true (some (.agg [.int .u8 0,.int .u8 0,.int .u8 0,.int .u8 0,.int .u8 0,.int .u8 0,.int .u8 0,.int .u8 0,.int .u8 0,.int .u8 0,.int .u8 0,.int .u8 0,.int .u8 0,.int .u8 0,.int .u8 0,.int .u8 0,.int .u8 0,.int .u8 0,.int .u8 0,.int .u8 0,.int .u8 0,.int .u8 0,.int .u8 0,.int .u8 0,.int .u8 0,.int .u8 0,.int .u8 0,.int .u8 0,.int .u8 0,.int .u8 0,.int .u8 0,.int .u8 0,.int .u8 0,.int .u8 0,.int .u8 0,.int .u8 0,.int .u8 0,.int .u8 0,.int .u8 0,.int .u8 0,.int .u8 0,.int .u8 0,.int .u8 0,.int .u8 0,.int .u8 0,.int .u8 0,.int .u8 0,.int .u8 0,.int .u8 0,.int .u8 0,.int .u8 0,.int .u8 0,.int .u8 0,.int .u8 0,.int .u8 0,.int .u8 0,.int .u8 0,.int .u8 0,.int .u8 0,.int .u8 0,.int .u8 0,.int .u8 0,.int .u8 0,.int .u8 0,.int .u8 0,.int .u8 0,.int .u8 0,.int .u8 0,.int .u8 0,.int .u8 0,.int .u8 0,.int .u8 0,.int .u8 0,.int .u8 0,.int .u8 0,.int .u8 0,.int .u8 0,.int .u8 0,.int .u8 0,.int .u8 0,.int .u8 0,.int .u8 0,.int .u8 0,.int .u8 0,.int .u8 0,.int .u8 0,.int .u8 0,.int .u8 0,.int .u8 0,.int .u8 0,.int .u8 0,.int .u8 0,.int .u8 0,.int .u8 0,.int .u8 0,.int .u8 0,.int .u8 0,.int .u8 0,.int .u8 0,.int .u8 0,.int .u8 0,.int .u8 0,.int .u8 0,.int .u8 0,.int .u8 0,.int .u8 0,.int .u8 0,.int .u8 0,.int .u8 0,.int .u8 0,.int .u8 0,.int .u8 0,.int .u8 0,.int .u8 0,.int .u8 0,.int .u8 0,.int .u8 0,.int .u8 0,.int .u8 0,.int .u8 0,.int .u8 0,.int .u8 0,.int .u8 0,.int .u8 0,.int .u8 0,.int .u8 0,.int .u8 0,.int .u8 0,.int .u8 0,.int .u8 0,.int .u8 0,.int .u8 0,.int .u8 0,.int .u8 0,.int .u8 0,.int .u8 0,.int .u8 0,.int .u8 0,.int .u8 0,.int .u8 0,.int .u8 0,.int .u8 0,.int .u8 0,.int .u8 0,.int .u8 0,.int .u8 0,.int .u8 0,.int .u8 0,.int .u8 0,.int .u8 0,.int .u8 0,.int .u8 0,.int .u8 0,.int .u8 0,.int .u8 0,.int .u8 0,.int .u8 0,.int .u8 0,.int .u8 0,.int .u8 0,.int .u8 0,.int .u8 0,.int .u8 0,.int .u8 0,.int .u8 0,.int .u8 0,.int .u8 0,.int .u8 0,.int .u8 0,.int .u8 0,.int .u8 0,.int .u8 0,.int .u8 0,.int .u8 0,.int .u8 0,.int .u8 0,.int .u8 0,.int .u8 0,.int .u8 0,.int .u8 0,.int .u8 0,.int .u8 0,.int .u8 0,.int .u8 0,.int .u8 0,.int .u8 0,.int .u8 0,.int .u8 0,.int .u8 0,.int .u8 0,.int .u8 0,.int .u8 0,.int .u8 0,.int .u8 0,.int .u8 0,.int .u8 0,.int .u8 0,.int .u8 0,.int .u8 0,.int .u8 0,.int .u8 0,.int .u8 0,.int .u8 0,.int .u8 0,.int .u8 0,.int .u8 0,.int .u8 0,.int .u8 0,.int .u8 0,.int .u8 0,.int .u8 0,.int .u8 0,.int .u8 0,.int .u8 0,.int .u8 0,.int .u8 0,.int .u8 0,.int .u8 0,.int .u8 0,.int .u8 0,.int .u8 0,.int .u8 0,.int .u8 0,.int .u8 0,.int .u8 0,.int .u8 0,.int .u8 0,.int .u8 0,.int .u8 0,.int .u8 0,.int .u8 0,.int .u8 0,.int .u8 0,.int .u8 0,.int .u8 0,.int .u8 0,.int .u8 0,.int .u8 0,.int .u8 0,.int .u8 0,.int .u8 0,.int .u8 0,.int .u8 0,.int .u8 0,.int .u8 0,.int .u8 0,.int .u8 0,.int .u8 0,.int .u8 0,.int .u8 0,.int .u8 0,.int .u8 0,.int .u8 0,.int .u8 0,.int .u8 0,.int .u8 0])) ((.st (.cons 0 1 false .int (.cons 1 1 false .int (.cons 2 1 false .int (.cons 3 1 false .int (.cons 4 1 false .int (.cons 5 1 false .int (.cons 6 1 false .int (.cons 7 1 false .int (.cons 8 1 false .int (.cons 9 1 false .int (.cons 10 1 false .int (.cons 11 1 false .int (.cons 12 1 false .int (.cons 13 1 false .int (.cons 14 1 false .int (.cons 15 1 false .int (.cons 16 1 false .int (.cons 17 1 false .int (.cons 18 1 false .int (.cons 19 1 false .int (.cons 20 1 false .int (.cons 21 1 false .int (.cons 22 1 false .int (.cons 23 1 false .int (.cons 24 1 false .int (.cons 25 1 false .int (.cons 26 1 false .int (.cons 27 1 false .int (.cons 28 1 false .int (.cons 29 1 false .int (.cons 30 1 false .int (.cons 31 1 false .int (.cons 32 1 false .int (.cons 33 1 false .int (.cons 34 1 false .int (.cons 35 1 false .int (.cons 36 1 false .int (.cons 37 1 false .int (.cons 38 1 false .int (.cons 39 1 false .int (.cons 40 1 false .int (.cons 41 1 false .int (.cons 42 1 false .int (.cons 43 1 false .int (.cons 44 1 false .int (.cons 45 1 false .int (.cons 46 1 false .int (.cons 47 1 false .int (.cons 48 1 false .int (.cons 49 1 false .int (.cons 50 1 false .int (.cons 51 1 false .int (.cons 52 1 false .int (.cons 53 1 false .int (.cons 54 1 false .int (.cons 55 1 false .int (.cons 56 1 false .int (.cons 57 1 false .int (.cons 58 1 false .int (.cons 59 1 false .int (.cons 60 1 false .int (.cons 61 1 false .int (.cons 62 1 false .int (.cons 63 1 false .int (.cons 64 1 false .int (.cons 65 1 false .int (.cons 66 1 false .int (.cons 67 1 false .int (.cons 68 1 false .int (.cons 69 1 false .int (.cons 70 1 false .int (.cons 71 1 false .int (.cons 72 1 false .int (.cons 73 1 false .int (.cons 74 1 false .int (.cons 75 1 false .int (.cons 76 1 false .int (.cons 77 1 false .int (.cons 78 1 false .int (.cons 79 1 false .int (.cons 80 1 false .int (.cons 81 1 false .int (.cons 82 1 false .int (.cons 83 1 false .int (.cons 84 1 false .int (.cons 85 1 false .int (.cons 86 1 false .int (.cons 87 1 false .int (.cons 88 1 false .int (.cons 89 1 false .int (.cons 90 1 false .int (.cons 91 1 false .int (.cons 92 1 false .int (.cons 93 1 false .int (.cons 94 1 false .int (.cons 95 1 false .int (.cons 96 1 false .int (.cons 97 1 false .int (.cons 98 1 false .int (.cons 99 1 false .int (.cons 100 1 false .int (.cons 101 1 false .int (.cons 102 1 false .int (.cons 103 1 false .int (.cons 104 1 false .int (.cons 105 1 false .int (.cons 106 1 false .int (.cons 107 1 false .int (.cons 108 1 false .int (.cons 109 1 false .int (.cons 110 1 false .int (.cons 111 1 false .int (.cons 112 1 false .int (.cons 113 1 false .int (.cons 114 1 false .int (.cons 115 1 false .int (.cons 116 1 false .int (.cons 117 1 false .int (.cons 118 1 false .int (.cons 119 1 false .int (.cons 120 1 false .int (.cons 121 1 false .int (.cons 122 1 false .int (.cons 123 1 false .int (.cons 124 1 false .int (.cons 125 1 false .int (.cons 126 1 false .int (.cons 127 1 false .int (.cons 128 1 false .int (.cons 129 1 false .int (.cons 130 1 false .int (.cons 131 1 false .int (.cons 132 1 false .int (.cons 133 1 false .int (.cons 134 1 false .int (.cons 135 1 false .int (.cons 136 1 false .int (.cons 137 1 false .int (.cons 138 1 false .int (.cons 139 1 false .int (.cons 140 1 false .int (.cons 141 1 false .int (.cons 142 1 false .int (.cons 143 1 false .int (.cons 144 1 false .int (.cons 145 1 false .int (.cons 146 1 false .int (.cons 147 1 false .int (.cons 148 1 false .int (.cons 149 1 false .int (.cons 150 1 false .int (.cons 151 1 false .int (.cons 152 1 false .int (.cons 153 1 false .int (.cons 154 1 false .int (.cons 155 1 false .int (.cons 156 1 false .int (.cons 157 1 false .int (.cons 158 1 false .int (.cons 159 1 false .int (.cons 160 1 false .int (.cons 161 1 false .int (.cons 162 1 false .int (.cons 163 1 false .int (.cons 164 1 false .int (.cons 165 1 false .int (.cons 166 1 false .int (.cons 167 1 false .int (.cons 168 1 false .int (.cons 169 1 false .int (.cons 170 1 false .int (.cons 171 1 false .int (.cons 172 1 false .int (.cons 173 1 false .int (.cons 174 1 false .int (.cons 175 1 false .int (.cons 176 1 false .int (.cons 177 1 false .int (.cons 178 1 false .int (.cons 179 1 false .int (.cons 180 1 false .int (.cons 181 1 false .int (.cons 182 1 false .int (.cons 183 1 false .int (.cons 184 1 false .int (.cons 185 1 false .int (.cons 186 1 false .int (.cons 187 1 false .int (.cons 188 1 false .int (.cons 189 1 false .int (.cons 190 1 false .int (.cons 191 1 false .int (.cons 192 1 false .int (.cons 193 1 false .int (.cons 194 1 false .int (.cons 195 1 false .int (.cons 196 1 false .int (.cons 197 1 false .int (.cons 198 1 false .int (.cons 199 1 false .int (.cons 200 1 false .int (.cons 201 1 false .int (.cons 202 1 false .int (.cons 203 1 false .int (.cons 204 1 false .int (.cons 205 1 false .int (.cons 206 1 false .int (.cons 207 1 false .int (.cons 208 1 false .int (.cons 209 1 false .int (.cons 210 1 false .int (.cons 211 1 false .int (.cons 212 1 false .int (.cons 213 1 false .int (.cons 214 1 false .int (.cons 215 1 false .int (.cons 216 1 false .int (.cons 217 1 false .int (.cons 218 1 false .int (.cons 219 1 false .int (.cons 220 1 false .int (.cons 221 1 false .int (.cons 222 1 false .int (.cons 223 1 false .int (.cons 224 1 false .int (.cons 225 1 false .int (.cons 226 1 false .int (.cons 227 1 false .int (.cons 228 1 false .int (.cons 229 1 false .int (.cons 230 1 false .int (.cons 231 1 false .int (.cons 232 1 false .int (.cons 233 1 false .int (.cons 234 1 false .int (.cons 235 1 false .int (.cons 236 1 false .int (.cons 237 1 false .int (.cons 238 1 false .int (.cons 239 1 false .int (.cons 240 1 false .int (.cons 241 1 false .int (.cons 242 1 false .int (.cons 243 1 false .int (.cons 244 1 false .int (.cons 245 1 false .int (.cons 246 1 false .int (.cons 247 1 false .int (.cons 248 1 false .int (.cons 249 1 false .int (.cons 250 1 false .int (.cons 251 1 false .int (.cons 252 1 false .int (.cons 253 1 false .int (.cons 254 1 false .int (.cons 255 1 false .int .nil))))))))))))))))))))))))))))))))))))))))))))))))))))))))))))))))))))))))))))))))))))))))))))))))))))))))))))))))))))))))))))))))))))))))))))))))))))))))))))))))))))))))))))))))))))))))))))))))))))))))))))))))))))))))))))))))))))))))))))))))))))))))))))))))))
 else
 bif Nat.ble t 316 then
 bif Nat.ble t 311 then
 bif Nat.ble t 308 then
 bif Nat.ble t 307 then
 none
 else
 tI (.st [(0,1,false),(1,1,false)]) 2 true (some (.agg [.int .u8 0,.int .u8 0])) ((.st (.cons 0 1 false .int (.cons 1 1 false .int .nil))))
 else
 bif Nat.ble t 309 then
 tI (.arr 16 2 true) 32 true (some (.agg [.int .u8 0,.int .u8 0,.int .u8 0,.int .u8 0,.int .u8 0,.int .u8 0,.int .u8 0,.int .u8 0,.int .u8 0,.int .u8 0,.int .u8 0,.int .u8 0,.int .u8 0,.int .u8 0,.int .u8 0,.int .u8 0,.int .u8 0,.int .u8 0,.int .u8 0,.int .u8 0,.int .u8 0,.int .u8 0,.int .u8 0,.int .u8 0,.int .u8 0,.int .u8 0,.int .u8 0,.int .u8 0,.int .u8 0,.int .u8 0,.int .u8 0,.int .u8 0])) ((.st (.cons 0 2 true (.st (.cons 0 1 false .int (.cons 1 1 false .int .nil))) (.cons 2 2 true (.st (.cons 0 1 false .int (.cons 1 1 false .int .nil))) (.cons 4 2 true (.st (.cons 0 1 false .int (.cons 1 1 false .int .nil))) (.cons 6 2 true (.st (.cons 0 1 false .int (.cons 1 1 false .int .nil))) (.cons 8 2 true (.st (.cons 0 1 false .int (.cons 1 1 false .int .nil))) (.cons 10 2 true (.st (.cons 0 1 false .int (.cons 1 1 false .int .nil))) (.cons 12 2 true (.st (.cons 0 1 false .int (.cons 1 1 false .int .nil))) (.cons 14 2 true (.st (.cons 0 1 false .int (.cons 1 1 false .int .nil))) (.cons 16 2 true (.st (.cons 0 1 false .int (.cons 1 1 false .int .nil))) (.cons 18 2 true (.st (.cons 0 1 false .int (.cons 1 1 false .int .nil))) (.cons 20 2 true (.st (.cons 0 1 false .int (.cons 1 1 false .int .nil))) (.cons 22 2 true (.st (.cons 0 1 false .int (.cons 1 1 false .int .nil))) (.cons 24 2 true (.st (.cons 0 1 false .int (.cons 1 1 false .int .nil))) (.cons 26 2 true (.st (.cons 0 1 false .int (.cons 1 1 false .int .nil))) (.cons 28 2 true (.st (.cons 0 1 false .int (.cons 1 1 false .int .nil))) (.cons 30 2 true (.st (.cons 0 1 false .int (.cons 1 1 false .int .nil))) .nil))))))))))))))))))
 else
 none
 else
 bif Nat.ble t 313 then
 bif Nat.ble t 312 then
 tI (.arr 32 1 false) 32 true (some (.agg [.int .u8 0,.int .u8 0,.int .u8 0,.int .u8 0,.int .u8 0,.int .u8 0,.int .u8 0,.int .u8 0,.int .u8 0,.int .u8 0,.int .u8 0,.int .u8 0,.int .u8 0,.int .u8 0,.int .u8 0,.int .u8 0,.int .u8 0,.int .u8 0,.int .u8 0,.int .u8 0,.int .u8 0,.int .u8 0,.int .u8 0,.int .u8 0,.int .u8 0,.int .u8 0,.int .u8 0,.int .u8 0,.int .u8 0,.int .u8 0,.int .u8 0,.int .u8 0])) ((.st (.cons 0 1 false .int (.cons 1 1 false .int (.cons 2 1 false .int (.cons 3 1 false .int (.cons 4 1 false .int (.cons 5 1 false .int (.cons 6 1 false .int (.cons 7 1 false .int (.cons 8 1 false .int (.cons 9 1 false .int (.cons 10 1 false .int (.cons 11 1 false .int (.cons 12 1 false .int (.cons 13 1 false .int (.cons 14 1 false .int (.cons 15 1 false .int (.cons 16 1 false .int (.cons 17 1 false .int (.cons 18 1 false .int (.cons 19 1 false .int (.cons 20 1 false .int (.cons 21 1 false .int (.cons 22 1 false .int (.cons 23 1 false .int (.cons 24 1 false .int (.cons 25 1 false .int (.cons 26 1 false .int (.cons 27 1 false .int (.cons 28 1 false .int (.cons 29 1 false .int (.cons 30 1 false .int (.cons 31 1 false .int .nil))))))))))))))))))))))))))))))))))
 else
 tI (.arr 64 1 false) 64 true (some (.agg [.int .u8 0,.int .u8 0,.int .u8 0,.int .u8 0,.int .u8 0,.int .u8 0,.int .u8 0,.int .u8 0,.int .u8 0,.int .u8 0,.int .u8 0,.int .u8 0,.int .u8 0,.int .u8 0,.int .u8 0,.int .u8 0,.int .u8 0,.int .u8 0,.int .u8 0,.int .u8 0,.int .u8 0,.int .u8 0,.int .u8 0,.int .u8 0,.int .u8 0,.int .u8 0,.int .u8 0,.int .u8 0,.int .u8 0,.int .u8 0,.int .u8 0,.int .u8 0,.int .u8 0,.int .u8 0,.int .u8 0,.int .u8 0,.int .u8 0,.int .u8 0,.int .u8 0,.int .u8 0,.int .u8 0,.int .u8 0,.int .u8 0,.int .u8 0,.int .u8 0,.int .u8 0,.int .u8 0,.int .u8 0,.int .u8 0,.int .u8 0,.int .u8 0,.int .u8 0,.int .u8 0,.int .u8 0,.int .u8 0,.int .u8 0,.int .u8 0,.int .u8 0,.int .u8 0,.int .u8 0,.int .u8 0,.int .u8 0,.int .u8 0,.int .u8 0])) ((.st (.cons 0 1 false .int (.cons 1 1 false .int (.cons 2 1 false .int (.cons 3 1 false .int (.cons 4 1 false .int (.cons 5 1 false .int (.cons 6 1 false .int (.cons 7 1 false .int (.cons 8 1 false .int (.cons 9 1 false .int (.cons 10 1 false .int (.cons 11 1 false .int (.cons 12 1 false .int (.cons 13 1 false .int (.cons 14 1 false .int (.cons 15 1 false .int (.cons 16 1 false .int (.cons 17 1 false .int (.cons 18 1 false .int (.cons 19 1 false .int (.cons 20 1 false .int (.cons 21 1 false .int (.cons 22 1 false .int (.cons 23 1 false .int (.cons 24 1 false .int (.cons 25 1 false .int (.cons 26 1 false .int (.cons 27 1 false .int (.cons 28 1 false .int (.cons 29 1 false .int (.cons 30 1 false .int (.cons 31 1 false .int (.cons 32 1 false .int (.cons 33 1 false .int (.cons 34 1 false .int (.cons 35 1 false .int (.cons 36 1 false .int (.cons 37 1 false .int (.cons 38 1 false .int (.cons 39 1 false .int (.cons 40 1 false .int (.cons 41 1 false .int (.cons 42 1 false .int (.cons 43 1 false .int (.cons 44 1 false .int (.cons 45 1 false .int (.cons 46 1 false .int (.cons 47 1 false .int (.cons 48 1 false .int (.cons 49 1 false .int (.cons 50 1 false .int (.cons 51 1 false .int (.cons 52 1 false .int (.cons 53 1 false .int (.cons 54 1 false .int (.cons 55 1 false .int (.cons 56 1 false .int (.cons 57 1 false .int (.cons 58 1 false .int (.cons 59 1 false .int (.cons 60 1 false .int (.cons 61 1 false .int (.cons 62 1 false .int (.cons 63 1 false .int .nil))))))))))))))))))))))))))))))))))))))))))))))))))))))))))))))))))
 else
 none
 else
 none
def tiF (t:Nat):Option TI:=bif Nat.ble 328 t then none else tiT t
theorem tiCheck:(List.range 328).map (fun t=>match tiF t with | none=>none | some _=>tiOf Tryz.prog t)=(List.range 328).map tiF:=by kernel_rfl
theorem tiOk (t:TypeId) (i:TI) (h:tiF t=some i):tiOf Tryz.prog t=some i:=by
  by_cases ht:t < 328
  · have h1:=congrArg (fun l=>l[t]?) tiCheck
    simp only [List.getElem?_map,List.getElem?_range ht,Option.map_some,Option.some.injEq] at h1
    rw [h] at h1
    exact h1
  · have hb:Nat.ble 328 t=true:=Nat.ble_eq_true_of_le (Nat.not_lt.1 ht)
    rw [tiF,hb] at h
    cases h
def ghoFL:List ((Nat × Nat) × List (Option Nat × Nat × Nat)):=[((27,10),[(none,2,46)]),((27,37),[(none,131073,3)]),((47,13),[(some 0,1,53),(none,131075,94)]),((48,13),[(some 0,1,63),(none,131075,89)]),((109,3),[(none,3,94)]),((122,3),[(none,1,3)]),((196,3),[(none,2,87)])]
def ghoFG:List ((Nat × Nat) × List (Option Nat × Nat × Nat))→Nat→Nat→List (Option Nat × Nat × Nat)
  | [],_,_=>[]
  | ((a,b),x) :: l,f,t=>bif Nat.beq a f&&Nat.beq b t then x else ghoFG l f t
def ghoF (f t:Nat):List (Option Nat × Nat × Nat):=ghoFG ghoFL f t
def glbF (f t:Nat):Bool:=
  (Nat.beq f 1000000&&Nat.beq t 1000000) ||
  (Nat.beq f 26&&(Nat.beq t 3 || Nat.beq t 4 || Nat.beq t 196627)) ||
  (Nat.beq f 27&&(Nat.beq t 12)) ||
  (Nat.beq f 33&&(Nat.beq t 7 || Nat.beq t 131072 || Nat.beq t 131073)) ||
  (Nat.beq f 42&&(Nat.beq t 2 || Nat.beq t 6 || Nat.beq t 7)) ||
  (Nat.beq f 47&&(Nat.beq t 131072 || Nat.beq t 131074 || Nat.beq t 524376)) ||
  (Nat.beq f 48&&(Nat.beq t 131072 || Nat.beq t 131074 || Nat.beq t 196633 || Nat.beq t 196689 || Nat.beq t 524396)) ||
  (Nat.beq f 52&&(Nat.beq t 3)) ||
  (Nat.beq f 54&&(Nat.beq t 131072 || Nat.beq t 196624)) ||
  (Nat.beq f 58&&(Nat.beq t 131072 || Nat.beq t 196616)) ||
  (Nat.beq f 59&&(Nat.beq t 196621)) ||
  (Nat.beq f 62&&(Nat.beq t 65554)) ||
  (Nat.beq f 69&&(Nat.beq t 4 || Nat.beq t 5)) ||
  (Nat.beq f 76&&(Nat.beq t 131072 || Nat.beq t 196624)) ||
  (Nat.beq f 79&&(Nat.beq t 4 || Nat.beq t 5 || Nat.beq t 6 || Nat.beq t 7 || Nat.beq t 8 || Nat.beq t 9 || Nat.beq t 11)) ||
  (Nat.beq f 88&&(Nat.beq t 2 || Nat.beq t 3)) ||
  (Nat.beq f 103&&(Nat.beq t 2 || Nat.beq t 3 || Nat.beq t 327682 || Nat.beq t 327683)) ||
  (Nat.beq f 105&&(Nat.beq t 262146 || Nat.beq t 393218)) ||
  (Nat.beq f 109&&(Nat.beq t 4)) ||
  (Nat.beq f 135&&(Nat.beq t 131072 || Nat.beq t 196625)) ||
  (Nat.beq f 150&&(Nat.beq t 8)) ||
  (Nat.beq f 157&&(Nat.beq t 2)) ||
  (Nat.beq f 187&&(Nat.beq t 9)) ||
  (Nat.beq f 188&&(Nat.beq t 11)) ||
  (Nat.beq f 196&&(Nat.beq t 6 || Nat.beq t 262160)) ||
  (Nat.beq f 199&&(Nat.beq t 5)) ||
  (Nat.beq f 213&&(Nat.beq t 262148 || Nat.beq t 393220)) ||
  (Nat.beq f 218&&(Nat.beq t 12)) ||
  (Nat.beq f 239&&(Nat.beq t 9)) ||
  (Nat.beq f 240&&(Nat.beq t 11))
def globL:Boxes:=[(0,[.int .i64 1,.int .i64 1,.int .i64 1,.int .i64 (-1),.int .i64 (-1),.int .i64 1,.int .i64 (-1),.int .i64 (-1),.int .i64 2,.int .i64 0,.int .i64 (-2),.int .i64 0,.int .i64 0,.int .i64 2,.int .i64 0,.int .i64 (-2)])]
theorem globLOk:globL.all (fun p=>closedL p.2)=true:=by kernel_rfl
def globF (g:Nat):Option (List AV):=lkB globL g
noncomputable def env:Env:={ P:=Tryz.prog,ti:=tiF,glob:=globF,glb:=glbF,elp:=fun _=>none,gho:=ghoF,tiOk:=tiOk,mixed:=by kernel_rfl,globOk:=fun _ _ h=>lkB_all globLOk h }
def dt15x23:DrawPlan:=⟨[[],[],[0,1],[0,1,2],[],[],[5],[5,6],[],[5,6,7,8],[4,5,6,7,8,9],[4,5,6,7,8,9,10],[0,1,2,3,4,5,6,7,8,9,10,11]],
  [[],[],[0,1],[2],[],[],[5],[6],[],[7,8],[4,9],[10],[3,11]],
  (.take 0 [] (.take 1 [] (.take 2 [] (.take 3 [] (.take 4 [] (.take 5 [] (.take 6 [] (.take 7 [] (.take 8 [] (.take 9 [] (.take 10 [] (.take 11 [] (.take 12 [] .done)))))))))))))⟩
def dt18x5:DrawPlan:=⟨[[],[],[0,1],[],[],[3,4],[0,1,2,3,4,5],[0,1,2,3,4,5,6],[0,1,2,3,4,5,6,7]],
  [[],[],[0,1],[],[],[3,4],[2,5],[],[]],
  (.take 0 [] (.take 1 [] (.take 2 [] (.take 3 [] (.take 4 [] (.take 5 [] (.take 6 [] (.br 7 [] [] (.take 8 [] .done) .stop))))))))⟩
def dt19x9:DrawPlan:=⟨[[],[],[],[],[3],[2,3,4],[2,3,4,5],[],[0,1,2,3,4,5,6,7],[0,1,2,3,4,5,6,7,8],[0,1,2,3,4,5,6,7,8,9]],
  [[],[],[],[],[3],[2,4],[5],[],[],[8],[9]],
  (.take 0 [] (.take 1 [] (.take 2 [] (.take 3 [] (.take 4 [] (.take 5 [] (.take 6 [] (.take 7 [] (.br 8 [] [] (.take 9 [] (.take 10 [] .done)) .stop)))))))))⟩
def dt19x10:DrawPlan:=⟨[[],[0],[],[2],[0,1,2,3],[],[5],[],[7],[0,1,2,3,4,5,6,7,8],[],[0,1,2,3,4,5,6,7,8,9,10],[0,1,2,3,4,5,6,7,8,9,10,11],[0,1,2,3,4,5,6,7,8,9,10,11,12],[0,1,2,3,4,5,6,7,8,9,10,11,12,13]],
  [[],[0],[],[2],[],[],[5],[],[7],[],[],[],[4,9,11],[],[13]],
  (.take 0 [] (.take 1 [] (.take 2 [] (.take 3 [] (.take 5 [] (.take 6 [6] (.take 7 [6] (.take 8 [6] (.take 10 [6] (.br 4 [6] [] (.br 9 [] [] (.br 11 [] [] (.take 12 [] (.br 13 [] [] (.take 14 [] .done) .stop)) .stop) .stop) .stop))))))))))⟩
def dt24x6:DrawPlan:=⟨[[],[],[0,1],[0,1,2],[],[],[4,5],[4,5,6],[0,1,2,3,4,5,6,7]],
  [[],[],[0,1],[2],[],[],[4,5],[6],[3,7]],
  (.take 0 [] (.take 1 [] (.take 2 [] (.take 3 [] (.take 4 [] (.take 5 [] (.take 6 [] (.take 7 [] (.take 8 [] .done)))))))))⟩
def dt27x4:DrawPlan:=⟨[[],[],[1],[1,2],[0,1,2,3],[0,1,2,3,4],[0,1,2,3,4,5],[],[],[8],[8,9],[7,8,9,10],[7,8,9,10,11],[7,8,9,10,11,12],[0,1,2,3,4,5,6,7,8,9,10,11,12,13]],
  [[],[],[1],[2],[0,3],[4],[5],[],[],[8],[9],[7,10],[11],[12],[6,13]],
  (.take 0 [] (.take 1 [] (.take 2 [] (.take 3 [] (.take 4 [] (.take 5 [] (.take 6 [] (.take 7 [] (.take 8 [] (.take 9 [] (.take 10 [] (.take 11 [] (.take 12 [] (.take 13 [] (.take 14 [] .done)))))))))))))))⟩
def dt27x10:DrawPlan:=⟨[[],[],[1],[],[],[4],[3,4,5],[],[7],[7,8],[3,4,5,6,7,8,9],[0,1,2,3,4,5,6,7,8,9,10]],
  [[],[],[1],[],[],[4],[3,5],[],[7],[8],[],[]],
  (.take 0 [] (.take 1 [] (.take 2 [2] (.take 3 [2] (.take 4 [2] (.take 5 [2] (.take 6 [2] (.take 7 [2] (.take 8 [2] (.take 9 [2] (.br 10 [2] [] (.br 11 [] [] .done .stop) .stop)))))))))))⟩
def dt33x8:DrawPlan:=⟨[[],[],[1],[],[],[4],[0,1,2],[0,1,2,3,4,5,6]],
  [[],[],[1],[],[],[4],[],[]],
  (.take 0 [] (.take 1 [] (.take 2 [] (.take 3 [3] (.take 4 [3] (.take 5 [5,3] (.br 6 [5,3] [] (.br 7 [] [] .done .stop) .stop)))))))⟩
def dt47x11:DrawPlan:=⟨[[],[],[],[2],[1,2,3],[],[],[6],[5,6,7],[0,1,2,3,4,5,6,7,8]],
  [[],[],[],[2],[1,3],[],[],[6],[5,7],[]],
  (.take 0 [] (.take 1 [] (.take 2 [] (.take 3 [] (.take 4 [] (.take 5 [] (.take 6 [] (.take 7 [] (.take 8 [] (.br 9 [] [] .done .stop))))))))))⟩
def dt47x23:DrawPlan:=⟨[[],[0],[],[],[3],[],[3,4,5],[3,4,5,6],[],[8],[3,4,5,6,7,8,9],[0,1,2,3,4,5,6,7,8,9,10],[0,1,2,3,4,5,6,7,8,9,10,11]],
  [[],[0],[],[],[3],[],[4,5],[6],[],[8],[],[1,2],[]],
  (.take 0 [] (.take 1 [1] (.take 2 [1] (.take 3 [1] (.take 4 [1] (.take 5 [1] (.take 6 [1] (.take 7 [1] (.take 8 [1] (.take 9 [1] (.br 10 [1] [] (.take 11 [] (.br 12 [] [] .done .stop)) .stop)))))))))))⟩
def dt47x32:DrawPlan:=⟨[[],[],[],[],[],[4],[3,4,5],[2,3,4,5,6],[1,2,3,4,5,6,7],[0,1,2,3,4,5,6,7,8],[],[],[],[],[],[14],[13,14,15],[12,13,14,15,16],[1,2,3,4,5,6,7,8,11,12,13,14,15,16,17],[1,2,3,4,5,6,7,8,10,11,12,13,14,15,16,17,18],[0,1,2,3,4,5,6,7,8,9,11,12,13,14,15,16,17,18],[0,1,2,3,4,5,6,7,8,9,10,11,12,13,14,15,16,17,18,19,20]],
  [[],[],[],[],[],[4],[3,5],[2,6],[],[0,8],[],[],[],[],[],[14],[13,15],[12,16],[],[10,18],[9],[19]],
  (.take 0 [] (.take 1 [] (.take 2 [] (.take 3 [] (.take 4 [] (.take 5 [] (.take 6 [] (.take 7 [] (.take 10 [] (.take 11 [] (.take 12 [] (.take 13 [] (.take 14 [] (.take 15 [15] (.take 16 [15] (.take 17 [17,15] (.br 8 [17,15] [] (.take 9 [9] (.br 18 [9] [] (.take 19 [] (.take 20 [] (.take 21 [] .done))) .stop)) .stop)))))))))))))))))⟩
def dt52x1:DrawPlan:=⟨[[],[0],[],[2],[0,1,2,3],[],[5],[0,1,2,3,4,5,6],[0,1,2,3,4,5,6,7],[0,1,2,3,4,5,6,7,8],[0,1,2,3,4,5,6,7,8,9]],
  [[],[],[],[2],[],[],[5],[],[1,4,7],[],[9]],
  (.take 0 [] (.take 2 [] (.take 3 [3] (.take 5 [3] (.take 6 [6,3] (.br 1 [6,3] [6] (.br 4 [6] [] (.br 7 [] [] (.take 8 [] (.br 9 [] [] (.take 10 [] .done) .stop)) .stop) .stop) .stop))))))⟩
def dt60x6:DrawPlan:=⟨[[],[],[0,1],[0,1,2],[],[],[4,5],[4,5,6],[0,1,2,3,4,5,6,7]],
  [[],[],[0,1],[2],[],[],[4,5],[6],[3,7]],
  (.take 0 [] (.take 1 [] (.take 2 [] (.take 3 [] (.take 4 [] (.take 5 [] (.take 6 [] (.take 7 [] (.take 8 [] .done)))))))))⟩
def dt62x13:DrawPlan:=⟨[[],[],[1],[0,1,2],[0,1,2,3],[],[],[6],[5,6,7],[5,6,7,8],[0,1,2,3,4],[0,1,2,3,4,5,6,7,8,9,10]],
  [[],[],[1],[0,2],[3],[],[],[6],[5,7],[8],[4],[9]],
  (.take 0 [] (.take 1 [] (.take 2 [] (.take 3 [] (.take 4 [] (.take 5 [] (.take 6 [] (.take 7 [] (.take 8 [] (.take 9 [] (.take 10 [] (.take 11 [] .done))))))))))))⟩
def dt62x17:DrawPlan:=⟨[[],[],[],[1,2],[1,2,3],[0,1,2,3,4],[0,1,2,3,4,5],[],[],[7,8],[7,8,9],[0,1,2,3,4,5,6,7,8,9,10],[0,1,2,3,4,5,6,7,8,9,10,11]],
  [[],[],[],[1,2],[3],[0,4],[5],[],[],[7,8],[9],[6,10],[11]],
  (.take 0 [] (.take 1 [] (.take 2 [] (.take 3 [] (.take 4 [] (.take 5 [] (.take 6 [] (.take 7 [] (.take 8 [] (.take 9 [] (.take 10 [] (.take 11 [] (.take 12 [] .done)))))))))))))⟩
def dt72x9:DrawPlan:=⟨[[],[0],[],[],[2,3],[],[0,1,2,3,4,5],[0,1,2,3,4,5,6],[],[8],[0,1,2,3,4,5,6,7,8,9],[0,1,2,3,4,5,6,7,8,9,10],[0,1,2,3,4,5,6,7,8,9,10],[0,1,2,3,4,5,6,7,8,9,10,11,12],[0,1,2,3,4,5,6,7,8,9,10,11,12,13],[0,1,2,3,4,5,6,7,8,9,10,11,12,13,14],[0,1,2,3,4,5,6,7,8,9,10,11,12,13,14,15],[0,1,2,3,4,5,6,7,8,9,10,11,12,13,14,15,16],[0,1,2,3,4,5,6,7,8,9,10,11,12,13,14,15,16,17],[0,1,2,3,4,5,6,7,8,9,10,11,12,13,14,15,16,17,18]],
  [[],[],[],[],[2,3],[],[],[],[],[8],[9],[10],[10],[],[10,13],[10,14],[],[1,7,16],[],[18]],
  (.take 0 [] (.take 2 [] (.take 3 [] (.take 4 [] (.take 5 [5] (.take 8 [5] (.take 9 [5] (.br 1 [5] [] (.br 6 [] [] (.br 7 [] [] (.take 10 [] (.take 11 [] (.take 12 [] (.br 13 [] [] (.take 14 [] (.take 15 [] (.br 16 [] [] (.take 17 [] (.br 18 [] [] (.take 19 [] .done) .stop)) .stop))) .stop)))) .stop) .stop) .stop))))))))⟩
def dt82x14:DrawPlan:=⟨[[],[],[1],[1,2],[],[4],[4,5],[1,2,4,5,6],[1,2,3,4,5,6,7],[1,2,3,4,5,6,7,8],[0,1,2,3,4,5,6,7,8,9],[0,1,2,3,4,5,6,7,8,9,10]],
  [[],[],[],[2],[],[4],[5],[],[3,7],[8],[],[0,10]],
  (.take 0 [] (.take 1 [] (.take 4 [] (.take 5 [] (.take 6 [6] (.br 2 [6] [] (.take 3 [] (.br 7 [] [] (.take 8 [] (.take 9 [] (.br 10 [] [] (.take 11 [] .done) .stop))) .stop)) .stop))))))⟩
def dt89x2:DrawPlan:=⟨[[],[],[],[1,2],[0,1],[0,1,2,3,4]],
  [[],[],[],[1,2],[0,1],[0,2,3]],
  (.take 0 [] (.take 1 [] (.take 2 [] (.take 3 [] (.take 4 [] (.take 5 [] .done))))))⟩
def dt92x1:DrawPlan:=⟨[[],[0],[],[2],[0,1,2,3],[],[5],[],[7],[5,6,7,8],[0,1,2,3,4],[0,1,2,3,4,5,6,7,8,9,10]],
  [[],[0],[],[2],[1,3],[],[5],[],[7],[6,8],[4],[9]],
  (.take 0 [] (.take 1 [] (.take 2 [] (.take 3 [] (.take 4 [] (.take 5 [] (.take 6 [] (.take 7 [] (.take 8 [] (.take 9 [] (.take 10 [] (.take 11 [] .done))))))))))))⟩
def dt96x3:DrawPlan:=⟨[[],[],[],[],[],[],[4,5],[4,5,6],[],[],[8,9],[8,9,10],[0,1,4,5,6,7,8,9,10,11],[0,1,4,5,6,7,8,9,10,11,12],[0,1,2,3,4,5,6,7,8,9,10,11,12,13],[0,1,2,3,4,5,6,7,8,9,10,11,12,13,14]],
  [[],[],[],[],[],[],[4,5],[6],[],[],[8,9],[10],[0,1],[],[2,3],[]],
  (.take 0 [] (.take 1 [] (.take 2 [] (.take 3 [] (.take 4 [] (.take 5 [] (.take 6 [] (.take 7 [] (.take 8 [] (.take 9 [] (.take 10 [] (.take 11 [] (.take 12 [] (.br 13 [] [] (.take 14 [] (.br 15 [] [] .done .stop)) .stop))))))))))))))⟩
def dt99x4:DrawPlan:=⟨[[],[0],[0,1],[],[3],[0,1,2,3,4],[0,1,2,3,4,5],[0,1,2,3,4,5,6],[0,1,2,3,4,5,6,7]],
  [[],[0],[],[],[3],[],[2,5],[],[7]],
  (.take 0 [] (.take 1 [] (.take 3 [] (.take 4 [4] (.br 2 [4] [] (.br 5 [] [] (.take 6 [] (.br 7 [] [] (.take 8 [] .done) .stop)) .stop) .stop)))))⟩
def dt103x1:DrawPlan:=⟨[[],[],[0,1],[0,1,2]],
  [[],[],[],[2]],
  (.take 0 [] (.take 1 [] (.br 2 [] [] (.take 3 [] .done) .stop)))⟩
def dt105x6:DrawPlan:=⟨[[],[],[0,1],[0,1,2],[],[],[5],[4,5,6],[4,5,6,7],[0,1,2,3,4,5,6,7,8]],
  [[],[],[0,1],[2],[],[],[5],[4,6],[7],[3,8]],
  (.take 0 [] (.take 1 [] (.take 2 [] (.take 3 [] (.take 4 [] (.take 5 [] (.take 6 [] (.take 7 [] (.take 8 [] (.take 9 [] .done))))))))))⟩
def dt105x11:DrawPlan:=⟨[[],[],[0,1],[0,1,2],[],[],[5],[4,5,6],[4,5,6,7],[0,1,2,3,4,5,6,7,8]],
  [[],[],[0,1],[2],[],[],[5],[4,6],[7],[3,8]],
  (.take 0 [] (.take 1 [] (.take 2 [] (.take 3 [] (.take 4 [] (.take 5 [] (.take 6 [] (.take 7 [] (.take 8 [] (.take 9 [] .done))))))))))⟩
def dt111x5:DrawPlan:=⟨[[],[],[],[1,2],[1,2,3],[],[0,1,2,3,4,5],[0,1,2,3,4,5,6]],
  [[],[],[],[1,2],[3],[],[],[6]],
  (.take 0 [] (.take 1 [] (.take 2 [] (.take 3 [] (.take 4 [] (.take 5 [] (.br 6 [] [] (.take 7 [] .done) .stop)))))))⟩
def dt111x8:DrawPlan:=⟨[[],[],[],[1,2],[1,2,3],[1,2,3,4],[1,2,3,4],[1,2,3,4],[1,2,3,4,6,7],[1,2,3,4,6,7,8],[1,2,3,4],[1,2,3,4,5,6,7,8,9,10],[1,2,3,4,5,6,7,8,9,10,11],[1,2,3,4,5,6,7,8,9,10,11,12],[0,1,2,3,4,5,6,7,8,9,10,11],[0,1,2,3,4,5,6,7,8,9,10,11,12,13,14]],
  [[],[],[],[1,2],[3],[4],[4],[4],[4,6,7],[4,8],[4],[],[4,11],[4,12],[0],[13]],
  (.take 0 [] (.take 1 [] (.take 2 [] (.take 3 [] (.take 4 [] (.take 5 [] (.take 6 [] (.take 7 [] (.take 8 [] (.take 9 [] (.take 10 [] (.br 11 [] [] (.take 12 [] (.take 13 [] (.take 14 [] (.take 15 [] .done)))) .stop))))))))))))⟩
def dt112x1:DrawPlan:=⟨[[],[0],[],[2],[0,1,2,3],[],[5],[5,6],[],[8],[8,9],[0,1,2,3,4,5,6,7,8,9,10],[],[12],[12,13],[],[15],[15,16],[0,1,2,3,4,5,6,7,8,9,10,11,12,13,14,15,16,17],[0,1,2,3,4,5,6,7,8,9,10,11,12,13,14,15,16,17,18],[0,1,2,3,4,5,6,7,8,9,10,11,12,13,14,15,16,17,18,19],[0,1,2,3,4,5,6,7,8,9,10,11,12,13,14,15,16,17,18,19,20]],
  [[],[0],[],[2],[],[],[5],[6],[],[8],[9],[],[],[12],[13],[],[15],[16],[],[4,11,18],[],[20]],
  (.take 0 [] (.take 1 [] (.take 2 [] (.take 3 [] (.take 5 [] (.take 6 [] (.take 7 [7] (.take 8 [7] (.take 9 [7] (.take 10 [10,7] (.take 12 [10,7] (.take 13 [10,7] (.take 14 [14,10,7] (.take 15 [14,10,7] (.take 16 [14,10,7] (.take 17 [17,14,10,7] (.br 4 [17,14,10,7] [17,14] (.br 11 [17,14] [] (.br 18 [] [] (.take 19 [] (.br 20 [] [] (.take 21 [] .done) .stop)) .stop) .stop) .stop)))))))))))))))))⟩
def dt117x6:DrawPlan:=⟨[[],[0],[],[2],[0,1,2,3],[0,1,2,3,4],[0,1,2,3,4],[0,1,2,3,4,6],[0,1,2,3,4,6,7],[0,1,2,3,4,5,6,7,8],[0,1,2,3,4,5,6,7,8,9],[0,1,2,3,4],[0,1,2,3,4,5,6,7,8,9,10,11],[0,1,2,3,4,5,6,7,8,9,10,11,12],[0,1,2,3,4,5,6,7,8,9,10,11,12,13],[0,1,2,3,4,5,6,7,8,9,10,11,12,13,14],[0,1,2,3,4,5,6,7,8,9,10,11,12,13,14,15],[0,1,2,3,4,5,6,7,8,9,10,11,12,13,14,15,16],[0,1,2,3,4,5,6,7,8,9,10,11,12,13,14,15,16,17]],
  [[],[],[],[2],[3],[4],[4],[4,6],[4,7],[4,5,8],[4,9],[4],[],[4,12],[4,13],[],[1,15],[],[17]],
  (.take 0 [] (.take 2 [] (.take 3 [] (.br 1 [] [] (.take 4 [] (.take 5 [] (.take 6 [] (.take 7 [] (.take 8 [] (.take 9 [] (.take 10 [] (.take 11 [] (.br 12 [] [] (.take 13 [] (.take 14 [] (.br 15 [] [] (.take 16 [] (.br 17 [] [] (.take 18 [] .done) .stop)) .stop))) .stop))))))))) .stop))))⟩
def dt121x1:DrawPlan:=⟨[[],[],[1],[0,1,2],[],[],[5],[0,1,2,3,4,5,6],[],[8],[],[10],[8,9,10,11],[0,1,2,3,4,5,6,7,8,9,10,11,12],[0,1,2,3,4,5,6,7,8,9,10,11,12,13],[0,1,2,3,4,5,6,7,8,9,10,11,12,13,14],[0,1,2,3,4,5,6,7,8,9,10,11,12,13,14,15]],
  [[],[],[1],[],[],[],[5],[],[],[8],[],[10],[9,11],[],[3,7,13],[],[15]],
  (.take 0 [] (.take 1 [] (.take 2 [] (.take 4 [4] (.take 5 [4] (.take 6 [6,4] (.take 8 [6,4] (.take 9 [9,6,4] (.take 10 [9,6,4] (.take 11 [11,9,6,4] (.take 12 [11,9,6,4] (.br 3 [11,9,6,4] [11,9] (.br 7 [11,9] [] (.br 13 [] [] (.take 14 [] (.br 15 [] [] (.take 16 [] .done) .stop)) .stop) .stop) .stop))))))))))))⟩
def dt128x12:DrawPlan:=⟨[[],[0],[0,1],[],[3],[0,1,2,3,4],[],[],[6,7],[0,1,2,3,4,5,6,7,8],[0,1,2,3,4,5,6,7,8,9],[0,1,2,3,4,5,6,7,8,9,10],[0,1,2,3,4,5,6,7,8,9,10,11]],
  [[],[0],[],[],[3],[],[],[],[6,7],[],[2,5,9],[],[11]],
  (.take 0 [] (.take 1 [] (.take 3 [] (.take 4 [4] (.take 6 [4] (.take 7 [7,4] (.take 8 [8,7,4] (.br 2 [8,7,4] [8,7] (.br 5 [8,7] [] (.br 9 [] [] (.take 10 [] (.br 11 [] [] (.take 12 [] .done) .stop)) .stop) .stop) .stop))))))))⟩
def dt128x22:DrawPlan:=⟨[[],[0],[],[0,1,2],[],[4],[],[0,1,2,3,4,5,6],[],[8],[],[10],[8,9,10,11],[0,1,2,3,4,5,6,7,8,9,10,11,12],[0,1,2,3,4,5,6,7,8,9,10,11,12,13],[0,1,2,3,4,5,6,7,8,9,10,11,12,13,14],[0,1,2,3,4,5,6,7,8,9,10,11,12,13,14,15]],
  [[],[0],[],[],[],[4],[],[],[],[8],[],[10],[9,11],[],[3,7,13],[],[15]],
  (.take 0 [] (.take 1 [] (.take 2 [] (.take 4 [] (.take 5 [5] (.take 6 [5] (.take 8 [5] (.take 9 [9,5] (.take 10 [9,5] (.take 11 [11,9,5] (.take 12 [11,9,5] (.br 3 [11,9,5] [11,9] (.br 7 [11,9] [] (.br 13 [] [] (.take 14 [] (.br 15 [] [] (.take 16 [] .done) .stop)) .stop) .stop) .stop))))))))))))⟩
def dt130x1:DrawPlan:=⟨[[],[0],[],[2],[],[4],[2,3,4,5],[2,3,4,5,6],[2,3,4,5,6,7],[0,1,2,3,4,5,6,7,8],[0,1,2,3,4,5,6,7,8,9],[0,1,2,3,4,5,6,7,8,9,10],[0,1,2,3,4,5,6,7,8,9,10,11]],
  [[],[],[],[2],[],[4],[3,5],[6],[7],[],[1,9],[],[11]],
  (.take 0 [] (.take 2 [] (.take 3 [3] (.take 4 [3] (.take 5 [5,3] (.take 6 [5,3] (.take 7 [5,3] (.take 8 [5,3] (.br 1 [5,3] [] (.br 9 [] [] (.take 10 [] (.br 11 [] [] (.take 12 [] .done) .stop)) .stop) .stop)))))))))⟩
def dt158x4:DrawPlan:=⟨[[],[],[],[1,2],[],[1,2,3,4],[],[],[6,7],[],[6,7,8,9],[1,2,3,4,5,6,7,8,9,10],[0,1,2,3,4,5,6,7,8,9,10,11],[0,1,2,3,4,5,6,7,8,9,10,11,12]],
  [[],[],[],[1,2],[],[3,4],[],[],[6,7],[],[8,9],[5,10],[],[12]],
  (.take 0 [] (.take 1 [] (.take 2 [] (.take 3 [] (.take 4 [] (.take 5 [] (.take 6 [] (.take 7 [] (.take 8 [] (.take 9 [] (.take 10 [] (.take 11 [] (.br 12 [] [] (.take 13 [] .done) .stop)))))))))))))⟩
def dt159x17:DrawPlan:=⟨[[],[0],[0,1],[0,1,2],[0,1,2],[0,1,2],[0,1,2,5],[0,1,2,4,5,6],[0,1,2,4,5,6,7],[0,1,2],[0,1,2],[0,1,2,9,10],[0,1,2,9,10,11],[0,1,2,3,4,5,6,7,8,9,10,11,12],[0,1,2,3,4,5,6,7,8,9,10,11,12,13],[0,1,2,3,4,5,6,7,8,9,10,11,12,13,14],[0,1,2,3,4,5,6,7,8,9,10,11,12,13,14,15]],
  [[],[0],[1],[2],[2],[2],[2,5],[2,4,6],[2,7],[2],[2],[2,9,10],[2,11],[],[2,13],[2,14],[2,15]],
  (.take 0 [] (.take 1 [] (.take 2 [] (.take 3 [] (.take 4 [] (.take 5 [] (.take 6 [] (.take 7 [] (.take 8 [] (.take 9 [] (.take 10 [] (.take 11 [] (.take 12 [] (.br 13 [] [] (.take 14 [] (.take 15 [] (.take 16 [] .done))) .stop))))))))))))))⟩
def dt168x1:DrawPlan:=⟨[[],[0],[],[2],[0,1,2,3],[0,1,2,3,4],[],[6],[6,7],[0,1,2,3,4,5,6,7,8],[0,1,2,3,4,5,6,7,8,9],[0,1,2,3,4,5,6,7,8,9,10],[0,1,2,3,4,5,6,7,8,9,10,11],[0,1,2,3,4,5,6,7,8,9,10,11,12],[0,1,2,3,4,5,6,7,8,9,10,11,12,13],[0,1,2,3,4,5,6,7,8,9,10,11,12,13,14],[0,1,2,3,4,5,6,7,8,9,10,11,12,13,14,15],[0,1,2,3,4,5,6,7,8,9,10,11,12,13,14,15,16]],
  [[],[0],[],[2],[1,3],[],[],[6],[7],[8],[9],[9,10],[9,11],[9,12],[],[5,14],[],[16]],
  (.take 0 [] (.take 1 [] (.take 2 [] (.take 3 [] (.take 4 [] (.take 6 [] (.take 7 [7] (.take 8 [7] (.br 5 [7] [] (.take 9 [] (.take 10 [] (.take 11 [] (.take 12 [] (.take 13 [] (.br 14 [] [] (.take 15 [] (.br 16 [] [] (.take 17 [] .done) .stop)) .stop)))))) .stop)))))))))⟩
def dt170x1:DrawPlan:=⟨[[],[0],[],[2],[0,1,2,3],[],[5],[],[7],[0,1,2,3,4,5,6,7,8],[],[10],[],[12],[0,1,2,3,4,5,6,7,8,9,10,11,12,13],[0,1,2,3,4,5,6,7,8,9,10,11,12,13,14],[0,1,2,3,4,5,6,7,8,9,10,11,12,13,14,15],[0,1,2,3,4,5,6,7,8,9,10,11,12,13,14,15,16]],
  [[],[0],[],[2],[],[],[5],[],[7],[],[],[10],[],[12],[],[4,9,14],[],[16]],
  (.take 0 [] (.take 1 [] (.take 2 [] (.take 3 [] (.take 5 [] (.take 6 [6] (.take 7 [6] (.take 8 [8,6] (.take 10 [8,6] (.take 11 [11,8,6] (.take 12 [11,8,6] (.take 13 [13,11,8,6] (.br 4 [13,11,8,6] [13,11] (.br 9 [13,11] [] (.br 14 [] [] (.take 15 [] (.br 16 [] [] (.take 17 [] .done) .stop)) .stop) .stop) .stop)))))))))))))⟩
def dt171x1:DrawPlan:=⟨[[],[0],[0,1],[],[3],[0,1,2,3,4],[0,1,2,3,4,5],[0,1,2,3,4,5,6],[0,1,2,3,4,5,6,7]],
  [[],[0],[],[],[3],[],[2,5],[],[7]],
  (.take 0 [] (.take 1 [] (.take 3 [] (.take 4 [4] (.br 2 [4] [] (.br 5 [] [] (.take 6 [] (.br 7 [] [] (.take 8 [] .done) .stop)) .stop) .stop)))))⟩
def dt172x4:DrawPlan:=⟨[[],[],[],[1,2],[1,2,3],[0,1,2,3,4]],
  [[],[],[],[1,2],[3],[0,4]],
  (.take 0 [] (.take 1 [] (.take 2 [] (.take 3 [] (.take 4 [] (.take 5 [] .done))))))⟩
def dt177x4:DrawPlan:=⟨[[],[],[],[1,2],[1,2,3],[0,1,2,3,4]],
  [[],[],[],[1,2],[3],[0,4]],
  (.take 0 [] (.take 1 [] (.take 2 [] (.take 3 [] (.take 4 [] (.take 5 [] .done))))))⟩
def dt179x3:DrawPlan:=⟨[[],[0],[0,1],[0,1,2],[0,1,2,3],[],[5],[5,6],[5,6,7],[5,6,7,8],[0,1,2,3,4,5,6,7,8,9],[],[0,1,2,3,4,5,6,7,8,9,10,11]],
  [[],[0],[1],[2],[],[],[5],[6],[7],[8],[4,9],[],[10,11]],
  (.take 0 [] (.take 1 [] (.take 2 [] (.take 3 [] (.take 5 [] (.take 6 [] (.take 7 [] (.take 8 [8] (.take 9 [9,8] (.take 11 [9,8] (.br 4 [9,8] [] (.take 10 [] (.take 12 [] .done)) .stop)))))))))))⟩
def dt181x1:DrawPlan:=⟨[[],[0],[0,1],[0,1,2],[0,1,2,3],[],[5],[5,6],[5,6,7],[5,6,7,8],[0,1,2,3,4,5,6,7,8,9],[0,1,2,3,4,5,6,7,8,9,10]],
  [[],[0],[1],[2],[],[],[5],[6],[7],[8],[],[10]],
  (.take 0 [] (.take 1 [] (.take 2 [] (.take 3 [] (.take 5 [] (.take 6 [] (.take 7 [] (.take 8 [8] (.take 9 [9,8] (.br 4 [9,8] [] (.br 10 [] [] (.take 11 [] .done) .stop) .stop))))))))))⟩
def dt183x3:DrawPlan:=⟨[[],[],[0,1],[],[],[],[5],[4,5,6],[3,4,5,6,7],[0,1,2],[0,1,2,3,4,5,6,7,8,9],[0,1,2,3,4,5,6,7,8,9,10]],
  [[],[],[0,1],[],[],[],[5],[4,6],[3,7],[2],[8],[]],
  (.take 0 [] (.take 1 [] (.take 2 [] (.take 3 [] (.take 4 [] (.take 5 [] (.take 6 [] (.take 7 [] (.take 8 [] (.take 9 [] (.take 10 [] (.take 11 [] .done))))))))))))⟩
def dt185x4:DrawPlan:=⟨[[],[],[0,1],[0,1,2],[0,1,2,3],[0,1,2,3],[0,1,2,3],[0,1,2,3,5,6],[0,1,2,3,5,6,7],[0,1,2,3],[0,1,2,3],[0,1,2,3,10],[0,1,2,3,9,10,11],[0,1,2,3,9,10,11,12],[0,1,2,3,4,5,6,7,8,9,10,11,12,13],[0,1,2,3,4,5,6,7,8,9,10,11,12,13,14],[0,1,2,3,4,5,6,7,8,9,10,11,12,13,14,15]],
  [[],[],[0,1],[2],[3],[3],[3],[3,5,6],[3,7],[3],[3],[3,10],[3,9,11],[3,12],[],[3,14],[3,15]],
  (.take 0 [] (.take 1 [] (.take 2 [] (.take 3 [] (.take 4 [] (.take 5 [] (.take 6 [] (.take 7 [] (.take 8 [] (.take 9 [] (.take 10 [] (.take 11 [] (.take 12 [] (.take 13 [] (.br 14 [] [] (.take 15 [] (.take 16 [] .done)) .stop)))))))))))))))⟩
def dt185x6:DrawPlan:=⟨[[],[],[],[],[3],[],[],[6],[5,6,7],[5,6,7,8],[],[],[10,11],[10,11,12],[0,1,5,6,7,8,9,10,11,12,13],[0,1,5,6,7,8,9,10,11,12,13,14],[0,1,2,3,4,5,6,7,8,9,10,11,12,13,14,15],[0,1,2,3,4,5,6,7,8,9,10,11,12,13,14,15,16]],
  [[],[],[],[],[3],[],[],[6],[5,7],[8],[],[],[10,11],[12],[0,1],[],[2,4],[]],
  (.take 0 [] (.take 1 [] (.take 2 [] (.take 3 [] (.take 4 [] (.take 5 [] (.take 6 [] (.take 7 [] (.take 8 [] (.take 9 [] (.take 10 [] (.take 11 [] (.take 12 [] (.take 13 [] (.take 14 [] (.br 15 [] [] (.take 16 [] (.br 17 [] [] .done .stop)) .stop))))))))))))))))⟩
def dt186x10:DrawPlan:=⟨[[],[],[],[],[],[3,4],[],[],[],[7,8],[6,7,8,9],[6,7,8,9,10],[],[],[12,13],[12,13,14],[0,1,6,7,8,9,10,11,12,13,14,15],[0,1,6,7,8,9,10,11,12,13,14,15,16],[0,1,2,3,4,5,6,7,8,9,10,11,12,13,14,15,16,17],[0,1,2,3,4,5,6,7,8,9,10,11,12,13,14,15,16,17,18]],
  [[],[],[],[],[],[3,4],[],[],[],[7,8],[6,9],[10],[],[],[12,13],[14],[0,1],[],[2,5],[]],
  (.take 0 [] (.take 1 [] (.take 2 [] (.take 3 [] (.take 4 [] (.take 5 [] (.take 6 [] (.take 7 [] (.take 8 [] (.take 9 [] (.take 10 [] (.take 11 [] (.take 12 [] (.take 13 [] (.take 14 [] (.take 15 [] (.take 16 [] (.br 17 [] [] (.take 18 [] (.br 19 [] [] .done .stop)) .stop))))))))))))))))))⟩
def dt187x10:DrawPlan:=⟨[[],[],[],[],[],[3,4],[],[],[],[7,8],[6,7,8,9],[6,7,8,9,10],[],[],[12,13],[12,13,14],[0,1,6,7,8,9,10,11,12,13,14,15],[0,1,6,7,8,9,10,11,12,13,14,15,16],[0,1,2,3,4,5,6,7,8,9,10,11,12,13,14,15,16,17],[0,1,2,3,4,5,6,7,8,9,10,11,12,13,14,15,16,17,18]],
  [[],[],[],[],[],[3,4],[],[],[],[7,8],[6,9],[10],[],[],[12,13],[14],[0,1],[],[2,5],[]],
  (.take 0 [] (.take 1 [] (.take 2 [] (.take 3 [] (.take 4 [] (.take 5 [] (.take 6 [] (.take 7 [] (.take 8 [] (.take 9 [] (.take 10 [] (.take 11 [] (.take 12 [] (.take 13 [] (.take 14 [] (.take 15 [] (.take 16 [] (.br 17 [] [] (.take 18 [] (.br 19 [] [] .done .stop)) .stop))))))))))))))))))⟩
def dt189x3:DrawPlan:=⟨[[],[],[],[],[],[],[4,5],[4,5,6],[],[],[8,9],[8,9,10],[0,1,4,5,6,7,8,9,10,11],[0,1,4,5,6,7,8,9,10,11,12],[0,1,2,3,4,5,6,7,8,9,10,11,12,13],[0,1,2,3,4,5,6,7,8,9,10,11,12,13,14]],
  [[],[],[],[],[],[],[4,5],[6],[],[],[8,9],[10],[0,1],[],[2,3],[]],
  (.take 0 [] (.take 1 [] (.take 2 [] (.take 3 [] (.take 4 [] (.take 5 [] (.take 6 [] (.take 7 [] (.take 8 [] (.take 9 [] (.take 10 [] (.take 11 [] (.take 12 [] (.br 13 [] [] (.take 14 [] (.br 15 [] [] .done .stop)) .stop))))))))))))))⟩
def dt190x5:DrawPlan:=⟨[[],[],[0,1],[0,1,2],[0,1,2,3],[0,1,2,3],[0,1,2,3],[0,1,2,3,5,6],[0,1,2,3,5,6,7],[0,1,2,3],[0,1,2,3],[0,1,2,3,10],[0,1,2,3,9,10,11],[0,1,2,3,9,10,11,12],[0,1,2,3,4,5,6,7,8,9,10,11,12,13],[0,1,2,3,4,5,6,7,8,9,10,11,12,13,14],[0,1,2,3,4,5,6,7,8,9,10,11,12,13,14,15],[0,1,2,3,4,5,6,7,8,9,10,11,12,13,14,15,16]],
  [[],[],[0,1],[2],[3],[3],[3],[3,5,6],[3,7],[3],[3],[3,10],[3,9,11],[3,12],[],[3,14],[3,15],[3,16]],
  (.take 0 [] (.take 1 [] (.take 2 [] (.take 3 [] (.take 4 [] (.take 5 [] (.take 6 [] (.take 7 [] (.take 8 [] (.take 9 [] (.take 10 [] (.take 11 [] (.take 12 [] (.take 13 [] (.br 14 [] [] (.take 15 [] (.take 16 [] (.take 17 [] .done))) .stop)))))))))))))))⟩
def dt190x11:DrawPlan:=⟨[[],[],[],[],[3],[],[],[6],[5,6,7],[5,6,7,8],[],[],[10,11],[10,11,12],[0,1,5,6,7,8,9,10,11,12,13],[0,1,5,6,7,8,9,10,11,12,13,14],[0,1,2,3,4,5,6,7,8,9,10,11,12,13,14,15],[0,1,2,3,4,5,6,7,8,9,10,11,12,13,14,15,16]],
  [[],[],[],[],[3],[],[],[6],[5,7],[8],[],[],[10,11],[12],[0,1],[],[2,4],[]],
  (.take 0 [] (.take 1 [] (.take 2 [] (.take 3 [] (.take 4 [] (.take 5 [] (.take 6 [] (.take 7 [] (.take 8 [] (.take 9 [] (.take 10 [] (.take 11 [] (.take 12 [] (.take 13 [] (.take 14 [] (.br 15 [] [] (.take 16 [] (.br 17 [] [] .done .stop)) .stop))))))))))))))))⟩
def dt190x16:DrawPlan:=⟨[[],[],[],[1,2],[1,2,3],[],[],[6],[5,6,7],[5,6,7,8],[0,1,2,3,4,5,6,7,8,9],[0,1,2,3,4,5,6,7,8,9,10],[0,1,2,3,4,5,6,7,8,9,10,11]],
  [[],[],[],[1,2],[3],[],[],[6],[5,7],[8],[],[10],[11]],
  (.take 0 [] (.take 1 [] (.take 2 [] (.take 3 [] (.take 4 [] (.take 5 [] (.take 6 [] (.take 7 [] (.take 8 [] (.take 9 [] (.br 10 [] [] (.take 11 [] (.take 12 [] .done)) .stop)))))))))))⟩
def dt190x17:DrawPlan:=⟨[[],[],[],[],[3],[],[],[6],[5,6,7],[5,6,7,8],[],[],[10,11],[10,11,12],[0,1,5,6,7,8,9,10,11,12,13],[0,1,5,6,7,8,9,10,11,12,13,14],[0,1,2,3,4,5,6,7,8,9,10,11,12,13,14,15],[0,1,2,3,4,5,6,7,8,9,10,11,12,13,14,15,16]],
  [[],[],[],[],[3],[],[],[6],[5,7],[8],[],[],[10,11],[12],[0,1],[],[2,4],[]],
  (.take 0 [] (.take 1 [] (.take 2 [] (.take 3 [] (.take 4 [] (.take 5 [] (.take 6 [] (.take 7 [] (.take 8 [] (.take 9 [] (.take 10 [] (.take 11 [] (.take 12 [] (.take 13 [] (.take 14 [] (.br 15 [] [] (.take 16 [] (.br 17 [] [] .done .stop)) .stop))))))))))))))))⟩
def dt190x22:DrawPlan:=⟨[[],[],[],[1,2],[1,2,3],[],[],[6],[5,6,7],[5,6,7,8],[0,1,2,3,4,5,6,7,8,9],[0,1,2,3,4,5,6,7,8,9,10],[0,1,2,3,4,5,6,7,8,9,10,11]],
  [[],[],[],[1,2],[3],[],[],[6],[5,7],[8],[],[10],[11]],
  (.take 0 [] (.take 1 [] (.take 2 [] (.take 3 [] (.take 4 [] (.take 5 [] (.take 6 [] (.take 7 [] (.take 8 [] (.take 9 [] (.br 10 [] [] (.take 11 [] (.take 12 [] .done)) .stop)))))))))))⟩
def dt190x23:DrawPlan:=⟨[[],[],[],[],[3],[],[],[6],[5,6,7],[5,6,7,8],[],[],[10,11],[10,11,12],[0,1,5,6,7,8,9,10,11,12,13],[0,1,5,6,7,8,9,10,11,12,13,14],[0,1,2,3,4,5,6,7,8,9,10,11,12,13,14,15],[0,1,2,3,4,5,6,7,8,9,10,11,12,13,14,15,16]],
  [[],[],[],[],[3],[],[],[6],[5,7],[8],[],[],[10,11],[12],[0,1],[],[2,4],[]],
  (.take 0 [] (.take 1 [] (.take 2 [] (.take 3 [] (.take 4 [] (.take 5 [] (.take 6 [] (.take 7 [] (.take 8 [] (.take 9 [] (.take 10 [] (.take 11 [] (.take 12 [] (.take 13 [] (.take 14 [] (.br 15 [] [] (.take 16 [] (.br 17 [] [] .done .stop)) .stop))))))))))))))))⟩
def dt191x1:DrawPlan:=⟨[[],[],[],[],[],[],[4,5],[4,5,6],[],[],[8,9],[8,9,10],[0,1,4,5,6,7,8,9,10,11],[0,1,4,5,6,7,8,9,10,11,12],[0,1,2,3,4,5,6,7,8,9,10,11,12,13],[0,1,2,3,4,5,6,7,8,9,10,11,12,13,14]],
  [[],[],[],[],[],[],[4,5],[6],[],[],[8,9],[10],[0,1],[],[2,3],[]],
  (.take 0 [] (.take 1 [] (.take 2 [] (.take 3 [] (.take 4 [] (.take 5 [] (.take 6 [] (.take 7 [] (.take 8 [] (.take 9 [] (.take 10 [] (.take 11 [] (.take 12 [] (.br 13 [] [] (.take 14 [] (.br 15 [] [] .done .stop)) .stop))))))))))))))⟩
def dt191x3:DrawPlan:=⟨[[],[],[0,1],[0,1,2],[0,1,2,3],[0,1,2,3],[0,1,2,3],[0,1,2,3,5,6],[0,1,2,3,5,6,7],[0,1,2,3],[0,1,2,3],[0,1,2,3,9,10],[0,1,2,3,9,10,11],[0,1,2,3,4,5,6,7,8,9,10,11,12],[0,1,2,3,4,5,6,7,8,9,10,11,12,13],[0,1,2,3,4,5,6,7,8,9,10,11,12,13,14],[0,1,2,3,4,5,6,7,8,9,10,11,12,13,14,15]],
  [[],[],[0,1],[2],[3],[3],[3],[3,5,6],[3,7],[3],[3],[3,9,10],[3,11],[],[3,13],[3,14],[3,15]],
  (.take 0 [] (.take 1 [] (.take 2 [] (.take 3 [] (.take 4 [] (.take 5 [] (.take 6 [] (.take 7 [] (.take 8 [] (.take 9 [] (.take 10 [] (.take 11 [] (.take 12 [] (.br 13 [] [] (.take 14 [] (.take 15 [] (.take 16 [] .done))) .stop))))))))))))))⟩
def dt191x5:DrawPlan:=⟨[[],[],[0,1],[0,1,2],[0,1,2,3],[0,1,2,3],[0,1,2,3],[0,1,2,3,5,6],[0,1,2,3,5,6,7],[0,1,2,3],[0,1,2,3],[0,1,2,3,9,10],[0,1,2,3,9,10,11],[0,1,2,3,4,5,6,7,8,9,10,11,12],[0,1,2,3,4,5,6,7,8,9,10,11,12,13],[0,1,2,3,4,5,6,7,8,9,10,11,12,13,14]],
  [[],[],[0,1],[2],[3],[3],[3],[3,5,6],[3,7],[3],[3],[3,9,10],[3,11],[],[3,13],[3,14]],
  (.take 0 [] (.take 1 [] (.take 2 [] (.take 3 [] (.take 4 [] (.take 5 [] (.take 6 [] (.take 7 [] (.take 8 [] (.take 9 [] (.take 10 [] (.take 11 [] (.take 12 [] (.br 13 [] [] (.take 14 [] (.take 15 [] .done)) .stop))))))))))))))⟩
def dt191x8:DrawPlan:=⟨[[],[],[],[],[],[],[4,5],[4,5,6],[],[],[8,9],[8,9,10],[0,1,4,5,6,7,8,9,10,11],[0,1,4,5,6,7,8,9,10,11,12],[0,1,2,3,4,5,6,7,8,9,10,11,12,13],[0,1,2,3,4,5,6,7,8,9,10,11,12,13,14]],
  [[],[],[],[],[],[],[4,5],[6],[],[],[8,9],[10],[0,1],[],[2,3],[]],
  (.take 0 [] (.take 1 [] (.take 2 [] (.take 3 [] (.take 4 [] (.take 5 [] (.take 6 [] (.take 7 [] (.take 8 [] (.take 9 [] (.take 10 [] (.take 11 [] (.take 12 [] (.br 13 [] [] (.take 14 [] (.br 15 [] [] .done .stop)) .stop))))))))))))))⟩
def dt192x1:DrawPlan:=⟨[[],[],[],[],[],[],[4,5],[4,5,6],[],[],[8,9],[8,9,10],[0,1,4,5,6,7,8,9,10,11],[0,1,4,5,6,7,8,9,10,11,12],[0,1,2,3,4,5,6,7,8,9,10,11,12,13],[0,1,2,3,4,5,6,7,8,9,10,11,12,13,14]],
  [[],[],[],[],[],[],[4,5],[6],[],[],[8,9],[10],[0,1],[],[2,3],[]],
  (.take 0 [] (.take 1 [] (.take 2 [] (.take 3 [] (.take 4 [] (.take 5 [] (.take 6 [] (.take 7 [] (.take 8 [] (.take 9 [] (.take 10 [] (.take 11 [] (.take 12 [] (.br 13 [] [] (.take 14 [] (.br 15 [] [] .done .stop)) .stop))))))))))))))⟩
def dt192x3:DrawPlan:=⟨[[],[],[0,1],[0,1,2],[0,1,2,3],[0,1,2,3],[0,1,2,3],[0,1,2,3,5,6],[0,1,2,3,5,6,7],[0,1,2,3],[0,1,2,3],[0,1,2,3,9,10],[0,1,2,3,9,10,11],[0,1,2,3,4,5,6,7,8,9,10,11,12],[0,1,2,3,4,5,6,7,8,9,10,11,12,13],[0,1,2,3,4,5,6,7,8,9,10,11,12,13,14]],
  [[],[],[0,1],[2],[3],[3],[3],[3,5,6],[3,7],[3],[3],[3,9,10],[3,11],[],[3,13],[3,14]],
  (.take 0 [] (.take 1 [] (.take 2 [] (.take 3 [] (.take 4 [] (.take 5 [] (.take 6 [] (.take 7 [] (.take 8 [] (.take 9 [] (.take 10 [] (.take 11 [] (.take 12 [] (.br 13 [] [] (.take 14 [] (.take 15 [] .done)) .stop))))))))))))))⟩
def dt192x5:DrawPlan:=⟨[[],[],[0,1],[0,1,2],[0,1,2,3],[0,1,2,3],[0,1,2,3],[0,1,2,3,5,6],[0,1,2,3,5,6,7],[0,1,2,3],[0,1,2,3],[0,1,2,3,9,10],[0,1,2,3,9,10,11],[0,1,2,3,4,5,6,7,8,9,10,11,12],[0,1,2,3,4,5,6,7,8,9,10,11,12,13],[0,1,2,3,4,5,6,7,8,9,10,11,12,13,14],[0,1,2,3,4,5,6,7,8,9,10,11,12,13,14,15]],
  [[],[],[0,1],[2],[3],[3],[3],[3,5,6],[3,7],[3],[3],[3,9,10],[3,11],[],[3,13],[3,14],[3,15]],
  (.take 0 [] (.take 1 [] (.take 2 [] (.take 3 [] (.take 4 [] (.take 5 [] (.take 6 [] (.take 7 [] (.take 8 [] (.take 9 [] (.take 10 [] (.take 11 [] (.take 12 [] (.br 13 [] [] (.take 14 [] (.take 15 [] (.take 16 [] .done))) .stop))))))))))))))⟩
def dt192x8:DrawPlan:=⟨[[],[],[],[],[],[],[4,5],[4,5,6],[],[],[8,9],[8,9,10],[0,1,4,5,6,7,8,9,10,11],[0,1,4,5,6,7,8,9,10,11,12],[0,1,2,3,4,5,6,7,8,9,10,11,12,13],[0,1,2,3,4,5,6,7,8,9,10,11,12,13,14]],
  [[],[],[],[],[],[],[4,5],[6],[],[],[8,9],[10],[0,1],[],[2,3],[]],
  (.take 0 [] (.take 1 [] (.take 2 [] (.take 3 [] (.take 4 [] (.take 5 [] (.take 6 [] (.take 7 [] (.take 8 [] (.take 9 [] (.take 10 [] (.take 11 [] (.take 12 [] (.br 13 [] [] (.take 14 [] (.br 15 [] [] .done .stop)) .stop))))))))))))))⟩
def dt192x10:DrawPlan:=⟨[[],[],[],[],[],[],[4,5],[4,5,6],[],[],[8,9],[8,9,10],[0,1,4,5,6,7,8,9,10,11],[0,1,4,5,6,7,8,9,10,11,12],[0,1,2,3,4,5,6,7,8,9,10,11,12,13],[0,1,2,3,4,5,6,7,8,9,10,11,12,13,14]],
  [[],[],[],[],[],[],[4,5],[6],[],[],[8,9],[10],[0,1],[],[2,3],[]],
  (.take 0 [] (.take 1 [] (.take 2 [] (.take 3 [] (.take 4 [] (.take 5 [] (.take 6 [] (.take 7 [] (.take 8 [] (.take 9 [] (.take 10 [] (.take 11 [] (.take 12 [] (.br 13 [] [] (.take 14 [] (.br 15 [] [] .done .stop)) .stop))))))))))))))⟩
def dt192x13:DrawPlan:=⟨[[],[],[0,1],[0,1,2],[0,1,2,3],[0,1,2,3],[0,1,2,3],[0,1,2,3,5,6],[0,1,2,3,5,6,7],[0,1,2,3],[0,1,2,3],[0,1,2,3,9,10],[0,1,2,3,9,10,11],[0,1,2,3,4,5,6,7,8,9,10,11,12],[0,1,2,3,4,5,6,7,8,9,10,11,12,13],[0,1,2,3,4,5,6,7,8,9,10,11,12,13,14]],
  [[],[],[0,1],[2],[3],[3],[3],[3,5,6],[3,7],[3],[3],[3,9,10],[3,11],[],[3,13],[3,14]],
  (.take 0 [] (.take 1 [] (.take 2 [] (.take 3 [] (.take 4 [] (.take 5 [] (.take 6 [] (.take 7 [] (.take 8 [] (.take 9 [] (.take 10 [] (.take 11 [] (.take 12 [] (.br 13 [] [] (.take 14 [] (.take 15 [] .done)) .stop))))))))))))))⟩
def dt192x15:DrawPlan:=⟨[[],[],[0,1],[0,1,2],[0,1,2,3],[0,1,2,3],[0,1,2,3],[0,1,2,3,5,6],[0,1,2,3,5,6,7],[0,1,2,3],[0,1,2,3],[0,1,2,3,9,10],[0,1,2,3,9,10,11],[0,1,2,3,4,5,6,7,8,9,10,11,12],[0,1,2,3,4,5,6,7,8,9,10,11,12,13],[0,1,2,3,4,5,6,7,8,9,10,11,12,13,14],[0,1,2,3,4,5,6,7,8,9,10,11,12,13,14,15]],
  [[],[],[0,1],[2],[3],[3],[3],[3,5,6],[3,7],[3],[3],[3,9,10],[3,11],[],[3,13],[3,14],[3,15]],
  (.take 0 [] (.take 1 [] (.take 2 [] (.take 3 [] (.take 4 [] (.take 5 [] (.take 6 [] (.take 7 [] (.take 8 [] (.take 9 [] (.take 10 [] (.take 11 [] (.take 12 [] (.br 13 [] [] (.take 14 [] (.take 15 [] (.take 16 [] .done))) .stop))))))))))))))⟩
def dt192x18:DrawPlan:=⟨[[],[],[],[],[],[],[4,5],[4,5,6],[],[],[8,9],[8,9,10],[0,1,4,5,6,7,8,9,10,11],[0,1,4,5,6,7,8,9,10,11,12],[0,1,2,3,4,5,6,7,8,9,10,11,12,13],[0,1,2,3,4,5,6,7,8,9,10,11,12,13,14]],
  [[],[],[],[],[],[],[4,5],[6],[],[],[8,9],[10],[0,1],[],[2,3],[]],
  (.take 0 [] (.take 1 [] (.take 2 [] (.take 3 [] (.take 4 [] (.take 5 [] (.take 6 [] (.take 7 [] (.take 8 [] (.take 9 [] (.take 10 [] (.take 11 [] (.take 12 [] (.br 13 [] [] (.take 14 [] (.br 15 [] [] .done .stop)) .stop))))))))))))))⟩
def dt192x21:DrawPlan:=⟨[[],[],[],[],[],[],[4,5],[4,5,6],[],[],[8,9],[8,9,10],[0,1,4,5,6,7,8,9,10,11],[0,1,4,5,6,7,8,9,10,11,12],[0,1,2,3,4,5,6,7,8,9,10,11,12,13],[0,1,2,3,4,5,6,7,8,9,10,11,12,13,14]],
  [[],[],[],[],[],[],[4,5],[6],[],[],[8,9],[10],[0,1],[],[2,3],[]],
  (.take 0 [] (.take 1 [] (.take 2 [] (.take 3 [] (.take 4 [] (.take 5 [] (.take 6 [] (.take 7 [] (.take 8 [] (.take 9 [] (.take 10 [] (.take 11 [] (.take 12 [] (.br 13 [] [] (.take 14 [] (.br 15 [] [] .done .stop)) .stop))))))))))))))⟩
def dt201x0:DrawPlan:=⟨[[],[0],[0,1],[0,1,2],[0,1,2,3],[0,1,2,3,4],[],[0,1,2,3,4,5,6],[0,1,2,3,4,5,6,7],[],[9],[9,10],[9,10,11],[9,10,11,12],[0,1,2,3,4,5,6,7,8,9,10,11,12,13],[0,1,2,3,4,5,6,7,8,9,10,11,12,13,14]],
  [[],[0],[1],[2],[],[4],[],[5,6],[],[],[9],[10],[11],[12],[8,13],[14]],
  (.take 0 [] (.take 1 [] (.take 2 [] (.take 3 [] (.take 6 [] (.take 9 [] (.take 10 [] (.take 11 [] (.take 12 [12] (.take 13 [13,12] (.br 4 [13,12] [13,12] (.take 5 [13,12] (.take 7 [13,12] (.br 8 [13,12] [] (.take 14 [] (.take 15 [] .done)) .stop))) .stop)))))))))))⟩
def dt206x3:DrawPlan:=⟨[[],[0],[],[0,1,2],[0,1,2,3],[0,1,2,3,4],[0,1,2,3,4],[0,1,2,3,4],[0,1,2,3,4],[0,1,2,3,4,7,8],[0,1,2,3,4,6,7,8,9],[0,1,2,3,4,6,7,8,9,10],[0,1,2,3,4],[0,1,2,3,4],[0,1,2,3,4],[0,1,2,3,4,13,14],[0,1,2,3,4,13,14,15],[0,1,2,3,4,12,13,14,15,16],[0,1,2,3,4,12,13,14,15,16,17],[0,1,2,3,4,5,6,7,8,9,10,11,12,13,14,15,16,17,18],[0,1,2,3,4,5,6,7,8,9,10,11,12,13,14,15,16,17,18,19],[0,1,2,3,4,5,6,7,8,9,10,11,12,13,14,15,16,17,18,19,20]],
  [[],[0],[],[1,2],[3],[4],[4],[4],[4],[4,7,8],[4,6,9],[4,10],[4],[4],[4],[4,13,14],[4,15],[4,12,16],[4,17],[],[4,19],[4,20]],
  (.take 0 [] (.take 1 [] (.take 2 [] (.take 3 [] (.take 4 [] (.take 5 [] (.take 6 [] (.take 7 [] (.take 8 [] (.take 9 [] (.take 10 [] (.take 11 [] (.take 12 [] (.take 13 [] (.take 14 [] (.take 15 [] (.take 16 [] (.take 17 [] (.take 18 [] (.br 19 [] [] (.take 20 [] (.take 21 [] .done)) .stop))))))))))))))))))))⟩
def dt206x5:DrawPlan:=⟨[[],[],[],[],[2,3],[1,2,3,4],[1,2,3,4,5],[],[],[],[8,9],[7,8,9,10],[7,8,9,10,11],[0,1,2,3,4,5,6,7,8,9,10,11,12],[0,1,2,3,4,5,6,7,8,9,10,11,12,13],[0,1,2,3,4,5,6,7,8,9,10,11,12,13,14]],
  [[],[],[],[],[2,3],[1,4],[5],[],[],[],[8,9],[7,10],[11],[],[13],[14]],
  (.take 0 [] (.take 1 [] (.take 2 [] (.take 3 [] (.take 4 [] (.take 5 [] (.take 6 [] (.take 7 [] (.take 8 [] (.take 9 [] (.take 10 [] (.take 11 [] (.take 12 [] (.br 13 [] [] (.take 14 [] (.take 15 [] .done)) .stop))))))))))))))⟩
def dt206x6:DrawPlan:=⟨[[],[],[],[1,2],[],[],[],[5,6],[],[],[],[9,10],[8,9,10,11],[8,9,10,11,12],[],[],[],[15,16],[14,15,16,17],[14,15,16,17,18],[0,1,2,3,8,9,10,11,12,13,14,15,16,17,18,19],[0,1,2,3,8,9,10,11,12,13,14,15,16,17,18,19,20],[0,1,2,3,4,5,6,7,8,9,10,11,12,13,14,15,16,17,18,19,20,21],[0,1,2,3,4,5,6,7,8,9,10,11,12,13,14,15,16,17,18,19,20,21,22]],
  [[],[],[],[1,2],[],[],[],[5,6],[],[],[],[9,10],[8,11],[12],[],[],[],[15,16],[14,17],[18],[0,3],[],[4,7],[]],
  (.take 0 [] (.take 1 [] (.take 2 [] (.take 3 [] (.take 4 [] (.take 5 [] (.take 6 [] (.take 7 [] (.take 8 [] (.take 9 [] (.take 10 [] (.take 11 [] (.take 12 [] (.take 13 [] (.take 14 [] (.take 15 [] (.take 16 [] (.take 17 [] (.take 18 [] (.take 19 [] (.take 20 [] (.br 21 [] [] (.take 22 [] (.br 23 [] [] .done .stop)) .stop))))))))))))))))))))))⟩
def dt208x1:DrawPlan:=⟨[[],[0],[0,1],[],[3],[3,4],[3,4,5],[0,1,2,3,4,5,6],[0,1,2,3,4,5,6,7],[0,1,2,3,4,5,6,7,8]],
  [[],[0],[1],[],[3],[4],[5],[2,6],[0],[]],
  (.take 0 [] (.take 1 [] (.take 2 [] (.take 3 [] (.take 4 [] (.take 5 [] (.take 6 [] (.take 7 [] (.take 8 [] (.br 9 [] [] .done .stop))))))))))⟩
def dt208x2:DrawPlan:=⟨[[],[0],[0,1],[],[3],[3,4],[3,4,5],[0,1,2,3,4,5,6],[0,1,2,3,4,5,6,7],[0,1,2,3,4,5,6,7,8]],
  [[],[0],[1],[],[3],[4],[5],[2,6],[0],[]],
  (.take 0 [] (.take 1 [] (.take 2 [] (.take 3 [] (.take 4 [] (.take 5 [] (.take 6 [] (.take 7 [] (.take 8 [] (.br 9 [] [] .done .stop))))))))))⟩
def dt208x3:DrawPlan:=⟨[[],[0],[0,1],[],[3],[3,4],[3,4,5],[0,1,2,3,4,5,6],[0,1,2,3,4,5,6,7],[0,1,2,3,4,5,6,7,8]],
  [[],[0],[1],[],[3],[4],[5],[2,6],[0],[]],
  (.take 0 [] (.take 1 [] (.take 2 [] (.take 3 [] (.take 4 [] (.take 5 [] (.take 6 [] (.take 7 [] (.take 8 [] (.br 9 [] [] .done .stop))))))))))⟩
def dt212x1:DrawPlan:=⟨[[],[0],[],[2],[0,1,2,3],[],[5],[],[7],[0,1,2,3,4,5,6,7,8],[0,1,2,3,4,5,6,7,8,9],[0,1,2,3,4,5,6,7,8,9,10],[0,1,2,3,4,5,6,7,8,9,10,11]],
  [[],[0],[],[2],[],[],[5],[],[7],[],[4,9],[],[11]],
  (.take 0 [] (.take 1 [] (.take 2 [] (.take 3 [] (.take 5 [] (.take 6 [6] (.take 7 [6] (.take 8 [8,6] (.br 4 [8,6] [] (.br 9 [] [] (.take 10 [] (.br 11 [] [] (.take 12 [] .done) .stop)) .stop) .stop)))))))))⟩
def dt213x6:DrawPlan:=⟨[[],[],[],[1,2],[1,2,3],[],[],[6],[5,6,7],[5,6,7,8],[0,1,2,3,4,5,6,7,8,9]],
  [[],[],[],[1,2],[3],[],[],[6],[5,7],[8],[]],
  (.take 0 [] (.take 1 [] (.take 2 [] (.take 3 [] (.take 4 [] (.take 5 [] (.take 6 [] (.take 7 [] (.take 8 [] (.take 9 [] (.br 10 [] [] .done .stop)))))))))))⟩
def dt213x11:DrawPlan:=⟨[[],[],[],[1,2],[1,2,3],[],[],[6],[5,6,7],[5,6,7,8],[0,1,2,3,4,5,6,7,8,9],[0,1,2,3,4,5,6,7,8,9,10]],
  [[],[],[],[1,2],[3],[],[],[6],[5,7],[8],[],[10]],
  (.take 0 [] (.take 1 [] (.take 2 [] (.take 3 [] (.take 4 [] (.take 5 [] (.take 6 [] (.take 7 [] (.take 8 [] (.take 9 [] (.br 10 [] [] (.take 11 [] .done) .stop)))))))))))⟩
def dt217x7:DrawPlan:=⟨[[],[],[1],[],[],[4],[],[6],[6,7],[],[9],[0,1,2,6,7,8],[0,1,2,6,7,8,11],[0,1,2,3,4,5,6,7,8,9,10,11,12],[0,1,2,3,4,5,6,7,8,9,10,11,12,13]],
  [[],[],[1],[],[],[4],[],[6],[7],[],[9],[0,2],[],[3,5],[]],
  (.take 0 [] (.take 1 [] (.take 2 [] (.take 3 [] (.take 4 [] (.take 5 [] (.take 6 [] (.take 7 [] (.take 8 [] (.take 9 [] (.take 10 [] (.take 11 [] (.br 12 [] [] (.take 13 [] (.br 14 [] [] .done .stop)) .stop)))))))))))))⟩
def dt217x8:DrawPlan:=⟨[[],[],[1],[],[],[4],[],[6],[6,7],[],[9],[0,1,2,6,7,8],[0,1,2,6,7,8,11],[0,1,2,3,4,5,6,7,8,9,10,11,12],[0,1,2,3,4,5,6,7,8,9,10,11,12,13]],
  [[],[],[1],[],[],[4],[],[6],[7],[],[9],[0,2],[],[3,5],[]],
  (.take 0 [] (.take 1 [] (.take 2 [] (.take 3 [] (.take 4 [] (.take 5 [] (.take 6 [] (.take 7 [] (.take 8 [] (.take 9 [] (.take 10 [] (.take 11 [] (.br 12 [] [] (.take 13 [] (.br 14 [] [] .done .stop)) .stop)))))))))))))⟩
def dt217x9:DrawPlan:=⟨[[],[],[1],[],[],[4],[],[6],[6,7],[],[9],[0,1,2,6,7,8],[0,1,2,6,7,8,11],[0,1,2,3,4,5,6,7,8,9,10,11,12],[0,1,2,3,4,5,6,7,8,9,10,11,12,13]],
  [[],[],[1],[],[],[4],[],[6],[7],[],[9],[0,2],[],[3,5],[]],
  (.take 0 [] (.take 1 [] (.take 2 [] (.take 3 [] (.take 4 [] (.take 5 [] (.take 6 [] (.take 7 [] (.take 8 [] (.take 9 [] (.take 10 [] (.take 11 [] (.br 12 [] [] (.take 13 [] (.br 14 [] [] .done .stop)) .stop)))))))))))))⟩
def dt217x10:DrawPlan:=⟨[[],[],[1],[],[],[4],[],[6],[6,7],[],[9],[0,1,2,6,7,8],[0,1,2,6,7,8,11],[0,1,2,3,4,5,6,7,8,9,10,11,12],[0,1,2,3,4,5,6,7,8,9,10,11,12,13]],
  [[],[],[1],[],[],[4],[],[6],[7],[],[9],[0,2],[],[3,5],[]],
  (.take 0 [] (.take 1 [] (.take 2 [] (.take 3 [] (.take 4 [] (.take 5 [] (.take 6 [] (.take 7 [] (.take 8 [] (.take 9 [] (.take 10 [] (.take 11 [] (.br 12 [] [] (.take 13 [] (.br 14 [] [] .done .stop)) .stop)))))))))))))⟩
def dt217x17:DrawPlan:=⟨[[],[],[1],[],[],[4],[],[6],[6,7],[],[9],[0,1,2,6,7,8],[0,1,2,6,7,8,11],[0,1,2,3,4,5,6,7,8,9,10,11,12],[0,1,2,3,4,5,6,7,8,9,10,11,12,13]],
  [[],[],[1],[],[],[4],[],[6],[7],[],[9],[0,2],[],[3,5],[]],
  (.take 0 [] (.take 1 [] (.take 2 [] (.take 3 [] (.take 4 [] (.take 5 [] (.take 6 [] (.take 7 [] (.take 8 [] (.take 9 [] (.take 10 [] (.take 11 [] (.br 12 [] [] (.take 13 [] (.br 14 [] [] .done .stop)) .stop)))))))))))))⟩
def dt217x18:DrawPlan:=⟨[[],[],[1],[],[],[4],[],[6],[6,7],[],[9],[0,1,2,6,7,8],[0,1,2,6,7,8,11],[0,1,2,3,4,5,6,7,8,9,10,11,12],[0,1,2,3,4,5,6,7,8,9,10,11,12,13]],
  [[],[],[1],[],[],[4],[],[6],[7],[],[9],[0,2],[],[3,5],[]],
  (.take 0 [] (.take 1 [] (.take 2 [] (.take 3 [] (.take 4 [] (.take 5 [] (.take 6 [] (.take 7 [] (.take 8 [] (.take 9 [] (.take 10 [] (.take 11 [] (.br 12 [] [] (.take 13 [] (.br 14 [] [] .done .stop)) .stop)))))))))))))⟩
def dt217x23:DrawPlan:=⟨[[],[],[1],[],[],[4],[],[6],[6,7],[],[9],[0,1,2,6,7,8],[0,1,2,6,7,8,11],[0,1,2,3,4,5,6,7,8,9,10,11,12],[0,1,2,3,4,5,6,7,8,9,10,11,12,13]],
  [[],[],[1],[],[],[4],[],[6],[7],[],[9],[0,2],[],[3,5],[]],
  (.take 0 [] (.take 1 [] (.take 2 [] (.take 3 [] (.take 4 [] (.take 5 [] (.take 6 [] (.take 7 [] (.take 8 [] (.take 9 [] (.take 10 [] (.take 11 [] (.br 12 [] [] (.take 13 [] (.br 14 [] [] .done .stop)) .stop)))))))))))))⟩
def dt228x1:DrawPlan:=⟨[[],[],[],[1,2],[1,2,3],[],[],[5,6],[5,6,7],[0,1,2,3,4,5,6,7,8],[0,1,2,3,4,5,6,7,8,9]],
  [[],[],[],[1,2],[3],[],[],[5,6],[7],[],[9]],
  (.take 0 [] (.take 1 [] (.take 2 [] (.take 3 [] (.take 4 [] (.take 5 [] (.take 6 [] (.take 7 [] (.take 8 [] (.br 9 [] [] (.take 10 [] .done) .stop))))))))))⟩
def dt229x17:DrawPlan:=⟨[[],[0],[0,1],[0,1,2],[0,1,2],[0,1,2],[0,1,2,5],[0,1,2,4,5,6],[0,1,2,4,5,6,7],[0,1,2],[0,1,2],[0,1,2,9,10],[0,1,2,9,10,11],[0,1,2,3,4,5,6,7,8,9,10,11,12],[0,1,2,3,4,5,6,7,8,9,10,11,12,13],[0,1,2,3,4,5,6,7,8,9,10,11,12,13,14],[0,1,2,3,4,5,6,7,8,9,10,11,12,13,14,15]],
  [[],[0],[1],[2],[2],[2],[2,5],[2,4,6],[2,7],[2],[2],[2,9,10],[2,11],[],[2,13],[2,14],[2,15]],
  (.take 0 [] (.take 1 [] (.take 2 [] (.take 3 [] (.take 4 [] (.take 5 [] (.take 6 [] (.take 7 [] (.take 8 [] (.take 9 [] (.take 10 [] (.take 11 [] (.take 12 [] (.br 13 [] [] (.take 14 [] (.take 15 [] (.take 16 [] .done))) .stop))))))))))))))⟩
def dt237x4:DrawPlan:=⟨[[],[],[0,1],[0,1,2],[0,1,2,3],[0,1,2,3],[0,1,2,3],[0,1,2,3,5,6],[0,1,2,3,5,6,7],[0,1,2,3],[0,1,2,3],[0,1,2,3,10],[0,1,2,3,9,10,11],[0,1,2,3,9,10,11,12],[0,1,2,3,4,5,6,7,8,9,10,11,12,13],[0,1,2,3,4,5,6,7,8,9,10,11,12,13,14],[0,1,2,3,4,5,6,7,8,9,10,11,12,13,14,15]],
  [[],[],[0,1],[2],[3],[3],[3],[3,5,6],[3,7],[3],[3],[3,10],[3,9,11],[3,12],[],[3,14],[3,15]],
  (.take 0 [] (.take 1 [] (.take 2 [] (.take 3 [] (.take 4 [] (.take 5 [] (.take 6 [] (.take 7 [] (.take 8 [] (.take 9 [] (.take 10 [] (.take 11 [] (.take 12 [] (.take 13 [] (.br 14 [] [] (.take 15 [] (.take 16 [] .done)) .stop)))))))))))))))⟩
def dt237x6:DrawPlan:=⟨[[],[],[],[],[3],[],[],[6],[5,6,7],[5,6,7,8],[],[],[10,11],[10,11,12],[0,1,5,6,7,8,9,10,11,12,13],[0,1,5,6,7,8,9,10,11,12,13,14],[0,1,2,3,4,5,6,7,8,9,10,11,12,13,14,15],[0,1,2,3,4,5,6,7,8,9,10,11,12,13,14,15,16]],
  [[],[],[],[],[3],[],[],[6],[5,7],[8],[],[],[10,11],[12],[0,1],[],[2,4],[]],
  (.take 0 [] (.take 1 [] (.take 2 [] (.take 3 [] (.take 4 [] (.take 5 [] (.take 6 [] (.take 7 [] (.take 8 [] (.take 9 [] (.take 10 [] (.take 11 [] (.take 12 [] (.take 13 [] (.take 14 [] (.br 15 [] [] (.take 16 [] (.br 17 [] [] .done .stop)) .stop))))))))))))))))⟩
def dt238x10:DrawPlan:=⟨[[],[],[],[],[],[3,4],[],[],[],[7,8],[6,7,8,9],[6,7,8,9,10],[],[],[12,13],[12,13,14],[0,1,6,7,8,9,10,11,12,13,14,15],[0,1,6,7,8,9,10,11,12,13,14,15,16],[0,1,2,3,4,5,6,7,8,9,10,11,12,13,14,15,16,17],[0,1,2,3,4,5,6,7,8,9,10,11,12,13,14,15,16,17,18]],
  [[],[],[],[],[],[3,4],[],[],[],[7,8],[6,9],[10],[],[],[12,13],[14],[0,1],[],[2,5],[]],
  (.take 0 [] (.take 1 [] (.take 2 [] (.take 3 [] (.take 4 [] (.take 5 [] (.take 6 [] (.take 7 [] (.take 8 [] (.take 9 [] (.take 10 [] (.take 11 [] (.take 12 [] (.take 13 [] (.take 14 [] (.take 15 [] (.take 16 [] (.br 17 [] [] (.take 18 [] (.br 19 [] [] .done .stop)) .stop))))))))))))))))))⟩
def dt239x10:DrawPlan:=⟨[[],[],[],[],[],[3,4],[],[],[],[7,8],[6,7,8,9],[6,7,8,9,10],[],[],[12,13],[12,13,14],[0,1,6,7,8,9,10,11,12,13,14,15],[0,1,6,7,8,9,10,11,12,13,14,15,16],[0,1,2,3,4,5,6,7,8,9,10,11,12,13,14,15,16,17],[0,1,2,3,4,5,6,7,8,9,10,11,12,13,14,15,16,17,18]],
  [[],[],[],[],[],[3,4],[],[],[],[7,8],[6,9],[10],[],[],[12,13],[14],[0,1],[],[2,5],[]],
  (.take 0 [] (.take 1 [] (.take 2 [] (.take 3 [] (.take 4 [] (.take 5 [] (.take 6 [] (.take 7 [] (.take 8 [] (.take 9 [] (.take 10 [] (.take 11 [] (.take 12 [] (.take 13 [] (.take 14 [] (.take 15 [] (.take 16 [] (.br 17 [] [] (.take 18 [] (.br 19 [] [] .done .stop)) .stop))))))))))))))))))⟩
def dt241x3:DrawPlan:=⟨[[],[],[],[],[],[],[4,5],[4,5,6],[],[],[8,9],[8,9,10],[0,1,4,5,6,7,8,9,10,11],[0,1,4,5,6,7,8,9,10,11,12],[0,1,2,3,4,5,6,7,8,9,10,11,12,13],[0,1,2,3,4,5,6,7,8,9,10,11,12,13,14]],
  [[],[],[],[],[],[],[4,5],[6],[],[],[8,9],[10],[0,1],[],[2,3],[]],
  (.take 0 [] (.take 1 [] (.take 2 [] (.take 3 [] (.take 4 [] (.take 5 [] (.take 6 [] (.take 7 [] (.take 8 [] (.take 9 [] (.take 10 [] (.take 11 [] (.take 12 [] (.br 13 [] [] (.take 14 [] (.br 15 [] [] .done .stop)) .stop))))))))))))))⟩
def dt242x5:DrawPlan:=⟨[[],[],[0,1],[0,1,2],[0,1,2,3],[0,1,2,3],[0,1,2,3],[0,1,2,3,5,6],[0,1,2,3,5,6,7],[0,1,2,3],[0,1,2,3],[0,1,2,3,10],[0,1,2,3,9,10,11],[0,1,2,3,9,10,11,12],[0,1,2,3,4,5,6,7,8,9,10,11,12,13],[0,1,2,3,4,5,6,7,8,9,10,11,12,13,14],[0,1,2,3,4,5,6,7,8,9,10,11,12,13,14,15],[0,1,2,3,4,5,6,7,8,9,10,11,12,13,14,15,16]],
  [[],[],[0,1],[2],[3],[3],[3],[3,5,6],[3,7],[3],[3],[3,10],[3,9,11],[3,12],[],[3,14],[3,15],[3,16]],
  (.take 0 [] (.take 1 [] (.take 2 [] (.take 3 [] (.take 4 [] (.take 5 [] (.take 6 [] (.take 7 [] (.take 8 [] (.take 9 [] (.take 10 [] (.take 11 [] (.take 12 [] (.take 13 [] (.br 14 [] [] (.take 15 [] (.take 16 [] (.take 17 [] .done))) .stop)))))))))))))))⟩
def dt242x11:DrawPlan:=⟨[[],[],[],[],[3],[],[],[6],[5,6,7],[5,6,7,8],[],[],[10,11],[10,11,12],[0,1,5,6,7,8,9,10,11,12,13],[0,1,5,6,7,8,9,10,11,12,13,14],[0,1,2,3,4,5,6,7,8,9,10,11,12,13,14,15],[0,1,2,3,4,5,6,7,8,9,10,11,12,13,14,15,16]],
  [[],[],[],[],[3],[],[],[6],[5,7],[8],[],[],[10,11],[12],[0,1],[],[2,4],[]],
  (.take 0 [] (.take 1 [] (.take 2 [] (.take 3 [] (.take 4 [] (.take 5 [] (.take 6 [] (.take 7 [] (.take 8 [] (.take 9 [] (.take 10 [] (.take 11 [] (.take 12 [] (.take 13 [] (.take 14 [] (.br 15 [] [] (.take 16 [] (.br 17 [] [] .done .stop)) .stop))))))))))))))))⟩
def dt242x16:DrawPlan:=⟨[[],[],[],[1,2],[1,2,3],[],[],[6],[5,6,7],[5,6,7,8],[0,1,2,3,4,5,6,7,8,9],[0,1,2,3,4,5,6,7,8,9,10],[0,1,2,3,4,5,6,7,8,9,10,11]],
  [[],[],[],[1,2],[3],[],[],[6],[5,7],[8],[],[10],[11]],
  (.take 0 [] (.take 1 [] (.take 2 [] (.take 3 [] (.take 4 [] (.take 5 [] (.take 6 [] (.take 7 [] (.take 8 [] (.take 9 [] (.br 10 [] [] (.take 11 [] (.take 12 [] .done)) .stop)))))))))))⟩
def dt242x17:DrawPlan:=⟨[[],[],[],[],[3],[],[],[6],[5,6,7],[5,6,7,8],[],[],[10,11],[10,11,12],[0,1,5,6,7,8,9,10,11,12,13],[0,1,5,6,7,8,9,10,11,12,13,14],[0,1,2,3,4,5,6,7,8,9,10,11,12,13,14,15],[0,1,2,3,4,5,6,7,8,9,10,11,12,13,14,15,16]],
  [[],[],[],[],[3],[],[],[6],[5,7],[8],[],[],[10,11],[12],[0,1],[],[2,4],[]],
  (.take 0 [] (.take 1 [] (.take 2 [] (.take 3 [] (.take 4 [] (.take 5 [] (.take 6 [] (.take 7 [] (.take 8 [] (.take 9 [] (.take 10 [] (.take 11 [] (.take 12 [] (.take 13 [] (.take 14 [] (.br 15 [] [] (.take 16 [] (.br 17 [] [] .done .stop)) .stop))))))))))))))))⟩
def dt242x22:DrawPlan:=⟨[[],[],[],[1,2],[1,2,3],[],[],[6],[5,6,7],[5,6,7,8],[0,1,2,3,4,5,6,7,8,9],[0,1,2,3,4,5,6,7,8,9,10],[0,1,2,3,4,5,6,7,8,9,10,11]],
  [[],[],[],[1,2],[3],[],[],[6],[5,7],[8],[],[10],[11]],
  (.take 0 [] (.take 1 [] (.take 2 [] (.take 3 [] (.take 4 [] (.take 5 [] (.take 6 [] (.take 7 [] (.take 8 [] (.take 9 [] (.br 10 [] [] (.take 11 [] (.take 12 [] .done)) .stop)))))))))))⟩
def dt242x23:DrawPlan:=⟨[[],[],[],[],[3],[],[],[6],[5,6,7],[5,6,7,8],[],[],[10,11],[10,11,12],[0,1,5,6,7,8,9,10,11,12,13],[0,1,5,6,7,8,9,10,11,12,13,14],[0,1,2,3,4,5,6,7,8,9,10,11,12,13,14,15],[0,1,2,3,4,5,6,7,8,9,10,11,12,13,14,15,16]],
  [[],[],[],[],[3],[],[],[6],[5,7],[8],[],[],[10,11],[12],[0,1],[],[2,4],[]],
  (.take 0 [] (.take 1 [] (.take 2 [] (.take 3 [] (.take 4 [] (.take 5 [] (.take 6 [] (.take 7 [] (.take 8 [] (.take 9 [] (.take 10 [] (.take 11 [] (.take 12 [] (.take 13 [] (.take 14 [] (.br 15 [] [] (.take 16 [] (.br 17 [] [] .done .stop)) .stop))))))))))))))))⟩
def dt243x1:DrawPlan:=⟨[[],[],[],[],[],[],[4,5],[4,5,6],[],[],[8,9],[8,9,10],[0,1,4,5,6,7,8,9,10,11],[0,1,4,5,6,7,8,9,10,11,12],[0,1,2,3,4,5,6,7,8,9,10,11,12,13],[0,1,2,3,4,5,6,7,8,9,10,11,12,13,14]],
  [[],[],[],[],[],[],[4,5],[6],[],[],[8,9],[10],[0,1],[],[2,3],[]],
  (.take 0 [] (.take 1 [] (.take 2 [] (.take 3 [] (.take 4 [] (.take 5 [] (.take 6 [] (.take 7 [] (.take 8 [] (.take 9 [] (.take 10 [] (.take 11 [] (.take 12 [] (.br 13 [] [] (.take 14 [] (.br 15 [] [] .done .stop)) .stop))))))))))))))⟩
def dt243x3:DrawPlan:=⟨[[],[],[0,1],[0,1,2],[0,1,2,3],[0,1,2,3],[0,1,2,3],[0,1,2,3,5,6],[0,1,2,3,5,6,7],[0,1,2,3],[0,1,2,3],[0,1,2,3,9,10],[0,1,2,3,9,10,11],[0,1,2,3,4,5,6,7,8,9,10,11,12],[0,1,2,3,4,5,6,7,8,9,10,11,12,13],[0,1,2,3,4,5,6,7,8,9,10,11,12,13,14],[0,1,2,3,4,5,6,7,8,9,10,11,12,13,14,15]],
  [[],[],[0,1],[2],[3],[3],[3],[3,5,6],[3,7],[3],[3],[3,9,10],[3,11],[],[3,13],[3,14],[3,15]],
  (.take 0 [] (.take 1 [] (.take 2 [] (.take 3 [] (.take 4 [] (.take 5 [] (.take 6 [] (.take 7 [] (.take 8 [] (.take 9 [] (.take 10 [] (.take 11 [] (.take 12 [] (.br 13 [] [] (.take 14 [] (.take 15 [] (.take 16 [] .done))) .stop))))))))))))))⟩
def dt243x5:DrawPlan:=⟨[[],[],[0,1],[0,1,2],[0,1,2,3],[0,1,2,3],[0,1,2,3],[0,1,2,3,5,6],[0,1,2,3,5,6,7],[0,1,2,3],[0,1,2,3],[0,1,2,3,9,10],[0,1,2,3,9,10,11],[0,1,2,3,4,5,6,7,8,9,10,11,12],[0,1,2,3,4,5,6,7,8,9,10,11,12,13],[0,1,2,3,4,5,6,7,8,9,10,11,12,13,14]],
  [[],[],[0,1],[2],[3],[3],[3],[3,5,6],[3,7],[3],[3],[3,9,10],[3,11],[],[3,13],[3,14]],
  (.take 0 [] (.take 1 [] (.take 2 [] (.take 3 [] (.take 4 [] (.take 5 [] (.take 6 [] (.take 7 [] (.take 8 [] (.take 9 [] (.take 10 [] (.take 11 [] (.take 12 [] (.br 13 [] [] (.take 14 [] (.take 15 [] .done)) .stop))))))))))))))⟩
def dt243x8:DrawPlan:=⟨[[],[],[],[],[],[],[4,5],[4,5,6],[],[],[8,9],[8,9,10],[0,1,4,5,6,7,8,9,10,11],[0,1,4,5,6,7,8,9,10,11,12],[0,1,2,3,4,5,6,7,8,9,10,11,12,13],[0,1,2,3,4,5,6,7,8,9,10,11,12,13,14]],
  [[],[],[],[],[],[],[4,5],[6],[],[],[8,9],[10],[0,1],[],[2,3],[]],
  (.take 0 [] (.take 1 [] (.take 2 [] (.take 3 [] (.take 4 [] (.take 5 [] (.take 6 [] (.take 7 [] (.take 8 [] (.take 9 [] (.take 10 [] (.take 11 [] (.take 12 [] (.br 13 [] [] (.take 14 [] (.br 15 [] [] .done .stop)) .stop))))))))))))))⟩
def dt244x1:DrawPlan:=⟨[[],[],[],[],[],[],[4,5],[4,5,6],[],[],[8,9],[8,9,10],[0,1,4,5,6,7,8,9,10,11],[0,1,4,5,6,7,8,9,10,11,12],[0,1,2,3,4,5,6,7,8,9,10,11,12,13],[0,1,2,3,4,5,6,7,8,9,10,11,12,13,14]],
  [[],[],[],[],[],[],[4,5],[6],[],[],[8,9],[10],[0,1],[],[2,3],[]],
  (.take 0 [] (.take 1 [] (.take 2 [] (.take 3 [] (.take 4 [] (.take 5 [] (.take 6 [] (.take 7 [] (.take 8 [] (.take 9 [] (.take 10 [] (.take 11 [] (.take 12 [] (.br 13 [] [] (.take 14 [] (.br 15 [] [] .done .stop)) .stop))))))))))))))⟩
def dt244x3:DrawPlan:=⟨[[],[],[0,1],[0,1,2],[0,1,2,3],[0,1,2,3],[0,1,2,3],[0,1,2,3,5,6],[0,1,2,3,5,6,7],[0,1,2,3],[0,1,2,3],[0,1,2,3,9,10],[0,1,2,3,9,10,11],[0,1,2,3,4,5,6,7,8,9,10,11,12],[0,1,2,3,4,5,6,7,8,9,10,11,12,13],[0,1,2,3,4,5,6,7,8,9,10,11,12,13,14]],
  [[],[],[0,1],[2],[3],[3],[3],[3,5,6],[3,7],[3],[3],[3,9,10],[3,11],[],[3,13],[3,14]],
  (.take 0 [] (.take 1 [] (.take 2 [] (.take 3 [] (.take 4 [] (.take 5 [] (.take 6 [] (.take 7 [] (.take 8 [] (.take 9 [] (.take 10 [] (.take 11 [] (.take 12 [] (.br 13 [] [] (.take 14 [] (.take 15 [] .done)) .stop))))))))))))))⟩
def dt244x5:DrawPlan:=⟨[[],[],[0,1],[0,1,2],[0,1,2,3],[0,1,2,3],[0,1,2,3],[0,1,2,3,5,6],[0,1,2,3,5,6,7],[0,1,2,3],[0,1,2,3],[0,1,2,3,9,10],[0,1,2,3,9,10,11],[0,1,2,3,4,5,6,7,8,9,10,11,12],[0,1,2,3,4,5,6,7,8,9,10,11,12,13],[0,1,2,3,4,5,6,7,8,9,10,11,12,13,14],[0,1,2,3,4,5,6,7,8,9,10,11,12,13,14,15]],
  [[],[],[0,1],[2],[3],[3],[3],[3,5,6],[3,7],[3],[3],[3,9,10],[3,11],[],[3,13],[3,14],[3,15]],
  (.take 0 [] (.take 1 [] (.take 2 [] (.take 3 [] (.take 4 [] (.take 5 [] (.take 6 [] (.take 7 [] (.take 8 [] (.take 9 [] (.take 10 [] (.take 11 [] (.take 12 [] (.br 13 [] [] (.take 14 [] (.take 15 [] (.take 16 [] .done))) .stop))))))))))))))⟩
def dt244x8:DrawPlan:=⟨[[],[],[],[],[],[],[4,5],[4,5,6],[],[],[8,9],[8,9,10],[0,1,4,5,6,7,8,9,10,11],[0,1,4,5,6,7,8,9,10,11,12],[0,1,2,3,4,5,6,7,8,9,10,11,12,13],[0,1,2,3,4,5,6,7,8,9,10,11,12,13,14]],
  [[],[],[],[],[],[],[4,5],[6],[],[],[8,9],[10],[0,1],[],[2,3],[]],
  (.take 0 [] (.take 1 [] (.take 2 [] (.take 3 [] (.take 4 [] (.take 5 [] (.take 6 [] (.take 7 [] (.take 8 [] (.take 9 [] (.take 10 [] (.take 11 [] (.take 12 [] (.br 13 [] [] (.take 14 [] (.br 15 [] [] .done .stop)) .stop))))))))))))))⟩
def dt244x10:DrawPlan:=⟨[[],[],[],[],[],[],[4,5],[4,5,6],[],[],[8,9],[8,9,10],[0,1,4,5,6,7,8,9,10,11],[0,1,4,5,6,7,8,9,10,11,12],[0,1,2,3,4,5,6,7,8,9,10,11,12,13],[0,1,2,3,4,5,6,7,8,9,10,11,12,13,14]],
  [[],[],[],[],[],[],[4,5],[6],[],[],[8,9],[10],[0,1],[],[2,3],[]],
  (.take 0 [] (.take 1 [] (.take 2 [] (.take 3 [] (.take 4 [] (.take 5 [] (.take 6 [] (.take 7 [] (.take 8 [] (.take 9 [] (.take 10 [] (.take 11 [] (.take 12 [] (.br 13 [] [] (.take 14 [] (.br 15 [] [] .done .stop)) .stop))))))))))))))⟩
def dt244x13:DrawPlan:=⟨[[],[],[0,1],[0,1,2],[0,1,2,3],[0,1,2,3],[0,1,2,3],[0,1,2,3,5,6],[0,1,2,3,5,6,7],[0,1,2,3],[0,1,2,3],[0,1,2,3,9,10],[0,1,2,3,9,10,11],[0,1,2,3,4,5,6,7,8,9,10,11,12],[0,1,2,3,4,5,6,7,8,9,10,11,12,13],[0,1,2,3,4,5,6,7,8,9,10,11,12,13,14]],
  [[],[],[0,1],[2],[3],[3],[3],[3,5,6],[3,7],[3],[3],[3,9,10],[3,11],[],[3,13],[3,14]],
  (.take 0 [] (.take 1 [] (.take 2 [] (.take 3 [] (.take 4 [] (.take 5 [] (.take 6 [] (.take 7 [] (.take 8 [] (.take 9 [] (.take 10 [] (.take 11 [] (.take 12 [] (.br 13 [] [] (.take 14 [] (.take 15 [] .done)) .stop))))))))))))))⟩
def dt244x15:DrawPlan:=⟨[[],[],[0,1],[0,1,2],[0,1,2,3],[0,1,2,3],[0,1,2,3],[0,1,2,3,5,6],[0,1,2,3,5,6,7],[0,1,2,3],[0,1,2,3],[0,1,2,3,9,10],[0,1,2,3,9,10,11],[0,1,2,3,4,5,6,7,8,9,10,11,12],[0,1,2,3,4,5,6,7,8,9,10,11,12,13],[0,1,2,3,4,5,6,7,8,9,10,11,12,13,14],[0,1,2,3,4,5,6,7,8,9,10,11,12,13,14,15]],
  [[],[],[0,1],[2],[3],[3],[3],[3,5,6],[3,7],[3],[3],[3,9,10],[3,11],[],[3,13],[3,14],[3,15]],
  (.take 0 [] (.take 1 [] (.take 2 [] (.take 3 [] (.take 4 [] (.take 5 [] (.take 6 [] (.take 7 [] (.take 8 [] (.take 9 [] (.take 10 [] (.take 11 [] (.take 12 [] (.br 13 [] [] (.take 14 [] (.take 15 [] (.take 16 [] .done))) .stop))))))))))))))⟩
def dt244x18:DrawPlan:=⟨[[],[],[],[],[],[],[4,5],[4,5,6],[],[],[8,9],[8,9,10],[0,1,4,5,6,7,8,9,10,11],[0,1,4,5,6,7,8,9,10,11,12],[0,1,2,3,4,5,6,7,8,9,10,11,12,13],[0,1,2,3,4,5,6,7,8,9,10,11,12,13,14]],
  [[],[],[],[],[],[],[4,5],[6],[],[],[8,9],[10],[0,1],[],[2,3],[]],
  (.take 0 [] (.take 1 [] (.take 2 [] (.take 3 [] (.take 4 [] (.take 5 [] (.take 6 [] (.take 7 [] (.take 8 [] (.take 9 [] (.take 10 [] (.take 11 [] (.take 12 [] (.br 13 [] [] (.take 14 [] (.br 15 [] [] .done .stop)) .stop))))))))))))))⟩
def dt244x21:DrawPlan:=⟨[[],[],[],[],[],[],[4,5],[4,5,6],[],[],[8,9],[8,9,10],[0,1,4,5,6,7,8,9,10,11],[0,1,4,5,6,7,8,9,10,11,12],[0,1,2,3,4,5,6,7,8,9,10,11,12,13],[0,1,2,3,4,5,6,7,8,9,10,11,12,13,14]],
  [[],[],[],[],[],[],[4,5],[6],[],[],[8,9],[10],[0,1],[],[2,3],[]],
  (.take 0 [] (.take 1 [] (.take 2 [] (.take 3 [] (.take 4 [] (.take 5 [] (.take 6 [] (.take 7 [] (.take 8 [] (.take 9 [] (.take 10 [] (.take 11 [] (.take 12 [] (.br 13 [] [] (.take 14 [] (.br 15 [] [] .done .stop)) .stop))))))))))))))⟩
def dt247x3:DrawPlan:=⟨[[],[0],[],[0,1,2],[0,1,2,3],[0,1,2,3,4],[0,1,2,3,4],[0,1,2,3,4],[0,1,2,3,4],[0,1,2,3,4,7,8],[0,1,2,3,4,6,7,8,9],[0,1,2,3,4,6,7,8,9,10],[0,1,2,3,4],[0,1,2,3,4],[0,1,2,3,4],[0,1,2,3,4,13,14],[0,1,2,3,4,13,14,15],[0,1,2,3,4,12,13,14,15,16],[0,1,2,3,4,12,13,14,15,16,17],[0,1,2,3,4,5,6,7,8,9,10,11,12,13,14,15,16,17,18],[0,1,2,3,4,5,6,7,8,9,10,11,12,13,14,15,16,17,18,19],[0,1,2,3,4,5,6,7,8,9,10,11,12,13,14,15,16,17,18,19,20]],
  [[],[0],[],[1,2],[3],[4],[4],[4],[4],[4,7,8],[4,6,9],[4,10],[4],[4],[4],[4,13,14],[4,15],[4,12,16],[4,17],[],[4,19],[4,20]],
  (.take 0 [] (.take 1 [] (.take 2 [] (.take 3 [] (.take 4 [] (.take 5 [] (.take 6 [] (.take 7 [] (.take 8 [] (.take 9 [] (.take 10 [] (.take 11 [] (.take 12 [] (.take 13 [] (.take 14 [] (.take 15 [] (.take 16 [] (.take 17 [] (.take 18 [] (.br 19 [] [] (.take 20 [] (.take 21 [] .done)) .stop))))))))))))))))))))⟩
def dt247x5:DrawPlan:=⟨[[],[],[],[],[2,3],[1,2,3,4],[1,2,3,4,5],[],[],[],[8,9],[7,8,9,10],[7,8,9,10,11],[0,1,2,3,4,5,6,7,8,9,10,11,12],[0,1,2,3,4,5,6,7,8,9,10,11,12,13],[0,1,2,3,4,5,6,7,8,9,10,11,12,13,14]],
  [[],[],[],[],[2,3],[1,4],[5],[],[],[],[8,9],[7,10],[11],[],[13],[14]],
  (.take 0 [] (.take 1 [] (.take 2 [] (.take 3 [] (.take 4 [] (.take 5 [] (.take 6 [] (.take 7 [] (.take 8 [] (.take 9 [] (.take 10 [] (.take 11 [] (.take 12 [] (.br 13 [] [] (.take 14 [] (.take 15 [] .done)) .stop))))))))))))))⟩
def dt247x6:DrawPlan:=⟨[[],[],[],[1,2],[],[],[],[5,6],[],[],[],[9,10],[8,9,10,11],[8,9,10,11,12],[],[],[],[15,16],[14,15,16,17],[14,15,16,17,18],[0,1,2,3,8,9,10,11,12,13,14,15,16,17,18,19],[0,1,2,3,8,9,10,11,12,13,14,15,16,17,18,19,20],[0,1,2,3,4,5,6,7,8,9,10,11,12,13,14,15,16,17,18,19,20,21],[0,1,2,3,4,5,6,7,8,9,10,11,12,13,14,15,16,17,18,19,20,21,22]],
  [[],[],[],[1,2],[],[],[],[5,6],[],[],[],[9,10],[8,11],[12],[],[],[],[15,16],[14,17],[18],[0,3],[],[4,7],[]],
  (.take 0 [] (.take 1 [] (.take 2 [] (.take 3 [] (.take 4 [] (.take 5 [] (.take 6 [] (.take 7 [] (.take 8 [] (.take 9 [] (.take 10 [] (.take 11 [] (.take 12 [] (.take 13 [] (.take 14 [] (.take 15 [] (.take 16 [] (.take 17 [] (.take 18 [] (.take 19 [] (.take 20 [] (.br 21 [] [] (.take 22 [] (.br 23 [] [] .done .stop)) .stop))))))))))))))))))))))⟩
def dt250x1:DrawPlan:=⟨[[],[],[],[1,2],[1,2,3],[],[],[5,6],[5,6,7],[0,1,2,3,4,5,6,7,8],[0,1,2,3,4,5,6,7,8,9]],
  [[],[],[],[1,2],[3],[],[],[5,6],[7],[],[9]],
  (.take 0 [] (.take 1 [] (.take 2 [] (.take 3 [] (.take 4 [] (.take 5 [] (.take 6 [] (.take 7 [] (.take 8 [] (.br 9 [] [] (.take 10 [] .done) .stop))))))))))⟩
def dtF (f r:Nat):Option DrawPlan:=
  bif Nat.beq f 15 then (bif Nat.beq r 23 then some dt15x23 else none) else
  bif Nat.beq f 18 then (bif Nat.beq r 5 then some dt18x5 else none) else
  bif Nat.beq f 19 then (bif Nat.beq r 9 then some dt19x9 else bif Nat.beq r 10 then some dt19x10 else none) else
  bif Nat.beq f 24 then (bif Nat.beq r 6 then some dt24x6 else none) else
  bif Nat.beq f 27 then (bif Nat.beq r 4 then some dt27x4 else bif Nat.beq r 10 then some dt27x10 else none) else
  bif Nat.beq f 33 then (bif Nat.beq r 8 then some dt33x8 else none) else
  bif Nat.beq f 47 then (bif Nat.beq r 11 then some dt47x11 else bif Nat.beq r 23 then some dt47x23 else bif Nat.beq r 32 then some dt47x32 else none) else
  bif Nat.beq f 52 then (bif Nat.beq r 1 then some dt52x1 else none) else
  bif Nat.beq f 60 then (bif Nat.beq r 6 then some dt60x6 else none) else
  bif Nat.beq f 62 then (bif Nat.beq r 13 then some dt62x13 else bif Nat.beq r 17 then some dt62x17 else none) else
  bif Nat.beq f 72 then (bif Nat.beq r 9 then some dt72x9 else none) else
  bif Nat.beq f 82 then (bif Nat.beq r 14 then some dt82x14 else none) else
  bif Nat.beq f 89 then (bif Nat.beq r 2 then some dt89x2 else none) else
  bif Nat.beq f 92 then (bif Nat.beq r 1 then some dt92x1 else none) else
  bif Nat.beq f 96 then (bif Nat.beq r 3 then some dt96x3 else none) else
  bif Nat.beq f 99 then (bif Nat.beq r 4 then some dt99x4 else none) else
  bif Nat.beq f 103 then (bif Nat.beq r 1 then some dt103x1 else none) else
  bif Nat.beq f 105 then (bif Nat.beq r 6 then some dt105x6 else bif Nat.beq r 11 then some dt105x11 else none) else
  bif Nat.beq f 111 then (bif Nat.beq r 5 then some dt111x5 else bif Nat.beq r 8 then some dt111x8 else none) else
  bif Nat.beq f 112 then (bif Nat.beq r 1 then some dt112x1 else none) else
  bif Nat.beq f 117 then (bif Nat.beq r 6 then some dt117x6 else none) else
  bif Nat.beq f 121 then (bif Nat.beq r 1 then some dt121x1 else none) else
  bif Nat.beq f 128 then (bif Nat.beq r 12 then some dt128x12 else bif Nat.beq r 22 then some dt128x22 else none) else
  bif Nat.beq f 130 then (bif Nat.beq r 1 then some dt130x1 else none) else
  bif Nat.beq f 158 then (bif Nat.beq r 4 then some dt158x4 else none) else
  bif Nat.beq f 159 then (bif Nat.beq r 17 then some dt159x17 else none) else
  bif Nat.beq f 168 then (bif Nat.beq r 1 then some dt168x1 else none) else
  bif Nat.beq f 170 then (bif Nat.beq r 1 then some dt170x1 else none) else
  bif Nat.beq f 171 then (bif Nat.beq r 1 then some dt171x1 else none) else
  bif Nat.beq f 172 then (bif Nat.beq r 4 then some dt172x4 else none) else
  bif Nat.beq f 177 then (bif Nat.beq r 4 then some dt177x4 else none) else
  bif Nat.beq f 179 then (bif Nat.beq r 3 then some dt179x3 else none) else
  bif Nat.beq f 181 then (bif Nat.beq r 1 then some dt181x1 else none) else
  bif Nat.beq f 183 then (bif Nat.beq r 3 then some dt183x3 else none) else
  bif Nat.beq f 185 then (bif Nat.beq r 4 then some dt185x4 else bif Nat.beq r 6 then some dt185x6 else none) else
  bif Nat.beq f 186 then (bif Nat.beq r 10 then some dt186x10 else none) else
  bif Nat.beq f 187 then (bif Nat.beq r 10 then some dt187x10 else none) else
  bif Nat.beq f 189 then (bif Nat.beq r 3 then some dt189x3 else none) else
  bif Nat.beq f 190 then (bif Nat.beq r 5 then some dt190x5 else bif Nat.beq r 11 then some dt190x11 else bif Nat.beq r 16 then some dt190x16 else bif Nat.beq r 17 then some dt190x17 else bif Nat.beq r 22 then some dt190x22 else bif Nat.beq r 23 then some dt190x23 else none) else
  bif Nat.beq f 191 then (bif Nat.beq r 1 then some dt191x1 else bif Nat.beq r 3 then some dt191x3 else bif Nat.beq r 5 then some dt191x5 else bif Nat.beq r 8 then some dt191x8 else none) else
  bif Nat.beq f 192 then (bif Nat.beq r 1 then some dt192x1 else bif Nat.beq r 3 then some dt192x3 else bif Nat.beq r 5 then some dt192x5 else bif Nat.beq r 8 then some dt192x8 else bif Nat.beq r 10 then some dt192x10 else bif Nat.beq r 13 then some dt192x13 else bif Nat.beq r 15 then some dt192x15 else bif Nat.beq r 18 then some dt192x18 else bif Nat.beq r 21 then some dt192x21 else none) else
  bif Nat.beq f 201 then (bif Nat.beq r 0 then some dt201x0 else none) else
  bif Nat.beq f 206 then (bif Nat.beq r 3 then some dt206x3 else bif Nat.beq r 5 then some dt206x5 else bif Nat.beq r 6 then some dt206x6 else none) else
  bif Nat.beq f 208 then (bif Nat.beq r 1 then some dt208x1 else bif Nat.beq r 2 then some dt208x2 else bif Nat.beq r 3 then some dt208x3 else none) else
  bif Nat.beq f 212 then (bif Nat.beq r 1 then some dt212x1 else none) else
  bif Nat.beq f 213 then (bif Nat.beq r 6 then some dt213x6 else bif Nat.beq r 11 then some dt213x11 else none) else
  bif Nat.beq f 217 then (bif Nat.beq r 7 then some dt217x7 else bif Nat.beq r 8 then some dt217x8 else bif Nat.beq r 9 then some dt217x9 else bif Nat.beq r 10 then some dt217x10 else bif Nat.beq r 17 then some dt217x17 else bif Nat.beq r 18 then some dt217x18 else bif Nat.beq r 23 then some dt217x23 else none) else
  bif Nat.beq f 228 then (bif Nat.beq r 1 then some dt228x1 else none) else
  bif Nat.beq f 229 then (bif Nat.beq r 17 then some dt229x17 else none) else
  bif Nat.beq f 237 then (bif Nat.beq r 4 then some dt237x4 else bif Nat.beq r 6 then some dt237x6 else none) else
  bif Nat.beq f 238 then (bif Nat.beq r 10 then some dt238x10 else none) else
  bif Nat.beq f 239 then (bif Nat.beq r 10 then some dt239x10 else none) else
  bif Nat.beq f 241 then (bif Nat.beq r 3 then some dt241x3 else none) else
  bif Nat.beq f 242 then (bif Nat.beq r 5 then some dt242x5 else bif Nat.beq r 11 then some dt242x11 else bif Nat.beq r 16 then some dt242x16 else bif Nat.beq r 17 then some dt242x17 else bif Nat.beq r 22 then some dt242x22 else bif Nat.beq r 23 then some dt242x23 else none) else
  bif Nat.beq f 243 then (bif Nat.beq r 1 then some dt243x1 else bif Nat.beq r 3 then some dt243x3 else bif Nat.beq r 5 then some dt243x5 else bif Nat.beq r 8 then some dt243x8 else none) else
  bif Nat.beq f 244 then (bif Nat.beq r 1 then some dt244x1 else bif Nat.beq r 3 then some dt244x3 else bif Nat.beq r 5 then some dt244x5 else bif Nat.beq r 8 then some dt244x8 else bif Nat.beq r 10 then some dt244x10 else bif Nat.beq r 13 then some dt244x13 else bif Nat.beq r 15 then some dt244x15 else bif Nat.beq r 18 then some dt244x18 else bif Nat.beq r 21 then some dt244x21 else none) else
  bif Nat.beq f 247 then (bif Nat.beq r 3 then some dt247x3 else bif Nat.beq r 5 then some dt247x5 else bif Nat.beq r 6 then some dt247x6 else none) else
  bif Nat.beq f 250 then (bif Nat.beq r 1 then some dt250x1 else none) else none
def okF (f:Nat):Bool:=Nat.blt f 278&&!(([4,5,6,7,9,10,12,13,22,23,25,30,38,39,40,43,45,48,49,50,56,57,59,64,65,66,67,68,69,71,73,74,78,79,81,84,95,106,113,115,126,127,139,140,146,156,175,176]:List Nat).any (Nat.beq f))
theorem drawsAll:(List.range 278).all (fun f=>!okF f || match Tryz.prog.funcs[f]? with
  | some fn=>match fn.body with
    | some c=>codeDraws (dtF f) c
    | none=>true
  | none=>true)=true:=by kernel_rfl
theorem drawsOk (f:FuncId) (fn:Func) (c:Code) (h:okF f=true) (hf:Tryz.prog.funcs[f]?=some fn) (hb:fn.body=some c):codeDraws (dtF f) c=true:=by
  have hlt:f < 278:=by
    have:Nat.blt f 278=true:=by
      rw [okF,Bool.and_eq_true] at h
      exact h.1
    exact Nat.le_of_ble_eq_true this
  have h1:=List.all_eq_true.1 drawsAll f (List.mem_range.2 hlt)
  rw [h,hf] at h1
  simp only [hb] at h1
  simpa using h1
noncomputable def envD:EnvD:={ toEnv:=env,dt:=dtF,okF:=okF,draws:=drawsOk }
end Go.Proofs.YtfiopgedfcaodaaGreatDoor
