/- The abstract machine's surroundings for this program: its types as a table (printed by a program of ours,checked by the kernel). -/
import Derived.Test.YtldcljfjjoidhaaGreatDoorProg
import Derived.Test.YtldcljfjjoidhaaGreatDoorAmKK
import Derived.KernelRfl
set_option linter.all false
namespace Go.Proofs.YtldcljfjjoidhaaGreatDoor
open Go Go.Am
set_option maxRecDepth 100000
def tI (k : TK) (n : Nat) (a : Bool) (z : Option AV) (e : EK) : Option TI := some ⟨k, n, a, z, e⟩
def tiT (t : Nat) : Option TI :=
 bif Nat.ble t 154 then
 bif Nat.ble t 76 then
 bif Nat.ble t 37 then
 bif Nat.ble t 18 then
 bif Nat.ble t 8 then
 bif Nat.ble t 3 then
 bif Nat.ble t 1 then
 bif Nat.ble t 0 then
 tI (.sc) 1 false (some (.bi [])) (.no)
 else
 tI (.sc) 1 false (some (.cE)) (.no)
 else
 bif Nat.ble t 2 then
 tI (.int .i64) 1 false (some (.int .i64 0)) (.int)
 else
 tI (.int .i64) 1 false (some (.int .i64 0)) (.int)
 else
 bif Nat.ble t 5 then
 bif Nat.ble t 4 then
 tI (.sc) 1 false (some (.bool false)) (.bool)
 else
 tI (.int .u8) 1 false (some (.int .u8 0)) (.int)
 else
 bif Nat.ble t 6 then
 tI (.int .u8) 1 false (some (.int .u8 0)) (.int)
 else
 bif Nat.ble t 7 then
 tI (.st [(0,1,false),(1,1,false),(2,1,false),(3,1,false)]) 4 true (some (.agg [.int .i64 0,.int .i64 0,.bool false,.int .u8 0])) ((.st (.cons 0 1 false .int (.cons 1 1 false .int (.cons 2 1 false .bool (.cons 3 1 false .int .nil))))))
 else
 tI (.st [(0,1,false),(1,1,false),(2,1,false),(3,1,false)]) 4 true (some (.agg [.int .i64 0,.int .i64 0,.bool false,.int .u8 0])) ((.st (.cons 0 1 false .int (.cons 1 1 false .int (.cons 2 1 false .bool (.cons 3 1 false .int .nil))))))
 else
 bif Nat.ble t 13 then
 bif Nat.ble t 10 then
 bif Nat.ble t 9 then
 tI (.str) 1 false (some (.str [])) (.str)
 else
 tI (.str) 1 false (some (.str [])) (.str)
 else
 bif Nat.ble t 11 then
 tI (.str) 1 false (some (.str [])) (.str)
 else
 bif Nat.ble t 12 then
 tI (.int .u64) 1 false (some (.int .u64 0)) (.int)
 else
 none
 else
 bif Nat.ble t 15 then
 bif Nat.ble t 14 then
 none
 else
 tI (.sc) 1 false (some (.ir)) (.no)
 else
 bif Nat.ble t 16 then
 tI (.sc) 1 false (some (.ir)) (.no)
 else
 bif Nat.ble t 17 then
 tI (.sc) 1 false (some (.ir)) (.no)
 else
 none
 else
 bif Nat.ble t 27 then
 bif Nat.ble t 22 then
 bif Nat.ble t 20 then
 bif Nat.ble t 19 then
 none
 else
 tI (.sc) 1 false (some (.nQ)) (.no)
 else
 bif Nat.ble t 21 then
 tI (.int .i32) 1 false (some (.int .i32 0)) (.int)
 else
 tI (.sl 106 3 true 24 (some (.agg [.int .i64 0,.int .i64 0,.int .i64 0]))) 1 false (some (.list .nil 0 [])) (.no)
 else
 bif Nat.ble t 24 then
 bif Nat.ble t 23 then
 none
 else
 tI (.sc) 1 false (some (.cE)) (.no)
 else
 bif Nat.ble t 25 then
 tI (.sl 104 3 true 24 (some (.agg [.int .i64 0,.int .i64 0,.int .i64 0]))) 1 false (some (.list .nil 0 [])) (.no)
 else
 bif Nat.ble t 26 then
 tI (.int .i64) 1 false (some (.int .i64 0)) (.int)
 else
 tI (.sc) 1 false (some (.bi [.list .nil 0 [],.int .i64 0])) (.no)
 else
 bif Nat.ble t 32 then
 bif Nat.ble t 29 then
 none
 else
 bif Nat.ble t 30 then
 tI (.sl 44 2 true 16 (some (.agg [.int .i64 0,.int .i64 0]))) 1 false (some (.list .nil 0 [])) (.no)
 else
 bif Nat.ble t 31 then
 tI (.sc) 1 false (some (.bi [.list .nil 0 [],.int .i64 0])) (.no)
 else
 tI (.sc) 1 false (some (.cE)) (.no)
 else
 bif Nat.ble t 34 then
 bif Nat.ble t 33 then
 tI (.sc) 1 false (some (.bi [.int .i64 0,.int .i64 0])) (.no)
 else
 none
 else
 bif Nat.ble t 35 then
 none
 else
 bif Nat.ble t 36 then
 tI (.sl 108 3 true 24 (some (.agg [.int .i64 0,.int .i64 0,.int .i64 0]))) 1 false (some (.list .nil 0 [])) (.no)
 else
 none
 else
 bif Nat.ble t 56 then
 bif Nat.ble t 46 then
 bif Nat.ble t 41 then
 none
 else
 bif Nat.ble t 43 then
 bif Nat.ble t 42 then
 none
 else
 tI (.sl 88 5 true 32 (some (.agg [.int .i64 0,.int .i64 0,.bool false,.bool false,.int .i64 0]))) 1 false (some (.list .nil 0 [])) (.no)
 else
 bif Nat.ble t 44 then
 tI (.arr 2 1 false) 2 true (some (.agg [.int .i64 0,.int .i64 0])) ((.st (.cons 0 1 false .int (.cons 1 1 false .int .nil))))
 else
 bif Nat.ble t 45 then
 tI (.sc) 1 false (some (.cE)) (.no)
 else
 none
 else
 bif Nat.ble t 51 then
 bif Nat.ble t 48 then
 bif Nat.ble t 47 then
 tI (.st [(0,1,false),(1,1,false),(2,1,false),(3,1,false)]) 4 true (some (.agg [.int .i64 0,.int .i64 0,.int .i64 0,.int .i64 0])) ((.st (.cons 0 1 false .int (.cons 1 1 false .int (.cons 2 1 false .int (.cons 3 1 false .int .nil))))))
 else
 tI (.sc) 1 false (none) (.no)
 else
 bif Nat.ble t 49 then
 tI (.sc) 1 false (some (.cE)) (.no)
 else
 bif Nat.ble t 50 then
 tI (.sl 90 5 true 32 (some (.agg [.int .i64 0,.int .i64 0,.bool false,.bool false,.int .i64 0]))) 1 false (some (.list .nil 0 [])) (.no)
 else
 tI (.sc) 1 false (some (.cE)) (.no)
 else
 bif Nat.ble t 53 then
 bif Nat.ble t 52 then
 tI (.sc) 1 false (some (.bi [.str [],.int .i64 0])) (.no)
 else
 tI (.sc) 1 false (some (.cE)) (.no)
 else
 bif Nat.ble t 54 then
 tI (.sc) 1 false (some (.bi [.list .nil 0 [],.int .i64 0,.int .i64 0])) (.no)
 else
 bif Nat.ble t 55 then
 tI (.sc) 1 false (some (.cE)) (.no)
 else
 tI (.sc) 1 false (some (.cE)) (.no)
 else
 bif Nat.ble t 66 then
 bif Nat.ble t 61 then
 bif Nat.ble t 58 then
 bif Nat.ble t 57 then
 tI (.sc) 1 false (some (.cE)) (.no)
 else
 tI (.sc) 1 false (some (.cE)) (.no)
 else
 bif Nat.ble t 59 then
 tI (.sl 3 1 false 8 (some (.int .i64 0))) 1 false (some (.list .nil 0 [])) (.no)
 else
 none
 else
 bif Nat.ble t 63 then
 bif Nat.ble t 62 then
 none
 else
 tI (.sc) 1 false (some (.bi [.list .nil 0 [],.int .i64 0,.int .i64 0])) (.no)
 else
 bif Nat.ble t 64 then
 tI (.sc) 1 false (some (.cE)) (.no)
 else
 bif Nat.ble t 65 then
 tI (.sc) 1 false (some (.cE)) (.no)
 else
 none
 else
 bif Nat.ble t 71 then
 bif Nat.ble t 68 then
 bif Nat.ble t 67 then
 none
 else
 tI (.sc) 1 false (some (.bi [.list .nil 0 [],.int .i64 0])) (.no)
 else
 bif Nat.ble t 69 then
 none
 else
 bif Nat.ble t 70 then
 tI (.sc) 1 false (some (.bi [.list .nil 0 [],.int .i64 0])) (.no)
 else
 none
 else
 bif Nat.ble t 73 then
 bif Nat.ble t 72 then
 tI (.sl 86 2 true 16 (some (.agg [.int .i64 0,.int .i64 0]))) 1 false (some (.list .nil 0 [])) (.no)
 else
 tI (.sc) 1 false (some (.cE)) (.no)
 else
 bif Nat.ble t 74 then
 none
 else
 bif Nat.ble t 75 then
 tI (.sc) 1 false (some (.bi [.list .nil 0 [],.int .i64 0])) (.no)
 else
 none
 else
 bif Nat.ble t 115 then
 bif Nat.ble t 95 then
 bif Nat.ble t 85 then
 none
 else
 bif Nat.ble t 90 then
 bif Nat.ble t 87 then
 bif Nat.ble t 86 then
 tI (.st [(0,1,false),(1,1,false)]) 2 true (some (.agg [.int .i64 0,.int .i64 0])) ((.st (.cons 0 1 false .int (.cons 1 1 false .int .nil))))
 else
 none
 else
 bif Nat.ble t 88 then
 tI (.st [(0,2,true),(2,1,false),(3,1,false),(4,1,false)]) 5 true (some (.agg [.int .i64 0,.int .i64 0,.bool false,.bool false,.int .i64 0])) ((.st (.cons 0 2 true (.st (.cons 0 1 false .int (.cons 1 1 false .int .nil))) (.cons 2 1 false .bool (.cons 3 1 false .bool (.cons 4 1 false .int .nil))))))
 else
 bif Nat.ble t 89 then
 none
 else
 tI (.st [(0,2,true),(2,1,false),(3,1,false),(4,1,false)]) 5 true (some (.agg [.int .i64 0,.int .i64 0,.bool false,.bool false,.int .i64 0])) ((.st (.cons 0 2 true (.st (.cons 0 1 false .int (.cons 1 1 false .int .nil))) (.cons 2 1 false .bool (.cons 3 1 false .bool (.cons 4 1 false .int .nil))))))
 else
 none
 else
 bif Nat.ble t 105 then
 bif Nat.ble t 100 then
 bif Nat.ble t 97 then
 bif Nat.ble t 96 then
 none
 else
 tI (.sc) 1 false (some (.bi [.list .nil 0 [],.int .i64 0])) (.no)
 else
 bif Nat.ble t 98 then
 tI (.sc) 1 false (some (.cE)) (.no)
 else
 bif Nat.ble t 99 then
 tI (.sc) 1 false (some (.cE)) (.no)
 else
 tI (.sc) 1 false (some (.bi [.list .nil 0 [],.int .i64 0])) (.no)
 else
 bif Nat.ble t 102 then
 bif Nat.ble t 101 then
 tI (.sc) 1 false (some (.cE)) (.no)
 else
 tI (.sc) 1 false (some (.cE)) (.no)
 else
 bif Nat.ble t 103 then
 tI (.st [(0,1,false),(1,1,false),(2,1,false)]) 3 true (some (.agg [.int .i64 0,.int .i64 0,.int .i64 0])) ((.st (.cons 0 1 false .int (.cons 1 1 false .int (.cons 2 1 false .int .nil)))))
 else
 bif Nat.ble t 104 then
 tI (.st [(0,1,false),(1,1,false),(2,1,false)]) 3 true (some (.agg [.int .i64 0,.int .i64 0,.int .i64 0])) ((.st (.cons 0 1 false .int (.cons 1 1 false .int (.cons 2 1 false .int .nil)))))
 else
 tI (.st [(0,1,false),(1,1,false),(2,1,false)]) 3 true (some (.agg [.int .i64 0,.int .i64 0,.int .i64 0])) ((.st (.cons 0 1 false .int (.cons 1 1 false .int (.cons 2 1 false .int .nil)))))
 else
 bif Nat.ble t 110 then
 bif Nat.ble t 107 then
 bif Nat.ble t 106 then
 tI (.st [(0,1,false),(1,1,false),(2,1,false)]) 3 true (some (.agg [.int .i64 0,.int .i64 0,.int .i64 0])) ((.st (.cons 0 1 false .int (.cons 1 1 false .int (.cons 2 1 false .int .nil)))))
 else
 tI (.sc) 1 false (some (.cE)) (.no)
 else
 bif Nat.ble t 108 then
 tI (.st [(0,1,false),(1,1,false),(2,1,false)]) 3 true (some (.agg [.int .i64 0,.int .i64 0,.int .i64 0])) ((.st (.cons 0 1 false .int (.cons 1 1 false .int (.cons 2 1 false .int .nil)))))
 else
 bif Nat.ble t 109 then
 tI (.sc) 1 false (some (.cE)) (.no)
 else
 tI (.sc) 1 false (some (.cE)) (.no)
 else
 bif Nat.ble t 112 then
 bif Nat.ble t 111 then
 tI (.sc) 1 false (some (.cE)) (.no)
 else
 tI (.sc) 1 false (some (.cE)) (.no)
 else
 bif Nat.ble t 113 then
 tI (.sc) 1 false (some (.cE)) (.no)
 else
 bif Nat.ble t 114 then
 tI (.sc) 1 false (some (.cE)) (.no)
 else
 tI (.sc) 1 false (some (.cE)) (.no)
 else
 bif Nat.ble t 134 then
 bif Nat.ble t 124 then
 bif Nat.ble t 119 then
 bif Nat.ble t 117 then
 bif Nat.ble t 116 then
 tI (.sc) 1 false (some (.cE)) (.no)
 else
 tI (.sc) 1 false (some (.cE)) (.no)
 else
 bif Nat.ble t 118 then
 tI (.sc) 1 false (some (.cE)) (.no)
 else
 tI (.int .i8) 1 false (some (.int .i8 0)) (.int)
 else
 bif Nat.ble t 121 then
 bif Nat.ble t 120 then
 tI (.arr 3 1 false) 3 true (some (.agg [.int .i8 0,.int .i8 0,.int .i8 0])) ((.st (.cons 0 1 false .int (.cons 1 1 false .int (.cons 2 1 false .int .nil)))))
 else
 tI (.sc) 1 false (some (.bi [.list .nil 0 [],.bool false])) (.no)
 else
 bif Nat.ble t 122 then
 tI (.sc) 1 false (some (.cE)) (.no)
 else
 none
 else
 bif Nat.ble t 129 then
 bif Nat.ble t 126 then
 none
 else
 bif Nat.ble t 127 then
 none
 else
 bif Nat.ble t 128 then
 tI (.sc) 1 false (some (.cE)) (.no)
 else
 none
 else
 bif Nat.ble t 131 then
 bif Nat.ble t 130 then
 tI (.sl 22 1 false 24 (some (.list .nil 0 []))) 1 false (some (.list .nil 0 [])) (.no)
 else
 tI (.sc) 1 false (some (.bi [.list .nil 0 [],.int .i64 0])) (.no)
 else
 bif Nat.ble t 132 then
 none
 else
 bif Nat.ble t 133 then
 tI (.arr 5 1 false) 5 true (some (.agg [.int .i64 0,.int .i64 0,.int .i64 0,.int .i64 0,.int .i64 0])) ((.st (.cons 0 1 false .int (.cons 1 1 false .int (.cons 2 1 false .int (.cons 3 1 false .int (.cons 4 1 false .int .nil)))))))
 else
 tI (.sc) 1 false (none) (.no)
 else
 bif Nat.ble t 144 then
 bif Nat.ble t 139 then
 none
 else
 bif Nat.ble t 141 then
 none
 else
 bif Nat.ble t 142 then
 none
 else
 bif Nat.ble t 143 then
 tI (.sc) 1 false (some (.ir)) (.no)
 else
 tI (.sl 5 1 false 1 (some (.int .u8 0))) 1 false (some (.list .nil 0 [])) (.no)
 else
 bif Nat.ble t 149 then
 bif Nat.ble t 146 then
 bif Nat.ble t 145 then
 none
 else
 tI (.st [(0,1,false),(1,1,false)]) 2 true (some (.agg [.ir,.list .nil 0 []])) ((.st (.cons 0 1 false .no (.cons 1 1 false .no .nil))))
 else
 bif Nat.ble t 147 then
 none
 else
 bif Nat.ble t 148 then
 tI (.sc) 1 false (some (.nQ)) (.no)
 else
 tI (.sc) 1 false (some (.bi [.int .i64 0,.nQ])) (.no)
 else
 bif Nat.ble t 151 then
 none
 else
 bif Nat.ble t 152 then
 none
 else
 bif Nat.ble t 153 then
 none
 else
 tI (.map 106 4 (some (.bool false))) 1 false (some (.j9)) (.no)
 else
 bif Nat.ble t 232 then
 bif Nat.ble t 193 then
 bif Nat.ble t 173 then
 bif Nat.ble t 163 then
 bif Nat.ble t 158 then
 bif Nat.ble t 156 then
 bif Nat.ble t 155 then
 tI (.st [(0,1,false),(1,1,false),(2,5,true)]) 7 true (some (.agg [.j9,.int .i64 0,.int .i64 0,.int .i64 0,.bool false,.bool false,.int .i64 0])) ((.st (.cons 0 1 false .no (.cons 1 1 false .int (.cons 2 5 true (.st (.cons 0 2 true (.st (.cons 0 1 false .int (.cons 1 1 false .int .nil))) (.cons 2 1 false .bool (.cons 3 1 false .bool (.cons 4 1 false .int .nil))))) .nil)))))
 else
 tI (.st [(0,1,false),(1,1,false),(2,5,true)]) 7 true (some (.agg [.j9,.int .i64 0,.int .i64 0,.int .i64 0,.bool false,.bool false,.int .i64 0])) ((.st (.cons 0 1 false .no (.cons 1 1 false .int (.cons 2 5 true (.st (.cons 0 2 true (.st (.cons 0 1 false .int (.cons 1 1 false .int .nil))) (.cons 2 1 false .bool (.cons 3 1 false .bool (.cons 4 1 false .int .nil))))) .nil)))))
 else
 bif Nat.ble t 157 then
 tI (.sc) 1 false (some (.bi [.str [],.str [],.bool false])) (.no)
 else
 none
 else
 bif Nat.ble t 160 then
 bif Nat.ble t 159 then
 tI (.sc) 1 false (some (.cE)) (.no)
 else
 none
 else
 bif Nat.ble t 161 then
 none
 else
 bif Nat.ble t 162 then
 none
 else
 tI (.sl 9 1 false 16 (some (.str []))) 1 false (some (.list .nil 0 [])) (.no)
 else
 bif Nat.ble t 168 then
 bif Nat.ble t 165 then
 none
 else
 bif Nat.ble t 166 then
 none
 else
 bif Nat.ble t 167 then
 tI (.arr 2 2 true) 4 true (some (.agg [.int .i64 0,.int .i64 0,.int .i64 0,.int .i64 0])) ((.st (.cons 0 2 true (.st (.cons 0 1 false .int (.cons 1 1 false .int .nil))) (.cons 2 2 true (.st (.cons 0 1 false .int (.cons 1 1 false .int .nil))) .nil))))
 else
 none
 else
 bif Nat.ble t 170 then
 bif Nat.ble t 169 then
 tI (.map 86 4 (some (.bool false))) 1 false (some (.j9)) (.no)
 else
 none
 else
 bif Nat.ble t 171 then
 none
 else
 bif Nat.ble t 172 then
 tI (.sc) 1 false (some (.cE)) (.no)
 else
 none
 else
 bif Nat.ble t 183 then
 bif Nat.ble t 178 then
 bif Nat.ble t 175 then
 none
 else
 bif Nat.ble t 176 then
 tI (.sc) 1 false (some (.cE)) (.no)
 else
 bif Nat.ble t 177 then
 tI (.sl 179 10 true 64 (some (.agg [.int .i64 0,.int .i64 0,.bool false,.bool false,.int .i64 0,.int .i64 0,.int .i64 0,.bool false,.bool false,.int .i64 0]))) 1 false (some (.list .nil 0 [])) (.no)
 else
 none
 else
 bif Nat.ble t 180 then
 bif Nat.ble t 179 then
 tI (.arr 2 5 true) 10 true (some (.agg [.int .i64 0,.int .i64 0,.bool false,.bool false,.int .i64 0,.int .i64 0,.int .i64 0,.bool false,.bool false,.int .i64 0])) ((.st (.cons 0 5 true (.st (.cons 0 2 true (.st (.cons 0 1 false .int (.cons 1 1 false .int .nil))) (.cons 2 1 false .bool (.cons 3 1 false .bool (.cons 4 1 false .int .nil))))) (.cons 5 5 true (.st (.cons 0 2 true (.st (.cons 0 1 false .int (.cons 1 1 false .int .nil))) (.cons 2 1 false .bool (.cons 3 1 false .bool (.cons 4 1 false .int .nil))))) .nil))))
 else
 tI (.sc) 1 false (some (.cE)) (.no)
 else
 none
 else
 bif Nat.ble t 188 then
 bif Nat.ble t 185 then
 bif Nat.ble t 184 then
 tI (.sc) 1 false (some (.cE)) (.no)
 else
 none
 else
 bif Nat.ble t 186 then
 tI (.sc) 1 false (some (.cE)) (.no)
 else
 bif Nat.ble t 187 then
 tI (.sl 26 1 false 8 (some (.int .i64 0))) 1 false (some (.list .nil 0 [])) (.no)
 else
 tI (.sc) 1 false (some (.cE)) (.no)
 else
 bif Nat.ble t 190 then
 bif Nat.ble t 189 then
 tI (.sc) 1 false (some (.cE)) (.no)
 else
 tI (.sc) 1 false (some (.cE)) (.no)
 else
 bif Nat.ble t 191 then
 tI (.sc) 1 false (some (.cE)) (.no)
 else
 bif Nat.ble t 192 then
 tI (.int .u64) 1 false (some (.int .u64 0)) (.int)
 else
 tI (.map 86 3 (some (.int .i64 0))) 1 false (some (.j9)) (.no)
 else
 bif Nat.ble t 212 then
 bif Nat.ble t 202 then
 bif Nat.ble t 197 then
 none
 else
 bif Nat.ble t 199 then
 bif Nat.ble t 198 then
 none
 else
 tI (.sc) 1 false (some (.ir)) (.no)
 else
 bif Nat.ble t 200 then
 tI (.sc) 1 false (some (.ir)) (.no)
 else
 bif Nat.ble t 201 then
 none
 else
 tI (.sl 205 1 true 8 (some (.agg [.cE]))) 1 false (some (.list .nil 0 [])) (.no)
 else
 bif Nat.ble t 207 then
 bif Nat.ble t 204 then
 none
 else
 bif Nat.ble t 205 then
 tI (.st [(0,1,false)]) 1 true (some (.agg [.cE])) ((.st (.cons 0 1 false .no .nil)))
 else
 bif Nat.ble t 206 then
 tI (.sc) 1 false (some (.ir)) (.no)
 else
 none
 else
 bif Nat.ble t 209 then
 bif Nat.ble t 208 then
 tI (.sc) 1 false (some (.cE)) (.no)
 else
 tI (.sc) 1 false (some (.cE)) (.no)
 else
 bif Nat.ble t 210 then
 none
 else
 bif Nat.ble t 211 then
 none
 else
 tI (.sc) 1 false (some (.bi [.int .i64 0,.bool false])) (.no)
 else
 bif Nat.ble t 222 then
 bif Nat.ble t 217 then
 none
 else
 bif Nat.ble t 219 then
 bif Nat.ble t 218 then
 tI (.sl 50 1 false 24 (some (.list .nil 0 []))) 1 false (some (.list .nil 0 [])) (.no)
 else
 none
 else
 none
 else
 bif Nat.ble t 227 then
 bif Nat.ble t 224 then
 bif Nat.ble t 223 then
 tI (.int .i64) 1 false (some (.int .i64 0)) (.int)
 else
 tI (.sc) 1 false (some (.bi [.int .i64 0,.int .i64 0])) (.no)
 else
 none
 else
 bif Nat.ble t 229 then
 none
 else
 bif Nat.ble t 230 then
 tI (.int .u32) 1 false (some (.int .u32 0)) (.int)
 else
 bif Nat.ble t 231 then
 none
 else
 tI (.int .u64) 1 false (some (.int .u64 0)) (.int)
 else
 bif Nat.ble t 271 then
 bif Nat.ble t 251 then
 bif Nat.ble t 241 then
 bif Nat.ble t 236 then
 bif Nat.ble t 234 then
 bif Nat.ble t 233 then
 tI (.arr 4 3 true) 12 true (some (.agg [.int .i64 0,.int .i64 0,.int .i64 0,.int .i64 0,.int .i64 0,.int .i64 0,.int .i64 0,.int .i64 0,.int .i64 0,.int .i64 0,.int .i64 0,.int .i64 0])) ((.st (.cons 0 3 true (.st (.cons 0 1 false .int (.cons 1 1 false .int (.cons 2 1 false .int .nil)))) (.cons 3 3 true (.st (.cons 0 1 false .int (.cons 1 1 false .int (.cons 2 1 false .int .nil)))) (.cons 6 3 true (.st (.cons 0 1 false .int (.cons 1 1 false .int (.cons 2 1 false .int .nil)))) (.cons 9 3 true (.st (.cons 0 1 false .int (.cons 1 1 false .int (.cons 2 1 false .int .nil)))) .nil))))))
 else
 none
 else
 none
 else
 bif Nat.ble t 238 then
 bif Nat.ble t 237 then
 tI (.sc) 1 false (some (.cE)) (.no)
 else
 none
 else
 bif Nat.ble t 239 then
 tI (.sc) 1 false (some (.cE)) (.no)
 else
 bif Nat.ble t 240 then
 tI (.sc) 1 false (some (.ir)) (.no)
 else
 none
 else
 bif Nat.ble t 246 then
 bif Nat.ble t 243 then
 none
 else
 bif Nat.ble t 244 then
 none
 else
 bif Nat.ble t 245 then
 none
 else
 tI (.sc) 1 false (some (.ir)) (.no)
 else
 bif Nat.ble t 248 then
 bif Nat.ble t 247 then
 none
 else
 tI (.sc) 1 false (some (.ir)) (.no)
 else
 bif Nat.ble t 249 then
 tI (.sc) 1 false (some (.cE)) (.no)
 else
 bif Nat.ble t 250 then
 none
 else
 tI (.int .u64) 1 false (some (.int .u64 0)) (.int)
 else
 bif Nat.ble t 261 then
 bif Nat.ble t 256 then
 bif Nat.ble t 253 then
 none
 else
 bif Nat.ble t 254 then
 none
 else
 bif Nat.ble t 255 then
 none
 else
 tI (.sc) 1 false (some (.cE)) (.no)
 else
 bif Nat.ble t 258 then
 bif Nat.ble t 257 then
 tI (.sc) 1 false (some (.cE)) (.no)
 else
 none
 else
 none
 else
 bif Nat.ble t 266 then
 bif Nat.ble t 263 then
 bif Nat.ble t 262 then
 none
 else
 tI (.arr 24 1 false) 24 true (some (.agg [.int .u8 0,.int .u8 0,.int .u8 0,.int .u8 0,.int .u8 0,.int .u8 0,.int .u8 0,.int .u8 0,.int .u8 0,.int .u8 0,.int .u8 0,.int .u8 0,.int .u8 0,.int .u8 0,.int .u8 0,.int .u8 0,.int .u8 0,.int .u8 0,.int .u8 0,.int .u8 0,.int .u8 0,.int .u8 0,.int .u8 0,.int .u8 0])) ((.st (.cons 0 1 false .int (.cons 1 1 false .int (.cons 2 1 false .int (.cons 3 1 false .int (.cons 4 1 false .int (.cons 5 1 false .int (.cons 6 1 false .int (.cons 7 1 false .int (.cons 8 1 false .int (.cons 9 1 false .int (.cons 10 1 false .int (.cons 11 1 false .int (.cons 12 1 false .int (.cons 13 1 false .int (.cons 14 1 false .int (.cons 15 1 false .int (.cons 16 1 false .int (.cons 17 1 false .int (.cons 18 1 false .int (.cons 19 1 false .int (.cons 20 1 false .int (.cons 21 1 false .int (.cons 22 1 false .int (.cons 23 1 false .int .nil))))))))))))))))))))))))))
 else
 bif Nat.ble t 264 then
 none
 else
 bif Nat.ble t 265 then
 tI (.sc) 1 false (some (.bi [.list .nil 0 [],.str []])) (.no)
 else
 none
 else
 bif Nat.ble t 268 then
 none
 else
 bif Nat.ble t 269 then
 none
 else
 bif Nat.ble t 270 then
 tI (.sc) 1 false (some (.bi [.str [],.bool false])) (.no)
 else
 none
 else
 bif Nat.ble t 290 then
 bif Nat.ble t 280 then
 bif Nat.ble t 275 then
 bif Nat.ble t 273 then
 bif Nat.ble t 272 then
 tI (.sc) 1 false (some (.ir)) (.no)
 else
 tI (.sc) 1 false (some (.bi [.int .i64 0,.int .i64 0])) (.no)
 else
 none
 else
 none
 else
 bif Nat.ble t 285 then
 bif Nat.ble t 282 then
 bif Nat.ble t 281 then
 none
 else
 tI (.arr 20 1 false) 20 true (some (.agg [.int .u64 0,.int .u64 0,.int .u64 0,.int .u64 0,.int .u64 0,.int .u64 0,.int .u64 0,.int .u64 0,.int .u64 0,.int .u64 0,.int .u64 0,.int .u64 0,.int .u64 0,.int .u64 0,.int .u64 0,.int .u64 0,.int .u64 0,.int .u64 0,.int .u64 0,.int .u64 0])) ((.st (.cons 0 1 false .int (.cons 1 1 false .int (.cons 2 1 false .int (.cons 3 1 false .int (.cons 4 1 false .int (.cons 5 1 false .int (.cons 6 1 false .int (.cons 7 1 false .int (.cons 8 1 false .int (.cons 9 1 false .int (.cons 10 1 false .int (.cons 11 1 false .int (.cons 12 1 false .int (.cons 13 1 false .int (.cons 14 1 false .int (.cons 15 1 false .int (.cons 16 1 false .int (.cons 17 1 false .int (.cons 18 1 false .int (.cons 19 1 false .int .nil))))))))))))))))))))))
 else
 bif Nat.ble t 283 then
 tI (.arr 65 1 false) 65 true (some (.agg [.int .u8 0,.int .u8 0,.int .u8 0,.int .u8 0,.int .u8 0,.int .u8 0,.int .u8 0,.int .u8 0,.int .u8 0,.int .u8 0,.int .u8 0,.int .u8 0,.int .u8 0,.int .u8 0,.int .u8 0,.int .u8 0,.int .u8 0,.int .u8 0,.int .u8 0,.int .u8 0,.int .u8 0,.int .u8 0,.int .u8 0,.int .u8 0,.int .u8 0,.int .u8 0,.int .u8 0,.int .u8 0,.int .u8 0,.int .u8 0,.int .u8 0,.int .u8 0,.int .u8 0,.int .u8 0,.int .u8 0,.int .u8 0,.int .u8 0,.int .u8 0,.int .u8 0,.int .u8 0,.int .u8 0,.int .u8 0,.int .u8 0,.int .u8 0,.int .u8 0,.int .u8 0,.int .u8 0,.int .u8 0,.int .u8 0,.int .u8 0,.int .u8 0,.int .u8 0,.int .u8 0,.int .u8 0,.int .u8 0,.int .u8 0,.int .u8 0,.int .u8 0,.int .u8 0,.int .u8 0,.int .u8 0,.int .u8 0,.int .u8 0,.int .u8 0,.int .u8 0])) ((.st (.cons 0 1 false .int (.cons 1 1 false .int (.cons 2 1 false .int (.cons 3 1 false .int (.cons 4 1 false .int (.cons 5 1 false .int (.cons 6 1 false .int (.cons 7 1 false .int (.cons 8 1 false .int (.cons 9 1 false .int (.cons 10 1 false .int (.cons 11 1 false .int (.cons 12 1 false .int (.cons 13 1 false .int (.cons 14 1 false .int (.cons 15 1 false .int (.cons 16 1 false .int (.cons 17 1 false .int (.cons 18 1 false .int (.cons 19 1 false .int (.cons 20 1 false .int (.cons 21 1 false .int (.cons 22 1 false .int (.cons 23 1 false .int (.cons 24 1 false .int (.cons 25 1 false .int (.cons 26 1 false .int (.cons 27 1 false .int (.cons 28 1 false .int (.cons 29 1 false .int (.cons 30 1 false .int (.cons 31 1 false .int (.cons 32 1 false .int (.cons 33 1 false .int (.cons 34 1 false .int (.cons 35 1 false .int (.cons 36 1 false .int (.cons 37 1 false .int (.cons 38 1 false .int (.cons 39 1 false .int (.cons 40 1 false .int (.cons 41 1 false .int (.cons 42 1 false .int (.cons 43 1 false .int (.cons 44 1 false .int (.cons 45 1 false .int (.cons 46 1 false .int (.cons 47 1 false .int (.cons 48 1 false .int (.cons 49 1 false .int (.cons 50 1 false .int (.cons 51 1 false .int (.cons 52 1 false .int (.cons 53 1 false .int (.cons 54 1 false .int (.cons 55 1 false .int (.cons 56 1 false .int (.cons 57 1 false .int (.cons 58 1 false .int (.cons 59 1 false .int (.cons 60 1 false .int (.cons 61 1 false .int (.cons 62 1 false .int (.cons 63 1 false .int (.cons 64 1 false .int .nil)))))))))))))))))))))))))))))))))))))))))))))))))))))))))))))))))))
 else
 bif Nat.ble t 284 then
 tI (.sc) 1 false (some (.bi [.int .u32 0,.int .u32 0])) (.no)
 else
 none
 else
 bif Nat.ble t 287 then
 bif Nat.ble t 286 then
 tI (.sc) 1 false (some (.bi [.int .i32 0,.int .i64 0])) (.no)
 else
 none
 else
 none
 else
 bif Nat.ble t 300 then
 bif Nat.ble t 295 then
 bif Nat.ble t 292 then
 none
 else
 bif Nat.ble t 293 then
 tI (.arr 32 1 false) 32 true (some (.agg [.int .u8 0,.int .u8 0,.int .u8 0,.int .u8 0,.int .u8 0,.int .u8 0,.int .u8 0,.int .u8 0,.int .u8 0,.int .u8 0,.int .u8 0,.int .u8 0,.int .u8 0,.int .u8 0,.int .u8 0,.int .u8 0,.int .u8 0,.int .u8 0,.int .u8 0,.int .u8 0,.int .u8 0,.int .u8 0,.int .u8 0,.int .u8 0,.int .u8 0,.int .u8 0,.int .u8 0,.int .u8 0,.int .u8 0,.int .u8 0,.int .u8 0,.int .u8 0])) ((.st (.cons 0 1 false .int (.cons 1 1 false .int (.cons 2 1 false .int (.cons 3 1 false .int (.cons 4 1 false .int (.cons 5 1 false .int (.cons 6 1 false .int (.cons 7 1 false .int (.cons 8 1 false .int (.cons 9 1 false .int (.cons 10 1 false .int (.cons 11 1 false .int (.cons 12 1 false .int (.cons 13 1 false .int (.cons 14 1 false .int (.cons 15 1 false .int (.cons 16 1 false .int (.cons 17 1 false .int (.cons 18 1 false .int (.cons 19 1 false .int (.cons 20 1 false .int (.cons 21 1 false .int (.cons 22 1 false .int (.cons 23 1 false .int (.cons 24 1 false .int (.cons 25 1 false .int (.cons 26 1 false .int (.cons 27 1 false .int (.cons 28 1 false .int (.cons 29 1 false .int (.cons 30 1 false .int (.cons 31 1 false .int .nil))))))))))))))))))))))))))))))))))
 else
 bif Nat.ble t 294 then
 tI (.arr 64 1 false) 64 true (some (.agg [.int .u8 0,.int .u8 0,.int .u8 0,.int .u8 0,.int .u8 0,.int .u8 0,.int .u8 0,.int .u8 0,.int .u8 0,.int .u8 0,.int .u8 0,.int .u8 0,.int .u8 0,.int .u8 0,.int .u8 0,.int .u8 0,.int .u8 0,.int .u8 0,.int .u8 0,.int .u8 0,.int .u8 0,.int .u8 0,.int .u8 0,.int .u8 0,.int .u8 0,.int .u8 0,.int .u8 0,.int .u8 0,.int .u8 0,.int .u8 0,.int .u8 0,.int .u8 0,.int .u8 0,.int .u8 0,.int .u8 0,.int .u8 0,.int .u8 0,.int .u8 0,.int .u8 0,.int .u8 0,.int .u8 0,.int .u8 0,.int .u8 0,.int .u8 0,.int .u8 0,.int .u8 0,.int .u8 0,.int .u8 0,.int .u8 0,.int .u8 0,.int .u8 0,.int .u8 0,.int .u8 0,.int .u8 0,.int .u8 0,.int .u8 0,.int .u8 0,.int .u8 0,.int .u8 0,.int .u8 0,.int .u8 0,.int .u8 0,.int .u8 0,.int .u8 0])) ((.st (.cons 0 1 false .int (.cons 1 1 false .int (.cons 2 1 false .int (.cons 3 1 false .int (.cons 4 1 false .int (.cons 5 1 false .int (.cons 6 1 false .int (.cons 7 1 false .int (.cons 8 1 false .int (.cons 9 1 false .int (.cons 10 1 false .int (.cons 11 1 false .int (.cons 12 1 false .int (.cons 13 1 false .int (.cons 14 1 false .int (.cons 15 1 false .int (.cons 16 1 false .int (.cons 17 1 false .int (.cons 18 1 false .int (.cons 19 1 false .int (.cons 20 1 false .int (.cons 21 1 false .int (.cons 22 1 false .int (.cons 23 1 false .int (.cons 24 1 false .int (.cons 25 1 false .int (.cons 26 1 false .int (.cons 27 1 false .int (.cons 28 1 false .int (.cons 29 1 false .int (.cons 30 1 false .int (.cons 31 1 false .int (.cons 32 1 false .int (.cons 33 1 false .int (.cons 34 1 false .int (.cons 35 1 false .int (.cons 36 1 false .int (.cons 37 1 false .int (.cons 38 1 false .int (.cons 39 1 false .int (.cons 40 1 false .int (.cons 41 1 false .int (.cons 42 1 false .int (.cons 43 1 false .int (.cons 44 1 false .int (.cons 45 1 false .int (.cons 46 1 false .int (.cons 47 1 false .int (.cons 48 1 false .int (.cons 49 1 false .int (.cons 50 1 false .int (.cons 51 1 false .int (.cons 52 1 false .int (.cons 53 1 false .int (.cons 54 1 false .int (.cons 55 1 false .int (.cons 56 1 false .int (.cons 57 1 false .int (.cons 58 1 false .int (.cons 59 1 false .int (.cons 60 1 false .int (.cons 61 1 false .int (.cons 62 1 false .int (.cons 63 1 false .int .nil))))))))))))))))))))))))))))))))))))))))))))))))))))))))))))))))))
 else
 tI (.arr 256 1 false) 256 true (some (.agg [.int .u8 0,.int .u8 0,.int .u8 0,.int .u8 0,.int .u8 0,.int .u8 0,.int .u8 0,.int .u8 0,.int .u8 0,.int .u8 0,.int .u8 0,.int .u8 0,.int .u8 0,.int .u8 0,.int .u8 0,.int .u8 0,.int .u8 0,.int .u8 0,.int .u8 0,.int .u8 0,.int .u8 0,.int .u8 0,.int .u8 0,.int .u8 0,.int .u8 0,.int .u8 0,.int .u8 0,.int .u8 0,.int .u8 0,.int .u8 0,.int .u8 0,.int .u8 0,.int .u8 0,.int .u8 0,.int .u8 0,.int .u8 0,.int .u8 0,.int .u8 0,.int .u8 0,.int .u8 0,.int .u8 0,.int .u8 0,.int .u8 0,.int .u8 0,.int .u8 0,.int .u8 0,.int .u8 0,.int .u8 0,.int .u8 0,.int .u8 0,.int .u8 0,.int .u8 0,.int .u8 0,.int .u8 0,.int .u8 0,.int .u8 0,.int .u8 0,.int .u8 0,.int .u8 0,.int .u8 0,.int .u8 0,.int .u8 0,.int .u8 0,.int .u8 0,.int .u8 0,.int .u8 0,.int .u8 0,.int .u8 0,.int .u8 0,.int .u8 0,.int .u8 0,.int .u8 0,.int .u8 0,.int .u8 0,.int .u8 0,.int .u8 0,.int .u8 0,.int .u8 0,.int .u8 0,.int .u8 0,.int .u8 0,.int .u8 0,.int .u8 0,.int .u8 0,.int .u8 0,.int .u8 0,.int .u8 0,.int .u8 0,.int .u8 0,.int .u8 0,.int .u8 0,.int .u8 0,.int .u8 0,.int .u8 0,.int .u8 0,.int .u8 0,.int .u8 0,.int .u8 0,.int .u8 0,.int .u8 0,.int .u8 0,.int .u8 0,.int .u8 0,.int .u8 0,.int .u8 0,.int .u8 0,.int .u8 0,.int .u8 0,.int .u8 0,.int .u8 0,.int .u8 0,.int .u8 0,.int .u8 0,.int .u8 0,.int .u8 0,.int .u8 0,.int .u8 0,.int .u8 0,.int .u8 0,.int .u8 0,.int .u8 0,.int .u8 0,.int .u8 0,.int .u8 0,.int .u8 0,.int .u8 0,.int .u8 0,.int .u8 0,.int .u8 0,.int .u8 0,.int .u8 0,.int .u8 0,.int .u8 0,.int .u8 0,.int .u8 0,.int .u8 0,.int .u8 0,.int .u8 0,.int .u8 0,.int .u8 0,.int .u8 0,.int .u8 0,.int .u8 0,.int .u8 0,.int .u8 0,.int .u8 0,.int .u8 0,.int .u8 0,.int .u8 0,.int .u8 0,.int .u8 0,.int .u8 0,.int .u8 0,.int .u8 0,.int .u8 0,.int .u8 0,.int .u8 0,.int .u8 0,.int .u8 0,.int .u8 0,.int .u8 0,.int .u8 0,.int .u8 0,.int .u8 0,.int .u8 0,.int .u8 0,.int .u8 0,.int .u8 0,.int .u8 0,.int .u8 0,.int .u8 0,.int .u8 0,.int .u8 0,.int .u8 0,.int .u8 0,.int .u8 0,.int .u8 0,.int .u8 0,.int .u8 0,.int .u8 0,.int .u8 0,.int .u8 0,.int .u8 0,.int .u8 0,.int .u8 0,.int .u8 0,.int .u8 0,.int .u8 0,.int .u8 0,.int .u8 0,.int .u8 0,.int .u8 0,.int .u8 0,.int .u8 0,.int .u8 0,.int .u8 0,.int .u8 0,.int .u8 0,.int .u8 0,.int .u8 0,.int .u8 0,.int .u8 0,.int .u8 0,.int .u8 0,.int .u8 0,.int .u8 0,.int .u8 0,.int .u8 0,.int .u8 0,.int .u8 0,.int .u8 0,.int .u8 0,.int .u8 0,.int .u8 0,.int .u8 0,.int .u8 0,.int .u8 0,.int .u8 0,.int .u8 0,.int .u8 0,.int .u8 0,.int .u8 0,.int .u8 0,.int .u8 0,.int .u8 0,.int .u8 0,.int .u8 0,.int .u8 0,.int .u8 0,.int .u8 0,.int .u8 0,.int .u8 0,.int .u8 0,.int .u8 0,.int .u8 0,.int .u8 0,.int .u8 0,.int .u8 0,.int .u8 0,.int .u8 0,.int .u8 0,.int .u8 0,.int .u8 0,.int .u8 0,.int .u8 0,.int .u8 0,.int .u8 0,.int .u8 0,.int .u8 0,.int .u8 0,.int .u8 0,.int .u8 0,.int .u8 0,.int .u8 0,.int .u8 0,.int .u8 0])) ((.st (.cons 0 1 false .int (.cons 1 1 false .int (.cons 2 1 false .int (.cons 3 1 false .int (.cons 4 1 false .int (.cons 5 1 false .int (.cons 6 1 false .int (.cons 7 1 false .int (.cons 8 1 false .int (.cons 9 1 false .int (.cons 10 1 false .int (.cons 11 1 false .int (.cons 12 1 false .int (.cons 13 1 false .int (.cons 14 1 false .int (.cons 15 1 false .int (.cons 16 1 false .int (.cons 17 1 false .int (.cons 18 1 false .int (.cons 19 1 false .int (.cons 20 1 false .int (.cons 21 1 false .int (.cons 22 1 false .int (.cons 23 1 false .int (.cons 24 1 false .int (.cons 25 1 false .int (.cons 26 1 false .int (.cons 27 1 false .int (.cons 28 1 false .int (.cons 29 1 false .int (.cons 30 1 false .int (.cons 31 1 false .int (.cons 32 1 false .int (.cons 33 1 false .int (.cons 34 1 false .int (.cons 35 1 false .int (.cons 36 1 false .int (.cons 37 1 false .int (.cons 38 1 false .int (.cons 39 1 false .int (.cons 40 1 false .int (.cons 41 1 false .int (.cons 42 1 false .int (.cons 43 1 false .int (.cons 44 1 false .int (.cons 45 1 false .int (.cons 46 1 false .int (.cons 47 1 false .int (.cons 48 1 false .int (.cons 49 1 false .int (.cons 50 1 false .int (.cons 51 1 false .int (.cons 52 1 false .int (.cons 53 1 false .int (.cons 54 1 false .int (.cons 55 1 false .int (.cons 56 1 false .int (.cons 57 1 false .int (.cons 58 1 false .int (.cons 59 1 false .int (.cons 60 1 false .int (.cons 61 1 false .int (.cons 62 1 false .int (.cons 63 1 false .int (.cons 64 1 false .int (.cons 65 1 false .int (.cons 66 1 false .int (.cons 67 1 false .int (.cons 68 1 false .int (.cons 69 1 false .int (.cons 70 1 false .int (.cons 71 1 false .int (.cons 72 1 false .int (.cons 73 1 false .int (.cons 74 1 false .int (.cons 75 1 false .int (.cons 76 1 false .int (.cons 77 1 false .int (.cons 78 1 false .int (.cons 79 1 false .int (.cons 80 1 false .int (.cons 81 1 false .int (.cons 82 1 false .int (.cons 83 1 false .int (.cons 84 1 false .int (.cons 85 1 false .int (.cons 86 1 false .int (.cons 87 1 false .int (.cons 88 1 false .int (.cons 89 1 false .int (.cons 90 1 false .int (.cons 91 1 false .int (.cons 92 1 false .int (.cons 93 1 false .int (.cons 94 1 false .int (.cons 95 1 false .int (.cons 96 1 false .int (.cons 97 1 false .int (.cons 98 1 false .int (.cons 99 1 false .int (.cons 100 1 false .int (.cons 101 1 false .int (.cons 102 1 false .int (.cons 103 1 false .int (.cons 104 1 false .int (.cons 105 1 false .int (.cons 106 1 false .int (.cons 107 1 false .int (.cons 108 1 false .int (.cons 109 1 false .int (.cons 110 1 false .int (.cons 111 1 false .int (.cons 112 1 false .int (.cons 113 1 false .int (.cons 114 1 false .int (.cons 115 1 false .int (.cons 116 1 false .int (.cons 117 1 false .int (.cons 118 1 false .int (.cons 119 1 false .int (.cons 120 1 false .int (.cons 121 1 false .int (.cons 122 1 false .int (.cons 123 1 false .int (.cons 124 1 false .int (.cons 125 1 false .int (.cons 126 1 false .int (.cons 127 1 false .int (.cons 128 1 false .int (.cons 129 1 false .int (.cons 130 1 false .int (.cons 131 1 false .int (.cons 132 1 false .int (.cons 133 1 false .int (.cons 134 1 false .int (.cons 135 1 false .int (.cons 136 1 false .int (.cons 137 1 false .int (.cons 138 1 false .int (.cons 139 1 false .int (.cons 140 1 false .int (.cons 141 1 false .int (.cons 142 1 false .int (.cons 143 1 false .int (.cons 144 1 false .int (.cons 145 1 false .int (.cons 146 1 false .int (.cons 147 1 false .int (.cons 148 1 false .int (.cons 149 1 false .int (.cons 150 1 false .int (.cons 151 1 false .int (.cons 152 1 false .int (.cons 153 1 false .int (.cons 154 1 false .int (.cons 155 1 false .int (.cons 156 1 false .int (.cons 157 1 false .int (.cons 158 1 false .int (.cons 159 1 false .int (.cons 160 1 false .int (.cons 161 1 false .int (.cons 162 1 false .int (.cons 163 1 false .int (.cons 164 1 false .int (.cons 165 1 false .int (.cons 166 1 false .int (.cons 167 1 false .int (.cons 168 1 false .int (.cons 169 1 false .int (.cons 170 1 false .int (.cons 171 1 false .int (.cons 172 1 false .int (.cons 173 1 false .int (.cons 174 1 false .int (.cons 175 1 false .int (.cons 176 1 false .int (.cons 177 1 false .int (.cons 178 1 false .int (.cons 179 1 false .int (.cons 180 1 false .int (.cons 181 1 false .int (.cons 182 1 false .int (.cons 183 1 false .int (.cons 184 1 false .int (.cons 185 1 false .int (.cons 186 1 false .int (.cons 187 1 false .int (.cons 188 1 false .int (.cons 189 1 false .int (.cons 190 1 false .int (.cons 191 1 false .int (.cons 192 1 false .int (.cons 193 1 false .int (.cons 194 1 false .int (.cons 195 1 false .int (.cons 196 1 false .int (.cons 197 1 false .int (.cons 198 1 false .int (.cons 199 1 false .int (.cons 200 1 false .int (.cons 201 1 false .int (.cons 202 1 false .int (.cons 203 1 false .int (.cons 204 1 false .int (.cons 205 1 false .int (.cons 206 1 false .int (.cons 207 1 false .int (.cons 208 1 false .int (.cons 209 1 false .int (.cons 210 1 false .int (.cons 211 1 false .int (.cons 212 1 false .int (.cons 213 1 false .int (.cons 214 1 false .int (.cons 215 1 false .int (.cons 216 1 false .int (.cons 217 1 false .int (.cons 218 1 false .int (.cons 219 1 false .int (.cons 220 1 false .int (.cons 221 1 false .int (.cons 222 1 false .int (.cons 223 1 false .int (.cons 224 1 false .int (.cons 225 1 false .int (.cons 226 1 false .int (.cons 227 1 false .int (.cons 228 1 false .int (.cons 229 1 false .int (.cons 230 1 false .int (.cons 231 1 false .int (.cons 232 1 false .int (.cons 233 1 false .int (.cons 234 1 false .int (.cons 235 1 false .int (.cons 236 1 false .int (.cons 237 1 false .int (.cons 238 1 false .int (.cons 239 1 false .int (.cons 240 1 false .int (.cons 241 1 false .int (.cons 242 1 false .int (.cons 243 1 false .int (.cons 244 1 false .int (.cons 245 1 false .int (.cons 246 1 false .int (.cons 247 1 false .int (.cons 248 1 false .int (.cons 249 1 false .int (.cons 250 1 false .int (.cons 251 1 false .int (.cons 252 1 false .int (.cons 253 1 false .int (.cons 254 1 false .int (.cons 255 1 false .int .nil))))))))))))))))))))))))))))))))))))))))))))))))))))))))))))))))))))))))))))))))))))))))))))))))))))))))))))))))))))))))))))))))))))))))))))))))))))))))))))))))))))))))))))))))))))))))))))))))))))))))))))))))))))))))))))))))))))))))))))))))))))))))))))))))))
 else
 bif Nat.ble t 297 then
 bif Nat.ble t 296 then
 none
 else
 tI (.st [(0,1,false),(1,1,false)]) 2 true (some (.agg [.int .u8 0,.int .u8 0])) ((.st (.cons 0 1 false .int (.cons 1 1 false .int .nil))))
 else
 bif Nat.ble t 298 then
 tI (.arr 16 2 true) 32 true (some (.agg [.int .u8 0,.int .u8 0,.int .u8 0,.int .u8 0,.int .u8 0,.int .u8 0,.int .u8 0,.int .u8 0,.int .u8 0,.int .u8 0,.int .u8 0,.int .u8 0,.int .u8 0,.int .u8 0,.int .u8 0,.int .u8 0,.int .u8 0,.int .u8 0,.int .u8 0,.int .u8 0,.int .u8 0,.int .u8 0,.int .u8 0,.int .u8 0,.int .u8 0,.int .u8 0,.int .u8 0,.int .u8 0,.int .u8 0,.int .u8 0,.int .u8 0,.int .u8 0])) ((.st (.cons 0 2 true (.st (.cons 0 1 false .int (.cons 1 1 false .int .nil))) (.cons 2 2 true (.st (.cons 0 1 false .int (.cons 1 1 false .int .nil))) (.cons 4 2 true (.st (.cons 0 1 false .int (.cons 1 1 false .int .nil))) (.cons 6 2 true (.st (.cons 0 1 false .int (.cons 1 1 false .int .nil))) (.cons 8 2 true (.st (.cons 0 1 false .int (.cons 1 1 false .int .nil))) (.cons 10 2 true (.st (.cons 0 1 false .int (.cons 1 1 false .int .nil))) (.cons 12 2 true (.st (.cons 0 1 false .int (.cons 1 1 false .int .nil))) (.cons 14 2 true (.st (.cons 0 1 false .int (.cons 1 1 false .int .nil))) (.cons 16 2 true (.st (.cons 0 1 false .int (.cons 1 1 false .int .nil))) (.cons 18 2 true (.st (.cons 0 1 false .int (.cons 1 1 false .int .nil))) (.cons 20 2 true (.st (.cons 0 1 false .int (.cons 1 1 false .int .nil))) (.cons 22 2 true (.st (.cons 0 1 false .int (.cons 1 1 false .int .nil))) (.cons 24 2 true (.st (.cons 0 1 false .int (.cons 1 1 false .int .nil))) (.cons 26 2 true (.st (.cons 0 1 false .int (.cons 1 1 false .int .nil))) (.cons 28 2 true (.st (.cons 0 1 false .int (.cons 1 1 false .int .nil))) (.cons 30 2 true (.st (.cons 0 1 false .int (.cons 1 1 false .int .nil))) .nil))))))))))))))))))
 else
 none
 else
 none
def Yz (t:Nat):Option TI:=bif Nat.ble 311 t then none else tiT t
theorem N5:(List.range 311).map (fun t=>match Yz t with | none=>none | some _=>Hb Tryz.prog t)=(List.range 311).map Yz:=by kernel_rfl
theorem Hc (t:TypeId) (i:TI) (h:Yz t=some i):Hb Tryz.prog t=some i:=by
  by_cases ht:t < 311
  · have h1:=congrArg (fun l=>l[t]?) N5
    simp only [List.getElem?_map,List.getElem?_range ht,Option.map_some,Option.some.injEq] at h1
    rw [h] at h1
    exact h1
  · have hb:Nat.ble 311 t=true:=Nat.ble_eq_true_of_le (Nat.not_lt.1 ht)
    rw [Yz,hb] at h
    cases h
def YA:List ((Nat × Nat) × List (Option Nat × Nat × Nat)):=[((15,10),[(none,1,3)]),((106,3),[(none,3,106)]),((138,3),[(none,2,86)])]
def Sm:List ((Nat × Nat) × List (Option Nat × Nat × Nat))→Nat→Nat→List (Option Nat × Nat × Nat)
  | [],_,_=>[]
  | ((a,b),x) :: l,f,t=>bif Nat.beq a f&&Nat.beq b t then x else Sm l f t
def ace (f t:Nat):List (Option Nat × Nat × Nat):=Sm YA f t
def acf (f t:Nat):Bool:=
  (Nat.beq f 1000000&&Nat.beq t 1000000) ||
  (Nat.beq f 29&&(Nat.beq t 5)) ||
  (Nat.beq f 30&&(Nat.beq t 5 || Nat.beq t 11)) ||
  (Nat.beq f 42&&(Nat.beq t 131072)) ||
  (Nat.beq f 48&&(Nat.beq t 3)) ||
  (Nat.beq f 55&&(Nat.beq t 65545)) ||
  (Nat.beq f 57&&(Nat.beq t 8 || Nat.beq t 9 || Nat.beq t 196647)) ||
  (Nat.beq f 69&&(Nat.beq t 196638 || Nat.beq t 262206)) ||
  (Nat.beq f 91&&(Nat.beq t 131072)) ||
  (Nat.beq f 100&&(Nat.beq t 2 || Nat.beq t 4)) ||
  (Nat.beq f 115&&(Nat.beq t 1)) ||
  (Nat.beq f 122&&(Nat.beq t 131072)) ||
  (Nat.beq f 130&&(Nat.beq t 196634 || Nat.beq t 262211)) ||
  (Nat.beq f 134&&(Nat.beq t 65545)) ||
  (Nat.beq f 138&&(Nat.beq t 6 || Nat.beq t 262160)) ||
  (Nat.beq f 143&&(Nat.beq t 1 || Nat.beq t 18)) ||
  (Nat.beq f 145&&(Nat.beq t 1)) ||
  (Nat.beq f 150&&(Nat.beq t 2)) ||
  (Nat.beq f 163&&(Nat.beq t 7)) ||
  (Nat.beq f 164&&(Nat.beq t 9)) ||
  (Nat.beq f 178&&(Nat.beq t 262148 || Nat.beq t 393220)) ||
  (Nat.beq f 181&&(Nat.beq t 5)) ||
  (Nat.beq f 204&&(Nat.beq t 9)) ||
  (Nat.beq f 205&&(Nat.beq t 11)) ||
  (Nat.beq f 214&&(Nat.beq t 12)) ||
  (Nat.beq f 229&&(Nat.beq t 9)) ||
  (Nat.beq f 230&&(Nat.beq t 11))
def Sn:cJ:=[]
theorem N6:Sn.all (fun p=>aH p.2)=true:=by kernel_rfl
def YB (g:Nat):Option (List AV):=dv Sn g
noncomputable def env:Env:={ P:=Tryz.prog,ti:=Yz,cb:=YB,yy:=acf,Nk:=fun _=>none,gho:=ace,Hc:=Hc,mixed:=by kernel_rfl,nX:=fun _ _ h=>Nq N6 h }
def aN (l:List Nat):List (List Nat):=l.map fun m=>(List.range (m.log2+1)).filter m.testBit
def bz (a:Nat):Nat→DT→DT
 | 0,t=>t
 | n+1,t=>AR (a+1) fun b=>.take a [] (bz b n t)
def bq (i:Nat) (t:DT):DT:=.br i [] [] t .stop
def N7:aj:=⟨aN [0,1,3,0,8,24,7,127],aN [0,1,2,0,8,16,4,32],(bz 0 8 .done)⟩
def N8:aj:=⟨aN [0,0,3,7,0,0,48,127,255,511,1023,1023,2047,8191],aN [0,0,3,0,0,0,48,0,0,256,512,512,1024,2048],(bz 0 3 (bz 4 3 (bq 3 (bq 7 (bq 8 (bz 9 5 .done))))))⟩
def N9:aj:=⟨aN [0,0,0,4,12,0,32,96,0,256,992,2046,4094,8191,16383],aN [0,0,0,4,8,0,32,64,0,256,640,1042,2048,0,8193],(bz 0 13 (bq 13 (.take 14 [] .done)))⟩
def Uf:aj:=⟨aN [0,0,0,6,14,30,0,0,128,448,960,1984,4094,0,0,24576,57344,122880,0,0,524288,1835008,3932160,8126464,16769024,33554430,67108862,134217727,268435455],aN [0,0,0,6,8,16,0,0,128,320,512,1024,2080,0,0,24576,32768,65536,0,0,524288,1310720,2097152,4194304,8519680,16781312,33554432,0,134217729],(bz 0 27 (bq 27 (.take 28 [] .done)))⟩
def Ug:aj:=⟨aN [0,1,3,7,7,23,63,127,7,7,775,1799,4095,8191,16383],aN [0,1,2,4,4,20,44,68,4,4,772,1028,0,4100,8196],(bz 0 12 (bq 12 (bz 13 2 .done)))⟩
def Uh:aj:=⟨aN [0,1,3,7,15,31,0,64,192,463,1023,2047,0,4096,13263,32767,65535,0,131072,422863,1048575,2097151,0,4194304,13530063,33554431,67108863,134217727],aN [0,1,2,0,8,16,0,64,128,0,544,1024,0,4096,0,18432,32768,0,131072,0,589824,1048576,0,4194304,0,18874368,33554432,0],(bz 0 3 (bz 6 2 (.take 8 [8] (.take 12 [8] (.take 13 [13,8] (.take 17 [13,8] (.take 18 [18,13,8] (.take 22 [18,13,8] (.take 23 [23,18,13,8] (.br 3 [23,18,13,8] [23,18,13] (.take 4 [23,18,13] (.take 5 [23,18,13] (.br 9 [23,18,13] [23,18] (.take 10 [23,18] (.take 11 [23,18] (.br 14 [23,18] [23] (.take 15 [23] (.take 16 [23] (.br 19 [23] [] (bz 20 2 (bq 24 (bz 25 2 (bq 27 .done)))) .stop))) .stop))) .stop))) .stop))))))))))⟩
def Ui:aj:=⟨aN [0,0,3,0,0,24,56,127,255],aN [0,0,3,0,0,24,32,0,128],(bz 0 7 (bq 7 (.take 8 [] .done)))⟩
def Uj:aj:=⟨aN [0,0,3,7,0,0,48,112,255],aN [0,0,3,4,0,0,48,64,136],(bz 0 9 .done)⟩
def Oa:aj:=⟨aN [0,1,0,4,12,28,63,127,255,255,1023,2047,4095],aN [0,1,0,4,8,16,34,64,128,128,896,1152,2176],(bz 0 13 .done)⟩
def Uk:aj:=⟨aN [0,0,3,7,0,0,48,112,255],aN [0,0,3,4,0,0,48,64,136],(bz 0 9 .done)⟩
def Ul:aj:=⟨aN [0,0,3,7,0,0,48,112,255],aN [0,0,3,4,0,0,48,64,136],(bz 0 9 .done)⟩
def Um:aj:=⟨aN [0,0,3,7,0,0,48,112,255],aN [0,0,3,4,0,0,48,64,136],(bz 0 9 .done)⟩
def Un:aj:=⟨aN [0,1,3,0,8,31,63,127,255],aN [0,1,0,0,8,0,36,0,128],(bz 0 2 (.take 3 [] (.take 4 [4] (.br 2 [4] [] (bq 5 (.take 6 [] (bq 7 (.take 8 [] .done)))) .stop))))⟩
def Uo:aj:=⟨aN [0,1,0,4,0,19,63],aN [0,1,0,4,0,0,8],(.take 0 [0] (.take 1 [1,0] (.take 2 [2,1,0] (.take 3 [3,2,1,0] (.br 4 [3,2,1,0] [3] (.br 5 [3] [] (.take 6 [] .done) .stop) .stop)))))⟩
def Ob:aj:=⟨aN [0,0,0,0,0,0,56,0,0,0,1016,2040,3,8191,16383],aN [0,0,0,0,0,0,0,0,0,0,0,1088,3,4100,0],(.take 0 [0] (.take 1 [0] (.take 2 [0] (.take 3 [0] (.take 4 [0] (.take 5 [0] (.take 7 [0] (.take 8 [0] (.take 9 [0] (.take 12 [0] (.br 6 [0] [0] (.br 10 [0] [] (.take 11 [] (.take 13 [] (bq 14 .done))) .stop) .stop)))))))))))⟩
def Oc:aj:=⟨aN [0,1,3,7,0,16,48,112,255],aN [0,1,2,4,0,16,32,64,136],(bz 0 9 .done)⟩
def Up:aj:=⟨aN [0,0,2,7,15,31,31,127,255,31,31,1567,3615,8191,16383],aN [0,0,2,5,8,16,16,112,144,16,16,1552,2064,0,8208],(bz 0 13 (bq 13 (.take 14 [] .done)))⟩
def Uq:aj:=⟨aN [0,0,2,7,15,31,31,127,255,31,31,1567,3615,8191,16383],aN [0,0,2,5,8,16,16,112,144,16,16,1552,2064,4368,8208],(bz 0 15 .done)⟩
def Ur:aj:=⟨aN [0,0,0,6,15,0,0,96,224,480,1023,0,0,6144,16383,32767],aN [0,0,0,6,0,0,0,96,128,256,0,0,0,6144,0,18434],(bz 0 4 (bz 5 3 (.take 8 [8] (.take 9 [8] (.take 11 [8] (.take 12 [8] (.take 13 [8] (.br 4 [8] [] (bq 10 (bq 14 (.take 15 [] .done))) .stop))))))))⟩
def Us:aj:=⟨aN [0,0,0,6,14,30,62,0,0,384,896,1920,0,0,12288,28672,61440,126976,262142,524286,1048575,2097151],aN [0,0,0,6,8,16,32,0,0,384,512,1024,0,0,12288,16384,32768,65536,133184,262144,0,1048577],(bz 0 20 (bq 20 (.take 21 [] .done)))⟩
def Ut:aj:=⟨aN [0,0,3,7,15,0,32,127,0,0,768,1792,3840,0,8192,32512,0,0,196608,458752,983040,2097151,0,8388607],aN [0,0,3,4,8,0,32,80,0,0,768,1024,2048,0,8192,20480,0,0,196608,262144,524288,1081472,0,0],(.take 0 [0] (.take 1 [1,0] (.take 2 [2,1,0] (.take 3 [3,2,1,0] (.take 4 [4,3,2,1,0] (.take 5 [5,4,3,2,1,0] (.take 6 [6,5,4,3,2,1,0] (.take 7 [7,6,5,4,3,2,1,0] (.take 8 [8,7,6,5,4,3,2,1,0] (.take 9 [9,8,7,6,5,4,3,2,1,0] (.take 10 [10,9,8,7,6,5,4,3,2,1,0] (.take 11 [11,10,9,8,7,6,5,4,3,2,1,0] (.take 12 [12,11,10,9,8,7,6,5,4,3,2,1,0] (.take 13 [13,12,11,10,9,8,7,6,5,4,3,2,1,0] (.take 14 [14,13,12,11,10,9,8,7,6,5,4,3,2,1,0] (.take 15 [15,14,13,12,11,10,9,8,7,6,5,4,3,2,1,0] (.take 16 [16,15,14,13,12,11,10,9,8,7,6,5,4,3,2,1,0] (.take 17 [17,16,15,14,13,12,11,10,9,8,7,6,5,4,3,2,1,0] (.take 18 [18,17,16,15,14,13,12,11,10,9,8,7,6,5,4,3,2,1,0] (.take 19 [19,18,17,16,15,14,13,12,11,10,9,8,7,6,5,4,3,2,1,0] (.take 20 [20,19,18,17,16,15,14,13,12,11,10,9,8,7,6,5,4,3,2,1,0] (.take 21 [21,20,19,18,17,16,15,14,13,12,11,10,9,8,7,6,5,4,3,2,1,0] (.br 22 [21,20,19,18,17,16,15,14,13,12,11,10,9,8,7,6,5,4,3,2,1,0] [] (bq 23 .done) .stop)))))))))))))))))))))))⟩
def Uu:aj:=⟨aN [0,1,0,4,15,31,31,95,223,511,1023,31,4095,8191,16383,32767,65535,131071,262143],aN [0,0,0,4,8,16,16,80,144,304,528,16,0,4112,8208,0,32770,0,131072],(.take 0 [] (bz 2 2 (bq 1 (bz 4 8 (bq 12 (bz 13 2 (bq 15 (.take 16 [] (bq 17 (.take 18 [] .done))))))))))⟩
def Uv:aj:=⟨aN [0,1,3,7,7,23,63,127,255,7,519,2047,4095],aN [0,1,2,4,4,20,44,68,0,4,516,1284,2052],(bz 0 8 (.take 9 [] (.take 10 [10] (.br 8 [10] [] (bz 11 2 .done) .stop))))⟩
def Uw:aj:=⟨aN [0,1,3,7,15,0,32,96,224,480,1023,2047],aN [0,1,2,4,0,0,32,64,128,256,0,1024],(bz 0 4 (bz 5 3 (.take 8 [8] (.take 9 [9,8] (.br 4 [9,8] [] (bq 10 (.take 11 [] .done)) .stop)))))⟩
def Ux:aj:=⟨aN [0,1,0,0,12,28,63,127],aN [0,1,0,0,12,16,0,64],(bz 0 6 (bq 6 (.take 7 [] .done)))⟩
def Od:aj:=⟨aN [0,1,3,7,15,31,0,127,255,511,1023],aN [0,1,2,4,8,0,0,0,160,0,512],(bz 0 5 (.take 6 [6] (.br 5 [6] [] (bq 7 (.take 8 [] (bq 9 (.take 10 [] .done)))) .stop)))⟩
def Oe:aj:=⟨aN [0,1,3,7,15,31,63,127,63,319,831,1855,4095,8191,16383],aN [0,1,2,4,8,16,32,0,32,288,544,1056,0,4256,8224],(bz 0 7 (.take 8 [8] (.take 9 [8] (.take 10 [8] (.take 11 [11,8] (.br 7 [11,8] [] (bq 12 (bz 13 2 .done)) .stop))))))⟩
def Of:aj:=⟨aN [0,1,3,7,0,31],aN [0,1,2,4,0,24],(bz 0 6 .done)⟩
def Kh:aj:=⟨aN [0,1,3,7,15,0,32,127,255],aN [0,1,2,4,8,0,32,80,128],(bz 0 9 .done)⟩
def Ki:aj:=⟨aN [0,1,3,7,0,31],aN [0,1,2,4,0,0],(bz 0 5 (bq 5 .done))⟩
def Kj:aj:=⟨aN [0,0,0,4,12,28,60,0,125,381,893,2047,4095,8191],aN [0,0,0,4,8,16,32,0,1,256,0,2,2048,0],(.take 0 [] (.take 1 [1] (.take 2 [1] (.take 3 [1] (.take 4 [1] (.take 5 [1] (.take 6 [1] (.take 7 [7,1] (.take 8 [7,1] (.take 9 [7,1] (.br 10 [7,1] [] (bz 11 2 (bq 13 .done)) .stop)))))))))))⟩
def Og:aj:=⟨aN [0,1,3,7,15,31,63,127,255,511,255,255,2303,6399,15615,31999,65535,131071,262143],aN [0,1,2,4,12,20,36,64,128,0,128,128,2176,4224,9344,16512,0,66176,131200],(bz 0 9 (bz 10 2 (.take 12 [12] (.take 13 [12] (.take 14 [12] (.take 15 [15,12] (.br 9 [15,12] [] (bq 16 (bz 17 2 .done)) .stop)))))))⟩
def Oh:aj:=⟨aN [0,1,0,7,15,31],aN [0,0,0,0,2,8],(.take 0 [] (.take 2 [2] (.br 1 [2] [] (bq 3 (bz 4 2 .done)) .stop)))⟩
def Kk:aj:=⟨aN [0,0,3,7,0,0,48,112,255],aN [0,0,3,4,0,0,48,64,136],(bz 0 9 .done)⟩
def Oi:aj:=⟨aN [0,0,0,4,14,30,0,0,192,448,1022,2046,4095,8191],aN [0,0,0,4,10,16,0,0,192,256,0,1024,0,4097],(bz 0 10 (bq 10 (.take 11 [] (bq 12 (.take 13 [] .done)))))⟩
def Oj:aj:=⟨aN [0,1,3,0,8,31,63,127,255],aN [0,1,0,0,8,0,36,0,128],(bz 0 2 (.take 3 [] (.take 4 [4] (.br 2 [4] [] (bq 5 (.take 6 [] (bq 7 (.take 8 [] .done)))) .stop))))⟩
def Ol:aj:=⟨aN [0,1,3,0,0,16,48,120,255,0,512,1536,0,4096,0,16384,49264,127088,261744,524287,1048575],aN [0,1,2,0,0,16,0,72,132,0,512,1024,0,4096,0,16384,0,73728,133120,262400,0],(bz 0 2 (.take 2 [2] (.take 3 [2] (.take 4 [2] (.take 5 [2] (.take 9 [2] (.take 10 [2] (.take 11 [11,2] (.take 12 [11,2] (.take 13 [11,2] (.take 14 [11,2] (.take 15 [15,11,2] (.br 6 [15,11,2] [11,2] (.take 7 [11,2] (.take 8 [11,2] (.br 16 [11,2] [] (bz 17 3 (bq 20 .done)) .stop))) .stop)))))))))))))⟩
def Om:aj:=⟨aN [0,0,2,7,0,0,32,127,0,0,1023,2047],aN [0,0,2,0,0,0,32,0,0,0,0,0],(.al 8 [1,3,7,8,9,11,12,13] (.al 9 [1,3,7,8,9,11,12,13] (bz 0 3 (bz 4 2 (.take 6 [6] (.br 3 [6] [] (bq 7 (bq 10 (bq 11 .done))) .stop))))))⟩
def On:aj:=⟨aN [0,0,0,3,15,31,63,0,0,256,0,896,3968,8064,16256,32767],aN [0,0,0,3,12,16,0,0,0,256,0,640,3072,4096,8192,16448],(bz 0 6 (.take 7 [7] (.take 8 [7] (.take 9 [7] (.take 10 [7] (.take 11 [7] (.take 12 [7] (.take 13 [7] (.take 14 [14,7] (.br 6 [14,7] [] (.take 15 [] .done) .stop))))))))))⟩
def Oo:aj:=⟨aN [0,1,0,4,12,0,32,0,128,384,896,2016,0,4096,16383,32767],aN [0,0,0,4,8,0,32,0,128,256,512,1088,0,4096,10258,0],(.take 0 [] (.take 2 [] (.take 3 [3] (.take 4 [3] (.take 5 [3] (.take 6 [6,3] (.take 7 [6,3] (.take 8 [8,6,3] (.take 9 [8,6,3] (.take 10 [8,6,3] (.take 11 [8,6,3] (.take 12 [8,6,3] (.take 13 [13,8,6,3] (.br 1 [13,8,6,3] [] (.take 14 [] (bq 15 .done)) .stop))))))))))))))⟩
def Oq:aj:=⟨aN [0,1,0,4,15,31,0,64,192,511,1023,2047,4095,8191,16383,32767,65535,131071],aN [0,1,0,4,10,0,0,64,128,256,512,1536,2560,4608,0,16416,0,65536],(bz 0 5 (.take 6 [] (.take 7 [7] (.take 8 [7] (.br 5 [7] [] (bz 9 5 (bq 14 (.take 15 [] (bq 16 (.take 17 [] .done))))) .stop)))))⟩
def Ot:aj:=⟨aN [0,1,0,4,15,0,32,0,128,511,0,1024,0,4096,16383,32767,65535,131071],aN [0,1,0,4,0,0,32,0,128,0,0,1024,0,4096,0,16912,0,65536],(bz 0 4 (.take 5 [] (.take 6 [6] (.take 7 [6] (.take 8 [8,6] (.take 10 [8,6] (.take 11 [11,8,6] (.take 12 [11,8,6] (.take 13 [13,11,8,6] (.br 4 [13,11,8,6] [13,11] (.br 9 [13,11] [] (bq 14 (.take 15 [] (bq 16 (.take 17 [] .done)))) .stop) .stop))))))))))⟩
def Kl:aj:=⟨aN [0,1,3,7,7,23,63,127,7,7,775,1799,4095,8191,16383],aN [0,1,2,4,4,20,44,68,4,4,772,1028,0,4100,8196],(bz 0 12 (bq 12 (bz 13 2 .done)))⟩
def Ou:aj:=⟨aN [0,0,3,7,3,19,63],aN [0,0,3,4,0,16,0],(bz 0 2 (.take 2 [2] (.take 3 [2] (.br 4 [2] [] (.take 5 [] (bq 6 .done)) .stop))))⟩
def Ov:aj:=⟨aN [0,0,3,0,0,0,32,112,248,7,1023,2047],aN [0,0,3,0,0,0,32,80,136,4,256,0],(bz 0 12 .done)⟩
def Ow:aj:=⟨aN [0,1,3,0,8,24,63,127],aN [0,1,2,0,0,16,36,64],(bz 0 2 (.take 2 [2] (.take 3 [2] (.br 4 [2] [] (bz 5 3 .done) .stop))))⟩
def Ox:aj:=⟨aN [0,1,0,4,0,16,60,124,252,511,1023,2047,4095],aN [0,0,0,4,0,16,40,64,128,0,514,0,2048],(.take 0 [] (.take 2 [] (.take 3 [3] (.take 4 [3] (.take 5 [5,3] (.take 6 [5,3] (.take 7 [5,3] (.take 8 [5,3] (.br 1 [5,3] [] (bq 9 (.take 10 [] (bq 11 (.take 12 [] .done)))) .stop)))))))))⟩
def Oy:aj:=⟨aN [0,1,3,0,8,31,63,127,255],aN [0,1,0,0,8,0,36,0,128],(bz 0 2 (.take 3 [] (.take 4 [4] (.br 2 [4] [] (bq 5 (.take 6 [] (bq 7 (.take 8 [] .done)))) .stop))))⟩
def Oz:aj:=⟨aN [0,0,3,7,15,15,63,127,15,15,527,1807,3855,8191,16383],aN [0,0,3,4,8,8,56,72,8,8,520,1288,2056,0,8200],(bz 0 13 (bq 13 (.take 14 [] .done)))⟩
def OA:aj:=⟨aN [0,0,0,0,8,0,0,64,224,480,0,0,3072,7168,16355,32739,65535,131071],aN [0,0,0,0,8,0,0,64,160,256,0,0,3072,4096,3,0,20,0],(bz 0 15 (bq 15 (.take 16 [] (bq 17 .done))))⟩
def Km:aj:=⟨aN [0,0,0,0,0,24,0,0,0,384,960,1984,0,0,12288,28672,65475,131011,262143,524287],aN [0,0,0,0,0,24,0,0,0,384,576,1024,0,0,12288,16384,3,0,36,0],(bz 0 17 (bq 17 (.take 18 [] (bq 19 .done))))⟩
def Kn:aj:=⟨aN [0,0,0,0,0,24,0,0,0,384,960,1984,0,0,12288,28672,65475,131011,262143,524287],aN [0,0,0,0,0,24,0,0,0,384,576,1024,0,0,12288,16384,3,0,36,0],(bz 0 17 (bq 17 (.take 18 [] (bq 19 .done))))⟩
def OB:aj:=⟨aN [0,0,0,0,0,0,48,112,0,0,768,1792,4083,8179,16383,32767],aN [0,0,0,0,0,0,48,64,0,0,768,1024,3,0,12,0],(bz 0 13 (bq 13 (.take 14 [] (bq 15 .done))))⟩
def OC:aj:=⟨aN [0,0,3,7,15,15,63,127,15,15,527,1807,3855,8191,16383,32767],aN [0,0,3,4,8,8,56,72,8,8,520,1288,2056,0,8200,16392],(bz 0 13 (bq 13 (bz 14 2 .done)))⟩
def Ko:aj:=⟨aN [0,0,0,0,8,0,0,64,224,480,0,0,3072,7168,16355,32739,65535,131071],aN [0,0,0,0,8,0,0,64,160,256,0,0,3072,4096,3,0,20,0],(bz 0 15 (bq 15 (.take 16 [] (bq 17 .done))))⟩
def Kp:aj:=⟨aN [0,0,3,7,0,0,32,112,240,511,1023],aN [0,0,3,4,0,0,32,80,128,0,512],(bz 0 9 (bq 9 (.take 10 [] .done)))⟩
def Kq:aj:=⟨aN [0,0,0,0,8,0,0,64,224,480,0,0,3072,7168,16355,32739,65535,131071],aN [0,0,0,0,8,0,0,64,160,256,0,0,3072,4096,3,0,20,0],(bz 0 15 (bq 15 (.take 16 [] (bq 17 .done))))⟩
def Kr:aj:=⟨aN [0,0,3,7,0,0,32,112,240,511,1023],aN [0,0,3,4,0,0,32,80,128,0,512],(bz 0 9 (bq 9 (.take 10 [] .done)))⟩
def Ks:aj:=⟨aN [0,0,0,0,8,0,0,64,224,480,0,0,3072,7168,16355,32739,65535,131071],aN [0,0,0,0,8,0,0,64,160,256,0,0,3072,4096,3,0,20,0],(bz 0 15 (bq 15 (.take 16 [] (bq 17 .done))))⟩
def OD:aj:=⟨aN [0,0,0,0,0,0,48,112,0,0,768,1792,4083,8179,16383,32767],aN [0,0,0,0,0,0,48,64,0,0,768,1024,3,0,12,0],(bz 0 13 (bq 13 (.take 14 [] (bq 15 .done))))⟩
def OE:aj:=⟨aN [0,0,3,7,15,15,63,127,15,15,783,1807,4095,8191,16383],aN [0,0,3,4,8,8,56,72,8,8,776,1032,0,4104,8200],(bz 0 12 (bq 12 (bz 13 2 .done)))⟩
def OF:aj:=⟨aN [0,0,3,7,15,15,63,127,15,15,783,1807,4095,8191],aN [0,0,3,4,8,8,56,72,8,8,776,1032,0,4104],(bz 0 12 (bq 12 (.take 13 [] .done)))⟩
def OG:aj:=⟨aN [0,0,0,0,0,0,48,112,0,0,768,1792,4083,8179,16383,32767],aN [0,0,0,0,0,0,48,64,0,0,768,1024,3,0,12,0],(bz 0 13 (bq 13 (.take 14 [] (bq 15 .done))))⟩
def OH:aj:=⟨aN [0,0,0,0,0,0,48,112,0,0,768,1792,4083,8179,16383,32767],aN [0,0,0,0,0,0,48,64,0,0,768,1024,3,0,12,0],(bz 0 13 (bq 13 (.take 14 [] (bq 15 .done))))⟩
def OI:aj:=⟨aN [0,0,3,7,15,15,63,127,15,15,783,1807,4095,8191],aN [0,0,3,4,8,8,56,72,8,8,776,1032,0,4104],(bz 0 12 (bq 12 (.take 13 [] .done)))⟩
def OJ:aj:=⟨aN [0,0,3,7,15,15,63,127,15,15,783,1807,4095,8191,16383],aN [0,0,3,4,8,8,56,72,8,8,776,1032,0,4104,8200],(bz 0 12 (bq 12 (bz 13 2 .done)))⟩
def OK:aj:=⟨aN [0,0,0,0,0,0,48,112,0,0,768,1792,4083,8179,16383,32767],aN [0,0,0,0,0,0,48,64,0,0,768,1024,3,0,12,0],(bz 0 13 (bq 13 (.take 14 [] (bq 15 .done))))⟩
def Kt:aj:=⟨aN [0,0,0,0,0,0,48,112,0,0,768,1792,4083,8179,16383,32767],aN [0,0,0,0,0,0,48,64,0,0,768,1024,3,0,12,0],(bz 0 13 (bq 13 (.take 14 [] (bq 15 .done))))⟩
def Ku:aj:=⟨aN [0,0,3,7,15,15,63,127,15,15,783,1807,4095,8191],aN [0,0,3,4,8,8,56,72,8,8,776,1032,0,4104],(bz 0 12 (bq 12 (.take 13 [] .done)))⟩
def Kv:aj:=⟨aN [0,0,3,7,15,15,63,127,15,15,783,1807,4095,8191,16383],aN [0,0,3,4,8,8,56,72,8,8,776,1032,0,4104,8200],(bz 0 12 (bq 12 (bz 13 2 .done)))⟩
def Kw:aj:=⟨aN [0,0,0,0,0,0,48,112,0,0,768,1792,4083,8179,16383,32767],aN [0,0,0,0,0,0,48,64,0,0,768,1024,3,0,12,0],(bz 0 13 (bq 13 (.take 14 [] (bq 15 .done))))⟩
def Kx:aj:=⟨aN [0,0,0,0,0,0,48,112,0,0,768,1792,4083,8179,16383,32767],aN [0,0,0,0,0,0,48,64,0,0,768,1024,3,0,12,0],(bz 0 13 (bq 13 (.take 14 [] (bq 15 .done))))⟩
def Ky:aj:=⟨aN [0,1,3,7,7,7,39,119,247,7,7,1543,3591,8191,16383,32767,65535],aN [0,1,2,4,4,4,36,84,132,4,4,1540,2052,0,8196,16388,32772],(bz 0 13 (bq 13 (bz 14 3 .done)))⟩
def OL:aj:=⟨aN [0,1,0,4,15,0,32,0,128,511,1023,2047,4095],aN [0,1,0,4,0,0,32,0,128,0,528,0,2048],(bz 0 4 (.take 5 [] (.take 6 [6] (.take 7 [6] (.take 8 [8,6] (.br 4 [8,6] [] (bq 9 (.take 10 [] (bq 11 (.take 12 [] .done)))) .stop))))))⟩
def OM:aj:=⟨aN [0,0,0,6,14,0,0,64,224,480,1023],aN [0,0,0,6,8,0,0,64,160,256,0],(bz 0 10 (bq 10 .done))⟩
def Kz:aj:=⟨aN [0,0,0,6,14,0,0,64,224,480,1023,2047],aN [0,0,0,6,8,0,0,64,160,256,0,1024],(bz 0 10 (bq 10 (.take 11 [] .done)))⟩
def ON:aj:=⟨aN [0,0,3,0,0,16,63,0,0,511,1023],aN [0,0,0,0,0,16,0,0,0,0,0],(.al 7 [1,3,11,12,14,15,16] (.al 8 [1,3,11,12,14,15,16] (bz 0 2 (.take 3 [3] (.take 4 [3] (.take 5 [3] (.br 2 [3] [] (bq 6 (bq 9 (bq 10 .done))) .stop)))))))⟩
def OO:aj:=⟨aN [0,1,0,7,15,31,31,31,223,511,1023,31,31,31,12319,28703,63519,129055,262143,524287],aN [0,1,0,6,8,16,16,16,208,304,528,16,16,16,12304,16400,34832,65552,0,262160],(bz 0 18 (bq 18 (.take 19 [] .done)))⟩
def OP:aj:=⟨aN [0,0,0,6,15,31,0,0,0,384,960,1984,4095,8191],aN [0,0,0,6,9,16,0,0,0,384,576,1024,0,4096],(bz 0 12 (bq 12 (.take 13 [] .done)))⟩
def OQ:aj:=⟨aN [0,0,0,6,0,0,0,96,0,0,0,1536,3840,7936,0,0,0,98304,245760,507904,1048335,2096911,4194303,8388607],aN [0,0,0,6,0,0,0,96,0,0,0,1536,2304,4096,0,0,0,98304,147456,262144,9,0,144,0],(bz 0 21 (bq 21 (.take 22 [] (bq 23 .done))))⟩
def OR:aj:=⟨aN [0,1,3,0,8,24,56,127,255,511],aN [0,1,2,0,8,16,32,68,1,0],(bz 0 9 (bq 9 .done))⟩
def OS:aj:=⟨aN [0,1,3,0,8,24,56,127,255,511],aN [0,1,2,0,8,16,32,68,1,0],(bz 0 9 (bq 9 .done))⟩
def OT:aj:=⟨aN [0,1,3,0,8,24,56,127,255,511],aN [0,1,2,0,8,16,32,68,1,0],(bz 0 9 (bq 9 .done))⟩
def OU:aj:=⟨aN [0,0,0,6,14,0,63,127],aN [0,0,0,6,8,0,0,64],(bz 0 6 (bq 6 (.take 7 [] .done)))⟩
def OV:aj:=⟨aN [0,0,0,6,14,30,30,30,222,478,30,2046,4094,8190,4095,32767],aN [0,0,0,6,8,16,16,16,208,272,16,0,2064,4112,1,8192],(bz 0 11 (bq 11 (bz 12 4 .done)))⟩
def OW:aj:=⟨aN [0,0,3,7,15,15,15,111,239,15,15,1039,3599,7695,16383,32767,65535],aN [0,0,3,4,8,8,8,104,136,8,8,1032,2568,4104,0,16392,32776],(bz 0 14 (bq 14 (bz 15 2 .done)))⟩
def OX:aj:=⟨aN [0,0,0,0,8,0,0,64,224,480,0,0,3072,7168,16355,32739,65535,131071],aN [0,0,0,0,8,0,0,64,160,256,0,0,3072,4096,3,0,20,0],(bz 0 15 (bq 15 (.take 16 [] (bq 17 .done))))⟩
def KA:aj:=⟨aN [0,0,0,0,0,24,0,0,0,384,960,1984,0,0,12288,28672,65475,131011,262143,524287],aN [0,0,0,0,0,24,0,0,0,384,576,1024,0,0,12288,16384,3,0,36,0],(bz 0 17 (bq 17 (.take 18 [] (bq 19 .done))))⟩
def KB:aj:=⟨aN [0,0,0,0,0,24,0,0,0,384,960,1984,0,0,12288,28672,65475,131011,262143,524287],aN [0,0,0,0,0,24,0,0,0,384,576,1024,0,0,12288,16384,3,0,36,0],(bz 0 17 (bq 17 (.take 18 [] (bq 19 .done))))⟩
def OY:aj:=⟨aN [0,0,0,0,0,0,48,112,0,0,768,1792,4083,8179,16383,32767],aN [0,0,0,0,0,0,48,64,0,0,768,1024,3,0,12,0],(bz 0 13 (bq 13 (.take 14 [] (bq 15 .done))))⟩
def OZ:aj:=⟨aN [0,0,3,7,15,15,15,111,239,15,15,1039,3599,7695,16383,32767,65535,131071],aN [0,0,3,4,8,8,8,104,136,8,8,1032,2568,4104,0,16392,32776,65544],(bz 0 14 (bq 14 (bz 15 3 .done)))⟩
def KC:aj:=⟨aN [0,0,0,0,8,0,0,64,224,480,0,0,3072,7168,16355,32739,65535,131071],aN [0,0,0,0,8,0,0,64,160,256,0,0,3072,4096,3,0,20,0],(bz 0 15 (bq 15 (.take 16 [] (bq 17 .done))))⟩
def KD:aj:=⟨aN [0,0,0,6,14,0,0,64,224,480,1023,2047,4095],aN [0,0,0,6,8,0,0,64,160,256,0,1024,2048],(bz 0 10 (bq 10 (bz 11 2 .done)))⟩
def KE:aj:=⟨aN [0,0,0,0,8,0,0,64,224,480,0,0,3072,7168,16355,32739,65535,131071],aN [0,0,0,0,8,0,0,64,160,256,0,0,3072,4096,3,0,20,0],(bz 0 15 (bq 15 (.take 16 [] (bq 17 .done))))⟩
def KF:aj:=⟨aN [0,0,0,6,14,0,0,64,224,480,1023,2047,4095],aN [0,0,0,6,8,0,0,64,160,256,0,1024,2048],(bz 0 10 (bq 10 (bz 11 2 .done)))⟩
def KG:aj:=⟨aN [0,0,0,0,8,0,0,64,224,480,0,0,3072,7168,16355,32739,65535,131071],aN [0,0,0,0,8,0,0,64,160,256,0,0,3072,4096,3,0,20,0],(bz 0 15 (bq 15 (.take 16 [] (bq 17 .done))))⟩
def O0:aj:=⟨aN [0,0,0,0,0,0,48,112,0,0,768,1792,4083,8179,16383,32767],aN [0,0,0,0,0,0,48,64,0,0,768,1024,3,0,12,0],(bz 0 13 (bq 13 (.take 14 [] (bq 15 .done))))⟩
def O1:aj:=⟨aN [0,0,3,7,15,15,15,111,239,15,15,1551,3599,8191,16383,32767,65535],aN [0,0,3,4,8,8,8,104,136,8,8,1544,2056,0,8200,16392,32776],(bz 0 13 (bq 13 (bz 14 3 .done)))⟩
def O2:aj:=⟨aN [0,0,3,7,15,15,15,111,239,15,15,1551,3599,8191,16383,32767],aN [0,0,3,4,8,8,8,104,136,8,8,1544,2056,0,8200,16392],(bz 0 13 (bq 13 (bz 14 2 .done)))⟩
def O3:aj:=⟨aN [0,0,0,0,0,0,48,112,0,0,768,1792,4083,8179,16383,32767],aN [0,0,0,0,0,0,48,64,0,0,768,1024,3,0,12,0],(bz 0 13 (bq 13 (.take 14 [] (bq 15 .done))))⟩
def O4:aj:=⟨aN [0,0,0,0,0,0,48,112,0,0,768,1792,4083,8179,16383,32767],aN [0,0,0,0,0,0,48,64,0,0,768,1024,3,0,12,0],(bz 0 13 (bq 13 (.take 14 [] (bq 15 .done))))⟩
def O6:aj:=⟨aN [0,0,3,7,15,15,15,111,239,15,15,1551,3599,8191,16383,32767],aN [0,0,3,4,8,8,8,104,136,8,8,1544,2056,0,8200,16392],(bz 0 13 (bq 13 (bz 14 2 .done)))⟩
def O7:aj:=⟨aN [0,0,3,7,15,15,15,111,239,15,15,1551,3599,8191,16383,32767,65535],aN [0,0,3,4,8,8,8,104,136,8,8,1544,2056,0,8200,16392,32776],(bz 0 13 (bq 13 (bz 14 3 .done)))⟩
def O8:aj:=⟨aN [0,0,0,0,0,0,48,112,0,0,768,1792,4083,8179,16383,32767],aN [0,0,0,0,0,0,48,64,0,0,768,1024,3,0,12,0],(bz 0 13 (bq 13 (.take 14 [] (bq 15 .done))))⟩
def KH:aj:=⟨aN [0,0,0,0,0,0,48,112,0,0,768,1792,4083,8179,16383,32767],aN [0,0,0,0,0,0,48,64,0,0,768,1024,3,0,12,0],(bz 0 13 (bq 13 (.take 14 [] (bq 15 .done))))⟩
def KI:aj:=⟨aN [0,0,3,7,15,15,15,111,239,15,15,1551,3599,8191,16383,32767],aN [0,0,3,4,8,8,8,104,136,8,8,1544,2056,0,8200,16392],(bz 0 13 (bq 13 (bz 14 2 .done)))⟩
def KJ:aj:=⟨aN [0,0,3,7,15,15,15,111,239,15,15,1551,3599,8191,16383,32767,65535],aN [0,0,3,4,8,8,8,104,136,8,8,1544,2056,0,8200,16392,32776],(bz 0 13 (bq 13 (bz 14 3 .done)))⟩
def KK:aj:=⟨aN [0,0,0,0,0,0,48,112,0,0,768,1792,4083,8179,16383,32767],aN [0,0,0,0,0,0,48,64,0,0,768,1024,3,0,12,0],(bz 0 13 (bq 13 (.take 14 [] (bq 15 .done))))⟩
def KL:aj:=⟨aN [0,0,0,0,0,0,48,112,0,0,768,1792,4083,8179,16383,32767],aN [0,0,0,0,0,0,48,64,0,0,768,1024,3,0,12,0],(bz 0 13 (bq 13 (.take 14 [] (bq 15 .done))))⟩
def KM:aj:=⟨aN [0,1,3,7,7,7,39,119,247,7,7,1543,3591,8191,16383,32767,65535],aN [0,1,2,4,4,4,36,84,132,4,4,1540,2052,0,8196,16388,32772],(bz 0 13 (bq 13 (bz 14 3 .done)))⟩
def O9:aj:=⟨aN [0,0,2,0,0,16,0,64,192,0,512,455,2503,8191,16383],aN [0,0,2,0,0,16,0,64,128,0,512,5,0,40,0],(bz 0 12 (bq 12 (.take 13 [] (bq 14 .done))))⟩
def Pa:aj:=⟨aN [0,0,2,0,0,16,0,64,192,0,512,455,2503,8191,16383],aN [0,0,2,0,0,16,0,64,128,0,512,5,0,40,0],(bz 0 12 (bq 12 (.take 13 [] (bq 14 .done))))⟩
def Pb:aj:=⟨aN [0,0,2,0,0,16,0,64,192,0,512,455,2503,8191,16383],aN [0,0,2,0,0,16,0,64,128,0,512,5,0,40,0],(bz 0 12 (bq 12 (.take 13 [] (bq 14 .done))))⟩
def KN:aj:=⟨aN [0,0,2,0,0,16,0,64,192,0,512,455,2503,8191,16383],aN [0,0,2,0,0,16,0,64,128,0,512,5,0,40,0],(bz 0 12 (bq 12 (.take 13 [] (bq 14 .done))))⟩
def KO:aj:=⟨aN [0,0,2,0,0,16,0,64,192,0,512,455,2503,8191,16383],aN [0,0,2,0,0,16,0,64,128,0,512,5,0,40,0],(bz 0 12 (bq 12 (.take 13 [] (bq 14 .done))))⟩
def KP:aj:=⟨aN [0,0,2,0,0,16,0,64,192,0,512,455,2503,8191,16383],aN [0,0,2,0,0,16,0,64,128,0,512,5,0,40,0],(bz 0 12 (bq 12 (.take 13 [] (bq 14 .done))))⟩
def KQ:aj:=⟨aN [0,0,2,0,0,16,0,64,192,0,512,455,2503,8191,16383],aN [0,0,2,0,0,16,0,64,128,0,512,5,0,40,0],(bz 0 12 (bq 12 (.take 13 [] (bq 14 .done))))⟩
def Pc:aj:=⟨aN [0,0,3,7,0,0,48,112,255],aN [0,0,3,4,0,0,48,64,0],(bz 0 8 (bq 8 .done))⟩
def Pd:aj:=⟨aN [0,1,0,7,15,31,31,31,31,415,991,2015,31,31,31,24607,57375,127007,258079,524287,1048575,2097151],aN [0,1,0,6,8,16,16,16,16,400,592,1040,16,16,16,24592,32784,69648,131088,0,524304,1048592],(bz 0 19 (bq 19 (bz 20 2 .done)))⟩
def Pe:aj:=⟨aN [0,0,0,0,12,30,62,0,0,0,768,1920,3968,8191,16383,32767],aN [0,0,0,0,12,18,32,0,0,0,768,1152,2048,0,8192,16384],(bz 0 13 (bq 13 (bz 14 2 .done)))⟩
def Pf:aj:=⟨aN [0,0,0,6,0,0,0,96,0,0,0,1536,3840,7936,0,0,0,98304,245760,507904,1048335,2096911,4194303,8388607],aN [0,0,0,6,0,0,0,96,0,0,0,1536,2304,4096,0,0,0,98304,147456,262144,9,0,144,0],(bz 0 21 (bq 21 (.take 22 [] (bq 23 .done))))⟩
def Pg:aj:=⟨aN [0,0,3,7,15,15,15,111,239,15,15,1039,3599,7695,16383,32767,65535],aN [0,0,3,4,8,8,8,104,136,8,8,1032,2568,4104,0,16392,32776],(bz 0 14 (bq 14 (bz 15 2 .done)))⟩
def Ph:aj:=⟨aN [0,0,0,0,8,0,0,64,224,480,0,0,3072,7168,16355,32739,65535,131071],aN [0,0,0,0,8,0,0,64,160,256,0,0,3072,4096,3,0,20,0],(bz 0 15 (bq 15 (.take 16 [] (bq 17 .done))))⟩
def KR:aj:=⟨aN [0,0,0,0,0,24,0,0,0,384,960,1984,0,0,12288,28672,65475,131011,262143,524287],aN [0,0,0,0,0,24,0,0,0,384,576,1024,0,0,12288,16384,3,0,36,0],(bz 0 17 (bq 17 (.take 18 [] (bq 19 .done))))⟩
def KS:aj:=⟨aN [0,0,0,0,0,24,0,0,0,384,960,1984,0,0,12288,28672,65475,131011,262143,524287],aN [0,0,0,0,0,24,0,0,0,384,576,1024,0,0,12288,16384,3,0,36,0],(bz 0 17 (bq 17 (.take 18 [] (bq 19 .done))))⟩
def Pj:aj:=⟨aN [0,0,0,0,0,0,48,112,0,0,768,1792,4083,8179,16383,32767],aN [0,0,0,0,0,0,48,64,0,0,768,1024,3,0,12,0],(bz 0 13 (bq 13 (.take 14 [] (bq 15 .done))))⟩
def Pk:aj:=⟨aN [0,0,3,7,15,15,15,111,239,15,15,1039,3599,7695,16383,32767,65535,131071],aN [0,0,3,4,8,8,8,104,136,8,8,1032,2568,4104,0,16392,32776,65544],(bz 0 14 (bq 14 (bz 15 3 .done)))⟩
def KT:aj:=⟨aN [0,0,0,0,8,0,0,64,224,480,0,0,3072,7168,16355,32739,65535,131071],aN [0,0,0,0,8,0,0,64,160,256,0,0,3072,4096,3,0,20,0],(bz 0 15 (bq 15 (.take 16 [] (bq 17 .done))))⟩
def KU:aj:=⟨aN [0,0,0,6,14,0,0,64,224,480,1023,2047,4095],aN [0,0,0,6,8,0,0,64,160,256,0,1024,2048],(bz 0 10 (bq 10 (bz 11 2 .done)))⟩
def KV:aj:=⟨aN [0,0,0,0,8,0,0,64,224,480,0,0,3072,7168,16355,32739,65535,131071],aN [0,0,0,0,8,0,0,64,160,256,0,0,3072,4096,3,0,20,0],(bz 0 15 (bq 15 (.take 16 [] (bq 17 .done))))⟩
def KW:aj:=⟨aN [0,0,0,6,14,0,0,64,224,480,1023,2047,4095],aN [0,0,0,6,8,0,0,64,160,256,0,1024,2048],(bz 0 10 (bq 10 (bz 11 2 .done)))⟩
def KX:aj:=⟨aN [0,0,0,0,8,0,0,64,224,480,0,0,3072,7168,16355,32739,65535,131071],aN [0,0,0,0,8,0,0,64,160,256,0,0,3072,4096,3,0,20,0],(bz 0 15 (bq 15 (.take 16 [] (bq 17 .done))))⟩
def Pl:aj:=⟨aN [0,0,0,0,0,0,48,112,0,0,768,1792,4083,8179,16383,32767],aN [0,0,0,0,0,0,48,64,0,0,768,1024,3,0,12,0],(bz 0 13 (bq 13 (.take 14 [] (bq 15 .done))))⟩
def Pm:aj:=⟨aN [0,0,3,7,15,15,15,111,239,15,15,1551,3599,8191,16383,32767,65535],aN [0,0,3,4,8,8,8,104,136,8,8,1544,2056,0,8200,16392,32776],(bz 0 13 (bq 13 (bz 14 3 .done)))⟩
def Pn:aj:=⟨aN [0,0,3,7,15,15,15,111,239,15,15,1551,3599,8191,16383,32767],aN [0,0,3,4,8,8,8,104,136,8,8,1544,2056,0,8200,16392],(bz 0 13 (bq 13 (bz 14 2 .done)))⟩
def Po:aj:=⟨aN [0,0,0,0,0,0,48,112,0,0,768,1792,4083,8179,16383,32767],aN [0,0,0,0,0,0,48,64,0,0,768,1024,3,0,12,0],(bz 0 13 (bq 13 (.take 14 [] (bq 15 .done))))⟩
def Pp:aj:=⟨aN [0,0,0,0,0,0,48,112,0,0,768,1792,4083,8179,16383,32767],aN [0,0,0,0,0,0,48,64,0,0,768,1024,3,0,12,0],(bz 0 13 (bq 13 (.take 14 [] (bq 15 .done))))⟩
def Pq:aj:=⟨aN [0,0,3,7,15,15,15,111,239,15,15,1551,3599,8191,16383,32767],aN [0,0,3,4,8,8,8,104,136,8,8,1544,2056,0,8200,16392],(bz 0 13 (bq 13 (bz 14 2 .done)))⟩
def Pr:aj:=⟨aN [0,0,3,7,15,15,15,111,239,15,15,1551,3599,8191,16383,32767,65535],aN [0,0,3,4,8,8,8,104,136,8,8,1544,2056,0,8200,16392,32776],(bz 0 13 (bq 13 (bz 14 3 .done)))⟩
def Ps:aj:=⟨aN [0,0,0,0,0,0,48,112,0,0,768,1792,4083,8179,16383,32767],aN [0,0,0,0,0,0,48,64,0,0,768,1024,3,0,12,0],(bz 0 13 (bq 13 (.take 14 [] (bq 15 .done))))⟩
def KY:aj:=⟨aN [0,0,0,0,0,0,48,112,0,0,768,1792,4083,8179,16383,32767],aN [0,0,0,0,0,0,48,64,0,0,768,1024,3,0,12,0],(bz 0 13 (bq 13 (.take 14 [] (bq 15 .done))))⟩
def KZ:aj:=⟨aN [0,0,3,7,15,15,15,111,239,15,15,1551,3599,8191,16383,32767],aN [0,0,3,4,8,8,8,104,136,8,8,1544,2056,0,8200,16392],(bz 0 13 (bq 13 (bz 14 2 .done)))⟩
def K0:aj:=⟨aN [0,0,3,7,15,15,15,111,239,15,15,1551,3599,8191,16383,32767,65535],aN [0,0,3,4,8,8,8,104,136,8,8,1544,2056,0,8200,16392,32776],(bz 0 13 (bq 13 (bz 14 3 .done)))⟩
def K1:aj:=⟨aN [0,0,0,0,0,0,48,112,0,0,768,1792,4083,8179,16383,32767],aN [0,0,0,0,0,0,48,64,0,0,768,1024,3,0,12,0],(bz 0 13 (bq 13 (.take 14 [] (bq 15 .done))))⟩
def K3:aj:=⟨aN [0,0,0,0,0,0,48,112,0,0,768,1792,4083,8179,16383,32767],aN [0,0,0,0,0,0,48,64,0,0,768,1024,3,0,12,0],(bz 0 13 (bq 13 (.take 14 [] (bq 15 .done))))⟩
def Pt:aj:=⟨aN [0,0,0,6,14,0,0,96,224,511,1023],aN [0,0,0,6,8,0,0,96,128,0,512],(bz 0 9 (bq 9 (.take 10 [] .done)))⟩
def Pu:aj:=⟨aN [0,1,0,7,15,31,31,31,31,415,991,2015,31,31,31,24607,57375,127007,258079,524287,1048575,2097151],aN [0,1,0,6,8,16,16,16,16,400,592,1040,16,16,16,24592,32784,69648,131088,0,524304,1048592],(bz 0 19 (bq 19 (bz 20 2 .done)))⟩
def Pv:aj:=⟨aN [0,0,0,0,12,30,62,0,0,0,768,1920,3968,8191,16383,32767],aN [0,0,0,0,12,18,32,0,0,0,768,1152,2048,0,8192,16384],(bz 0 13 (bq 13 (bz 14 2 .done)))⟩
def Pw:aj:=⟨aN [0,0,0,6,0,0,0,96,0,0,0,1536,3840,7936,0,0,0,98304,245760,507904,1048335,2096911,4194303,8388607],aN [0,0,0,6,0,0,0,96,0,0,0,1536,2304,4096,0,0,0,98304,147456,262144,9,0,144,0],(bz 0 21 (bq 21 (.take 22 [] (bq 23 .done))))⟩
def Px:aj:=⟨aN [0,0,0,6,14,0,0,96,224,511,1023],aN [0,0,0,6,8,0,0,96,128,0,512],(bz 0 9 (bq 9 (.take 10 [] .done)))⟩
def dtF (f r:Nat):Option aj:=
  bif Nat.beq f 12 then (bif Nat.beq r 14 then some N7 else bif Nat.beq r 25 then some N8 else none) else
  bif Nat.beq f 15 then (bif Nat.beq r 23 then some N9 else none) else
  bif Nat.beq f 17 then (bif Nat.beq r 8 then some Uf else none) else
  bif Nat.beq f 19 then (bif Nat.beq r 9 then some Ug else none) else
  bif Nat.beq f 29 then (bif Nat.beq r 8 then some Uh else none) else
  bif Nat.beq f 31 then (bif Nat.beq r 6 then some Ui else none) else
  bif Nat.beq f 37 then (bif Nat.beq r 6 then some Uj else none) else
  bif Nat.beq f 43 then (bif Nat.beq r 15 then some Oa else none) else
  bif Nat.beq f 49 then (bif Nat.beq r 6 then some Uk else none) else
  bif Nat.beq f 50 then (bif Nat.beq r 6 then some Ul else none) else
  bif Nat.beq f 51 then (bif Nat.beq r 6 then some Um else none) else
  bif Nat.beq f 54 then (bif Nat.beq r 1 then some Un else none) else
  bif Nat.beq f 55 then (bif Nat.beq r 2 then some Uo else none) else
  bif Nat.beq f 57 then (bif Nat.beq r 15 then some Ob else bif Nat.beq r 18 then some Oc else none) else
  bif Nat.beq f 62 then (bif Nat.beq r 6 then some Up else bif Nat.beq r 8 then some Uq else bif Nat.beq r 9 then some Ur else none) else
  bif Nat.beq f 74 then (bif Nat.beq r 5 then some Us else none) else
  bif Nat.beq f 76 then (bif Nat.beq r 6 then some Ut else none) else
  bif Nat.beq f 79 then (bif Nat.beq r 6 then some Uu else none) else
  bif Nat.beq f 93 then (bif Nat.beq r 5 then some Uv else none) else
  bif Nat.beq f 97 then (bif Nat.beq r 1 then some Uw else none) else
  bif Nat.beq f 99 then (bif Nat.beq r 8 then some Ux else none) else
  bif Nat.beq f 100 then (bif Nat.beq r 1 then some Od else bif Nat.beq r 4 then some Oe else bif Nat.beq r 8 then some Of else bif Nat.beq r 10 then some Kh else bif Nat.beq r 14 then some Ki else bif Nat.beq r 15 then some Kj else none) else
  bif Nat.beq f 101 then (bif Nat.beq r 2 then some Og else bif Nat.beq r 6 then some Oh else bif Nat.beq r 13 then some Kk else none) else
  bif Nat.beq f 107 then (bif Nat.beq r 6 then some Oi else none) else
  bif Nat.beq f 108 then (bif Nat.beq r 1 then some Oj else none) else
  bif Nat.beq f 109 then (bif Nat.beq r 1 then some Ol else none) else
  bif Nat.beq f 115 then (bif Nat.beq r 2 then some Om else none) else
  bif Nat.beq f 116 then (bif Nat.beq r 1 then some On else none) else
  bif Nat.beq f 121 then (bif Nat.beq r 1 then some Oo else none) else
  bif Nat.beq f 125 then (bif Nat.beq r 1 then some Oq else none) else
  bif Nat.beq f 127 then (bif Nat.beq r 1 then some Ot else none) else
  bif Nat.beq f 128 then (bif Nat.beq r 17 then some Kl else none) else
  bif Nat.beq f 131 then (bif Nat.beq r 8 then some Ou else none) else
  bif Nat.beq f 141 then (bif Nat.beq r 3 then some Ov else none) else
  bif Nat.beq f 144 then (bif Nat.beq r 1 then some Ow else none) else
  bif Nat.beq f 151 then (bif Nat.beq r 1 then some Ox else none) else
  bif Nat.beq f 157 then (bif Nat.beq r 1 then some Oy else none) else
  bif Nat.beq f 161 then (bif Nat.beq r 4 then some Oz else bif Nat.beq r 6 then some OA else none) else
  bif Nat.beq f 162 then (bif Nat.beq r 10 then some Km else none) else
  bif Nat.beq f 163 then (bif Nat.beq r 10 then some Kn else none) else
  bif Nat.beq f 165 then (bif Nat.beq r 3 then some OB else none) else
  bif Nat.beq f 166 then (bif Nat.beq r 5 then some OC else bif Nat.beq r 11 then some Ko else bif Nat.beq r 16 then some Kp else bif Nat.beq r 17 then some Kq else bif Nat.beq r 22 then some Kr else bif Nat.beq r 23 then some Ks else none) else
  bif Nat.beq f 168 then (bif Nat.beq r 1 then some OD else bif Nat.beq r 3 then some OE else bif Nat.beq r 5 then some OF else bif Nat.beq r 8 then some OG else none) else
  bif Nat.beq f 169 then (bif Nat.beq r 1 then some OH else bif Nat.beq r 3 then some OI else bif Nat.beq r 5 then some OJ else bif Nat.beq r 8 then some OK else bif Nat.beq r 10 then some Kt else bif Nat.beq r 13 then some Ku else bif Nat.beq r 15 then some Kv else bif Nat.beq r 18 then some Kw else bif Nat.beq r 21 then some Kx else none) else
  bif Nat.beq f 175 then (bif Nat.beq r 17 then some Ky else none) else
  bif Nat.beq f 177 then (bif Nat.beq r 1 then some OL else none) else
  bif Nat.beq f 178 then (bif Nat.beq r 6 then some OM else bif Nat.beq r 11 then some Kz else none) else
  bif Nat.beq f 192 then (bif Nat.beq r 3 then some ON else none) else
  bif Nat.beq f 196 then (bif Nat.beq r 3 then some OO else bif Nat.beq r 5 then some OP else bif Nat.beq r 6 then some OQ else none) else
  bif Nat.beq f 198 then (bif Nat.beq r 1 then some OR else bif Nat.beq r 2 then some OS else bif Nat.beq r 3 then some OT else none) else
  bif Nat.beq f 201 then (bif Nat.beq r 5 then some OU else bif Nat.beq r 8 then some OV else none) else
  bif Nat.beq f 202 then (bif Nat.beq r 4 then some OW else bif Nat.beq r 6 then some OX else none) else
  bif Nat.beq f 203 then (bif Nat.beq r 10 then some KA else none) else
  bif Nat.beq f 204 then (bif Nat.beq r 10 then some KB else none) else
  bif Nat.beq f 206 then (bif Nat.beq r 3 then some OY else none) else
  bif Nat.beq f 207 then (bif Nat.beq r 5 then some OZ else bif Nat.beq r 11 then some KC else bif Nat.beq r 16 then some KD else bif Nat.beq r 17 then some KE else bif Nat.beq r 22 then some KF else bif Nat.beq r 23 then some KG else none) else
  bif Nat.beq f 208 then (bif Nat.beq r 1 then some O0 else bif Nat.beq r 3 then some O1 else bif Nat.beq r 5 then some O2 else bif Nat.beq r 8 then some O3 else none) else
  bif Nat.beq f 209 then (bif Nat.beq r 1 then some O4 else bif Nat.beq r 3 then some O6 else bif Nat.beq r 5 then some O7 else bif Nat.beq r 8 then some O8 else bif Nat.beq r 10 then some KH else bif Nat.beq r 13 then some KI else bif Nat.beq r 15 then some KJ else bif Nat.beq r 18 then some KK else bif Nat.beq r 21 then some KL else none) else
  bif Nat.beq f 210 then (bif Nat.beq r 17 then some KM else none) else
  bif Nat.beq f 213 then (bif Nat.beq r 7 then some O9 else bif Nat.beq r 8 then some Pa else bif Nat.beq r 9 then some Pb else bif Nat.beq r 10 then some KN else bif Nat.beq r 17 then some KO else bif Nat.beq r 18 then some KP else bif Nat.beq r 23 then some KQ else none) else
  bif Nat.beq f 223 then (bif Nat.beq r 1 then some Pc else none) else
  bif Nat.beq f 224 then (bif Nat.beq r 3 then some Pd else bif Nat.beq r 5 then some Pe else bif Nat.beq r 6 then some Pf else none) else
  bif Nat.beq f 227 then (bif Nat.beq r 4 then some Pg else bif Nat.beq r 6 then some Ph else none) else
  bif Nat.beq f 228 then (bif Nat.beq r 10 then some KR else none) else
  bif Nat.beq f 229 then (bif Nat.beq r 10 then some KS else none) else
  bif Nat.beq f 231 then (bif Nat.beq r 3 then some Pj else none) else
  bif Nat.beq f 232 then (bif Nat.beq r 5 then some Pk else bif Nat.beq r 11 then some KT else bif Nat.beq r 16 then some KU else bif Nat.beq r 17 then some KV else bif Nat.beq r 22 then some KW else bif Nat.beq r 23 then some KX else none) else
  bif Nat.beq f 233 then (bif Nat.beq r 1 then some Pl else bif Nat.beq r 3 then some Pm else bif Nat.beq r 5 then some Pn else bif Nat.beq r 8 then some Po else none) else
  bif Nat.beq f 234 then (bif Nat.beq r 1 then some Pp else bif Nat.beq r 3 then some Pq else bif Nat.beq r 5 then some Pr else bif Nat.beq r 8 then some Ps else bif Nat.beq r 10 then some KY else bif Nat.beq r 13 then some KZ else bif Nat.beq r 15 then some K0 else bif Nat.beq r 18 then some K1 else bif Nat.beq r 21 then some K3 else none) else
  bif Nat.beq f 245 then (bif Nat.beq r 1 then some Pt else none) else
  bif Nat.beq f 246 then (bif Nat.beq r 3 then some Pu else bif Nat.beq r 5 then some Pv else bif Nat.beq r 6 then some Pw else none) else
  bif Nat.beq f 253 then (bif Nat.beq r 1 then some Px else none) else none
def okF (f:Nat):Bool:=Nat.blt f 279&&!(([4,7,9,10,11,13,21,22,23,25,41,46,47,59,65,66,72,88,89,102,104,105,117,118,134,174]:List Nat).any (Nat.beq f))
theorem K4:(List.range 279).all (fun f=>!okF f || match Tryz.prog.funcs[f]? with
  | some fn=>match fn.body with
    | some c=>bH (dtF f) c
    | none=>true
  | none=>true)=true:=by kernel_rfl
theorem Py (f:FuncId) (fn:Func) (c:Code) (h:okF f=true) (hf:Tryz.prog.funcs[f]?=some fn) (hb:fn.body=some c):bH (dtF f) c=true:=by
  have bV:f < 279:=by
    have:Nat.blt f 279=true:=by
      rw [okF,Bool.and_eq_true] at h
      exact h.1
    exact Nat.le_of_ble_eq_true this
  have h1:=List.all_eq_true.1 K4 f (List.mem_range.2 bV)
  rw [h,hf] at h1
  simp only [hb] at h1
  simpa using h1
noncomputable def YC:HR:={ toEnv:=env,dt:=dtF,okF:=okF,R5:=Py }
end Go.Proofs.YtldcljfjjoidhaaGreatDoor
