/- The abstract machine's surroundings for this program: its types as a table (printed by a program of ours,checked by the kernel). -/
import Derived.Test.YtldcljfjjoidhaaGreatDoorProg
import Derived.Test.YtldcljfjjoidhaaGreatDoorAmKK
import Derived.KernelRfl
set_option linter.all false
namespace Go.Proofs.YtldcljfjjoidhaaGreatDoor
open Go Go.Am
set_option maxRecDepth 100000
def tI (k : TK) (n : Nat) (a : Bool) (z : Option AV) (e : EK) : Option TI := some ⟨k, n, a, z, e⟩
def tiT (t : Nat) : Option TI :=
 bif Nat.ble t 154 then
 bif Nat.ble t 76 then
 bif Nat.ble t 37 then
 bif Nat.ble t 18 then
 bif Nat.ble t 8 then
 bif Nat.ble t 3 then
 bif Nat.ble t 1 then
 bif Nat.ble t 0 then
 tI (.sc) 1 false (some (.aX [])) (.no)
 else
 tI (.sc) 1 false (some (.bX)) (.no)
 else
 bif Nat.ble t 2 then
 tI (.int .i64) 1 false (some (.int .i64 0)) (.int)
 else
 tI (.int .i64) 1 false (some (.int .i64 0)) (.int)
 else
 bif Nat.ble t 5 then
 bif Nat.ble t 4 then
 tI (.sc) 1 false (some (.bool false)) (.bool)
 else
 tI (.int .u8) 1 false (some (.int .u8 0)) (.int)
 else
 bif Nat.ble t 6 then
 tI (.int .u8) 1 false (some (.int .u8 0)) (.int)
 else
 bif Nat.ble t 7 then
 tI (.st [(0,1,false),(1,1,false),(2,1,false),(3,1,false)]) 4 true (some (.agg [.int .i64 0,.int .i64 0,.bool false,.int .u8 0])) ((.st (.cons 0 1 false .int (.cons 1 1 false .int (.cons 2 1 false .bool (.cons 3 1 false .int .nil))))))
 else
 tI (.st [(0,1,false),(1,1,false),(2,1,false),(3,1,false)]) 4 true (some (.agg [.int .i64 0,.int .i64 0,.bool false,.int .u8 0])) ((.st (.cons 0 1 false .int (.cons 1 1 false .int (.cons 2 1 false .bool (.cons 3 1 false .int .nil))))))
 else
 bif Nat.ble t 13 then
 bif Nat.ble t 10 then
 bif Nat.ble t 9 then
 tI (.str) 1 false (some (.str [])) (.str)
 else
 tI (.str) 1 false (some (.str [])) (.str)
 else
 bif Nat.ble t 11 then
 tI (.str) 1 false (some (.str [])) (.str)
 else
 bif Nat.ble t 12 then
 tI (.int .u64) 1 false (some (.int .u64 0)) (.int)
 else
 none
 else
 bif Nat.ble t 15 then
 bif Nat.ble t 14 then
 none
 else
 tI (.sc) 1 false (some (.gi)) (.no)
 else
 bif Nat.ble t 16 then
 tI (.sc) 1 false (some (.gi)) (.no)
 else
 bif Nat.ble t 17 then
 tI (.sc) 1 false (some (.gi)) (.no)
 else
 none
 else
 bif Nat.ble t 27 then
 bif Nat.ble t 22 then
 bif Nat.ble t 20 then
 bif Nat.ble t 19 then
 none
 else
 tI (.sc) 1 false (some (.lY)) (.no)
 else
 bif Nat.ble t 21 then
 tI (.int .i32) 1 false (some (.int .i32 0)) (.int)
 else
 tI (.sl 106 3 true 24 (some (.agg [.int .i64 0,.int .i64 0,.int .i64 0]))) 1 false (some (.list .nil 0 [])) (.no)
 else
 bif Nat.ble t 24 then
 bif Nat.ble t 23 then
 none
 else
 tI (.sc) 1 false (some (.bX)) (.no)
 else
 bif Nat.ble t 25 then
 tI (.sl 104 3 true 24 (some (.agg [.int .i64 0,.int .i64 0,.int .i64 0]))) 1 false (some (.list .nil 0 [])) (.no)
 else
 bif Nat.ble t 26 then
 tI (.int .i64) 1 false (some (.int .i64 0)) (.int)
 else
 tI (.sc) 1 false (some (.aX [.list .nil 0 [],.int .i64 0])) (.no)
 else
 bif Nat.ble t 32 then
 bif Nat.ble t 29 then
 none
 else
 bif Nat.ble t 30 then
 tI (.sl 44 2 true 16 (some (.agg [.int .i64 0,.int .i64 0]))) 1 false (some (.list .nil 0 [])) (.no)
 else
 bif Nat.ble t 31 then
 tI (.sc) 1 false (some (.aX [.list .nil 0 [],.int .i64 0])) (.no)
 else
 tI (.sc) 1 false (some (.bX)) (.no)
 else
 bif Nat.ble t 34 then
 bif Nat.ble t 33 then
 tI (.sc) 1 false (some (.aX [.int .i64 0,.int .i64 0])) (.no)
 else
 none
 else
 bif Nat.ble t 35 then
 none
 else
 bif Nat.ble t 36 then
 tI (.sl 108 3 true 24 (some (.agg [.int .i64 0,.int .i64 0,.int .i64 0]))) 1 false (some (.list .nil 0 [])) (.no)
 else
 none
 else
 bif Nat.ble t 56 then
 bif Nat.ble t 46 then
 bif Nat.ble t 41 then
 none
 else
 bif Nat.ble t 43 then
 bif Nat.ble t 42 then
 none
 else
 tI (.sl 88 5 true 32 (some (.agg [.int .i64 0,.int .i64 0,.bool false,.bool false,.int .i64 0]))) 1 false (some (.list .nil 0 [])) (.no)
 else
 bif Nat.ble t 44 then
 tI (.arr 2 1 false) 2 true (some (.agg [.int .i64 0,.int .i64 0])) ((.st (.cons 0 1 false .int (.cons 1 1 false .int .nil))))
 else
 bif Nat.ble t 45 then
 tI (.sc) 1 false (some (.bX)) (.no)
 else
 none
 else
 bif Nat.ble t 51 then
 bif Nat.ble t 48 then
 bif Nat.ble t 47 then
 tI (.st [(0,1,false),(1,1,false),(2,1,false),(3,1,false)]) 4 true (some (.agg [.int .i64 0,.int .i64 0,.int .i64 0,.int .i64 0])) ((.st (.cons 0 1 false .int (.cons 1 1 false .int (.cons 2 1 false .int (.cons 3 1 false .int .nil))))))
 else
 tI (.sc) 1 false (none) (.no)
 else
 bif Nat.ble t 49 then
 tI (.sc) 1 false (some (.bX)) (.no)
 else
 bif Nat.ble t 50 then
 tI (.sl 90 5 true 32 (some (.agg [.int .i64 0,.int .i64 0,.bool false,.bool false,.int .i64 0]))) 1 false (some (.list .nil 0 [])) (.no)
 else
 tI (.sc) 1 false (some (.bX)) (.no)
 else
 bif Nat.ble t 53 then
 bif Nat.ble t 52 then
 tI (.sc) 1 false (some (.aX [.str [],.int .i64 0])) (.no)
 else
 tI (.sc) 1 false (some (.bX)) (.no)
 else
 bif Nat.ble t 54 then
 tI (.sc) 1 false (some (.aX [.list .nil 0 [],.int .i64 0,.int .i64 0])) (.no)
 else
 bif Nat.ble t 55 then
 tI (.sc) 1 false (some (.bX)) (.no)
 else
 tI (.sc) 1 false (some (.bX)) (.no)
 else
 bif Nat.ble t 66 then
 bif Nat.ble t 61 then
 bif Nat.ble t 58 then
 bif Nat.ble t 57 then
 tI (.sc) 1 false (some (.bX)) (.no)
 else
 tI (.sc) 1 false (some (.bX)) (.no)
 else
 bif Nat.ble t 59 then
 tI (.sl 3 1 false 8 (some (.int .i64 0))) 1 false (some (.list .nil 0 [])) (.no)
 else
 none
 else
 bif Nat.ble t 63 then
 bif Nat.ble t 62 then
 none
 else
 tI (.sc) 1 false (some (.aX [.list .nil 0 [],.int .i64 0,.int .i64 0])) (.no)
 else
 bif Nat.ble t 64 then
 tI (.sc) 1 false (some (.bX)) (.no)
 else
 bif Nat.ble t 65 then
 tI (.sc) 1 false (some (.bX)) (.no)
 else
 none
 else
 bif Nat.ble t 71 then
 bif Nat.ble t 68 then
 bif Nat.ble t 67 then
 none
 else
 tI (.sc) 1 false (some (.aX [.list .nil 0 [],.int .i64 0])) (.no)
 else
 bif Nat.ble t 69 then
 none
 else
 bif Nat.ble t 70 then
 tI (.sc) 1 false (some (.aX [.list .nil 0 [],.int .i64 0])) (.no)
 else
 none
 else
 bif Nat.ble t 73 then
 bif Nat.ble t 72 then
 tI (.sl 86 2 true 16 (some (.agg [.int .i64 0,.int .i64 0]))) 1 false (some (.list .nil 0 [])) (.no)
 else
 tI (.sc) 1 false (some (.bX)) (.no)
 else
 bif Nat.ble t 74 then
 none
 else
 bif Nat.ble t 75 then
 tI (.sc) 1 false (some (.aX [.list .nil 0 [],.int .i64 0])) (.no)
 else
 none
 else
 bif Nat.ble t 115 then
 bif Nat.ble t 95 then
 bif Nat.ble t 85 then
 none
 else
 bif Nat.ble t 90 then
 bif Nat.ble t 87 then
 bif Nat.ble t 86 then
 tI (.st [(0,1,false),(1,1,false)]) 2 true (some (.agg [.int .i64 0,.int .i64 0])) ((.st (.cons 0 1 false .int (.cons 1 1 false .int .nil))))
 else
 none
 else
 bif Nat.ble t 88 then
 tI (.st [(0,2,true),(2,1,false),(3,1,false),(4,1,false)]) 5 true (some (.agg [.int .i64 0,.int .i64 0,.bool false,.bool false,.int .i64 0])) ((.st (.cons 0 2 true (.st (.cons 0 1 false .int (.cons 1 1 false .int .nil))) (.cons 2 1 false .bool (.cons 3 1 false .bool (.cons 4 1 false .int .nil))))))
 else
 bif Nat.ble t 89 then
 none
 else
 tI (.st [(0,2,true),(2,1,false),(3,1,false),(4,1,false)]) 5 true (some (.agg [.int .i64 0,.int .i64 0,.bool false,.bool false,.int .i64 0])) ((.st (.cons 0 2 true (.st (.cons 0 1 false .int (.cons 1 1 false .int .nil))) (.cons 2 1 false .bool (.cons 3 1 false .bool (.cons 4 1 false .int .nil))))))
 else
 none
 else
 bif Nat.ble t 105 then
 bif Nat.ble t 100 then
 bif Nat.ble t 97 then
 bif Nat.ble t 96 then
 none
 else
 tI (.sc) 1 false (some (.aX [.list .nil 0 [],.int .i64 0])) (.no)
 else
 bif Nat.ble t 98 then
 tI (.sc) 1 false (some (.bX)) (.no)
 else
 bif Nat.ble t 99 then
 tI (.sc) 1 false (some (.bX)) (.no)
 else
 tI (.sc) 1 false (some (.aX [.list .nil 0 [],.int .i64 0])) (.no)
 else
 bif Nat.ble t 102 then
 bif Nat.ble t 101 then
 tI (.sc) 1 false (some (.bX)) (.no)
 else
 tI (.sc) 1 false (some (.bX)) (.no)
 else
 bif Nat.ble t 103 then
 tI (.st [(0,1,false),(1,1,false),(2,1,false)]) 3 true (some (.agg [.int .i64 0,.int .i64 0,.int .i64 0])) ((.st (.cons 0 1 false .int (.cons 1 1 false .int (.cons 2 1 false .int .nil)))))
 else
 bif Nat.ble t 104 then
 tI (.st [(0,1,false),(1,1,false),(2,1,false)]) 3 true (some (.agg [.int .i64 0,.int .i64 0,.int .i64 0])) ((.st (.cons 0 1 false .int (.cons 1 1 false .int (.cons 2 1 false .int .nil)))))
 else
 tI (.st [(0,1,false),(1,1,false),(2,1,false)]) 3 true (some (.agg [.int .i64 0,.int .i64 0,.int .i64 0])) ((.st (.cons 0 1 false .int (.cons 1 1 false .int (.cons 2 1 false .int .nil)))))
 else
 bif Nat.ble t 110 then
 bif Nat.ble t 107 then
 bif Nat.ble t 106 then
 tI (.st [(0,1,false),(1,1,false),(2,1,false)]) 3 true (some (.agg [.int .i64 0,.int .i64 0,.int .i64 0])) ((.st (.cons 0 1 false .int (.cons 1 1 false .int (.cons 2 1 false .int .nil)))))
 else
 tI (.sc) 1 false (some (.bX)) (.no)
 else
 bif Nat.ble t 108 then
 tI (.st [(0,1,false),(1,1,false),(2,1,false)]) 3 true (some (.agg [.int .i64 0,.int .i64 0,.int .i64 0])) ((.st (.cons 0 1 false .int (.cons 1 1 false .int (.cons 2 1 false .int .nil)))))
 else
 bif Nat.ble t 109 then
 tI (.sc) 1 false (some (.bX)) (.no)
 else
 tI (.sc) 1 false (some (.bX)) (.no)
 else
 bif Nat.ble t 112 then
 bif Nat.ble t 111 then
 tI (.sc) 1 false (some (.bX)) (.no)
 else
 tI (.sc) 1 false (some (.bX)) (.no)
 else
 bif Nat.ble t 113 then
 tI (.sc) 1 false (some (.bX)) (.no)
 else
 bif Nat.ble t 114 then
 tI (.sc) 1 false (some (.bX)) (.no)
 else
 tI (.sc) 1 false (some (.bX)) (.no)
 else
 bif Nat.ble t 134 then
 bif Nat.ble t 124 then
 bif Nat.ble t 119 then
 bif Nat.ble t 117 then
 bif Nat.ble t 116 then
 tI (.sc) 1 false (some (.bX)) (.no)
 else
 tI (.sc) 1 false (some (.bX)) (.no)
 else
 bif Nat.ble t 118 then
 tI (.sc) 1 false (some (.bX)) (.no)
 else
 tI (.int .i8) 1 false (some (.int .i8 0)) (.int)
 else
 bif Nat.ble t 121 then
 bif Nat.ble t 120 then
 tI (.arr 3 1 false) 3 true (some (.agg [.int .i8 0,.int .i8 0,.int .i8 0])) ((.st (.cons 0 1 false .int (.cons 1 1 false .int (.cons 2 1 false .int .nil)))))
 else
 tI (.sc) 1 false (some (.aX [.list .nil 0 [],.bool false])) (.no)
 else
 bif Nat.ble t 122 then
 tI (.sc) 1 false (some (.bX)) (.no)
 else
 none
 else
 bif Nat.ble t 129 then
 bif Nat.ble t 126 then
 none
 else
 bif Nat.ble t 127 then
 none
 else
 bif Nat.ble t 128 then
 tI (.sc) 1 false (some (.bX)) (.no)
 else
 none
 else
 bif Nat.ble t 131 then
 bif Nat.ble t 130 then
 tI (.sl 22 1 false 24 (some (.list .nil 0 []))) 1 false (some (.list .nil 0 [])) (.no)
 else
 tI (.sc) 1 false (some (.aX [.list .nil 0 [],.int .i64 0])) (.no)
 else
 bif Nat.ble t 132 then
 none
 else
 bif Nat.ble t 133 then
 tI (.arr 5 1 false) 5 true (some (.agg [.int .i64 0,.int .i64 0,.int .i64 0,.int .i64 0,.int .i64 0])) ((.st (.cons 0 1 false .int (.cons 1 1 false .int (.cons 2 1 false .int (.cons 3 1 false .int (.cons 4 1 false .int .nil)))))))
 else
 tI (.sc) 1 false (none) (.no)
 else
 bif Nat.ble t 144 then
 bif Nat.ble t 139 then
 none
 else
 bif Nat.ble t 141 then
 none
 else
 bif Nat.ble t 142 then
 none
 else
 bif Nat.ble t 143 then
 tI (.sc) 1 false (some (.gi)) (.no)
 else
 tI (.sl 5 1 false 1 (some (.int .u8 0))) 1 false (some (.list .nil 0 [])) (.no)
 else
 bif Nat.ble t 149 then
 bif Nat.ble t 146 then
 bif Nat.ble t 145 then
 none
 else
 tI (.st [(0,1,false),(1,1,false)]) 2 true (some (.agg [.gi,.list .nil 0 []])) ((.st (.cons 0 1 false .no (.cons 1 1 false .no .nil))))
 else
 bif Nat.ble t 147 then
 none
 else
 bif Nat.ble t 148 then
 tI (.sc) 1 false (some (.lY)) (.no)
 else
 tI (.sc) 1 false (some (.aX [.int .i64 0,.lY])) (.no)
 else
 bif Nat.ble t 151 then
 none
 else
 bif Nat.ble t 152 then
 none
 else
 bif Nat.ble t 153 then
 none
 else
 tI (.map 106 4 (some (.bool false))) 1 false (some (.jc)) (.no)
 else
 bif Nat.ble t 232 then
 bif Nat.ble t 193 then
 bif Nat.ble t 173 then
 bif Nat.ble t 163 then
 bif Nat.ble t 158 then
 bif Nat.ble t 156 then
 bif Nat.ble t 155 then
 tI (.st [(0,1,false),(1,1,false),(2,5,true)]) 7 true (some (.agg [.jc,.int .i64 0,.int .i64 0,.int .i64 0,.bool false,.bool false,.int .i64 0])) ((.st (.cons 0 1 false .no (.cons 1 1 false .int (.cons 2 5 true (.st (.cons 0 2 true (.st (.cons 0 1 false .int (.cons 1 1 false .int .nil))) (.cons 2 1 false .bool (.cons 3 1 false .bool (.cons 4 1 false .int .nil))))) .nil)))))
 else
 tI (.st [(0,1,false),(1,1,false),(2,5,true)]) 7 true (some (.agg [.jc,.int .i64 0,.int .i64 0,.int .i64 0,.bool false,.bool false,.int .i64 0])) ((.st (.cons 0 1 false .no (.cons 1 1 false .int (.cons 2 5 true (.st (.cons 0 2 true (.st (.cons 0 1 false .int (.cons 1 1 false .int .nil))) (.cons 2 1 false .bool (.cons 3 1 false .bool (.cons 4 1 false .int .nil))))) .nil)))))
 else
 bif Nat.ble t 157 then
 tI (.sc) 1 false (some (.aX [.str [],.str [],.bool false])) (.no)
 else
 none
 else
 bif Nat.ble t 160 then
 bif Nat.ble t 159 then
 tI (.sc) 1 false (some (.bX)) (.no)
 else
 none
 else
 bif Nat.ble t 161 then
 none
 else
 bif Nat.ble t 162 then
 none
 else
 tI (.sl 9 1 false 16 (some (.str []))) 1 false (some (.list .nil 0 [])) (.no)
 else
 bif Nat.ble t 168 then
 bif Nat.ble t 165 then
 none
 else
 bif Nat.ble t 166 then
 none
 else
 bif Nat.ble t 167 then
 tI (.arr 2 2 true) 4 true (some (.agg [.int .i64 0,.int .i64 0,.int .i64 0,.int .i64 0])) ((.st (.cons 0 2 true (.st (.cons 0 1 false .int (.cons 1 1 false .int .nil))) (.cons 2 2 true (.st (.cons 0 1 false .int (.cons 1 1 false .int .nil))) .nil))))
 else
 none
 else
 bif Nat.ble t 170 then
 bif Nat.ble t 169 then
 tI (.map 86 4 (some (.bool false))) 1 false (some (.jc)) (.no)
 else
 none
 else
 bif Nat.ble t 171 then
 none
 else
 bif Nat.ble t 172 then
 tI (.sc) 1 false (some (.bX)) (.no)
 else
 none
 else
 bif Nat.ble t 183 then
 bif Nat.ble t 178 then
 bif Nat.ble t 175 then
 none
 else
 bif Nat.ble t 176 then
 tI (.sc) 1 false (some (.bX)) (.no)
 else
 bif Nat.ble t 177 then
 tI (.sl 179 10 true 64 (some (.agg [.int .i64 0,.int .i64 0,.bool false,.bool false,.int .i64 0,.int .i64 0,.int .i64 0,.bool false,.bool false,.int .i64 0]))) 1 false (some (.list .nil 0 [])) (.no)
 else
 none
 else
 bif Nat.ble t 180 then
 bif Nat.ble t 179 then
 tI (.arr 2 5 true) 10 true (some (.agg [.int .i64 0,.int .i64 0,.bool false,.bool false,.int .i64 0,.int .i64 0,.int .i64 0,.bool false,.bool false,.int .i64 0])) ((.st (.cons 0 5 true (.st (.cons 0 2 true (.st (.cons 0 1 false .int (.cons 1 1 false .int .nil))) (.cons 2 1 false .bool (.cons 3 1 false .bool (.cons 4 1 false .int .nil))))) (.cons 5 5 true (.st (.cons 0 2 true (.st (.cons 0 1 false .int (.cons 1 1 false .int .nil))) (.cons 2 1 false .bool (.cons 3 1 false .bool (.cons 4 1 false .int .nil))))) .nil))))
 else
 tI (.sc) 1 false (some (.bX)) (.no)
 else
 none
 else
 bif Nat.ble t 188 then
 bif Nat.ble t 185 then
 bif Nat.ble t 184 then
 tI (.sc) 1 false (some (.bX)) (.no)
 else
 none
 else
 bif Nat.ble t 186 then
 tI (.sc) 1 false (some (.bX)) (.no)
 else
 bif Nat.ble t 187 then
 tI (.sl 26 1 false 8 (some (.int .i64 0))) 1 false (some (.list .nil 0 [])) (.no)
 else
 tI (.sc) 1 false (some (.bX)) (.no)
 else
 bif Nat.ble t 190 then
 bif Nat.ble t 189 then
 tI (.sc) 1 false (some (.bX)) (.no)
 else
 tI (.sc) 1 false (some (.bX)) (.no)
 else
 bif Nat.ble t 191 then
 tI (.sc) 1 false (some (.bX)) (.no)
 else
 bif Nat.ble t 192 then
 tI (.int .u64) 1 false (some (.int .u64 0)) (.int)
 else
 tI (.map 86 3 (some (.int .i64 0))) 1 false (some (.jc)) (.no)
 else
 bif Nat.ble t 212 then
 bif Nat.ble t 202 then
 bif Nat.ble t 197 then
 none
 else
 bif Nat.ble t 199 then
 bif Nat.ble t 198 then
 none
 else
 tI (.sc) 1 false (some (.gi)) (.no)
 else
 bif Nat.ble t 200 then
 tI (.sc) 1 false (some (.gi)) (.no)
 else
 bif Nat.ble t 201 then
 none
 else
 tI (.sl 205 1 true 8 (some (.agg [.bX]))) 1 false (some (.list .nil 0 [])) (.no)
 else
 bif Nat.ble t 207 then
 bif Nat.ble t 204 then
 none
 else
 bif Nat.ble t 205 then
 tI (.st [(0,1,false)]) 1 true (some (.agg [.bX])) ((.st (.cons 0 1 false .no .nil)))
 else
 bif Nat.ble t 206 then
 tI (.sc) 1 false (some (.gi)) (.no)
 else
 none
 else
 bif Nat.ble t 209 then
 bif Nat.ble t 208 then
 tI (.sc) 1 false (some (.bX)) (.no)
 else
 tI (.sc) 1 false (some (.bX)) (.no)
 else
 bif Nat.ble t 210 then
 none
 else
 bif Nat.ble t 211 then
 none
 else
 tI (.sc) 1 false (some (.aX [.int .i64 0,.bool false])) (.no)
 else
 bif Nat.ble t 222 then
 bif Nat.ble t 217 then
 none
 else
 bif Nat.ble t 219 then
 bif Nat.ble t 218 then
 tI (.sl 50 1 false 24 (some (.list .nil 0 []))) 1 false (some (.list .nil 0 [])) (.no)
 else
 none
 else
 none
 else
 bif Nat.ble t 227 then
 bif Nat.ble t 224 then
 bif Nat.ble t 223 then
 tI (.int .i64) 1 false (some (.int .i64 0)) (.int)
 else
 tI (.sc) 1 false (some (.aX [.int .i64 0,.int .i64 0])) (.no)
 else
 none
 else
 bif Nat.ble t 229 then
 none
 else
 bif Nat.ble t 230 then
 tI (.int .u32) 1 false (some (.int .u32 0)) (.int)
 else
 bif Nat.ble t 231 then
 none
 else
 tI (.int .u64) 1 false (some (.int .u64 0)) (.int)
 else
 bif Nat.ble t 271 then
 bif Nat.ble t 251 then
 bif Nat.ble t 241 then
 bif Nat.ble t 236 then
 bif Nat.ble t 234 then
 bif Nat.ble t 233 then
 tI (.arr 4 3 true) 12 true (some (.agg [.int .i64 0,.int .i64 0,.int .i64 0,.int .i64 0,.int .i64 0,.int .i64 0,.int .i64 0,.int .i64 0,.int .i64 0,.int .i64 0,.int .i64 0,.int .i64 0])) ((.st (.cons 0 3 true (.st (.cons 0 1 false .int (.cons 1 1 false .int (.cons 2 1 false .int .nil)))) (.cons 3 3 true (.st (.cons 0 1 false .int (.cons 1 1 false .int (.cons 2 1 false .int .nil)))) (.cons 6 3 true (.st (.cons 0 1 false .int (.cons 1 1 false .int (.cons 2 1 false .int .nil)))) (.cons 9 3 true (.st (.cons 0 1 false .int (.cons 1 1 false .int (.cons 2 1 false .int .nil)))) .nil))))))
 else
 none
 else
 none
 else
 bif Nat.ble t 238 then
 bif Nat.ble t 237 then
 tI (.sc) 1 false (some (.bX)) (.no)
 else
 none
 else
 bif Nat.ble t 239 then
 tI (.sc) 1 false (some (.bX)) (.no)
 else
 bif Nat.ble t 240 then
 tI (.sc) 1 false (some (.gi)) (.no)
 else
 none
 else
 bif Nat.ble t 246 then
 bif Nat.ble t 243 then
 none
 else
 bif Nat.ble t 244 then
 none
 else
 bif Nat.ble t 245 then
 none
 else
 tI (.sc) 1 false (some (.gi)) (.no)
 else
 bif Nat.ble t 248 then
 bif Nat.ble t 247 then
 none
 else
 tI (.sc) 1 false (some (.gi)) (.no)
 else
 bif Nat.ble t 249 then
 tI (.sc) 1 false (some (.bX)) (.no)
 else
 bif Nat.ble t 250 then
 none
 else
 tI (.int .u64) 1 false (some (.int .u64 0)) (.int)
 else
 bif Nat.ble t 261 then
 bif Nat.ble t 256 then
 bif Nat.ble t 253 then
 none
 else
 bif Nat.ble t 254 then
 none
 else
 bif Nat.ble t 255 then
 none
 else
 tI (.sc) 1 false (some (.bX)) (.no)
 else
 bif Nat.ble t 258 then
 bif Nat.ble t 257 then
 tI (.sc) 1 false (some (.bX)) (.no)
 else
 none
 else
 none
 else
 bif Nat.ble t 266 then
 bif Nat.ble t 263 then
 bif Nat.ble t 262 then
 none
 else
 tI (.arr 24 1 false) 24 true (some (.agg [.int .u8 0,.int .u8 0,.int .u8 0,.int .u8 0,.int .u8 0,.int .u8 0,.int .u8 0,.int .u8 0,.int .u8 0,.int .u8 0,.int .u8 0,.int .u8 0,.int .u8 0,.int .u8 0,.int .u8 0,.int .u8 0,.int .u8 0,.int .u8 0,.int .u8 0,.int .u8 0,.int .u8 0,.int .u8 0,.int .u8 0,.int .u8 0])) ((.st (.cons 0 1 false .int (.cons 1 1 false .int (.cons 2 1 false .int (.cons 3 1 false .int (.cons 4 1 false .int (.cons 5 1 false .int (.cons 6 1 false .int (.cons 7 1 false .int (.cons 8 1 false .int (.cons 9 1 false .int (.cons 10 1 false .int (.cons 11 1 false .int (.cons 12 1 false .int (.cons 13 1 false .int (.cons 14 1 false .int (.cons 15 1 false .int (.cons 16 1 false .int (.cons 17 1 false .int (.cons 18 1 false .int (.cons 19 1 false .int (.cons 20 1 false .int (.cons 21 1 false .int (.cons 22 1 false .int (.cons 23 1 false .int .nil))))))))))))))))))))))))))
 else
 bif Nat.ble t 264 then
 none
 else
 bif Nat.ble t 265 then
 tI (.sc) 1 false (some (.aX [.list .nil 0 [],.str []])) (.no)
 else
 none
 else
 bif Nat.ble t 268 then
 none
 else
 bif Nat.ble t 269 then
 none
 else
 bif Nat.ble t 270 then
 tI (.sc) 1 false (some (.aX [.str [],.bool false])) (.no)
 else
 none
 else
 bif Nat.ble t 290 then
 bif Nat.ble t 280 then
 bif Nat.ble t 275 then
 bif Nat.ble t 273 then
 bif Nat.ble t 272 then
 tI (.sc) 1 false (some (.gi)) (.no)
 else
 tI (.sc) 1 false (some (.aX [.int .i64 0,.int .i64 0])) (.no)
 else
 none
 else
 none
 else
 bif Nat.ble t 285 then
 bif Nat.ble t 282 then
 bif Nat.ble t 281 then
 none
 else
 tI (.arr 20 1 false) 20 true (some (.agg [.int .u64 0,.int .u64 0,.int .u64 0,.int .u64 0,.int .u64 0,.int .u64 0,.int .u64 0,.int .u64 0,.int .u64 0,.int .u64 0,.int .u64 0,.int .u64 0,.int .u64 0,.int .u64 0,.int .u64 0,.int .u64 0,.int .u64 0,.int .u64 0,.int .u64 0,.int .u64 0])) ((.st (.cons 0 1 false .int (.cons 1 1 false .int (.cons 2 1 false .int (.cons 3 1 false .int (.cons 4 1 false .int (.cons 5 1 false .int (.cons 6 1 false .int (.cons 7 1 false .int (.cons 8 1 false .int (.cons 9 1 false .int (.cons 10 1 false .int (.cons 11 1 false .int (.cons 12 1 false .int (.cons 13 1 false .int (.cons 14 1 false .int (.cons 15 1 false .int (.cons 16 1 false .int (.cons 17 1 false .int (.cons 18 1 false .int (.cons 19 1 false .int .nil))))))))))))))))))))))
 else
 bif Nat.ble t 283 then
 tI (.arr 65 1 false) 65 true (some (.agg [.int .u8 0,.int .u8 0,.int .u8 0,.int .u8 0,.int .u8 0,.int .u8 0,.int .u8 0,.int .u8 0,.int .u8 0,.int .u8 0,.int .u8 0,.int .u8 0,.int .u8 0,.int .u8 0,.int .u8 0,.int .u8 0,.int .u8 0,.int .u8 0,.int .u8 0,.int .u8 0,.int .u8 0,.int .u8 0,.int .u8 0,.int .u8 0,.int .u8 0,.int .u8 0,.int .u8 0,.int .u8 0,.int .u8 0,.int .u8 0,.int .u8 0,.int .u8 0,.int .u8 0,.int .u8 0,.int .u8 0,.int .u8 0,.int .u8 0,.int .u8 0,.int .u8 0,.int .u8 0,.int .u8 0,.int .u8 0,.int .u8 0,.int .u8 0,.int .u8 0,.int .u8 0,.int .u8 0,.int .u8 0,.int .u8 0,.int .u8 0,.int .u8 0,.int .u8 0,.int .u8 0,.int .u8 0,.int .u8 0,.int .u8 0,.int .u8 0,.int .u8 0,.int .u8 0,.int .u8 0,.int .u8 0,.int .u8 0,.int .u8 0,.int .u8 0,.int .u8 0])) ((.st (.cons 0 1 false .int (.cons 1 1 false .int (.cons 2 1 false .int (.cons 3 1 false .int (.cons 4 1 false .int (.cons 5 1 false .int (.cons 6 1 false .int (.cons 7 1 false .int (.cons 8 1 false .int (.cons 9 1 false .int (.cons 10 1 false .int (.cons 11 1 false .int (.cons 12 1 false .int (.cons 13 1 false .int (.cons 14 1 false .int (.cons 15 1 false .int (.cons 16 1 false .int (.cons 17 1 false .int (.cons 18 1 false .int (.cons 19 1 false .int (.cons 20 1 false .int (.cons 21 1 false .int (.cons 22 1 false .int (.cons 23 1 false .int (.cons 24 1 false .int (.cons 25 1 false .int (.cons 26 1 false .int (.cons 27 1 false .int (.cons 28 1 false .int (.cons 29 1 false .int (.cons 30 1 false .int (.cons 31 1 false .int (.cons 32 1 false .int (.cons 33 1 false .int (.cons 34 1 false .int (.cons 35 1 false .int (.cons 36 1 false .int (.cons 37 1 false .int (.cons 38 1 false .int (.cons 39 1 false .int (.cons 40 1 false .int (.cons 41 1 false .int (.cons 42 1 false .int (.cons 43 1 false .int (.cons 44 1 false .int (.cons 45 1 false .int (.cons 46 1 false .int (.cons 47 1 false .int (.cons 48 1 false .int (.cons 49 1 false .int (.cons 50 1 false .int (.cons 51 1 false .int (.cons 52 1 false .int (.cons 53 1 false .int (.cons 54 1 false .int (.cons 55 1 false .int (.cons 56 1 false .int (.cons 57 1 false .int (.cons 58 1 false .int (.cons 59 1 false .int (.cons 60 1 false .int (.cons 61 1 false .int (.cons 62 1 false .int (.cons 63 1 false .int (.cons 64 1 false .int .nil)))))))))))))))))))))))))))))))))))))))))))))))))))))))))))))))))))
 else
 bif Nat.ble t 284 then
 tI (.sc) 1 false (some (.aX [.int .u32 0,.int .u32 0])) (.no)
 else
 none
 else
 bif Nat.ble t 287 then
 bif Nat.ble t 286 then
 tI (.sc) 1 false (some (.aX [.int .i32 0,.int .i64 0])) (.no)
 else
 none
 else
 none
 else
 bif Nat.ble t 300 then
 bif Nat.ble t 295 then
 bif Nat.ble t 292 then
 none
 else
 bif Nat.ble t 293 then
 tI (.arr 32 1 false) 32 true (some (.agg [.int .u8 0,.int .u8 0,.int .u8 0,.int .u8 0,.int .u8 0,.int .u8 0,.int .u8 0,.int .u8 0,.int .u8 0,.int .u8 0,.int .u8 0,.int .u8 0,.int .u8 0,.int .u8 0,.int .u8 0,.int .u8 0,.int .u8 0,.int .u8 0,.int .u8 0,.int .u8 0,.int .u8 0,.int .u8 0,.int .u8 0,.int .u8 0,.int .u8 0,.int .u8 0,.int .u8 0,.int .u8 0,.int .u8 0,.int .u8 0,.int .u8 0,.int .u8 0])) ((.st (.cons 0 1 false .int (.cons 1 1 false .int (.cons 2 1 false .int (.cons 3 1 false .int (.cons 4 1 false .int (.cons 5 1 false .int (.cons 6 1 false .int (.cons 7 1 false .int (.cons 8 1 false .int (.cons 9 1 false .int (.cons 10 1 false .int (.cons 11 1 false .int (.cons 12 1 false .int (.cons 13 1 false .int (.cons 14 1 false .int (.cons 15 1 false .int (.cons 16 1 false .int (.cons 17 1 false .int (.cons 18 1 false .int (.cons 19 1 false .int (.cons 20 1 false .int (.cons 21 1 false .int (.cons 22 1 false .int (.cons 23 1 false .int (.cons 24 1 false .int (.cons 25 1 false .int (.cons 26 1 false .int (.cons 27 1 false .int (.cons 28 1 false .int (.cons 29 1 false .int (.cons 30 1 false .int (.cons 31 1 false .int .nil))))))))))))))))))))))))))))))))))
 else
 bif Nat.ble t 294 then
 tI (.arr 64 1 false) 64 true (some (.agg [.int .u8 0,.int .u8 0,.int .u8 0,.int .u8 0,.int .u8 0,.int .u8 0,.int .u8 0,.int .u8 0,.int .u8 0,.int .u8 0,.int .u8 0,.int .u8 0,.int .u8 0,.int .u8 0,.int .u8 0,.int .u8 0,.int .u8 0,.int .u8 0,.int .u8 0,.int .u8 0,.int .u8 0,.int .u8 0,.int .u8 0,.int .u8 0,.int .u8 0,.int .u8 0,.int .u8 0,.int .u8 0,.int .u8 0,.int .u8 0,.int .u8 0,.int .u8 0,.int .u8 0,.int .u8 0,.int .u8 0,.int .u8 0,.int .u8 0,.int .u8 0,.int .u8 0,.int .u8 0,.int .u8 0,.int .u8 0,.int .u8 0,.int .u8 0,.int .u8 0,.int .u8 0,.int .u8 0,.int .u8 0,.int .u8 0,.int .u8 0,.int .u8 0,.int .u8 0,.int .u8 0,.int .u8 0,.int .u8 0,.int .u8 0,.int .u8 0,.int .u8 0,.int .u8 0,.int .u8 0,.int .u8 0,.int .u8 0,.int .u8 0,.int .u8 0])) ((.st (.cons 0 1 false .int (.cons 1 1 false .int (.cons 2 1 false .int (.cons 3 1 false .int (.cons 4 1 false .int (.cons 5 1 false .int (.cons 6 1 false .int (.cons 7 1 false .int (.cons 8 1 false .int (.cons 9 1 false .int (.cons 10 1 false .int (.cons 11 1 false .int (.cons 12 1 false .int (.cons 13 1 false .int (.cons 14 1 false .int (.cons 15 1 false .int (.cons 16 1 false .int (.cons 17 1 false .int (.cons 18 1 false .int (.cons 19 1 false .int (.cons 20 1 false .int (.cons 21 1 false .int (.cons 22 1 false .int (.cons 23 1 false .int (.cons 24 1 false .int (.cons 25 1 false .int (.cons 26 1 false .int (.cons 27 1 false .int (.cons 28 1 false .int (.cons 29 1 false .int (.cons 30 1 false .int (.cons 31 1 false .int (.cons 32 1 false .int (.cons 33 1 false .int (.cons 34 1 false .int (.cons 35 1 false .int (.cons 36 1 false .int (.cons 37 1 false .int (.cons 38 1 false .int (.cons 39 1 false .int (.cons 40 1 false .int (.cons 41 1 false .int (.cons 42 1 false .int (.cons 43 1 false .int (.cons 44 1 false .int (.cons 45 1 false .int (.cons 46 1 false .int (.cons 47 1 false .int (.cons 48 1 false .int (.cons 49 1 false .int (.cons 50 1 false .int (.cons 51 1 false .int (.cons 52 1 false .int (.cons 53 1 false .int (.cons 54 1 false .int (.cons 55 1 false .int (.cons 56 1 false .int (.cons 57 1 false .int (.cons 58 1 false .int (.cons 59 1 false .int (.cons 60 1 false .int (.cons 61 1 false .int (.cons 62 1 false .int (.cons 63 1 false .int .nil))))))))))))))))))))))))))))))))))))))))))))))))))))))))))))))))))
 else
 tI (.arr 256 1 false) 256 true (some (.agg [.int .u8 0,.int .u8 0,.int .u8 0,.int .u8 0,.int .u8 0,.int .u8 0,.int .u8 0,.int .u8 0,.int .u8 0,.int .u8 0,.int .u8 0,.int .u8 0,.int .u8 0,.int .u8 0,.int .u8 0,.int .u8 0,.int .u8 0,.int .u8 0,.int .u8 0,.int .u8 0,.int .u8 0,.int .u8 0,.int .u8 0,.int .u8 0,.int .u8 0,.int .u8 0,.int .u8 0,.int .u8 0,.int .u8 0,.int .u8 0,.int .u8 0,.int .u8 0,.int .u8 0,.int .u8 0,.int .u8 0,.int .u8 0,.int .u8 0,.int .u8 0,.int .u8 0,.int .u8 0,.int .u8 0,.int .u8 0,.int .u8 0,.int .u8 0,.int .u8 0,.int .u8 0,.int .u8 0,.int .u8 0,.int .u8 0,.int .u8 0,.int .u8 0,.int .u8 0,.int .u8 0,.int .u8 0,.int .u8 0,.int .u8 0,.int .u8 0,.int .u8 0,.int .u8 0,.int .u8 0,.int .u8 0,.int .u8 0,.int .u8 0,.int .u8 0,.int .u8 0,.int .u8 0,.int .u8 0,.int .u8 0,.int .u8 0,.int .u8 0,.int .u8 0,.int .u8 0,.int .u8 0,.int .u8 0,.int .u8 0,.int .u8 0,.int .u8 0,.int .u8 0,.int .u8 0,.int .u8 0,.int .u8 0,.int .u8 0,.int .u8 0,.int .u8 0,.int .u8 0,.int .u8 0,.int .u8 0,.int .u8 0,.int .u8 0,.int .u8 0,.int .u8 0,.int .u8 0,.int .u8 0,.int .u8 0,.int .u8 0,.int .u8 0,.int .u8 0,.int .u8 0,.int .u8 0,.int .u8 0,.int .u8 0,.int .u8 0,.int .u8 0,.int .u8 0,.int .u8 0,.int .u8 0,.int .u8 0,.int .u8 0,.int .u8 0,.int .u8 0,.int .u8 0,.int .u8 0,.int .u8 0,.int .u8 0,.int .u8 0,.int .u8 0,.int .u8 0,.int .u8 0,.int .u8 0,.int .u8 0,.int .u8 0,.int .u8 0,.int .u8 0,.int .u8 0,.int .u8 0,.int .u8 0,.int .u8 0,.int .u8 0,.int .u8 0,.int .u8 0,.int .u8 0,.int .u8 0,.int .u8 0,.int .u8 0,.int .u8 0,.int .u8 0,.int .u8 0,.int .u8 0,.int .u8 0,.int .u8 0,.int .u8 0,.int .u8 0,.int .u8 0,.int .u8 0,.int .u8 0,.int .u8 0,.int .u8 0,.int .u8 0,.int .u8 0,.int .u8 0,.int .u8 0,.int .u8 0,.int .u8 0,.int .u8 0,.int .u8 0,.int .u8 0,.int .u8 0,.int .u8 0,.int .u8 0,.int .u8 0,.int .u8 0,.int .u8 0,.int .u8 0,.int .u8 0,.int .u8 0,.int .u8 0,.int .u8 0,.int .u8 0,.int .u8 0,.int .u8 0,.int .u8 0,.int .u8 0,.int .u8 0,.int .u8 0,.int .u8 0,.int .u8 0,.int .u8 0,.int .u8 0,.int .u8 0,.int .u8 0,.int .u8 0,.int .u8 0,.int .u8 0,.int .u8 0,.int .u8 0,.int .u8 0,.int .u8 0,.int .u8 0,.int .u8 0,.int .u8 0,.int .u8 0,.int .u8 0,.int .u8 0,.int .u8 0,.int .u8 0,.int .u8 0,.int .u8 0,.int .u8 0,.int .u8 0,.int .u8 0,.int .u8 0,.int .u8 0,.int .u8 0,.int .u8 0,.int .u8 0,.int .u8 0,.int .u8 0,.int .u8 0,.int .u8 0,.int .u8 0,.int .u8 0,.int .u8 0,.int .u8 0,.int .u8 0,.int .u8 0,.int .u8 0,.int .u8 0,.int .u8 0,.int .u8 0,.int .u8 0,.int .u8 0,.int .u8 0,.int .u8 0,.int .u8 0,.int .u8 0,.int .u8 0,.int .u8 0,.int .u8 0,.int .u8 0,.int .u8 0,.int .u8 0,.int .u8 0,.int .u8 0,.int .u8 0,.int .u8 0,.int .u8 0,.int .u8 0,.int .u8 0,.int .u8 0,.int .u8 0,.int .u8 0,.int .u8 0,.int .u8 0,.int .u8 0,.int .u8 0,.int .u8 0,.int .u8 0,.int .u8 0,.int .u8 0,.int .u8 0,.int .u8 0,.int .u8 0,.int .u8 0,.int .u8 0,.int .u8 0,.int .u8 0])) ((.st (.cons 0 1 false .int (.cons 1 1 false .int (.cons 2 1 false .int (.cons 3 1 false .int (.cons 4 1 false .int (.cons 5 1 false .int (.cons 6 1 false .int (.cons 7 1 false .int (.cons 8 1 false .int (.cons 9 1 false .int (.cons 10 1 false .int (.cons 11 1 false .int (.cons 12 1 false .int (.cons 13 1 false .int (.cons 14 1 false .int (.cons 15 1 false .int (.cons 16 1 false .int (.cons 17 1 false .int (.cons 18 1 false .int (.cons 19 1 false .int (.cons 20 1 false .int (.cons 21 1 false .int (.cons 22 1 false .int (.cons 23 1 false .int (.cons 24 1 false .int (.cons 25 1 false .int (.cons 26 1 false .int (.cons 27 1 false .int (.cons 28 1 false .int (.cons 29 1 false .int (.cons 30 1 false .int (.cons 31 1 false .int (.cons 32 1 false .int (.cons 33 1 false .int (.cons 34 1 false .int (.cons 35 1 false .int (.cons 36 1 false .int (.cons 37 1 false .int (.cons 38 1 false .int (.cons 39 1 false .int (.cons 40 1 false .int (.cons 41 1 false .int (.cons 42 1 false .int (.cons 43 1 false .int (.cons 44 1 false .int (.cons 45 1 false .int (.cons 46 1 false .int (.cons 47 1 false .int (.cons 48 1 false .int (.cons 49 1 false .int (.cons 50 1 false .int (.cons 51 1 false .int (.cons 52 1 false .int (.cons 53 1 false .int (.cons 54 1 false .int (.cons 55 1 false .int (.cons 56 1 false .int (.cons 57 1 false .int (.cons 58 1 false .int (.cons 59 1 false .int (.cons 60 1 false .int (.cons 61 1 false .int (.cons 62 1 false .int (.cons 63 1 false .int (.cons 64 1 false .int (.cons 65 1 false .int (.cons 66 1 false .int (.cons 67 1 false .int (.cons 68 1 false .int (.cons 69 1 false .int (.cons 70 1 false .int (.cons 71 1 false .int (.cons 72 1 false .int (.cons 73 1 false .int (.cons 74 1 false .int (.cons 75 1 false .int (.cons 76 1 false .int (.cons 77 1 false .int (.cons 78 1 false .int (.cons 79 1 false .int (.cons 80 1 false .int (.cons 81 1 false .int (.cons 82 1 false .int (.cons 83 1 false .int (.cons 84 1 false .int (.cons 85 1 false .int (.cons 86 1 false .int (.cons 87 1 false .int (.cons 88 1 false .int (.cons 89 1 false .int (.cons 90 1 false .int (.cons 91 1 false .int (.cons 92 1 false .int (.cons 93 1 false .int (.cons 94 1 false .int (.cons 95 1 false .int (.cons 96 1 false .int (.cons 97 1 false .int (.cons 98 1 false .int (.cons 99 1 false .int (.cons 100 1 false .int (.cons 101 1 false .int (.cons 102 1 false .int (.cons 103 1 false .int (.cons 104 1 false .int (.cons 105 1 false .int (.cons 106 1 false .int (.cons 107 1 false .int (.cons 108 1 false .int (.cons 109 1 false .int (.cons 110 1 false .int (.cons 111 1 false .int (.cons 112 1 false .int (.cons 113 1 false .int (.cons 114 1 false .int (.cons 115 1 false .int (.cons 116 1 false .int (.cons 117 1 false .int (.cons 118 1 false .int (.cons 119 1 false .int (.cons 120 1 false .int (.cons 121 1 false .int (.cons 122 1 false .int (.cons 123 1 false .int (.cons 124 1 false .int (.cons 125 1 false .int (.cons 126 1 false .int (.cons 127 1 false .int (.cons 128 1 false .int (.cons 129 1 false .int (.cons 130 1 false .int (.cons 131 1 false .int (.cons 132 1 false .int (.cons 133 1 false .int (.cons 134 1 false .int (.cons 135 1 false .int (.cons 136 1 false .int (.cons 137 1 false .int (.cons 138 1 false .int (.cons 139 1 false .int (.cons 140 1 false .int (.cons 141 1 false .int (.cons 142 1 false .int (.cons 143 1 false .int (.cons 144 1 false .int (.cons 145 1 false .int (.cons 146 1 false .int (.cons 147 1 false .int (.cons 148 1 false .int (.cons 149 1 false .int (.cons 150 1 false .int (.cons 151 1 false .int (.cons 152 1 false .int (.cons 153 1 false .int (.cons 154 1 false .int (.cons 155 1 false .int (.cons 156 1 false .int (.cons 157 1 false .int (.cons 158 1 false .int (.cons 159 1 false .int (.cons 160 1 false .int (.cons 161 1 false .int (.cons 162 1 false .int (.cons 163 1 false .int (.cons 164 1 false .int (.cons 165 1 false .int (.cons 166 1 false .int (.cons 167 1 false .int (.cons 168 1 false .int (.cons 169 1 false .int (.cons 170 1 false .int (.cons 171 1 false .int (.cons 172 1 false .int (.cons 173 1 false .int (.cons 174 1 false .int (.cons 175 1 false .int (.cons 176 1 false .int (.cons 177 1 false .int (.cons 178 1 false .int (.cons 179 1 false .int (.cons 180 1 false .int (.cons 181 1 false .int (.cons 182 1 false .int (.cons 183 1 false .int (.cons 184 1 false .int (.cons 185 1 false .int (.cons 186 1 false .int (.cons 187 1 false .int (.cons 188 1 false .int (.cons 189 1 false .int (.cons 190 1 false .int (.cons 191 1 false .int (.cons 192 1 false .int (.cons 193 1 false .int (.cons 194 1 false .int (.cons 195 1 false .int (.cons 196 1 false .int (.cons 197 1 false .int (.cons 198 1 false .int (.cons 199 1 false .int (.cons 200 1 false .int (.cons 201 1 false .int (.cons 202 1 false .int (.cons 203 1 false .int (.cons 204 1 false .int (.cons 205 1 false .int (.cons 206 1 false .int (.cons 207 1 false .int (.cons 208 1 false .int (.cons 209 1 false .int (.cons 210 1 false .int (.cons 211 1 false .int (.cons 212 1 false .int (.cons 213 1 false .int (.cons 214 1 false .int (.cons 215 1 false .int (.cons 216 1 false .int (.cons 217 1 false .int (.cons 218 1 false .int (.cons 219 1 false .int (.cons 220 1 false .int (.cons 221 1 false .int (.cons 222 1 false .int (.cons 223 1 false .int (.cons 224 1 false .int (.cons 225 1 false .int (.cons 226 1 false .int (.cons 227 1 false .int (.cons 228 1 false .int (.cons 229 1 false .int (.cons 230 1 false .int (.cons 231 1 false .int (.cons 232 1 false .int (.cons 233 1 false .int (.cons 234 1 false .int (.cons 235 1 false .int (.cons 236 1 false .int (.cons 237 1 false .int (.cons 238 1 false .int (.cons 239 1 false .int (.cons 240 1 false .int (.cons 241 1 false .int (.cons 242 1 false .int (.cons 243 1 false .int (.cons 244 1 false .int (.cons 245 1 false .int (.cons 246 1 false .int (.cons 247 1 false .int (.cons 248 1 false .int (.cons 249 1 false .int (.cons 250 1 false .int (.cons 251 1 false .int (.cons 252 1 false .int (.cons 253 1 false .int (.cons 254 1 false .int (.cons 255 1 false .int .nil))))))))))))))))))))))))))))))))))))))))))))))))))))))))))))))))))))))))))))))))))))))))))))))))))))))))))))))))))))))))))))))))))))))))))))))))))))))))))))))))))))))))))))))))))))))))))))))))))))))))))))))))))))))))))))))))))))))))))))))))))))))))))))))))))
 else
 bif Nat.ble t 297 then
 bif Nat.ble t 296 then
 none
 else
 tI (.st [(0,1,false),(1,1,false)]) 2 true (some (.agg [.int .u8 0,.int .u8 0])) ((.st (.cons 0 1 false .int (.cons 1 1 false .int .nil))))
 else
 bif Nat.ble t 298 then
 tI (.arr 16 2 true) 32 true (some (.agg [.int .u8 0,.int .u8 0,.int .u8 0,.int .u8 0,.int .u8 0,.int .u8 0,.int .u8 0,.int .u8 0,.int .u8 0,.int .u8 0,.int .u8 0,.int .u8 0,.int .u8 0,.int .u8 0,.int .u8 0,.int .u8 0,.int .u8 0,.int .u8 0,.int .u8 0,.int .u8 0,.int .u8 0,.int .u8 0,.int .u8 0,.int .u8 0,.int .u8 0,.int .u8 0,.int .u8 0,.int .u8 0,.int .u8 0,.int .u8 0,.int .u8 0,.int .u8 0])) ((.st (.cons 0 2 true (.st (.cons 0 1 false .int (.cons 1 1 false .int .nil))) (.cons 2 2 true (.st (.cons 0 1 false .int (.cons 1 1 false .int .nil))) (.cons 4 2 true (.st (.cons 0 1 false .int (.cons 1 1 false .int .nil))) (.cons 6 2 true (.st (.cons 0 1 false .int (.cons 1 1 false .int .nil))) (.cons 8 2 true (.st (.cons 0 1 false .int (.cons 1 1 false .int .nil))) (.cons 10 2 true (.st (.cons 0 1 false .int (.cons 1 1 false .int .nil))) (.cons 12 2 true (.st (.cons 0 1 false .int (.cons 1 1 false .int .nil))) (.cons 14 2 true (.st (.cons 0 1 false .int (.cons 1 1 false .int .nil))) (.cons 16 2 true (.st (.cons 0 1 false .int (.cons 1 1 false .int .nil))) (.cons 18 2 true (.st (.cons 0 1 false .int (.cons 1 1 false .int .nil))) (.cons 20 2 true (.st (.cons 0 1 false .int (.cons 1 1 false .int .nil))) (.cons 22 2 true (.st (.cons 0 1 false .int (.cons 1 1 false .int .nil))) (.cons 24 2 true (.st (.cons 0 1 false .int (.cons 1 1 false .int .nil))) (.cons 26 2 true (.st (.cons 0 1 false .int (.cons 1 1 false .int .nil))) (.cons 28 2 true (.st (.cons 0 1 false .int (.cons 1 1 false .int .nil))) (.cons 30 2 true (.st (.cons 0 1 false .int (.cons 1 1 false .int .nil))) .nil))))))))))))))))))
 else
 none
 else
 none
def Tb (t:Nat):Option TI:=bif Nat.ble 311 t then none else tiT t
theorem Kc:(List.range 311).map (fun t=>match Tb t with | none=>none | some _=>D2 Tryz.prog t)=(List.range 311).map Tb:=by kernel_rfl
theorem D3 (t:TypeId) (i:TI) (h:Tb t=some i):D2 Tryz.prog t=some i:=by
  by_cases ht:t < 311
  · have h1:=congrArg (fun l=>l[t]?) Kc
    simp only [List.getElem?_map,List.getElem?_range ht,Option.map_some,Option.some.injEq] at h1
    rw [h] at h1
    exact h1
  · have hb:Nat.ble 311 t=true:=Nat.ble_eq_true_of_le (Nat.not_lt.1 ht)
    rw [Tb,hb] at h
    cases h
def Tc:List ((Nat × Nat) × List (Option Nat × Nat × Nat)):=[((15,10),[(none,1,3)]),((106,3),[(none,3,106)]),((138,3),[(none,2,86)])]
def NB:List ((Nat × Nat) × List (Option Nat × Nat × Nat))→Nat→Nat→List (Option Nat × Nat × Nat)
  | [],_,_=>[]
  | ((a,b),x) :: l,f,t=>bif Nat.beq a f&&Nat.beq b t then x else NB l f t
def Wo (f t:Nat):List (Option Nat × Nat × Nat):=NB Tc f t
def Wp (f t:Nat):Bool:=
  (Nat.beq f 1000000&&Nat.beq t 1000000) ||
  (Nat.beq f 29&&(Nat.beq t 5)) ||
  (Nat.beq f 30&&(Nat.beq t 5 || Nat.beq t 11)) ||
  (Nat.beq f 42&&(Nat.beq t 131072)) ||
  (Nat.beq f 48&&(Nat.beq t 3)) ||
  (Nat.beq f 55&&(Nat.beq t 65545)) ||
  (Nat.beq f 57&&(Nat.beq t 8 || Nat.beq t 9 || Nat.beq t 196647)) ||
  (Nat.beq f 69&&(Nat.beq t 196638 || Nat.beq t 262206)) ||
  (Nat.beq f 91&&(Nat.beq t 131072)) ||
  (Nat.beq f 100&&(Nat.beq t 2 || Nat.beq t 4)) ||
  (Nat.beq f 115&&(Nat.beq t 1)) ||
  (Nat.beq f 122&&(Nat.beq t 131072)) ||
  (Nat.beq f 130&&(Nat.beq t 196634 || Nat.beq t 262211)) ||
  (Nat.beq f 134&&(Nat.beq t 65545)) ||
  (Nat.beq f 138&&(Nat.beq t 6 || Nat.beq t 262160)) ||
  (Nat.beq f 143&&(Nat.beq t 1 || Nat.beq t 18)) ||
  (Nat.beq f 145&&(Nat.beq t 1)) ||
  (Nat.beq f 150&&(Nat.beq t 2)) ||
  (Nat.beq f 163&&(Nat.beq t 7)) ||
  (Nat.beq f 164&&(Nat.beq t 9)) ||
  (Nat.beq f 178&&(Nat.beq t 262148 || Nat.beq t 393220)) ||
  (Nat.beq f 181&&(Nat.beq t 5)) ||
  (Nat.beq f 204&&(Nat.beq t 9)) ||
  (Nat.beq f 205&&(Nat.beq t 11)) ||
  (Nat.beq f 214&&(Nat.beq t 12)) ||
  (Nat.beq f 229&&(Nat.beq t 9)) ||
  (Nat.beq f 230&&(Nat.beq t 11))
def ND:b8:=[]
theorem Kd:ND.all (fun p=>aS p.2)=true:=by kernel_rfl
def Td (g:Nat):Option (List AV):=cG ND g
noncomputable def env:Env:={ P:=Tryz.prog,ti:=Tb,bN:=Td,vI:=Wp,M6:=fun _=>none,X5:=Wo,D3:=D3,mixed:=by kernel_rfl,me:=fun _ _ h=>Jv Kd h }
def aG (l:List Nat):List (List Nat):=l.map fun m=>(List.range (m.log2+1)).filter m.testBit
def bg (a:Nat):Nat→DT→DT
 | 0,t=>t
 | n+1,t=>yg (a+1) fun b=>.take a [] (bg b n t)
def a7 (i:Nat) (t:DT):DT:=.br i [] [] t .stop
def Pk:af:=⟨aG [0,1,0,4,0,16,63,127,255,255,511,2047],aG [0,0,0,4,0,16,0,64,128,128,256,512],(.take 0 [] (.take 2 [] (.take 3 [3] (.take 4 [3] (.take 5 [5,3] (.br 1 [5,3] [] (a7 6 (bg 7 5 .done)) .stop))))))⟩
def Ke:af:=⟨aG [0,0,0,4,12,0,32,96,0,256,992,2046,4094,8191,16383],aG [0,0,0,4,8,0,32,64,0,256,640,1042,2048,0,8193],(bg 0 13 (a7 13 (.take 14 [] .done)))⟩
def Pl:af:=⟨aG [0,0,0,6,14,30,0,0,128,448,960,1984,4094,0,0,24576,57344,122880,0,0,524288,1835008,3932160,8126464,16769024,33554430,67108862,134217727,268435455],aG [0,0,0,6,8,16,0,0,128,320,512,1024,2080,0,0,24576,32768,65536,0,0,524288,1310720,2097152,4194304,8519680,16781312,33554432,0,134217729],(bg 0 27 (a7 27 (.take 28 [] .done)))⟩
def Pm:af:=⟨aG [0,1,3,7,15,31,0,64,192,463,1023,2047,0,4096,13263,32767,65535,0,131072,422863,1048575,2097151,0,4194304,13530063,33554431,67108863,134217727],aG [0,1,2,0,8,16,0,64,128,0,544,1024,0,4096,0,18432,32768,0,131072,0,589824,1048576,0,4194304,0,18874368,33554432,0],(bg 0 3 (bg 6 2 (.take 8 [8] (.take 12 [8] (.take 13 [13,8] (.take 17 [13,8] (.take 18 [18,13,8] (.take 22 [18,13,8] (.take 23 [23,18,13,8] (.br 3 [23,18,13,8] [23,18,13] (.take 4 [23,18,13] (.take 5 [23,18,13] (.br 9 [23,18,13] [23,18] (.take 10 [23,18] (.take 11 [23,18] (.br 14 [23,18] [23] (.take 15 [23] (.take 16 [23] (.br 19 [23] [] (bg 20 2 (a7 24 (bg 25 2 (a7 27 .done)))) .stop))) .stop))) .stop))) .stop))))))))))⟩
def Pn:af:=⟨aG [0,0,3,0,0,24,56,127,255],aG [0,0,3,0,0,24,32,0,128],(bg 0 7 (a7 7 (.take 8 [] .done)))⟩
def Po:af:=⟨aG [0,0,3,7,0,0,48,112,255],aG [0,0,3,4,0,0,48,64,136],(bg 0 9 .done)⟩
def Kf:af:=⟨aG [0,1,0,4,12,28,63,127,255,255,1023,2047,4095],aG [0,1,0,4,8,16,34,64,128,128,896,1152,2176],(bg 0 13 .done)⟩
def Pp:af:=⟨aG [0,0,3,7,0,0,48,112,255],aG [0,0,3,4,0,0,48,64,136],(bg 0 9 .done)⟩
def Pq:af:=⟨aG [0,0,3,7,0,0,48,112,255],aG [0,0,3,4,0,0,48,64,136],(bg 0 9 .done)⟩
def Pr:af:=⟨aG [0,0,3,7,0,0,48,112,255],aG [0,0,3,4,0,0,48,64,136],(bg 0 9 .done)⟩
def Ps:af:=⟨aG [0,1,3,0,8,31,63,127,255],aG [0,1,0,0,8,0,36,0,128],(bg 0 2 (.take 3 [] (.take 4 [4] (.br 2 [4] [] (a7 5 (.take 6 [] (a7 7 (.take 8 [] .done)))) .stop))))⟩
def Pt:af:=⟨aG [0,1,0,4,0,19,63],aG [0,1,0,4,0,0,8],(.take 0 [0] (.take 1 [1,0] (.take 2 [2,1,0] (.take 3 [3,2,1,0] (.br 4 [3,2,1,0] [3] (.br 5 [3] [] (.take 6 [] .done) .stop) .stop)))))⟩
def Kg:af:=⟨aG [0,0,0,0,0,0,56,0,0,0,1016,2040,3,8191,16383],aG [0,0,0,0,0,0,0,0,0,0,0,1088,3,4100,0],(.take 0 [0] (.take 1 [0] (.take 2 [0] (.take 3 [0] (.take 4 [0] (.take 5 [0] (.take 7 [0] (.take 8 [0] (.take 9 [0] (.take 12 [0] (.br 6 [0] [0] (.br 10 [0] [] (.take 11 [] (.take 13 [] (a7 14 .done))) .stop) .stop)))))))))))⟩
def Kh:af:=⟨aG [0,1,3,7,0,16,48,112,255],aG [0,1,2,4,0,16,32,64,136],(bg 0 9 .done)⟩
def Pu:af:=⟨aG [0,0,2,0,8,24,0,64,0,256,1022,2046,4095,8191],aG [0,0,0,0,8,16,0,64,0,256,676,1024,0,4097],(bg 0 2 (.take 3 [] (.take 4 [4] (.take 5 [4] (.take 6 [4] (.take 7 [4] (.take 8 [4] (.take 9 [9,4] (.br 2 [9,4] [] (bg 10 2 (a7 12 (.take 13 [] .done))) .stop)))))))))⟩
def Pv:af:=⟨aG [0,1,0,4,15,31,31,95,223,511,1023,31,4095,8191,16383,32767,65535,131071,262143],aG [0,0,0,4,8,16,16,80,144,304,528,16,0,4112,8208,0,32770,0,131072],(.take 0 [] (bg 2 2 (a7 1 (bg 4 8 (a7 12 (bg 13 2 (a7 15 (.take 16 [] (a7 17 (.take 18 [] .done))))))))))⟩
def Pw:af:=⟨aG [0,1,3,7,7,23,63,127,255,7,519,2047,4095],aG [0,1,2,4,4,20,44,68,0,4,516,1284,2052],(bg 0 8 (.take 9 [] (.take 10 [10] (.br 8 [10] [] (bg 11 2 .done) .stop))))⟩
def Px:af:=⟨aG [0,1,3,7,15,0,32,96,224,480,1023,2047],aG [0,1,2,4,0,0,32,64,128,256,0,1024],(bg 0 4 (bg 5 3 (.take 8 [8] (.take 9 [9,8] (.br 4 [9,8] [] (a7 10 (.take 11 [] .done)) .stop)))))⟩
def Py:af:=⟨aG [0,1,0,0,12,28,63,127],aG [0,1,0,0,12,16,0,64],(bg 0 6 (a7 6 (.take 7 [] .done)))⟩
def Ki:af:=⟨aG [0,1,3,7,15,31,0,127,255,511,1023],aG [0,1,2,4,8,0,0,0,160,0,512],(bg 0 5 (.take 6 [6] (.br 5 [6] [] (a7 7 (.take 8 [] (a7 9 (.take 10 [] .done)))) .stop)))⟩
def Kj:af:=⟨aG [0,1,3,7,15,31,63,127,63,319,831,1855,4095,8191,16383],aG [0,1,2,4,8,16,32,0,32,288,544,1056,0,4256,8224],(bg 0 7 (.take 8 [8] (.take 9 [8] (.take 10 [8] (.take 11 [11,8] (.br 7 [11,8] [] (a7 12 (bg 13 2 .done)) .stop))))))⟩
def Kk:af:=⟨aG [0,1,3,7,0,31],aG [0,1,2,4,0,24],(bg 0 6 .done)⟩
def GP:af:=⟨aG [0,1,3,7,15,0,32,127,255],aG [0,1,2,4,8,0,32,80,128],(bg 0 9 .done)⟩
def GQ:af:=⟨aG [0,1,3,7,0,31],aG [0,1,2,4,0,0],(bg 0 5 (a7 5 .done))⟩
def GR:af:=⟨aG [0,0,0,4,12,28,60,0,125,381,893,2047,4095,8191],aG [0,0,0,4,8,16,32,0,1,256,0,2,2048,0],(.take 0 [] (.take 1 [1] (.take 2 [1] (.take 3 [1] (.take 4 [1] (.take 5 [1] (.take 6 [1] (.take 7 [7,1] (.take 8 [7,1] (.take 9 [7,1] (.br 10 [7,1] [] (bg 11 2 (a7 13 .done)) .stop)))))))))))⟩
def Kl:af:=⟨aG [0,1,3,7,15,31,63,127,255,511,255,255,2303,6399,15615,31999,65535,131071,262143],aG [0,1,2,4,12,20,36,64,128,0,128,128,2176,4224,9344,16512,0,66176,131200],(bg 0 9 (bg 10 2 (.take 12 [12] (.take 13 [12] (.take 14 [12] (.take 15 [15,12] (.br 9 [15,12] [] (a7 16 (bg 17 2 .done)) .stop)))))))⟩
def Km:af:=⟨aG [0,1,0,7,15,31],aG [0,0,0,0,2,8],(.take 0 [] (.take 2 [2] (.br 1 [2] [] (a7 3 (bg 4 2 .done)) .stop)))⟩
def GS:af:=⟨aG [0,0,3,7,0,0,48,112,255],aG [0,0,3,4,0,0,48,64,136],(bg 0 9 .done)⟩
def Kn:af:=⟨aG [0,0,0,4,14,30,0,0,192,448,1022,2046,4095,8191],aG [0,0,0,4,10,16,0,0,192,256,0,1024,0,4097],(bg 0 10 (a7 10 (.take 11 [] (a7 12 (.take 13 [] .done)))))⟩
def Ko:af:=⟨aG [0,1,3,0,8,31,63,127,255],aG [0,1,0,0,8,0,36,0,128],(bg 0 2 (.take 3 [] (.take 4 [4] (.br 2 [4] [] (a7 5 (.take 6 [] (a7 7 (.take 8 [] .done)))) .stop))))⟩
def Kp:af:=⟨aG [0,1,3,0,0,16,48,120,255,0,512,1536,0,4096,0,16384,49264,127088,261744,524287,1048575],aG [0,1,2,0,0,16,0,72,132,0,512,1024,0,4096,0,16384,0,73728,133120,262400,0],(bg 0 2 (.take 2 [2] (.take 3 [2] (.take 4 [2] (.take 5 [2] (.take 9 [2] (.take 10 [2] (.take 11 [11,2] (.take 12 [11,2] (.take 13 [11,2] (.take 14 [11,2] (.take 15 [15,11,2] (.br 6 [15,11,2] [11,2] (.take 7 [11,2] (.take 8 [11,2] (.br 16 [11,2] [] (bg 17 3 (a7 20 .done)) .stop))) .stop)))))))))))))⟩
def Kq:af:=⟨aG [0,0,2,7,0,0,32,127,0,0,1023,2047],aG [0,0,2,0,0,0,32,0,0,0,0,0],(.al 8 [1,3,7,8,9,11,12,13] (.al 9 [1,3,7,8,9,11,12,13] (bg 0 3 (bg 4 2 (.take 6 [6] (.br 3 [6] [] (a7 7 (a7 10 (a7 11 .done))) .stop))))))⟩
def Kr:af:=⟨aG [0,0,0,3,15,31,63,0,0,256,0,896,3968,8064,16256,32767],aG [0,0,0,3,12,16,0,0,0,256,0,640,3072,4096,8192,16448],(bg 0 6 (.take 7 [7] (.take 8 [7] (.take 9 [7] (.take 10 [7] (.take 11 [7] (.take 12 [7] (.take 13 [7] (.take 14 [14,7] (.br 6 [14,7] [] (.take 15 [] .done) .stop))))))))))⟩
def Ks:af:=⟨aG [0,1,0,4,12,0,32,0,128,384,896,2016,0,4096,16383,32767],aG [0,0,0,4,8,0,32,0,128,256,512,1088,0,4096,10258,0],(.take 0 [] (.take 2 [] (.take 3 [3] (.take 4 [3] (.take 5 [3] (.take 6 [6,3] (.take 7 [6,3] (.take 8 [8,6,3] (.take 9 [8,6,3] (.take 10 [8,6,3] (.take 11 [8,6,3] (.take 12 [8,6,3] (.take 13 [13,8,6,3] (.br 1 [13,8,6,3] [] (.take 14 [] (a7 15 .done)) .stop))))))))))))))⟩
def Kt:af:=⟨aG [0,1,0,4,15,31,0,64,192,511,1023,2047,4095,8191,16383,32767,65535,131071],aG [0,1,0,4,10,0,0,64,128,256,512,1536,2560,4608,0,16416,0,65536],(bg 0 5 (.take 6 [] (.take 7 [7] (.take 8 [7] (.br 5 [7] [] (bg 9 5 (a7 14 (.take 15 [] (a7 16 (.take 17 [] .done))))) .stop)))))⟩
def Ku:af:=⟨aG [0,1,0,4,15,0,32,0,128,511,0,1024,0,4096,16383,32767,65535,131071],aG [0,1,0,4,0,0,32,0,128,0,0,1024,0,4096,0,16912,0,65536],(bg 0 4 (.take 5 [] (.take 6 [6] (.take 7 [6] (.take 8 [8,6] (.take 10 [8,6] (.take 11 [11,8,6] (.take 12 [11,8,6] (.take 13 [13,11,8,6] (.br 4 [13,11,8,6] [13,11] (.br 9 [13,11] [] (a7 14 (.take 15 [] (a7 16 (.take 17 [] .done)))) .stop) .stop))))))))))⟩
def GU:af:=⟨aG [0,1,3,7,7,23,63,127,7,7,775,1799,4095,8191,16383],aG [0,1,2,4,4,20,44,68,4,4,772,1028,0,4100,8196],(bg 0 12 (a7 12 (bg 13 2 .done)))⟩
def Kv:af:=⟨aG [0,0,3,7,3,19,63],aG [0,0,3,4,0,16,0],(bg 0 2 (.take 2 [2] (.take 3 [2] (.br 4 [2] [] (.take 5 [] (a7 6 .done)) .stop))))⟩
def Kw:af:=⟨aG [0,0,3,0,0,0,32,112,248,7,1023,2047],aG [0,0,3,0,0,0,32,80,136,4,256,0],(bg 0 12 .done)⟩
def Kx:af:=⟨aG [0,1,3,0,8,24,63,127],aG [0,1,2,0,0,16,36,64],(bg 0 2 (.take 2 [2] (.take 3 [2] (.br 4 [2] [] (bg 5 3 .done) .stop))))⟩
def Ky:af:=⟨aG [0,1,0,4,0,16,60,124,252,511,1023,2047,4095],aG [0,0,0,4,0,16,40,64,128,0,514,0,2048],(.take 0 [] (.take 2 [] (.take 3 [3] (.take 4 [3] (.take 5 [5,3] (.take 6 [5,3] (.take 7 [5,3] (.take 8 [5,3] (.br 1 [5,3] [] (a7 9 (.take 10 [] (a7 11 (.take 12 [] .done)))) .stop)))))))))⟩
def Kz:af:=⟨aG [0,1,3,0,8,31,63,127,255],aG [0,1,0,0,8,0,36,0,128],(bg 0 2 (.take 3 [] (.take 4 [4] (.br 2 [4] [] (a7 5 (.take 6 [] (a7 7 (.take 8 [] .done)))) .stop))))⟩
def KA:af:=⟨aG [0,0,3,7,15,15,63,127,15,15,527,1807,3855,8191,16383],aG [0,0,3,4,8,8,56,72,8,8,520,1288,2056,0,8200],(bg 0 13 (a7 13 (.take 14 [] .done)))⟩
def KB:af:=⟨aG [0,0,0,0,8,0,0,64,224,480,0,0,3072,7168,16355,32739,65535,131071],aG [0,0,0,0,8,0,0,64,160,256,0,0,3072,4096,3,0,20,0],(bg 0 15 (a7 15 (.take 16 [] (a7 17 .done))))⟩
def GV:af:=⟨aG [0,0,0,0,0,24,0,0,0,384,960,1984,0,0,12288,28672,65475,131011,262143,524287],aG [0,0,0,0,0,24,0,0,0,384,576,1024,0,0,12288,16384,3,0,36,0],(bg 0 17 (a7 17 (.take 18 [] (a7 19 .done))))⟩
def GW:af:=⟨aG [0,0,0,0,0,24,0,0,0,384,960,1984,0,0,12288,28672,65475,131011,262143,524287],aG [0,0,0,0,0,24,0,0,0,384,576,1024,0,0,12288,16384,3,0,36,0],(bg 0 17 (a7 17 (.take 18 [] (a7 19 .done))))⟩
def KC:af:=⟨aG [0,0,0,0,0,0,48,112,0,0,768,1792,4083,8179,16383,32767],aG [0,0,0,0,0,0,48,64,0,0,768,1024,3,0,12,0],(bg 0 13 (a7 13 (.take 14 [] (a7 15 .done))))⟩
def KD:af:=⟨aG [0,0,3,7,15,15,63,127,15,15,527,1807,3855,8191,16383,32767],aG [0,0,3,4,8,8,56,72,8,8,520,1288,2056,0,8200,16392],(bg 0 13 (a7 13 (bg 14 2 .done)))⟩
def GX:af:=⟨aG [0,0,0,0,8,0,0,64,224,480,0,0,3072,7168,16355,32739,65535,131071],aG [0,0,0,0,8,0,0,64,160,256,0,0,3072,4096,3,0,20,0],(bg 0 15 (a7 15 (.take 16 [] (a7 17 .done))))⟩
def GY:af:=⟨aG [0,0,3,7,0,0,32,112,240,511,1023],aG [0,0,3,4,0,0,32,80,128,0,512],(bg 0 9 (a7 9 (.take 10 [] .done)))⟩
def GZ:af:=⟨aG [0,0,0,0,8,0,0,64,224,480,0,0,3072,7168,16355,32739,65535,131071],aG [0,0,0,0,8,0,0,64,160,256,0,0,3072,4096,3,0,20,0],(bg 0 15 (a7 15 (.take 16 [] (a7 17 .done))))⟩
def G3:af:=⟨aG [0,0,3,7,0,0,32,112,240,511,1023],aG [0,0,3,4,0,0,32,80,128,0,512],(bg 0 9 (a7 9 (.take 10 [] .done)))⟩
def G4:af:=⟨aG [0,0,0,0,8,0,0,64,224,480,0,0,3072,7168,16355,32739,65535,131071],aG [0,0,0,0,8,0,0,64,160,256,0,0,3072,4096,3,0,20,0],(bg 0 15 (a7 15 (.take 16 [] (a7 17 .done))))⟩
def KE:af:=⟨aG [0,0,0,0,0,0,48,112,0,0,768,1792,4083,8179,16383,32767],aG [0,0,0,0,0,0,48,64,0,0,768,1024,3,0,12,0],(bg 0 13 (a7 13 (.take 14 [] (a7 15 .done))))⟩
def KF:af:=⟨aG [0,0,3,7,15,15,63,127,15,15,783,1807,4095,8191,16383],aG [0,0,3,4,8,8,56,72,8,8,776,1032,0,4104,8200],(bg 0 12 (a7 12 (bg 13 2 .done)))⟩
def KG:af:=⟨aG [0,0,3,7,15,15,63,127,15,15,783,1807,4095,8191],aG [0,0,3,4,8,8,56,72,8,8,776,1032,0,4104],(bg 0 12 (a7 12 (.take 13 [] .done)))⟩
def KH:af:=⟨aG [0,0,0,0,0,0,48,112,0,0,768,1792,4083,8179,16383,32767],aG [0,0,0,0,0,0,48,64,0,0,768,1024,3,0,12,0],(bg 0 13 (a7 13 (.take 14 [] (a7 15 .done))))⟩
def KI:af:=⟨aG [0,0,0,0,0,0,48,112,0,0,768,1792,4083,8179,16383,32767],aG [0,0,0,0,0,0,48,64,0,0,768,1024,3,0,12,0],(bg 0 13 (a7 13 (.take 14 [] (a7 15 .done))))⟩
def KJ:af:=⟨aG [0,0,3,7,15,15,63,127,15,15,783,1807,4095,8191],aG [0,0,3,4,8,8,56,72,8,8,776,1032,0,4104],(bg 0 12 (a7 12 (.take 13 [] .done)))⟩
def KK:af:=⟨aG [0,0,3,7,15,15,63,127,15,15,783,1807,4095,8191,16383],aG [0,0,3,4,8,8,56,72,8,8,776,1032,0,4104,8200],(bg 0 12 (a7 12 (bg 13 2 .done)))⟩
def KL:af:=⟨aG [0,0,0,0,0,0,48,112,0,0,768,1792,4083,8179,16383,32767],aG [0,0,0,0,0,0,48,64,0,0,768,1024,3,0,12,0],(bg 0 13 (a7 13 (.take 14 [] (a7 15 .done))))⟩
def G5:af:=⟨aG [0,0,0,0,0,0,48,112,0,0,768,1792,4083,8179,16383,32767],aG [0,0,0,0,0,0,48,64,0,0,768,1024,3,0,12,0],(bg 0 13 (a7 13 (.take 14 [] (a7 15 .done))))⟩
def G6:af:=⟨aG [0,0,3,7,15,15,63,127,15,15,783,1807,4095,8191],aG [0,0,3,4,8,8,56,72,8,8,776,1032,0,4104],(bg 0 12 (a7 12 (.take 13 [] .done)))⟩
def G7:af:=⟨aG [0,0,3,7,15,15,63,127,15,15,783,1807,4095,8191,16383],aG [0,0,3,4,8,8,56,72,8,8,776,1032,0,4104,8200],(bg 0 12 (a7 12 (bg 13 2 .done)))⟩
def G8:af:=⟨aG [0,0,0,0,0,0,48,112,0,0,768,1792,4083,8179,16383,32767],aG [0,0,0,0,0,0,48,64,0,0,768,1024,3,0,12,0],(bg 0 13 (a7 13 (.take 14 [] (a7 15 .done))))⟩
def G9:af:=⟨aG [0,0,0,0,0,0,48,112,0,0,768,1792,4083,8179,16383,32767],aG [0,0,0,0,0,0,48,64,0,0,768,1024,3,0,12,0],(bg 0 13 (a7 13 (.take 14 [] (a7 15 .done))))⟩
def Ha:af:=⟨aG [0,1,3,7,7,7,39,119,247,7,7,1543,3591,8191,16383,32767,65535],aG [0,1,2,4,4,4,36,84,132,4,4,1540,2052,0,8196,16388,32772],(bg 0 13 (a7 13 (bg 14 3 .done)))⟩
def KM:af:=⟨aG [0,1,0,4,15,0,32,0,128,511,1023,2047,4095],aG [0,1,0,4,0,0,32,0,128,0,528,0,2048],(bg 0 4 (.take 5 [] (.take 6 [6] (.take 7 [6] (.take 8 [8,6] (.br 4 [8,6] [] (a7 9 (.take 10 [] (a7 11 (.take 12 [] .done)))) .stop))))))⟩
def KN:af:=⟨aG [0,0,0,6,14,0,0,64,224,480,1023],aG [0,0,0,6,8,0,0,64,160,256,0],(bg 0 10 (a7 10 .done))⟩
def Hb:af:=⟨aG [0,0,0,6,14,0,0,64,224,480,1023,2047],aG [0,0,0,6,8,0,0,64,160,256,0,1024],(bg 0 10 (a7 10 (.take 11 [] .done)))⟩
def KO:af:=⟨aG [0,0,3,0,0,16,63,0,0,511,1023],aG [0,0,0,0,0,16,0,0,0,0,0],(.al 7 [1,3,11,12,14,15,16] (.al 8 [1,3,11,12,14,15,16] (bg 0 2 (.take 3 [3] (.take 4 [3] (.take 5 [3] (.br 2 [3] [] (a7 6 (a7 9 (a7 10 .done))) .stop)))))))⟩
def KP:af:=⟨aG [0,1,0,7,15,31,31,31,223,511,1023,31,31,31,12319,28703,63519,129055,262143,524287],aG [0,1,0,6,8,16,16,16,208,304,528,16,16,16,12304,16400,34832,65552,0,262160],(bg 0 18 (a7 18 (.take 19 [] .done)))⟩
def KQ:af:=⟨aG [0,0,0,6,15,31,0,0,0,384,960,1984,4095,8191],aG [0,0,0,6,9,16,0,0,0,384,576,1024,0,4096],(bg 0 12 (a7 12 (.take 13 [] .done)))⟩
def KR:af:=⟨aG [0,0,0,6,0,0,0,96,0,0,0,1536,3840,7936,0,0,0,98304,245760,507904,1048335,2096911,4194303,8388607],aG [0,0,0,6,0,0,0,96,0,0,0,1536,2304,4096,0,0,0,98304,147456,262144,9,0,144,0],(bg 0 21 (a7 21 (.take 22 [] (a7 23 .done))))⟩
def KS:af:=⟨aG [0,1,3,0,8,24,56,127,255,511],aG [0,1,2,0,8,16,32,68,1,0],(bg 0 9 (a7 9 .done))⟩
def KT:af:=⟨aG [0,1,3,0,8,24,56,127,255,511],aG [0,1,2,0,8,16,32,68,1,0],(bg 0 9 (a7 9 .done))⟩
def KU:af:=⟨aG [0,1,3,0,8,24,56,127,255,511],aG [0,1,2,0,8,16,32,68,1,0],(bg 0 9 (a7 9 .done))⟩
def KV:af:=⟨aG [0,0,0,6,14,0,63,127],aG [0,0,0,6,8,0,0,64],(bg 0 6 (a7 6 (.take 7 [] .done)))⟩
def KW:af:=⟨aG [0,0,0,6,14,30,30,30,222,478,30,2046,4094,8190,4095,32767],aG [0,0,0,6,8,16,16,16,208,272,16,0,2064,4112,1,8192],(bg 0 11 (a7 11 (bg 12 4 .done)))⟩
def KX:af:=⟨aG [0,0,3,7,15,15,15,111,239,15,15,1039,3599,7695,16383,32767,65535],aG [0,0,3,4,8,8,8,104,136,8,8,1032,2568,4104,0,16392,32776],(bg 0 14 (a7 14 (bg 15 2 .done)))⟩
def KY:af:=⟨aG [0,0,0,0,8,0,0,64,224,480,0,0,3072,7168,16355,32739,65535,131071],aG [0,0,0,0,8,0,0,64,160,256,0,0,3072,4096,3,0,20,0],(bg 0 15 (a7 15 (.take 16 [] (a7 17 .done))))⟩
def Hc:af:=⟨aG [0,0,0,0,0,24,0,0,0,384,960,1984,0,0,12288,28672,65475,131011,262143,524287],aG [0,0,0,0,0,24,0,0,0,384,576,1024,0,0,12288,16384,3,0,36,0],(bg 0 17 (a7 17 (.take 18 [] (a7 19 .done))))⟩
def Hd:af:=⟨aG [0,0,0,0,0,24,0,0,0,384,960,1984,0,0,12288,28672,65475,131011,262143,524287],aG [0,0,0,0,0,24,0,0,0,384,576,1024,0,0,12288,16384,3,0,36,0],(bg 0 17 (a7 17 (.take 18 [] (a7 19 .done))))⟩
def KZ:af:=⟨aG [0,0,0,0,0,0,48,112,0,0,768,1792,4083,8179,16383,32767],aG [0,0,0,0,0,0,48,64,0,0,768,1024,3,0,12,0],(bg 0 13 (a7 13 (.take 14 [] (a7 15 .done))))⟩
def K0:af:=⟨aG [0,0,3,7,15,15,15,111,239,15,15,1039,3599,7695,16383,32767,65535,131071],aG [0,0,3,4,8,8,8,104,136,8,8,1032,2568,4104,0,16392,32776,65544],(bg 0 14 (a7 14 (bg 15 3 .done)))⟩
def He:af:=⟨aG [0,0,0,0,8,0,0,64,224,480,0,0,3072,7168,16355,32739,65535,131071],aG [0,0,0,0,8,0,0,64,160,256,0,0,3072,4096,3,0,20,0],(bg 0 15 (a7 15 (.take 16 [] (a7 17 .done))))⟩
def Hf:af:=⟨aG [0,0,0,6,14,0,0,64,224,480,1023,2047,4095],aG [0,0,0,6,8,0,0,64,160,256,0,1024,2048],(bg 0 10 (a7 10 (bg 11 2 .done)))⟩
def Hg:af:=⟨aG [0,0,0,0,8,0,0,64,224,480,0,0,3072,7168,16355,32739,65535,131071],aG [0,0,0,0,8,0,0,64,160,256,0,0,3072,4096,3,0,20,0],(bg 0 15 (a7 15 (.take 16 [] (a7 17 .done))))⟩
def Hh:af:=⟨aG [0,0,0,6,14,0,0,64,224,480,1023,2047,4095],aG [0,0,0,6,8,0,0,64,160,256,0,1024,2048],(bg 0 10 (a7 10 (bg 11 2 .done)))⟩
def Hi:af:=⟨aG [0,0,0,0,8,0,0,64,224,480,0,0,3072,7168,16355,32739,65535,131071],aG [0,0,0,0,8,0,0,64,160,256,0,0,3072,4096,3,0,20,0],(bg 0 15 (a7 15 (.take 16 [] (a7 17 .done))))⟩
def K1:af:=⟨aG [0,0,0,0,0,0,48,112,0,0,768,1792,4083,8179,16383,32767],aG [0,0,0,0,0,0,48,64,0,0,768,1024,3,0,12,0],(bg 0 13 (a7 13 (.take 14 [] (a7 15 .done))))⟩
def K3:af:=⟨aG [0,0,3,7,15,15,15,111,239,15,15,1551,3599,8191,16383,32767,65535],aG [0,0,3,4,8,8,8,104,136,8,8,1544,2056,0,8200,16392,32776],(bg 0 13 (a7 13 (bg 14 3 .done)))⟩
def K4:af:=⟨aG [0,0,3,7,15,15,15,111,239,15,15,1551,3599,8191,16383,32767],aG [0,0,3,4,8,8,8,104,136,8,8,1544,2056,0,8200,16392],(bg 0 13 (a7 13 (bg 14 2 .done)))⟩
def K5:af:=⟨aG [0,0,0,0,0,0,48,112,0,0,768,1792,4083,8179,16383,32767],aG [0,0,0,0,0,0,48,64,0,0,768,1024,3,0,12,0],(bg 0 13 (a7 13 (.take 14 [] (a7 15 .done))))⟩
def K6:af:=⟨aG [0,0,0,0,0,0,48,112,0,0,768,1792,4083,8179,16383,32767],aG [0,0,0,0,0,0,48,64,0,0,768,1024,3,0,12,0],(bg 0 13 (a7 13 (.take 14 [] (a7 15 .done))))⟩
def K7:af:=⟨aG [0,0,3,7,15,15,15,111,239,15,15,1551,3599,8191,16383,32767],aG [0,0,3,4,8,8,8,104,136,8,8,1544,2056,0,8200,16392],(bg 0 13 (a7 13 (bg 14 2 .done)))⟩
def K8:af:=⟨aG [0,0,3,7,15,15,15,111,239,15,15,1551,3599,8191,16383,32767,65535],aG [0,0,3,4,8,8,8,104,136,8,8,1544,2056,0,8200,16392,32776],(bg 0 13 (a7 13 (bg 14 3 .done)))⟩
def K9:af:=⟨aG [0,0,0,0,0,0,48,112,0,0,768,1792,4083,8179,16383,32767],aG [0,0,0,0,0,0,48,64,0,0,768,1024,3,0,12,0],(bg 0 13 (a7 13 (.take 14 [] (a7 15 .done))))⟩
def Hj:af:=⟨aG [0,0,0,0,0,0,48,112,0,0,768,1792,4083,8179,16383,32767],aG [0,0,0,0,0,0,48,64,0,0,768,1024,3,0,12,0],(bg 0 13 (a7 13 (.take 14 [] (a7 15 .done))))⟩
def Hk:af:=⟨aG [0,0,3,7,15,15,15,111,239,15,15,1551,3599,8191,16383,32767],aG [0,0,3,4,8,8,8,104,136,8,8,1544,2056,0,8200,16392],(bg 0 13 (a7 13 (bg 14 2 .done)))⟩
def Hl:af:=⟨aG [0,0,3,7,15,15,15,111,239,15,15,1551,3599,8191,16383,32767,65535],aG [0,0,3,4,8,8,8,104,136,8,8,1544,2056,0,8200,16392,32776],(bg 0 13 (a7 13 (bg 14 3 .done)))⟩
def Hm:af:=⟨aG [0,0,0,0,0,0,48,112,0,0,768,1792,4083,8179,16383,32767],aG [0,0,0,0,0,0,48,64,0,0,768,1024,3,0,12,0],(bg 0 13 (a7 13 (.take 14 [] (a7 15 .done))))⟩
def Hn:af:=⟨aG [0,0,0,0,0,0,48,112,0,0,768,1792,4083,8179,16383,32767],aG [0,0,0,0,0,0,48,64,0,0,768,1024,3,0,12,0],(bg 0 13 (a7 13 (.take 14 [] (a7 15 .done))))⟩
def Ho:af:=⟨aG [0,1,3,7,7,7,39,119,247,7,7,1543,3591,8191,16383,32767,65535],aG [0,1,2,4,4,4,36,84,132,4,4,1540,2052,0,8196,16388,32772],(bg 0 13 (a7 13 (bg 14 3 .done)))⟩
def La:af:=⟨aG [0,0,2,0,0,16,0,64,192,0,512,455,2503,8191,16383],aG [0,0,2,0,0,16,0,64,128,0,512,5,0,40,0],(bg 0 12 (a7 12 (.take 13 [] (a7 14 .done))))⟩
def Lb:af:=⟨aG [0,0,2,0,0,16,0,64,192,0,512,455,2503,8191,16383],aG [0,0,2,0,0,16,0,64,128,0,512,5,0,40,0],(bg 0 12 (a7 12 (.take 13 [] (a7 14 .done))))⟩
def Lc:af:=⟨aG [0,0,2,0,0,16,0,64,192,0,512,455,2503,8191,16383],aG [0,0,2,0,0,16,0,64,128,0,512,5,0,40,0],(bg 0 12 (a7 12 (.take 13 [] (a7 14 .done))))⟩
def Hp:af:=⟨aG [0,0,2,0,0,16,0,64,192,0,512,455,2503,8191,16383],aG [0,0,2,0,0,16,0,64,128,0,512,5,0,40,0],(bg 0 12 (a7 12 (.take 13 [] (a7 14 .done))))⟩
def Hq:af:=⟨aG [0,0,2,0,0,16,0,64,192,0,512,455,2503,8191,16383],aG [0,0,2,0,0,16,0,64,128,0,512,5,0,40,0],(bg 0 12 (a7 12 (.take 13 [] (a7 14 .done))))⟩
def Hr:af:=⟨aG [0,0,2,0,0,16,0,64,192,0,512,455,2503,8191,16383],aG [0,0,2,0,0,16,0,64,128,0,512,5,0,40,0],(bg 0 12 (a7 12 (.take 13 [] (a7 14 .done))))⟩
def Hs:af:=⟨aG [0,0,2,0,0,16,0,64,192,0,512,455,2503,8191,16383],aG [0,0,2,0,0,16,0,64,128,0,512,5,0,40,0],(bg 0 12 (a7 12 (.take 13 [] (a7 14 .done))))⟩
def Ld:af:=⟨aG [0,0,3,7,0,0,48,112,255],aG [0,0,3,4,0,0,48,64,0],(bg 0 8 (a7 8 .done))⟩
def Le:af:=⟨aG [0,1,0,7,15,31,31,31,31,415,991,2015,31,31,31,24607,57375,127007,258079,524287,1048575,2097151],aG [0,1,0,6,8,16,16,16,16,400,592,1040,16,16,16,24592,32784,69648,131088,0,524304,1048592],(bg 0 19 (a7 19 (bg 20 2 .done)))⟩
def Lf:af:=⟨aG [0,0,0,0,12,30,62,0,0,0,768,1920,3968,8191,16383,32767],aG [0,0,0,0,12,18,32,0,0,0,768,1152,2048,0,8192,16384],(bg 0 13 (a7 13 (bg 14 2 .done)))⟩
def Lg:af:=⟨aG [0,0,0,6,0,0,0,96,0,0,0,1536,3840,7936,0,0,0,98304,245760,507904,1048335,2096911,4194303,8388607],aG [0,0,0,6,0,0,0,96,0,0,0,1536,2304,4096,0,0,0,98304,147456,262144,9,0,144,0],(bg 0 21 (a7 21 (.take 22 [] (a7 23 .done))))⟩
def Lh:af:=⟨aG [0,0,3,7,15,15,15,111,239,15,15,1039,3599,7695,16383,32767,65535],aG [0,0,3,4,8,8,8,104,136,8,8,1032,2568,4104,0,16392,32776],(bg 0 14 (a7 14 (bg 15 2 .done)))⟩
def Li:af:=⟨aG [0,0,0,0,8,0,0,64,224,480,0,0,3072,7168,16355,32739,65535,131071],aG [0,0,0,0,8,0,0,64,160,256,0,0,3072,4096,3,0,20,0],(bg 0 15 (a7 15 (.take 16 [] (a7 17 .done))))⟩
def Ht:af:=⟨aG [0,0,0,0,0,24,0,0,0,384,960,1984,0,0,12288,28672,65475,131011,262143,524287],aG [0,0,0,0,0,24,0,0,0,384,576,1024,0,0,12288,16384,3,0,36,0],(bg 0 17 (a7 17 (.take 18 [] (a7 19 .done))))⟩
def Hu:af:=⟨aG [0,0,0,0,0,24,0,0,0,384,960,1984,0,0,12288,28672,65475,131011,262143,524287],aG [0,0,0,0,0,24,0,0,0,384,576,1024,0,0,12288,16384,3,0,36,0],(bg 0 17 (a7 17 (.take 18 [] (a7 19 .done))))⟩
def Lj:af:=⟨aG [0,0,0,0,0,0,48,112,0,0,768,1792,4083,8179,16383,32767],aG [0,0,0,0,0,0,48,64,0,0,768,1024,3,0,12,0],(bg 0 13 (a7 13 (.take 14 [] (a7 15 .done))))⟩
def Lk:af:=⟨aG [0,0,3,7,15,15,15,111,239,15,15,1039,3599,7695,16383,32767,65535,131071],aG [0,0,3,4,8,8,8,104,136,8,8,1032,2568,4104,0,16392,32776,65544],(bg 0 14 (a7 14 (bg 15 3 .done)))⟩
def Hv:af:=⟨aG [0,0,0,0,8,0,0,64,224,480,0,0,3072,7168,16355,32739,65535,131071],aG [0,0,0,0,8,0,0,64,160,256,0,0,3072,4096,3,0,20,0],(bg 0 15 (a7 15 (.take 16 [] (a7 17 .done))))⟩
def Hw:af:=⟨aG [0,0,0,6,14,0,0,64,224,480,1023,2047,4095],aG [0,0,0,6,8,0,0,64,160,256,0,1024,2048],(bg 0 10 (a7 10 (bg 11 2 .done)))⟩
def Hx:af:=⟨aG [0,0,0,0,8,0,0,64,224,480,0,0,3072,7168,16355,32739,65535,131071],aG [0,0,0,0,8,0,0,64,160,256,0,0,3072,4096,3,0,20,0],(bg 0 15 (a7 15 (.take 16 [] (a7 17 .done))))⟩
def Hy:af:=⟨aG [0,0,0,6,14,0,0,64,224,480,1023,2047,4095],aG [0,0,0,6,8,0,0,64,160,256,0,1024,2048],(bg 0 10 (a7 10 (bg 11 2 .done)))⟩
def Hz:af:=⟨aG [0,0,0,0,8,0,0,64,224,480,0,0,3072,7168,16355,32739,65535,131071],aG [0,0,0,0,8,0,0,64,160,256,0,0,3072,4096,3,0,20,0],(bg 0 15 (a7 15 (.take 16 [] (a7 17 .done))))⟩
def Ll:af:=⟨aG [0,0,0,0,0,0,48,112,0,0,768,1792,4083,8179,16383,32767],aG [0,0,0,0,0,0,48,64,0,0,768,1024,3,0,12,0],(bg 0 13 (a7 13 (.take 14 [] (a7 15 .done))))⟩
def Lm:af:=⟨aG [0,0,3,7,15,15,15,111,239,15,15,1551,3599,8191,16383,32767,65535],aG [0,0,3,4,8,8,8,104,136,8,8,1544,2056,0,8200,16392,32776],(bg 0 13 (a7 13 (bg 14 3 .done)))⟩
def Ln:af:=⟨aG [0,0,3,7,15,15,15,111,239,15,15,1551,3599,8191,16383,32767],aG [0,0,3,4,8,8,8,104,136,8,8,1544,2056,0,8200,16392],(bg 0 13 (a7 13 (bg 14 2 .done)))⟩
def Lo:af:=⟨aG [0,0,0,0,0,0,48,112,0,0,768,1792,4083,8179,16383,32767],aG [0,0,0,0,0,0,48,64,0,0,768,1024,3,0,12,0],(bg 0 13 (a7 13 (.take 14 [] (a7 15 .done))))⟩
def Lp:af:=⟨aG [0,0,0,0,0,0,48,112,0,0,768,1792,4083,8179,16383,32767],aG [0,0,0,0,0,0,48,64,0,0,768,1024,3,0,12,0],(bg 0 13 (a7 13 (.take 14 [] (a7 15 .done))))⟩
def Lq:af:=⟨aG [0,0,3,7,15,15,15,111,239,15,15,1551,3599,8191,16383,32767],aG [0,0,3,4,8,8,8,104,136,8,8,1544,2056,0,8200,16392],(bg 0 13 (a7 13 (bg 14 2 .done)))⟩
def Lr:af:=⟨aG [0,0,3,7,15,15,15,111,239,15,15,1551,3599,8191,16383,32767,65535],aG [0,0,3,4,8,8,8,104,136,8,8,1544,2056,0,8200,16392,32776],(bg 0 13 (a7 13 (bg 14 3 .done)))⟩
def Ls:af:=⟨aG [0,0,0,0,0,0,48,112,0,0,768,1792,4083,8179,16383,32767],aG [0,0,0,0,0,0,48,64,0,0,768,1024,3,0,12,0],(bg 0 13 (a7 13 (.take 14 [] (a7 15 .done))))⟩
def HA:af:=⟨aG [0,0,0,0,0,0,48,112,0,0,768,1792,4083,8179,16383,32767],aG [0,0,0,0,0,0,48,64,0,0,768,1024,3,0,12,0],(bg 0 13 (a7 13 (.take 14 [] (a7 15 .done))))⟩
def HB:af:=⟨aG [0,0,3,7,15,15,15,111,239,15,15,1551,3599,8191,16383,32767],aG [0,0,3,4,8,8,8,104,136,8,8,1544,2056,0,8200,16392],(bg 0 13 (a7 13 (bg 14 2 .done)))⟩
def HC:af:=⟨aG [0,0,3,7,15,15,15,111,239,15,15,1551,3599,8191,16383,32767,65535],aG [0,0,3,4,8,8,8,104,136,8,8,1544,2056,0,8200,16392,32776],(bg 0 13 (a7 13 (bg 14 3 .done)))⟩
def HD:af:=⟨aG [0,0,0,0,0,0,48,112,0,0,768,1792,4083,8179,16383,32767],aG [0,0,0,0,0,0,48,64,0,0,768,1024,3,0,12,0],(bg 0 13 (a7 13 (.take 14 [] (a7 15 .done))))⟩
def HE:af:=⟨aG [0,0,0,0,0,0,48,112,0,0,768,1792,4083,8179,16383,32767],aG [0,0,0,0,0,0,48,64,0,0,768,1024,3,0,12,0],(bg 0 13 (a7 13 (.take 14 [] (a7 15 .done))))⟩
def Lt:af:=⟨aG [0,0,0,6,14,0,0,96,224,511,1023],aG [0,0,0,6,8,0,0,96,128,0,512],(bg 0 9 (a7 9 (.take 10 [] .done)))⟩
def Lu:af:=⟨aG [0,1,0,7,15,31,31,31,31,415,991,2015,31,31,31,24607,57375,127007,258079,524287,1048575,2097151],aG [0,1,0,6,8,16,16,16,16,400,592,1040,16,16,16,24592,32784,69648,131088,0,524304,1048592],(bg 0 19 (a7 19 (bg 20 2 .done)))⟩
def Lv:af:=⟨aG [0,0,0,0,12,30,62,0,0,0,768,1920,3968,8191,16383,32767],aG [0,0,0,0,12,18,32,0,0,0,768,1152,2048,0,8192,16384],(bg 0 13 (a7 13 (bg 14 2 .done)))⟩
def Lw:af:=⟨aG [0,0,0,6,0,0,0,96,0,0,0,1536,3840,7936,0,0,0,98304,245760,507904,1048335,2096911,4194303,8388607],aG [0,0,0,6,0,0,0,96,0,0,0,1536,2304,4096,0,0,0,98304,147456,262144,9,0,144,0],(bg 0 21 (a7 21 (.take 22 [] (a7 23 .done))))⟩
def Lx:af:=⟨aG [0,0,0,6,14,0,0,96,224,511,1023],aG [0,0,0,6,8,0,0,96,128,0,512],(bg 0 9 (a7 9 (.take 10 [] .done)))⟩
def Wq (f r:Nat):Option af:=
  bif Nat.beq f 11 then (bif Nat.beq r 5 then some Pk else none) else
  bif Nat.beq f 15 then (bif Nat.beq r 23 then some Ke else none) else
  bif Nat.beq f 17 then (bif Nat.beq r 8 then some Pl else none) else
  bif Nat.beq f 29 then (bif Nat.beq r 8 then some Pm else none) else
  bif Nat.beq f 31 then (bif Nat.beq r 6 then some Pn else none) else
  bif Nat.beq f 37 then (bif Nat.beq r 6 then some Po else none) else
  bif Nat.beq f 43 then (bif Nat.beq r 15 then some Kf else none) else
  bif Nat.beq f 49 then (bif Nat.beq r 6 then some Pp else none) else
  bif Nat.beq f 50 then (bif Nat.beq r 6 then some Pq else none) else
  bif Nat.beq f 51 then (bif Nat.beq r 6 then some Pr else none) else
  bif Nat.beq f 54 then (bif Nat.beq r 1 then some Ps else none) else
  bif Nat.beq f 55 then (bif Nat.beq r 2 then some Pt else none) else
  bif Nat.beq f 57 then (bif Nat.beq r 15 then some Kg else bif Nat.beq r 18 then some Kh else none) else
  bif Nat.beq f 72 then (bif Nat.beq r 7 then some Pu else none) else
  bif Nat.beq f 79 then (bif Nat.beq r 6 then some Pv else none) else
  bif Nat.beq f 93 then (bif Nat.beq r 5 then some Pw else none) else
  bif Nat.beq f 97 then (bif Nat.beq r 1 then some Px else none) else
  bif Nat.beq f 99 then (bif Nat.beq r 8 then some Py else none) else
  bif Nat.beq f 100 then (bif Nat.beq r 1 then some Ki else bif Nat.beq r 4 then some Kj else bif Nat.beq r 8 then some Kk else bif Nat.beq r 10 then some GP else bif Nat.beq r 14 then some GQ else bif Nat.beq r 15 then some GR else none) else
  bif Nat.beq f 101 then (bif Nat.beq r 2 then some Kl else bif Nat.beq r 6 then some Km else bif Nat.beq r 13 then some GS else none) else
  bif Nat.beq f 107 then (bif Nat.beq r 6 then some Kn else none) else
  bif Nat.beq f 108 then (bif Nat.beq r 1 then some Ko else none) else
  bif Nat.beq f 109 then (bif Nat.beq r 1 then some Kp else none) else
  bif Nat.beq f 115 then (bif Nat.beq r 2 then some Kq else none) else
  bif Nat.beq f 116 then (bif Nat.beq r 1 then some Kr else none) else
  bif Nat.beq f 121 then (bif Nat.beq r 1 then some Ks else none) else
  bif Nat.beq f 125 then (bif Nat.beq r 1 then some Kt else none) else
  bif Nat.beq f 127 then (bif Nat.beq r 1 then some Ku else none) else
  bif Nat.beq f 128 then (bif Nat.beq r 17 then some GU else none) else
  bif Nat.beq f 131 then (bif Nat.beq r 8 then some Kv else none) else
  bif Nat.beq f 141 then (bif Nat.beq r 3 then some Kw else none) else
  bif Nat.beq f 144 then (bif Nat.beq r 1 then some Kx else none) else
  bif Nat.beq f 151 then (bif Nat.beq r 1 then some Ky else none) else
  bif Nat.beq f 157 then (bif Nat.beq r 1 then some Kz else none) else
  bif Nat.beq f 161 then (bif Nat.beq r 4 then some KA else bif Nat.beq r 6 then some KB else none) else
  bif Nat.beq f 162 then (bif Nat.beq r 10 then some GV else none) else
  bif Nat.beq f 163 then (bif Nat.beq r 10 then some GW else none) else
  bif Nat.beq f 165 then (bif Nat.beq r 3 then some KC else none) else
  bif Nat.beq f 166 then (bif Nat.beq r 5 then some KD else bif Nat.beq r 11 then some GX else bif Nat.beq r 16 then some GY else bif Nat.beq r 17 then some GZ else bif Nat.beq r 22 then some G3 else bif Nat.beq r 23 then some G4 else none) else
  bif Nat.beq f 168 then (bif Nat.beq r 1 then some KE else bif Nat.beq r 3 then some KF else bif Nat.beq r 5 then some KG else bif Nat.beq r 8 then some KH else none) else
  bif Nat.beq f 169 then (bif Nat.beq r 1 then some KI else bif Nat.beq r 3 then some KJ else bif Nat.beq r 5 then some KK else bif Nat.beq r 8 then some KL else bif Nat.beq r 10 then some G5 else bif Nat.beq r 13 then some G6 else bif Nat.beq r 15 then some G7 else bif Nat.beq r 18 then some G8 else bif Nat.beq r 21 then some G9 else none) else
  bif Nat.beq f 175 then (bif Nat.beq r 17 then some Ha else none) else
  bif Nat.beq f 177 then (bif Nat.beq r 1 then some KM else none) else
  bif Nat.beq f 178 then (bif Nat.beq r 6 then some KN else bif Nat.beq r 11 then some Hb else none) else
  bif Nat.beq f 192 then (bif Nat.beq r 3 then some KO else none) else
  bif Nat.beq f 196 then (bif Nat.beq r 3 then some KP else bif Nat.beq r 5 then some KQ else bif Nat.beq r 6 then some KR else none) else
  bif Nat.beq f 198 then (bif Nat.beq r 1 then some KS else bif Nat.beq r 2 then some KT else bif Nat.beq r 3 then some KU else none) else
  bif Nat.beq f 201 then (bif Nat.beq r 5 then some KV else bif Nat.beq r 8 then some KW else none) else
  bif Nat.beq f 202 then (bif Nat.beq r 4 then some KX else bif Nat.beq r 6 then some KY else none) else
  bif Nat.beq f 203 then (bif Nat.beq r 10 then some Hc else none) else
  bif Nat.beq f 204 then (bif Nat.beq r 10 then some Hd else none) else
  bif Nat.beq f 206 then (bif Nat.beq r 3 then some KZ else none) else
  bif Nat.beq f 207 then (bif Nat.beq r 5 then some K0 else bif Nat.beq r 11 then some He else bif Nat.beq r 16 then some Hf else bif Nat.beq r 17 then some Hg else bif Nat.beq r 22 then some Hh else bif Nat.beq r 23 then some Hi else none) else
  bif Nat.beq f 208 then (bif Nat.beq r 1 then some K1 else bif Nat.beq r 3 then some K3 else bif Nat.beq r 5 then some K4 else bif Nat.beq r 8 then some K5 else none) else
  bif Nat.beq f 209 then (bif Nat.beq r 1 then some K6 else bif Nat.beq r 3 then some K7 else bif Nat.beq r 5 then some K8 else bif Nat.beq r 8 then some K9 else bif Nat.beq r 10 then some Hj else bif Nat.beq r 13 then some Hk else bif Nat.beq r 15 then some Hl else bif Nat.beq r 18 then some Hm else bif Nat.beq r 21 then some Hn else none) else
  bif Nat.beq f 210 then (bif Nat.beq r 17 then some Ho else none) else
  bif Nat.beq f 213 then (bif Nat.beq r 7 then some La else bif Nat.beq r 8 then some Lb else bif Nat.beq r 9 then some Lc else bif Nat.beq r 10 then some Hp else bif Nat.beq r 17 then some Hq else bif Nat.beq r 18 then some Hr else bif Nat.beq r 23 then some Hs else none) else
  bif Nat.beq f 223 then (bif Nat.beq r 1 then some Ld else none) else
  bif Nat.beq f 224 then (bif Nat.beq r 3 then some Le else bif Nat.beq r 5 then some Lf else bif Nat.beq r 6 then some Lg else none) else
  bif Nat.beq f 227 then (bif Nat.beq r 4 then some Lh else bif Nat.beq r 6 then some Li else none) else
  bif Nat.beq f 228 then (bif Nat.beq r 10 then some Ht else none) else
  bif Nat.beq f 229 then (bif Nat.beq r 10 then some Hu else none) else
  bif Nat.beq f 231 then (bif Nat.beq r 3 then some Lj else none) else
  bif Nat.beq f 232 then (bif Nat.beq r 5 then some Lk else bif Nat.beq r 11 then some Hv else bif Nat.beq r 16 then some Hw else bif Nat.beq r 17 then some Hx else bif Nat.beq r 22 then some Hy else bif Nat.beq r 23 then some Hz else none) else
  bif Nat.beq f 233 then (bif Nat.beq r 1 then some Ll else bif Nat.beq r 3 then some Lm else bif Nat.beq r 5 then some Ln else bif Nat.beq r 8 then some Lo else none) else
  bif Nat.beq f 234 then (bif Nat.beq r 1 then some Lp else bif Nat.beq r 3 then some Lq else bif Nat.beq r 5 then some Lr else bif Nat.beq r 8 then some Ls else bif Nat.beq r 10 then some HA else bif Nat.beq r 13 then some HB else bif Nat.beq r 15 then some HC else bif Nat.beq r 18 then some HD else bif Nat.beq r 21 then some HE else none) else
  bif Nat.beq f 245 then (bif Nat.beq r 1 then some Lt else none) else
  bif Nat.beq f 246 then (bif Nat.beq r 3 then some Lu else bif Nat.beq r 5 then some Lv else bif Nat.beq r 6 then some Lw else none) else
  bif Nat.beq f 253 then (bif Nat.beq r 1 then some Lx else none) else none
def okF (f:Nat):Bool:=Nat.blt f 279&&!(([4,7,9,10,12,13,19,21,22,23,25,41,46,47,59,62,65,66,74,76,88,89,102,104,105,117,118,134,174]:List Nat).any (Nat.beq f))
theorem HF:(List.range 279).all (fun f=>!okF f || match Tryz.prog.funcs[f]? with
  | some fn=>match fn.body with
    | some c=>bj (Wq f) c
    | none=>true
  | none=>true)=true:=by kernel_rfl
theorem Ly (f:FuncId) (fn:Func) (c:Code) (h:okF f=true) (hf:Tryz.prog.funcs[f]?=some fn) (hb:fn.body=some c):bj (Wq f) c=true:=by
  have bT:f < 279:=by
    have:Nat.blt f 279=true:=by
      rw [okF,Bool.and_eq_true] at h
      exact h.1
    exact Nat.le_of_ble_eq_true this
  have h1:=List.all_eq_true.1 HF f (List.mem_range.2 bT)
  rw [h,hf] at h1
  simp only [hb] at h1
  simpa using h1
noncomputable def Te:EI:={ toEnv:=env,dt:=Wq,okF:=okF,Nk:=Ly }
end Go.Proofs.YtldcljfjjoidhaaGreatDoor
