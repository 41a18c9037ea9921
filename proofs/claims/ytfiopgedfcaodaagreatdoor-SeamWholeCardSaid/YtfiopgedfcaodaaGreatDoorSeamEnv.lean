/- The abstract machine's surroundings for this program: its types as a table (printed by a program of ours,checked by the kernel). -/
import Derived.Test.YtfiopgedfcaodaaGreatDoorProg
import Derived.Test.YtfiopgedfcaodaaGreatDoorAmKJ
import Derived.KernelRfl
set_option linter.all false
namespace Go.Proofs.YtfiopgedfcaodaaGreatDoor
open Go Go.Am
set_option maxRecDepth 100000
def tI (k : TK) (n : Nat) (a : Bool) (z : Option AV) (e : EK) : Option TI := some ⟨k, n, a, z, e⟩
def tiT (t : Nat) : Option TI :=
 bif Nat.ble t 163 then
 bif Nat.ble t 81 then
 bif Nat.ble t 40 then
 bif Nat.ble t 19 then
 bif Nat.ble t 9 then
 bif Nat.ble t 4 then
 bif Nat.ble t 1 then
 bif Nat.ble t 0 then
 tI (.sc) 1 false (some (.bH [])) (.no)
 else
 tI (.sc) 1 false (some (.cu)) (.no)
 else
 bif Nat.ble t 2 then
 tI (.int .i64) 1 false (some (.int .i64 0)) (.int)
 else
 bif Nat.ble t 3 then
 tI (.int .i64) 1 false (some (.int .i64 0)) (.int)
 else
 tI (.sc) 1 false (some (.bool false)) (.bool)
 else
 bif Nat.ble t 6 then
 bif Nat.ble t 5 then
 tI (.int .u8) 1 false (some (.int .u8 0)) (.int)
 else
 tI (.int .u8) 1 false (some (.int .u8 0)) (.int)
 else
 bif Nat.ble t 7 then
 tI (.st [(0,1,false),(1,1,false),(2,1,false),(3,1,false)]) 4 true (some (.agg [.int .i64 0,.int .i64 0,.bool false,.int .u8 0])) ((.st (.cons 0 1 false .int (.cons 1 1 false .int (.cons 2 1 false .bool (.cons 3 1 false .int .nil))))))
 else
 bif Nat.ble t 8 then
 tI (.st [(0,1,false),(1,1,false),(2,1,false),(3,1,false)]) 4 true (some (.agg [.int .i64 0,.int .i64 0,.bool false,.int .u8 0])) ((.st (.cons 0 1 false .int (.cons 1 1 false .int (.cons 2 1 false .bool (.cons 3 1 false .int .nil))))))
 else
 tI (.str) 1 false (some (.str [])) (.str)
 else
 bif Nat.ble t 14 then
 bif Nat.ble t 11 then
 bif Nat.ble t 10 then
 tI (.str) 1 false (some (.str [])) (.str)
 else
 tI (.str) 1 false (some (.str [])) (.str)
 else
 bif Nat.ble t 12 then
 tI (.int .u64) 1 false (some (.int .u64 0)) (.int)
 else
 none
 else
 bif Nat.ble t 16 then
 bif Nat.ble t 15 then
 tI (.sc) 1 false (some (.kL)) (.no)
 else
 tI (.sc) 1 false (some (.kL)) (.no)
 else
 none
 else
 bif Nat.ble t 29 then
 bif Nat.ble t 24 then
 bif Nat.ble t 21 then
 bif Nat.ble t 20 then
 tI (.sc) 1 false (some (.nU)) (.no)
 else
 none
 else
 bif Nat.ble t 22 then
 tI (.sl 46 2 true 16 (some (.agg [.int .i64 0,.int .i64 0]))) 1 false (some (.list .nil 0 [])) (.no)
 else
 bif Nat.ble t 23 then
 none
 else
 tI (.int .i64) 1 false (some (.int .i64 0)) (.int)
 else
 bif Nat.ble t 26 then
 bif Nat.ble t 25 then
 tI (.sc) 1 false (some (.bH [.list .nil 0 [],.int .i64 0])) (.no)
 else
 none
 else
 bif Nat.ble t 27 then
 tI (.st [(0,1,false),(1,1,false)]) 2 true (some (.agg [.int .i64 0,.int .i64 0])) ((.st (.cons 0 1 false .int (.cons 1 1 false .int .nil))))
 else
 bif Nat.ble t 28 then
 tI (.st [(0,1,false),(1,1,false)]) 2 true (some (.agg [.int .i64 0,.int .i64 0])) ((.st (.cons 0 1 false .int (.cons 1 1 false .int .nil))))
 else
 tI (.sc) 1 false (none) (.no)
 else
 bif Nat.ble t 34 then
 bif Nat.ble t 31 then
 none
 else
 bif Nat.ble t 32 then
 tI (.sc) 1 false (some (.cu)) (.no)
 else
 none
 else
 bif Nat.ble t 37 then
 bif Nat.ble t 35 then
 none
 else
 bif Nat.ble t 36 then
 tI (.sc) 1 false (some (.cu)) (.no)
 else
 none
 else
 none
 else
 bif Nat.ble t 60 then
 bif Nat.ble t 50 then
 bif Nat.ble t 45 then
 bif Nat.ble t 42 then
 none
 else
 bif Nat.ble t 43 then
 none
 else
 bif Nat.ble t 44 then
 none
 else
 tI (.sl 3 1 false 8 (some (.int .i64 0))) 1 false (some (.list .nil 0 [])) (.no)
 else
 bif Nat.ble t 47 then
 bif Nat.ble t 46 then
 tI (.arr 2 1 false) 2 true (some (.agg [.int .i64 0,.int .i64 0])) ((.st (.cons 0 1 false .int (.cons 1 1 false .int .nil))))
 else
 tI (.sc) 1 false (some (.cu)) (.no)
 else
 bif Nat.ble t 48 then
 tI (.sc) 1 false (some (.cu)) (.no)
 else
 bif Nat.ble t 49 then
 tI (.sc) 1 false (some (.cu)) (.no)
 else
 tI (.sl 115 1 false 24 (some (.list .nil 0 []))) 1 false (some (.list .nil 0 [])) (.no)
 else
 bif Nat.ble t 55 then
 bif Nat.ble t 52 then
 bif Nat.ble t 51 then
 tI (.sl 129 6 true 48 (some (.agg [.int .i64 0,.int .i64 0,.int .i64 0,.int .i64 0,.int .i64 0,.int .i64 0]))) 1 false (some (.list .nil 0 [])) (.no)
 else
 tI (.sc) 1 false (some (.cu)) (.no)
 else
 bif Nat.ble t 53 then
 tI (.sl 94 3 true 24 (some (.agg [.int .i64 0,.int .i64 0,.int .i64 0]))) 1 false (some (.list .nil 0 [])) (.no)
 else
 bif Nat.ble t 54 then
 tI (.sc) 1 false (some (.bH [.list .nil 0 [],.int .i64 0])) (.no)
 else
 tI (.sc) 1 false (some (.cu)) (.no)
 else
 bif Nat.ble t 57 then
 bif Nat.ble t 56 then
 tI (.sc) 1 false (some (.cu)) (.no)
 else
 tI (.sl 127 6 true 48 (some (.agg [.int .i64 0,.int .i64 0,.int .i64 0,.int .i64 0,.int .i64 0,.int .i64 0]))) 1 false (some (.list .nil 0 [])) (.no)
 else
 bif Nat.ble t 58 then
 tI (.sc) 1 false (some (.cu)) (.no)
 else
 bif Nat.ble t 59 then
 tI (.sc) 1 false (some (.bH [.list .nil 0 [],.int .i64 0])) (.no)
 else
 none
 else
 bif Nat.ble t 70 then
 bif Nat.ble t 65 then
 bif Nat.ble t 62 then
 none
 else
 bif Nat.ble t 63 then
 tI (.sl 89 3 true 24 (some (.agg [.int .i64 0,.int .i64 0,.int .i64 0]))) 1 false (some (.list .nil 0 [])) (.no)
 else
 bif Nat.ble t 64 then
 tI (.sc) 1 false (some (.cu)) (.no)
 else
 tI (.sc) 1 false (some (.bH [.list .nil 0 [],.int .i64 0])) (.no)
 else
 bif Nat.ble t 67 then
 bif Nat.ble t 66 then
 tI (.sc) 1 false (some (.cu)) (.no)
 else
 none
 else
 bif Nat.ble t 68 then
 none
 else
 bif Nat.ble t 69 then
 none
 else
 tI (.sc) 1 false (some (.cu)) (.no)
 else
 bif Nat.ble t 75 then
 bif Nat.ble t 72 then
 bif Nat.ble t 71 then
 tI (.sc) 1 false (some (.cu)) (.no)
 else
 none
 else
 bif Nat.ble t 73 then
 tI (.sc) 1 false (some (.cu)) (.no)
 else
 bif Nat.ble t 74 then
 tI (.sl 53 1 false 24 (some (.list .nil 0 []))) 1 false (some (.list .nil 0 [])) (.no)
 else
 none
 else
 bif Nat.ble t 78 then
 bif Nat.ble t 76 then
 tI (.st [(0,1,false),(1,1,false)]) 2 true (some (.agg [.list .nil 0 [],.list .nil 0 []])) ((.st (.cons 0 1 false .no (.cons 1 1 false .no .nil))))
 else
 bif Nat.ble t 77 then
 tI (.sc) 1 false (none) (.no)
 else
 none
 else
 bif Nat.ble t 79 then
 tI (.sl 63 1 false 24 (some (.list .nil 0 []))) 1 false (some (.list .nil 0 [])) (.no)
 else
 bif Nat.ble t 80 then
 none
 else
 tI (.st [(0,1,false),(1,1,false)]) 2 true (some (.agg [.list .nil 0 [],.list .nil 0 []])) ((.st (.cons 0 1 false .no (.cons 1 1 false .no .nil))))
 else
 bif Nat.ble t 122 then
 bif Nat.ble t 101 then
 bif Nat.ble t 91 then
 bif Nat.ble t 86 then
 none
 else
 bif Nat.ble t 88 then
 bif Nat.ble t 87 then
 tI (.st [(0,1,false),(1,1,false)]) 2 true (some (.agg [.int .i64 0,.int .i64 0])) ((.st (.cons 0 1 false .int (.cons 1 1 false .int .nil))))
 else
 none
 else
 bif Nat.ble t 89 then
 tI (.st [(0,1,false),(1,2,true)]) 3 true (some (.agg [.int .i64 0,.int .i64 0,.int .i64 0])) ((.st (.cons 0 1 false .int (.cons 1 2 true (.st (.cons 0 1 false .int (.cons 1 1 false .int .nil))) .nil))))
 else
 bif Nat.ble t 90 then
 none
 else
 tI (.sc) 1 false (some (.bH [.int .i64 0,.int .i64 0])) (.no)
 else
 bif Nat.ble t 96 then
 bif Nat.ble t 93 then
 none
 else
 bif Nat.ble t 94 then
 tI (.st [(0,1,false),(1,2,true)]) 3 true (some (.agg [.int .i64 0,.int .i64 0,.int .i64 0])) ((.st (.cons 0 1 false .int (.cons 1 2 true (.st (.cons 0 1 false .int (.cons 1 1 false .int .nil))) .nil))))
 else
 bif Nat.ble t 95 then
 tI (.sc) 1 false (some (.bH [.list .nil 0 [],.int .i64 0])) (.no)
 else
 none
 else
 bif Nat.ble t 98 then
 bif Nat.ble t 97 then
 tI (.st [(0,1,false),(1,1,false),(2,1,false),(3,1,false)]) 4 true (some (.agg [.int .i64 0,.int .i64 0,.int .i64 0,.int .i64 0])) ((.st (.cons 0 1 false .int (.cons 1 1 false .int (.cons 2 1 false .int (.cons 3 1 false .int .nil))))))
 else
 tI (.st [(0,1,false),(1,1,false),(2,1,false),(3,1,false)]) 4 true (some (.agg [.int .i64 0,.int .i64 0,.int .i64 0,.int .i64 0])) ((.st (.cons 0 1 false .int (.cons 1 1 false .int (.cons 2 1 false .int (.cons 3 1 false .int .nil))))))
 else
 bif Nat.ble t 99 then
 tI (.sc) 1 false (none) (.no)
 else
 bif Nat.ble t 100 then
 tI (.sc) 1 false (some (.cu)) (.no)
 else
 tI (.sc) 1 false (some (.cu)) (.no)
 else
 bif Nat.ble t 111 then
 bif Nat.ble t 106 then
 bif Nat.ble t 103 then
 bif Nat.ble t 102 then
 tI (.st [(0,1,false),(1,1,false),(2,1,false),(3,1,false)]) 4 true (some (.agg [.int .i64 0,.int .i64 0,.int .i64 0,.int .i64 0])) ((.st (.cons 0 1 false .int (.cons 1 1 false .int (.cons 2 1 false .int (.cons 3 1 false .int .nil))))))
 else
 tI (.sc) 1 false (some (.bH [.int .i64 0,.int .i64 0])) (.no)
 else
 bif Nat.ble t 104 then
 tI (.sc) 1 false (some (.cu)) (.no)
 else
 bif Nat.ble t 105 then
 tI (.sc) 1 false (some (.cu)) (.no)
 else
 tI (.sc) 1 false (some (.cu)) (.no)
 else
 bif Nat.ble t 108 then
 bif Nat.ble t 107 then
 tI (.sc) 1 false (some (.cu)) (.no)
 else
 tI (.sc) 1 false (some (.cu)) (.no)
 else
 bif Nat.ble t 109 then
 tI (.map 3 3 (some (.int .i64 0))) 1 false (some (.jS)) (.no)
 else
 bif Nat.ble t 110 then
 tI (.arr 2 1 false) 2 true (some (.agg [.jS,.jS])) ((.st (.cons 0 1 false .no (.cons 1 1 false .no .nil))))
 else
 tI (.sc) 1 false (some (.cu)) (.no)
 else
 bif Nat.ble t 116 then
 bif Nat.ble t 113 then
 bif Nat.ble t 112 then
 tI (.sc) 1 false (some (.bH [.bool false,.int .i64 0])) (.no)
 else
 tI (.sc) 1 false (some (.cu)) (.no)
 else
 bif Nat.ble t 114 then
 tI (.sc) 1 false (some (.cu)) (.no)
 else
 bif Nat.ble t 115 then
 tI (.sl 120 3 true 24 (some (.agg [.int .i64 0,.int .i64 0,.int .i64 0]))) 1 false (some (.list .nil 0 [])) (.no)
 else
 tI (.int .u16) 1 false (some (.int .u16 0)) (.int)
 else
 bif Nat.ble t 119 then
 bif Nat.ble t 117 then
 tI (.sc) 1 false (some (.cu)) (.no)
 else
 bif Nat.ble t 118 then
 tI (.arr 2 1 false) 2 true (some (.agg [.list .nil 0 [],.list .nil 0 []])) ((.st (.cons 0 1 false .no (.cons 1 1 false .no .nil))))
 else
 tI (.st [(0,1,false),(1,1,false),(2,1,false)]) 3 true (some (.agg [.int .i64 0,.int .i64 0,.int .i64 0])) ((.st (.cons 0 1 false .int (.cons 1 1 false .int (.cons 2 1 false .int .nil)))))
 else
 bif Nat.ble t 120 then
 tI (.st [(0,1,false),(1,1,false),(2,1,false)]) 3 true (some (.agg [.int .i64 0,.int .i64 0,.int .i64 0])) ((.st (.cons 0 1 false .int (.cons 1 1 false .int (.cons 2 1 false .int .nil)))))
 else
 bif Nat.ble t 121 then
 tI (.sl 87 2 true 16 (some (.agg [.int .i64 0,.int .i64 0]))) 1 false (some (.list .nil 0 [])) (.no)
 else
 tI (.sc) 1 false (some (.cu)) (.no)
 else
 bif Nat.ble t 142 then
 bif Nat.ble t 132 then
 bif Nat.ble t 127 then
 bif Nat.ble t 124 then
 bif Nat.ble t 123 then
 tI (.sc) 1 false (some (.cu)) (.no)
 else
 none
 else
 bif Nat.ble t 125 then
 none
 else
 bif Nat.ble t 126 then
 none
 else
 tI (.st [(0,3,true),(3,3,true)]) 6 true (some (.agg [.int .i64 0,.int .i64 0,.int .i64 0,.int .i64 0,.int .i64 0,.int .i64 0])) ((.st (.cons 0 3 true (.st (.cons 0 1 false .int (.cons 1 2 true (.st (.cons 0 1 false .int (.cons 1 1 false .int .nil))) .nil))) (.cons 3 3 true (.st (.cons 0 1 false .int (.cons 1 2 true (.st (.cons 0 1 false .int (.cons 1 1 false .int .nil))) .nil))) .nil))))
 else
 bif Nat.ble t 129 then
 bif Nat.ble t 128 then
 none
 else
 tI (.st [(0,3,true),(3,3,true)]) 6 true (some (.agg [.int .i64 0,.int .i64 0,.int .i64 0,.int .i64 0,.int .i64 0,.int .i64 0])) ((.st (.cons 0 3 true (.st (.cons 0 1 false .int (.cons 1 2 true (.st (.cons 0 1 false .int (.cons 1 1 false .int .nil))) .nil))) (.cons 3 3 true (.st (.cons 0 1 false .int (.cons 1 2 true (.st (.cons 0 1 false .int (.cons 1 1 false .int .nil))) .nil))) .nil))))
 else
 bif Nat.ble t 130 then
 tI (.sc) 1 false (some (.bH [.list .nil 0 [],.int .i64 0])) (.no)
 else
 bif Nat.ble t 131 then
 none
 else
 tI (.sc) 1 false (some (.cu)) (.no)
 else
 none
 else
 bif Nat.ble t 152 then
 bif Nat.ble t 147 then
 bif Nat.ble t 144 then
 none
 else
 bif Nat.ble t 145 then
 tI (.sc) 1 false (some (.cu)) (.no)
 else
 none
 else
 bif Nat.ble t 149 then
 bif Nat.ble t 148 then
 tI (.sc) 1 false (some (.bH [.str [],.int .i64 0])) (.no)
 else
 none
 else
 none
 else
 bif Nat.ble t 157 then
 bif Nat.ble t 154 then
 none
 else
 bif Nat.ble t 155 then
 none
 else
 bif Nat.ble t 156 then
 none
 else
 tI (.sc) 1 false (some (.cu)) (.no)
 else
 bif Nat.ble t 160 then
 bif Nat.ble t 158 then
 tI (.sc) 1 false (some (.cu)) (.no)
 else
 none
 else
 none
 else
 bif Nat.ble t 245 then
 bif Nat.ble t 204 then
 bif Nat.ble t 183 then
 bif Nat.ble t 173 then
 bif Nat.ble t 168 then
 bif Nat.ble t 165 then
 bif Nat.ble t 164 then
 none
 else
 tI (.sc) 1 false (some (.cu)) (.no)
 else
 bif Nat.ble t 166 then
 none
 else
 bif Nat.ble t 167 then
 tI (.sc) 1 false (some (.cu)) (.no)
 else
 none
 else
 bif Nat.ble t 170 then
 bif Nat.ble t 169 then
 tI (.map 3 45 (some (.list .nil 0 []))) 1 false (some (.jS)) (.no)
 else
 none
 else
 bif Nat.ble t 171 then
 tI (.sc) 1 false (some (.cu)) (.no)
 else
 none
 else
 bif Nat.ble t 178 then
 bif Nat.ble t 175 then
 bif Nat.ble t 174 then
 tI (.sc) 1 false (some (.cu)) (.no)
 else
 none
 else
 bif Nat.ble t 176 then
 none
 else
 bif Nat.ble t 177 then
 tI (.map 94 4 (some (.bool false))) 1 false (some (.jS)) (.no)
 else
 none
 else
 bif Nat.ble t 180 then
 bif Nat.ble t 179 then
 none
 else
 tI (.sc) 1 false (some (.cu)) (.no)
 else
 bif Nat.ble t 181 then
 tI (.sc) 1 false (some (.bH [.int .i64 0,.bool false])) (.no)
 else
 bif Nat.ble t 182 then
 none
 else
 tI (.sc) 1 false (some (.cu)) (.no)
 else
 bif Nat.ble t 193 then
 bif Nat.ble t 188 then
 bif Nat.ble t 185 then
 none
 else
 bif Nat.ble t 186 then
 none
 else
 bif Nat.ble t 187 then
 none
 else
 tI (.sl 24 1 false 8 (some (.int .i64 0))) 1 false (some (.list .nil 0 [])) (.no)
 else
 bif Nat.ble t 190 then
 bif Nat.ble t 189 then
 none
 else
 tI (.sc) 1 false (some (.cu)) (.no)
 else
 bif Nat.ble t 191 then
 tI (.map 94 3 (some (.int .i64 0))) 1 false (some (.jS)) (.no)
 else
 bif Nat.ble t 192 then
 none
 else
 tI (.sc) 1 false (some (.cu)) (.no)
 else
 bif Nat.ble t 198 then
 bif Nat.ble t 195 then
 bif Nat.ble t 194 then
 none
 else
 tI (.sc) 1 false (some (.cu)) (.no)
 else
 bif Nat.ble t 196 then
 tI (.sl 3 1 false 8 (some (.int .i64 0))) 1 false (some (.list .nil 0 [])) (.no)
 else
 none
 else
 bif Nat.ble t 201 then
 bif Nat.ble t 199 then
 tI (.arr 2 2 true) 4 true (some (.agg [.int .i64 0,.int .i64 0,.int .i64 0,.int .i64 0])) ((.st (.cons 0 2 true (.st (.cons 0 1 false .int (.cons 1 1 false .int .nil))) (.cons 2 2 true (.st (.cons 0 1 false .int (.cons 1 1 false .int .nil))) .nil))))
 else
 none
 else
 none
 else
 bif Nat.ble t 224 then
 bif Nat.ble t 214 then
 bif Nat.ble t 209 then
 bif Nat.ble t 206 then
 none
 else
 bif Nat.ble t 207 then
 tI (.sc) 1 false (some (.cu)) (.no)
 else
 none
 else
 none
 else
 bif Nat.ble t 219 then
 bif Nat.ble t 216 then
 none
 else
 bif Nat.ble t 217 then
 none
 else
 bif Nat.ble t 218 then
 tI (.sc) 1 false (some (.cu)) (.no)
 else
 tI (.arr 8 2 true) 16 true (some (.agg [.int .i64 0,.int .i64 0,.int .i64 0,.int .i64 0,.int .i64 0,.int .i64 0,.int .i64 0,.int .i64 0,.int .i64 0,.int .i64 0,.int .i64 0,.int .i64 0,.int .i64 0,.int .i64 0,.int .i64 0,.int .i64 0])) ((.st (.cons 0 2 true (.st (.cons 0 1 false .int (.cons 1 1 false .int .nil))) (.cons 2 2 true (.st (.cons 0 1 false .int (.cons 1 1 false .int .nil))) (.cons 4 2 true (.st (.cons 0 1 false .int (.cons 1 1 false .int .nil))) (.cons 6 2 true (.st (.cons 0 1 false .int (.cons 1 1 false .int .nil))) (.cons 8 2 true (.st (.cons 0 1 false .int (.cons 1 1 false .int .nil))) (.cons 10 2 true (.st (.cons 0 1 false .int (.cons 1 1 false .int .nil))) (.cons 12 2 true (.st (.cons 0 1 false .int (.cons 1 1 false .int .nil))) (.cons 14 2 true (.st (.cons 0 1 false .int (.cons 1 1 false .int .nil))) .nil))))))))))
 else
 bif Nat.ble t 221 then
 bif Nat.ble t 220 then
 tI (.sl 9 1 false 16 (some (.str []))) 1 false (some (.list .nil 0 [])) (.no)
 else
 none
 else
 none
 else
 bif Nat.ble t 234 then
 bif Nat.ble t 229 then
 none
 else
 bif Nat.ble t 231 then
 bif Nat.ble t 230 then
 none
 else
 tI (.sc) 1 false (some (.cu)) (.no)
 else
 bif Nat.ble t 232 then
 none
 else
 bif Nat.ble t 233 then
 none
 else
 tI (.int .u64) 1 false (some (.int .u64 0)) (.int)
 else
 bif Nat.ble t 239 then
 bif Nat.ble t 236 then
 none
 else
 bif Nat.ble t 237 then
 none
 else
 bif Nat.ble t 238 then
 tI (.sc) 1 false (some (.cu)) (.no)
 else
 none
 else
 none
 else
 bif Nat.ble t 286 then
 bif Nat.ble t 265 then
 bif Nat.ble t 255 then
 bif Nat.ble t 250 then
 bif Nat.ble t 247 then
 bif Nat.ble t 246 then
 none
 else
 tI (.sc) 1 false (some (.kL)) (.no)
 else
 bif Nat.ble t 248 then
 tI (.sl 5 1 false 1 (some (.int .u8 0))) 1 false (some (.list .nil 0 [])) (.no)
 else
 bif Nat.ble t 249 then
 none
 else
 tI (.st [(0,1,false),(1,1,false)]) 2 true (some (.agg [.kL,.list .nil 0 []])) ((.st (.cons 0 1 false .no (.cons 1 1 false .no .nil))))
 else
 bif Nat.ble t 252 then
 none
 else
 bif Nat.ble t 253 then
 tI (.sc) 1 false (some (.nU)) (.no)
 else
 bif Nat.ble t 254 then
 tI (.sc) 1 false (some (.bH [.int .i64 0,.nU])) (.no)
 else
 tI (.sc) 1 false (some (.cu)) (.no)
 else
 bif Nat.ble t 260 then
 bif Nat.ble t 257 then
 bif Nat.ble t 256 then
 tI (.sc) 1 false (some (.cu)) (.no)
 else
 none
 else
 none
 else
 none
 else
 bif Nat.ble t 275 then
 bif Nat.ble t 270 then
 bif Nat.ble t 267 then
 bif Nat.ble t 266 then
 none
 else
 tI (.int .u32) 1 false (some (.int .u32 0)) (.int)
 else
 bif Nat.ble t 268 then
 none
 else
 bif Nat.ble t 269 then
 tI (.int .u64) 1 false (some (.int .u64 0)) (.int)
 else
 none
 else
 bif Nat.ble t 272 then
 bif Nat.ble t 271 then
 tI (.sc) 1 false (some (.kL)) (.no)
 else
 none
 else
 none
 else
 bif Nat.ble t 280 then
 none
 else
 bif Nat.ble t 283 then
 bif Nat.ble t 281 then
 tI (.sc) 1 false (some (.cu)) (.no)
 else
 bif Nat.ble t 282 then
 none
 else
 tI (.arr 24 1 false) 24 true (some (.agg [.int .u8 0,.int .u8 0,.int .u8 0,.int .u8 0,.int .u8 0,.int .u8 0,.int .u8 0,.int .u8 0,.int .u8 0,.int .u8 0,.int .u8 0,.int .u8 0,.int .u8 0,.int .u8 0,.int .u8 0,.int .u8 0,.int .u8 0,.int .u8 0,.int .u8 0,.int .u8 0,.int .u8 0,.int .u8 0,.int .u8 0,.int .u8 0])) ((.st (.cons 0 1 false .int (.cons 1 1 false .int (.cons 2 1 false .int (.cons 3 1 false .int (.cons 4 1 false .int (.cons 5 1 false .int (.cons 6 1 false .int (.cons 7 1 false .int (.cons 8 1 false .int (.cons 9 1 false .int (.cons 10 1 false .int (.cons 11 1 false .int (.cons 12 1 false .int (.cons 13 1 false .int (.cons 14 1 false .int (.cons 15 1 false .int (.cons 16 1 false .int (.cons 17 1 false .int (.cons 18 1 false .int (.cons 19 1 false .int (.cons 20 1 false .int (.cons 21 1 false .int (.cons 22 1 false .int (.cons 23 1 false .int .nil))))))))))))))))))))))))))
 else
 bif Nat.ble t 284 then
 none
 else
 bif Nat.ble t 285 then
 tI (.sc) 1 false (some (.bH [.list .nil 0 [],.str []])) (.no)
 else
 none
 else
 bif Nat.ble t 306 then
 bif Nat.ble t 296 then
 bif Nat.ble t 291 then
 bif Nat.ble t 288 then
 bif Nat.ble t 287 then
 tI (.sc) 1 false (some (.kL)) (.no)
 else
 none
 else
 none
 else
 none
 else
 bif Nat.ble t 301 then
 bif Nat.ble t 298 then
 bif Nat.ble t 297 then
 tI (.arr 20 1 false) 20 true (some (.agg [.int .u64 0,.int .u64 0,.int .u64 0,.int .u64 0,.int .u64 0,.int .u64 0,.int .u64 0,.int .u64 0,.int .u64 0,.int .u64 0,.int .u64 0,.int .u64 0,.int .u64 0,.int .u64 0,.int .u64 0,.int .u64 0,.int .u64 0,.int .u64 0,.int .u64 0,.int .u64 0])) ((.st (.cons 0 1 false .int (.cons 1 1 false .int (.cons 2 1 false .int (.cons 3 1 false .int (.cons 4 1 false .int (.cons 5 1 false .int (.cons 6 1 false .int (.cons 7 1 false .int (.cons 8 1 false .int (.cons 9 1 false .int (.cons 10 1 false .int (.cons 11 1 false .int (.cons 12 1 false .int (.cons 13 1 false .int (.cons 14 1 false .int (.cons 15 1 false .int (.cons 16 1 false .int (.cons 17 1 false .int (.cons 18 1 false .int (.cons 19 1 false .int .nil))))))))))))))))))))))
 else
 tI (.arr 65 1 false) 65 true (some (.agg [.int .u8 0,.int .u8 0,.int .u8 0,.int .u8 0,.int .u8 0,.int .u8 0,.int .u8 0,.int .u8 0,.int .u8 0,.int .u8 0,.int .u8 0,.int .u8 0,.int .u8 0,.int .u8 0,.int .u8 0,.int .u8 0,.int .u8 0,.int .u8 0,.int .u8 0,.int .u8 0,.int .u8 0,.int .u8 0,.int .u8 0,.int .u8 0,.int .u8 0,.int .u8 0,.int .u8 0,.int .u8 0,.int .u8 0,.int .u8 0,.int .u8 0,.int .u8 0,.int .u8 0,.int .u8 0,.int .u8 0,.int .u8 0,.int .u8 0,.int .u8 0,.int .u8 0,.int .u8 0,.int .u8 0,.int .u8 0,.int .u8 0,.int .u8 0,.int .u8 0,.int .u8 0,.int .u8 0,.int .u8 0,.int .u8 0,.int .u8 0,.int .u8 0,.int .u8 0,.int .u8 0,.int .u8 0,.int .u8 0,.int .u8 0,.int .u8 0,.int .u8 0,.int .u8 0,.int .u8 0,.int .u8 0,.int .u8 0,.int .u8 0,.int .u8 0,.int .u8 0])) ((.st (.cons 0 1 false .int (.cons 1 1 false .int (.cons 2 1 false .int (.cons 3 1 false .int (.cons 4 1 false .int (.cons 5 1 false .int (.cons 6 1 false .int (.cons 7 1 false .int (.cons 8 1 false .int (.cons 9 1 false .int (.cons 10 1 false .int (.cons 11 1 false .int (.cons 12 1 false .int (.cons 13 1 false .int (.cons 14 1 false .int (.cons 15 1 false .int (.cons 16 1 false .int (.cons 17 1 false .int (.cons 18 1 false .int (.cons 19 1 false .int (.cons 20 1 false .int (.cons 21 1 false .int (.cons 22 1 false .int (.cons 23 1 false .int (.cons 24 1 false .int (.cons 25 1 false .int (.cons 26 1 false .int (.cons 27 1 false .int (.cons 28 1 false .int (.cons 29 1 false .int (.cons 30 1 false .int (.cons 31 1 false .int (.cons 32 1 false .int (.cons 33 1 false .int (.cons 34 1 false .int (.cons 35 1 false .int (.cons 36 1 false .int (.cons 37 1 false .int (.cons 38 1 false .int (.cons 39 1 false .int (.cons 40 1 false .int (.cons 41 1 false .int (.cons 42 1 false .int (.cons 43 1 false .int (.cons 44 1 false .int (.cons 45 1 false .int (.cons 46 1 false .int (.cons 47 1 false .int (.cons 48 1 false .int (.cons 49 1 false .int (.cons 50 1 false .int (.cons 51 1 false .int (.cons 52 1 false .int (.cons 53 1 false .int (.cons 54 1 false .int (.cons 55 1 false .int (.cons 56 1 false .int (.cons 57 1 false .int (.cons 58 1 false .int (.cons 59 1 false .int (.cons 60 1 false .int (.cons 61 1 false .int (.cons 62 1 false .int (.cons 63 1 false .int (.cons 64 1 false .int .nil)))))))))))))))))))))))))))))))))))))))))))))))))))))))))))))))))))
 else
 none
 else
 none
 else
 bif Nat.ble t 316 then
 bif Nat.ble t 311 then
 none
 else
 bif Nat.ble t 313 then
 bif Nat.ble t 312 then
 tI (.arr 32 1 false) 32 true (some (.agg [.int .u8 0,.int .u8 0,.int .u8 0,.int .u8 0,.int .u8 0,.int .u8 0,.int .u8 0,.int .u8 0,.int .u8 0,.int .u8 0,.int .u8 0,.int .u8 0,.int .u8 0,.int .u8 0,.int .u8 0,.int .u8 0,.int .u8 0,.int .u8 0,.int .u8 0,.int .u8 0,.int .u8 0,.int .u8 0,.int .u8 0,.int .u8 0,.int .u8 0,.int .u8 0,.int .u8 0,.int .u8 0,.int .u8 0,.int .u8 0,.int .u8 0,.int .u8 0])) ((.st (.cons 0 1 false .int (.cons 1 1 false .int (.cons 2 1 false .int (.cons 3 1 false .int (.cons 4 1 false .int (.cons 5 1 false .int (.cons 6 1 false .int (.cons 7 1 false .int (.cons 8 1 false .int (.cons 9 1 false .int (.cons 10 1 false .int (.cons 11 1 false .int (.cons 12 1 false .int (.cons 13 1 false .int (.cons 14 1 false .int (.cons 15 1 false .int (.cons 16 1 false .int (.cons 17 1 false .int (.cons 18 1 false .int (.cons 19 1 false .int (.cons 20 1 false .int (.cons 21 1 false .int (.cons 22 1 false .int (.cons 23 1 false .int (.cons 24 1 false .int (.cons 25 1 false .int (.cons 26 1 false .int (.cons 27 1 false .int (.cons 28 1 false .int (.cons 29 1 false .int (.cons 30 1 false .int (.cons 31 1 false .int .nil))))))))))))))))))))))))))))))))))
 else
 tI (.arr 64 1 false) 64 true (some (.agg [.int .u8 0,.int .u8 0,.int .u8 0,.int .u8 0,.int .u8 0,.int .u8 0,.int .u8 0,.int .u8 0,.int .u8 0,.int .u8 0,.int .u8 0,.int .u8 0,.int .u8 0,.int .u8 0,.int .u8 0,.int .u8 0,.int .u8 0,.int .u8 0,.int .u8 0,.int .u8 0,.int .u8 0,.int .u8 0,.int .u8 0,.int .u8 0,.int .u8 0,.int .u8 0,.int .u8 0,.int .u8 0,.int .u8 0,.int .u8 0,.int .u8 0,.int .u8 0,.int .u8 0,.int .u8 0,.int .u8 0,.int .u8 0,.int .u8 0,.int .u8 0,.int .u8 0,.int .u8 0,.int .u8 0,.int .u8 0,.int .u8 0,.int .u8 0,.int .u8 0,.int .u8 0,.int .u8 0,.int .u8 0,.int .u8 0,.int .u8 0,.int .u8 0,.int .u8 0,.int .u8 0,.int .u8 0,.int .u8 0,.int .u8 0,.int .u8 0,.int .u8 0,.int .u8 0,.int .u8 0,.int .u8 0,.int .u8 0,.int .u8 0,.int .u8 0])) ((.st (.cons 0 1 false .int (.cons 1 1 false .int (.cons 2 1 false .int (.cons 3 1 false .int (.cons 4 1 false .int (.cons 5 1 false .int (.cons 6 1 false .int (.cons 7 1 false .int (.cons 8 1 false .int (.cons 9 1 false .int (.cons 10 1 false .int (.cons 11 1 false .int (.cons 12 1 false .int (.cons 13 1 false .int (.cons 14 1 false .int (.cons 15 1 false .int (.cons 16 1 false .int (.cons 17 1 false .int (.cons 18 1 false .int (.cons 19 1 false .int (.cons 20 1 false .int (.cons 21 1 false .int (.cons 22 1 false .int (.cons 23 1 false .int (.cons 24 1 false .int (.cons 25 1 false .int (.cons 26 1 false .int (.cons 27 1 false .int (.cons 28 1 false .int (.cons 29 1 false .int (.cons 30 1 false .int (.cons 31 1 false .int (.cons 32 1 false .int (.cons 33 1 false .int (.cons 34 1 false .int (.cons 35 1 false .int (.cons 36 1 false .int (.cons 37 1 false .int (.cons 38 1 false .int (.cons 39 1 false .int (.cons 40 1 false .int (.cons 41 1 false .int (.cons 42 1 false .int (.cons 43 1 false .int (.cons 44 1 false .int (.cons 45 1 false .int (.cons 46 1 false .int (.cons 47 1 false .int (.cons 48 1 false .int (.cons 49 1 false .int (.cons 50 1 false .int (.cons 51 1 false .int (.cons 52 1 false .int (.cons 53 1 false .int (.cons 54 1 false .int (.cons 55 1 false .int (.cons 56 1 false .int (.cons 57 1 false .int (.cons 58 1 false .int (.cons 59 1 false .int (.cons 60 1 false .int (.cons 61 1 false .int (.cons 62 1 false .int (.cons 63 1 false .int .nil))))))))))))))))))))))))))))))))))))))))))))))))))))))))))))))))))
 else
 none
 else
 none
def XP (t:Nat):Option TI:=bif Nat.ble 328 t then none else tiT t
theorem Oc:(List.range 328).map (fun t=>match XP t with | none=>none | some _=>HS Tryz.prog t)=(List.range 328).map XP:=by kernel_rfl
theorem HT (t:TypeId) (i:TI) (h:XP t=some i):HS Tryz.prog t=some i:=by
  by_cases ht:t < 328
  · have h1:=congrArg (fun l=>l[t]?) Oc
    simp only [List.getElem?_map,List.getElem?_range ht,Option.map_some,Option.some.injEq] at h1
    rw [h] at h1
    exact h1
  · have hb:Nat.ble 328 t=true:=Nat.ble_eq_true_of_le (Nat.not_lt.1 ht)
    rw [XP,hb] at h
    cases h
def XQ:List ((Nat × Nat) × List (Option Nat × Nat × Nat)):=[((9,5),[(some 0,3,120),(some 1,3,120)]),((27,10),[(none,2,46)]),((27,37),[(none,131073,3)]),((47,13),[(some 0,1,53),(none,131075,94)]),((48,13),[(some 0,1,63),(none,131075,89)]),((109,3),[(none,3,94)]),((122,3),[(none,1,3)]),((196,3),[(none,2,87)])]
def Sr:List ((Nat × Nat) × List (Option Nat × Nat × Nat))→Nat→Nat→List (Option Nat × Nat × Nat)
  | [],_,_=>[]
  | ((a,b),x) :: l,f,t=>bif Nat.beq a f&&Nat.beq b t then x else Sr l f t
def abK (f t:Nat):List (Option Nat × Nat × Nat):=Sr XQ f t
def abL (f t:Nat):Bool:=
  (Nat.beq f 1000000&&Nat.beq t 1000000) ||
  (Nat.beq f 9&&(Nat.beq t 262200)) ||
  (Nat.beq f 26&&(Nat.beq t 3 || Nat.beq t 4 || Nat.beq t 196627)) ||
  (Nat.beq f 27&&(Nat.beq t 12)) ||
  (Nat.beq f 33&&(Nat.beq t 7 || Nat.beq t 131072 || Nat.beq t 131073)) ||
  (Nat.beq f 42&&(Nat.beq t 2 || Nat.beq t 6 || Nat.beq t 7)) ||
  (Nat.beq f 47&&(Nat.beq t 131072 || Nat.beq t 131074 || Nat.beq t 524376)) ||
  (Nat.beq f 48&&(Nat.beq t 131072 || Nat.beq t 131074 || Nat.beq t 196633 || Nat.beq t 196689 || Nat.beq t 524396)) ||
  (Nat.beq f 52&&(Nat.beq t 3)) ||
  (Nat.beq f 54&&(Nat.beq t 131072 || Nat.beq t 196624)) ||
  (Nat.beq f 58&&(Nat.beq t 131072 || Nat.beq t 196616)) ||
  (Nat.beq f 59&&(Nat.beq t 196621)) ||
  (Nat.beq f 62&&(Nat.beq t 65554)) ||
  (Nat.beq f 69&&(Nat.beq t 4 || Nat.beq t 5)) ||
  (Nat.beq f 76&&(Nat.beq t 131072 || Nat.beq t 196624)) ||
  (Nat.beq f 79&&(Nat.beq t 4 || Nat.beq t 5 || Nat.beq t 6 || Nat.beq t 7 || Nat.beq t 8 || Nat.beq t 9 || Nat.beq t 11)) ||
  (Nat.beq f 88&&(Nat.beq t 2 || Nat.beq t 3)) ||
  (Nat.beq f 103&&(Nat.beq t 2 || Nat.beq t 3 || Nat.beq t 327682 || Nat.beq t 327683)) ||
  (Nat.beq f 105&&(Nat.beq t 262146 || Nat.beq t 393218)) ||
  (Nat.beq f 109&&(Nat.beq t 4)) ||
  (Nat.beq f 135&&(Nat.beq t 131072 || Nat.beq t 196625)) ||
  (Nat.beq f 140&&(Nat.beq t 65545)) ||
  (Nat.beq f 150&&(Nat.beq t 8)) ||
  (Nat.beq f 157&&(Nat.beq t 2)) ||
  (Nat.beq f 187&&(Nat.beq t 9)) ||
  (Nat.beq f 188&&(Nat.beq t 11)) ||
  (Nat.beq f 196&&(Nat.beq t 6 || Nat.beq t 262160)) ||
  (Nat.beq f 199&&(Nat.beq t 5)) ||
  (Nat.beq f 213&&(Nat.beq t 262148 || Nat.beq t 393220)) ||
  (Nat.beq f 218&&(Nat.beq t 12)) ||
  (Nat.beq f 239&&(Nat.beq t 9)) ||
  (Nat.beq f 240&&(Nat.beq t 11))
def Ss:cF:=[(0,[.int .i64 1,.int .i64 1,.int .i64 1,.int .i64 (-1),.int .i64 (-1),.int .i64 1,.int .i64 (-1),.int .i64 (-1),.int .i64 2,.int .i64 0,.int .i64 (-2),.int .i64 0,.int .i64 0,.int .i64 2,.int .i64 0,.int .i64 (-2)])]
theorem Od:Ss.all (fun p=>aC p.2)=true:=by kernel_rfl
def KW (g:Nat):Option (List AV):=dS Ss g
noncomputable def env:Env:={ P:=Tryz.prog,ti:=XP,cw:=KW,Ch:=abL,RN:=fun _=>none,gho:=abK,HT:=HT,mixed:=by kernel_rfl,vX:=fun _ _ h=>Ny Od h }
def aQ (l:List Nat):List (List Nat):=l.map fun m=>(List.range (m.log2+1)).filter m.testBit
def bz (a:Nat):Nat→DT→DT
 | 0,t=>t
 | n+1,t=>C2 (a+1) fun b=>.take a [] (bz b n t)
def bE (i:Nat) (t:DT):DT:=.br i [] [] t .stop
def XR:af:=⟨aQ [0,0,3,7,0,0,48,112,240,496,0,1024,4080,8191,16383],aQ [0,0,3,4,0,0,48,64,128,256,0,1024,0,8,0],(bz 0 12 (bE 12 (.take 13 [] (bE 14 .done))))⟩
def TG:af:=⟨aQ [0,1,3,7,15,31,63,127,255,511,1023,2047,4095,8191,16383,32767,8191,73727,262143,524287,1048575,2097151,4194303,8388607,2097151,18874367,52428799,134217727,268435455],aQ [0,1,2,4,12,20,32,64,0,0,576,1088,2048,4096,12288,20480,4096,69632,167936,266240,524288,1048576,3145728,5242880,1048576,0,34603008,76546048,135266304],(bz 0 8 (bE 8 (bE 9 (bz 10 12 (.take 22 [22] (.take 23 [23,22] (.take 24 [23,22] (.br 25 [23,22] [] (bz 26 3 .done) .stop))))))))⟩
def TH:af:=⟨aQ [0,1,3,7,15,31,63,127,255,127,639,1663,4095,8191,16383,32767,65535,32767,163839,425983,1048575,2097151],aQ [0,1,2,4,12,20,32,64,192,64,576,1088,2368,4160,8192,16384,49152,16384,0,278528,606208,1064960],(bz 0 16 (.take 16 [16] (.take 17 [16] (.br 18 [16] [] (bz 19 3 .done) .stop))))⟩
def TJ:af:=⟨aQ [0,1,0,4,12,28,63],aQ [0,1,0,4,8,16,34],(bz 0 7 .done)⟩
def TL:af:=⟨aQ [0,0,3,7,0,0,32,96,224,496,1023],aQ [0,0,3,4,0,0,32,64,128,0,520],(bz 0 3 (.take 3 [3] (.take 4 [3] (.take 5 [3] (.take 6 [3] (.take 7 [3] (.take 8 [3] (.br 9 [3] [] (.take 10 [] .done) .stop))))))))⟩
def TM:af:=⟨aQ [0,0,3,0,0,24,63,127,255],aQ [0,0,3,0,0,24,36,0,0],(bz 0 7 (bE 7 (.take 8 [] .done)))⟩
def TN:af:=⟨aQ [0,0,0,0,8,28,60,0,255,511,1023],aQ [0,0,0,0,8,20,32,0,0,256,512],(bz 0 8 (bE 8 (bz 9 2 .done)))⟩
def Oe:af:=⟨aQ [0,1,0,4,15,0,32,0,128,511,0,2047,4095,8191,16383],aQ [0,1,0,4,0,0,32,0,128,0,0,0,2576,0,8192],(bz 0 4 (.take 5 [] (.take 6 [6] (.take 7 [6] (.take 8 [6] (.take 10 [6] (.br 4 [6] [] (bE 9 (bE 11 (.take 12 [] (bE 13 (.take 14 [] .done))))) .stop)))))))⟩
def TO:af:=⟨aQ [0,0,3,7,0,0,48,112,255],aQ [0,0,3,4,0,0,48,64,136],(bz 0 9 .done)⟩
def TP:af:=⟨aQ [0,0,2,6,15,31,63,0,0,256,768,1920,3968,8064,16383],aQ [0,0,2,4,9,16,32,0,0,256,512,1152,2048,4096,8256],(bz 0 15 .done)⟩
def Of:af:=⟨aQ [0,0,2,0,0,16,56,0,128,384,1016,2047],aQ [0,0,2,0,0,16,40,0,128,256,0,0],(bz 0 2 (.take 2 [2] (.take 3 [2] (.take 4 [2] (.take 5 [2] (.take 6 [2] (.take 7 [2] (.take 8 [2] (.take 9 [2] (.br 10 [2] [] (bE 11 .done) .stop))))))))))⟩
def TQ:af:=⟨aQ [0,0,2,0,0,16,7,127],aQ [0,0,2,0,0,16,0,0],(bz 0 3 (.take 3 [3] (.take 4 [3] (.take 5 [5,3] (.br 6 [5,3] [] (bE 7 .done) .stop)))))⟩
def Og:af:=⟨aQ [0,0,0,4,14,0,0,64,224,511],aQ [0,0,0,4,10,0,0,64,160,0],(bz 0 9 (bE 9 .done))⟩
def Oh:af:=⟨aQ [0,1,0,0,8,0,56,120,0,256,1016,2047,4095],aQ [0,1,0,0,8,0,48,64,0,256,0,6,0],(.take 0 [] (.take 1 [1] (.take 2 [1] (.take 3 [1] (.take 4 [1] (.take 5 [1] (.take 6 [1] (.take 7 [1] (.take 8 [1] (.take 9 [1] (.br 10 [1] [] (.take 11 [] (bE 12 .done)) .stop)))))))))))⟩
def Oi:af:=⟨aQ [0,0,0,0,0,16,56,124,254,511,0,0,0,0,0,16384,57344,126976,260606,523774,523263,2097151],aQ [0,0,0,0,0,16,40,68,0,257,0,0,0,0,0,16384,40960,69632,0,263168,512,524288],(bz 0 8 (bz 10 5 (.take 15 [15] (.take 16 [15] (.take 17 [17,15] (.br 8 [17,15] [] (.take 9 [9] (.br 18 [9] [] (bz 19 3 .done) .stop)) .stop))))))⟩
def TS:af:=⟨aQ [0,1,0,4,12,31,63,127],aQ [0,1,0,0,8,0,0,0],(.take 0 [] (.take 1 [1] (.take 2 [1] (.br 3 [1] [] (.take 4 [] (bE 5 (.take 6 [] (bE 7 .done)))) .stop))))⟩
def TT:af:=⟨aQ [0,1,0,4,15,0,32,127,255,511,1023],aQ [0,0,0,4,0,0,32,0,146,0,512],(.take 0 [] (.take 2 [] (.take 3 [3] (.take 5 [3] (.take 6 [6,3] (.br 1 [6,3] [6] (.br 4 [6] [] (bE 7 (.take 8 [] (bE 9 (.take 10 [] .done)))) .stop) .stop))))))⟩
def Oj:af:=⟨aQ [0,1,3,0,8,31,63,127,255],aQ [0,1,0,0,8,0,36,0,128],(bz 0 2 (.take 3 [] (.take 4 [4] (.br 2 [4] [] (bE 5 (.take 6 [] (bE 7 (.take 8 [] .done)))) .stop))))⟩
def TU:af:=⟨aQ [0,0,3,7,0,0,48,112,255],aQ [0,0,3,4,0,0,48,64,136],(bz 0 9 .done)⟩
def Ol:af:=⟨aQ [0,0,2,7,15,0,0,64,224,480,31,2047],aQ [0,0,2,5,8,0,0,64,160,256,16,512],(bz 0 12 .done)⟩
def Om:af:=⟨aQ [0,0,0,6,14,31,63,0,0,384,896,2047,4095],aQ [0,0,0,6,8,17,32,0,0,384,512,1088,2048],(bz 0 13 .done)⟩
def TV:af:=⟨aQ [0,1,3,7,7,23,63,127,7,7,775,1799,4095,8191,16383],aQ [0,1,2,4,4,20,44,68,4,4,772,1028,0,4100,8196],(bz 0 12 (bE 12 (bz 13 2 .done)))⟩
def TW:af:=⟨aQ [0,0,2,7,15,31,31,127,255,511,31,1055,4095,8191,16383,16383,65535,131071,262143,16383,540671,2097151,4194303,8388607,8388607,33554431,67108863,134217727,8388607,276824063,1073741823,2147483647,4294967295,8589934591],aQ [0,0,2,5,8,16,16,112,144,272,16,1040,2576,4112,8192,8192,57344,73728,139264,8192,532480,1318912,2105344,4194304,4194304,29360128,37748736,71303168,4194304,272629760,675282944,1077944320,2147491856,4294967312],(bz 0 34 .done)⟩
def TX:af:=⟨aQ [0,0,2,7,15,31,31,127,255,31,1023,2047],aQ [0,0,2,5,8,16,16,112,144,16,784,1040],(bz 0 12 .done)⟩
def On:af:=⟨aQ [0,0,0,6,15,0,32,127,0,0,768,2047,4095],aQ [0,0,0,6,0,0,32,0,0,0,768,0,2306],(bz 0 4 (.take 5 [5] (.take 6 [5] (.take 8 [5] (.take 9 [5] (.take 10 [5] (.br 4 [5] [] (bE 7 (bE 11 (.take 12 [] .done))) .stop)))))))⟩
def TY:af:=⟨aQ [0,1,3,3,15,31,3,3,195,451,1023,2047,4095],aQ [0,1,2,2,14,18,2,2,194,258,0,1026,2049],(bz 0 10 (bE 10 (bz 11 2 .done)))⟩
def TZ:af:=⟨aQ [0,0,3,7,15,0,63,127,255,255,1023,2047,4095,255,16383,32767],aQ [0,0,3,4,0,0,48,64,128,128,896,1152,0,128,12416,16512],(bz 0 4 (.take 5 [5] (.br 4 [5] [] (bz 6 6 (.take 13 [13] (.br 12 [13] [] (bz 14 2 .done) .stop))) .stop)))⟩
def T0:af:=⟨aQ [0,1,0,0,12,0,63,127,0,256,1023,2047,2047,8191,16383,32767,65535,131071,262143,524287],aQ [0,0,0,0,12,0,0,0,0,256,512,1024,1024,0,9216,17408,0,65666,0,262144],(.take 0 [] (bz 2 3 (.take 5 [5] (.take 8 [5] (.take 9 [5] (.br 1 [5] [] (bE 6 (bE 7 (bz 10 3 (bE 13 (bz 14 2 (bE 16 (.take 17 [] (bE 18 (.take 19 [] .done))))))))) .stop))))))⟩
def Oo:af:=⟨aQ [0,0,2,6,0,16,48,118,254,510,1023,2047],aQ [0,0,0,4,0,16,32,0,136,256,0,1025],(bz 0 2 (bz 4 2 (.take 6 [6] (.br 2 [6] [] (.take 3 [] (bE 7 (bz 8 2 (bE 10 (.take 11 [] .done))))) .stop))))⟩
def T1:af:=⟨aQ [0,0,0,6,3,31],aQ [0,0,0,6,3,13],(bz 0 6 .done)⟩
def T2:af:=⟨aQ [0,1,0,4,15,0,32,0,128,480,31,2047],aQ [0,1,0,4,10,0,32,0,128,320,16,512],(bz 0 12 .done)⟩
def T7:af:=⟨aQ [0,0,0,0,0,0,48,112,0,0,768,1792,4083,8179,16383,32767],aQ [0,0,0,0,0,0,48,64,0,0,768,1024,3,0,12,0],(bz 0 13 (bE 13 (.take 14 [] (bE 15 .done))))⟩
def T8:af:=⟨aQ [0,1,3,0,8,31,63,127,255],aQ [0,1,0,0,8,0,36,0,128],(bz 0 2 (.take 3 [] (.take 4 [4] (.br 2 [4] [] (bE 5 (.take 6 [] (bE 7 (.take 8 [] .done)))) .stop))))⟩
def Oq:af:=⟨aQ [0,0,3,7],aQ [0,0,0,4],(bz 0 2 (bE 2 (.take 3 [] .done)))⟩
def Ot:af:=⟨aQ [0,0,3,7,0,0,32,112,240,511],aQ [0,0,3,4,0,0,32,80,128,264],(bz 0 10 .done)⟩
def KX:af:=⟨aQ [0,0,3,7,0,0,32,112,240,511],aQ [0,0,3,4,0,0,32,80,128,264],(bz 0 10 .done)⟩
def Ou:af:=⟨aQ [0,0,0,6,14,0,63,127],aQ [0,0,0,6,8,0,0,64],(bz 0 6 (bE 6 (.take 7 [] .done)))⟩
def Ov:af:=⟨aQ [0,0,0,6,14,30,30,30,222,478,30,2046,4094,8190,4095,32767],aQ [0,0,0,6,8,16,16,16,208,272,16,0,2064,4112,1,8192],(bz 0 11 (bE 11 (bz 12 4 .done)))⟩
def Ow:af:=⟨aQ [0,1,0,4,15,0,32,96,0,256,768,2047,0,4096,12288,0,32768,98304,262143,524287,1048575,2097151],aQ [0,1,0,4,0,0,32,64,0,256,512,0,0,4096,8192,0,32768,65536,0,264208,0,1048576],(bz 0 4 (bz 5 2 (.take 7 [7] (.take 8 [7] (.take 9 [7] (.take 10 [10,7] (.take 12 [10,7] (.take 13 [10,7] (.take 14 [14,10,7] (.take 15 [14,10,7] (.take 16 [14,10,7] (.take 17 [17,14,10,7] (.br 4 [17,14,10,7] [17,14] (.br 11 [17,14] [] (bE 18 (.take 19 [] (bE 20 (.take 21 [] .done)))) .stop) .stop)))))))))))))⟩
def Ox:af:=⟨aQ [0,1,0,4,15,31,31,95,223,511,1023,31,4095,8191,16383,32767,65535,131071,262143],aQ [0,0,0,4,8,16,16,80,144,304,528,16,0,4112,8208,0,32770,0,131072],(.take 0 [] (bz 2 2 (bE 1 (bz 4 8 (bE 12 (bz 13 2 (bE 15 (.take 16 [] (bE 17 (.take 18 [] .done))))))))))⟩
def Oy:af:=⟨aQ [0,0,2,7,0,0,32,127,0,256,0,1024,3840,8191,16383,32767,65535],aQ [0,0,2,0,0,0,32,0,0,256,0,1024,2560,0,8328,0,32768],(bz 0 3 (.take 4 [4] (.take 5 [4] (.take 6 [6,4] (.take 8 [6,4] (.take 9 [9,6,4] (.take 10 [9,6,4] (.take 11 [11,9,6,4] (.take 12 [11,9,6,4] (.br 3 [11,9,6,4] [11,9] (.br 7 [11,9] [] (bE 13 (.take 14 [] (bE 15 (.take 16 [] .done)))) .stop) .stop))))))))))⟩
def Oz:af:=⟨aQ [0,0,3,7,0,31],aQ [0,0,3,4,0,24],(bz 0 6 .done)⟩
def OA:af:=⟨aQ [0,1,0,7,15,31],aQ [0,0,0,0,10,0],(.take 0 [] (.take 2 [2] (.br 1 [2] [] (bE 3 (.take 4 [] (bE 5 .done))) .stop)))⟩
def KY:af:=⟨aQ [0,1,3,0,8,31,0,0,192,511,1023,2047,4095],aQ [0,1,0,0,8,0,0,0,192,0,548,0,2048],(bz 0 2 (.take 3 [] (.take 4 [4] (.take 6 [4] (.take 7 [7,4] (.take 8 [8,7,4] (.br 2 [8,7,4] [8,7] (.br 5 [8,7] [] (bE 9 (.take 10 [] (bE 11 (.take 12 [] .done)))) .stop) .stop)))))))⟩
def KZ:af:=⟨aQ [0,1,0,7,0,16,0,127,0,256,0,1024,3840,8191,16383,32767,65535],aQ [0,1,0,0,0,16,0,0,0,256,0,1024,2560,0,8328,0,32768],(bz 0 3 (.take 4 [] (.take 5 [5] (.take 6 [5] (.take 8 [5] (.take 9 [9,5] (.take 10 [9,5] (.take 11 [11,9,5] (.take 12 [11,9,5] (.br 3 [11,9,5] [11,9] (.br 7 [11,9] [] (bE 13 (.take 14 [] (bE 15 (.take 16 [] .done)))) .stop) .stop))))))))))⟩
def OB:af:=⟨aQ [0,1,0,4,0,16,60,124,252,511,1023,2047,4095],aQ [0,0,0,4,0,16,40,64,128,0,514,0,2048],(.take 0 [] (.take 2 [] (.take 3 [3] (.take 4 [3] (.take 5 [5,3] (.take 6 [5,3] (.take 7 [5,3] (.take 8 [5,3] (.br 1 [5,3] [] (bE 9 (.take 10 [] (bE 11 (.take 12 [] .done)))) .stop)))))))))⟩
def OC:af:=⟨aQ [0,0,3,7,0,31],aQ [0,0,3,4,0,24],(bz 0 6 .done)⟩
def OD:af:=⟨aQ [0,0,3,7,0,0,48,112,255,511,1023,1023,1023,7167,15359,32767,65535,131071],aQ [0,0,3,4,0,0,48,64,0,256,512,512,512,6656,8704,0,33280,66048],(bz 0 8 (bE 8 (bz 9 6 (bE 15 (bz 16 2 .done)))))⟩
def OE:af:=⟨aQ [0,0,0,6,0,30,0,0,192,0,960,2046,4095,8191],aQ [0,0,0,6,0,24,0,0,192,0,768,1056,0,4096],(bz 0 12 (bE 12 (.take 13 [] .done)))⟩
def K0:af:=⟨aQ [0,1,3,7,7,7,39,119,247,7,7,1543,3591,8191,16383,32767,65535],aQ [0,1,2,4,4,4,36,84,132,4,4,1540,2052,0,8196,16388,32772],(bz 0 13 (bE 13 (bz 14 3 .done)))⟩
def OF:af:=⟨aQ [0,1,0,4,15,31,0,64,192,511,1023,2047,4095,8191,16383,32767,65535,131071],aQ [0,1,0,4,10,0,0,64,128,256,512,1536,2560,4608,0,16416,0,65536],(bz 0 5 (.take 6 [] (.take 7 [7] (.take 8 [7] (.br 5 [7] [] (bz 9 5 (bE 14 (.take 15 [] (bE 16 (.take 17 [] .done))))) .stop)))))⟩
def OG:af:=⟨aQ [0,1,0,4,15,0,32,0,128,511,0,1024,0,4096,16383,32767,65535,131071],aQ [0,1,0,4,0,0,32,0,128,0,0,1024,0,4096,0,16912,0,65536],(bz 0 4 (.take 5 [] (.take 6 [6] (.take 7 [6] (.take 8 [8,6] (.take 10 [8,6] (.take 11 [11,8,6] (.take 12 [11,8,6] (.take 13 [13,11,8,6] (.br 4 [13,11,8,6] [13,11] (.br 9 [13,11] [] (bE 14 (.take 15 [] (bE 16 (.take 17 [] .done)))) .stop) .stop))))))))))⟩
def OH:af:=⟨aQ [0,1,3,0,8,31,63,127,255],aQ [0,1,0,0,8,0,36,0,128],(bz 0 2 (.take 3 [] (.take 4 [4] (.br 2 [4] [] (bE 5 (.take 6 [] (bE 7 (.take 8 [] .done)))) .stop))))⟩
def OI:af:=⟨aQ [0,0,0,6,14,31],aQ [0,0,0,6,8,17],(bz 0 6 .done)⟩
def OJ:af:=⟨aQ [0,1,0,7,15,31,63,127,63,511,1023,2047,4095,8191,16383,8191,65535,131071,262143,524287,1048575,2097151,1048575,8388607,16777215,33554431,67108863],aQ [0,0,0,0,10,16,32,0,32,0,672,1056,2048,4096,0,4096,0,86016,135168,262144,524288,0,524288,0,11010048,17301504,33554432],(.take 0 [] (.take 2 [2] (.br 1 [2] [] (bE 3 (bz 4 3 (.take 8 [8] (.br 7 [8] [] (bE 9 (bz 10 4 (.take 15 [15] (.br 14 [15] [] (bE 16 (bz 17 4 (.take 22 [22] (.br 21 [22] [] (bE 23 (bz 24 3 .done)) .stop)))) .stop)))) .stop)))) .stop)))⟩
def OK:af:=⟨aQ [0,0,2,7,15,31,31,127,255,31,31,1567,3615,8191,16383],aQ [0,0,2,5,8,16,16,112,144,16,16,1552,2064,0,8208],(bz 0 13 (bE 13 (.take 14 [] .done)))⟩
def OL:af:=⟨aQ [0,0,2,7,15,31,31,127,255,31,31,1567,3615,8191,16383],aQ [0,0,2,5,8,16,16,112,144,16,16,1552,2064,4368,8208],(bz 0 15 .done)⟩
def OM:af:=⟨aQ [0,0,0,6,15,0,0,96,224,480,1023,0,0,6144,16383,32767],aQ [0,0,0,6,0,0,0,96,128,256,0,0,0,6144,0,18434],(bz 0 4 (bz 5 3 (.take 8 [8] (.take 9 [8] (.take 11 [8] (.take 12 [8] (.take 13 [8] (.br 4 [8] [] (bE 10 (bE 14 (.take 15 [] .done))) .stop))))))))⟩
def ON:af:=⟨aQ [0,0,0,6,14,31],aQ [0,0,0,6,8,17],(bz 0 6 .done)⟩
def OO:af:=⟨aQ [0,1,3,7,15,0,32,96,224,480,1023,0,4095],aQ [0,1,2,4,0,0,32,64,128,256,528,0,3072],(bz 0 4 (bz 5 3 (.take 8 [8] (.take 9 [9,8] (.take 11 [9,8] (.br 4 [9,8] [] (.take 10 [] (.take 12 [] .done)) .stop))))))⟩
def OP:af:=⟨aQ [0,1,3,7,15,0,32,96,224,480,1023,2047],aQ [0,1,2,4,0,0,32,64,128,256,0,1024],(bz 0 4 (bz 5 3 (.take 8 [8] (.take 9 [9,8] (.br 4 [9,8] [] (bE 10 (.take 11 [] .done)) .stop)))))⟩
def OQ:af:=⟨aQ [0,0,3,7,15,15,15,111,239,15,15,1039,3599,7695,16383,32767,65535],aQ [0,0,3,4,8,8,8,104,136,8,8,1032,2568,4104,0,16392,32776],(bz 0 14 (bE 14 (bz 15 2 .done)))⟩
def OR:af:=⟨aQ [0,0,0,0,8,0,0,64,224,480,0,0,3072,7168,16355,32739,65535,131071],aQ [0,0,0,0,8,0,0,64,160,256,0,0,3072,4096,3,0,20,0],(bz 0 15 (bE 15 (.take 16 [] (bE 17 .done))))⟩
def K1:af:=⟨aQ [0,0,0,0,0,24,0,0,0,384,960,1984,0,0,12288,28672,65475,131011,262143,524287],aQ [0,0,0,0,0,24,0,0,0,384,576,1024,0,0,12288,16384,3,0,36,0],(bz 0 17 (bE 17 (.take 18 [] (bE 19 .done))))⟩
def K2:af:=⟨aQ [0,0,0,0,0,24,0,0,0,384,960,1984,0,0,12288,28672,65475,131011,262143,524287],aQ [0,0,0,0,0,24,0,0,0,384,576,1024,0,0,12288,16384,3,0,36,0],(bz 0 17 (bE 17 (.take 18 [] (bE 19 .done))))⟩
def OS:af:=⟨aQ [0,0,0,0,0,0,48,112,0,0,768,1792,4083,8179,16383,32767],aQ [0,0,0,0,0,0,48,64,0,0,768,1024,3,0,12,0],(bz 0 13 (bE 13 (.take 14 [] (bE 15 .done))))⟩
def OT:af:=⟨aQ [0,0,3,7,15,15,15,111,239,15,15,1039,3599,7695,16383,32767,65535,131071],aQ [0,0,3,4,8,8,8,104,136,8,8,1032,2568,4104,0,16392,32776,65544],(bz 0 14 (bE 14 (bz 15 3 .done)))⟩
def K4:af:=⟨aQ [0,0,0,0,8,0,0,64,224,480,0,0,3072,7168,16355,32739,65535,131071],aQ [0,0,0,0,8,0,0,64,160,256,0,0,3072,4096,3,0,20,0],(bz 0 15 (bE 15 (.take 16 [] (bE 17 .done))))⟩
def K5:af:=⟨aQ [0,0,0,6,14,0,0,64,224,480,1023,2047,4095],aQ [0,0,0,6,8,0,0,64,160,256,0,1024,2048],(bz 0 10 (bE 10 (bz 11 2 .done)))⟩
def K6:af:=⟨aQ [0,0,0,0,8,0,0,64,224,480,0,0,3072,7168,16355,32739,65535,131071],aQ [0,0,0,0,8,0,0,64,160,256,0,0,3072,4096,3,0,20,0],(bz 0 15 (bE 15 (.take 16 [] (bE 17 .done))))⟩
def K7:af:=⟨aQ [0,0,0,6,14,0,0,64,224,480,1023,2047,4095],aQ [0,0,0,6,8,0,0,64,160,256,0,1024,2048],(bz 0 10 (bE 10 (bz 11 2 .done)))⟩
def K8:af:=⟨aQ [0,0,0,0,8,0,0,64,224,480,0,0,3072,7168,16355,32739,65535,131071],aQ [0,0,0,0,8,0,0,64,160,256,0,0,3072,4096,3,0,20,0],(bz 0 15 (bE 15 (.take 16 [] (bE 17 .done))))⟩
def OU:af:=⟨aQ [0,0,0,0,0,0,48,112,0,0,768,1792,4083,8179,16383,32767],aQ [0,0,0,0,0,0,48,64,0,0,768,1024,3,0,12,0],(bz 0 13 (bE 13 (.take 14 [] (bE 15 .done))))⟩
def OV:af:=⟨aQ [0,0,3,7,15,15,15,111,239,15,15,1551,3599,8191,16383,32767,65535],aQ [0,0,3,4,8,8,8,104,136,8,8,1544,2056,0,8200,16392,32776],(bz 0 13 (bE 13 (bz 14 3 .done)))⟩
def OW:af:=⟨aQ [0,0,3,7,15,15,15,111,239,15,15,1551,3599,8191,16383,32767],aQ [0,0,3,4,8,8,8,104,136,8,8,1544,2056,0,8200,16392],(bz 0 13 (bE 13 (bz 14 2 .done)))⟩
def OX:af:=⟨aQ [0,0,0,0,0,0,48,112,0,0,768,1792,4083,8179,16383,32767],aQ [0,0,0,0,0,0,48,64,0,0,768,1024,3,0,12,0],(bz 0 13 (bE 13 (.take 14 [] (bE 15 .done))))⟩
def OY:af:=⟨aQ [0,0,0,0,0,0,48,112,0,0,768,1792,4083,8179,16383,32767],aQ [0,0,0,0,0,0,48,64,0,0,768,1024,3,0,12,0],(bz 0 13 (bE 13 (.take 14 [] (bE 15 .done))))⟩
def OZ:af:=⟨aQ [0,0,3,7,15,15,15,111,239,15,15,1551,3599,8191,16383,32767],aQ [0,0,3,4,8,8,8,104,136,8,8,1544,2056,0,8200,16392],(bz 0 13 (bE 13 (bz 14 2 .done)))⟩
def O0:af:=⟨aQ [0,0,3,7,15,15,15,111,239,15,15,1551,3599,8191,16383,32767,65535],aQ [0,0,3,4,8,8,8,104,136,8,8,1544,2056,0,8200,16392,32776],(bz 0 13 (bE 13 (bz 14 3 .done)))⟩
def O1:af:=⟨aQ [0,0,0,0,0,0,48,112,0,0,768,1792,4083,8179,16383,32767],aQ [0,0,0,0,0,0,48,64,0,0,768,1024,3,0,12,0],(bz 0 13 (bE 13 (.take 14 [] (bE 15 .done))))⟩
def K9:af:=⟨aQ [0,0,0,0,0,0,48,112,0,0,768,1792,4083,8179,16383,32767],aQ [0,0,0,0,0,0,48,64,0,0,768,1024,3,0,12,0],(bz 0 13 (bE 13 (.take 14 [] (bE 15 .done))))⟩
def La:af:=⟨aQ [0,0,3,7,15,15,15,111,239,15,15,1551,3599,8191,16383,32767],aQ [0,0,3,4,8,8,8,104,136,8,8,1544,2056,0,8200,16392],(bz 0 13 (bE 13 (bz 14 2 .done)))⟩
def Lb:af:=⟨aQ [0,0,3,7,15,15,15,111,239,15,15,1551,3599,8191,16383,32767,65535],aQ [0,0,3,4,8,8,8,104,136,8,8,1544,2056,0,8200,16392,32776],(bz 0 13 (bE 13 (bz 14 3 .done)))⟩
def Lc:af:=⟨aQ [0,0,0,0,0,0,48,112,0,0,768,1792,4083,8179,16383,32767],aQ [0,0,0,0,0,0,48,64,0,0,768,1024,3,0,12,0],(bz 0 13 (bE 13 (.take 14 [] (bE 15 .done))))⟩
def Ld:af:=⟨aQ [0,0,0,0,0,0,48,112,0,0,768,1792,4083,8179,16383,32767],aQ [0,0,0,0,0,0,48,64,0,0,768,1024,3,0,12,0],(bz 0 13 (bE 13 (.take 14 [] (bE 15 .done))))⟩
def O2:af:=⟨aQ [0,1,3,7,15,31,0,127,255,0,512,1536,3584,7680,16383,32767],aQ [0,1,2,4,0,16,0,96,0,0,512,1024,2048,4096,8448,16384],(bz 0 4 (.take 6 [] (bz 9 3 (.take 12 [12] (.take 13 [13,12] (.br 4 [13,12] [13,12] (.take 5 [13,12] (.take 7 [13,12] (.br 8 [13,12] [] (bz 14 2 .done) .stop))) .stop))))))⟩
def O3:af:=⟨aQ [0,1,0,7,15,31,31,31,31,415,991,2015,31,31,31,24607,57375,127007,258079,524287,1048575,2097151],aQ [0,1,0,6,8,16,16,16,16,400,592,1040,16,16,16,24592,32784,69648,131088,0,524304,1048592],(bz 0 19 (bE 19 (bz 20 2 .done)))⟩
def O4:af:=⟨aQ [0,0,0,0,12,30,62,0,0,0,768,1920,3968,8191,16383,32767],aQ [0,0,0,0,12,18,32,0,0,0,768,1152,2048,0,8192,16384],(bz 0 13 (bE 13 (bz 14 2 .done)))⟩
def O5:af:=⟨aQ [0,0,0,6,0,0,0,96,0,0,0,1536,3840,7936,0,0,0,98304,245760,507904,1048335,2096911,4194303,8388607],aQ [0,0,0,6,0,0,0,96,0,0,0,1536,2304,4096,0,0,0,98304,147456,262144,9,0,144,0],(bz 0 21 (bE 21 (.take 22 [] (bE 23 .done))))⟩
def O6:af:=⟨aQ [0,1,3,0,8,24,56,127,255,511],aQ [0,1,2,0,8,16,32,68,1,0],(bz 0 9 (bE 9 .done))⟩
def O7:af:=⟨aQ [0,1,3,0,8,24,56,127,255,511],aQ [0,1,2,0,8,16,32,68,1,0],(bz 0 9 (bE 9 .done))⟩
def O8:af:=⟨aQ [0,1,3,0,8,24,56,127,255,511],aQ [0,1,2,0,8,16,32,68,1,0],(bz 0 9 (bE 9 .done))⟩
def O9:af:=⟨aQ [0,1,0,4,15,0,32,0,128,511,1023,2047,4095],aQ [0,1,0,4,0,0,32,0,128,0,528,0,2048],(bz 0 4 (.take 5 [] (.take 6 [6] (.take 7 [6] (.take 8 [8,6] (.br 4 [8,6] [] (bE 9 (.take 10 [] (bE 11 (.take 12 [] .done)))) .stop))))))⟩
def Pa:af:=⟨aQ [0,0,0,6,14,0,0,64,224,480,1023],aQ [0,0,0,6,8,0,0,64,160,256,0],(bz 0 10 (bE 10 .done))⟩
def Le:af:=⟨aQ [0,0,0,6,14,0,0,64,224,480,1023,2047],aQ [0,0,0,6,8,0,0,64,160,256,0,1024],(bz 0 10 (bE 10 (.take 11 [] .done)))⟩
def Pb:af:=⟨aQ [0,0,2,0,0,16,0,64,192,0,512,455,2503,8191,16383],aQ [0,0,2,0,0,16,0,64,128,0,512,5,0,40,0],(bz 0 12 (bE 12 (.take 13 [] (bE 14 .done))))⟩
def Pc:af:=⟨aQ [0,0,2,0,0,16,0,64,192,0,512,455,2503,8191,16383],aQ [0,0,2,0,0,16,0,64,128,0,512,5,0,40,0],(bz 0 12 (bE 12 (.take 13 [] (bE 14 .done))))⟩
def Pd:af:=⟨aQ [0,0,2,0,0,16,0,64,192,0,512,455,2503,8191,16383],aQ [0,0,2,0,0,16,0,64,128,0,512,5,0,40,0],(bz 0 12 (bE 12 (.take 13 [] (bE 14 .done))))⟩
def Lf:af:=⟨aQ [0,0,2,0,0,16,0,64,192,0,512,455,2503,8191,16383],aQ [0,0,2,0,0,16,0,64,128,0,512,5,0,40,0],(bz 0 12 (bE 12 (.take 13 [] (bE 14 .done))))⟩
def Lg:af:=⟨aQ [0,0,2,0,0,16,0,64,192,0,512,455,2503,8191,16383],aQ [0,0,2,0,0,16,0,64,128,0,512,5,0,40,0],(bz 0 12 (bE 12 (.take 13 [] (bE 14 .done))))⟩
def Lh:af:=⟨aQ [0,0,2,0,0,16,0,64,192,0,512,455,2503,8191,16383],aQ [0,0,2,0,0,16,0,64,128,0,512,5,0,40,0],(bz 0 12 (bE 12 (.take 13 [] (bE 14 .done))))⟩
def Li:af:=⟨aQ [0,0,2,0,0,16,0,64,192,0,512,455,2503,8191,16383],aQ [0,0,2,0,0,16,0,64,128,0,512,5,0,40,0],(bz 0 12 (bE 12 (.take 13 [] (bE 14 .done))))⟩
def Pe:af:=⟨aQ [0,0,0,6,14,0,0,96,224,511,1023],aQ [0,0,0,6,8,0,0,96,128,0,512],(bz 0 9 (bE 9 (.take 10 [] .done)))⟩
def Lj:af:=⟨aQ [0,1,3,7,7,7,39,119,247,7,7,1543,3591,8191,16383,32767,65535],aQ [0,1,2,4,4,4,36,84,132,4,4,1540,2052,0,8196,16388,32772],(bz 0 13 (bE 13 (bz 14 3 .done)))⟩
def Pf:af:=⟨aQ [0,0,3,7,15,15,15,111,239,15,15,1039,3599,7695,16383,32767,65535],aQ [0,0,3,4,8,8,8,104,136,8,8,1032,2568,4104,0,16392,32776],(bz 0 14 (bE 14 (bz 15 2 .done)))⟩
def Pg:af:=⟨aQ [0,0,0,0,8,0,0,64,224,480,0,0,3072,7168,16355,32739,65535,131071],aQ [0,0,0,0,8,0,0,64,160,256,0,0,3072,4096,3,0,20,0],(bz 0 15 (bE 15 (.take 16 [] (bE 17 .done))))⟩
def Lk:af:=⟨aQ [0,0,0,0,0,24,0,0,0,384,960,1984,0,0,12288,28672,65475,131011,262143,524287],aQ [0,0,0,0,0,24,0,0,0,384,576,1024,0,0,12288,16384,3,0,36,0],(bz 0 17 (bE 17 (.take 18 [] (bE 19 .done))))⟩
def Ll:af:=⟨aQ [0,0,0,0,0,24,0,0,0,384,960,1984,0,0,12288,28672,65475,131011,262143,524287],aQ [0,0,0,0,0,24,0,0,0,384,576,1024,0,0,12288,16384,3,0,36,0],(bz 0 17 (bE 17 (.take 18 [] (bE 19 .done))))⟩
def Ph:af:=⟨aQ [0,0,0,0,0,0,48,112,0,0,768,1792,4083,8179,16383,32767],aQ [0,0,0,0,0,0,48,64,0,0,768,1024,3,0,12,0],(bz 0 13 (bE 13 (.take 14 [] (bE 15 .done))))⟩
def Pj:af:=⟨aQ [0,0,3,7,15,15,15,111,239,15,15,1039,3599,7695,16383,32767,65535,131071],aQ [0,0,3,4,8,8,8,104,136,8,8,1032,2568,4104,0,16392,32776,65544],(bz 0 14 (bE 14 (bz 15 3 .done)))⟩
def Lm:af:=⟨aQ [0,0,0,0,8,0,0,64,224,480,0,0,3072,7168,16355,32739,65535,131071],aQ [0,0,0,0,8,0,0,64,160,256,0,0,3072,4096,3,0,20,0],(bz 0 15 (bE 15 (.take 16 [] (bE 17 .done))))⟩
def Ln:af:=⟨aQ [0,0,0,6,14,0,0,64,224,480,1023,2047,4095],aQ [0,0,0,6,8,0,0,64,160,256,0,1024,2048],(bz 0 10 (bE 10 (bz 11 2 .done)))⟩
def Lo:af:=⟨aQ [0,0,0,0,8,0,0,64,224,480,0,0,3072,7168,16355,32739,65535,131071],aQ [0,0,0,0,8,0,0,64,160,256,0,0,3072,4096,3,0,20,0],(bz 0 15 (bE 15 (.take 16 [] (bE 17 .done))))⟩
def Lp:af:=⟨aQ [0,0,0,6,14,0,0,64,224,480,1023,2047,4095],aQ [0,0,0,6,8,0,0,64,160,256,0,1024,2048],(bz 0 10 (bE 10 (bz 11 2 .done)))⟩
def Lq:af:=⟨aQ [0,0,0,0,8,0,0,64,224,480,0,0,3072,7168,16355,32739,65535,131071],aQ [0,0,0,0,8,0,0,64,160,256,0,0,3072,4096,3,0,20,0],(bz 0 15 (bE 15 (.take 16 [] (bE 17 .done))))⟩
def Pk:af:=⟨aQ [0,0,0,0,0,0,48,112,0,0,768,1792,4083,8179,16383,32767],aQ [0,0,0,0,0,0,48,64,0,0,768,1024,3,0,12,0],(bz 0 13 (bE 13 (.take 14 [] (bE 15 .done))))⟩
def Pl:af:=⟨aQ [0,0,3,7,15,15,15,111,239,15,15,1551,3599,8191,16383,32767,65535],aQ [0,0,3,4,8,8,8,104,136,8,8,1544,2056,0,8200,16392,32776],(bz 0 13 (bE 13 (bz 14 3 .done)))⟩
def Pm:af:=⟨aQ [0,0,3,7,15,15,15,111,239,15,15,1551,3599,8191,16383,32767],aQ [0,0,3,4,8,8,8,104,136,8,8,1544,2056,0,8200,16392],(bz 0 13 (bE 13 (bz 14 2 .done)))⟩
def Pn:af:=⟨aQ [0,0,0,0,0,0,48,112,0,0,768,1792,4083,8179,16383,32767],aQ [0,0,0,0,0,0,48,64,0,0,768,1024,3,0,12,0],(bz 0 13 (bE 13 (.take 14 [] (bE 15 .done))))⟩
def Po:af:=⟨aQ [0,0,0,0,0,0,48,112,0,0,768,1792,4083,8179,16383,32767],aQ [0,0,0,0,0,0,48,64,0,0,768,1024,3,0,12,0],(bz 0 13 (bE 13 (.take 14 [] (bE 15 .done))))⟩
def Pp:af:=⟨aQ [0,0,3,7,15,15,15,111,239,15,15,1551,3599,8191,16383,32767],aQ [0,0,3,4,8,8,8,104,136,8,8,1544,2056,0,8200,16392],(bz 0 13 (bE 13 (bz 14 2 .done)))⟩
def Pq:af:=⟨aQ [0,0,3,7,15,15,15,111,239,15,15,1551,3599,8191,16383,32767,65535],aQ [0,0,3,4,8,8,8,104,136,8,8,1544,2056,0,8200,16392,32776],(bz 0 13 (bE 13 (bz 14 3 .done)))⟩
def Pr:af:=⟨aQ [0,0,0,0,0,0,48,112,0,0,768,1792,4083,8179,16383,32767],aQ [0,0,0,0,0,0,48,64,0,0,768,1024,3,0,12,0],(bz 0 13 (bE 13 (.take 14 [] (bE 15 .done))))⟩
def Lr:af:=⟨aQ [0,0,0,0,0,0,48,112,0,0,768,1792,4083,8179,16383,32767],aQ [0,0,0,0,0,0,48,64,0,0,768,1024,3,0,12,0],(bz 0 13 (bE 13 (.take 14 [] (bE 15 .done))))⟩
def Ls:af:=⟨aQ [0,0,3,7,15,15,15,111,239,15,15,1551,3599,8191,16383,32767],aQ [0,0,3,4,8,8,8,104,136,8,8,1544,2056,0,8200,16392],(bz 0 13 (bE 13 (bz 14 2 .done)))⟩
def Lt:af:=⟨aQ [0,0,3,7,15,15,15,111,239,15,15,1551,3599,8191,16383,32767,65535],aQ [0,0,3,4,8,8,8,104,136,8,8,1544,2056,0,8200,16392,32776],(bz 0 13 (bE 13 (bz 14 3 .done)))⟩
def Lu:af:=⟨aQ [0,0,0,0,0,0,48,112,0,0,768,1792,4083,8179,16383,32767],aQ [0,0,0,0,0,0,48,64,0,0,768,1024,3,0,12,0],(bz 0 13 (bE 13 (.take 14 [] (bE 15 .done))))⟩
def Lv:af:=⟨aQ [0,0,0,0,0,0,48,112,0,0,768,1792,4083,8179,16383,32767],aQ [0,0,0,0,0,0,48,64,0,0,768,1024,3,0,12,0],(bz 0 13 (bE 13 (.take 14 [] (bE 15 .done))))⟩
def Ps:af:=⟨aQ [0,1,0,7,15,31,31,31,31,415,991,2015,31,31,31,24607,57375,127007,258079,524287,1048575,2097151],aQ [0,1,0,6,8,16,16,16,16,400,592,1040,16,16,16,24592,32784,69648,131088,0,524304,1048592],(bz 0 19 (bE 19 (bz 20 2 .done)))⟩
def Pt:af:=⟨aQ [0,0,0,0,12,30,62,0,0,0,768,1920,3968,8191,16383,32767],aQ [0,0,0,0,12,18,32,0,0,0,768,1152,2048,0,8192,16384],(bz 0 13 (bE 13 (bz 14 2 .done)))⟩
def Pu:af:=⟨aQ [0,0,0,6,0,0,0,96,0,0,0,1536,3840,7936,0,0,0,98304,245760,507904,1048335,2096911,4194303,8388607],aQ [0,0,0,6,0,0,0,96,0,0,0,1536,2304,4096,0,0,0,98304,147456,262144,9,0,144,0],(bz 0 21 (bE 21 (.take 22 [] (bE 23 .done))))⟩
def Pv:af:=⟨aQ [0,0,0,6,14,0,0,96,224,511,1023],aQ [0,0,0,6,8,0,0,96,128,0,512],(bz 0 9 (bE 9 (.take 10 [] .done)))⟩
def dtF (f r:Nat):Option af:=
  bif Nat.beq f 9 then (bif Nat.beq r 7 then some XR else bif Nat.beq r 12 then some TG else bif Nat.beq r 16 then some TH else bif Nat.beq r 24 then some TJ else bif Nat.beq r 27 then some TL else none) else
  bif Nat.beq f 18 then (bif Nat.beq r 5 then some TM else none) else
  bif Nat.beq f 19 then (bif Nat.beq r 9 then some TN else bif Nat.beq r 10 then some Oe else none) else
  bif Nat.beq f 24 then (bif Nat.beq r 6 then some TO else none) else
  bif Nat.beq f 27 then (bif Nat.beq r 4 then some TP else bif Nat.beq r 10 then some Of else none) else
  bif Nat.beq f 33 then (bif Nat.beq r 8 then some TQ else none) else
  bif Nat.beq f 47 then (bif Nat.beq r 11 then some Og else bif Nat.beq r 23 then some Oh else bif Nat.beq r 32 then some Oi else none) else
  bif Nat.beq f 50 then (bif Nat.beq r 5 then some TS else none) else
  bif Nat.beq f 52 then (bif Nat.beq r 1 then some TT else none) else
  bif Nat.beq f 56 then (bif Nat.beq r 13 then some Oj else none) else
  bif Nat.beq f 60 then (bif Nat.beq r 6 then some TU else none) else
  bif Nat.beq f 62 then (bif Nat.beq r 13 then some Ol else bif Nat.beq r 17 then some Om else none) else
  bif Nat.beq f 65 then (bif Nat.beq r 9 then some TV else none) else
  bif Nat.beq f 66 then (bif Nat.beq r 7 then some TW else bif Nat.beq r 9 then some TX else bif Nat.beq r 10 then some On else none) else
  bif Nat.beq f 67 then (bif Nat.beq r 9 then some TY else none) else
  bif Nat.beq f 68 then (bif Nat.beq r 5 then some TZ else none) else
  bif Nat.beq f 72 then (bif Nat.beq r 9 then some T0 else none) else
  bif Nat.beq f 82 then (bif Nat.beq r 14 then some Oo else none) else
  bif Nat.beq f 89 then (bif Nat.beq r 2 then some T1 else none) else
  bif Nat.beq f 92 then (bif Nat.beq r 1 then some T2 else none) else
  bif Nat.beq f 96 then (bif Nat.beq r 3 then some T7 else none) else
  bif Nat.beq f 99 then (bif Nat.beq r 4 then some T8 else none) else
  bif Nat.beq f 103 then (bif Nat.beq r 1 then some Oq else none) else
  bif Nat.beq f 105 then (bif Nat.beq r 6 then some Ot else bif Nat.beq r 11 then some KX else none) else
  bif Nat.beq f 111 then (bif Nat.beq r 5 then some Ou else bif Nat.beq r 8 then some Ov else none) else
  bif Nat.beq f 112 then (bif Nat.beq r 1 then some Ow else none) else
  bif Nat.beq f 117 then (bif Nat.beq r 6 then some Ox else none) else
  bif Nat.beq f 121 then (bif Nat.beq r 1 then some Oy else none) else
  bif Nat.beq f 126 then (bif Nat.beq r 4 then some Oz else none) else
  bif Nat.beq f 127 then (bif Nat.beq r 1 then some OA else none) else
  bif Nat.beq f 128 then (bif Nat.beq r 12 then some KY else bif Nat.beq r 22 then some KZ else none) else
  bif Nat.beq f 130 then (bif Nat.beq r 1 then some OB else none) else
  bif Nat.beq f 139 then (bif Nat.beq r 4 then some OC else none) else
  bif Nat.beq f 140 then (bif Nat.beq r 8 then some OD else none) else
  bif Nat.beq f 158 then (bif Nat.beq r 4 then some OE else none) else
  bif Nat.beq f 159 then (bif Nat.beq r 17 then some K0 else none) else
  bif Nat.beq f 168 then (bif Nat.beq r 1 then some OF else none) else
  bif Nat.beq f 170 then (bif Nat.beq r 1 then some OG else none) else
  bif Nat.beq f 171 then (bif Nat.beq r 1 then some OH else none) else
  bif Nat.beq f 172 then (bif Nat.beq r 4 then some OI else none) else
  bif Nat.beq f 175 then (bif Nat.beq r 1 then some OJ else none) else
  bif Nat.beq f 176 then (bif Nat.beq r 6 then some OK else bif Nat.beq r 8 then some OL else bif Nat.beq r 9 then some OM else none) else
  bif Nat.beq f 177 then (bif Nat.beq r 4 then some ON else none) else
  bif Nat.beq f 179 then (bif Nat.beq r 3 then some OO else none) else
  bif Nat.beq f 181 then (bif Nat.beq r 1 then some OP else none) else
  bif Nat.beq f 185 then (bif Nat.beq r 4 then some OQ else bif Nat.beq r 6 then some OR else none) else
  bif Nat.beq f 186 then (bif Nat.beq r 10 then some K1 else none) else
  bif Nat.beq f 187 then (bif Nat.beq r 10 then some K2 else none) else
  bif Nat.beq f 189 then (bif Nat.beq r 3 then some OS else none) else
  bif Nat.beq f 190 then (bif Nat.beq r 5 then some OT else bif Nat.beq r 11 then some K4 else bif Nat.beq r 16 then some K5 else bif Nat.beq r 17 then some K6 else bif Nat.beq r 22 then some K7 else bif Nat.beq r 23 then some K8 else none) else
  bif Nat.beq f 191 then (bif Nat.beq r 1 then some OU else bif Nat.beq r 3 then some OV else bif Nat.beq r 5 then some OW else bif Nat.beq r 8 then some OX else none) else
  bif Nat.beq f 192 then (bif Nat.beq r 1 then some OY else bif Nat.beq r 3 then some OZ else bif Nat.beq r 5 then some O0 else bif Nat.beq r 8 then some O1 else bif Nat.beq r 10 then some K9 else bif Nat.beq r 13 then some La else bif Nat.beq r 15 then some Lb else bif Nat.beq r 18 then some Lc else bif Nat.beq r 21 then some Ld else none) else
  bif Nat.beq f 201 then (bif Nat.beq r 0 then some O2 else none) else
  bif Nat.beq f 206 then (bif Nat.beq r 3 then some O3 else bif Nat.beq r 5 then some O4 else bif Nat.beq r 6 then some O5 else none) else
  bif Nat.beq f 208 then (bif Nat.beq r 1 then some O6 else bif Nat.beq r 2 then some O7 else bif Nat.beq r 3 then some O8 else none) else
  bif Nat.beq f 212 then (bif Nat.beq r 1 then some O9 else none) else
  bif Nat.beq f 213 then (bif Nat.beq r 6 then some Pa else bif Nat.beq r 11 then some Le else none) else
  bif Nat.beq f 217 then (bif Nat.beq r 7 then some Pb else bif Nat.beq r 8 then some Pc else bif Nat.beq r 9 then some Pd else bif Nat.beq r 10 then some Lf else bif Nat.beq r 17 then some Lg else bif Nat.beq r 18 then some Lh else bif Nat.beq r 23 then some Li else none) else
  bif Nat.beq f 228 then (bif Nat.beq r 1 then some Pe else none) else
  bif Nat.beq f 229 then (bif Nat.beq r 17 then some Lj else none) else
  bif Nat.beq f 237 then (bif Nat.beq r 4 then some Pf else bif Nat.beq r 6 then some Pg else none) else
  bif Nat.beq f 238 then (bif Nat.beq r 10 then some Lk else none) else
  bif Nat.beq f 239 then (bif Nat.beq r 10 then some Ll else none) else
  bif Nat.beq f 241 then (bif Nat.beq r 3 then some Ph else none) else
  bif Nat.beq f 242 then (bif Nat.beq r 5 then some Pj else bif Nat.beq r 11 then some Lm else bif Nat.beq r 16 then some Ln else bif Nat.beq r 17 then some Lo else bif Nat.beq r 22 then some Lp else bif Nat.beq r 23 then some Lq else none) else
  bif Nat.beq f 243 then (bif Nat.beq r 1 then some Pk else bif Nat.beq r 3 then some Pl else bif Nat.beq r 5 then some Pm else bif Nat.beq r 8 then some Pn else none) else
  bif Nat.beq f 244 then (bif Nat.beq r 1 then some Po else bif Nat.beq r 3 then some Pp else bif Nat.beq r 5 then some Pq else bif Nat.beq r 8 then some Pr else bif Nat.beq r 10 then some Lr else bif Nat.beq r 13 then some Ls else bif Nat.beq r 15 then some Lt else bif Nat.beq r 18 then some Lu else bif Nat.beq r 21 then some Lv else none) else
  bif Nat.beq f 247 then (bif Nat.beq r 3 then some Ps else bif Nat.beq r 5 then some Pt else bif Nat.beq r 6 then some Pu else none) else
  bif Nat.beq f 250 then (bif Nat.beq r 1 then some Pv else none) else none
def okF (f:Nat):Bool:=Nat.blt f 278&&!(([4,5,6,7,10,12,13,15,22,23,25,30,38,39,40,43,45,48,49,57,59,64,69,71,73,74,78,79,81,84,95,106,113,115,146,156,183]:List Nat).any (Nat.beq f))
theorem Lw:(List.range 278).all (fun f=>!okF f || match Tryz.prog.funcs[f]? with
  | some fn=>match fn.body with
    | some c=>bB (dtF f) c
    | none=>true
  | none=>true)=true:=by kernel_rfl
theorem Pw (f:FuncId) (fn:Func) (c:Code) (h:okF f=true) (hf:Tryz.prog.funcs[f]?=some fn) (hb:fn.body=some c):bB (dtF f) c=true:=by
  have bP:f < 278:=by
    have:Nat.blt f 278=true:=by
      rw [okF,Bool.and_eq_true] at h
      exact h.1
    exact Nat.le_of_ble_eq_true this
  have h1:=List.all_eq_true.1 Lw f (List.mem_range.2 bP)
  rw [h,hf] at h1
  simp only [hb] at h1
  simpa using h1
noncomputable def XS:NU:={ toEnv:=env,dt:=dtF,okF:=okF,R7:=Pw }
end Go.Proofs.YtfiopgedfcaodaaGreatDoor
