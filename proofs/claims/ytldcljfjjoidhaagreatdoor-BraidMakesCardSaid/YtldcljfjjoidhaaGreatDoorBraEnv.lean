/- The abstract machine's surroundings for this program: its types as a table (printed by a program of ours,checked by the kernel). -/
import Derived.Test.YtldcljfjjoidhaaGreatDoorProg
import Derived.Test.YtldcljfjjoidhaaGreatDoorAmKK
import Derived.KernelRfl
set_option linter.all false
open List renaming range→aao
open Nat renaming beq→aad
namespace Go.Proofs.YtldcljfjjoidhaaGreatDoor
open Go Go.Am
set_option maxRecDepth 100000
def zR (n:Nat) (x:AV):Option AV:=some (.agg (List.replicate n x))
def sK:Nat→Nat→Wy
  |0,_=>.nil
  |n+1,i=>.cons i 1 false .int (sK n (i+1))
def tB (t k : Nat) (a b : Option TI) : Option TI := bif Nat.ble t k then a else b
def tI (k : TK) (n : Nat) (a : Bool) (z : Option AV) (e : EK) : Option TI := some ⟨k, n, a, z, e⟩
def tiT (t : Nat) : Option TI :=
 tB t 154 (tB t 76 (tB t 37 (tB t 18 (tB t 8 (tB t 3 (tB t 1 (tB t 0 (tI (.sc) 1 false (some (.bu [])) (.no))
 (tI (.sc) 1 false (some (.cY)) (.no)))
 (tB t 2 (tI (.int .i64) 1 false (some (.int .i64 0)) (.int))
 (tI (.int .i64) 1 false (some (.int .i64 0)) (.int))))
 (tB t 5 (tB t 4 (tI (.sc) 1 false (some (.bool false)) (.bool))
 (tI (.int .u8) 1 false (some (.int .u8 0)) (.int)))
 (tB t 6 (tI (.int .u8) 1 false (some (.int .u8 0)) (.int))
 (tB t 7 (tI (.st [(0,1,false),(1,1,false),(2,1,false),(3,1,false)]) 4 true (some (.agg [.int .i64 0,.int .i64 0,.bool false,.int .u8 0])) ((.st (.cons 0 1 false .int (.cons 1 1 false .int (.cons 2 1 false .bool (.cons 3 1 false .int .nil)))))))
 (tI (.st [(0,1,false),(1,1,false),(2,1,false),(3,1,false)]) 4 true (some (.agg [.int .i64 0,.int .i64 0,.bool false,.int .u8 0])) ((.st (.cons 0 1 false .int (.cons 1 1 false .int (.cons 2 1 false .bool (.cons 3 1 false .int .nil)))))))))))
 (tB t 13 (tB t 10 (tB t 9 (tI (.str) 1 false (some (.str [])) (.str))
 (tI (.str) 1 false (some (.str [])) (.str)))
 (tB t 11 (tI (.str) 1 false (some (.str [])) (.str))
 (tB t 12 (tI (.int .u64) 1 false (some (.int .u64 0)) (.int))
 (none))))
 (tB t 15 (tB t 14 (none)
 (tI (.sc) 1 false (some (.jI)) (.no)))
 (tB t 16 (tI (.sc) 1 false (some (.jI)) (.no))
 (tB t 17 (tI (.sc) 1 false (some (.jI)) (.no))
 (none))))))
 (tB t 27 (tB t 22 (tB t 20 (tB t 19 (none)
 (tI (.sc) 1 false (some (.qb)) (.no)))
 (tB t 21 (tI (.int .i32) 1 false (some (.int .i32 0)) (.int))
 (tI (.sl 106 3 true 24 (some (.agg [.int .i64 0,.int .i64 0,.int .i64 0]))) 1 false (some (.list .nil 0 [])) (.no))))
 (tB t 24 (tB t 23 (none)
 (tI (.sc) 1 false (some (.cY)) (.no)))
 (tB t 25 (tI (.sl 104 3 true 24 (some (.agg [.int .i64 0,.int .i64 0,.int .i64 0]))) 1 false (some (.list .nil 0 [])) (.no))
 (tB t 26 (tI (.int .i64) 1 false (some (.int .i64 0)) (.int))
 (tI (.sc) 1 false (some (.bu [.list .nil 0 [],.int .i64 0])) (.no))))))
 (tB t 32 (tB t 29 (none)
 (tB t 30 (tI (.sl 44 2 true 16 (some (.agg [.int .i64 0,.int .i64 0]))) 1 false (some (.list .nil 0 [])) (.no))
 (tB t 31 (tI (.sc) 1 false (some (.bu [.list .nil 0 [],.int .i64 0])) (.no))
 (tI (.sc) 1 false (some (.cY)) (.no)))))
 (tB t 34 (tB t 33 (tI (.sc) 1 false (some (.bu [.int .i64 0,.int .i64 0])) (.no))
 (none))
 (tB t 35 (none)
 (tB t 36 (tI (.sl 108 3 true 24 (some (.agg [.int .i64 0,.int .i64 0,.int .i64 0]))) 1 false (some (.list .nil 0 [])) (.no))
 (none)))))))
 (tB t 56 (tB t 46 (tB t 41 (tB t 39 (none)
 (tB t 40 (tI (.sc) 1 false (some (.cY)) (.no))
 (none)))
 (tB t 43 (tB t 42 (none)
 (tI (.sl 88 5 true 32 (some (.agg [.int .i64 0,.int .i64 0,.bool false,.bool false,.int .i64 0]))) 1 false (some (.list .nil 0 [])) (.no)))
 (tB t 44 (tI (.arr 2 1 false) 2 true (some (.agg [.int .i64 0,.int .i64 0])) ((.st (sK 2 0))))
 (tB t 45 (tI (.sc) 1 false (some (.cY)) (.no))
 (none)))))
 (tB t 51 (tB t 48 (tB t 47 (tI (.st [(0,1,false),(1,1,false),(2,1,false),(3,1,false)]) 4 true (zR 4 (.int .i64 0)) ((.st (sK 4 0))))
 (tI (.sc) 1 false (none) (.no)))
 (tB t 49 (tI (.sc) 1 false (some (.cY)) (.no))
 (tB t 50 (tI (.sl 90 5 true 32 (some (.agg [.int .i64 0,.int .i64 0,.bool false,.bool false,.int .i64 0]))) 1 false (some (.list .nil 0 [])) (.no))
 (tI (.sc) 1 false (some (.cY)) (.no)))))
 (tB t 53 (tB t 52 (tI (.sc) 1 false (some (.bu [.str [],.int .i64 0])) (.no))
 (tI (.sc) 1 false (some (.cY)) (.no)))
 (tB t 54 (tI (.sc) 1 false (some (.bu [.list .nil 0 [],.int .i64 0,.int .i64 0])) (.no))
 (tB t 55 (tI (.sc) 1 false (some (.cY)) (.no))
 (tI (.sc) 1 false (some (.cY)) (.no)))))))
 (tB t 66 (tB t 61 (tB t 58 (tB t 57 (tI (.sc) 1 false (some (.cY)) (.no))
 (tI (.sc) 1 false (some (.cY)) (.no)))
 (tB t 59 (tI (.sl 3 1 false 8 (some (.int .i64 0))) 1 false (some (.list .nil 0 [])) (.no))
 (none)))
 (tB t 63 (tB t 62 (none)
 (tI (.sc) 1 false (some (.bu [.list .nil 0 [],.int .i64 0,.int .i64 0])) (.no)))
 (tB t 64 (tI (.sc) 1 false (some (.cY)) (.no))
 (tB t 65 (tI (.sc) 1 false (some (.cY)) (.no))
 (none)))))
 (tB t 71 (tB t 68 (tB t 67 (none)
 (tI (.sc) 1 false (some (.bu [.list .nil 0 [],.int .i64 0])) (.no)))
 (tB t 69 (none)
 (tB t 70 (tI (.sc) 1 false (some (.bu [.list .nil 0 [],.int .i64 0])) (.no))
 (none))))
 (tB t 73 (tB t 72 (tI (.sl 86 2 true 16 (some (.agg [.int .i64 0,.int .i64 0]))) 1 false (some (.list .nil 0 [])) (.no))
 (tI (.sc) 1 false (some (.cY)) (.no)))
 (tB t 74 (none)
 (tB t 75 (tI (.sc) 1 false (some (.bu [.list .nil 0 [],.int .i64 0])) (.no))
 (none))))))))
 (tB t 115 (tB t 95 (tB t 85 (none)
 (tB t 90 (tB t 87 (tB t 86 (tI (.st [(0,1,false),(1,1,false)]) 2 true (some (.agg [.int .i64 0,.int .i64 0])) ((.st (sK 2 0))))
 (none))
 (tB t 88 (tI (.st [(0,2,true),(2,1,false),(3,1,false),(4,1,false)]) 5 true (some (.agg [.int .i64 0,.int .i64 0,.bool false,.bool false,.int .i64 0])) ((.st (.cons 0 2 true (.st (sK 2 0)) (.cons 2 1 false .bool (.cons 3 1 false .bool (.cons 4 1 false .int .nil)))))))
 (tB t 89 (none)
 (tI (.st [(0,2,true),(2,1,false),(3,1,false),(4,1,false)]) 5 true (some (.agg [.int .i64 0,.int .i64 0,.bool false,.bool false,.int .i64 0])) ((.st (.cons 0 2 true (.st (sK 2 0)) (.cons 2 1 false .bool (.cons 3 1 false .bool (.cons 4 1 false .int .nil))))))))))
 (none)))
 (tB t 105 (tB t 100 (tB t 97 (tB t 96 (none)
 (tI (.sc) 1 false (some (.bu [.list .nil 0 [],.int .i64 0])) (.no)))
 (tB t 98 (tI (.sc) 1 false (some (.cY)) (.no))
 (tB t 99 (tI (.sc) 1 false (some (.cY)) (.no))
 (tI (.sc) 1 false (some (.bu [.list .nil 0 [],.int .i64 0])) (.no)))))
 (tB t 102 (tB t 101 (tI (.sc) 1 false (some (.cY)) (.no))
 (tI (.sc) 1 false (some (.cY)) (.no)))
 (tB t 103 (tI (.st [(0,1,false),(1,1,false),(2,1,false)]) 3 true (some (.agg [.int .i64 0,.int .i64 0,.int .i64 0])) ((.st (sK 3 0))))
 (tB t 104 (tI (.st [(0,1,false),(1,1,false),(2,1,false)]) 3 true (some (.agg [.int .i64 0,.int .i64 0,.int .i64 0])) ((.st (sK 3 0))))
 (tI (.st [(0,1,false),(1,1,false),(2,1,false)]) 3 true (some (.agg [.int .i64 0,.int .i64 0,.int .i64 0])) ((.st (sK 3 0))))))))
 (tB t 110 (tB t 107 (tB t 106 (tI (.st [(0,1,false),(1,1,false),(2,1,false)]) 3 true (some (.agg [.int .i64 0,.int .i64 0,.int .i64 0])) ((.st (sK 3 0))))
 (tI (.sc) 1 false (some (.cY)) (.no)))
 (tB t 108 (tI (.st [(0,1,false),(1,1,false),(2,1,false)]) 3 true (some (.agg [.int .i64 0,.int .i64 0,.int .i64 0])) ((.st (sK 3 0))))
 (tB t 109 (tI (.sc) 1 false (some (.cY)) (.no))
 (tI (.sc) 1 false (some (.cY)) (.no)))))
 (tB t 112 (tB t 111 (tI (.sc) 1 false (some (.cY)) (.no))
 (tI (.sc) 1 false (some (.cY)) (.no)))
 (tB t 113 (tI (.sc) 1 false (some (.cY)) (.no))
 (tB t 114 (tI (.sc) 1 false (some (.cY)) (.no))
 (tI (.sc) 1 false (some (.cY)) (.no))))))))
 (tB t 134 (tB t 124 (tB t 119 (tB t 117 (tB t 116 (tI (.sc) 1 false (some (.cY)) (.no))
 (tI (.sc) 1 false (some (.cY)) (.no)))
 (tB t 118 (tI (.sc) 1 false (some (.cY)) (.no))
 (tI (.int .i8) 1 false (some (.int .i8 0)) (.int))))
 (tB t 121 (tB t 120 (tI (.arr 3 1 false) 3 true (some (.agg [.int .i8 0,.int .i8 0,.int .i8 0])) ((.st (sK 3 0))))
 (tI (.sc) 1 false (some (.bu [.list .nil 0 [],.bool false])) (.no)))
 (tB t 122 (tI (.sc) 1 false (some (.cY)) (.no))
 (none))))
 (tB t 129 (tB t 126 (none)
 (tB t 127 (none)
 (tB t 128 (tI (.sc) 1 false (some (.cY)) (.no))
 (none))))
 (tB t 131 (tB t 130 (tI (.sl 22 1 false 24 (some (.list .nil 0 []))) 1 false (some (.list .nil 0 [])) (.no))
 (tI (.sc) 1 false (some (.bu [.list .nil 0 [],.int .i64 0])) (.no)))
 (tB t 132 (none)
 (tB t 133 (tI (.arr 5 1 false) 5 true (zR 5 (.int .i64 0)) ((.st (sK 5 0))))
 (tI (.sc) 1 false (none) (.no)))))))
 (tB t 144 (tB t 139 (none)
 (tB t 141 (none)
 (tB t 142 (none)
 (tB t 143 (tI (.sc) 1 false (some (.jI)) (.no))
 (tI (.sl 5 1 false 1 (some (.int .u8 0))) 1 false (some (.list .nil 0 [])) (.no))))))
 (tB t 149 (tB t 146 (tB t 145 (none)
 (tI (.st [(0,1,false),(1,1,false)]) 2 true (some (.agg [.jI,.list .nil 0 []])) ((.st (.cons 0 1 false .no (.cons 1 1 false .no .nil))))))
 (tB t 147 (none)
 (tB t 148 (tI (.sc) 1 false (some (.qb)) (.no))
 (tI (.sc) 1 false (some (.bu [.int .i64 0,.qb])) (.no)))))
 (tB t 151 (none)
 (tB t 152 (none)
 (tB t 153 (none)
 (tI (.map 106 4 (some (.bool false))) 1 false (some (.lX)) (.no))))))))))
 (tB t 232 (tB t 193 (tB t 173 (tB t 163 (tB t 158 (tB t 156 (tB t 155 (tI (.st [(0,1,false),(1,1,false),(2,5,true)]) 7 true (some (.agg [.lX,.int .i64 0,.int .i64 0,.int .i64 0,.bool false,.bool false,.int .i64 0])) ((.st (.cons 0 1 false .no (.cons 1 1 false .int (.cons 2 5 true (.st (.cons 0 2 true (.st (sK 2 0)) (.cons 2 1 false .bool (.cons 3 1 false .bool (.cons 4 1 false .int .nil))))) .nil))))))
 (tI (.st [(0,1,false),(1,1,false),(2,5,true)]) 7 true (some (.agg [.lX,.int .i64 0,.int .i64 0,.int .i64 0,.bool false,.bool false,.int .i64 0])) ((.st (.cons 0 1 false .no (.cons 1 1 false .int (.cons 2 5 true (.st (.cons 0 2 true (.st (sK 2 0)) (.cons 2 1 false .bool (.cons 3 1 false .bool (.cons 4 1 false .int .nil))))) .nil)))))))
 (tB t 157 (tI (.sc) 1 false (some (.bu [.str [],.str [],.bool false])) (.no))
 (none)))
 (tB t 160 (tB t 159 (tI (.sc) 1 false (some (.cY)) (.no))
 (none))
 (tB t 161 (none)
 (tB t 162 (none)
 (tI (.sl 9 1 false 16 (some (.str []))) 1 false (some (.list .nil 0 [])) (.no))))))
 (tB t 168 (tB t 165 (none)
 (tB t 166 (none)
 (tB t 167 (tI (.arr 2 2 true) 4 true (zR 4 (.int .i64 0)) ((.st (.cons 0 2 true (.st (sK 2 0)) (.cons 2 2 true (.st (sK 2 0)) .nil)))))
 (none))))
 (tB t 170 (tB t 169 (tI (.map 86 4 (some (.bool false))) 1 false (some (.lX)) (.no))
 (none))
 (tB t 171 (none)
 (tB t 172 (tI (.sc) 1 false (some (.cY)) (.no))
 (none))))))
 (tB t 183 (tB t 178 (tB t 175 (none)
 (tB t 176 (tI (.sc) 1 false (some (.cY)) (.no))
 (tB t 177 (tI (.sl 179 10 true 64 (some (.agg [.int .i64 0,.int .i64 0,.bool false,.bool false,.int .i64 0,.int .i64 0,.int .i64 0,.bool false,.bool false,.int .i64 0]))) 1 false (some (.list .nil 0 [])) (.no))
 (none))))
 (tB t 180 (tB t 179 (tI (.arr 2 5 true) 10 true (some (.agg [.int .i64 0,.int .i64 0,.bool false,.bool false,.int .i64 0,.int .i64 0,.int .i64 0,.bool false,.bool false,.int .i64 0])) ((.st (.cons 0 5 true (.st (.cons 0 2 true (.st (sK 2 0)) (.cons 2 1 false .bool (.cons 3 1 false .bool (.cons 4 1 false .int .nil))))) (.cons 5 5 true (.st (.cons 0 2 true (.st (sK 2 0)) (.cons 2 1 false .bool (.cons 3 1 false .bool (.cons 4 1 false .int .nil))))) .nil)))))
 (tI (.sc) 1 false (some (.cY)) (.no)))
 (none)))
 (tB t 188 (tB t 185 (tB t 184 (tI (.sc) 1 false (some (.cY)) (.no))
 (none))
 (tB t 186 (tI (.sc) 1 false (some (.cY)) (.no))
 (tB t 187 (tI (.sl 26 1 false 8 (some (.int .i64 0))) 1 false (some (.list .nil 0 [])) (.no))
 (tI (.sc) 1 false (some (.cY)) (.no)))))
 (tB t 190 (tB t 189 (tI (.sc) 1 false (some (.cY)) (.no))
 (tI (.sc) 1 false (some (.cY)) (.no)))
 (tB t 191 (tI (.sc) 1 false (some (.cY)) (.no))
 (tB t 192 (tI (.int .u64) 1 false (some (.int .u64 0)) (.int))
 (tI (.map 86 3 (some (.int .i64 0))) 1 false (some (.lX)) (.no))))))))
 (tB t 212 (tB t 202 (tB t 197 (none)
 (tB t 199 (tB t 198 (none)
 (tI (.sc) 1 false (some (.jI)) (.no)))
 (tB t 200 (tI (.sc) 1 false (some (.jI)) (.no))
 (tB t 201 (none)
 (tI (.sl 205 1 true 8 (some (.agg [.cY]))) 1 false (some (.list .nil 0 [])) (.no))))))
 (tB t 207 (tB t 204 (none)
 (tB t 205 (tI (.st [(0,1,false)]) 1 true (some (.agg [.cY])) ((.st (.cons 0 1 false .no .nil))))
 (tB t 206 (tI (.sc) 1 false (some (.jI)) (.no))
 (none))))
 (tB t 209 (tB t 208 (tI (.sc) 1 false (some (.cY)) (.no))
 (tI (.sc) 1 false (some (.cY)) (.no)))
 (tB t 210 (none)
 (tB t 211 (none)
 (tI (.sc) 1 false (some (.bu [.int .i64 0,.bool false])) (.no)))))))
 (tB t 222 (none)
 (tB t 227 (tB t 224 (tB t 223 (tI (.int .i64) 1 false (some (.int .i64 0)) (.int))
 (tI (.sc) 1 false (some (.bu [.int .i64 0,.int .i64 0])) (.no)))
 (none))
 (tB t 229 (none)
 (tB t 230 (tI (.int .u32) 1 false (some (.int .u32 0)) (.int))
 (tB t 231 (none)
 (tI (.int .u64) 1 false (some (.int .u64 0)) (.int)))))))))
 (tB t 271 (tB t 251 (tB t 241 (tB t 236 (tB t 234 (tB t 233 (tI (.arr 4 3 true) 12 true (zR 12 (.int .i64 0)) ((.st (.cons 0 3 true (.st (sK 3 0)) (.cons 3 3 true (.st (sK 3 0)) (.cons 6 3 true (.st (sK 3 0)) (.cons 9 3 true (.st (sK 3 0)) .nil)))))))
 (none))
 (none))
 (tB t 238 (tB t 237 (tI (.sc) 1 false (some (.cY)) (.no))
 (none))
 (tB t 239 (tI (.sc) 1 false (some (.cY)) (.no))
 (tB t 240 (tI (.sc) 1 false (some (.jI)) (.no))
 (none)))))
 (tB t 246 (tB t 243 (none)
 (tB t 244 (none)
 (tB t 245 (none)
 (tI (.sc) 1 false (some (.jI)) (.no)))))
 (tB t 248 (tB t 247 (none)
 (tI (.sc) 1 false (some (.jI)) (.no)))
 (tB t 249 (tI (.sc) 1 false (some (.cY)) (.no))
 (tB t 250 (none)
 (tI (.int .u64) 1 false (some (.int .u64 0)) (.int)))))))
 (tB t 261 (tB t 256 (tB t 253 (none)
 (tB t 254 (none)
 (tB t 255 (none)
 (tI (.sc) 1 false (some (.cY)) (.no)))))
 (none))
 (tB t 266 (tB t 263 (tB t 262 (none)
 (tI (.arr 24 1 false) 24 true (zR 24 (.int .u8 0)) ((.st (sK 24 0)))))
 (tB t 264 (none)
 (tB t 265 (tI (.sc) 1 false (some (.bu [.list .nil 0 [],.str []])) (.no))
 (none))))
 (tB t 268 (none)
 (tB t 269 (none)
 (tB t 270 (tI (.sc) 1 false (some (.bu [.str [],.bool false])) (.no))
 (none)))))))
 (tB t 290 (tB t 280 (tB t 275 (tB t 273 (tB t 272 (tI (.sc) 1 false (some (.jI)) (.no))
 (tI (.sc) 1 false (some (.bu [.int .i64 0,.int .i64 0])) (.no)))
 (none))
 (none))
 (tB t 285 (tB t 282 (tB t 281 (none)
 (tI (.arr 20 1 false) 20 true (zR 20 (.int .u64 0)) ((.st (sK 20 0)))))
 (tB t 283 (tI (.arr 65 1 false) 65 true (zR 65 (.int .u8 0)) ((.st (sK 65 0))))
 (tB t 284 (tI (.sc) 1 false (some (.bu [.int .u32 0,.int .u32 0])) (.no))
 (none))))
 (tB t 287 (tB t 286 (tI (.sc) 1 false (some (.bu [.int .i32 0,.int .i64 0])) (.no))
 (none))
 (none))))
 (tB t 300 (tB t 295 (tB t 292 (none)
 (tB t 293 (tI (.arr 32 1 false) 32 true (zR 32 (.int .u8 0)) ((.st (sK 32 0))))
 (tB t 294 (tI (.arr 64 1 false) 64 true (zR 64 (.int .u8 0)) ((.st (sK 64 0))))
 (tI (.arr 256 1 false) 256 true (zR 256 (.int .u8 0)) ((.st (sK 256 0)))))))
 (tB t 297 (tB t 296 (none)
 (tI (.st [(0,1,false),(1,1,false)]) 2 true (some (.agg [.int .u8 0,.int .u8 0])) ((.st (sK 2 0)))))
 (tB t 298 (tI (.arr 16 2 true) 32 true (zR 32 (.int .u8 0)) ((.st (.cons 0 2 true (.st (sK 2 0)) (.cons 2 2 true (.st (sK 2 0)) (.cons 4 2 true (.st (sK 2 0)) (.cons 6 2 true (.st (sK 2 0)) (.cons 8 2 true (.st (sK 2 0)) (.cons 10 2 true (.st (sK 2 0)) (.cons 12 2 true (.st (sK 2 0)) (.cons 14 2 true (.st (sK 2 0)) (.cons 16 2 true (.st (sK 2 0)) (.cons 18 2 true (.st (sK 2 0)) (.cons 20 2 true (.st (sK 2 0)) (.cons 22 2 true (.st (sK 2 0)) (.cons 24 2 true (.st (sK 2 0)) (.cons 26 2 true (.st (sK 2 0)) (.cons 28 2 true (.st (sK 2 0)) (.cons 30 2 true (.st (sK 2 0)) .nil)))))))))))))))))))
 (none))))
 (none)))))
def tiF (t:Nat):Option TI:=bif Nat.ble 311 t then none else tiT t
theorem SE:(aao 311).map (fun t=>match tiF t with | none=>none | some _=>KP Tryz.prog t)=(aao 311).map tiF:=by kernel_rfl
theorem KQ (t:TypeId) (i:TI) (h:tiF t=some i):KP Tryz.prog t=some i:=by
  by_cases ht:t < 311
  · have h1:=congrArg (fun l=>l[t]?) SE
    simp only [List.getElem?_map,List.getElem?_range ht,Option.map_some,Option.some.injEq] at h1
    rw [h] at h1
    exact h1
  · have hb:Nat.ble 311 t=true:=Nat.ble_eq_true_of_le (Nat.not_lt.1 ht)
    rw [tiF,hb] at h
    cases h
def ads:List ((Nat × Nat) × List (Option Nat × Nat × Nat)):=[((15,10),[(none,1,3)]),((106,3),[(none,3,106)]),((138,3),[(none,2,86)])]
def Xa:List ((Nat × Nat) × List (Option Nat × Nat × Nat))→Nat→Nat→List (Option Nat × Nat × Nat)
  |[],_,_=>[]
  |((a,b),x) :: l,f,t=>bif aad a f&&aad b t then x else Xa l f t
def ahm (f t:Nat):List (Option Nat × Nat × Nat):=Xa ads f t
def ahn (f t:Nat):Bool:=
  (aad f 1000000&&aad t 1000000) ||
  (aad f 29&&(aad t 5)) ||
  (aad f 30&&(aad t 5 || aad t 11)) ||
  (aad f 42&&(aad t 131072)) ||
  (aad f 48&&(aad t 3)) ||
  (aad f 55&&(aad t 65545)) ||
  (aad f 57&&(aad t 8 || aad t 9 || aad t 196647)) ||
  (aad f 69&&(aad t 196638 || aad t 262206)) ||
  (aad f 91&&(aad t 131072)) ||
  (aad f 100&&(aad t 2 || aad t 4)) ||
  (aad f 115&&(aad t 1)) ||
  (aad f 122&&(aad t 131072)) ||
  (aad f 130&&(aad t 196634 || aad t 262211)) ||
  (aad f 134&&(aad t 65545)) ||
  (aad f 138&&(aad t 6 || aad t 262160)) ||
  (aad f 143&&(aad t 1 || aad t 18)) ||
  (aad f 145&&(aad t 1)) ||
  (aad f 150&&(aad t 2)) ||
  (aad f 163&&(aad t 7)) ||
  (aad f 164&&(aad t 9)) ||
  (aad f 178&&(aad t 262148 || aad t 393220)) ||
  (aad f 181&&(aad t 5)) ||
  (aad f 204&&(aad t 9)) ||
  (aad f 205&&(aad t 11)) ||
  (aad f 214&&(aad t 12)) ||
  (aad f 229&&(aad t 9)) ||
  (aad f 230&&(aad t 11))
def Xb:dc:=[]
theorem SF:Xb.all (fun p=>bg p.2)=true:=by kernel_rfl
def adt (g:Nat):Option (List AV):=eF Xb g
noncomputable def env:Env:={ P:=Tryz.prog,ti:=tiF,cw:=adt,Dt:=ahn,RM:=fun _=>none,gho:=ahm,KQ:=KQ,mixed:=by kernel_rfl,qh:=fun _ _ h=>RT SF h }
def aN (l:List Nat):List (List Nat):=l.map fun m=>(aao (m.log2+1)).filter m.testBit
def bB (a:Nat):Nat→DT→DT
 | 0,t=>t
 | n+1,t=>DS (a+1) fun b=>.take a [] (bB b n t)
def bz (i:Nat) (t:DT):DT:=.br i [] [] t .stop
def YT:af:=⟨aN [0,1,0,4,12,28,0,124,255,511,1023,2047,1023,5119,16383,32767,65535,131071,131071,524287,1048575,2097151,131071,4325375,16777215,33554431,67108863,134217727,134217727,536870911,1073741823,2147483647,134217727,4429185023,134217727,17314086911,64558727167,137438953471,274877906943,549755813887,1099511627775,1099511627775,4398046511103,8796093022207,17592186044415,35184372088831,70368744177663,70368744177663,281474976710655,562949953421311,1125899906842623,2251799813685247,70368744177663,4573968371548159,18014398509481983,36028797018963967,72057594037927935,144115188075855871,288230376151711743,288230376151711743,1152921504606846975,2305843009213693951,4611686018427387903,9223372036854775807,18446744073709551615,36893488147419103231,36893488147419103231,147573952589676412927,295147905179352825855,590295810358705651711,1180591620717411303423,36893488147419103231,2398076729582241710079,9444732965739290427391,18889465931478580854783,37778931862957161709567],aN [0,1,0,4,8,16,0,96,130,256,512,1536,512,4608,10752,16896,32768,65536,65536,458752,589824,0,65536,4259840,10551296,16842752,33554432,67108864,67108864,469762048,603979776,1140850688,67108864,4362076160,67108864,17246978048,43016781824,70934069248,137506062336,274877906944,549755813888,549755813888,3848290697216,4947802324992,9345848836096,18141941858304,35184372088832,35184372088832,246290604621824,316659348799488,598134325510144,1161084278931456,35184372088832,4538783999459328,11294183440515072,18050132637384704,36029346774777856,72057594037927936,144115188075855872,144115188075855872,1008806316530991104,1297036692682702848,2449958197289549824,4755801206503243776,9367487224930631680,18446744073709551616,18446744073709551616,129127208515966861312,166020696663385964544,313594649253062377472,608742554432415203328,18446744073709551616,2379629985508532158464,5921404847660766068736,9463323825001075834880,18889610046666656710656],(bB 0 21 (.take 22 [] (.take 23 [23] (.br 21 [23] [] (bB 24 52 .done) .stop))))⟩
def YU:af:=⟨aN [0,0,0,0,12,28,60,126,254,511,1023],aN [0,0,0,0,12,16,32,0,128,0,513],(bB 0 7 (bz 7 (.take 8 [] (bz 9 (.take 10 [] .done)))))⟩
def YV:af:=⟨aN [0,1,3,7,15,31,63,127,255,511,511,1535,3583,8191,16383,32767,511,66047,197119,459263,1048575,2097151,4194303,8388607],aN [0,1,2,4,8,0,40,72,128,256,256,1280,2304,4864,8448,16640,256,65792,131328,262400,557312,1048832,2097408,4194304],(bB 0 5 (bz 5 (bB 6 18 .done)))⟩
def SG:af:=⟨aN [0,0,0,4,12,0,32,96,0,256,992,2046,4094,8191,16383],aN [0,0,0,4,8,0,32,64,0,256,640,1042,2048,0,8193],(bB 0 13 (bz 13 (.take 14 [] .done)))⟩
def YW:af:=⟨aN [0,0,0,6,14,30,0,0,128,448,960,1984,4094,0,0,24576,57344,122880,0,0,524288,1835008,3932160,8126464,16769024,33554430,67108862,134217727,268435455],aN [0,0,0,6,8,16,0,0,128,320,512,1024,2080,0,0,24576,32768,65536,0,0,524288,1310720,2097152,4194304,8519680,16781312,33554432,0,134217729],(bB 0 27 (bz 27 (.take 28 [] .done)))⟩
def YX:af:=⟨aN [0,1,3,7,7,23,63,127,7,7,775,1799,4095,8191,16383],aN [0,1,2,4,4,20,44,68,4,4,772,1028,0,4100,8196],(bB 0 12 (bz 12 (bB 13 2 .done)))⟩
def YY:af:=⟨aN [0,1,3,7,15,31,0,64,192,463,1023,2047,0,4096,13263,32767,65535,0,131072,422863,1048575,2097151,0,4194304,13530063,33554431,67108863,134217727],aN [0,1,2,0,8,16,0,64,128,0,544,1024,0,4096,0,18432,32768,0,131072,0,589824,1048576,0,4194304,0,18874368,33554432,0],(bB 0 3 (bB 6 2 (.take 8 [8] (.take 12 [8] (.take 13 [13,8] (.take 17 [13,8] (.take 18 [18,13,8] (.take 22 [18,13,8] (.take 23 [23,18,13,8] (.br 3 [23,18,13,8] [23,18,13] (.take 4 [23,18,13] (.take 5 [23,18,13] (.br 9 [23,18,13] [23,18] (.take 10 [23,18] (.take 11 [23,18] (.br 14 [23,18] [23] (.take 15 [23] (.take 16 [23] (.br 19 [23] [] (bB 20 2 (bz 24 (bB 25 2 (bz 27 .done)))) .stop))) .stop))) .stop))) .stop))))))))))⟩
def YZ:af:=⟨aN [0,0,3,0,0,24,56,127,255],aN [0,0,3,0,0,24,32,0,128],(bB 0 7 (bz 7 (.take 8 [] .done)))⟩
def SH:af:=⟨aN [0,1,0,4,12,28,63,127,255,255,1023,2047,4095],aN [0,1,0,4,8,16,34,64,128,128,896,1152,2176],(bB 0 13 .done)⟩
def Y0:af:=⟨aN [0,1,3,7,7,23,63,127,255,7,7,1543,3591,7687,16383,32767],aN [0,1,2,4,4,20,44,68,0,4,4,1540,2052,4100,8452,16388],(bB 0 8 (bB 9 4 (.take 13 [13] (.br 8 [13] [] (bB 14 2 .done) .stop))))⟩
def Y1:af:=⟨aN [0,0,3,7,0,0,48,112,255],aN [0,0,3,4,0,0,48,64,136],(bB 0 9 .done)⟩
def Y2:af:=⟨aN [0,0,3,7,0,0,48,112,255],aN [0,0,3,4,0,0,48,64,136],(bB 0 9 .done)⟩
def Y3:af:=⟨aN [0,0,3,7,0,0,48,112,255],aN [0,0,3,4,0,0,48,64,136],(bB 0 9 .done)⟩
def Y4:af:=⟨aN [0,1,3,0,8,31,63,127,255],aN [0,1,0,0,8,0,36,0,128],(bB 0 2 (.take 3 [] (.take 4 [4] (.br 2 [4] [] (bz 5 (.take 6 [] (bz 7 (.take 8 [] .done)))) .stop))))⟩
def Y5:af:=⟨aN [0,1,0,4,0,19,63],aN [0,1,0,4,0,0,8],(.take 0 [0] (.take 1 [1,0] (.take 2 [2,1,0] (.take 3 [3,2,1,0] (.br 4 [3,2,1,0] [3] (.br 5 [3] [] (.take 6 [] .done) .stop) .stop)))))⟩
def SI:af:=⟨aN [0,0,0,0,0,0,56,0,0,0,1016,2040,3,8191,16383],aN [0,0,0,0,0,0,0,0,0,0,0,1088,3,4100,0],(.take 0 [0] (.take 1 [0] (.take 2 [0] (.take 3 [0] (.take 4 [0] (.take 5 [0] (.take 7 [0] (.take 8 [0] (.take 9 [0] (.take 12 [0] (.br 6 [0] [0] (.br 10 [0] [] (.take 11 [] (.take 13 [] (bz 14 .done))) .stop) .stop)))))))))))⟩
def SJ:af:=⟨aN [0,1,3,7,0,16,48,112,255],aN [0,1,2,4,0,16,32,64,136],(bB 0 9 .done)⟩
def Y6:af:=⟨aN [0,0,2,7,15,31,31,127,255,31,31,1567,3615,8191,16383],aN [0,0,2,5,8,16,16,112,144,16,16,1552,2064,0,8208],(bB 0 13 (bz 13 (.take 14 [] .done)))⟩
def Y7:af:=⟨aN [0,0,2,7,15,31,31,127,255,31,31,1567,3615,8191,16383],aN [0,0,2,5,8,16,16,112,144,16,16,1552,2064,4368,8208],(bB 0 15 .done)⟩
def Y8:af:=⟨aN [0,0,0,6,15,0,0,96,224,480,1023,0,0,6144,16383,32767],aN [0,0,0,6,0,0,0,96,128,256,0,0,0,6144,0,18434],(bB 0 4 (bB 5 3 (.take 8 [8] (.take 9 [8] (.take 11 [8] (.take 12 [8] (.take 13 [8] (.br 4 [8] [] (bz 10 (bz 14 (.take 15 [] .done))) .stop))))))))⟩
def Y9:af:=⟨aN [0,1,0,4,15,31,31,95,223,511,1023,31,4095,8191,16383,32767,65535,131071,262143],aN [0,0,0,4,8,16,16,80,144,304,528,16,0,4112,8208,0,32770,0,131072],(.take 0 [] (bB 2 2 (bz 1 (bB 4 8 (bz 12 (bB 13 2 (bz 15 (.take 16 [] (bz 17 (.take 18 [] .done))))))))))⟩
def Za:af:=⟨aN [0,1,3,7,7,23,63,127,255,7,519,2047,4095],aN [0,1,2,4,4,20,44,68,0,4,516,1284,2052],(bB 0 8 (.take 9 [] (.take 10 [10] (.br 8 [10] [] (bB 11 2 .done) .stop))))⟩
def Zb:af:=⟨aN [0,1,3,7,15,0,32,96,224,480,1023,2047],aN [0,1,2,4,0,0,32,64,128,256,0,1024],(bB 0 4 (bB 5 3 (.take 8 [8] (.take 9 [9,8] (.br 4 [9,8] [] (bz 10 (.take 11 [] .done)) .stop)))))⟩
def Zc:af:=⟨aN [0,1,0,0,12,28,63,127],aN [0,1,0,0,12,16,0,64],(bB 0 6 (bz 6 (.take 7 [] .done)))⟩
def SK:af:=⟨aN [0,1,3,7,15,31,0,127,255,511,1023],aN [0,1,2,4,8,0,0,0,160,0,512],(bB 0 5 (.take 6 [6] (.br 5 [6] [] (bz 7 (.take 8 [] (bz 9 (.take 10 [] .done)))) .stop)))⟩
def SL:af:=⟨aN [0,1,3,7,15,31,63,127,63,319,831,1855,4095,8191,16383],aN [0,1,2,4,8,16,32,0,32,288,544,1056,0,4256,8224],(bB 0 7 (.take 8 [8] (.take 9 [8] (.take 10 [8] (.take 11 [11,8] (.br 7 [11,8] [] (bz 12 (bB 13 2 .done)) .stop))))))⟩
def SM:af:=⟨aN [0,1,3,7,0,31],aN [0,1,2,4,0,24],(bB 0 6 .done)⟩
def NZ:af:=⟨aN [0,1,3,7,15,0,32,127,255],aN [0,1,2,4,8,0,32,80,128],(bB 0 9 .done)⟩
def N0:af:=⟨aN [0,1,3,7,0,31],aN [0,1,2,4,0,0],(bB 0 5 (bz 5 .done))⟩
def N1:af:=⟨aN [0,0,0,4,12,28,60,0,125,381,893,2047,4095,8191],aN [0,0,0,4,8,16,32,0,1,256,0,2,2048,0],(.take 0 [] (.take 1 [1] (.take 2 [1] (.take 3 [1] (.take 4 [1] (.take 5 [1] (.take 6 [1] (.take 7 [7,1] (.take 8 [7,1] (.take 9 [7,1] (.br 10 [7,1] [] (bB 11 2 (bz 13 .done)) .stop)))))))))))⟩
def SN:af:=⟨aN [0,1,3,7,15,31,63,127,255,511,255,255,2303,6399,15615,31999,65535,131071,262143],aN [0,1,2,4,12,20,36,64,128,0,128,128,2176,4224,9344,16512,0,66176,131200],(bB 0 9 (bB 10 2 (.take 12 [12] (.take 13 [12] (.take 14 [12] (.take 15 [15,12] (.br 9 [15,12] [] (bz 16 (bB 17 2 .done)) .stop)))))))⟩
def SO:af:=⟨aN [0,1,0,7,15,31],aN [0,0,0,0,2,8],(.take 0 [] (.take 2 [2] (.br 1 [2] [] (bz 3 (bB 4 2 .done)) .stop)))⟩
def N2:af:=⟨aN [0,0,3,7,0,0,48,112,255],aN [0,0,3,4,0,0,48,64,136],(bB 0 9 .done)⟩
def SP:af:=⟨aN [0,0,0,4,14,30,0,0,192,448,1022,2046,4095,8191],aN [0,0,0,4,10,16,0,0,192,256,0,1024,0,4097],(bB 0 10 (bz 10 (.take 11 [] (bz 12 (.take 13 [] .done)))))⟩
def SQ:af:=⟨aN [0,1,3,0,8,31,63,127,255],aN [0,1,0,0,8,0,36,0,128],(bB 0 2 (.take 3 [] (.take 4 [4] (.br 2 [4] [] (bz 5 (.take 6 [] (bz 7 (.take 8 [] .done)))) .stop))))⟩
def SR:af:=⟨aN [0,1,3,0,0,16,48,120,255,0,512,1536,0,4096,0,16384,49264,127088,261744,524287,1048575],aN [0,1,2,0,0,16,0,72,132,0,512,1024,0,4096,0,16384,0,73728,133120,262400,0],(bB 0 2 (.take 2 [2] (.take 3 [2] (.take 4 [2] (.take 5 [2] (.take 9 [2] (.take 10 [2] (.take 11 [11,2] (.take 12 [11,2] (.take 13 [11,2] (.take 14 [11,2] (.take 15 [15,11,2] (.br 6 [15,11,2] [11,2] (.take 7 [11,2] (.take 8 [11,2] (.br 16 [11,2] [] (bB 17 3 (bz 20 .done)) .stop))) .stop)))))))))))))⟩
def SS:af:=⟨aN [0,0,2,7,0,0,32,127,0,0,1023,2047],aN [0,0,2,0,0,0,32,0,0,0,0,0],(.al 8 [1,3,7,8,9,11,12,13] (.al 9 [1,3,7,8,9,11,12,13] (bB 0 3 (bB 4 2 (.take 6 [6] (.br 3 [6] [] (bz 7 (bz 10 (bz 11 .done))) .stop))))))⟩
def SU:af:=⟨aN [0,0,0,3,15,31,63,0,0,256,0,896,3968,8064,16256,32767],aN [0,0,0,3,12,16,0,0,0,256,0,640,3072,4096,8192,16448],(bB 0 6 (.take 7 [7] (.take 8 [7] (.take 9 [7] (.take 10 [7] (.take 11 [7] (.take 12 [7] (.take 13 [7] (.take 14 [14,7] (.br 6 [14,7] [] (.take 15 [] .done) .stop))))))))))⟩
def SX:af:=⟨aN [0,0,3,7,0,0,48,112,255],aN [0,0,3,4,0,0,48,64,136],(bB 0 9 .done)⟩
def SY:af:=⟨aN [0,1,0,4,12,0,32,0,128,384,896,2016,0,4096,16383,32767],aN [0,0,0,4,8,0,32,0,128,256,512,1088,0,4096,10258,0],(.take 0 [] (.take 2 [] (.take 3 [3] (.take 4 [3] (.take 5 [3] (.take 6 [6,3] (.take 7 [6,3] (.take 8 [8,6,3] (.take 9 [8,6,3] (.take 10 [8,6,3] (.take 11 [8,6,3] (.take 12 [8,6,3] (.take 13 [13,8,6,3] (.br 1 [13,8,6,3] [] (.take 14 [] (bz 15 .done)) .stop))))))))))))))⟩
def SZ:af:=⟨aN [0,1,0,4,15,31,0,64,192,511,1023,2047,4095,8191,16383,32767,65535,131071],aN [0,1,0,4,10,0,0,64,128,256,512,1536,2560,4608,0,16416,0,65536],(bB 0 5 (.take 6 [] (.take 7 [7] (.take 8 [7] (.br 5 [7] [] (bB 9 5 (bz 14 (.take 15 [] (bz 16 (.take 17 [] .done))))) .stop)))))⟩
def S0:af:=⟨aN [0,1,0,4,15,0,32,0,128,511,0,1024,0,4096,16383,32767,65535,131071],aN [0,1,0,4,0,0,32,0,128,0,0,1024,0,4096,0,16912,0,65536],(bB 0 4 (.take 5 [] (.take 6 [6] (.take 7 [6] (.take 8 [8,6] (.take 10 [8,6] (.take 11 [11,8,6] (.take 12 [11,8,6] (.take 13 [13,11,8,6] (.br 4 [13,11,8,6] [13,11] (.br 9 [13,11] [] (bz 14 (.take 15 [] (bz 16 (.take 17 [] .done)))) .stop) .stop))))))))))⟩
def N3:af:=⟨aN [0,1,3,7,7,23,63,127,7,7,775,1799,4095,8191,16383],aN [0,1,2,4,4,20,44,68,4,4,772,1028,0,4100,8196],(bB 0 12 (bz 12 (bB 13 2 .done)))⟩
def S1:af:=⟨aN [0,0,3,7,3,19,63],aN [0,0,3,4,0,16,0],(bB 0 2 (.take 2 [2] (.take 3 [2] (.br 4 [2] [] (.take 5 [] (bz 6 .done)) .stop))))⟩
def S2:af:=⟨aN [0,0,3,0,0,0,32,112,248,7,1023,2047],aN [0,0,3,0,0,0,32,80,136,4,256,0],(bB 0 12 .done)⟩
def S3:af:=⟨aN [0,1,3,0,8,24,63,127],aN [0,1,2,0,0,16,36,64],(bB 0 2 (.take 2 [2] (.take 3 [2] (.br 4 [2] [] (bB 5 3 .done) .stop))))⟩
def S4:af:=⟨aN [0,1,0,4,0,16,60,124,252,511,1023,2047,4095],aN [0,0,0,4,0,16,40,64,128,0,514,0,2048],(.take 0 [] (.take 2 [] (.take 3 [3] (.take 4 [3] (.take 5 [5,3] (.take 6 [5,3] (.take 7 [5,3] (.take 8 [5,3] (.br 1 [5,3] [] (bz 9 (.take 10 [] (bz 11 (.take 12 [] .done)))) .stop)))))))))⟩
def S5:af:=⟨aN [0,1,3,0,8,31,63,127,255],aN [0,1,0,0,8,0,36,0,128],(bB 0 2 (.take 3 [] (.take 4 [4] (.br 2 [4] [] (bz 5 (.take 6 [] (bz 7 (.take 8 [] .done)))) .stop))))⟩
def S6:af:=⟨aN [0,0,3,7,15,15,63,127,15,15,527,1807,3855,8191,16383],aN [0,0,3,4,8,8,56,72,8,8,520,1288,2056,0,8200],(bB 0 13 (bz 13 (.take 14 [] .done)))⟩
def S7:af:=⟨aN [0,0,0,0,8,0,0,64,224,480,0,0,3072,7168,16355,32739,65535,131071],aN [0,0,0,0,8,0,0,64,160,256,0,0,3072,4096,3,0,20,0],(bB 0 15 (bz 15 (.take 16 [] (bz 17 .done))))⟩
def N4:af:=⟨aN [0,0,0,0,0,24,0,0,0,384,960,1984,0,0,12288,28672,65475,131011,262143,524287],aN [0,0,0,0,0,24,0,0,0,384,576,1024,0,0,12288,16384,3,0,36,0],(bB 0 17 (bz 17 (.take 18 [] (bz 19 .done))))⟩
def N5:af:=⟨aN [0,0,0,0,0,24,0,0,0,384,960,1984,0,0,12288,28672,65475,131011,262143,524287],aN [0,0,0,0,0,24,0,0,0,384,576,1024,0,0,12288,16384,3,0,36,0],(bB 0 17 (bz 17 (.take 18 [] (bz 19 .done))))⟩
def S8:af:=⟨aN [0,0,0,0,0,0,48,112,0,0,768,1792,4083,8179,16383,32767],aN [0,0,0,0,0,0,48,64,0,0,768,1024,3,0,12,0],(bB 0 13 (bz 13 (.take 14 [] (bz 15 .done))))⟩
def S9:af:=⟨aN [0,0,3,7,15,15,63,127,15,15,527,1807,3855,8191,16383,32767],aN [0,0,3,4,8,8,56,72,8,8,520,1288,2056,0,8200,16392],(bB 0 13 (bz 13 (bB 14 2 .done)))⟩
def N6:af:=⟨aN [0,0,0,0,8,0,0,64,224,480,0,0,3072,7168,16355,32739,65535,131071],aN [0,0,0,0,8,0,0,64,160,256,0,0,3072,4096,3,0,20,0],(bB 0 15 (bz 15 (.take 16 [] (bz 17 .done))))⟩
def N7:af:=⟨aN [0,0,3,7,0,0,32,112,240,511,1023],aN [0,0,3,4,0,0,32,80,128,0,512],(bB 0 9 (bz 9 (.take 10 [] .done)))⟩
def N8:af:=⟨aN [0,0,0,0,8,0,0,64,224,480,0,0,3072,7168,16355,32739,65535,131071],aN [0,0,0,0,8,0,0,64,160,256,0,0,3072,4096,3,0,20,0],(bB 0 15 (bz 15 (.take 16 [] (bz 17 .done))))⟩
def N9:af:=⟨aN [0,0,3,7,0,0,32,112,240,511,1023],aN [0,0,3,4,0,0,32,80,128,0,512],(bB 0 9 (bz 9 (.take 10 [] .done)))⟩
def Oa:af:=⟨aN [0,0,0,0,8,0,0,64,224,480,0,0,3072,7168,16355,32739,65535,131071],aN [0,0,0,0,8,0,0,64,160,256,0,0,3072,4096,3,0,20,0],(bB 0 15 (bz 15 (.take 16 [] (bz 17 .done))))⟩
def Ta:af:=⟨aN [0,0,0,0,0,0,48,112,0,0,768,1792,4083,8179,16383,32767],aN [0,0,0,0,0,0,48,64,0,0,768,1024,3,0,12,0],(bB 0 13 (bz 13 (.take 14 [] (bz 15 .done))))⟩
def Tb:af:=⟨aN [0,0,3,7,15,15,63,127,15,15,783,1807,4095,8191,16383],aN [0,0,3,4,8,8,56,72,8,8,776,1032,0,4104,8200],(bB 0 12 (bz 12 (bB 13 2 .done)))⟩
def Tc:af:=⟨aN [0,0,3,7,15,15,63,127,15,15,783,1807,4095,8191],aN [0,0,3,4,8,8,56,72,8,8,776,1032,0,4104],(bB 0 12 (bz 12 (.take 13 [] .done)))⟩
def Td:af:=⟨aN [0,0,0,0,0,0,48,112,0,0,768,1792,4083,8179,16383,32767],aN [0,0,0,0,0,0,48,64,0,0,768,1024,3,0,12,0],(bB 0 13 (bz 13 (.take 14 [] (bz 15 .done))))⟩
def Te:af:=⟨aN [0,0,0,0,0,0,48,112,0,0,768,1792,4083,8179,16383,32767],aN [0,0,0,0,0,0,48,64,0,0,768,1024,3,0,12,0],(bB 0 13 (bz 13 (.take 14 [] (bz 15 .done))))⟩
def Tf:af:=⟨aN [0,0,3,7,15,15,63,127,15,15,783,1807,4095,8191],aN [0,0,3,4,8,8,56,72,8,8,776,1032,0,4104],(bB 0 12 (bz 12 (.take 13 [] .done)))⟩
def Tg:af:=⟨aN [0,0,3,7,15,15,63,127,15,15,783,1807,4095,8191,16383],aN [0,0,3,4,8,8,56,72,8,8,776,1032,0,4104,8200],(bB 0 12 (bz 12 (bB 13 2 .done)))⟩
def Th:af:=⟨aN [0,0,0,0,0,0,48,112,0,0,768,1792,4083,8179,16383,32767],aN [0,0,0,0,0,0,48,64,0,0,768,1024,3,0,12,0],(bB 0 13 (bz 13 (.take 14 [] (bz 15 .done))))⟩
def Ob:af:=⟨aN [0,0,0,0,0,0,48,112,0,0,768,1792,4083,8179,16383,32767],aN [0,0,0,0,0,0,48,64,0,0,768,1024,3,0,12,0],(bB 0 13 (bz 13 (.take 14 [] (bz 15 .done))))⟩
def Oc:af:=⟨aN [0,0,3,7,15,15,63,127,15,15,783,1807,4095,8191],aN [0,0,3,4,8,8,56,72,8,8,776,1032,0,4104],(bB 0 12 (bz 12 (.take 13 [] .done)))⟩
def Od:af:=⟨aN [0,0,3,7,15,15,63,127,15,15,783,1807,4095,8191,16383],aN [0,0,3,4,8,8,56,72,8,8,776,1032,0,4104,8200],(bB 0 12 (bz 12 (bB 13 2 .done)))⟩
def Oe:af:=⟨aN [0,0,0,0,0,0,48,112,0,0,768,1792,4083,8179,16383,32767],aN [0,0,0,0,0,0,48,64,0,0,768,1024,3,0,12,0],(bB 0 13 (bz 13 (.take 14 [] (bz 15 .done))))⟩
def Of:af:=⟨aN [0,0,0,0,0,0,48,112,0,0,768,1792,4083,8179,16383,32767],aN [0,0,0,0,0,0,48,64,0,0,768,1024,3,0,12,0],(bB 0 13 (bz 13 (.take 14 [] (bz 15 .done))))⟩
def Og:af:=⟨aN [0,1,3,7,7,7,39,119,247,7,7,1543,3591,8191,16383,32767,65535],aN [0,1,2,4,4,4,36,84,132,4,4,1540,2052,0,8196,16388,32772],(bB 0 13 (bz 13 (bB 14 3 .done)))⟩
def Ti:af:=⟨aN [0,1,0,4,15,0,32,0,128,511,1023,2047,4095],aN [0,1,0,4,0,0,32,0,128,0,528,0,2048],(bB 0 4 (.take 5 [] (.take 6 [6] (.take 7 [6] (.take 8 [8,6] (.br 4 [8,6] [] (bz 9 (.take 10 [] (bz 11 (.take 12 [] .done)))) .stop))))))⟩
def Tj:af:=⟨aN [0,0,0,6,14,0,0,64,224,480,1023],aN [0,0,0,6,8,0,0,64,160,256,0],(bB 0 10 (bz 10 .done))⟩
def Oh:af:=⟨aN [0,0,0,6,14,0,0,64,224,480,1023,2047],aN [0,0,0,6,8,0,0,64,160,256,0,1024],(bB 0 10 (bz 10 (.take 11 [] .done)))⟩
def Tk:af:=⟨aN [0,0,3,0,0,16,63,0,0,511,1023],aN [0,0,0,0,0,16,0,0,0,0,0],(.al 7 [1,3,11,12,14,15,16] (.al 8 [1,3,11,12,14,15,16] (bB 0 2 (.take 3 [3] (.take 4 [3] (.take 5 [3] (.br 2 [3] [] (bz 6 (bz 9 (bz 10 .done))) .stop)))))))⟩
def Tl:af:=⟨aN [0,1,0,7,15,31,31,31,223,511,1023,31,31,31,12319,28703,63519,129055,262143,524287],aN [0,1,0,6,8,16,16,16,208,304,528,16,16,16,12304,16400,34832,65552,0,262160],(bB 0 18 (bz 18 (.take 19 [] .done)))⟩
def Tm:af:=⟨aN [0,0,0,6,15,31,0,0,0,384,960,1984,4095,8191],aN [0,0,0,6,9,16,0,0,0,384,576,1024,0,4096],(bB 0 12 (bz 12 (.take 13 [] .done)))⟩
def Tn:af:=⟨aN [0,0,0,6,0,0,0,96,0,0,0,1536,3840,7936,0,0,0,98304,245760,507904,1048335,2096911,4194303,8388607],aN [0,0,0,6,0,0,0,96,0,0,0,1536,2304,4096,0,0,0,98304,147456,262144,9,0,144,0],(bB 0 21 (bz 21 (.take 22 [] (bz 23 .done))))⟩
def To:af:=⟨aN [0,1,3,0,8,24,56,127,255,511],aN [0,1,2,0,8,16,32,68,1,0],(bB 0 9 (bz 9 .done))⟩
def Tp:af:=⟨aN [0,1,3,0,8,24,56,127,255,511],aN [0,1,2,0,8,16,32,68,1,0],(bB 0 9 (bz 9 .done))⟩
def Tq:af:=⟨aN [0,1,3,0,8,24,56,127,255,511],aN [0,1,2,0,8,16,32,68,1,0],(bB 0 9 (bz 9 .done))⟩
def Tr:af:=⟨aN [0,0,0,6,14,0,63,127],aN [0,0,0,6,8,0,0,64],(bB 0 6 (bz 6 (.take 7 [] .done)))⟩
def Ts:af:=⟨aN [0,0,0,6,14,30,30,30,222,478,30,2046,4094,8190,4095,32767],aN [0,0,0,6,8,16,16,16,208,272,16,0,2064,4112,1,8192],(bB 0 11 (bz 11 (bB 12 4 .done)))⟩
def Tt:af:=⟨aN [0,0,3,7,15,15,15,111,239,15,15,1039,3599,7695,16383,32767,65535],aN [0,0,3,4,8,8,8,104,136,8,8,1032,2568,4104,0,16392,32776],(bB 0 14 (bz 14 (bB 15 2 .done)))⟩
def Tu:af:=⟨aN [0,0,0,0,8,0,0,64,224,480,0,0,3072,7168,16355,32739,65535,131071],aN [0,0,0,0,8,0,0,64,160,256,0,0,3072,4096,3,0,20,0],(bB 0 15 (bz 15 (.take 16 [] (bz 17 .done))))⟩
def Oi:af:=⟨aN [0,0,0,0,0,24,0,0,0,384,960,1984,0,0,12288,28672,65475,131011,262143,524287],aN [0,0,0,0,0,24,0,0,0,384,576,1024,0,0,12288,16384,3,0,36,0],(bB 0 17 (bz 17 (.take 18 [] (bz 19 .done))))⟩
def Oj:af:=⟨aN [0,0,0,0,0,24,0,0,0,384,960,1984,0,0,12288,28672,65475,131011,262143,524287],aN [0,0,0,0,0,24,0,0,0,384,576,1024,0,0,12288,16384,3,0,36,0],(bB 0 17 (bz 17 (.take 18 [] (bz 19 .done))))⟩
def Tv:af:=⟨aN [0,0,0,0,0,0,48,112,0,0,768,1792,4083,8179,16383,32767],aN [0,0,0,0,0,0,48,64,0,0,768,1024,3,0,12,0],(bB 0 13 (bz 13 (.take 14 [] (bz 15 .done))))⟩
def Tw:af:=⟨aN [0,0,3,7,15,15,15,111,239,15,15,1039,3599,7695,16383,32767,65535,131071],aN [0,0,3,4,8,8,8,104,136,8,8,1032,2568,4104,0,16392,32776,65544],(bB 0 14 (bz 14 (bB 15 3 .done)))⟩
def Ol:af:=⟨aN [0,0,0,0,8,0,0,64,224,480,0,0,3072,7168,16355,32739,65535,131071],aN [0,0,0,0,8,0,0,64,160,256,0,0,3072,4096,3,0,20,0],(bB 0 15 (bz 15 (.take 16 [] (bz 17 .done))))⟩
def Om:af:=⟨aN [0,0,0,6,14,0,0,64,224,480,1023,2047,4095],aN [0,0,0,6,8,0,0,64,160,256,0,1024,2048],(bB 0 10 (bz 10 (bB 11 2 .done)))⟩
def On:af:=⟨aN [0,0,0,0,8,0,0,64,224,480,0,0,3072,7168,16355,32739,65535,131071],aN [0,0,0,0,8,0,0,64,160,256,0,0,3072,4096,3,0,20,0],(bB 0 15 (bz 15 (.take 16 [] (bz 17 .done))))⟩
def Oo:af:=⟨aN [0,0,0,6,14,0,0,64,224,480,1023,2047,4095],aN [0,0,0,6,8,0,0,64,160,256,0,1024,2048],(bB 0 10 (bz 10 (bB 11 2 .done)))⟩
def Oq:af:=⟨aN [0,0,0,0,8,0,0,64,224,480,0,0,3072,7168,16355,32739,65535,131071],aN [0,0,0,0,8,0,0,64,160,256,0,0,3072,4096,3,0,20,0],(bB 0 15 (bz 15 (.take 16 [] (bz 17 .done))))⟩
def Tx:af:=⟨aN [0,0,0,0,0,0,48,112,0,0,768,1792,4083,8179,16383,32767],aN [0,0,0,0,0,0,48,64,0,0,768,1024,3,0,12,0],(bB 0 13 (bz 13 (.take 14 [] (bz 15 .done))))⟩
def Ty:af:=⟨aN [0,0,3,7,15,15,15,111,239,15,15,1551,3599,8191,16383,32767,65535],aN [0,0,3,4,8,8,8,104,136,8,8,1544,2056,0,8200,16392,32776],(bB 0 13 (bz 13 (bB 14 3 .done)))⟩
def Tz:af:=⟨aN [0,0,3,7,15,15,15,111,239,15,15,1551,3599,8191,16383,32767],aN [0,0,3,4,8,8,8,104,136,8,8,1544,2056,0,8200,16392],(bB 0 13 (bz 13 (bB 14 2 .done)))⟩
def TA:af:=⟨aN [0,0,0,0,0,0,48,112,0,0,768,1792,4083,8179,16383,32767],aN [0,0,0,0,0,0,48,64,0,0,768,1024,3,0,12,0],(bB 0 13 (bz 13 (.take 14 [] (bz 15 .done))))⟩
def TB:af:=⟨aN [0,0,0,0,0,0,48,112,0,0,768,1792,4083,8179,16383,32767],aN [0,0,0,0,0,0,48,64,0,0,768,1024,3,0,12,0],(bB 0 13 (bz 13 (.take 14 [] (bz 15 .done))))⟩
def TC:af:=⟨aN [0,0,3,7,15,15,15,111,239,15,15,1551,3599,8191,16383,32767],aN [0,0,3,4,8,8,8,104,136,8,8,1544,2056,0,8200,16392],(bB 0 13 (bz 13 (bB 14 2 .done)))⟩
def TD:af:=⟨aN [0,0,3,7,15,15,15,111,239,15,15,1551,3599,8191,16383,32767,65535],aN [0,0,3,4,8,8,8,104,136,8,8,1544,2056,0,8200,16392,32776],(bB 0 13 (bz 13 (bB 14 3 .done)))⟩
def TE:af:=⟨aN [0,0,0,0,0,0,48,112,0,0,768,1792,4083,8179,16383,32767],aN [0,0,0,0,0,0,48,64,0,0,768,1024,3,0,12,0],(bB 0 13 (bz 13 (.take 14 [] (bz 15 .done))))⟩
def Ot:af:=⟨aN [0,0,0,0,0,0,48,112,0,0,768,1792,4083,8179,16383,32767],aN [0,0,0,0,0,0,48,64,0,0,768,1024,3,0,12,0],(bB 0 13 (bz 13 (.take 14 [] (bz 15 .done))))⟩
def Ou:af:=⟨aN [0,0,3,7,15,15,15,111,239,15,15,1551,3599,8191,16383,32767],aN [0,0,3,4,8,8,8,104,136,8,8,1544,2056,0,8200,16392],(bB 0 13 (bz 13 (bB 14 2 .done)))⟩
def Ov:af:=⟨aN [0,0,3,7,15,15,15,111,239,15,15,1551,3599,8191,16383,32767,65535],aN [0,0,3,4,8,8,8,104,136,8,8,1544,2056,0,8200,16392,32776],(bB 0 13 (bz 13 (bB 14 3 .done)))⟩
def Ow:af:=⟨aN [0,0,0,0,0,0,48,112,0,0,768,1792,4083,8179,16383,32767],aN [0,0,0,0,0,0,48,64,0,0,768,1024,3,0,12,0],(bB 0 13 (bz 13 (.take 14 [] (bz 15 .done))))⟩
def Ox:af:=⟨aN [0,0,0,0,0,0,48,112,0,0,768,1792,4083,8179,16383,32767],aN [0,0,0,0,0,0,48,64,0,0,768,1024,3,0,12,0],(bB 0 13 (bz 13 (.take 14 [] (bz 15 .done))))⟩
def Oy:af:=⟨aN [0,1,3,7,7,7,39,119,247,7,7,1543,3591,8191,16383,32767,65535],aN [0,1,2,4,4,4,36,84,132,4,4,1540,2052,0,8196,16388,32772],(bB 0 13 (bz 13 (bB 14 3 .done)))⟩
def TF:af:=⟨aN [0,0,2,0,0,16,0,64,192,0,512,455,2503,8191,16383],aN [0,0,2,0,0,16,0,64,128,0,512,5,0,40,0],(bB 0 12 (bz 12 (.take 13 [] (bz 14 .done))))⟩
def TG:af:=⟨aN [0,0,2,0,0,16,0,64,192,0,512,455,2503,8191,16383],aN [0,0,2,0,0,16,0,64,128,0,512,5,0,40,0],(bB 0 12 (bz 12 (.take 13 [] (bz 14 .done))))⟩
def TH:af:=⟨aN [0,0,2,0,0,16,0,64,192,0,512,455,2503,8191,16383],aN [0,0,2,0,0,16,0,64,128,0,512,5,0,40,0],(bB 0 12 (bz 12 (.take 13 [] (bz 14 .done))))⟩
def Oz:af:=⟨aN [0,0,2,0,0,16,0,64,192,0,512,455,2503,8191,16383],aN [0,0,2,0,0,16,0,64,128,0,512,5,0,40,0],(bB 0 12 (bz 12 (.take 13 [] (bz 14 .done))))⟩
def OA:af:=⟨aN [0,0,2,0,0,16,0,64,192,0,512,455,2503,8191,16383],aN [0,0,2,0,0,16,0,64,128,0,512,5,0,40,0],(bB 0 12 (bz 12 (.take 13 [] (bz 14 .done))))⟩
def OB:af:=⟨aN [0,0,2,0,0,16,0,64,192,0,512,455,2503,8191,16383],aN [0,0,2,0,0,16,0,64,128,0,512,5,0,40,0],(bB 0 12 (bz 12 (.take 13 [] (bz 14 .done))))⟩
def OC:af:=⟨aN [0,0,2,0,0,16,0,64,192,0,512,455,2503,8191,16383],aN [0,0,2,0,0,16,0,64,128,0,512,5,0,40,0],(bB 0 12 (bz 12 (.take 13 [] (bz 14 .done))))⟩
def TJ:af:=⟨aN [0,0,3,7,0,0,48,112,255],aN [0,0,3,4,0,0,48,64,0],(bB 0 8 (bz 8 .done))⟩
def TL:af:=⟨aN [0,1,0,7,15,31,31,31,31,415,991,2015,31,31,31,24607,57375,127007,258079,524287,1048575,2097151],aN [0,1,0,6,8,16,16,16,16,400,592,1040,16,16,16,24592,32784,69648,131088,0,524304,1048592],(bB 0 19 (bz 19 (bB 20 2 .done)))⟩
def TM:af:=⟨aN [0,0,0,0,12,30,62,0,0,0,768,1920,3968,8191,16383,32767],aN [0,0,0,0,12,18,32,0,0,0,768,1152,2048,0,8192,16384],(bB 0 13 (bz 13 (bB 14 2 .done)))⟩
def TN:af:=⟨aN [0,0,0,6,0,0,0,96,0,0,0,1536,3840,7936,0,0,0,98304,245760,507904,1048335,2096911,4194303,8388607],aN [0,0,0,6,0,0,0,96,0,0,0,1536,2304,4096,0,0,0,98304,147456,262144,9,0,144,0],(bB 0 21 (bz 21 (.take 22 [] (bz 23 .done))))⟩
def TO:af:=⟨aN [0,0,3,7,15,15,15,111,239,15,15,1039,3599,7695,16383,32767,65535],aN [0,0,3,4,8,8,8,104,136,8,8,1032,2568,4104,0,16392,32776],(bB 0 14 (bz 14 (bB 15 2 .done)))⟩
def TP:af:=⟨aN [0,0,0,0,8,0,0,64,224,480,0,0,3072,7168,16355,32739,65535,131071],aN [0,0,0,0,8,0,0,64,160,256,0,0,3072,4096,3,0,20,0],(bB 0 15 (bz 15 (.take 16 [] (bz 17 .done))))⟩
def OD:af:=⟨aN [0,0,0,0,0,24,0,0,0,384,960,1984,0,0,12288,28672,65475,131011,262143,524287],aN [0,0,0,0,0,24,0,0,0,384,576,1024,0,0,12288,16384,3,0,36,0],(bB 0 17 (bz 17 (.take 18 [] (bz 19 .done))))⟩
def OE:af:=⟨aN [0,0,0,0,0,24,0,0,0,384,960,1984,0,0,12288,28672,65475,131011,262143,524287],aN [0,0,0,0,0,24,0,0,0,384,576,1024,0,0,12288,16384,3,0,36,0],(bB 0 17 (bz 17 (.take 18 [] (bz 19 .done))))⟩
def TQ:af:=⟨aN [0,0,0,0,0,0,48,112,0,0,768,1792,4083,8179,16383,32767],aN [0,0,0,0,0,0,48,64,0,0,768,1024,3,0,12,0],(bB 0 13 (bz 13 (.take 14 [] (bz 15 .done))))⟩
def TS:af:=⟨aN [0,0,3,7,15,15,15,111,239,15,15,1039,3599,7695,16383,32767,65535,131071],aN [0,0,3,4,8,8,8,104,136,8,8,1032,2568,4104,0,16392,32776,65544],(bB 0 14 (bz 14 (bB 15 3 .done)))⟩
def OF:af:=⟨aN [0,0,0,0,8,0,0,64,224,480,0,0,3072,7168,16355,32739,65535,131071],aN [0,0,0,0,8,0,0,64,160,256,0,0,3072,4096,3,0,20,0],(bB 0 15 (bz 15 (.take 16 [] (bz 17 .done))))⟩
def OG:af:=⟨aN [0,0,0,6,14,0,0,64,224,480,1023,2047,4095],aN [0,0,0,6,8,0,0,64,160,256,0,1024,2048],(bB 0 10 (bz 10 (bB 11 2 .done)))⟩
def OH:af:=⟨aN [0,0,0,0,8,0,0,64,224,480,0,0,3072,7168,16355,32739,65535,131071],aN [0,0,0,0,8,0,0,64,160,256,0,0,3072,4096,3,0,20,0],(bB 0 15 (bz 15 (.take 16 [] (bz 17 .done))))⟩
def OI:af:=⟨aN [0,0,0,6,14,0,0,64,224,480,1023,2047,4095],aN [0,0,0,6,8,0,0,64,160,256,0,1024,2048],(bB 0 10 (bz 10 (bB 11 2 .done)))⟩
def OJ:af:=⟨aN [0,0,0,0,8,0,0,64,224,480,0,0,3072,7168,16355,32739,65535,131071],aN [0,0,0,0,8,0,0,64,160,256,0,0,3072,4096,3,0,20,0],(bB 0 15 (bz 15 (.take 16 [] (bz 17 .done))))⟩
def TT:af:=⟨aN [0,0,0,0,0,0,48,112,0,0,768,1792,4083,8179,16383,32767],aN [0,0,0,0,0,0,48,64,0,0,768,1024,3,0,12,0],(bB 0 13 (bz 13 (.take 14 [] (bz 15 .done))))⟩
def TU:af:=⟨aN [0,0,3,7,15,15,15,111,239,15,15,1551,3599,8191,16383,32767,65535],aN [0,0,3,4,8,8,8,104,136,8,8,1544,2056,0,8200,16392,32776],(bB 0 13 (bz 13 (bB 14 3 .done)))⟩
def TV:af:=⟨aN [0,0,3,7,15,15,15,111,239,15,15,1551,3599,8191,16383,32767],aN [0,0,3,4,8,8,8,104,136,8,8,1544,2056,0,8200,16392],(bB 0 13 (bz 13 (bB 14 2 .done)))⟩
def TW:af:=⟨aN [0,0,0,0,0,0,48,112,0,0,768,1792,4083,8179,16383,32767],aN [0,0,0,0,0,0,48,64,0,0,768,1024,3,0,12,0],(bB 0 13 (bz 13 (.take 14 [] (bz 15 .done))))⟩
def TX:af:=⟨aN [0,0,0,0,0,0,48,112,0,0,768,1792,4083,8179,16383,32767],aN [0,0,0,0,0,0,48,64,0,0,768,1024,3,0,12,0],(bB 0 13 (bz 13 (.take 14 [] (bz 15 .done))))⟩
def TY:af:=⟨aN [0,0,3,7,15,15,15,111,239,15,15,1551,3599,8191,16383,32767],aN [0,0,3,4,8,8,8,104,136,8,8,1544,2056,0,8200,16392],(bB 0 13 (bz 13 (bB 14 2 .done)))⟩
def TZ:af:=⟨aN [0,0,3,7,15,15,15,111,239,15,15,1551,3599,8191,16383,32767,65535],aN [0,0,3,4,8,8,8,104,136,8,8,1544,2056,0,8200,16392,32776],(bB 0 13 (bz 13 (bB 14 3 .done)))⟩
def T0:af:=⟨aN [0,0,0,0,0,0,48,112,0,0,768,1792,4083,8179,16383,32767],aN [0,0,0,0,0,0,48,64,0,0,768,1024,3,0,12,0],(bB 0 13 (bz 13 (.take 14 [] (bz 15 .done))))⟩
def OK:af:=⟨aN [0,0,0,0,0,0,48,112,0,0,768,1792,4083,8179,16383,32767],aN [0,0,0,0,0,0,48,64,0,0,768,1024,3,0,12,0],(bB 0 13 (bz 13 (.take 14 [] (bz 15 .done))))⟩
def OL:af:=⟨aN [0,0,3,7,15,15,15,111,239,15,15,1551,3599,8191,16383,32767],aN [0,0,3,4,8,8,8,104,136,8,8,1544,2056,0,8200,16392],(bB 0 13 (bz 13 (bB 14 2 .done)))⟩
def OM:af:=⟨aN [0,0,3,7,15,15,15,111,239,15,15,1551,3599,8191,16383,32767,65535],aN [0,0,3,4,8,8,8,104,136,8,8,1544,2056,0,8200,16392,32776],(bB 0 13 (bz 13 (bB 14 3 .done)))⟩
def ON:af:=⟨aN [0,0,0,0,0,0,48,112,0,0,768,1792,4083,8179,16383,32767],aN [0,0,0,0,0,0,48,64,0,0,768,1024,3,0,12,0],(bB 0 13 (bz 13 (.take 14 [] (bz 15 .done))))⟩
def OO:af:=⟨aN [0,0,0,0,0,0,48,112,0,0,768,1792,4083,8179,16383,32767],aN [0,0,0,0,0,0,48,64,0,0,768,1024,3,0,12,0],(bB 0 13 (bz 13 (.take 14 [] (bz 15 .done))))⟩
def T1:af:=⟨aN [0,0,0,6,14,0,0,96,224,511,1023],aN [0,0,0,6,8,0,0,96,128,0,512],(bB 0 9 (bz 9 (.take 10 [] .done)))⟩
def T2:af:=⟨aN [0,1,0,7,15,31,31,31,31,415,991,2015,31,31,31,24607,57375,127007,258079,524287,1048575,2097151],aN [0,1,0,6,8,16,16,16,16,400,592,1040,16,16,16,24592,32784,69648,131088,0,524304,1048592],(bB 0 19 (bz 19 (bB 20 2 .done)))⟩
def T3:af:=⟨aN [0,0,0,0,12,30,62,0,0,0,768,1920,3968,8191,16383,32767],aN [0,0,0,0,12,18,32,0,0,0,768,1152,2048,0,8192,16384],(bB 0 13 (bz 13 (bB 14 2 .done)))⟩
def T4:af:=⟨aN [0,0,0,6,0,0,0,96,0,0,0,1536,3840,7936,0,0,0,98304,245760,507904,1048335,2096911,4194303,8388607],aN [0,0,0,6,0,0,0,96,0,0,0,1536,2304,4096,0,0,0,98304,147456,262144,9,0,144,0],(bB 0 21 (bz 21 (.take 22 [] (bz 23 .done))))⟩
def T5:af:=⟨aN [0,0,0,6,14,0,0,96,224,511,1023],aN [0,0,0,6,8,0,0,96,128,0,512],(bB 0 9 (bz 9 (.take 10 [] .done)))⟩
def dtF (f r:Nat):Option af:=
  bif aad f 9 then (bif aad r 17 then some YT else bif aad r 31 then some YU else none) else
  bif aad f 13 then (bif aad r 3 then some YV else none) else
  bif aad f 15 then (bif aad r 23 then some SG else none) else
  bif aad f 17 then (bif aad r 8 then some YW else none) else
  bif aad f 19 then (bif aad r 9 then some YX else none) else
  bif aad f 29 then (bif aad r 8 then some YY else none) else
  bif aad f 31 then (bif aad r 6 then some YZ else none) else
  bif aad f 43 then (bif aad r 15 then some SH else none) else
  bif aad f 46 then (bif aad r 5 then some Y0 else none) else
  bif aad f 49 then (bif aad r 6 then some Y1 else none) else
  bif aad f 50 then (bif aad r 6 then some Y2 else none) else
  bif aad f 51 then (bif aad r 6 then some Y3 else none) else
  bif aad f 54 then (bif aad r 1 then some Y4 else none) else
  bif aad f 55 then (bif aad r 2 then some Y5 else none) else
  bif aad f 57 then (bif aad r 15 then some SI else bif aad r 18 then some SJ else none) else
  bif aad f 62 then (bif aad r 6 then some Y6 else bif aad r 8 then some Y7 else bif aad r 9 then some Y8 else none) else
  bif aad f 79 then (bif aad r 6 then some Y9 else none) else
  bif aad f 93 then (bif aad r 5 then some Za else none) else
  bif aad f 97 then (bif aad r 1 then some Zb else none) else
  bif aad f 99 then (bif aad r 8 then some Zc else none) else
  bif aad f 100 then (bif aad r 1 then some SK else bif aad r 4 then some SL else bif aad r 8 then some SM else bif aad r 10 then some NZ else bif aad r 14 then some N0 else bif aad r 15 then some N1 else none) else
  bif aad f 101 then (bif aad r 2 then some SN else bif aad r 6 then some SO else bif aad r 13 then some N2 else none) else
  bif aad f 107 then (bif aad r 6 then some SP else none) else
  bif aad f 108 then (bif aad r 1 then some SQ else none) else
  bif aad f 109 then (bif aad r 1 then some SR else none) else
  bif aad f 115 then (bif aad r 2 then some SS else none) else
  bif aad f 116 then (bif aad r 1 then some SU else none) else
  bif aad f 117 then (bif aad r 6 then some SX else none) else
  bif aad f 121 then (bif aad r 1 then some SY else none) else
  bif aad f 125 then (bif aad r 1 then some SZ else none) else
  bif aad f 127 then (bif aad r 1 then some S0 else none) else
  bif aad f 128 then (bif aad r 17 then some N3 else none) else
  bif aad f 131 then (bif aad r 8 then some S1 else none) else
  bif aad f 141 then (bif aad r 3 then some S2 else none) else
  bif aad f 144 then (bif aad r 1 then some S3 else none) else
  bif aad f 151 then (bif aad r 1 then some S4 else none) else
  bif aad f 157 then (bif aad r 1 then some S5 else none) else
  bif aad f 161 then (bif aad r 4 then some S6 else bif aad r 6 then some S7 else none) else
  bif aad f 162 then (bif aad r 10 then some N4 else none) else
  bif aad f 163 then (bif aad r 10 then some N5 else none) else
  bif aad f 165 then (bif aad r 3 then some S8 else none) else
  bif aad f 166 then (bif aad r 5 then some S9 else bif aad r 11 then some N6 else bif aad r 16 then some N7 else bif aad r 17 then some N8 else bif aad r 22 then some N9 else bif aad r 23 then some Oa else none) else
  bif aad f 168 then (bif aad r 1 then some Ta else bif aad r 3 then some Tb else bif aad r 5 then some Tc else bif aad r 8 then some Td else none) else
  bif aad f 169 then (bif aad r 1 then some Te else bif aad r 3 then some Tf else bif aad r 5 then some Tg else bif aad r 8 then some Th else bif aad r 10 then some Ob else bif aad r 13 then some Oc else bif aad r 15 then some Od else bif aad r 18 then some Oe else bif aad r 21 then some Of else none) else
  bif aad f 175 then (bif aad r 17 then some Og else none) else
  bif aad f 177 then (bif aad r 1 then some Ti else none) else
  bif aad f 178 then (bif aad r 6 then some Tj else bif aad r 11 then some Oh else none) else
  bif aad f 192 then (bif aad r 3 then some Tk else none) else
  bif aad f 196 then (bif aad r 3 then some Tl else bif aad r 5 then some Tm else bif aad r 6 then some Tn else none) else
  bif aad f 198 then (bif aad r 1 then some To else bif aad r 2 then some Tp else bif aad r 3 then some Tq else none) else
  bif aad f 201 then (bif aad r 5 then some Tr else bif aad r 8 then some Ts else none) else
  bif aad f 202 then (bif aad r 4 then some Tt else bif aad r 6 then some Tu else none) else
  bif aad f 203 then (bif aad r 10 then some Oi else none) else
  bif aad f 204 then (bif aad r 10 then some Oj else none) else
  bif aad f 206 then (bif aad r 3 then some Tv else none) else
  bif aad f 207 then (bif aad r 5 then some Tw else bif aad r 11 then some Ol else bif aad r 16 then some Om else bif aad r 17 then some On else bif aad r 22 then some Oo else bif aad r 23 then some Oq else none) else
  bif aad f 208 then (bif aad r 1 then some Tx else bif aad r 3 then some Ty else bif aad r 5 then some Tz else bif aad r 8 then some TA else none) else
  bif aad f 209 then (bif aad r 1 then some TB else bif aad r 3 then some TC else bif aad r 5 then some TD else bif aad r 8 then some TE else bif aad r 10 then some Ot else bif aad r 13 then some Ou else bif aad r 15 then some Ov else bif aad r 18 then some Ow else bif aad r 21 then some Ox else none) else
  bif aad f 210 then (bif aad r 17 then some Oy else none) else
  bif aad f 213 then (bif aad r 7 then some TF else bif aad r 8 then some TG else bif aad r 9 then some TH else bif aad r 10 then some Oz else bif aad r 17 then some OA else bif aad r 18 then some OB else bif aad r 23 then some OC else none) else
  bif aad f 223 then (bif aad r 1 then some TJ else none) else
  bif aad f 224 then (bif aad r 3 then some TL else bif aad r 5 then some TM else bif aad r 6 then some TN else none) else
  bif aad f 227 then (bif aad r 4 then some TO else bif aad r 6 then some TP else none) else
  bif aad f 228 then (bif aad r 10 then some OD else none) else
  bif aad f 229 then (bif aad r 10 then some OE else none) else
  bif aad f 231 then (bif aad r 3 then some TQ else none) else
  bif aad f 232 then (bif aad r 5 then some TS else bif aad r 11 then some OF else bif aad r 16 then some OG else bif aad r 17 then some OH else bif aad r 22 then some OI else bif aad r 23 then some OJ else none) else
  bif aad f 233 then (bif aad r 1 then some TT else bif aad r 3 then some TU else bif aad r 5 then some TV else bif aad r 8 then some TW else none) else
  bif aad f 234 then (bif aad r 1 then some TX else bif aad r 3 then some TY else bif aad r 5 then some TZ else bif aad r 8 then some T0 else bif aad r 10 then some OK else bif aad r 13 then some OL else bif aad r 15 then some OM else bif aad r 18 then some ON else bif aad r 21 then some OO else none) else
  bif aad f 245 then (bif aad r 1 then some T1 else none) else
  bif aad f 246 then (bif aad r 3 then some T2 else bif aad r 5 then some T3 else bif aad r 6 then some T4 else none) else
  bif aad f 253 then (bif aad r 1 then some T5 else none) else none
def okF (f:Nat):Bool:=Nat.blt f 279&&!(([4,7,10,11,12,21,22,23,25,37,41,47,59,65,66,72,74,76,88,89,102,104,105,118,134,174]:List Nat).any (aad f))
theorem OP:(aao 279).all (fun f=>!okF f || match Tryz.prog.funcs[f]? with
  |some fn=>match fn.body with
    |some c=>bL (dtF f) c
    |none=>true
  |none=>true)=true:=by kernel_rfl
theorem T6 (f:FuncId) (fn:Func) (c:Code) (h:okF f=true) (hf:Tryz.prog.funcs[f]?=some fn) (hb:fn.body=some c):bL (dtF f) c=true:=by
  have bY:f < 279:=by
    have:Nat.blt f 279=true:=by
      rw [okF,Bool.and_eq_true] at h
      exact h.1
    exact Nat.le_of_ble_eq_true this
  have h1:=List.all_eq_true.1 OP f (List.mem_range.2 bY)
  rw [h,hf] at h1
  simp only [hb] at h1
  simpa using h1
noncomputable def adu:Lt:={ toEnv:=env,dt:=dtF,okF:=okF,WT:=T6 }
end Go.Proofs.YtldcljfjjoidhaaGreatDoor
