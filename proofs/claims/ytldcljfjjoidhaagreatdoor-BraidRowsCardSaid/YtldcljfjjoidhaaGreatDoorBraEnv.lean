/- The abstract machine's surroundings for this program: its types as a table (printed by a program of ours,checked by the kernel). -/
import Derived.Test.YtldcljfjjoidhaaGreatDoorProg
import Derived.Test.YtldcljfjjoidhaaGreatDoorAmKK
import Derived.KernelRfl
set_option linter.all false
namespace Go.Proofs.YtldcljfjjoidhaaGreatDoor
open Go Go.Am
set_option maxRecDepth 100000
def zR (n:Nat) (x:AV):Option AV:=some (.agg (List.replicate n x))
def sK:Nat→Nat→QP
  | 0,_=>.nil
  | n+1,i=>.cons i 1 false .int (sK n (i+1))
def tB (t k : Nat) (a b : Option TI) : Option TI := bif Nat.ble t k then a else b
def tI (k : TK) (n : Nat) (a : Bool) (z : Option AV) (e : EK) : Option TI := some ⟨k, n, a, z, e⟩
def tiT (t : Nat) : Option TI :=
 tB t 154 (tB t 76 (tB t 37 (tB t 18 (tB t 8 (tB t 3 (tB t 1 (tB t 0 (tI (.sc) 1 false (some (.bh [])) (.no))
 (tI (.sc) 1 false (some (.cz)) (.no)))
 (tB t 2 (tI (.int .i64) 1 false (some (.int .i64 0)) (.int))
 (tI (.int .i64) 1 false (some (.int .i64 0)) (.int))))
 (tB t 5 (tB t 4 (tI (.sc) 1 false (some (.bool false)) (.bool))
 (tI (.int .u8) 1 false (some (.int .u8 0)) (.int)))
 (tB t 6 (tI (.int .u8) 1 false (some (.int .u8 0)) (.int))
 (tB t 7 (tI (.st [(0,1,false),(1,1,false),(2,1,false),(3,1,false)]) 4 true (some (.agg [.int .i64 0,.int .i64 0,.bool false,.int .u8 0])) ((.st (.cons 0 1 false .int (.cons 1 1 false .int (.cons 2 1 false .bool (.cons 3 1 false .int .nil)))))))
 (tI (.st [(0,1,false),(1,1,false),(2,1,false),(3,1,false)]) 4 true (some (.agg [.int .i64 0,.int .i64 0,.bool false,.int .u8 0])) ((.st (.cons 0 1 false .int (.cons 1 1 false .int (.cons 2 1 false .bool (.cons 3 1 false .int .nil)))))))))))
 (tB t 13 (tB t 10 (tB t 9 (tI (.str) 1 false (some (.str [])) (.str))
 (tI (.str) 1 false (some (.str [])) (.str)))
 (tB t 11 (tI (.str) 1 false (some (.str [])) (.str))
 (tB t 12 (tI (.int .u64) 1 false (some (.int .u64 0)) (.int))
 (none))))
 (tB t 15 (tB t 14 (none)
 (tI (.sc) 1 false (some (.iA)) (.no)))
 (tB t 16 (tI (.sc) 1 false (some (.iA)) (.no))
 (tB t 17 (tI (.sc) 1 false (some (.iA)) (.no))
 (none))))))
 (tB t 27 (tB t 22 (tB t 20 (tB t 19 (none)
 (tI (.sc) 1 false (some (.nG)) (.no)))
 (tB t 21 (tI (.int .i32) 1 false (some (.int .i32 0)) (.int))
 (tI (.sl 106 3 true 24 (some (.agg [.int .i64 0,.int .i64 0,.int .i64 0]))) 1 false (some (.list .nil 0 [])) (.no))))
 (tB t 24 (tB t 23 (none)
 (tI (.sc) 1 false (some (.cz)) (.no)))
 (tB t 25 (tI (.sl 104 3 true 24 (some (.agg [.int .i64 0,.int .i64 0,.int .i64 0]))) 1 false (some (.list .nil 0 [])) (.no))
 (tB t 26 (tI (.int .i64) 1 false (some (.int .i64 0)) (.int))
 (tI (.sc) 1 false (some (.bh [.list .nil 0 [],.int .i64 0])) (.no))))))
 (tB t 32 (tB t 29 (none)
 (tB t 30 (tI (.sl 44 2 true 16 (some (.agg [.int .i64 0,.int .i64 0]))) 1 false (some (.list .nil 0 [])) (.no))
 (tB t 31 (tI (.sc) 1 false (some (.bh [.list .nil 0 [],.int .i64 0])) (.no))
 (tI (.sc) 1 false (some (.cz)) (.no)))))
 (tB t 34 (tB t 33 (tI (.sc) 1 false (some (.bh [.int .i64 0,.int .i64 0])) (.no))
 (none))
 (tB t 35 (none)
 (tB t 36 (tI (.sl 108 3 true 24 (some (.agg [.int .i64 0,.int .i64 0,.int .i64 0]))) 1 false (some (.list .nil 0 [])) (.no))
 (tI (.sc) 1 false (some (.bh [.list .nil 0 [],.int .i64 0])) (.no))))))))
 (tB t 56 (tB t 46 (tB t 41 (tB t 39 (none)
 (tB t 40 (tI (.sc) 1 false (some (.cz)) (.no))
 (none)))
 (tB t 43 (none)
 (tB t 44 (tI (.arr 2 1 false) 2 true (some (.agg [.int .i64 0,.int .i64 0])) ((.st (sK 2 0))))
 (tB t 45 (tI (.sc) 1 false (some (.cz)) (.no))
 (none)))))
 (tB t 51 (tB t 48 (tB t 47 (tI (.st [(0,1,false),(1,1,false),(2,1,false),(3,1,false)]) 4 true (zR 4 (.int .i64 0)) ((.st (sK 4 0))))
 (tI (.sc) 1 false (none) (.no)))
 (tB t 49 (tI (.sc) 1 false (some (.cz)) (.no))
 (tB t 50 (tI (.sl 90 5 true 32 (some (.agg [.int .i64 0,.int .i64 0,.bool false,.bool false,.int .i64 0]))) 1 false (some (.list .nil 0 [])) (.no))
 (tI (.sc) 1 false (some (.cz)) (.no)))))
 (tB t 53 (tB t 52 (tI (.sc) 1 false (some (.bh [.str [],.int .i64 0])) (.no))
 (tI (.sc) 1 false (some (.cz)) (.no)))
 (tB t 54 (tI (.sc) 1 false (some (.bh [.list .nil 0 [],.int .i64 0,.int .i64 0])) (.no))
 (tB t 55 (tI (.sc) 1 false (some (.cz)) (.no))
 (tI (.sc) 1 false (some (.cz)) (.no)))))))
 (tB t 66 (tB t 61 (tB t 58 (tB t 57 (tI (.sc) 1 false (some (.cz)) (.no))
 (tI (.sc) 1 false (some (.cz)) (.no)))
 (tB t 59 (tI (.sl 3 1 false 8 (some (.int .i64 0))) 1 false (some (.list .nil 0 [])) (.no))
 (none)))
 (tB t 63 (tB t 62 (none)
 (tI (.sc) 1 false (some (.bh [.list .nil 0 [],.int .i64 0,.int .i64 0])) (.no)))
 (tB t 64 (tI (.sc) 1 false (some (.cz)) (.no))
 (tB t 65 (tI (.sc) 1 false (some (.cz)) (.no))
 (none)))))
 (tB t 71 (tB t 68 (tB t 67 (none)
 (tI (.sc) 1 false (some (.bh [.list .nil 0 [],.int .i64 0])) (.no)))
 (tB t 69 (none)
 (tB t 70 (tI (.sc) 1 false (some (.bh [.list .nil 0 [],.int .i64 0])) (.no))
 (none))))
 (tB t 73 (tB t 72 (tI (.sl 86 2 true 16 (some (.agg [.int .i64 0,.int .i64 0]))) 1 false (some (.list .nil 0 [])) (.no))
 (tI (.sc) 1 false (some (.cz)) (.no)))
 (tB t 74 (none)
 (tB t 75 (tI (.sc) 1 false (some (.bh [.list .nil 0 [],.int .i64 0])) (.no))
 (none))))))))
 (tB t 115 (tB t 95 (tB t 85 (none)
 (tB t 90 (tB t 87 (tB t 86 (tI (.st [(0,1,false),(1,1,false)]) 2 true (some (.agg [.int .i64 0,.int .i64 0])) ((.st (sK 2 0))))
 (none))
 (tB t 88 (none)
 (tB t 89 (none)
 (tI (.st [(0,2,true),(2,1,false),(3,1,false),(4,1,false)]) 5 true (some (.agg [.int .i64 0,.int .i64 0,.bool false,.bool false,.int .i64 0])) ((.st (.cons 0 2 true (.st (sK 2 0)) (.cons 2 1 false .bool (.cons 3 1 false .bool (.cons 4 1 false .int .nil))))))))))
 (none)))
 (tB t 105 (tB t 100 (tB t 97 (tB t 96 (none)
 (tI (.sc) 1 false (some (.bh [.list .nil 0 [],.int .i64 0])) (.no)))
 (tB t 98 (tI (.sc) 1 false (some (.cz)) (.no))
 (tB t 99 (tI (.sc) 1 false (some (.cz)) (.no))
 (tI (.sc) 1 false (some (.bh [.list .nil 0 [],.int .i64 0])) (.no)))))
 (tB t 102 (tB t 101 (tI (.sc) 1 false (some (.cz)) (.no))
 (tI (.sc) 1 false (some (.cz)) (.no)))
 (tB t 103 (tI (.st [(0,1,false),(1,1,false),(2,1,false)]) 3 true (some (.agg [.int .i64 0,.int .i64 0,.int .i64 0])) ((.st (sK 3 0))))
 (tB t 104 (tI (.st [(0,1,false),(1,1,false),(2,1,false)]) 3 true (some (.agg [.int .i64 0,.int .i64 0,.int .i64 0])) ((.st (sK 3 0))))
 (tI (.st [(0,1,false),(1,1,false),(2,1,false)]) 3 true (some (.agg [.int .i64 0,.int .i64 0,.int .i64 0])) ((.st (sK 3 0))))))))
 (tB t 110 (tB t 107 (tB t 106 (tI (.st [(0,1,false),(1,1,false),(2,1,false)]) 3 true (some (.agg [.int .i64 0,.int .i64 0,.int .i64 0])) ((.st (sK 3 0))))
 (tI (.sc) 1 false (some (.cz)) (.no)))
 (tB t 108 (tI (.st [(0,1,false),(1,1,false),(2,1,false)]) 3 true (some (.agg [.int .i64 0,.int .i64 0,.int .i64 0])) ((.st (sK 3 0))))
 (tB t 109 (tI (.sc) 1 false (some (.cz)) (.no))
 (tI (.sc) 1 false (some (.cz)) (.no)))))
 (tB t 112 (tB t 111 (tI (.sc) 1 false (some (.cz)) (.no))
 (tI (.sc) 1 false (some (.cz)) (.no)))
 (tB t 113 (tI (.sc) 1 false (some (.cz)) (.no))
 (tB t 114 (tI (.sc) 1 false (some (.cz)) (.no))
 (tI (.sc) 1 false (some (.cz)) (.no))))))))
 (tB t 134 (tB t 124 (tB t 119 (tB t 117 (tB t 116 (tI (.sc) 1 false (some (.cz)) (.no))
 (tI (.sc) 1 false (some (.cz)) (.no)))
 (tB t 118 (tI (.sc) 1 false (some (.cz)) (.no))
 (tI (.int .i8) 1 false (some (.int .i8 0)) (.int))))
 (tB t 121 (tB t 120 (tI (.arr 3 1 false) 3 true (some (.agg [.int .i8 0,.int .i8 0,.int .i8 0])) ((.st (sK 3 0))))
 (tI (.sc) 1 false (some (.bh [.list .nil 0 [],.bool false])) (.no)))
 (tB t 122 (tI (.sc) 1 false (some (.cz)) (.no))
 (none))))
 (tB t 129 (tB t 126 (none)
 (tB t 127 (none)
 (tB t 128 (tI (.sc) 1 false (some (.cz)) (.no))
 (none))))
 (tB t 131 (tB t 130 (tI (.sl 22 1 false 24 (some (.list .nil 0 []))) 1 false (some (.list .nil 0 [])) (.no))
 (tI (.sc) 1 false (some (.bh [.list .nil 0 [],.int .i64 0])) (.no)))
 (tB t 132 (none)
 (tB t 133 (tI (.arr 5 1 false) 5 true (zR 5 (.int .i64 0)) ((.st (sK 5 0))))
 (tI (.sc) 1 false (none) (.no)))))))
 (tB t 144 (tB t 139 (none)
 (tB t 141 (none)
 (tB t 142 (none)
 (tB t 143 (tI (.sc) 1 false (some (.iA)) (.no))
 (tI (.sl 5 1 false 1 (some (.int .u8 0))) 1 false (some (.list .nil 0 [])) (.no))))))
 (tB t 149 (tB t 146 (tB t 145 (none)
 (tI (.st [(0,1,false),(1,1,false)]) 2 true (some (.agg [.iA,.list .nil 0 []])) ((.st (.cons 0 1 false .no (.cons 1 1 false .no .nil))))))
 (tB t 147 (none)
 (tB t 148 (tI (.sc) 1 false (some (.nG)) (.no))
 (tI (.sc) 1 false (some (.bh [.int .i64 0,.nG])) (.no)))))
 (tB t 151 (none)
 (tB t 152 (none)
 (tB t 153 (none)
 (tI (.map 106 4 (some (.bool false))) 1 false (some (.kr)) (.no))))))))))
 (tB t 232 (tB t 193 (tB t 173 (tB t 163 (tB t 158 (tB t 156 (tB t 155 (tI (.st [(0,1,false),(1,1,false),(2,5,true)]) 7 true (some (.agg [.kr,.int .i64 0,.int .i64 0,.int .i64 0,.bool false,.bool false,.int .i64 0])) ((.st (.cons 0 1 false .no (.cons 1 1 false .int (.cons 2 5 true (.st (.cons 0 2 true (.st (sK 2 0)) (.cons 2 1 false .bool (.cons 3 1 false .bool (.cons 4 1 false .int .nil))))) .nil))))))
 (tI (.st [(0,1,false),(1,1,false),(2,5,true)]) 7 true (some (.agg [.kr,.int .i64 0,.int .i64 0,.int .i64 0,.bool false,.bool false,.int .i64 0])) ((.st (.cons 0 1 false .no (.cons 1 1 false .int (.cons 2 5 true (.st (.cons 0 2 true (.st (sK 2 0)) (.cons 2 1 false .bool (.cons 3 1 false .bool (.cons 4 1 false .int .nil))))) .nil)))))))
 (tB t 157 (tI (.sc) 1 false (some (.bh [.str [],.str [],.bool false])) (.no))
 (none)))
 (tB t 160 (tB t 159 (tI (.sc) 1 false (some (.cz)) (.no))
 (none))
 (tB t 161 (none)
 (tB t 162 (none)
 (tI (.sl 9 1 false 16 (some (.str []))) 1 false (some (.list .nil 0 [])) (.no))))))
 (tB t 168 (tB t 165 (none)
 (tB t 166 (none)
 (tB t 167 (tI (.arr 2 2 true) 4 true (zR 4 (.int .i64 0)) ((.st (.cons 0 2 true (.st (sK 2 0)) (.cons 2 2 true (.st (sK 2 0)) .nil)))))
 (none))))
 (tB t 170 (tB t 169 (tI (.map 86 4 (some (.bool false))) 1 false (some (.kr)) (.no))
 (none))
 (tB t 171 (none)
 (tB t 172 (tI (.sc) 1 false (some (.cz)) (.no))
 (none))))))
 (tB t 183 (tB t 178 (tB t 175 (none)
 (tB t 176 (tI (.sc) 1 false (some (.cz)) (.no))
 (tB t 177 (tI (.sl 179 10 true 64 (some (.agg [.int .i64 0,.int .i64 0,.bool false,.bool false,.int .i64 0,.int .i64 0,.int .i64 0,.bool false,.bool false,.int .i64 0]))) 1 false (some (.list .nil 0 [])) (.no))
 (none))))
 (tB t 180 (tB t 179 (tI (.arr 2 5 true) 10 true (some (.agg [.int .i64 0,.int .i64 0,.bool false,.bool false,.int .i64 0,.int .i64 0,.int .i64 0,.bool false,.bool false,.int .i64 0])) ((.st (.cons 0 5 true (.st (.cons 0 2 true (.st (sK 2 0)) (.cons 2 1 false .bool (.cons 3 1 false .bool (.cons 4 1 false .int .nil))))) (.cons 5 5 true (.st (.cons 0 2 true (.st (sK 2 0)) (.cons 2 1 false .bool (.cons 3 1 false .bool (.cons 4 1 false .int .nil))))) .nil)))))
 (tI (.sc) 1 false (some (.cz)) (.no)))
 (none)))
 (tB t 188 (tB t 185 (tB t 184 (tI (.sc) 1 false (some (.cz)) (.no))
 (none))
 (tB t 186 (tI (.sc) 1 false (some (.cz)) (.no))
 (tB t 187 (tI (.sl 26 1 false 8 (some (.int .i64 0))) 1 false (some (.list .nil 0 [])) (.no))
 (tI (.sc) 1 false (some (.cz)) (.no)))))
 (tB t 190 (tB t 189 (tI (.sc) 1 false (some (.cz)) (.no))
 (tI (.sc) 1 false (some (.cz)) (.no)))
 (tB t 191 (tI (.sc) 1 false (some (.cz)) (.no))
 (tB t 192 (tI (.int .u64) 1 false (some (.int .u64 0)) (.int))
 (tI (.map 86 3 (some (.int .i64 0))) 1 false (some (.kr)) (.no))))))))
 (tB t 212 (tB t 202 (tB t 197 (none)
 (tB t 199 (tB t 198 (none)
 (tI (.sc) 1 false (some (.iA)) (.no)))
 (tB t 200 (tI (.sc) 1 false (some (.iA)) (.no))
 (tB t 201 (none)
 (tI (.sl 205 1 true 8 (some (.agg [.cz]))) 1 false (some (.list .nil 0 [])) (.no))))))
 (tB t 207 (tB t 204 (none)
 (tB t 205 (tI (.st [(0,1,false)]) 1 true (some (.agg [.cz])) ((.st (.cons 0 1 false .no .nil))))
 (tB t 206 (tI (.sc) 1 false (some (.iA)) (.no))
 (none))))
 (tB t 209 (tB t 208 (tI (.sc) 1 false (some (.cz)) (.no))
 (tI (.sc) 1 false (some (.cz)) (.no)))
 (tB t 210 (none)
 (tB t 211 (none)
 (tI (.sc) 1 false (some (.bh [.int .i64 0,.bool false])) (.no)))))))
 (tB t 222 (none)
 (tB t 227 (tB t 224 (tB t 223 (tI (.int .i64) 1 false (some (.int .i64 0)) (.int))
 (tI (.sc) 1 false (some (.bh [.int .i64 0,.int .i64 0])) (.no)))
 (none))
 (tB t 229 (none)
 (tB t 230 (tI (.int .u32) 1 false (some (.int .u32 0)) (.int))
 (tB t 231 (none)
 (tI (.int .u64) 1 false (some (.int .u64 0)) (.int)))))))))
 (tB t 271 (tB t 251 (tB t 241 (tB t 236 (tB t 234 (tB t 233 (tI (.arr 4 3 true) 12 true (zR 12 (.int .i64 0)) ((.st (.cons 0 3 true (.st (sK 3 0)) (.cons 3 3 true (.st (sK 3 0)) (.cons 6 3 true (.st (sK 3 0)) (.cons 9 3 true (.st (sK 3 0)) .nil)))))))
 (none))
 (none))
 (tB t 238 (tB t 237 (tI (.sc) 1 false (some (.cz)) (.no))
 (none))
 (tB t 239 (tI (.sc) 1 false (some (.cz)) (.no))
 (tB t 240 (tI (.sc) 1 false (some (.iA)) (.no))
 (none)))))
 (tB t 246 (tB t 243 (none)
 (tB t 244 (none)
 (tB t 245 (none)
 (tI (.sc) 1 false (some (.iA)) (.no)))))
 (tB t 248 (tB t 247 (none)
 (tI (.sc) 1 false (some (.iA)) (.no)))
 (tB t 249 (tI (.sc) 1 false (some (.cz)) (.no))
 (tB t 250 (none)
 (tI (.int .u64) 1 false (some (.int .u64 0)) (.int)))))))
 (tB t 261 (tB t 256 (tB t 253 (none)
 (tB t 254 (none)
 (tB t 255 (none)
 (tI (.sc) 1 false (some (.cz)) (.no)))))
 (none))
 (tB t 266 (tB t 263 (tB t 262 (none)
 (tI (.arr 24 1 false) 24 true (zR 24 (.int .u8 0)) ((.st (sK 24 0)))))
 (tB t 264 (none)
 (tB t 265 (tI (.sc) 1 false (some (.bh [.list .nil 0 [],.str []])) (.no))
 (none))))
 (tB t 268 (none)
 (tB t 269 (none)
 (tB t 270 (tI (.sc) 1 false (some (.bh [.str [],.bool false])) (.no))
 (none)))))))
 (tB t 290 (tB t 280 (tB t 275 (tB t 273 (tB t 272 (tI (.sc) 1 false (some (.iA)) (.no))
 (tI (.sc) 1 false (some (.bh [.int .i64 0,.int .i64 0])) (.no)))
 (none))
 (none))
 (tB t 285 (tB t 282 (tB t 281 (none)
 (tI (.arr 20 1 false) 20 true (zR 20 (.int .u64 0)) ((.st (sK 20 0)))))
 (tB t 283 (tI (.arr 65 1 false) 65 true (zR 65 (.int .u8 0)) ((.st (sK 65 0))))
 (tB t 284 (tI (.sc) 1 false (some (.bh [.int .u32 0,.int .u32 0])) (.no))
 (none))))
 (tB t 287 (tB t 286 (tI (.sc) 1 false (some (.bh [.int .i32 0,.int .i64 0])) (.no))
 (none))
 (none))))
 (tB t 300 (tB t 295 (tB t 292 (none)
 (tB t 293 (tI (.arr 32 1 false) 32 true (zR 32 (.int .u8 0)) ((.st (sK 32 0))))
 (tB t 294 (tI (.arr 64 1 false) 64 true (zR 64 (.int .u8 0)) ((.st (sK 64 0))))
 (tI (.arr 256 1 false) 256 true (zR 256 (.int .u8 0)) ((.st (sK 256 0)))))))
 (tB t 297 (tB t 296 (none)
 (tI (.st [(0,1,false),(1,1,false)]) 2 true (some (.agg [.int .u8 0,.int .u8 0])) ((.st (sK 2 0)))))
 (tB t 298 (tI (.arr 16 2 true) 32 true (zR 32 (.int .u8 0)) ((.st (.cons 0 2 true (.st (sK 2 0)) (.cons 2 2 true (.st (sK 2 0)) (.cons 4 2 true (.st (sK 2 0)) (.cons 6 2 true (.st (sK 2 0)) (.cons 8 2 true (.st (sK 2 0)) (.cons 10 2 true (.st (sK 2 0)) (.cons 12 2 true (.st (sK 2 0)) (.cons 14 2 true (.st (sK 2 0)) (.cons 16 2 true (.st (sK 2 0)) (.cons 18 2 true (.st (sK 2 0)) (.cons 20 2 true (.st (sK 2 0)) (.cons 22 2 true (.st (sK 2 0)) (.cons 24 2 true (.st (sK 2 0)) (.cons 26 2 true (.st (sK 2 0)) (.cons 28 2 true (.st (sK 2 0)) (.cons 30 2 true (.st (sK 2 0)) .nil)))))))))))))))))))
 (none))))
 (none)))))
def W7 (t:Nat):Option TI:=bif Nat.ble 311 t then none else tiT t
theorem NG:(List.range 311).map (fun t=>match W7 t with | none=>none | some _=>GJ Tryz.prog t)=(List.range 311).map W7:=by kernel_rfl
theorem GK (t:TypeId) (i:TI) (h:W7 t=some i):GJ Tryz.prog t=some i:=by
  by_cases ht:t < 311
  · have h1:=congrArg (fun l=>l[t]?) NG
    simp only [List.getElem?_map,List.getElem?_range ht,Option.map_some,Option.some.injEq] at h1
    rw [h] at h1
    exact h1
  · have hb:Nat.ble 311 t=true:=Nat.ble_eq_true_of_le (Nat.not_lt.1 ht)
    rw [W7,hb] at h
    cases h
def W8:List ((Nat × Nat) × List (Option Nat × Nat × Nat)):=[((15,10),[(none,1,3)]),((106,3),[(none,3,106)]),((138,3),[(none,2,86)])]
def Rl:List ((Nat × Nat) × List (Option Nat × Nat × Nat))→Nat→Nat→List (Option Nat × Nat × Nat)
  | [],_,_=>[]
  | ((a,b),x) :: l,f,t=>bif Nat.beq a f&&Nat.beq b t then x else Rl l f t
def aaF (f t:Nat):List (Option Nat × Nat × Nat):=Rl W8 f t
def aaG (f t:Nat):Bool:=
  (Nat.beq f 1000000&&Nat.beq t 1000000) ||
  (Nat.beq f 29&&(Nat.beq t 5)) ||
  (Nat.beq f 30&&(Nat.beq t 5 || Nat.beq t 11)) ||
  (Nat.beq f 42&&(Nat.beq t 131072)) ||
  (Nat.beq f 48&&(Nat.beq t 3)) ||
  (Nat.beq f 55&&(Nat.beq t 65545)) ||
  (Nat.beq f 57&&(Nat.beq t 8 || Nat.beq t 9 || Nat.beq t 196647)) ||
  (Nat.beq f 69&&(Nat.beq t 196638 || Nat.beq t 262206)) ||
  (Nat.beq f 91&&(Nat.beq t 131072)) ||
  (Nat.beq f 100&&(Nat.beq t 2 || Nat.beq t 4)) ||
  (Nat.beq f 115&&(Nat.beq t 1)) ||
  (Nat.beq f 122&&(Nat.beq t 131072)) ||
  (Nat.beq f 130&&(Nat.beq t 196634 || Nat.beq t 262211)) ||
  (Nat.beq f 134&&(Nat.beq t 65545)) ||
  (Nat.beq f 138&&(Nat.beq t 6 || Nat.beq t 262160)) ||
  (Nat.beq f 143&&(Nat.beq t 1 || Nat.beq t 18)) ||
  (Nat.beq f 145&&(Nat.beq t 1)) ||
  (Nat.beq f 150&&(Nat.beq t 2)) ||
  (Nat.beq f 163&&(Nat.beq t 7)) ||
  (Nat.beq f 164&&(Nat.beq t 9)) ||
  (Nat.beq f 178&&(Nat.beq t 262148 || Nat.beq t 393220)) ||
  (Nat.beq f 181&&(Nat.beq t 5)) ||
  (Nat.beq f 204&&(Nat.beq t 9)) ||
  (Nat.beq f 205&&(Nat.beq t 11)) ||
  (Nat.beq f 214&&(Nat.beq t 12)) ||
  (Nat.beq f 229&&(Nat.beq t 9)) ||
  (Nat.beq f 230&&(Nat.beq t 11))
def Rm:cE:=[]
theorem NH:Rm.all (fun p=>ba p.2)=true:=by kernel_rfl
def W9 (g:Nat):Option (List AV):=dm Rm g
noncomputable def env:Env:={ P:=Tryz.prog,ti:=W7,b6:=W9,yB:=aaG,MU:=fun _=>none,gho:=aaF,GK:=GK,mixed:=by kernel_rfl,nN:=fun _ _ h=>MZ NH h }
def aL (l:List Nat):List (List Nat):=l.map fun m=>(List.range (m.log2+1)).filter m.testBit
def bl (a:Nat):Nat→DT→DT
 | 0,t=>t
 | n+1,t=>AP (a+1) fun b=>.take a [] (bl b n t)
def bk (i:Nat) (t:DT):DT:=.br i [] [] t .stop
def Tf:ah:=⟨aL [0,1,3,7,15,31,63,127,255,511,511,1535,3583,8191,16383,32767,511,66047,197119,459263,1048575,2097151,4194303,8388607],aL [0,1,2,4,8,0,40,72,128,256,256,1280,2304,4864,8448,16640,256,65792,131328,262400,557312,1048832,2097408,4194304],(bl 0 5 (bk 5 (bl 6 18 .done)))⟩
def NI:ah:=⟨aL [0,0,0,4,12,0,32,96,0,256,992,2046,4094,8191,16383],aL [0,0,0,4,8,0,32,64,0,256,640,1042,2048,0,8193],(bl 0 13 (bk 13 (.take 14 [] .done)))⟩
def Tg:ah:=⟨aL [0,0,0,6,14,30,0,0,128,448,960,1984,4094,0,0,24576,57344,122880,0,0,524288,1835008,3932160,8126464,16769024,33554430,67108862,134217727,268435455],aL [0,0,0,6,8,16,0,0,128,320,512,1024,2080,0,0,24576,32768,65536,0,0,524288,1310720,2097152,4194304,8519680,16781312,33554432,0,134217729],(bl 0 27 (bk 27 (.take 28 [] .done)))⟩
def Th:ah:=⟨aL [0,1,3,7,7,23,63,127,7,7,775,1799,4095,8191,16383],aL [0,1,2,4,4,20,44,68,4,4,772,1028,0,4100,8196],(bl 0 12 (bk 12 (bl 13 2 .done)))⟩
def NJ:ah:=⟨aL [0,0,0,6,14,0,0,96,224,510,1022,2047,4095],aL [0,0,0,6,8,0,0,96,128,0,512,1025,2049],(bl 0 9 (bk 9 (bl 10 3 .done)))⟩
def Ti:ah:=⟨aL [0,0,0,6,14,30,0,0,128,448,960,1984,4094,0,0,24576,57344,122880,0,0,524288,1835008,3932160,8126464,16769024,33554430,67108862,134217727,268435455],aL [0,0,0,6,8,16,0,0,128,320,512,1024,2080,0,0,24576,32768,65536,0,0,524288,1310720,2097152,4194304,8519680,16781312,33554432,0,134217729],(bl 0 27 (bk 27 (.take 28 [] .done)))⟩
def Tj:ah:=⟨aL [0,0,3,7,0,0,48,112,255],aL [0,0,3,4,0,0,48,64,136],(bl 0 9 .done)⟩
def Tk:ah:=⟨aL [0,0,3,7,0,0,48,112,255],aL [0,0,3,4,0,0,48,64,136],(bl 0 9 .done)⟩
def Tl:ah:=⟨aL [0,1,3,7,15,31,0,64,192,463,1023,2047,0,4096,13263,32767,65535,0,131072,422863,1048575,2097151,0,4194304,13530063,33554431,67108863,134217727],aL [0,1,2,0,8,16,0,64,128,0,544,1024,0,4096,0,18432,32768,0,131072,0,589824,1048576,0,4194304,0,18874368,33554432,0],(bl 0 3 (bl 6 2 (.take 8 [8] (.take 12 [8] (.take 13 [13,8] (.take 17 [13,8] (.take 18 [18,13,8] (.take 22 [18,13,8] (.take 23 [23,18,13,8] (.br 3 [23,18,13,8] [23,18,13] (.take 4 [23,18,13] (.take 5 [23,18,13] (.br 9 [23,18,13] [23,18] (.take 10 [23,18] (.take 11 [23,18] (.br 14 [23,18] [23] (.take 15 [23] (.take 16 [23] (.br 19 [23] [] (bl 20 2 (bk 24 (bl 25 2 (bk 27 .done)))) .stop))) .stop))) .stop))) .stop))))))))))⟩
def Tm:ah:=⟨aL [0,0,2,7,15,31,31,127,255,511,31,1055,4095,8191,16383,16383,65535,131071,262143,16383,540671,2097151,4194303,8388607,8388607,33554431,67108863,134217727,8388607,276824063,1073741823,2147483647,4294967295,8589934591],aL [0,0,2,5,8,16,16,112,144,272,16,1040,2576,4112,8192,8192,57344,73728,139264,8192,532480,1318912,2105344,4194304,4194304,29360128,37748736,71303168,4194304,272629760,675282944,1077944320,2147491856,4294967312],(bl 0 34 .done)⟩
def Tn:ah:=⟨aL [0,0,2,7,15,31,31,127,255,31,1023,2047],aL [0,0,2,5,8,16,16,112,144,16,784,1040],(bl 0 12 .done)⟩
def NK:ah:=⟨aL [0,0,0,6,15,0,32,127,0,0,768,2047,4095],aL [0,0,0,6,0,0,32,0,0,0,768,0,2306],(bl 0 4 (.take 5 [5] (.take 6 [5] (.take 8 [5] (.take 9 [5] (.take 10 [5] (.br 4 [5] [] (bk 7 (bk 11 (.take 12 [] .done))) .stop)))))))⟩
def NL:ah:=⟨aL [0,1,0,4,12,28,63,127,255,255,1023,2047,4095],aL [0,1,0,4,8,16,34,64,128,128,896,1152,2176],(bl 0 13 .done)⟩
def To:ah:=⟨aL [0,0,3,7,0,0,48,112,255],aL [0,0,3,4,0,0,48,64,136],(bl 0 9 .done)⟩
def Tp:ah:=⟨aL [0,0,3,7,0,0,48,112,255],aL [0,0,3,4,0,0,48,64,136],(bl 0 9 .done)⟩
def Tq:ah:=⟨aL [0,0,3,7,0,0,48,112,255],aL [0,0,3,4,0,0,48,64,136],(bl 0 9 .done)⟩
def NM:ah:=⟨aL [0,0,0,0,0,0,56,0,0,0,1016,2040,3,8191,16383],aL [0,0,0,0,0,0,0,0,0,0,0,1088,3,4100,0],(.take 0 [0] (.take 1 [0] (.take 2 [0] (.take 3 [0] (.take 4 [0] (.take 5 [0] (.take 7 [0] (.take 8 [0] (.take 9 [0] (.take 12 [0] (.br 6 [0] [0] (.br 10 [0] [] (.take 11 [] (.take 13 [] (bk 14 .done))) .stop) .stop)))))))))))⟩
def NN:ah:=⟨aL [0,1,3,7,0,16,48,112,255],aL [0,1,2,4,0,16,32,64,136],(bl 0 9 .done)⟩
def Tr:ah:=⟨aL [0,0,2,7,15,31,31,127,255,31,31,1567,3615,8191,16383],aL [0,0,2,5,8,16,16,112,144,16,16,1552,2064,0,8208],(bl 0 13 (bk 13 (.take 14 [] .done)))⟩
def Ts:ah:=⟨aL [0,0,2,7,15,31,31,127,255,31,31,1567,3615,8191,16383],aL [0,0,2,5,8,16,16,112,144,16,16,1552,2064,4368,8208],(bl 0 15 .done)⟩
def Tt:ah:=⟨aL [0,0,0,6,15,0,0,96,224,480,1023,0,0,6144,16383,32767],aL [0,0,0,6,0,0,0,96,128,256,0,0,0,6144,0,18434],(bl 0 4 (bl 5 3 (.take 8 [8] (.take 9 [8] (.take 11 [8] (.take 12 [8] (.take 13 [8] (.br 4 [8] [] (bk 10 (bk 14 (.take 15 [] .done))) .stop))))))))⟩
def Tu:ah:=⟨aL [0,0,3,7,0,31],aL [0,0,3,4,0,24],(bl 0 6 .done)⟩
def Tv:ah:=⟨aL [0,1,0,4,15,31,31,95,223,511,1023,31,4095,8191,16383,32767,65535,131071,262143],aL [0,0,0,4,8,16,16,80,144,304,528,16,0,4112,8208,0,32770,0,131072],(.take 0 [] (bl 2 2 (bk 1 (bl 4 8 (bk 12 (bl 13 2 (bk 15 (.take 16 [] (bk 17 (.take 18 [] .done))))))))))⟩
def Tw:ah:=⟨aL [0,1,3,3,15,31,3,3,195,451,1023,2047,4095],aL [0,1,2,2,14,18,2,2,194,258,0,1026,2049],(bl 0 10 (bk 10 (bl 11 2 .done)))⟩
def Tx:ah:=⟨aL [0,0,3,7,15,0,63,127,255,255,1023,2047,4095,255,16383,32767],aL [0,0,3,4,0,0,48,64,128,128,896,1152,0,128,12416,16512],(bl 0 4 (.take 5 [5] (.br 4 [5] [] (bl 6 6 (.take 13 [13] (.br 12 [13] [] (bl 14 2 .done) .stop))) .stop)))⟩
def Ty:ah:=⟨aL [0,1,3,7,7,23,63,127,255,7,519,2047,4095],aL [0,1,2,4,4,20,44,68,0,4,516,1284,2052],(bl 0 8 (.take 9 [] (.take 10 [10] (.br 8 [10] [] (bl 11 2 .done) .stop))))⟩
def Tz:ah:=⟨aL [0,1,3,7,15,0,32,96,224,480,1023,2047],aL [0,1,2,4,0,0,32,64,128,256,0,1024],(bl 0 4 (bl 5 3 (.take 8 [8] (.take 9 [9,8] (.br 4 [9,8] [] (bk 10 (.take 11 [] .done)) .stop)))))⟩
def TA:ah:=⟨aL [0,1,0,0,12,28,63,127],aL [0,1,0,0,12,16,0,64],(bl 0 6 (bk 6 (.take 7 [] .done)))⟩
def NO:ah:=⟨aL [0,1,3,7,15,31,0,127,255,511,1023],aL [0,1,2,4,8,0,0,0,160,0,512],(bl 0 5 (.take 6 [6] (.br 5 [6] [] (bk 7 (.take 8 [] (bk 9 (.take 10 [] .done)))) .stop)))⟩
def NP:ah:=⟨aL [0,1,3,7,15,31,63,127,63,319,831,1855,4095,8191,16383],aL [0,1,2,4,8,16,32,0,32,288,544,1056,0,4256,8224],(bl 0 7 (.take 8 [8] (.take 9 [8] (.take 10 [8] (.take 11 [11,8] (.br 7 [11,8] [] (bk 12 (bl 13 2 .done)) .stop))))))⟩
def NQ:ah:=⟨aL [0,1,3,7,0,31],aL [0,1,2,4,0,24],(bl 0 6 .done)⟩
def JY:ah:=⟨aL [0,1,3,7,15,0,32,127,255],aL [0,1,2,4,8,0,32,80,128],(bl 0 9 .done)⟩
def JZ:ah:=⟨aL [0,1,3,7,0,31],aL [0,1,2,4,0,0],(bl 0 5 (bk 5 .done))⟩
def J0:ah:=⟨aL [0,0,0,4,12,28,60,0,125,381,893,2047,4095,8191],aL [0,0,0,4,8,16,32,0,1,256,0,2,2048,0],(.take 0 [] (.take 1 [1] (.take 2 [1] (.take 3 [1] (.take 4 [1] (.take 5 [1] (.take 6 [1] (.take 7 [7,1] (.take 8 [7,1] (.take 9 [7,1] (.br 10 [7,1] [] (bl 11 2 (bk 13 .done)) .stop)))))))))))⟩
def NR:ah:=⟨aL [0,1,0,7,15,31],aL [0,0,0,0,10,0],(.take 0 [] (.take 2 [2] (.br 1 [2] [] (bk 3 (.take 4 [] (bk 5 .done))) .stop)))⟩
def NS:ah:=⟨aL [0,1,3,0,8,31,63,127,255],aL [0,1,0,0,8,0,36,0,128],(bl 0 2 (.take 3 [] (.take 4 [4] (.br 2 [4] [] (bk 5 (.take 6 [] (bk 7 (.take 8 [] .done)))) .stop))))⟩
def NT:ah:=⟨aL [0,1,3,0,0,16,48,120,255,0,512,1536,0,4096,0,16384,49264,127088,261744,524287,1048575],aL [0,1,2,0,0,16,0,72,132,0,512,1024,0,4096,0,16384,0,73728,133120,262400,0],(bl 0 2 (.take 2 [2] (.take 3 [2] (.take 4 [2] (.take 5 [2] (.take 9 [2] (.take 10 [2] (.take 11 [11,2] (.take 12 [11,2] (.take 13 [11,2] (.take 14 [11,2] (.take 15 [15,11,2] (.br 6 [15,11,2] [11,2] (.take 7 [11,2] (.take 8 [11,2] (.br 16 [11,2] [] (bl 17 3 (bk 20 .done)) .stop))) .stop)))))))))))))⟩
def NU:ah:=⟨aL [0,0,2,7,0,0,32,127,0,0,1023,2047],aL [0,0,2,0,0,0,32,0,0,0,0,0],(.al 8 [1,3,7,8,9,11,12,13] (.al 9 [1,3,7,8,9,11,12,13] (bl 0 3 (bl 4 2 (.take 6 [6] (.br 3 [6] [] (bk 7 (bk 10 (bk 11 .done))) .stop))))))⟩
def NV:ah:=⟨aL [0,0,0,3,15,31,63,0,0,256,0,896,3968,8064,16256,32767],aL [0,0,0,3,12,16,0,0,0,256,0,640,3072,4096,8192,16448],(bl 0 6 (.take 7 [7] (.take 8 [7] (.take 9 [7] (.take 10 [7] (.take 11 [7] (.take 12 [7] (.take 13 [7] (.take 14 [14,7] (.br 6 [14,7] [] (.take 15 [] .done) .stop))))))))))⟩
def NW:ah:=⟨aL [0,1,0,4,12,0,32,0,128,384,896,2016,0,4096,16383,32767],aL [0,0,0,4,8,0,32,0,128,256,512,1088,0,4096,10258,0],(.take 0 [] (.take 2 [] (.take 3 [3] (.take 4 [3] (.take 5 [3] (.take 6 [6,3] (.take 7 [6,3] (.take 8 [8,6,3] (.take 9 [8,6,3] (.take 10 [8,6,3] (.take 11 [8,6,3] (.take 12 [8,6,3] (.take 13 [13,8,6,3] (.br 1 [13,8,6,3] [] (.take 14 [] (bk 15 .done)) .stop))))))))))))))⟩
def NX:ah:=⟨aL [0,1,0,4,15,31,0,64,192,511,1023,2047,4095,8191,16383,32767,65535,131071],aL [0,1,0,4,10,0,0,64,128,256,512,1536,2560,4608,0,16416,0,65536],(bl 0 5 (.take 6 [] (.take 7 [7] (.take 8 [7] (.br 5 [7] [] (bl 9 5 (bk 14 (.take 15 [] (bk 16 (.take 17 [] .done))))) .stop)))))⟩
def NY:ah:=⟨aL [0,1,0,4,15,0,32,0,128,511,0,1024,0,4096,16383,32767,65535,131071],aL [0,1,0,4,0,0,32,0,128,0,0,1024,0,4096,0,16912,0,65536],(bl 0 4 (.take 5 [] (.take 6 [6] (.take 7 [6] (.take 8 [8,6] (.take 10 [8,6] (.take 11 [11,8,6] (.take 12 [11,8,6] (.take 13 [13,11,8,6] (.br 4 [13,11,8,6] [13,11] (.br 9 [13,11] [] (bk 14 (.take 15 [] (bk 16 (.take 17 [] .done)))) .stop) .stop))))))))))⟩
def J1:ah:=⟨aL [0,1,3,7,7,23,63,127,7,7,775,1799,4095,8191,16383],aL [0,1,2,4,4,20,44,68,4,4,772,1028,0,4100,8196],(bl 0 12 (bk 12 (bl 13 2 .done)))⟩
def NZ:ah:=⟨aL [0,0,3,7,3,19,63],aL [0,0,3,4,0,16,0],(bl 0 2 (.take 2 [2] (.take 3 [2] (.br 4 [2] [] (.take 5 [] (bk 6 .done)) .stop))))⟩
def N0:ah:=⟨aL [0,0,3,7,0,0,48,112,255,511,1023,1023,1023,7167,15359,32767,65535,131071],aL [0,0,3,4,0,0,48,64,0,256,512,512,512,6656,8704,0,33280,66048],(bl 0 8 (bk 8 (bl 9 6 (bk 15 (bl 16 2 .done)))))⟩
def N1:ah:=⟨aL [0,0,3,0,0,0,32,112,248,7,1023,2047],aL [0,0,3,0,0,0,32,80,136,4,256,0],(bl 0 12 .done)⟩
def N2:ah:=⟨aL [0,1,3,0,8,24,63,127],aL [0,1,2,0,0,16,36,64],(bl 0 2 (.take 2 [2] (.take 3 [2] (.br 4 [2] [] (bl 5 3 .done) .stop))))⟩
def N3:ah:=⟨aL [0,1,0,4,0,16,60,124,252,511,1023,2047,4095],aL [0,0,0,4,0,16,40,64,128,0,514,0,2048],(.take 0 [] (.take 2 [] (.take 3 [3] (.take 4 [3] (.take 5 [5,3] (.take 6 [5,3] (.take 7 [5,3] (.take 8 [5,3] (.br 1 [5,3] [] (bk 9 (.take 10 [] (bk 11 (.take 12 [] .done)))) .stop)))))))))⟩
def N4:ah:=⟨aL [0,1,3,0,8,31,63,127,255],aL [0,1,0,0,8,0,36,0,128],(bl 0 2 (.take 3 [] (.take 4 [4] (.br 2 [4] [] (bk 5 (.take 6 [] (bk 7 (.take 8 [] .done)))) .stop))))⟩
def N5:ah:=⟨aL [0,0,3,7,15,15,63,127,15,15,527,1807,3855,8191,16383],aL [0,0,3,4,8,8,56,72,8,8,520,1288,2056,0,8200],(bl 0 13 (bk 13 (.take 14 [] .done)))⟩
def N6:ah:=⟨aL [0,0,0,0,8,0,0,64,224,480,0,0,3072,7168,16355,32739,65535,131071],aL [0,0,0,0,8,0,0,64,160,256,0,0,3072,4096,3,0,20,0],(bl 0 15 (bk 15 (.take 16 [] (bk 17 .done))))⟩
def J2:ah:=⟨aL [0,0,0,0,0,24,0,0,0,384,960,1984,0,0,12288,28672,65475,131011,262143,524287],aL [0,0,0,0,0,24,0,0,0,384,576,1024,0,0,12288,16384,3,0,36,0],(bl 0 17 (bk 17 (.take 18 [] (bk 19 .done))))⟩
def J3:ah:=⟨aL [0,0,0,0,0,24,0,0,0,384,960,1984,0,0,12288,28672,65475,131011,262143,524287],aL [0,0,0,0,0,24,0,0,0,384,576,1024,0,0,12288,16384,3,0,36,0],(bl 0 17 (bk 17 (.take 18 [] (bk 19 .done))))⟩
def N7:ah:=⟨aL [0,0,0,0,0,0,48,112,0,0,768,1792,4083,8179,16383,32767],aL [0,0,0,0,0,0,48,64,0,0,768,1024,3,0,12,0],(bl 0 13 (bk 13 (.take 14 [] (bk 15 .done))))⟩
def N8:ah:=⟨aL [0,0,3,7,15,15,63,127,15,15,527,1807,3855,8191,16383,32767],aL [0,0,3,4,8,8,56,72,8,8,520,1288,2056,0,8200,16392],(bl 0 13 (bk 13 (bl 14 2 .done)))⟩
def J4:ah:=⟨aL [0,0,0,0,8,0,0,64,224,480,0,0,3072,7168,16355,32739,65535,131071],aL [0,0,0,0,8,0,0,64,160,256,0,0,3072,4096,3,0,20,0],(bl 0 15 (bk 15 (.take 16 [] (bk 17 .done))))⟩
def J5:ah:=⟨aL [0,0,3,7,0,0,32,112,240,511,1023],aL [0,0,3,4,0,0,32,80,128,0,512],(bl 0 9 (bk 9 (.take 10 [] .done)))⟩
def J6:ah:=⟨aL [0,0,0,0,8,0,0,64,224,480,0,0,3072,7168,16355,32739,65535,131071],aL [0,0,0,0,8,0,0,64,160,256,0,0,3072,4096,3,0,20,0],(bl 0 15 (bk 15 (.take 16 [] (bk 17 .done))))⟩
def J7:ah:=⟨aL [0,0,3,7,0,0,32,112,240,511,1023],aL [0,0,3,4,0,0,32,80,128,0,512],(bl 0 9 (bk 9 (.take 10 [] .done)))⟩
def J8:ah:=⟨aL [0,0,0,0,8,0,0,64,224,480,0,0,3072,7168,16355,32739,65535,131071],aL [0,0,0,0,8,0,0,64,160,256,0,0,3072,4096,3,0,20,0],(bl 0 15 (bk 15 (.take 16 [] (bk 17 .done))))⟩
def N9:ah:=⟨aL [0,0,0,0,0,0,48,112,0,0,768,1792,4083,8179,16383,32767],aL [0,0,0,0,0,0,48,64,0,0,768,1024,3,0,12,0],(bl 0 13 (bk 13 (.take 14 [] (bk 15 .done))))⟩
def Oa:ah:=⟨aL [0,0,3,7,15,15,63,127,15,15,783,1807,4095,8191,16383],aL [0,0,3,4,8,8,56,72,8,8,776,1032,0,4104,8200],(bl 0 12 (bk 12 (bl 13 2 .done)))⟩
def Ob:ah:=⟨aL [0,0,3,7,15,15,63,127,15,15,783,1807,4095,8191],aL [0,0,3,4,8,8,56,72,8,8,776,1032,0,4104],(bl 0 12 (bk 12 (.take 13 [] .done)))⟩
def Oc:ah:=⟨aL [0,0,0,0,0,0,48,112,0,0,768,1792,4083,8179,16383,32767],aL [0,0,0,0,0,0,48,64,0,0,768,1024,3,0,12,0],(bl 0 13 (bk 13 (.take 14 [] (bk 15 .done))))⟩
def Od:ah:=⟨aL [0,0,0,0,0,0,48,112,0,0,768,1792,4083,8179,16383,32767],aL [0,0,0,0,0,0,48,64,0,0,768,1024,3,0,12,0],(bl 0 13 (bk 13 (.take 14 [] (bk 15 .done))))⟩
def Oe:ah:=⟨aL [0,0,3,7,15,15,63,127,15,15,783,1807,4095,8191],aL [0,0,3,4,8,8,56,72,8,8,776,1032,0,4104],(bl 0 12 (bk 12 (.take 13 [] .done)))⟩
def Of:ah:=⟨aL [0,0,3,7,15,15,63,127,15,15,783,1807,4095,8191,16383],aL [0,0,3,4,8,8,56,72,8,8,776,1032,0,4104,8200],(bl 0 12 (bk 12 (bl 13 2 .done)))⟩
def Og:ah:=⟨aL [0,0,0,0,0,0,48,112,0,0,768,1792,4083,8179,16383,32767],aL [0,0,0,0,0,0,48,64,0,0,768,1024,3,0,12,0],(bl 0 13 (bk 13 (.take 14 [] (bk 15 .done))))⟩
def J9:ah:=⟨aL [0,0,0,0,0,0,48,112,0,0,768,1792,4083,8179,16383,32767],aL [0,0,0,0,0,0,48,64,0,0,768,1024,3,0,12,0],(bl 0 13 (bk 13 (.take 14 [] (bk 15 .done))))⟩
def Ka:ah:=⟨aL [0,0,3,7,15,15,63,127,15,15,783,1807,4095,8191],aL [0,0,3,4,8,8,56,72,8,8,776,1032,0,4104],(bl 0 12 (bk 12 (.take 13 [] .done)))⟩
def Kb:ah:=⟨aL [0,0,3,7,15,15,63,127,15,15,783,1807,4095,8191,16383],aL [0,0,3,4,8,8,56,72,8,8,776,1032,0,4104,8200],(bl 0 12 (bk 12 (bl 13 2 .done)))⟩
def Kc:ah:=⟨aL [0,0,0,0,0,0,48,112,0,0,768,1792,4083,8179,16383,32767],aL [0,0,0,0,0,0,48,64,0,0,768,1024,3,0,12,0],(bl 0 13 (bk 13 (.take 14 [] (bk 15 .done))))⟩
def Kd:ah:=⟨aL [0,0,0,0,0,0,48,112,0,0,768,1792,4083,8179,16383,32767],aL [0,0,0,0,0,0,48,64,0,0,768,1024,3,0,12,0],(bl 0 13 (bk 13 (.take 14 [] (bk 15 .done))))⟩
def Oh:ah:=⟨aL [0,1,0,7,15,31,63,127,63,511,1023,2047,4095,8191,16383,8191,65535,131071,262143,524287,1048575,2097151,1048575,8388607,16777215,33554431,67108863],aL [0,0,0,0,10,16,32,0,32,0,672,1056,2048,4096,0,4096,0,86016,135168,262144,524288,0,524288,0,11010048,17301504,33554432],(.take 0 [] (.take 2 [2] (.br 1 [2] [] (bk 3 (bl 4 3 (.take 8 [8] (.br 7 [8] [] (bk 9 (bl 10 4 (.take 15 [15] (.br 14 [15] [] (bk 16 (bl 17 4 (.take 22 [22] (.br 21 [22] [] (bk 23 (bl 24 3 .done)) .stop)))) .stop)))) .stop)))) .stop)))⟩
def Ke:ah:=⟨aL [0,1,3,7,7,7,39,119,247,7,7,1543,3591,8191,16383,32767,65535],aL [0,1,2,4,4,4,36,84,132,4,4,1540,2052,0,8196,16388,32772],(bl 0 13 (bk 13 (bl 14 3 .done)))⟩
def Oi:ah:=⟨aL [0,1,0,4,15,0,32,0,128,511,1023,2047,4095],aL [0,1,0,4,0,0,32,0,128,0,528,0,2048],(bl 0 4 (.take 5 [] (.take 6 [6] (.take 7 [6] (.take 8 [8,6] (.br 4 [8,6] [] (bk 9 (.take 10 [] (bk 11 (.take 12 [] .done)))) .stop))))))⟩
def Oj:ah:=⟨aL [0,0,0,6,14,0,0,64,224,480,1023],aL [0,0,0,6,8,0,0,64,160,256,0],(bl 0 10 (bk 10 .done))⟩
def Kf:ah:=⟨aL [0,0,0,6,14,0,0,64,224,480,1023,2047],aL [0,0,0,6,8,0,0,64,160,256,0,1024],(bl 0 10 (bk 10 (.take 11 [] .done)))⟩
def Ol:ah:=⟨aL [0,0,3,0,0,16,63,0,0,511,1023],aL [0,0,0,0,0,16,0,0,0,0,0],(.al 7 [1,3,11,12,14,15,16] (.al 8 [1,3,11,12,14,15,16] (bl 0 2 (.take 3 [3] (.take 4 [3] (.take 5 [3] (.br 2 [3] [] (bk 6 (bk 9 (bk 10 .done))) .stop)))))))⟩
def Om:ah:=⟨aL [0,1,0,7,15,31,31,31,223,511,1023,31,31,31,12319,28703,63519,129055,262143,524287],aL [0,1,0,6,8,16,16,16,208,304,528,16,16,16,12304,16400,34832,65552,0,262160],(bl 0 18 (bk 18 (.take 19 [] .done)))⟩
def On:ah:=⟨aL [0,0,0,6,15,31,0,0,0,384,960,1984,4095,8191],aL [0,0,0,6,9,16,0,0,0,384,576,1024,0,4096],(bl 0 12 (bk 12 (.take 13 [] .done)))⟩
def Oo:ah:=⟨aL [0,0,0,6,0,0,0,96,0,0,0,1536,3840,7936,0,0,0,98304,245760,507904,1048335,2096911,4194303,8388607],aL [0,0,0,6,0,0,0,96,0,0,0,1536,2304,4096,0,0,0,98304,147456,262144,9,0,144,0],(bl 0 21 (bk 21 (.take 22 [] (bk 23 .done))))⟩
def Oq:ah:=⟨aL [0,1,3,0,8,24,56,127,255,511],aL [0,1,2,0,8,16,32,68,1,0],(bl 0 9 (bk 9 .done))⟩
def Ot:ah:=⟨aL [0,1,3,0,8,24,56,127,255,511],aL [0,1,2,0,8,16,32,68,1,0],(bl 0 9 (bk 9 .done))⟩
def Ou:ah:=⟨aL [0,1,3,0,8,24,56,127,255,511],aL [0,1,2,0,8,16,32,68,1,0],(bl 0 9 (bk 9 .done))⟩
def Ov:ah:=⟨aL [0,0,0,6,14,0,63,127],aL [0,0,0,6,8,0,0,64],(bl 0 6 (bk 6 (.take 7 [] .done)))⟩
def Ow:ah:=⟨aL [0,0,0,6,14,30,30,30,222,478,30,2046,4094,8190,4095,32767],aL [0,0,0,6,8,16,16,16,208,272,16,0,2064,4112,1,8192],(bl 0 11 (bk 11 (bl 12 4 .done)))⟩
def Ox:ah:=⟨aL [0,0,3,7,15,15,15,111,239,15,15,1039,3599,7695,16383,32767,65535],aL [0,0,3,4,8,8,8,104,136,8,8,1032,2568,4104,0,16392,32776],(bl 0 14 (bk 14 (bl 15 2 .done)))⟩
def Oy:ah:=⟨aL [0,0,0,0,8,0,0,64,224,480,0,0,3072,7168,16355,32739,65535,131071],aL [0,0,0,0,8,0,0,64,160,256,0,0,3072,4096,3,0,20,0],(bl 0 15 (bk 15 (.take 16 [] (bk 17 .done))))⟩
def Kg:ah:=⟨aL [0,0,0,0,0,24,0,0,0,384,960,1984,0,0,12288,28672,65475,131011,262143,524287],aL [0,0,0,0,0,24,0,0,0,384,576,1024,0,0,12288,16384,3,0,36,0],(bl 0 17 (bk 17 (.take 18 [] (bk 19 .done))))⟩
def Kh:ah:=⟨aL [0,0,0,0,0,24,0,0,0,384,960,1984,0,0,12288,28672,65475,131011,262143,524287],aL [0,0,0,0,0,24,0,0,0,384,576,1024,0,0,12288,16384,3,0,36,0],(bl 0 17 (bk 17 (.take 18 [] (bk 19 .done))))⟩
def Oz:ah:=⟨aL [0,0,0,0,0,0,48,112,0,0,768,1792,4083,8179,16383,32767],aL [0,0,0,0,0,0,48,64,0,0,768,1024,3,0,12,0],(bl 0 13 (bk 13 (.take 14 [] (bk 15 .done))))⟩
def OA:ah:=⟨aL [0,0,3,7,15,15,15,111,239,15,15,1039,3599,7695,16383,32767,65535,131071],aL [0,0,3,4,8,8,8,104,136,8,8,1032,2568,4104,0,16392,32776,65544],(bl 0 14 (bk 14 (bl 15 3 .done)))⟩
def Ki:ah:=⟨aL [0,0,0,0,8,0,0,64,224,480,0,0,3072,7168,16355,32739,65535,131071],aL [0,0,0,0,8,0,0,64,160,256,0,0,3072,4096,3,0,20,0],(bl 0 15 (bk 15 (.take 16 [] (bk 17 .done))))⟩
def Kj:ah:=⟨aL [0,0,0,6,14,0,0,64,224,480,1023,2047,4095],aL [0,0,0,6,8,0,0,64,160,256,0,1024,2048],(bl 0 10 (bk 10 (bl 11 2 .done)))⟩
def Kk:ah:=⟨aL [0,0,0,0,8,0,0,64,224,480,0,0,3072,7168,16355,32739,65535,131071],aL [0,0,0,0,8,0,0,64,160,256,0,0,3072,4096,3,0,20,0],(bl 0 15 (bk 15 (.take 16 [] (bk 17 .done))))⟩
def Kl:ah:=⟨aL [0,0,0,6,14,0,0,64,224,480,1023,2047,4095],aL [0,0,0,6,8,0,0,64,160,256,0,1024,2048],(bl 0 10 (bk 10 (bl 11 2 .done)))⟩
def Km:ah:=⟨aL [0,0,0,0,8,0,0,64,224,480,0,0,3072,7168,16355,32739,65535,131071],aL [0,0,0,0,8,0,0,64,160,256,0,0,3072,4096,3,0,20,0],(bl 0 15 (bk 15 (.take 16 [] (bk 17 .done))))⟩
def OB:ah:=⟨aL [0,0,0,0,0,0,48,112,0,0,768,1792,4083,8179,16383,32767],aL [0,0,0,0,0,0,48,64,0,0,768,1024,3,0,12,0],(bl 0 13 (bk 13 (.take 14 [] (bk 15 .done))))⟩
def OC:ah:=⟨aL [0,0,3,7,15,15,15,111,239,15,15,1551,3599,8191,16383,32767,65535],aL [0,0,3,4,8,8,8,104,136,8,8,1544,2056,0,8200,16392,32776],(bl 0 13 (bk 13 (bl 14 3 .done)))⟩
def OD:ah:=⟨aL [0,0,3,7,15,15,15,111,239,15,15,1551,3599,8191,16383,32767],aL [0,0,3,4,8,8,8,104,136,8,8,1544,2056,0,8200,16392],(bl 0 13 (bk 13 (bl 14 2 .done)))⟩
def OE:ah:=⟨aL [0,0,0,0,0,0,48,112,0,0,768,1792,4083,8179,16383,32767],aL [0,0,0,0,0,0,48,64,0,0,768,1024,3,0,12,0],(bl 0 13 (bk 13 (.take 14 [] (bk 15 .done))))⟩
def OF:ah:=⟨aL [0,0,0,0,0,0,48,112,0,0,768,1792,4083,8179,16383,32767],aL [0,0,0,0,0,0,48,64,0,0,768,1024,3,0,12,0],(bl 0 13 (bk 13 (.take 14 [] (bk 15 .done))))⟩
def OG:ah:=⟨aL [0,0,3,7,15,15,15,111,239,15,15,1551,3599,8191,16383,32767],aL [0,0,3,4,8,8,8,104,136,8,8,1544,2056,0,8200,16392],(bl 0 13 (bk 13 (bl 14 2 .done)))⟩
def OH:ah:=⟨aL [0,0,3,7,15,15,15,111,239,15,15,1551,3599,8191,16383,32767,65535],aL [0,0,3,4,8,8,8,104,136,8,8,1544,2056,0,8200,16392,32776],(bl 0 13 (bk 13 (bl 14 3 .done)))⟩
def OI:ah:=⟨aL [0,0,0,0,0,0,48,112,0,0,768,1792,4083,8179,16383,32767],aL [0,0,0,0,0,0,48,64,0,0,768,1024,3,0,12,0],(bl 0 13 (bk 13 (.take 14 [] (bk 15 .done))))⟩
def Kn:ah:=⟨aL [0,0,0,0,0,0,48,112,0,0,768,1792,4083,8179,16383,32767],aL [0,0,0,0,0,0,48,64,0,0,768,1024,3,0,12,0],(bl 0 13 (bk 13 (.take 14 [] (bk 15 .done))))⟩
def Ko:ah:=⟨aL [0,0,3,7,15,15,15,111,239,15,15,1551,3599,8191,16383,32767],aL [0,0,3,4,8,8,8,104,136,8,8,1544,2056,0,8200,16392],(bl 0 13 (bk 13 (bl 14 2 .done)))⟩
def Kp:ah:=⟨aL [0,0,3,7,15,15,15,111,239,15,15,1551,3599,8191,16383,32767,65535],aL [0,0,3,4,8,8,8,104,136,8,8,1544,2056,0,8200,16392,32776],(bl 0 13 (bk 13 (bl 14 3 .done)))⟩
def Kq:ah:=⟨aL [0,0,0,0,0,0,48,112,0,0,768,1792,4083,8179,16383,32767],aL [0,0,0,0,0,0,48,64,0,0,768,1024,3,0,12,0],(bl 0 13 (bk 13 (.take 14 [] (bk 15 .done))))⟩
def Kr:ah:=⟨aL [0,0,0,0,0,0,48,112,0,0,768,1792,4083,8179,16383,32767],aL [0,0,0,0,0,0,48,64,0,0,768,1024,3,0,12,0],(bl 0 13 (bk 13 (.take 14 [] (bk 15 .done))))⟩
def Ks:ah:=⟨aL [0,1,3,7,7,7,39,119,247,7,7,1543,3591,8191,16383,32767,65535],aL [0,1,2,4,4,4,36,84,132,4,4,1540,2052,0,8196,16388,32772],(bl 0 13 (bk 13 (bl 14 3 .done)))⟩
def OJ:ah:=⟨aL [0,0,2,0,0,16,0,64,192,0,512,455,2503,8191,16383],aL [0,0,2,0,0,16,0,64,128,0,512,5,0,40,0],(bl 0 12 (bk 12 (.take 13 [] (bk 14 .done))))⟩
def OK:ah:=⟨aL [0,0,2,0,0,16,0,64,192,0,512,455,2503,8191,16383],aL [0,0,2,0,0,16,0,64,128,0,512,5,0,40,0],(bl 0 12 (bk 12 (.take 13 [] (bk 14 .done))))⟩
def OL:ah:=⟨aL [0,0,2,0,0,16,0,64,192,0,512,455,2503,8191,16383],aL [0,0,2,0,0,16,0,64,128,0,512,5,0,40,0],(bl 0 12 (bk 12 (.take 13 [] (bk 14 .done))))⟩
def Kt:ah:=⟨aL [0,0,2,0,0,16,0,64,192,0,512,455,2503,8191,16383],aL [0,0,2,0,0,16,0,64,128,0,512,5,0,40,0],(bl 0 12 (bk 12 (.take 13 [] (bk 14 .done))))⟩
def Ku:ah:=⟨aL [0,0,2,0,0,16,0,64,192,0,512,455,2503,8191,16383],aL [0,0,2,0,0,16,0,64,128,0,512,5,0,40,0],(bl 0 12 (bk 12 (.take 13 [] (bk 14 .done))))⟩
def Kv:ah:=⟨aL [0,0,2,0,0,16,0,64,192,0,512,455,2503,8191,16383],aL [0,0,2,0,0,16,0,64,128,0,512,5,0,40,0],(bl 0 12 (bk 12 (.take 13 [] (bk 14 .done))))⟩
def Kw:ah:=⟨aL [0,0,2,0,0,16,0,64,192,0,512,455,2503,8191,16383],aL [0,0,2,0,0,16,0,64,128,0,512,5,0,40,0],(bl 0 12 (bk 12 (.take 13 [] (bk 14 .done))))⟩
def OM:ah:=⟨aL [0,0,3,7,0,0,48,112,255],aL [0,0,3,4,0,0,48,64,0],(bl 0 8 (bk 8 .done))⟩
def ON:ah:=⟨aL [0,1,0,7,15,31,31,31,31,415,991,2015,31,31,31,24607,57375,127007,258079,524287,1048575,2097151],aL [0,1,0,6,8,16,16,16,16,400,592,1040,16,16,16,24592,32784,69648,131088,0,524304,1048592],(bl 0 19 (bk 19 (bl 20 2 .done)))⟩
def OO:ah:=⟨aL [0,0,0,0,12,30,62,0,0,0,768,1920,3968,8191,16383,32767],aL [0,0,0,0,12,18,32,0,0,0,768,1152,2048,0,8192,16384],(bl 0 13 (bk 13 (bl 14 2 .done)))⟩
def OP:ah:=⟨aL [0,0,0,6,0,0,0,96,0,0,0,1536,3840,7936,0,0,0,98304,245760,507904,1048335,2096911,4194303,8388607],aL [0,0,0,6,0,0,0,96,0,0,0,1536,2304,4096,0,0,0,98304,147456,262144,9,0,144,0],(bl 0 21 (bk 21 (.take 22 [] (bk 23 .done))))⟩
def OQ:ah:=⟨aL [0,0,3,7,15,15,15,111,239,15,15,1039,3599,7695,16383,32767,65535],aL [0,0,3,4,8,8,8,104,136,8,8,1032,2568,4104,0,16392,32776],(bl 0 14 (bk 14 (bl 15 2 .done)))⟩
def OR:ah:=⟨aL [0,0,0,0,8,0,0,64,224,480,0,0,3072,7168,16355,32739,65535,131071],aL [0,0,0,0,8,0,0,64,160,256,0,0,3072,4096,3,0,20,0],(bl 0 15 (bk 15 (.take 16 [] (bk 17 .done))))⟩
def Kx:ah:=⟨aL [0,0,0,0,0,24,0,0,0,384,960,1984,0,0,12288,28672,65475,131011,262143,524287],aL [0,0,0,0,0,24,0,0,0,384,576,1024,0,0,12288,16384,3,0,36,0],(bl 0 17 (bk 17 (.take 18 [] (bk 19 .done))))⟩
def Ky:ah:=⟨aL [0,0,0,0,0,24,0,0,0,384,960,1984,0,0,12288,28672,65475,131011,262143,524287],aL [0,0,0,0,0,24,0,0,0,384,576,1024,0,0,12288,16384,3,0,36,0],(bl 0 17 (bk 17 (.take 18 [] (bk 19 .done))))⟩
def OS:ah:=⟨aL [0,0,0,0,0,0,48,112,0,0,768,1792,4083,8179,16383,32767],aL [0,0,0,0,0,0,48,64,0,0,768,1024,3,0,12,0],(bl 0 13 (bk 13 (.take 14 [] (bk 15 .done))))⟩
def OT:ah:=⟨aL [0,0,3,7,15,15,15,111,239,15,15,1039,3599,7695,16383,32767,65535,131071],aL [0,0,3,4,8,8,8,104,136,8,8,1032,2568,4104,0,16392,32776,65544],(bl 0 14 (bk 14 (bl 15 3 .done)))⟩
def Kz:ah:=⟨aL [0,0,0,0,8,0,0,64,224,480,0,0,3072,7168,16355,32739,65535,131071],aL [0,0,0,0,8,0,0,64,160,256,0,0,3072,4096,3,0,20,0],(bl 0 15 (bk 15 (.take 16 [] (bk 17 .done))))⟩
def KA:ah:=⟨aL [0,0,0,6,14,0,0,64,224,480,1023,2047,4095],aL [0,0,0,6,8,0,0,64,160,256,0,1024,2048],(bl 0 10 (bk 10 (bl 11 2 .done)))⟩
def KB:ah:=⟨aL [0,0,0,0,8,0,0,64,224,480,0,0,3072,7168,16355,32739,65535,131071],aL [0,0,0,0,8,0,0,64,160,256,0,0,3072,4096,3,0,20,0],(bl 0 15 (bk 15 (.take 16 [] (bk 17 .done))))⟩
def KC:ah:=⟨aL [0,0,0,6,14,0,0,64,224,480,1023,2047,4095],aL [0,0,0,6,8,0,0,64,160,256,0,1024,2048],(bl 0 10 (bk 10 (bl 11 2 .done)))⟩
def KD:ah:=⟨aL [0,0,0,0,8,0,0,64,224,480,0,0,3072,7168,16355,32739,65535,131071],aL [0,0,0,0,8,0,0,64,160,256,0,0,3072,4096,3,0,20,0],(bl 0 15 (bk 15 (.take 16 [] (bk 17 .done))))⟩
def OU:ah:=⟨aL [0,0,0,0,0,0,48,112,0,0,768,1792,4083,8179,16383,32767],aL [0,0,0,0,0,0,48,64,0,0,768,1024,3,0,12,0],(bl 0 13 (bk 13 (.take 14 [] (bk 15 .done))))⟩
def OV:ah:=⟨aL [0,0,3,7,15,15,15,111,239,15,15,1551,3599,8191,16383,32767,65535],aL [0,0,3,4,8,8,8,104,136,8,8,1544,2056,0,8200,16392,32776],(bl 0 13 (bk 13 (bl 14 3 .done)))⟩
def OW:ah:=⟨aL [0,0,3,7,15,15,15,111,239,15,15,1551,3599,8191,16383,32767],aL [0,0,3,4,8,8,8,104,136,8,8,1544,2056,0,8200,16392],(bl 0 13 (bk 13 (bl 14 2 .done)))⟩
def OX:ah:=⟨aL [0,0,0,0,0,0,48,112,0,0,768,1792,4083,8179,16383,32767],aL [0,0,0,0,0,0,48,64,0,0,768,1024,3,0,12,0],(bl 0 13 (bk 13 (.take 14 [] (bk 15 .done))))⟩
def OY:ah:=⟨aL [0,0,0,0,0,0,48,112,0,0,768,1792,4083,8179,16383,32767],aL [0,0,0,0,0,0,48,64,0,0,768,1024,3,0,12,0],(bl 0 13 (bk 13 (.take 14 [] (bk 15 .done))))⟩
def OZ:ah:=⟨aL [0,0,3,7,15,15,15,111,239,15,15,1551,3599,8191,16383,32767],aL [0,0,3,4,8,8,8,104,136,8,8,1544,2056,0,8200,16392],(bl 0 13 (bk 13 (bl 14 2 .done)))⟩
def O0:ah:=⟨aL [0,0,3,7,15,15,15,111,239,15,15,1551,3599,8191,16383,32767,65535],aL [0,0,3,4,8,8,8,104,136,8,8,1544,2056,0,8200,16392,32776],(bl 0 13 (bk 13 (bl 14 3 .done)))⟩
def O1:ah:=⟨aL [0,0,0,0,0,0,48,112,0,0,768,1792,4083,8179,16383,32767],aL [0,0,0,0,0,0,48,64,0,0,768,1024,3,0,12,0],(bl 0 13 (bk 13 (.take 14 [] (bk 15 .done))))⟩
def KE:ah:=⟨aL [0,0,0,0,0,0,48,112,0,0,768,1792,4083,8179,16383,32767],aL [0,0,0,0,0,0,48,64,0,0,768,1024,3,0,12,0],(bl 0 13 (bk 13 (.take 14 [] (bk 15 .done))))⟩
def KF:ah:=⟨aL [0,0,3,7,15,15,15,111,239,15,15,1551,3599,8191,16383,32767],aL [0,0,3,4,8,8,8,104,136,8,8,1544,2056,0,8200,16392],(bl 0 13 (bk 13 (bl 14 2 .done)))⟩
def KG:ah:=⟨aL [0,0,3,7,15,15,15,111,239,15,15,1551,3599,8191,16383,32767,65535],aL [0,0,3,4,8,8,8,104,136,8,8,1544,2056,0,8200,16392,32776],(bl 0 13 (bk 13 (bl 14 3 .done)))⟩
def KH:ah:=⟨aL [0,0,0,0,0,0,48,112,0,0,768,1792,4083,8179,16383,32767],aL [0,0,0,0,0,0,48,64,0,0,768,1024,3,0,12,0],(bl 0 13 (bk 13 (.take 14 [] (bk 15 .done))))⟩
def KI:ah:=⟨aL [0,0,0,0,0,0,48,112,0,0,768,1792,4083,8179,16383,32767],aL [0,0,0,0,0,0,48,64,0,0,768,1024,3,0,12,0],(bl 0 13 (bk 13 (.take 14 [] (bk 15 .done))))⟩
def O2:ah:=⟨aL [0,0,0,6,14,0,0,96,224,511,1023],aL [0,0,0,6,8,0,0,96,128,0,512],(bl 0 9 (bk 9 (.take 10 [] .done)))⟩
def O3:ah:=⟨aL [0,1,0,7,15,31,31,31,31,415,991,2015,31,31,31,24607,57375,127007,258079,524287,1048575,2097151],aL [0,1,0,6,8,16,16,16,16,400,592,1040,16,16,16,24592,32784,69648,131088,0,524304,1048592],(bl 0 19 (bk 19 (bl 20 2 .done)))⟩
def O4:ah:=⟨aL [0,0,0,0,12,30,62,0,0,0,768,1920,3968,8191,16383,32767],aL [0,0,0,0,12,18,32,0,0,0,768,1152,2048,0,8192,16384],(bl 0 13 (bk 13 (bl 14 2 .done)))⟩
def O6:ah:=⟨aL [0,0,0,6,0,0,0,96,0,0,0,1536,3840,7936,0,0,0,98304,245760,507904,1048335,2096911,4194303,8388607],aL [0,0,0,6,0,0,0,96,0,0,0,1536,2304,4096,0,0,0,98304,147456,262144,9,0,144,0],(bl 0 21 (bk 21 (.take 22 [] (bk 23 .done))))⟩
def O7:ah:=⟨aL [0,0,0,6,14,0,0,96,224,511,1023],aL [0,0,0,6,8,0,0,96,128,0,512],(bl 0 9 (bk 9 (.take 10 [] .done)))⟩
def dtF (f r:Nat):Option ah:=
  bif Nat.beq f 13 then (bif Nat.beq r 3 then some Tf else none) else
  bif Nat.beq f 15 then (bif Nat.beq r 23 then some NI else none) else
  bif Nat.beq f 17 then (bif Nat.beq r 8 then some Tg else none) else
  bif Nat.beq f 19 then (bif Nat.beq r 9 then some Th else none) else
  bif Nat.beq f 21 then (bif Nat.beq r 11 then some NJ else none) else
  bif Nat.beq f 22 then (bif Nat.beq r 5 then some Ti else none) else
  bif Nat.beq f 23 then (bif Nat.beq r 6 then some Tj else none) else
  bif Nat.beq f 25 then (bif Nat.beq r 6 then some Tk else none) else
  bif Nat.beq f 29 then (bif Nat.beq r 8 then some Tl else none) else
  bif Nat.beq f 41 then (bif Nat.beq r 7 then some Tm else bif Nat.beq r 9 then some Tn else bif Nat.beq r 10 then some NK else none) else
  bif Nat.beq f 43 then (bif Nat.beq r 15 then some NL else none) else
  bif Nat.beq f 49 then (bif Nat.beq r 6 then some To else none) else
  bif Nat.beq f 50 then (bif Nat.beq r 6 then some Tp else none) else
  bif Nat.beq f 51 then (bif Nat.beq r 6 then some Tq else none) else
  bif Nat.beq f 57 then (bif Nat.beq r 15 then some NM else bif Nat.beq r 18 then some NN else none) else
  bif Nat.beq f 62 then (bif Nat.beq r 6 then some Tr else bif Nat.beq r 8 then some Ts else bif Nat.beq r 9 then some Tt else none) else
  bif Nat.beq f 65 then (bif Nat.beq r 4 then some Tu else none) else
  bif Nat.beq f 79 then (bif Nat.beq r 6 then some Tv else none) else
  bif Nat.beq f 88 then (bif Nat.beq r 9 then some Tw else none) else
  bif Nat.beq f 89 then (bif Nat.beq r 5 then some Tx else none) else
  bif Nat.beq f 93 then (bif Nat.beq r 5 then some Ty else none) else
  bif Nat.beq f 97 then (bif Nat.beq r 1 then some Tz else none) else
  bif Nat.beq f 99 then (bif Nat.beq r 8 then some TA else none) else
  bif Nat.beq f 100 then (bif Nat.beq r 1 then some NO else bif Nat.beq r 4 then some NP else bif Nat.beq r 8 then some NQ else bif Nat.beq r 10 then some JY else bif Nat.beq r 14 then some JZ else bif Nat.beq r 15 then some J0 else none) else
  bif Nat.beq f 105 then (bif Nat.beq r 1 then some NR else none) else
  bif Nat.beq f 108 then (bif Nat.beq r 1 then some NS else none) else
  bif Nat.beq f 109 then (bif Nat.beq r 1 then some NT else none) else
  bif Nat.beq f 115 then (bif Nat.beq r 2 then some NU else none) else
  bif Nat.beq f 116 then (bif Nat.beq r 1 then some NV else none) else
  bif Nat.beq f 121 then (bif Nat.beq r 1 then some NW else none) else
  bif Nat.beq f 125 then (bif Nat.beq r 1 then some NX else none) else
  bif Nat.beq f 127 then (bif Nat.beq r 1 then some NY else none) else
  bif Nat.beq f 128 then (bif Nat.beq r 17 then some J1 else none) else
  bif Nat.beq f 131 then (bif Nat.beq r 8 then some NZ else none) else
  bif Nat.beq f 134 then (bif Nat.beq r 8 then some N0 else none) else
  bif Nat.beq f 141 then (bif Nat.beq r 3 then some N1 else none) else
  bif Nat.beq f 144 then (bif Nat.beq r 1 then some N2 else none) else
  bif Nat.beq f 151 then (bif Nat.beq r 1 then some N3 else none) else
  bif Nat.beq f 157 then (bif Nat.beq r 1 then some N4 else none) else
  bif Nat.beq f 161 then (bif Nat.beq r 4 then some N5 else bif Nat.beq r 6 then some N6 else none) else
  bif Nat.beq f 162 then (bif Nat.beq r 10 then some J2 else none) else
  bif Nat.beq f 163 then (bif Nat.beq r 10 then some J3 else none) else
  bif Nat.beq f 165 then (bif Nat.beq r 3 then some N7 else none) else
  bif Nat.beq f 166 then (bif Nat.beq r 5 then some N8 else bif Nat.beq r 11 then some J4 else bif Nat.beq r 16 then some J5 else bif Nat.beq r 17 then some J6 else bif Nat.beq r 22 then some J7 else bif Nat.beq r 23 then some J8 else none) else
  bif Nat.beq f 168 then (bif Nat.beq r 1 then some N9 else bif Nat.beq r 3 then some Oa else bif Nat.beq r 5 then some Ob else bif Nat.beq r 8 then some Oc else none) else
  bif Nat.beq f 169 then (bif Nat.beq r 1 then some Od else bif Nat.beq r 3 then some Oe else bif Nat.beq r 5 then some Of else bif Nat.beq r 8 then some Og else bif Nat.beq r 10 then some J9 else bif Nat.beq r 13 then some Ka else bif Nat.beq r 15 then some Kb else bif Nat.beq r 18 then some Kc else bif Nat.beq r 21 then some Kd else none) else
  bif Nat.beq f 174 then (bif Nat.beq r 1 then some Oh else none) else
  bif Nat.beq f 175 then (bif Nat.beq r 17 then some Ke else none) else
  bif Nat.beq f 177 then (bif Nat.beq r 1 then some Oi else none) else
  bif Nat.beq f 178 then (bif Nat.beq r 6 then some Oj else bif Nat.beq r 11 then some Kf else none) else
  bif Nat.beq f 192 then (bif Nat.beq r 3 then some Ol else none) else
  bif Nat.beq f 196 then (bif Nat.beq r 3 then some Om else bif Nat.beq r 5 then some On else bif Nat.beq r 6 then some Oo else none) else
  bif Nat.beq f 198 then (bif Nat.beq r 1 then some Oq else bif Nat.beq r 2 then some Ot else bif Nat.beq r 3 then some Ou else none) else
  bif Nat.beq f 201 then (bif Nat.beq r 5 then some Ov else bif Nat.beq r 8 then some Ow else none) else
  bif Nat.beq f 202 then (bif Nat.beq r 4 then some Ox else bif Nat.beq r 6 then some Oy else none) else
  bif Nat.beq f 203 then (bif Nat.beq r 10 then some Kg else none) else
  bif Nat.beq f 204 then (bif Nat.beq r 10 then some Kh else none) else
  bif Nat.beq f 206 then (bif Nat.beq r 3 then some Oz else none) else
  bif Nat.beq f 207 then (bif Nat.beq r 5 then some OA else bif Nat.beq r 11 then some Ki else bif Nat.beq r 16 then some Kj else bif Nat.beq r 17 then some Kk else bif Nat.beq r 22 then some Kl else bif Nat.beq r 23 then some Km else none) else
  bif Nat.beq f 208 then (bif Nat.beq r 1 then some OB else bif Nat.beq r 3 then some OC else bif Nat.beq r 5 then some OD else bif Nat.beq r 8 then some OE else none) else
  bif Nat.beq f 209 then (bif Nat.beq r 1 then some OF else bif Nat.beq r 3 then some OG else bif Nat.beq r 5 then some OH else bif Nat.beq r 8 then some OI else bif Nat.beq r 10 then some Kn else bif Nat.beq r 13 then some Ko else bif Nat.beq r 15 then some Kp else bif Nat.beq r 18 then some Kq else bif Nat.beq r 21 then some Kr else none) else
  bif Nat.beq f 210 then (bif Nat.beq r 17 then some Ks else none) else
  bif Nat.beq f 213 then (bif Nat.beq r 7 then some OJ else bif Nat.beq r 8 then some OK else bif Nat.beq r 9 then some OL else bif Nat.beq r 10 then some Kt else bif Nat.beq r 17 then some Ku else bif Nat.beq r 18 then some Kv else bif Nat.beq r 23 then some Kw else none) else
  bif Nat.beq f 223 then (bif Nat.beq r 1 then some OM else none) else
  bif Nat.beq f 224 then (bif Nat.beq r 3 then some ON else bif Nat.beq r 5 then some OO else bif Nat.beq r 6 then some OP else none) else
  bif Nat.beq f 227 then (bif Nat.beq r 4 then some OQ else bif Nat.beq r 6 then some OR else none) else
  bif Nat.beq f 228 then (bif Nat.beq r 10 then some Kx else none) else
  bif Nat.beq f 229 then (bif Nat.beq r 10 then some Ky else none) else
  bif Nat.beq f 231 then (bif Nat.beq r 3 then some OS else none) else
  bif Nat.beq f 232 then (bif Nat.beq r 5 then some OT else bif Nat.beq r 11 then some Kz else bif Nat.beq r 16 then some KA else bif Nat.beq r 17 then some KB else bif Nat.beq r 22 then some KC else bif Nat.beq r 23 then some KD else none) else
  bif Nat.beq f 233 then (bif Nat.beq r 1 then some OU else bif Nat.beq r 3 then some OV else bif Nat.beq r 5 then some OW else bif Nat.beq r 8 then some OX else none) else
  bif Nat.beq f 234 then (bif Nat.beq r 1 then some OY else bif Nat.beq r 3 then some OZ else bif Nat.beq r 5 then some O0 else bif Nat.beq r 8 then some O1 else bif Nat.beq r 10 then some KE else bif Nat.beq r 13 then some KF else bif Nat.beq r 15 then some KG else bif Nat.beq r 18 then some KH else bif Nat.beq r 21 then some KI else none) else
  bif Nat.beq f 245 then (bif Nat.beq r 1 then some O2 else none) else
  bif Nat.beq f 246 then (bif Nat.beq r 3 then some O3 else bif Nat.beq r 5 then some O4 else bif Nat.beq r 6 then some O6 else none) else
  bif Nat.beq f 253 then (bif Nat.beq r 1 then some O7 else none) else none
def okF (f:Nat):Bool:=Nat.blt f 279&&!(([4,7,9,10,11,12,31,37,46,47,54,55,59,66,72,74,76,101,102,104,107,117,118]:List Nat).any (Nat.beq f))
theorem KJ:(List.range 279).all (fun f=>!okF f || match Tryz.prog.funcs[f]? with
  | some fn=>match fn.body with
    | some c=>bu (dtF f) c
    | none=>true
  | none=>true)=true:=by kernel_rfl
theorem O8 (f:FuncId) (fn:Func) (c:Code) (h:okF f=true) (hf:Tryz.prog.funcs[f]?=some fn) (hb:fn.body=some c):bu (dtF f) c=true:=by
  have cg:f < 279:=by
    have:Nat.blt f 279=true:=by
      rw [okF,Bool.and_eq_true] at h
      exact h.1
    exact Nat.le_of_ble_eq_true this
  have h1:=List.all_eq_true.1 KJ f (List.mem_range.2 cg)
  rw [h,hf] at h1
  simp only [hb] at h1
  simpa using h1
noncomputable def Xa:Hu:={ toEnv:=env,dt:=dtF,okF:=okF,Q3:=O8 }
end Go.Proofs.YtldcljfjjoidhaaGreatDoor
