/- The abstract machine's surroundings for this program: its types as a table (printed by a program of ours,checked by the kernel). -/
import Derived.Test.YtldcljfjjoidhaaGreatDoorProg
import Derived.Test.YtldcljfjjoidhaaGreatDoorAmKK
import Derived.KernelRfl
set_option linter.all false
namespace Go.Proofs.YtldcljfjjoidhaaGreatDoor
open Go Go.Am
set_option maxRecDepth 100000
def zR (n:Nat) (x:AV):Option AV:=some (.agg (List.replicate n x))
def sK:Nat→Nat→S5
  | 0,_=>.nil
  | n+1,i=>.cons i 1 false .int (sK n (i+1))
def tB (t k : Nat) (a b : Option TI) : Option TI := bif Nat.ble t k then a else b
def tI (k : TK) (n : Nat) (a : Bool) (z : Option AV) (e : EK) : Option TI := some ⟨k, n, a, z, e⟩
def tiT (t : Nat) : Option TI :=
 tB t 154 (tB t 76 (tB t 37 (tB t 18 (tB t 8 (tB t 3 (tB t 1 (tB t 0 (tI (.sc) 1 false (some (.bp [])) (.no))
 (tI (.sc) 1 false (some (.cI)) (.no)))
 (tB t 2 (tI (.int .i64) 1 false (some (.int .i64 0)) (.int))
 (tI (.int .i64) 1 false (some (.int .i64 0)) (.int))))
 (tB t 5 (tB t 4 (tI (.sc) 1 false (some (.bool false)) (.bool))
 (tI (.int .u8) 1 false (some (.int .u8 0)) (.int)))
 (tB t 6 (tI (.int .u8) 1 false (some (.int .u8 0)) (.int))
 (tB t 7 (tI (.st [(0,1,false),(1,1,false),(2,1,false),(3,1,false)]) 4 true (some (.agg [.int .i64 0,.int .i64 0,.bool false,.int .u8 0])) ((.st (.cons 0 1 false .int (.cons 1 1 false .int (.cons 2 1 false .bool (.cons 3 1 false .int .nil)))))))
 (tI (.st [(0,1,false),(1,1,false),(2,1,false),(3,1,false)]) 4 true (some (.agg [.int .i64 0,.int .i64 0,.bool false,.int .u8 0])) ((.st (.cons 0 1 false .int (.cons 1 1 false .int (.cons 2 1 false .bool (.cons 3 1 false .int .nil)))))))))))
 (tB t 13 (tB t 10 (tB t 9 (tI (.str) 1 false (some (.str [])) (.str))
 (tI (.str) 1 false (some (.str [])) (.str)))
 (tB t 11 (tI (.str) 1 false (some (.str [])) (.str))
 (tB t 12 (tI (.int .u64) 1 false (some (.int .u64 0)) (.int))
 (none))))
 (tB t 15 (tB t 14 (none)
 (tI (.sc) 1 false (some (.jd)) (.no)))
 (tB t 16 (tI (.sc) 1 false (some (.jd)) (.no))
 (tB t 17 (tI (.sc) 1 false (some (.jd)) (.no))
 (none))))))
 (tB t 27 (tB t 22 (tB t 20 (tB t 19 (none)
 (tI (.sc) 1 false (some (.oN)) (.no)))
 (tB t 21 (tI (.int .i32) 1 false (some (.int .i32 0)) (.int))
 (tI (.sl 106 3 true 24 (some (.agg [.int .i64 0,.int .i64 0,.int .i64 0]))) 1 false (some (.list .nil 0 [])) (.no))))
 (tB t 24 (tB t 23 (none)
 (tI (.sc) 1 false (some (.cI)) (.no)))
 (tB t 25 (tI (.sl 104 3 true 24 (some (.agg [.int .i64 0,.int .i64 0,.int .i64 0]))) 1 false (some (.list .nil 0 [])) (.no))
 (tB t 26 (tI (.int .i64) 1 false (some (.int .i64 0)) (.int))
 (tI (.sc) 1 false (some (.bp [.list .nil 0 [],.int .i64 0])) (.no))))))
 (tB t 32 (tB t 29 (none)
 (tB t 30 (tI (.sl 44 2 true 16 (some (.agg [.int .i64 0,.int .i64 0]))) 1 false (some (.list .nil 0 [])) (.no))
 (tB t 31 (tI (.sc) 1 false (some (.bp [.list .nil 0 [],.int .i64 0])) (.no))
 (tI (.sc) 1 false (some (.cI)) (.no)))))
 (tB t 34 (tB t 33 (tI (.sc) 1 false (some (.bp [.int .i64 0,.int .i64 0])) (.no))
 (none))
 (tB t 35 (none)
 (tB t 36 (tI (.sl 108 3 true 24 (some (.agg [.int .i64 0,.int .i64 0,.int .i64 0]))) 1 false (some (.list .nil 0 [])) (.no))
 (tI (.sc) 1 false (some (.bp [.list .nil 0 [],.int .i64 0])) (.no))))))))
 (tB t 56 (tB t 46 (tB t 41 (tB t 39 (none)
 (tB t 40 (tI (.sc) 1 false (some (.cI)) (.no))
 (none)))
 (tB t 43 (tB t 42 (none)
 (tI (.sl 88 5 true 32 (some (.agg [.int .i64 0,.int .i64 0,.bool false,.bool false,.int .i64 0]))) 1 false (some (.list .nil 0 [])) (.no)))
 (tB t 44 (tI (.arr 2 1 false) 2 true (some (.agg [.int .i64 0,.int .i64 0])) ((.st (sK 2 0))))
 (tB t 45 (tI (.sc) 1 false (some (.cI)) (.no))
 (none)))))
 (tB t 51 (tB t 48 (tB t 47 (tI (.st [(0,1,false),(1,1,false),(2,1,false),(3,1,false)]) 4 true (zR 4 (.int .i64 0)) ((.st (sK 4 0))))
 (tI (.sc) 1 false (none) (.no)))
 (tB t 49 (tI (.sc) 1 false (some (.cI)) (.no))
 (tB t 50 (tI (.sl 90 5 true 32 (some (.agg [.int .i64 0,.int .i64 0,.bool false,.bool false,.int .i64 0]))) 1 false (some (.list .nil 0 [])) (.no))
 (tI (.sc) 1 false (some (.cI)) (.no)))))
 (tB t 53 (tB t 52 (tI (.sc) 1 false (some (.bp [.str [],.int .i64 0])) (.no))
 (tI (.sc) 1 false (some (.cI)) (.no)))
 (tB t 54 (tI (.sc) 1 false (some (.bp [.list .nil 0 [],.int .i64 0,.int .i64 0])) (.no))
 (tB t 55 (tI (.sc) 1 false (some (.cI)) (.no))
 (tI (.sc) 1 false (some (.cI)) (.no)))))))
 (tB t 66 (tB t 61 (tB t 58 (tB t 57 (tI (.sc) 1 false (some (.cI)) (.no))
 (tI (.sc) 1 false (some (.cI)) (.no)))
 (tB t 59 (tI (.sl 3 1 false 8 (some (.int .i64 0))) 1 false (some (.list .nil 0 [])) (.no))
 (none)))
 (tB t 63 (tB t 62 (none)
 (tI (.sc) 1 false (some (.bp [.list .nil 0 [],.int .i64 0,.int .i64 0])) (.no)))
 (tB t 64 (tI (.sc) 1 false (some (.cI)) (.no))
 (tB t 65 (tI (.sc) 1 false (some (.cI)) (.no))
 (none)))))
 (tB t 71 (tB t 68 (tB t 67 (none)
 (tI (.sc) 1 false (some (.bp [.list .nil 0 [],.int .i64 0])) (.no)))
 (tB t 69 (none)
 (tB t 70 (tI (.sc) 1 false (some (.bp [.list .nil 0 [],.int .i64 0])) (.no))
 (none))))
 (tB t 73 (tB t 72 (tI (.sl 86 2 true 16 (some (.agg [.int .i64 0,.int .i64 0]))) 1 false (some (.list .nil 0 [])) (.no))
 (tI (.sc) 1 false (some (.cI)) (.no)))
 (tB t 74 (none)
 (tB t 75 (tI (.sc) 1 false (some (.bp [.list .nil 0 [],.int .i64 0])) (.no))
 (none))))))))
 (tB t 115 (tB t 95 (tB t 85 (none)
 (tB t 90 (tB t 87 (tB t 86 (tI (.st [(0,1,false),(1,1,false)]) 2 true (some (.agg [.int .i64 0,.int .i64 0])) ((.st (sK 2 0))))
 (none))
 (tB t 88 (tI (.st [(0,2,true),(2,1,false),(3,1,false),(4,1,false)]) 5 true (some (.agg [.int .i64 0,.int .i64 0,.bool false,.bool false,.int .i64 0])) ((.st (.cons 0 2 true (.st (sK 2 0)) (.cons 2 1 false .bool (.cons 3 1 false .bool (.cons 4 1 false .int .nil)))))))
 (tB t 89 (none)
 (tI (.st [(0,2,true),(2,1,false),(3,1,false),(4,1,false)]) 5 true (some (.agg [.int .i64 0,.int .i64 0,.bool false,.bool false,.int .i64 0])) ((.st (.cons 0 2 true (.st (sK 2 0)) (.cons 2 1 false .bool (.cons 3 1 false .bool (.cons 4 1 false .int .nil))))))))))
 (none)))
 (tB t 105 (tB t 100 (tB t 97 (tB t 96 (none)
 (tI (.sc) 1 false (some (.bp [.list .nil 0 [],.int .i64 0])) (.no)))
 (tB t 98 (tI (.sc) 1 false (some (.cI)) (.no))
 (tB t 99 (tI (.sc) 1 false (some (.cI)) (.no))
 (tI (.sc) 1 false (some (.bp [.list .nil 0 [],.int .i64 0])) (.no)))))
 (tB t 102 (tB t 101 (tI (.sc) 1 false (some (.cI)) (.no))
 (tI (.sc) 1 false (some (.cI)) (.no)))
 (tB t 103 (tI (.st [(0,1,false),(1,1,false),(2,1,false)]) 3 true (some (.agg [.int .i64 0,.int .i64 0,.int .i64 0])) ((.st (sK 3 0))))
 (tB t 104 (tI (.st [(0,1,false),(1,1,false),(2,1,false)]) 3 true (some (.agg [.int .i64 0,.int .i64 0,.int .i64 0])) ((.st (sK 3 0))))
 (tI (.st [(0,1,false),(1,1,false),(2,1,false)]) 3 true (some (.agg [.int .i64 0,.int .i64 0,.int .i64 0])) ((.st (sK 3 0))))))))
 (tB t 110 (tB t 107 (tB t 106 (tI (.st [(0,1,false),(1,1,false),(2,1,false)]) 3 true (some (.agg [.int .i64 0,.int .i64 0,.int .i64 0])) ((.st (sK 3 0))))
 (tI (.sc) 1 false (some (.cI)) (.no)))
 (tB t 108 (tI (.st [(0,1,false),(1,1,false),(2,1,false)]) 3 true (some (.agg [.int .i64 0,.int .i64 0,.int .i64 0])) ((.st (sK 3 0))))
 (tB t 109 (tI (.sc) 1 false (some (.cI)) (.no))
 (tI (.sc) 1 false (some (.cI)) (.no)))))
 (tB t 112 (tB t 111 (tI (.sc) 1 false (some (.cI)) (.no))
 (tI (.sc) 1 false (some (.cI)) (.no)))
 (tB t 113 (tI (.sc) 1 false (some (.cI)) (.no))
 (tB t 114 (tI (.sc) 1 false (some (.cI)) (.no))
 (tI (.sc) 1 false (some (.cI)) (.no))))))))
 (tB t 134 (tB t 124 (tB t 119 (tB t 117 (tB t 116 (tI (.sc) 1 false (some (.cI)) (.no))
 (tI (.sc) 1 false (some (.cI)) (.no)))
 (tB t 118 (tI (.sc) 1 false (some (.cI)) (.no))
 (tI (.int .i8) 1 false (some (.int .i8 0)) (.int))))
 (tB t 121 (tB t 120 (tI (.arr 3 1 false) 3 true (some (.agg [.int .i8 0,.int .i8 0,.int .i8 0])) ((.st (sK 3 0))))
 (tI (.sc) 1 false (some (.bp [.list .nil 0 [],.bool false])) (.no)))
 (tB t 122 (tI (.sc) 1 false (some (.cI)) (.no))
 (none))))
 (tB t 129 (tB t 126 (none)
 (tB t 127 (none)
 (tB t 128 (tI (.sc) 1 false (some (.cI)) (.no))
 (none))))
 (tB t 131 (tB t 130 (tI (.sl 22 1 false 24 (some (.list .nil 0 []))) 1 false (some (.list .nil 0 [])) (.no))
 (tI (.sc) 1 false (some (.bp [.list .nil 0 [],.int .i64 0])) (.no)))
 (tB t 132 (none)
 (tB t 133 (tI (.arr 5 1 false) 5 true (zR 5 (.int .i64 0)) ((.st (sK 5 0))))
 (tI (.sc) 1 false (none) (.no)))))))
 (tB t 144 (tB t 139 (none)
 (tB t 141 (none)
 (tB t 142 (none)
 (tB t 143 (tI (.sc) 1 false (some (.jd)) (.no))
 (tI (.sl 5 1 false 1 (some (.int .u8 0))) 1 false (some (.list .nil 0 [])) (.no))))))
 (tB t 149 (tB t 146 (tB t 145 (none)
 (tI (.st [(0,1,false),(1,1,false)]) 2 true (some (.agg [.jd,.list .nil 0 []])) ((.st (.cons 0 1 false .no (.cons 1 1 false .no .nil))))))
 (tB t 147 (none)
 (tB t 148 (tI (.sc) 1 false (some (.oN)) (.no))
 (tI (.sc) 1 false (some (.bp [.int .i64 0,.oN])) (.no)))))
 (tB t 151 (none)
 (tB t 152 (none)
 (tB t 153 (none)
 (tI (.map 106 4 (some (.bool false))) 1 false (some (.kX)) (.no))))))))))
 (tB t 232 (tB t 193 (tB t 173 (tB t 163 (tB t 158 (tB t 156 (tB t 155 (tI (.st [(0,1,false),(1,1,false),(2,5,true)]) 7 true (some (.agg [.kX,.int .i64 0,.int .i64 0,.int .i64 0,.bool false,.bool false,.int .i64 0])) ((.st (.cons 0 1 false .no (.cons 1 1 false .int (.cons 2 5 true (.st (.cons 0 2 true (.st (sK 2 0)) (.cons 2 1 false .bool (.cons 3 1 false .bool (.cons 4 1 false .int .nil))))) .nil))))))
 (tI (.st [(0,1,false),(1,1,false),(2,5,true)]) 7 true (some (.agg [.kX,.int .i64 0,.int .i64 0,.int .i64 0,.bool false,.bool false,.int .i64 0])) ((.st (.cons 0 1 false .no (.cons 1 1 false .int (.cons 2 5 true (.st (.cons 0 2 true (.st (sK 2 0)) (.cons 2 1 false .bool (.cons 3 1 false .bool (.cons 4 1 false .int .nil))))) .nil)))))))
 (tB t 157 (tI (.sc) 1 false (some (.bp [.str [],.str [],.bool false])) (.no))
 (none)))
 (tB t 160 (tB t 159 (tI (.sc) 1 false (some (.cI)) (.no))
 (none))
 (tB t 161 (none)
 (tB t 162 (none)
 (tI (.sl 9 1 false 16 (some (.str []))) 1 false (some (.list .nil 0 [])) (.no))))))
 (tB t 168 (tB t 165 (none)
 (tB t 166 (none)
 (tB t 167 (tI (.arr 2 2 true) 4 true (zR 4 (.int .i64 0)) ((.st (.cons 0 2 true (.st (sK 2 0)) (.cons 2 2 true (.st (sK 2 0)) .nil)))))
 (none))))
 (tB t 170 (tB t 169 (tI (.map 86 4 (some (.bool false))) 1 false (some (.kX)) (.no))
 (none))
 (tB t 171 (none)
 (tB t 172 (tI (.sc) 1 false (some (.cI)) (.no))
 (none))))))
 (tB t 183 (tB t 178 (tB t 175 (none)
 (tB t 176 (tI (.sc) 1 false (some (.cI)) (.no))
 (tB t 177 (tI (.sl 179 10 true 64 (some (.agg [.int .i64 0,.int .i64 0,.bool false,.bool false,.int .i64 0,.int .i64 0,.int .i64 0,.bool false,.bool false,.int .i64 0]))) 1 false (some (.list .nil 0 [])) (.no))
 (none))))
 (tB t 180 (tB t 179 (tI (.arr 2 5 true) 10 true (some (.agg [.int .i64 0,.int .i64 0,.bool false,.bool false,.int .i64 0,.int .i64 0,.int .i64 0,.bool false,.bool false,.int .i64 0])) ((.st (.cons 0 5 true (.st (.cons 0 2 true (.st (sK 2 0)) (.cons 2 1 false .bool (.cons 3 1 false .bool (.cons 4 1 false .int .nil))))) (.cons 5 5 true (.st (.cons 0 2 true (.st (sK 2 0)) (.cons 2 1 false .bool (.cons 3 1 false .bool (.cons 4 1 false .int .nil))))) .nil)))))
 (tI (.sc) 1 false (some (.cI)) (.no)))
 (none)))
 (tB t 188 (tB t 185 (tB t 184 (tI (.sc) 1 false (some (.cI)) (.no))
 (none))
 (tB t 186 (tI (.sc) 1 false (some (.cI)) (.no))
 (tB t 187 (tI (.sl 26 1 false 8 (some (.int .i64 0))) 1 false (some (.list .nil 0 [])) (.no))
 (tI (.sc) 1 false (some (.cI)) (.no)))))
 (tB t 190 (tB t 189 (tI (.sc) 1 false (some (.cI)) (.no))
 (tI (.sc) 1 false (some (.cI)) (.no)))
 (tB t 191 (tI (.sc) 1 false (some (.cI)) (.no))
 (tB t 192 (tI (.int .u64) 1 false (some (.int .u64 0)) (.int))
 (tI (.map 86 3 (some (.int .i64 0))) 1 false (some (.kX)) (.no))))))))
 (tB t 212 (tB t 202 (tB t 197 (none)
 (tB t 199 (tB t 198 (none)
 (tI (.sc) 1 false (some (.jd)) (.no)))
 (tB t 200 (tI (.sc) 1 false (some (.jd)) (.no))
 (tB t 201 (none)
 (tI (.sl 205 1 true 8 (some (.agg [.cI]))) 1 false (some (.list .nil 0 [])) (.no))))))
 (tB t 207 (tB t 204 (none)
 (tB t 205 (tI (.st [(0,1,false)]) 1 true (some (.agg [.cI])) ((.st (.cons 0 1 false .no .nil))))
 (tB t 206 (tI (.sc) 1 false (some (.jd)) (.no))
 (none))))
 (tB t 209 (tB t 208 (tI (.sc) 1 false (some (.cI)) (.no))
 (tI (.sc) 1 false (some (.cI)) (.no)))
 (tB t 210 (none)
 (tB t 211 (none)
 (tI (.sc) 1 false (some (.bp [.int .i64 0,.bool false])) (.no)))))))
 (tB t 222 (none)
 (tB t 227 (tB t 224 (tB t 223 (tI (.int .i64) 1 false (some (.int .i64 0)) (.int))
 (tI (.sc) 1 false (some (.bp [.int .i64 0,.int .i64 0])) (.no)))
 (none))
 (tB t 229 (none)
 (tB t 230 (tI (.int .u32) 1 false (some (.int .u32 0)) (.int))
 (tB t 231 (none)
 (tI (.int .u64) 1 false (some (.int .u64 0)) (.int)))))))))
 (tB t 271 (tB t 251 (tB t 241 (tB t 236 (tB t 234 (tB t 233 (tI (.arr 4 3 true) 12 true (zR 12 (.int .i64 0)) ((.st (.cons 0 3 true (.st (sK 3 0)) (.cons 3 3 true (.st (sK 3 0)) (.cons 6 3 true (.st (sK 3 0)) (.cons 9 3 true (.st (sK 3 0)) .nil)))))))
 (none))
 (none))
 (tB t 238 (tB t 237 (tI (.sc) 1 false (some (.cI)) (.no))
 (none))
 (tB t 239 (tI (.sc) 1 false (some (.cI)) (.no))
 (tB t 240 (tI (.sc) 1 false (some (.jd)) (.no))
 (none)))))
 (tB t 246 (tB t 243 (none)
 (tB t 244 (none)
 (tB t 245 (none)
 (tI (.sc) 1 false (some (.jd)) (.no)))))
 (tB t 248 (tB t 247 (none)
 (tI (.sc) 1 false (some (.jd)) (.no)))
 (tB t 249 (tI (.sc) 1 false (some (.cI)) (.no))
 (tB t 250 (none)
 (tI (.int .u64) 1 false (some (.int .u64 0)) (.int)))))))
 (tB t 261 (tB t 256 (tB t 253 (none)
 (tB t 254 (none)
 (tB t 255 (none)
 (tI (.sc) 1 false (some (.cI)) (.no)))))
 (tB t 258 (tB t 257 (tI (.sc) 1 false (some (.cI)) (.no))
 (none))
 (none)))
 (tB t 266 (tB t 263 (tB t 262 (none)
 (tI (.arr 24 1 false) 24 true (zR 24 (.int .u8 0)) ((.st (sK 24 0)))))
 (tB t 264 (none)
 (tB t 265 (tI (.sc) 1 false (some (.bp [.list .nil 0 [],.str []])) (.no))
 (none))))
 (tB t 268 (none)
 (tB t 269 (none)
 (tB t 270 (tI (.sc) 1 false (some (.bp [.str [],.bool false])) (.no))
 (none)))))))
 (tB t 290 (tB t 280 (tB t 275 (tB t 273 (tB t 272 (tI (.sc) 1 false (some (.jd)) (.no))
 (tI (.sc) 1 false (some (.bp [.int .i64 0,.int .i64 0])) (.no)))
 (none))
 (none))
 (tB t 285 (tB t 282 (tB t 281 (none)
 (tI (.arr 20 1 false) 20 true (zR 20 (.int .u64 0)) ((.st (sK 20 0)))))
 (tB t 283 (tI (.arr 65 1 false) 65 true (zR 65 (.int .u8 0)) ((.st (sK 65 0))))
 (tB t 284 (tI (.sc) 1 false (some (.bp [.int .u32 0,.int .u32 0])) (.no))
 (none))))
 (tB t 287 (tB t 286 (tI (.sc) 1 false (some (.bp [.int .i32 0,.int .i64 0])) (.no))
 (none))
 (none))))
 (tB t 300 (tB t 295 (tB t 292 (none)
 (tB t 293 (tI (.arr 32 1 false) 32 true (zR 32 (.int .u8 0)) ((.st (sK 32 0))))
 (tB t 294 (tI (.arr 64 1 false) 64 true (zR 64 (.int .u8 0)) ((.st (sK 64 0))))
 (tI (.arr 256 1 false) 256 true (zR 256 (.int .u8 0)) ((.st (sK 256 0)))))))
 (tB t 297 (tB t 296 (none)
 (tI (.st [(0,1,false),(1,1,false)]) 2 true (some (.agg [.int .u8 0,.int .u8 0])) ((.st (sK 2 0)))))
 (tB t 298 (tI (.arr 16 2 true) 32 true (zR 32 (.int .u8 0)) ((.st (.cons 0 2 true (.st (sK 2 0)) (.cons 2 2 true (.st (sK 2 0)) (.cons 4 2 true (.st (sK 2 0)) (.cons 6 2 true (.st (sK 2 0)) (.cons 8 2 true (.st (sK 2 0)) (.cons 10 2 true (.st (sK 2 0)) (.cons 12 2 true (.st (sK 2 0)) (.cons 14 2 true (.st (sK 2 0)) (.cons 16 2 true (.st (sK 2 0)) (.cons 18 2 true (.st (sK 2 0)) (.cons 20 2 true (.st (sK 2 0)) (.cons 22 2 true (.st (sK 2 0)) (.cons 24 2 true (.st (sK 2 0)) (.cons 26 2 true (.st (sK 2 0)) (.cons 28 2 true (.st (sK 2 0)) (.cons 30 2 true (.st (sK 2 0)) .nil)))))))))))))))))))
 (none))))
 (none)))))
def ZK (t:Nat):Option TI:=bif Nat.ble 311 t then none else tiT t
theorem Pb:(List.range 311).map (fun t=>match ZK t with | none=>none | some _=>H3 Tryz.prog t)=(List.range 311).map ZK:=by kernel_rfl
theorem H4 (t:TypeId) (i:TI) (h:ZK t=some i):H3 Tryz.prog t=some i:=by
  by_cases ht:t < 311
  · have h1:=congrArg (fun l=>l[t]?) Pb
    simp only [List.getElem?_map,List.getElem?_range ht,Option.map_some,Option.some.injEq] at h1
    rw [h] at h1
    exact h1
  · have hb:Nat.ble 311 t=true:=Nat.ble_eq_true_of_le (Nat.not_lt.1 ht)
    rw [ZK,hb] at h
    cases h
def ZL:List ((Nat × Nat) × List (Option Nat × Nat × Nat)):=[((15,10),[(none,1,3)]),((106,3),[(none,3,106)]),((138,3),[(none,2,86)])]
def TB:List ((Nat × Nat) × List (Option Nat × Nat × Nat))→Nat→Nat→List (Option Nat × Nat × Nat)
  | [],_,_=>[]
  | ((a,b),x) :: l,f,t=>bif Nat.beq a f&&Nat.beq b t then x else TB l f t
def adJ (f t:Nat):List (Option Nat × Nat × Nat):=TB ZL f t
def adK (f t:Nat):Bool:=
  (Nat.beq f 1000000&&Nat.beq t 1000000) ||
  (Nat.beq f 29&&(Nat.beq t 5)) ||
  (Nat.beq f 30&&(Nat.beq t 5 || Nat.beq t 11)) ||
  (Nat.beq f 42&&(Nat.beq t 131072)) ||
  (Nat.beq f 48&&(Nat.beq t 3)) ||
  (Nat.beq f 55&&(Nat.beq t 65545)) ||
  (Nat.beq f 57&&(Nat.beq t 8 || Nat.beq t 9 || Nat.beq t 196647)) ||
  (Nat.beq f 69&&(Nat.beq t 196638 || Nat.beq t 262206)) ||
  (Nat.beq f 91&&(Nat.beq t 131072)) ||
  (Nat.beq f 100&&(Nat.beq t 2 || Nat.beq t 4)) ||
  (Nat.beq f 115&&(Nat.beq t 1)) ||
  (Nat.beq f 122&&(Nat.beq t 131072)) ||
  (Nat.beq f 130&&(Nat.beq t 196634 || Nat.beq t 262211)) ||
  (Nat.beq f 134&&(Nat.beq t 65545)) ||
  (Nat.beq f 138&&(Nat.beq t 6 || Nat.beq t 262160)) ||
  (Nat.beq f 143&&(Nat.beq t 1 || Nat.beq t 18)) ||
  (Nat.beq f 145&&(Nat.beq t 1)) ||
  (Nat.beq f 150&&(Nat.beq t 2)) ||
  (Nat.beq f 163&&(Nat.beq t 7)) ||
  (Nat.beq f 164&&(Nat.beq t 9)) ||
  (Nat.beq f 178&&(Nat.beq t 262148 || Nat.beq t 393220)) ||
  (Nat.beq f 181&&(Nat.beq t 5)) ||
  (Nat.beq f 204&&(Nat.beq t 9)) ||
  (Nat.beq f 205&&(Nat.beq t 11)) ||
  (Nat.beq f 214&&(Nat.beq t 12)) ||
  (Nat.beq f 229&&(Nat.beq t 9)) ||
  (Nat.beq f 230&&(Nat.beq t 11))
def TC:cP:=[]
theorem Pc:TC.all (fun p=>bg p.2)=true:=by kernel_rfl
def ZM (g:Nat):Option (List AV):=dO TC g
noncomputable def env:Env:={ P:=Tryz.prog,ti:=ZK,cm:=ZM,zU:=adK,Oo:=fun _=>none,gho:=adJ,H4:=H4,mixed:=by kernel_rfl,oV:=fun _ _ h=>Ow Pc h }
def aP (l:List Nat):List (List Nat):=l.map fun m=>(List.range (m.log2+1)).filter m.testBit
def bz (a:Nat):Nat→DT→DT
 | 0,t=>t
 | n+1,t=>BW (a+1) fun b=>.take a [] (bz b n t)
def bt (i:Nat) (t:DT):DT:=.br i [] [] t .stop
def Vl:ai:=⟨aP [0,1,3,7,15,31,63,127,255,511,511,1535,3583,8191,16383,32767,511,66047,197119,459263,1048575,2097151,4194303,8388607],aP [0,1,2,4,8,0,40,72,128,256,256,1280,2304,4864,8448,16640,256,65792,131328,262400,557312,1048832,2097408,4194304],(bz 0 5 (bt 5 (bz 6 18 .done)))⟩
def Pd:ai:=⟨aP [0,0,0,4,12,0,32,96,0,256,992,2046,4094,8191,16383],aP [0,0,0,4,8,0,32,64,0,256,640,1042,2048,0,8193],(bz 0 13 (bt 13 (.take 14 [] .done)))⟩
def Vm:ai:=⟨aP [0,0,0,6,14,30,0,0,128,448,960,1984,4094,0,0,24576,57344,122880,0,0,524288,1835008,3932160,8126464,16769024,33554430,67108862,134217727,268435455],aP [0,0,0,6,8,16,0,0,128,320,512,1024,2080,0,0,24576,32768,65536,0,0,524288,1310720,2097152,4194304,8519680,16781312,33554432,0,134217729],(bz 0 27 (bt 27 (.take 28 [] .done)))⟩
def Vn:ai:=⟨aP [0,1,3,7,7,23,63,127,7,7,775,1799,4095,8191,16383],aP [0,1,2,4,4,20,44,68,4,4,772,1028,0,4100,8196],(bz 0 12 (bt 12 (bz 13 2 .done)))⟩
def Vo:ai:=⟨aP [0,1,3,7,15,31,0,64,192,463,1023,2047,0,4096,13263,32767,65535,0,131072,422863,1048575,2097151,0,4194304,13530063,33554431,67108863,134217727],aP [0,1,2,0,8,16,0,64,128,0,544,1024,0,4096,0,18432,32768,0,131072,0,589824,1048576,0,4194304,0,18874368,33554432,0],(bz 0 3 (bz 6 2 (.take 8 [8] (.take 12 [8] (.take 13 [13,8] (.take 17 [13,8] (.take 18 [18,13,8] (.take 22 [18,13,8] (.take 23 [23,18,13,8] (.br 3 [23,18,13,8] [23,18,13] (.take 4 [23,18,13] (.take 5 [23,18,13] (.br 9 [23,18,13] [23,18] (.take 10 [23,18] (.take 11 [23,18] (.br 14 [23,18] [23] (.take 15 [23] (.take 16 [23] (.br 19 [23] [] (bz 20 2 (bt 24 (bz 25 2 (bt 27 .done)))) .stop))) .stop))) .stop))) .stop))))))))))⟩
def Vp:ai:=⟨aP [0,0,3,0,0,24,56,127,255],aP [0,0,3,0,0,24,32,0,128],(bz 0 7 (bt 7 (.take 8 [] .done)))⟩
def Vq:ai:=⟨aP [0,0,3,7,0,0,48,112,255],aP [0,0,3,4,0,0,48,64,136],(bz 0 9 .done)⟩
def Pe:ai:=⟨aP [0,1,0,4,12,28,63,127,255,255,1023,2047,4095],aP [0,1,0,4,8,16,34,64,128,128,896,1152,2176],(bz 0 13 .done)⟩
def Vr:ai:=⟨aP [0,1,3,7,7,23,63,127,255,7,7,1543,3591,7687,16383,32767],aP [0,1,2,4,4,20,44,68,0,4,4,1540,2052,4100,8452,16388],(bz 0 8 (bz 9 4 (.take 13 [13] (.br 8 [13] [] (bz 14 2 .done) .stop))))⟩
def Vs:ai:=⟨aP [0,0,3,7,0,0,48,112,255],aP [0,0,3,4,0,0,48,64,136],(bz 0 9 .done)⟩
def Vt:ai:=⟨aP [0,0,3,7,0,0,48,112,255],aP [0,0,3,4,0,0,48,64,136],(bz 0 9 .done)⟩
def Vu:ai:=⟨aP [0,0,3,7,0,0,48,112,255],aP [0,0,3,4,0,0,48,64,136],(bz 0 9 .done)⟩
def Vv:ai:=⟨aP [0,1,3,0,8,31,63,127,255],aP [0,1,0,0,8,0,36,0,128],(bz 0 2 (.take 3 [] (.take 4 [4] (.br 2 [4] [] (bt 5 (.take 6 [] (bt 7 (.take 8 [] .done)))) .stop))))⟩
def Vw:ai:=⟨aP [0,1,0,4,0,19,63],aP [0,1,0,4,0,0,8],(.take 0 [0] (.take 1 [1,0] (.take 2 [2,1,0] (.take 3 [3,2,1,0] (.br 4 [3,2,1,0] [3] (.br 5 [3] [] (.take 6 [] .done) .stop) .stop)))))⟩
def Pf:ai:=⟨aP [0,0,0,0,0,0,56,0,0,0,1016,2040,3,8191,16383],aP [0,0,0,0,0,0,0,0,0,0,0,1088,3,4100,0],(.take 0 [0] (.take 1 [0] (.take 2 [0] (.take 3 [0] (.take 4 [0] (.take 5 [0] (.take 7 [0] (.take 8 [0] (.take 9 [0] (.take 12 [0] (.br 6 [0] [0] (.br 10 [0] [] (.take 11 [] (.take 13 [] (bt 14 .done))) .stop) .stop)))))))))))⟩
def Pg:ai:=⟨aP [0,1,3,7,0,16,48,112,255],aP [0,1,2,4,0,16,32,64,136],(bz 0 9 .done)⟩
def Vx:ai:=⟨aP [0,0,3,7,15,0,0,96,224,480,1023,2047],aP [0,0,3,4,8,0,0,96,128,256,528,1024],(bz 0 12 .done)⟩
def Vy:ai:=⟨aP [0,0,2,7,15,31,31,127,255,31,31,1567,3615,8191,16383],aP [0,0,2,5,8,16,16,112,144,16,16,1552,2064,0,8208],(bz 0 13 (bt 13 (.take 14 [] .done)))⟩
def Vz:ai:=⟨aP [0,0,2,7,15,31,31,127,255,31,31,1567,3615,8191,16383],aP [0,0,2,5,8,16,16,112,144,16,16,1552,2064,4368,8208],(bz 0 15 .done)⟩
def VA:ai:=⟨aP [0,0,0,6,15,0,0,96,224,480,1023,0,0,6144,16383,32767],aP [0,0,0,6,0,0,0,96,128,256,0,0,0,6144,0,18434],(bz 0 4 (bz 5 3 (.take 8 [8] (.take 9 [8] (.take 11 [8] (.take 12 [8] (.take 13 [8] (.br 4 [8] [] (bt 10 (bt 14 (.take 15 [] .done))) .stop))))))))⟩
def VB:ai:=⟨aP [0,1,0,4,15,31,31,95,223,511,1023,31,4095,8191,16383,32767,65535,131071,262143],aP [0,0,0,4,8,16,16,80,144,304,528,16,0,4112,8208,0,32770,0,131072],(.take 0 [] (bz 2 2 (bt 1 (bz 4 8 (bt 12 (bz 13 2 (bt 15 (.take 16 [] (bt 17 (.take 18 [] .done))))))))))⟩
def VC:ai:=⟨aP [0,1,3,7,7,23,63,127,255,7,519,2047,4095],aP [0,1,2,4,4,20,44,68,0,4,516,1284,2052],(bz 0 8 (.take 9 [] (.take 10 [10] (.br 8 [10] [] (bz 11 2 .done) .stop))))⟩
def VD:ai:=⟨aP [0,1,3,7,15,0,32,96,224,480,1023,2047],aP [0,1,2,4,0,0,32,64,128,256,0,1024],(bz 0 4 (bz 5 3 (.take 8 [8] (.take 9 [9,8] (.br 4 [9,8] [] (bt 10 (.take 11 [] .done)) .stop)))))⟩
def VE:ai:=⟨aP [0,1,0,0,12,28,63,127],aP [0,1,0,0,12,16,0,64],(bz 0 6 (bt 6 (.take 7 [] .done)))⟩
def Ph:ai:=⟨aP [0,1,3,7,15,31,0,127,255,511,1023],aP [0,1,2,4,8,0,0,0,160,0,512],(bz 0 5 (.take 6 [6] (.br 5 [6] [] (bt 7 (.take 8 [] (bt 9 (.take 10 [] .done)))) .stop)))⟩
def Pj:ai:=⟨aP [0,1,3,7,15,31,63,127,63,319,831,1855,4095,8191,16383],aP [0,1,2,4,8,16,32,0,32,288,544,1056,0,4256,8224],(bz 0 7 (.take 8 [8] (.take 9 [8] (.take 10 [8] (.take 11 [11,8] (.br 7 [11,8] [] (bt 12 (bz 13 2 .done)) .stop))))))⟩
def Pk:ai:=⟨aP [0,1,3,7,0,31],aP [0,1,2,4,0,24],(bz 0 6 .done)⟩
def La:ai:=⟨aP [0,1,3,7,15,0,32,127,255],aP [0,1,2,4,8,0,32,80,128],(bz 0 9 .done)⟩
def Lb:ai:=⟨aP [0,1,3,7,0,31],aP [0,1,2,4,0,0],(bz 0 5 (bt 5 .done))⟩
def Lc:ai:=⟨aP [0,0,0,4,12,28,60,0,125,381,893,2047,4095,8191],aP [0,0,0,4,8,16,32,0,1,256,0,2,2048,0],(.take 0 [] (.take 1 [1] (.take 2 [1] (.take 3 [1] (.take 4 [1] (.take 5 [1] (.take 6 [1] (.take 7 [7,1] (.take 8 [7,1] (.take 9 [7,1] (.br 10 [7,1] [] (bz 11 2 (bt 13 .done)) .stop)))))))))))⟩
def Pl:ai:=⟨aP [0,1,3,7,15,31,63,127,255,511,255,255,2303,6399,15615,31999,65535,131071,262143],aP [0,1,2,4,12,20,36,64,128,0,128,128,2176,4224,9344,16512,0,66176,131200],(bz 0 9 (bz 10 2 (.take 12 [12] (.take 13 [12] (.take 14 [12] (.take 15 [15,12] (.br 9 [15,12] [] (bt 16 (bz 17 2 .done)) .stop)))))))⟩
def Pm:ai:=⟨aP [0,1,0,7,15,31],aP [0,0,0,0,2,8],(.take 0 [] (.take 2 [2] (.br 1 [2] [] (bt 3 (bz 4 2 .done)) .stop)))⟩
def Ld:ai:=⟨aP [0,0,3,7,0,0,48,112,255],aP [0,0,3,4,0,0,48,64,136],(bz 0 9 .done)⟩
def Pn:ai:=⟨aP [0,0,0,4,14,30,0,0,192,448,1022,2046,4095,8191],aP [0,0,0,4,10,16,0,0,192,256,0,1024,0,4097],(bz 0 10 (bt 10 (.take 11 [] (bt 12 (.take 13 [] .done)))))⟩
def Po:ai:=⟨aP [0,1,3,0,8,31,63,127,255],aP [0,1,0,0,8,0,36,0,128],(bz 0 2 (.take 3 [] (.take 4 [4] (.br 2 [4] [] (bt 5 (.take 6 [] (bt 7 (.take 8 [] .done)))) .stop))))⟩
def Pp:ai:=⟨aP [0,1,3,0,0,16,48,120,255,0,512,1536,0,4096,0,16384,49264,127088,261744,524287,1048575],aP [0,1,2,0,0,16,0,72,132,0,512,1024,0,4096,0,16384,0,73728,133120,262400,0],(bz 0 2 (.take 2 [2] (.take 3 [2] (.take 4 [2] (.take 5 [2] (.take 9 [2] (.take 10 [2] (.take 11 [11,2] (.take 12 [11,2] (.take 13 [11,2] (.take 14 [11,2] (.take 15 [15,11,2] (.br 6 [15,11,2] [11,2] (.take 7 [11,2] (.take 8 [11,2] (.br 16 [11,2] [] (bz 17 3 (bt 20 .done)) .stop))) .stop)))))))))))))⟩
def Pq:ai:=⟨aP [0,0,2,7,0,0,32,127,0,0,1023,2047],aP [0,0,2,0,0,0,32,0,0,0,0,0],(.al 8 [1,3,7,8,9,11,12,13] (.al 9 [1,3,7,8,9,11,12,13] (bz 0 3 (bz 4 2 (.take 6 [6] (.br 3 [6] [] (bt 7 (bt 10 (bt 11 .done))) .stop))))))⟩
def Pr:ai:=⟨aP [0,0,0,3,15,31,63,0,0,256,0,896,3968,8064,16256,32767],aP [0,0,0,3,12,16,0,0,0,256,0,640,3072,4096,8192,16448],(bz 0 6 (.take 7 [7] (.take 8 [7] (.take 9 [7] (.take 10 [7] (.take 11 [7] (.take 12 [7] (.take 13 [7] (.take 14 [14,7] (.br 6 [14,7] [] (.take 15 [] .done) .stop))))))))))⟩
def Ps:ai:=⟨aP [0,0,3,7,0,0,48,112,255],aP [0,0,3,4,0,0,48,64,136],(bz 0 9 .done)⟩
def Pt:ai:=⟨aP [0,0,3,0,8,24,63,127,255,0,512,2047,4095],aP [0,0,0,0,8,16,0,64,0,0,512,0,2048],(bz 0 2 (bz 3 2 (.take 5 [5] (.take 9 [5] (.take 10 [5] (.br 2 [5] [] (bt 6 (.take 7 [] (bt 8 (bt 11 (.take 12 [] .done))))) .stop))))))⟩
def Pu:ai:=⟨aP [0,0,3,0,8,24,63,127,255,0,512,2047,4095],aP [0,0,0,0,8,16,0,64,0,0,512,0,2048],(bz 0 2 (bz 3 2 (.take 5 [5] (.take 9 [5] (.take 10 [5] (.br 2 [5] [] (bt 6 (.take 7 [] (bt 8 (bt 11 (.take 12 [] .done))))) .stop))))))⟩
def Pv:ai:=⟨aP [0,1,0,4,12,0,32,0,128,384,896,2016,0,4096,16383,32767],aP [0,0,0,4,8,0,32,0,128,256,512,1088,0,4096,10258,0],(.take 0 [] (.take 2 [] (.take 3 [3] (.take 4 [3] (.take 5 [3] (.take 6 [6,3] (.take 7 [6,3] (.take 8 [8,6,3] (.take 9 [8,6,3] (.take 10 [8,6,3] (.take 11 [8,6,3] (.take 12 [8,6,3] (.take 13 [13,8,6,3] (.br 1 [13,8,6,3] [] (.take 14 [] (bt 15 .done)) .stop))))))))))))))⟩
def Pw:ai:=⟨aP [0,1,0,4,15,31,0,64,192,511,1023,2047,4095,8191,16383,32767,65535,131071],aP [0,1,0,4,10,0,0,64,128,256,512,1536,2560,4608,0,16416,0,65536],(bz 0 5 (.take 6 [] (.take 7 [7] (.take 8 [7] (.br 5 [7] [] (bz 9 5 (bt 14 (.take 15 [] (bt 16 (.take 17 [] .done))))) .stop)))))⟩
def Px:ai:=⟨aP [0,1,0,4,15,0,32,0,128,511,0,1024,0,4096,16383,32767,65535,131071],aP [0,1,0,4,0,0,32,0,128,0,0,1024,0,4096,0,16912,0,65536],(bz 0 4 (.take 5 [] (.take 6 [6] (.take 7 [6] (.take 8 [8,6] (.take 10 [8,6] (.take 11 [11,8,6] (.take 12 [11,8,6] (.take 13 [13,11,8,6] (.br 4 [13,11,8,6] [13,11] (.br 9 [13,11] [] (bt 14 (.take 15 [] (bt 16 (.take 17 [] .done)))) .stop) .stop))))))))))⟩
def Le:ai:=⟨aP [0,1,3,7,7,23,63,127,7,7,775,1799,4095,8191,16383],aP [0,1,2,4,4,20,44,68,4,4,772,1028,0,4100,8196],(bz 0 12 (bt 12 (bz 13 2 .done)))⟩
def Py:ai:=⟨aP [0,0,3,7,3,19,63],aP [0,0,3,4,0,16,0],(bz 0 2 (.take 2 [2] (.take 3 [2] (.br 4 [2] [] (.take 5 [] (bt 6 .done)) .stop))))⟩
def Pz:ai:=⟨aP [0,0,3,0,0,0,32,112,248,7,1023,2047],aP [0,0,3,0,0,0,32,80,136,4,256,0],(bz 0 12 .done)⟩
def PA:ai:=⟨aP [0,1,3,0,8,24,63,127],aP [0,1,2,0,0,16,36,64],(bz 0 2 (.take 2 [2] (.take 3 [2] (.br 4 [2] [] (bz 5 3 .done) .stop))))⟩
def PB:ai:=⟨aP [0,1,0,4,0,16,60,124,252,511,1023,2047,4095],aP [0,0,0,4,0,16,40,64,128,0,514,0,2048],(.take 0 [] (.take 2 [] (.take 3 [3] (.take 4 [3] (.take 5 [5,3] (.take 6 [5,3] (.take 7 [5,3] (.take 8 [5,3] (.br 1 [5,3] [] (bt 9 (.take 10 [] (bt 11 (.take 12 [] .done)))) .stop)))))))))⟩
def PC:ai:=⟨aP [0,1,3,0,8,31,63,127,255],aP [0,1,0,0,8,0,36,0,128],(bz 0 2 (.take 3 [] (.take 4 [4] (.br 2 [4] [] (bt 5 (.take 6 [] (bt 7 (.take 8 [] .done)))) .stop))))⟩
def PD:ai:=⟨aP [0,0,3,7,15,15,63,127,15,15,527,1807,3855,8191,16383],aP [0,0,3,4,8,8,56,72,8,8,520,1288,2056,0,8200],(bz 0 13 (bt 13 (.take 14 [] .done)))⟩
def PE:ai:=⟨aP [0,0,0,0,8,0,0,64,224,480,0,0,3072,7168,16355,32739,65535,131071],aP [0,0,0,0,8,0,0,64,160,256,0,0,3072,4096,3,0,20,0],(bz 0 15 (bt 15 (.take 16 [] (bt 17 .done))))⟩
def Lf:ai:=⟨aP [0,0,0,0,0,24,0,0,0,384,960,1984,0,0,12288,28672,65475,131011,262143,524287],aP [0,0,0,0,0,24,0,0,0,384,576,1024,0,0,12288,16384,3,0,36,0],(bz 0 17 (bt 17 (.take 18 [] (bt 19 .done))))⟩
def Lg:ai:=⟨aP [0,0,0,0,0,24,0,0,0,384,960,1984,0,0,12288,28672,65475,131011,262143,524287],aP [0,0,0,0,0,24,0,0,0,384,576,1024,0,0,12288,16384,3,0,36,0],(bz 0 17 (bt 17 (.take 18 [] (bt 19 .done))))⟩
def PF:ai:=⟨aP [0,0,0,0,0,0,48,112,0,0,768,1792,4083,8179,16383,32767],aP [0,0,0,0,0,0,48,64,0,0,768,1024,3,0,12,0],(bz 0 13 (bt 13 (.take 14 [] (bt 15 .done))))⟩
def PG:ai:=⟨aP [0,0,3,7,15,15,63,127,15,15,527,1807,3855,8191,16383,32767],aP [0,0,3,4,8,8,56,72,8,8,520,1288,2056,0,8200,16392],(bz 0 13 (bt 13 (bz 14 2 .done)))⟩
def Lh:ai:=⟨aP [0,0,0,0,8,0,0,64,224,480,0,0,3072,7168,16355,32739,65535,131071],aP [0,0,0,0,8,0,0,64,160,256,0,0,3072,4096,3,0,20,0],(bz 0 15 (bt 15 (.take 16 [] (bt 17 .done))))⟩
def Li:ai:=⟨aP [0,0,3,7,0,0,32,112,240,511,1023],aP [0,0,3,4,0,0,32,80,128,0,512],(bz 0 9 (bt 9 (.take 10 [] .done)))⟩
def Lj:ai:=⟨aP [0,0,0,0,8,0,0,64,224,480,0,0,3072,7168,16355,32739,65535,131071],aP [0,0,0,0,8,0,0,64,160,256,0,0,3072,4096,3,0,20,0],(bz 0 15 (bt 15 (.take 16 [] (bt 17 .done))))⟩
def Lk:ai:=⟨aP [0,0,3,7,0,0,32,112,240,511,1023],aP [0,0,3,4,0,0,32,80,128,0,512],(bz 0 9 (bt 9 (.take 10 [] .done)))⟩
def Ll:ai:=⟨aP [0,0,0,0,8,0,0,64,224,480,0,0,3072,7168,16355,32739,65535,131071],aP [0,0,0,0,8,0,0,64,160,256,0,0,3072,4096,3,0,20,0],(bz 0 15 (bt 15 (.take 16 [] (bt 17 .done))))⟩
def PH:ai:=⟨aP [0,0,0,0,0,0,48,112,0,0,768,1792,4083,8179,16383,32767],aP [0,0,0,0,0,0,48,64,0,0,768,1024,3,0,12,0],(bz 0 13 (bt 13 (.take 14 [] (bt 15 .done))))⟩
def PI:ai:=⟨aP [0,0,3,7,15,15,63,127,15,15,783,1807,4095,8191,16383],aP [0,0,3,4,8,8,56,72,8,8,776,1032,0,4104,8200],(bz 0 12 (bt 12 (bz 13 2 .done)))⟩
def PJ:ai:=⟨aP [0,0,3,7,15,15,63,127,15,15,783,1807,4095,8191],aP [0,0,3,4,8,8,56,72,8,8,776,1032,0,4104],(bz 0 12 (bt 12 (.take 13 [] .done)))⟩
def PK:ai:=⟨aP [0,0,0,0,0,0,48,112,0,0,768,1792,4083,8179,16383,32767],aP [0,0,0,0,0,0,48,64,0,0,768,1024,3,0,12,0],(bz 0 13 (bt 13 (.take 14 [] (bt 15 .done))))⟩
def PL:ai:=⟨aP [0,0,0,0,0,0,48,112,0,0,768,1792,4083,8179,16383,32767],aP [0,0,0,0,0,0,48,64,0,0,768,1024,3,0,12,0],(bz 0 13 (bt 13 (.take 14 [] (bt 15 .done))))⟩
def PM:ai:=⟨aP [0,0,3,7,15,15,63,127,15,15,783,1807,4095,8191],aP [0,0,3,4,8,8,56,72,8,8,776,1032,0,4104],(bz 0 12 (bt 12 (.take 13 [] .done)))⟩
def PN:ai:=⟨aP [0,0,3,7,15,15,63,127,15,15,783,1807,4095,8191,16383],aP [0,0,3,4,8,8,56,72,8,8,776,1032,0,4104,8200],(bz 0 12 (bt 12 (bz 13 2 .done)))⟩
def PO:ai:=⟨aP [0,0,0,0,0,0,48,112,0,0,768,1792,4083,8179,16383,32767],aP [0,0,0,0,0,0,48,64,0,0,768,1024,3,0,12,0],(bz 0 13 (bt 13 (.take 14 [] (bt 15 .done))))⟩
def Lm:ai:=⟨aP [0,0,0,0,0,0,48,112,0,0,768,1792,4083,8179,16383,32767],aP [0,0,0,0,0,0,48,64,0,0,768,1024,3,0,12,0],(bz 0 13 (bt 13 (.take 14 [] (bt 15 .done))))⟩
def Ln:ai:=⟨aP [0,0,3,7,15,15,63,127,15,15,783,1807,4095,8191],aP [0,0,3,4,8,8,56,72,8,8,776,1032,0,4104],(bz 0 12 (bt 12 (.take 13 [] .done)))⟩
def Lo:ai:=⟨aP [0,0,3,7,15,15,63,127,15,15,783,1807,4095,8191,16383],aP [0,0,3,4,8,8,56,72,8,8,776,1032,0,4104,8200],(bz 0 12 (bt 12 (bz 13 2 .done)))⟩
def Lp:ai:=⟨aP [0,0,0,0,0,0,48,112,0,0,768,1792,4083,8179,16383,32767],aP [0,0,0,0,0,0,48,64,0,0,768,1024,3,0,12,0],(bz 0 13 (bt 13 (.take 14 [] (bt 15 .done))))⟩
def Lq:ai:=⟨aP [0,0,0,0,0,0,48,112,0,0,768,1792,4083,8179,16383,32767],aP [0,0,0,0,0,0,48,64,0,0,768,1024,3,0,12,0],(bz 0 13 (bt 13 (.take 14 [] (bt 15 .done))))⟩
def Lr:ai:=⟨aP [0,1,3,7,7,7,39,119,247,7,7,1543,3591,8191,16383,32767,65535],aP [0,1,2,4,4,4,36,84,132,4,4,1540,2052,0,8196,16388,32772],(bz 0 13 (bt 13 (bz 14 3 .done)))⟩
def PP:ai:=⟨aP [0,1,0,4,15,0,32,0,128,511,1023,2047,4095],aP [0,1,0,4,0,0,32,0,128,0,528,0,2048],(bz 0 4 (.take 5 [] (.take 6 [6] (.take 7 [6] (.take 8 [8,6] (.br 4 [8,6] [] (bt 9 (.take 10 [] (bt 11 (.take 12 [] .done)))) .stop))))))⟩
def PQ:ai:=⟨aP [0,0,0,6,14,0,0,64,224,480,1023],aP [0,0,0,6,8,0,0,64,160,256,0],(bz 0 10 (bt 10 .done))⟩
def Ls:ai:=⟨aP [0,0,0,6,14,0,0,64,224,480,1023,2047],aP [0,0,0,6,8,0,0,64,160,256,0,1024],(bz 0 10 (bt 10 (.take 11 [] .done)))⟩
def PR:ai:=⟨aP [0,0,3,0,0,16,63,0,0,511,1023],aP [0,0,0,0,0,16,0,0,0,0,0],(.al 7 [1,3,11,12,14,15,16] (.al 8 [1,3,11,12,14,15,16] (bz 0 2 (.take 3 [3] (.take 4 [3] (.take 5 [3] (.br 2 [3] [] (bt 6 (bt 9 (bt 10 .done))) .stop)))))))⟩
def PS:ai:=⟨aP [0,1,0,7,15,31,31,31,223,511,1023,31,31,31,12319,28703,63519,129055,262143,524287],aP [0,1,0,6,8,16,16,16,208,304,528,16,16,16,12304,16400,34832,65552,0,262160],(bz 0 18 (bt 18 (.take 19 [] .done)))⟩
def PT:ai:=⟨aP [0,0,0,6,15,31,0,0,0,384,960,1984,4095,8191],aP [0,0,0,6,9,16,0,0,0,384,576,1024,0,4096],(bz 0 12 (bt 12 (.take 13 [] .done)))⟩
def PU:ai:=⟨aP [0,0,0,6,0,0,0,96,0,0,0,1536,3840,7936,0,0,0,98304,245760,507904,1048335,2096911,4194303,8388607],aP [0,0,0,6,0,0,0,96,0,0,0,1536,2304,4096,0,0,0,98304,147456,262144,9,0,144,0],(bz 0 21 (bt 21 (.take 22 [] (bt 23 .done))))⟩
def PV:ai:=⟨aP [0,1,3,0,8,24,56,127,255,511],aP [0,1,2,0,8,16,32,68,1,0],(bz 0 9 (bt 9 .done))⟩
def PW:ai:=⟨aP [0,1,3,0,8,24,56,127,255,511],aP [0,1,2,0,8,16,32,68,1,0],(bz 0 9 (bt 9 .done))⟩
def PX:ai:=⟨aP [0,1,3,0,8,24,56,127,255,511],aP [0,1,2,0,8,16,32,68,1,0],(bz 0 9 (bt 9 .done))⟩
def PY:ai:=⟨aP [0,0,0,6,14,0,63,127],aP [0,0,0,6,8,0,0,64],(bz 0 6 (bt 6 (.take 7 [] .done)))⟩
def PZ:ai:=⟨aP [0,0,0,6,14,30,30,30,222,478,30,2046,4094,8190,4095,32767],aP [0,0,0,6,8,16,16,16,208,272,16,0,2064,4112,1,8192],(bz 0 11 (bt 11 (bz 12 4 .done)))⟩
def P1:ai:=⟨aP [0,0,3,7,15,15,15,111,239,15,15,1039,3599,7695,16383,32767,65535],aP [0,0,3,4,8,8,8,104,136,8,8,1032,2568,4104,0,16392,32776],(bz 0 14 (bt 14 (bz 15 2 .done)))⟩
def P2:ai:=⟨aP [0,0,0,0,8,0,0,64,224,480,0,0,3072,7168,16355,32739,65535,131071],aP [0,0,0,0,8,0,0,64,160,256,0,0,3072,4096,3,0,20,0],(bz 0 15 (bt 15 (.take 16 [] (bt 17 .done))))⟩
def Lt:ai:=⟨aP [0,0,0,0,0,24,0,0,0,384,960,1984,0,0,12288,28672,65475,131011,262143,524287],aP [0,0,0,0,0,24,0,0,0,384,576,1024,0,0,12288,16384,3,0,36,0],(bz 0 17 (bt 17 (.take 18 [] (bt 19 .done))))⟩
def Lu:ai:=⟨aP [0,0,0,0,0,24,0,0,0,384,960,1984,0,0,12288,28672,65475,131011,262143,524287],aP [0,0,0,0,0,24,0,0,0,384,576,1024,0,0,12288,16384,3,0,36,0],(bz 0 17 (bt 17 (.take 18 [] (bt 19 .done))))⟩
def P3:ai:=⟨aP [0,0,0,0,0,0,48,112,0,0,768,1792,4083,8179,16383,32767],aP [0,0,0,0,0,0,48,64,0,0,768,1024,3,0,12,0],(bz 0 13 (bt 13 (.take 14 [] (bt 15 .done))))⟩
def P4:ai:=⟨aP [0,0,3,7,15,15,15,111,239,15,15,1039,3599,7695,16383,32767,65535,131071],aP [0,0,3,4,8,8,8,104,136,8,8,1032,2568,4104,0,16392,32776,65544],(bz 0 14 (bt 14 (bz 15 3 .done)))⟩
def Lv:ai:=⟨aP [0,0,0,0,8,0,0,64,224,480,0,0,3072,7168,16355,32739,65535,131071],aP [0,0,0,0,8,0,0,64,160,256,0,0,3072,4096,3,0,20,0],(bz 0 15 (bt 15 (.take 16 [] (bt 17 .done))))⟩
def Lw:ai:=⟨aP [0,0,0,6,14,0,0,64,224,480,1023,2047,4095],aP [0,0,0,6,8,0,0,64,160,256,0,1024,2048],(bz 0 10 (bt 10 (bz 11 2 .done)))⟩
def Lx:ai:=⟨aP [0,0,0,0,8,0,0,64,224,480,0,0,3072,7168,16355,32739,65535,131071],aP [0,0,0,0,8,0,0,64,160,256,0,0,3072,4096,3,0,20,0],(bz 0 15 (bt 15 (.take 16 [] (bt 17 .done))))⟩
def Ly:ai:=⟨aP [0,0,0,6,14,0,0,64,224,480,1023,2047,4095],aP [0,0,0,6,8,0,0,64,160,256,0,1024,2048],(bz 0 10 (bt 10 (bz 11 2 .done)))⟩
def Lz:ai:=⟨aP [0,0,0,0,8,0,0,64,224,480,0,0,3072,7168,16355,32739,65535,131071],aP [0,0,0,0,8,0,0,64,160,256,0,0,3072,4096,3,0,20,0],(bz 0 15 (bt 15 (.take 16 [] (bt 17 .done))))⟩
def P5:ai:=⟨aP [0,0,0,0,0,0,48,112,0,0,768,1792,4083,8179,16383,32767],aP [0,0,0,0,0,0,48,64,0,0,768,1024,3,0,12,0],(bz 0 13 (bt 13 (.take 14 [] (bt 15 .done))))⟩
def P6:ai:=⟨aP [0,0,3,7,15,15,15,111,239,15,15,1551,3599,8191,16383,32767,65535],aP [0,0,3,4,8,8,8,104,136,8,8,1544,2056,0,8200,16392,32776],(bz 0 13 (bt 13 (bz 14 3 .done)))⟩
def P7:ai:=⟨aP [0,0,3,7,15,15,15,111,239,15,15,1551,3599,8191,16383,32767],aP [0,0,3,4,8,8,8,104,136,8,8,1544,2056,0,8200,16392],(bz 0 13 (bt 13 (bz 14 2 .done)))⟩
def P8:ai:=⟨aP [0,0,0,0,0,0,48,112,0,0,768,1792,4083,8179,16383,32767],aP [0,0,0,0,0,0,48,64,0,0,768,1024,3,0,12,0],(bz 0 13 (bt 13 (.take 14 [] (bt 15 .done))))⟩
def P9:ai:=⟨aP [0,0,0,0,0,0,48,112,0,0,768,1792,4083,8179,16383,32767],aP [0,0,0,0,0,0,48,64,0,0,768,1024,3,0,12,0],(bz 0 13 (bt 13 (.take 14 [] (bt 15 .done))))⟩
def Qa:ai:=⟨aP [0,0,3,7,15,15,15,111,239,15,15,1551,3599,8191,16383,32767],aP [0,0,3,4,8,8,8,104,136,8,8,1544,2056,0,8200,16392],(bz 0 13 (bt 13 (bz 14 2 .done)))⟩
def Qb:ai:=⟨aP [0,0,3,7,15,15,15,111,239,15,15,1551,3599,8191,16383,32767,65535],aP [0,0,3,4,8,8,8,104,136,8,8,1544,2056,0,8200,16392,32776],(bz 0 13 (bt 13 (bz 14 3 .done)))⟩
def Qd:ai:=⟨aP [0,0,0,0,0,0,48,112,0,0,768,1792,4083,8179,16383,32767],aP [0,0,0,0,0,0,48,64,0,0,768,1024,3,0,12,0],(bz 0 13 (bt 13 (.take 14 [] (bt 15 .done))))⟩
def LA:ai:=⟨aP [0,0,0,0,0,0,48,112,0,0,768,1792,4083,8179,16383,32767],aP [0,0,0,0,0,0,48,64,0,0,768,1024,3,0,12,0],(bz 0 13 (bt 13 (.take 14 [] (bt 15 .done))))⟩
def LB:ai:=⟨aP [0,0,3,7,15,15,15,111,239,15,15,1551,3599,8191,16383,32767],aP [0,0,3,4,8,8,8,104,136,8,8,1544,2056,0,8200,16392],(bz 0 13 (bt 13 (bz 14 2 .done)))⟩
def LC:ai:=⟨aP [0,0,3,7,15,15,15,111,239,15,15,1551,3599,8191,16383,32767,65535],aP [0,0,3,4,8,8,8,104,136,8,8,1544,2056,0,8200,16392,32776],(bz 0 13 (bt 13 (bz 14 3 .done)))⟩
def LD:ai:=⟨aP [0,0,0,0,0,0,48,112,0,0,768,1792,4083,8179,16383,32767],aP [0,0,0,0,0,0,48,64,0,0,768,1024,3,0,12,0],(bz 0 13 (bt 13 (.take 14 [] (bt 15 .done))))⟩
def LF:ai:=⟨aP [0,0,0,0,0,0,48,112,0,0,768,1792,4083,8179,16383,32767],aP [0,0,0,0,0,0,48,64,0,0,768,1024,3,0,12,0],(bz 0 13 (bt 13 (.take 14 [] (bt 15 .done))))⟩
def LG:ai:=⟨aP [0,1,3,7,7,7,39,119,247,7,7,1543,3591,8191,16383,32767,65535],aP [0,1,2,4,4,4,36,84,132,4,4,1540,2052,0,8196,16388,32772],(bz 0 13 (bt 13 (bz 14 3 .done)))⟩
def Qe:ai:=⟨aP [0,0,2,0,0,16,0,64,192,0,512,455,2503,8191,16383],aP [0,0,2,0,0,16,0,64,128,0,512,5,0,40,0],(bz 0 12 (bt 12 (.take 13 [] (bt 14 .done))))⟩
def Qf:ai:=⟨aP [0,0,2,0,0,16,0,64,192,0,512,455,2503,8191,16383],aP [0,0,2,0,0,16,0,64,128,0,512,5,0,40,0],(bz 0 12 (bt 12 (.take 13 [] (bt 14 .done))))⟩
def Qg:ai:=⟨aP [0,0,2,0,0,16,0,64,192,0,512,455,2503,8191,16383],aP [0,0,2,0,0,16,0,64,128,0,512,5,0,40,0],(bz 0 12 (bt 12 (.take 13 [] (bt 14 .done))))⟩
def LH:ai:=⟨aP [0,0,2,0,0,16,0,64,192,0,512,455,2503,8191,16383],aP [0,0,2,0,0,16,0,64,128,0,512,5,0,40,0],(bz 0 12 (bt 12 (.take 13 [] (bt 14 .done))))⟩
def LI:ai:=⟨aP [0,0,2,0,0,16,0,64,192,0,512,455,2503,8191,16383],aP [0,0,2,0,0,16,0,64,128,0,512,5,0,40,0],(bz 0 12 (bt 12 (.take 13 [] (bt 14 .done))))⟩
def LJ:ai:=⟨aP [0,0,2,0,0,16,0,64,192,0,512,455,2503,8191,16383],aP [0,0,2,0,0,16,0,64,128,0,512,5,0,40,0],(bz 0 12 (bt 12 (.take 13 [] (bt 14 .done))))⟩
def LL:ai:=⟨aP [0,0,2,0,0,16,0,64,192,0,512,455,2503,8191,16383],aP [0,0,2,0,0,16,0,64,128,0,512,5,0,40,0],(bz 0 12 (bt 12 (.take 13 [] (bt 14 .done))))⟩
def Qh:ai:=⟨aP [0,0,3,7,0,0,48,112,255],aP [0,0,3,4,0,0,48,64,0],(bz 0 8 (bt 8 .done))⟩
def Qi:ai:=⟨aP [0,1,0,7,15,31,31,31,31,415,991,2015,31,31,31,24607,57375,127007,258079,524287,1048575,2097151],aP [0,1,0,6,8,16,16,16,16,400,592,1040,16,16,16,24592,32784,69648,131088,0,524304,1048592],(bz 0 19 (bt 19 (bz 20 2 .done)))⟩
def Qj:ai:=⟨aP [0,0,0,0,12,30,62,0,0,0,768,1920,3968,8191,16383,32767],aP [0,0,0,0,12,18,32,0,0,0,768,1152,2048,0,8192,16384],(bz 0 13 (bt 13 (bz 14 2 .done)))⟩
def Qk:ai:=⟨aP [0,0,0,6,0,0,0,96,0,0,0,1536,3840,7936,0,0,0,98304,245760,507904,1048335,2096911,4194303,8388607],aP [0,0,0,6,0,0,0,96,0,0,0,1536,2304,4096,0,0,0,98304,147456,262144,9,0,144,0],(bz 0 21 (bt 21 (.take 22 [] (bt 23 .done))))⟩
def Ql:ai:=⟨aP [0,0,3,7,15,15,15,111,239,15,15,1039,3599,7695,16383,32767,65535],aP [0,0,3,4,8,8,8,104,136,8,8,1032,2568,4104,0,16392,32776],(bz 0 14 (bt 14 (bz 15 2 .done)))⟩
def Qm:ai:=⟨aP [0,0,0,0,8,0,0,64,224,480,0,0,3072,7168,16355,32739,65535,131071],aP [0,0,0,0,8,0,0,64,160,256,0,0,3072,4096,3,0,20,0],(bz 0 15 (bt 15 (.take 16 [] (bt 17 .done))))⟩
def LM:ai:=⟨aP [0,0,0,0,0,24,0,0,0,384,960,1984,0,0,12288,28672,65475,131011,262143,524287],aP [0,0,0,0,0,24,0,0,0,384,576,1024,0,0,12288,16384,3,0,36,0],(bz 0 17 (bt 17 (.take 18 [] (bt 19 .done))))⟩
def LN:ai:=⟨aP [0,0,0,0,0,24,0,0,0,384,960,1984,0,0,12288,28672,65475,131011,262143,524287],aP [0,0,0,0,0,24,0,0,0,384,576,1024,0,0,12288,16384,3,0,36,0],(bz 0 17 (bt 17 (.take 18 [] (bt 19 .done))))⟩
def Qn:ai:=⟨aP [0,0,0,0,0,0,48,112,0,0,768,1792,4083,8179,16383,32767],aP [0,0,0,0,0,0,48,64,0,0,768,1024,3,0,12,0],(bz 0 13 (bt 13 (.take 14 [] (bt 15 .done))))⟩
def Qo:ai:=⟨aP [0,0,3,7,15,15,15,111,239,15,15,1039,3599,7695,16383,32767,65535,131071],aP [0,0,3,4,8,8,8,104,136,8,8,1032,2568,4104,0,16392,32776,65544],(bz 0 14 (bt 14 (bz 15 3 .done)))⟩
def LO:ai:=⟨aP [0,0,0,0,8,0,0,64,224,480,0,0,3072,7168,16355,32739,65535,131071],aP [0,0,0,0,8,0,0,64,160,256,0,0,3072,4096,3,0,20,0],(bz 0 15 (bt 15 (.take 16 [] (bt 17 .done))))⟩
def LP:ai:=⟨aP [0,0,0,6,14,0,0,64,224,480,1023,2047,4095],aP [0,0,0,6,8,0,0,64,160,256,0,1024,2048],(bz 0 10 (bt 10 (bz 11 2 .done)))⟩
def LQ:ai:=⟨aP [0,0,0,0,8,0,0,64,224,480,0,0,3072,7168,16355,32739,65535,131071],aP [0,0,0,0,8,0,0,64,160,256,0,0,3072,4096,3,0,20,0],(bz 0 15 (bt 15 (.take 16 [] (bt 17 .done))))⟩
def LR:ai:=⟨aP [0,0,0,6,14,0,0,64,224,480,1023,2047,4095],aP [0,0,0,6,8,0,0,64,160,256,0,1024,2048],(bz 0 10 (bt 10 (bz 11 2 .done)))⟩
def LS:ai:=⟨aP [0,0,0,0,8,0,0,64,224,480,0,0,3072,7168,16355,32739,65535,131071],aP [0,0,0,0,8,0,0,64,160,256,0,0,3072,4096,3,0,20,0],(bz 0 15 (bt 15 (.take 16 [] (bt 17 .done))))⟩
def Qp:ai:=⟨aP [0,0,0,0,0,0,48,112,0,0,768,1792,4083,8179,16383,32767],aP [0,0,0,0,0,0,48,64,0,0,768,1024,3,0,12,0],(bz 0 13 (bt 13 (.take 14 [] (bt 15 .done))))⟩
def Qq:ai:=⟨aP [0,0,3,7,15,15,15,111,239,15,15,1551,3599,8191,16383,32767,65535],aP [0,0,3,4,8,8,8,104,136,8,8,1544,2056,0,8200,16392,32776],(bz 0 13 (bt 13 (bz 14 3 .done)))⟩
def Qr:ai:=⟨aP [0,0,3,7,15,15,15,111,239,15,15,1551,3599,8191,16383,32767],aP [0,0,3,4,8,8,8,104,136,8,8,1544,2056,0,8200,16392],(bz 0 13 (bt 13 (bz 14 2 .done)))⟩
def Qs:ai:=⟨aP [0,0,0,0,0,0,48,112,0,0,768,1792,4083,8179,16383,32767],aP [0,0,0,0,0,0,48,64,0,0,768,1024,3,0,12,0],(bz 0 13 (bt 13 (.take 14 [] (bt 15 .done))))⟩
def Qt:ai:=⟨aP [0,0,0,0,0,0,48,112,0,0,768,1792,4083,8179,16383,32767],aP [0,0,0,0,0,0,48,64,0,0,768,1024,3,0,12,0],(bz 0 13 (bt 13 (.take 14 [] (bt 15 .done))))⟩
def Qu:ai:=⟨aP [0,0,3,7,15,15,15,111,239,15,15,1551,3599,8191,16383,32767],aP [0,0,3,4,8,8,8,104,136,8,8,1544,2056,0,8200,16392],(bz 0 13 (bt 13 (bz 14 2 .done)))⟩
def Qv:ai:=⟨aP [0,0,3,7,15,15,15,111,239,15,15,1551,3599,8191,16383,32767,65535],aP [0,0,3,4,8,8,8,104,136,8,8,1544,2056,0,8200,16392,32776],(bz 0 13 (bt 13 (bz 14 3 .done)))⟩
def Qw:ai:=⟨aP [0,0,0,0,0,0,48,112,0,0,768,1792,4083,8179,16383,32767],aP [0,0,0,0,0,0,48,64,0,0,768,1024,3,0,12,0],(bz 0 13 (bt 13 (.take 14 [] (bt 15 .done))))⟩
def LU:ai:=⟨aP [0,0,0,0,0,0,48,112,0,0,768,1792,4083,8179,16383,32767],aP [0,0,0,0,0,0,48,64,0,0,768,1024,3,0,12,0],(bz 0 13 (bt 13 (.take 14 [] (bt 15 .done))))⟩
def LV:ai:=⟨aP [0,0,3,7,15,15,15,111,239,15,15,1551,3599,8191,16383,32767],aP [0,0,3,4,8,8,8,104,136,8,8,1544,2056,0,8200,16392],(bz 0 13 (bt 13 (bz 14 2 .done)))⟩
def LW:ai:=⟨aP [0,0,3,7,15,15,15,111,239,15,15,1551,3599,8191,16383,32767,65535],aP [0,0,3,4,8,8,8,104,136,8,8,1544,2056,0,8200,16392,32776],(bz 0 13 (bt 13 (bz 14 3 .done)))⟩
def LX:ai:=⟨aP [0,0,0,0,0,0,48,112,0,0,768,1792,4083,8179,16383,32767],aP [0,0,0,0,0,0,48,64,0,0,768,1024,3,0,12,0],(bz 0 13 (bt 13 (.take 14 [] (bt 15 .done))))⟩
def LY:ai:=⟨aP [0,0,0,0,0,0,48,112,0,0,768,1792,4083,8179,16383,32767],aP [0,0,0,0,0,0,48,64,0,0,768,1024,3,0,12,0],(bz 0 13 (bt 13 (.take 14 [] (bt 15 .done))))⟩
def Qx:ai:=⟨aP [0,0,0,6,14,0,0,96,224,511,1023],aP [0,0,0,6,8,0,0,96,128,0,512],(bz 0 9 (bt 9 (.take 10 [] .done)))⟩
def Qy:ai:=⟨aP [0,1,0,7,15,31,31,31,31,415,991,2015,31,31,31,24607,57375,127007,258079,524287,1048575,2097151],aP [0,1,0,6,8,16,16,16,16,400,592,1040,16,16,16,24592,32784,69648,131088,0,524304,1048592],(bz 0 19 (bt 19 (bz 20 2 .done)))⟩
def Qz:ai:=⟨aP [0,0,0,0,12,30,62,0,0,0,768,1920,3968,8191,16383,32767],aP [0,0,0,0,12,18,32,0,0,0,768,1152,2048,0,8192,16384],(bz 0 13 (bt 13 (bz 14 2 .done)))⟩
def QA:ai:=⟨aP [0,0,0,6,0,0,0,96,0,0,0,1536,3840,7936,0,0,0,98304,245760,507904,1048335,2096911,4194303,8388607],aP [0,0,0,6,0,0,0,96,0,0,0,1536,2304,4096,0,0,0,98304,147456,262144,9,0,144,0],(bz 0 21 (bt 21 (.take 22 [] (bt 23 .done))))⟩
def QB:ai:=⟨aP [0,0,0,6,14,0,0,96,224,511,1023],aP [0,0,0,6,8,0,0,96,128,0,512],(bz 0 9 (bt 9 (.take 10 [] .done)))⟩
def dtF (f r:Nat):Option ai:=
  bif Nat.beq f 13 then (bif Nat.beq r 3 then some Vl else none) else
  bif Nat.beq f 15 then (bif Nat.beq r 23 then some Pd else none) else
  bif Nat.beq f 17 then (bif Nat.beq r 8 then some Vm else none) else
  bif Nat.beq f 19 then (bif Nat.beq r 9 then some Vn else none) else
  bif Nat.beq f 29 then (bif Nat.beq r 8 then some Vo else none) else
  bif Nat.beq f 31 then (bif Nat.beq r 6 then some Vp else none) else
  bif Nat.beq f 37 then (bif Nat.beq r 6 then some Vq else none) else
  bif Nat.beq f 43 then (bif Nat.beq r 15 then some Pe else none) else
  bif Nat.beq f 46 then (bif Nat.beq r 5 then some Vr else none) else
  bif Nat.beq f 49 then (bif Nat.beq r 6 then some Vs else none) else
  bif Nat.beq f 50 then (bif Nat.beq r 6 then some Vt else none) else
  bif Nat.beq f 51 then (bif Nat.beq r 6 then some Vu else none) else
  bif Nat.beq f 54 then (bif Nat.beq r 1 then some Vv else none) else
  bif Nat.beq f 55 then (bif Nat.beq r 2 then some Vw else none) else
  bif Nat.beq f 57 then (bif Nat.beq r 15 then some Pf else bif Nat.beq r 18 then some Pg else none) else
  bif Nat.beq f 59 then (bif Nat.beq r 9 then some Vx else none) else
  bif Nat.beq f 62 then (bif Nat.beq r 6 then some Vy else bif Nat.beq r 8 then some Vz else bif Nat.beq r 9 then some VA else none) else
  bif Nat.beq f 79 then (bif Nat.beq r 6 then some VB else none) else
  bif Nat.beq f 93 then (bif Nat.beq r 5 then some VC else none) else
  bif Nat.beq f 97 then (bif Nat.beq r 1 then some VD else none) else
  bif Nat.beq f 99 then (bif Nat.beq r 8 then some VE else none) else
  bif Nat.beq f 100 then (bif Nat.beq r 1 then some Ph else bif Nat.beq r 4 then some Pj else bif Nat.beq r 8 then some Pk else bif Nat.beq r 10 then some La else bif Nat.beq r 14 then some Lb else bif Nat.beq r 15 then some Lc else none) else
  bif Nat.beq f 101 then (bif Nat.beq r 2 then some Pl else bif Nat.beq r 6 then some Pm else bif Nat.beq r 13 then some Ld else none) else
  bif Nat.beq f 107 then (bif Nat.beq r 6 then some Pn else none) else
  bif Nat.beq f 108 then (bif Nat.beq r 1 then some Po else none) else
  bif Nat.beq f 109 then (bif Nat.beq r 1 then some Pp else none) else
  bif Nat.beq f 115 then (bif Nat.beq r 2 then some Pq else none) else
  bif Nat.beq f 116 then (bif Nat.beq r 1 then some Pr else none) else
  bif Nat.beq f 117 then (bif Nat.beq r 6 then some Ps else none) else
  bif Nat.beq f 118 then (bif Nat.beq r 3 then some Pt else bif Nat.beq r 4 then some Pu else none) else
  bif Nat.beq f 121 then (bif Nat.beq r 1 then some Pv else none) else
  bif Nat.beq f 125 then (bif Nat.beq r 1 then some Pw else none) else
  bif Nat.beq f 127 then (bif Nat.beq r 1 then some Px else none) else
  bif Nat.beq f 128 then (bif Nat.beq r 17 then some Le else none) else
  bif Nat.beq f 131 then (bif Nat.beq r 8 then some Py else none) else
  bif Nat.beq f 141 then (bif Nat.beq r 3 then some Pz else none) else
  bif Nat.beq f 144 then (bif Nat.beq r 1 then some PA else none) else
  bif Nat.beq f 151 then (bif Nat.beq r 1 then some PB else none) else
  bif Nat.beq f 157 then (bif Nat.beq r 1 then some PC else none) else
  bif Nat.beq f 161 then (bif Nat.beq r 4 then some PD else bif Nat.beq r 6 then some PE else none) else
  bif Nat.beq f 162 then (bif Nat.beq r 10 then some Lf else none) else
  bif Nat.beq f 163 then (bif Nat.beq r 10 then some Lg else none) else
  bif Nat.beq f 165 then (bif Nat.beq r 3 then some PF else none) else
  bif Nat.beq f 166 then (bif Nat.beq r 5 then some PG else bif Nat.beq r 11 then some Lh else bif Nat.beq r 16 then some Li else bif Nat.beq r 17 then some Lj else bif Nat.beq r 22 then some Lk else bif Nat.beq r 23 then some Ll else none) else
  bif Nat.beq f 168 then (bif Nat.beq r 1 then some PH else bif Nat.beq r 3 then some PI else bif Nat.beq r 5 then some PJ else bif Nat.beq r 8 then some PK else none) else
  bif Nat.beq f 169 then (bif Nat.beq r 1 then some PL else bif Nat.beq r 3 then some PM else bif Nat.beq r 5 then some PN else bif Nat.beq r 8 then some PO else bif Nat.beq r 10 then some Lm else bif Nat.beq r 13 then some Ln else bif Nat.beq r 15 then some Lo else bif Nat.beq r 18 then some Lp else bif Nat.beq r 21 then some Lq else none) else
  bif Nat.beq f 175 then (bif Nat.beq r 17 then some Lr else none) else
  bif Nat.beq f 177 then (bif Nat.beq r 1 then some PP else none) else
  bif Nat.beq f 178 then (bif Nat.beq r 6 then some PQ else bif Nat.beq r 11 then some Ls else none) else
  bif Nat.beq f 192 then (bif Nat.beq r 3 then some PR else none) else
  bif Nat.beq f 196 then (bif Nat.beq r 3 then some PS else bif Nat.beq r 5 then some PT else bif Nat.beq r 6 then some PU else none) else
  bif Nat.beq f 198 then (bif Nat.beq r 1 then some PV else bif Nat.beq r 2 then some PW else bif Nat.beq r 3 then some PX else none) else
  bif Nat.beq f 201 then (bif Nat.beq r 5 then some PY else bif Nat.beq r 8 then some PZ else none) else
  bif Nat.beq f 202 then (bif Nat.beq r 4 then some P1 else bif Nat.beq r 6 then some P2 else none) else
  bif Nat.beq f 203 then (bif Nat.beq r 10 then some Lt else none) else
  bif Nat.beq f 204 then (bif Nat.beq r 10 then some Lu else none) else
  bif Nat.beq f 206 then (bif Nat.beq r 3 then some P3 else none) else
  bif Nat.beq f 207 then (bif Nat.beq r 5 then some P4 else bif Nat.beq r 11 then some Lv else bif Nat.beq r 16 then some Lw else bif Nat.beq r 17 then some Lx else bif Nat.beq r 22 then some Ly else bif Nat.beq r 23 then some Lz else none) else
  bif Nat.beq f 208 then (bif Nat.beq r 1 then some P5 else bif Nat.beq r 3 then some P6 else bif Nat.beq r 5 then some P7 else bif Nat.beq r 8 then some P8 else none) else
  bif Nat.beq f 209 then (bif Nat.beq r 1 then some P9 else bif Nat.beq r 3 then some Qa else bif Nat.beq r 5 then some Qb else bif Nat.beq r 8 then some Qd else bif Nat.beq r 10 then some LA else bif Nat.beq r 13 then some LB else bif Nat.beq r 15 then some LC else bif Nat.beq r 18 then some LD else bif Nat.beq r 21 then some LF else none) else
  bif Nat.beq f 210 then (bif Nat.beq r 17 then some LG else none) else
  bif Nat.beq f 213 then (bif Nat.beq r 7 then some Qe else bif Nat.beq r 8 then some Qf else bif Nat.beq r 9 then some Qg else bif Nat.beq r 10 then some LH else bif Nat.beq r 17 then some LI else bif Nat.beq r 18 then some LJ else bif Nat.beq r 23 then some LL else none) else
  bif Nat.beq f 223 then (bif Nat.beq r 1 then some Qh else none) else
  bif Nat.beq f 224 then (bif Nat.beq r 3 then some Qi else bif Nat.beq r 5 then some Qj else bif Nat.beq r 6 then some Qk else none) else
  bif Nat.beq f 227 then (bif Nat.beq r 4 then some Ql else bif Nat.beq r 6 then some Qm else none) else
  bif Nat.beq f 228 then (bif Nat.beq r 10 then some LM else none) else
  bif Nat.beq f 229 then (bif Nat.beq r 10 then some LN else none) else
  bif Nat.beq f 231 then (bif Nat.beq r 3 then some Qn else none) else
  bif Nat.beq f 232 then (bif Nat.beq r 5 then some Qo else bif Nat.beq r 11 then some LO else bif Nat.beq r 16 then some LP else bif Nat.beq r 17 then some LQ else bif Nat.beq r 22 then some LR else bif Nat.beq r 23 then some LS else none) else
  bif Nat.beq f 233 then (bif Nat.beq r 1 then some Qp else bif Nat.beq r 3 then some Qq else bif Nat.beq r 5 then some Qr else bif Nat.beq r 8 then some Qs else none) else
  bif Nat.beq f 234 then (bif Nat.beq r 1 then some Qt else bif Nat.beq r 3 then some Qu else bif Nat.beq r 5 then some Qv else bif Nat.beq r 8 then some Qw else bif Nat.beq r 10 then some LU else bif Nat.beq r 13 then some LV else bif Nat.beq r 15 then some LW else bif Nat.beq r 18 then some LX else bif Nat.beq r 21 then some LY else none) else
  bif Nat.beq f 245 then (bif Nat.beq r 1 then some Qx else none) else
  bif Nat.beq f 246 then (bif Nat.beq r 3 then some Qy else bif Nat.beq r 5 then some Qz else bif Nat.beq r 6 then some QA else none) else
  bif Nat.beq f 253 then (bif Nat.beq r 1 then some QB else none) else none
def okF (f:Nat):Bool:=Nat.blt f 279&&!(([4,7,9,10,11,12,21,22,23,25,41,47,65,66,72,74,76,88,89,102,104,105,134,174]:List Nat).any (Nat.beq f))
theorem LZ:(List.range 279).all (fun f=>!okF f || match Tryz.prog.funcs[f]? with
  | some fn=>match fn.body with
    | some c=>bL (dtF f) c
    | none=>true
  | none=>true)=true:=by kernel_rfl
theorem QC (f:FuncId) (fn:Func) (c:Code) (h:okF f=true) (hf:Tryz.prog.funcs[f]?=some fn) (hb:fn.body=some c):bL (dtF f) c=true:=by
  have cu:f < 279:=by
    have:Nat.blt f 279=true:=by
      rw [okF,Bool.and_eq_true] at h
      exact h.1
    exact Nat.le_of_ble_eq_true this
  have h1:=List.all_eq_true.1 LZ f (List.mem_range.2 cu)
  rw [h,hf] at h1
  simp only [hb] at h1
  simpa using h1
noncomputable def ZN:IL:={ toEnv:=env,dt:=dtF,okF:=okF,Tk:=QC }
end Go.Proofs.YtldcljfjjoidhaaGreatDoor
