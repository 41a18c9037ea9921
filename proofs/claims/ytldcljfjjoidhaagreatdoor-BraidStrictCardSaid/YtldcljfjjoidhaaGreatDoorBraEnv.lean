/- The abstract machine's surroundings for this program: its types as a table (printed by a program of ours,checked by the kernel). -/
import Derived.Test.YtldcljfjjoidhaaGreatDoorProg
import Derived.Test.YtldcljfjjoidhaaGreatDoorAmKK
import Derived.KernelRfl
set_option linter.all false
open List renaming range→aab
open Nat renaming beq→aaa
namespace Go.Proofs.YtldcljfjjoidhaaGreatDoor
open Go Go.Am
set_option maxRecDepth 100000
def zR (n:Nat) (x:AV):Option AV:=some (.agg (List.replicate n x))
def sK:Nat→Nat→Tz
  |0,_=>.nil
  |n+1,i=>.cons i 1 false .int (sK n (i+1))
def tB (t k : Nat) (a b : Option TI) : Option TI := bif Nat.ble t k then a else b
def tI (k : TK) (n : Nat) (a : Bool) (z : Option AV) (e : EK) : Option TI := some ⟨k, n, a, z, e⟩
def tiT (t : Nat) : Option TI :=
 tB t 154 (tB t 76 (tB t 37 (tB t 18 (tB t 8 (tB t 3 (tB t 1 (tB t 0 (tI (.sc) 1 false (some (.bk [])) (.no))
 (tI (.sc) 1 false (some (.cG)) (.no)))
 (tB t 2 (tI (.int .i64) 1 false (some (.int .i64 0)) (.int))
 (tI (.int .i64) 1 false (some (.int .i64 0)) (.int))))
 (tB t 5 (tB t 4 (tI (.sc) 1 false (some (.bool false)) (.bool))
 (tI (.int .u8) 1 false (some (.int .u8 0)) (.int)))
 (tB t 6 (tI (.int .u8) 1 false (some (.int .u8 0)) (.int))
 (tB t 7 (tI (.st [(0,1,false),(1,1,false),(2,1,false),(3,1,false)]) 4 true (some (.agg [.int .i64 0,.int .i64 0,.bool false,.int .u8 0])) ((.st (.cons 0 1 false .int (.cons 1 1 false .int (.cons 2 1 false .bool (.cons 3 1 false .int .nil)))))))
 (tI (.st [(0,1,false),(1,1,false),(2,1,false),(3,1,false)]) 4 true (some (.agg [.int .i64 0,.int .i64 0,.bool false,.int .u8 0])) ((.st (.cons 0 1 false .int (.cons 1 1 false .int (.cons 2 1 false .bool (.cons 3 1 false .int .nil)))))))))))
 (tB t 13 (tB t 10 (tB t 9 (tI (.str) 1 false (some (.str [])) (.str))
 (tI (.str) 1 false (some (.str [])) (.str)))
 (tB t 11 (tI (.str) 1 false (some (.str [])) (.str))
 (tB t 12 (tI (.int .u64) 1 false (some (.int .u64 0)) (.int))
 (none))))
 (tB t 15 (tB t 14 (none)
 (tI (.sc) 1 false (some (.fm)) (.no)))
 (tB t 16 (tI (.sc) 1 false (some (.fm)) (.no))
 (tB t 17 (tI (.sc) 1 false (some (.fm)) (.no))
 (none))))))
 (tB t 27 (tB t 22 (tB t 20 (tB t 19 (none)
 (tI (.sc) 1 false (some (.oI)) (.no)))
 (tB t 21 (tI (.int .i32) 1 false (some (.int .i32 0)) (.int))
 (tI (.sl 106 3 true 24 (some (.agg [.int .i64 0,.int .i64 0,.int .i64 0]))) 1 false (some (.list .nil 0 [])) (.no))))
 (tB t 24 (tB t 23 (none)
 (tI (.sc) 1 false (some (.cG)) (.no)))
 (tB t 25 (tI (.sl 104 3 true 24 (some (.agg [.int .i64 0,.int .i64 0,.int .i64 0]))) 1 false (some (.list .nil 0 [])) (.no))
 (tB t 26 (tI (.int .i64) 1 false (some (.int .i64 0)) (.int))
 (tI (.sc) 1 false (some (.bk [.list .nil 0 [],.int .i64 0])) (.no))))))
 (tB t 32 (tB t 29 (none)
 (tB t 30 (tI (.sl 44 2 true 16 (some (.agg [.int .i64 0,.int .i64 0]))) 1 false (some (.list .nil 0 [])) (.no))
 (tB t 31 (tI (.sc) 1 false (some (.bk [.list .nil 0 [],.int .i64 0])) (.no))
 (tI (.sc) 1 false (some (.cG)) (.no)))))
 (tB t 34 (tB t 33 (tI (.sc) 1 false (some (.bk [.int .i64 0,.int .i64 0])) (.no))
 (none))
 (tB t 35 (none)
 (tB t 36 (tI (.sl 108 3 true 24 (some (.agg [.int .i64 0,.int .i64 0,.int .i64 0]))) 1 false (some (.list .nil 0 [])) (.no))
 (none)))))))
 (tB t 56 (tB t 46 (tB t 41 (none)
 (tB t 43 (tB t 42 (none)
 (tI (.sl 88 5 true 32 (some (.agg [.int .i64 0,.int .i64 0,.bool false,.bool false,.int .i64 0]))) 1 false (some (.list .nil 0 [])) (.no)))
 (tB t 44 (tI (.arr 2 1 false) 2 true (some (.agg [.int .i64 0,.int .i64 0])) ((.st (sK 2 0))))
 (tB t 45 (tI (.sc) 1 false (some (.cG)) (.no))
 (none)))))
 (tB t 51 (tB t 48 (tB t 47 (tI (.st [(0,1,false),(1,1,false),(2,1,false),(3,1,false)]) 4 true (zR 4 (.int .i64 0)) ((.st (sK 4 0))))
 (tI (.sc) 1 false (none) (.no)))
 (tB t 49 (tI (.sc) 1 false (some (.cG)) (.no))
 (tB t 50 (tI (.sl 90 5 true 32 (some (.agg [.int .i64 0,.int .i64 0,.bool false,.bool false,.int .i64 0]))) 1 false (some (.list .nil 0 [])) (.no))
 (tI (.sc) 1 false (some (.cG)) (.no)))))
 (tB t 53 (tB t 52 (tI (.sc) 1 false (some (.bk [.str [],.int .i64 0])) (.no))
 (tI (.sc) 1 false (some (.cG)) (.no)))
 (tB t 54 (tI (.sc) 1 false (some (.bk [.list .nil 0 [],.int .i64 0,.int .i64 0])) (.no))
 (tB t 55 (tI (.sc) 1 false (some (.cG)) (.no))
 (tI (.sc) 1 false (some (.cG)) (.no)))))))
 (tB t 66 (tB t 61 (tB t 58 (tB t 57 (tI (.sc) 1 false (some (.cG)) (.no))
 (tI (.sc) 1 false (some (.cG)) (.no)))
 (tB t 59 (tI (.sl 3 1 false 8 (some (.int .i64 0))) 1 false (some (.list .nil 0 [])) (.no))
 (none)))
 (tB t 63 (tB t 62 (none)
 (tI (.sc) 1 false (some (.bk [.list .nil 0 [],.int .i64 0,.int .i64 0])) (.no)))
 (tB t 64 (tI (.sc) 1 false (some (.cG)) (.no))
 (tB t 65 (tI (.sc) 1 false (some (.cG)) (.no))
 (none)))))
 (tB t 71 (tB t 68 (tB t 67 (none)
 (tI (.sc) 1 false (some (.bk [.list .nil 0 [],.int .i64 0])) (.no)))
 (tB t 69 (none)
 (tB t 70 (tI (.sc) 1 false (some (.bk [.list .nil 0 [],.int .i64 0])) (.no))
 (none))))
 (tB t 73 (tB t 72 (tI (.sl 86 2 true 16 (some (.agg [.int .i64 0,.int .i64 0]))) 1 false (some (.list .nil 0 [])) (.no))
 (tI (.sc) 1 false (some (.cG)) (.no)))
 (tB t 74 (none)
 (tB t 75 (tI (.sc) 1 false (some (.bk [.list .nil 0 [],.int .i64 0])) (.no))
 (none))))))))
 (tB t 115 (tB t 95 (tB t 85 (none)
 (tB t 90 (tB t 87 (tB t 86 (tI (.st [(0,1,false),(1,1,false)]) 2 true (some (.agg [.int .i64 0,.int .i64 0])) ((.st (sK 2 0))))
 (none))
 (tB t 88 (tI (.st [(0,2,true),(2,1,false),(3,1,false),(4,1,false)]) 5 true (some (.agg [.int .i64 0,.int .i64 0,.bool false,.bool false,.int .i64 0])) ((.st (.cons 0 2 true (.st (sK 2 0)) (.cons 2 1 false .bool (.cons 3 1 false .bool (.cons 4 1 false .int .nil)))))))
 (tB t 89 (none)
 (tI (.st [(0,2,true),(2,1,false),(3,1,false),(4,1,false)]) 5 true (some (.agg [.int .i64 0,.int .i64 0,.bool false,.bool false,.int .i64 0])) ((.st (.cons 0 2 true (.st (sK 2 0)) (.cons 2 1 false .bool (.cons 3 1 false .bool (.cons 4 1 false .int .nil))))))))))
 (none)))
 (tB t 105 (tB t 100 (tB t 97 (tB t 96 (none)
 (tI (.sc) 1 false (some (.bk [.list .nil 0 [],.int .i64 0])) (.no)))
 (tB t 98 (tI (.sc) 1 false (some (.cG)) (.no))
 (tB t 99 (tI (.sc) 1 false (some (.cG)) (.no))
 (tI (.sc) 1 false (some (.bk [.list .nil 0 [],.int .i64 0])) (.no)))))
 (tB t 102 (tB t 101 (tI (.sc) 1 false (some (.cG)) (.no))
 (tI (.sc) 1 false (some (.cG)) (.no)))
 (tB t 103 (tI (.st [(0,1,false),(1,1,false),(2,1,false)]) 3 true (some (.agg [.int .i64 0,.int .i64 0,.int .i64 0])) ((.st (sK 3 0))))
 (tB t 104 (tI (.st [(0,1,false),(1,1,false),(2,1,false)]) 3 true (some (.agg [.int .i64 0,.int .i64 0,.int .i64 0])) ((.st (sK 3 0))))
 (tI (.st [(0,1,false),(1,1,false),(2,1,false)]) 3 true (some (.agg [.int .i64 0,.int .i64 0,.int .i64 0])) ((.st (sK 3 0))))))))
 (tB t 110 (tB t 107 (tB t 106 (tI (.st [(0,1,false),(1,1,false),(2,1,false)]) 3 true (some (.agg [.int .i64 0,.int .i64 0,.int .i64 0])) ((.st (sK 3 0))))
 (tI (.sc) 1 false (some (.cG)) (.no)))
 (tB t 108 (tI (.st [(0,1,false),(1,1,false),(2,1,false)]) 3 true (some (.agg [.int .i64 0,.int .i64 0,.int .i64 0])) ((.st (sK 3 0))))
 (tB t 109 (tI (.sc) 1 false (some (.cG)) (.no))
 (tI (.sc) 1 false (some (.cG)) (.no)))))
 (tB t 112 (tB t 111 (tI (.sc) 1 false (some (.cG)) (.no))
 (tI (.sc) 1 false (some (.cG)) (.no)))
 (tB t 113 (tI (.sc) 1 false (some (.cG)) (.no))
 (tB t 114 (tI (.sc) 1 false (some (.cG)) (.no))
 (tI (.sc) 1 false (some (.cG)) (.no))))))))
 (tB t 134 (tB t 124 (tB t 119 (tB t 117 (tB t 116 (tI (.sc) 1 false (some (.cG)) (.no))
 (tI (.sc) 1 false (some (.cG)) (.no)))
 (tB t 118 (tI (.sc) 1 false (some (.cG)) (.no))
 (tI (.int .i8) 1 false (some (.int .i8 0)) (.int))))
 (tB t 121 (tB t 120 (tI (.arr 3 1 false) 3 true (some (.agg [.int .i8 0,.int .i8 0,.int .i8 0])) ((.st (sK 3 0))))
 (tI (.sc) 1 false (some (.bk [.list .nil 0 [],.bool false])) (.no)))
 (tB t 122 (tI (.sc) 1 false (some (.cG)) (.no))
 (none))))
 (tB t 129 (tB t 126 (none)
 (tB t 127 (none)
 (tB t 128 (tI (.sc) 1 false (some (.cG)) (.no))
 (none))))
 (tB t 131 (tB t 130 (tI (.sl 22 1 false 24 (some (.list .nil 0 []))) 1 false (some (.list .nil 0 [])) (.no))
 (tI (.sc) 1 false (some (.bk [.list .nil 0 [],.int .i64 0])) (.no)))
 (tB t 132 (none)
 (tB t 133 (tI (.arr 5 1 false) 5 true (zR 5 (.int .i64 0)) ((.st (sK 5 0))))
 (tI (.sc) 1 false (none) (.no)))))))
 (tB t 144 (tB t 139 (none)
 (tB t 141 (none)
 (tB t 142 (none)
 (tB t 143 (tI (.sc) 1 false (some (.fm)) (.no))
 (tI (.sl 5 1 false 1 (some (.int .u8 0))) 1 false (some (.list .nil 0 [])) (.no))))))
 (tB t 149 (tB t 146 (tB t 145 (none)
 (tI (.st [(0,1,false),(1,1,false)]) 2 true (some (.agg [.fm,.list .nil 0 []])) ((.st (.cons 0 1 false .no (.cons 1 1 false .no .nil))))))
 (tB t 147 (none)
 (tB t 148 (tI (.sc) 1 false (some (.oI)) (.no))
 (tI (.sc) 1 false (some (.bk [.int .i64 0,.oI])) (.no)))))
 (tB t 151 (none)
 (tB t 152 (none)
 (tB t 153 (none)
 (tI (.map 106 4 (some (.bool false))) 1 false (some (.kv)) (.no))))))))))
 (tB t 232 (tB t 193 (tB t 173 (tB t 163 (tB t 158 (tB t 156 (tB t 155 (tI (.st [(0,1,false),(1,1,false),(2,5,true)]) 7 true (some (.agg [.kv,.int .i64 0,.int .i64 0,.int .i64 0,.bool false,.bool false,.int .i64 0])) ((.st (.cons 0 1 false .no (.cons 1 1 false .int (.cons 2 5 true (.st (.cons 0 2 true (.st (sK 2 0)) (.cons 2 1 false .bool (.cons 3 1 false .bool (.cons 4 1 false .int .nil))))) .nil))))))
 (tI (.st [(0,1,false),(1,1,false),(2,5,true)]) 7 true (some (.agg [.kv,.int .i64 0,.int .i64 0,.int .i64 0,.bool false,.bool false,.int .i64 0])) ((.st (.cons 0 1 false .no (.cons 1 1 false .int (.cons 2 5 true (.st (.cons 0 2 true (.st (sK 2 0)) (.cons 2 1 false .bool (.cons 3 1 false .bool (.cons 4 1 false .int .nil))))) .nil)))))))
 (tB t 157 (tI (.sc) 1 false (some (.bk [.str [],.str [],.bool false])) (.no))
 (none)))
 (tB t 160 (tB t 159 (tI (.sc) 1 false (some (.cG)) (.no))
 (none))
 (tB t 161 (none)
 (tB t 162 (none)
 (tI (.sl 9 1 false 16 (some (.str []))) 1 false (some (.list .nil 0 [])) (.no))))))
 (tB t 168 (tB t 165 (none)
 (tB t 166 (none)
 (tB t 167 (tI (.arr 2 2 true) 4 true (zR 4 (.int .i64 0)) ((.st (.cons 0 2 true (.st (sK 2 0)) (.cons 2 2 true (.st (sK 2 0)) .nil)))))
 (none))))
 (tB t 170 (tB t 169 (tI (.map 86 4 (some (.bool false))) 1 false (some (.kv)) (.no))
 (none))
 (tB t 171 (none)
 (tB t 172 (tI (.sc) 1 false (some (.cG)) (.no))
 (none))))))
 (tB t 183 (tB t 178 (tB t 175 (none)
 (tB t 176 (tI (.sc) 1 false (some (.cG)) (.no))
 (tB t 177 (tI (.sl 179 10 true 64 (some (.agg [.int .i64 0,.int .i64 0,.bool false,.bool false,.int .i64 0,.int .i64 0,.int .i64 0,.bool false,.bool false,.int .i64 0]))) 1 false (some (.list .nil 0 [])) (.no))
 (none))))
 (tB t 180 (tB t 179 (tI (.arr 2 5 true) 10 true (some (.agg [.int .i64 0,.int .i64 0,.bool false,.bool false,.int .i64 0,.int .i64 0,.int .i64 0,.bool false,.bool false,.int .i64 0])) ((.st (.cons 0 5 true (.st (.cons 0 2 true (.st (sK 2 0)) (.cons 2 1 false .bool (.cons 3 1 false .bool (.cons 4 1 false .int .nil))))) (.cons 5 5 true (.st (.cons 0 2 true (.st (sK 2 0)) (.cons 2 1 false .bool (.cons 3 1 false .bool (.cons 4 1 false .int .nil))))) .nil)))))
 (tI (.sc) 1 false (some (.cG)) (.no)))
 (none)))
 (tB t 188 (tB t 185 (tB t 184 (tI (.sc) 1 false (some (.cG)) (.no))
 (none))
 (tB t 186 (tI (.sc) 1 false (some (.cG)) (.no))
 (tB t 187 (tI (.sl 26 1 false 8 (some (.int .i64 0))) 1 false (some (.list .nil 0 [])) (.no))
 (tI (.sc) 1 false (some (.cG)) (.no)))))
 (tB t 190 (tB t 189 (tI (.sc) 1 false (some (.cG)) (.no))
 (tI (.sc) 1 false (some (.cG)) (.no)))
 (tB t 191 (tI (.sc) 1 false (some (.cG)) (.no))
 (tB t 192 (tI (.int .u64) 1 false (some (.int .u64 0)) (.int))
 (tI (.map 86 3 (some (.int .i64 0))) 1 false (some (.kv)) (.no))))))))
 (tB t 212 (tB t 202 (tB t 197 (none)
 (tB t 199 (tB t 198 (none)
 (tI (.sc) 1 false (some (.fm)) (.no)))
 (tB t 200 (tI (.sc) 1 false (some (.fm)) (.no))
 (tB t 201 (none)
 (tI (.sl 205 1 true 8 (some (.agg [.cG]))) 1 false (some (.list .nil 0 [])) (.no))))))
 (tB t 207 (tB t 204 (none)
 (tB t 205 (tI (.st [(0,1,false)]) 1 true (some (.agg [.cG])) ((.st (.cons 0 1 false .no .nil))))
 (tB t 206 (tI (.sc) 1 false (some (.fm)) (.no))
 (none))))
 (tB t 209 (tB t 208 (tI (.sc) 1 false (some (.cG)) (.no))
 (tI (.sc) 1 false (some (.cG)) (.no)))
 (tB t 210 (none)
 (tB t 211 (none)
 (tI (.sc) 1 false (some (.bk [.int .i64 0,.bool false])) (.no)))))))
 (tB t 222 (none)
 (tB t 227 (tB t 224 (tB t 223 (tI (.int .i64) 1 false (some (.int .i64 0)) (.int))
 (tI (.sc) 1 false (some (.bk [.int .i64 0,.int .i64 0])) (.no)))
 (none))
 (tB t 229 (none)
 (tB t 230 (tI (.int .u32) 1 false (some (.int .u32 0)) (.int))
 (tB t 231 (none)
 (tI (.int .u64) 1 false (some (.int .u64 0)) (.int)))))))))
 (tB t 271 (tB t 251 (tB t 241 (tB t 236 (tB t 234 (tB t 233 (tI (.arr 4 3 true) 12 true (zR 12 (.int .i64 0)) ((.st (.cons 0 3 true (.st (sK 3 0)) (.cons 3 3 true (.st (sK 3 0)) (.cons 6 3 true (.st (sK 3 0)) (.cons 9 3 true (.st (sK 3 0)) .nil)))))))
 (none))
 (none))
 (tB t 238 (tB t 237 (tI (.sc) 1 false (some (.cG)) (.no))
 (none))
 (tB t 239 (tI (.sc) 1 false (some (.cG)) (.no))
 (tB t 240 (tI (.sc) 1 false (some (.fm)) (.no))
 (none)))))
 (tB t 246 (tB t 243 (none)
 (tB t 244 (none)
 (tB t 245 (none)
 (tI (.sc) 1 false (some (.fm)) (.no)))))
 (tB t 248 (tB t 247 (none)
 (tI (.sc) 1 false (some (.fm)) (.no)))
 (tB t 249 (tI (.sc) 1 false (some (.cG)) (.no))
 (tB t 250 (none)
 (tI (.int .u64) 1 false (some (.int .u64 0)) (.int)))))))
 (tB t 261 (tB t 256 (tB t 253 (none)
 (tB t 254 (none)
 (tB t 255 (none)
 (tI (.sc) 1 false (some (.cG)) (.no)))))
 (tB t 258 (tB t 257 (tI (.sc) 1 false (some (.cG)) (.no))
 (none))
 (none)))
 (tB t 266 (tB t 263 (tB t 262 (none)
 (tI (.arr 24 1 false) 24 true (zR 24 (.int .u8 0)) ((.st (sK 24 0)))))
 (tB t 264 (none)
 (tB t 265 (tI (.sc) 1 false (some (.bk [.list .nil 0 [],.str []])) (.no))
 (none))))
 (tB t 268 (none)
 (tB t 269 (none)
 (tB t 270 (tI (.sc) 1 false (some (.bk [.str [],.bool false])) (.no))
 (none)))))))
 (tB t 290 (tB t 280 (tB t 275 (tB t 273 (tB t 272 (tI (.sc) 1 false (some (.fm)) (.no))
 (tI (.sc) 1 false (some (.bk [.int .i64 0,.int .i64 0])) (.no)))
 (none))
 (none))
 (tB t 285 (tB t 282 (tB t 281 (none)
 (tI (.arr 20 1 false) 20 true (zR 20 (.int .u64 0)) ((.st (sK 20 0)))))
 (tB t 283 (tI (.arr 65 1 false) 65 true (zR 65 (.int .u8 0)) ((.st (sK 65 0))))
 (tB t 284 (tI (.sc) 1 false (some (.bk [.int .u32 0,.int .u32 0])) (.no))
 (none))))
 (tB t 287 (tB t 286 (tI (.sc) 1 false (some (.bk [.int .i32 0,.int .i64 0])) (.no))
 (none))
 (none))))
 (tB t 300 (tB t 295 (tB t 292 (none)
 (tB t 293 (tI (.arr 32 1 false) 32 true (zR 32 (.int .u8 0)) ((.st (sK 32 0))))
 (tB t 294 (tI (.arr 64 1 false) 64 true (zR 64 (.int .u8 0)) ((.st (sK 64 0))))
 (tI (.arr 256 1 false) 256 true (zR 256 (.int .u8 0)) ((.st (sK 256 0)))))))
 (tB t 297 (tB t 296 (none)
 (tI (.st [(0,1,false),(1,1,false)]) 2 true (some (.agg [.int .u8 0,.int .u8 0])) ((.st (sK 2 0)))))
 (tB t 298 (tI (.arr 16 2 true) 32 true (zR 32 (.int .u8 0)) ((.st (.cons 0 2 true (.st (sK 2 0)) (.cons 2 2 true (.st (sK 2 0)) (.cons 4 2 true (.st (sK 2 0)) (.cons 6 2 true (.st (sK 2 0)) (.cons 8 2 true (.st (sK 2 0)) (.cons 10 2 true (.st (sK 2 0)) (.cons 12 2 true (.st (sK 2 0)) (.cons 14 2 true (.st (sK 2 0)) (.cons 16 2 true (.st (sK 2 0)) (.cons 18 2 true (.st (sK 2 0)) (.cons 20 2 true (.st (sK 2 0)) (.cons 22 2 true (.st (sK 2 0)) (.cons 24 2 true (.st (sK 2 0)) (.cons 26 2 true (.st (sK 2 0)) (.cons 28 2 true (.st (sK 2 0)) (.cons 30 2 true (.st (sK 2 0)) .nil)))))))))))))))))))
 (none))))
 (none)))))
def ZI (t:Nat):Option TI:=bif Nat.ble 311 t then none else tiT t
theorem PV:(aab 311).map (fun t=>match ZI t with | none=>none | some _=>IL Tryz.prog t)=(aab 311).map ZI:=by kernel_rfl
theorem IM (t:TypeId) (i:TI) (h:ZI t=some i):IL Tryz.prog t=some i:=by
  by_cases ht:t < 311
  · have h1:=congrArg (fun l=>l[t]?) PV
    simp only [List.getElem?_map,List.getElem?_range ht,Option.map_some,Option.some.injEq] at h1
    rw [h] at h1
    exact h1
  · have hb:Nat.ble 311 t=true:=Nat.ble_eq_true_of_le (Nat.not_lt.1 ht)
    rw [ZI,hb] at h
    cases h
def ZJ:List ((Nat × Nat) × List (Option Nat × Nat × Nat)):=[((15,10),[(none,1,3)]),((106,3),[(none,3,106)]),((138,3),[(none,2,86)])]
def Ua:List ((Nat × Nat) × List (Option Nat × Nat × Nat))→Nat→Nat→List (Option Nat × Nat × Nat)
  |[],_,_=>[]
  |((a,b),x) :: l,f,t=>bif aaa a f&&aaa b t then x else Ua l f t
def adI (f t:Nat):List (Option Nat × Nat × Nat):=Ua ZJ f t
def adJ (f t:Nat):Bool:=
  (aaa f 1000000&&aaa t 1000000) ||
  (aaa f 29&&(aaa t 5)) ||
  (aaa f 30&&(aaa t 5 || aaa t 11)) ||
  (aaa f 42&&(aaa t 131072)) ||
  (aaa f 48&&(aaa t 3)) ||
  (aaa f 55&&(aaa t 65545)) ||
  (aaa f 57&&(aaa t 8 || aaa t 9 || aaa t 196647)) ||
  (aaa f 69&&(aaa t 196638 || aaa t 262206)) ||
  (aaa f 91&&(aaa t 131072)) ||
  (aaa f 100&&(aaa t 2 || aaa t 4)) ||
  (aaa f 115&&(aaa t 1)) ||
  (aaa f 122&&(aaa t 131072)) ||
  (aaa f 130&&(aaa t 196634 || aaa t 262211)) ||
  (aaa f 134&&(aaa t 65545)) ||
  (aaa f 138&&(aaa t 6 || aaa t 262160)) ||
  (aaa f 143&&(aaa t 1 || aaa t 18)) ||
  (aaa f 145&&(aaa t 1)) ||
  (aaa f 150&&(aaa t 2)) ||
  (aaa f 163&&(aaa t 7)) ||
  (aaa f 164&&(aaa t 9)) ||
  (aaa f 178&&(aaa t 262148 || aaa t 393220)) ||
  (aaa f 181&&(aaa t 5)) ||
  (aaa f 204&&(aaa t 9)) ||
  (aaa f 205&&(aaa t 11)) ||
  (aaa f 214&&(aaa t 12)) ||
  (aaa f 229&&(aaa t 9)) ||
  (aaa f 230&&(aaa t 11))
def Ub:cO:=[]
theorem PW:Ub.all (fun p=>aB p.2)=true:=by kernel_rfl
def ZK (g:Nat):Option (List AV):=dy Ub g
noncomputable def env:Env:={ P:=Tryz.prog,ti:=ZI,ck:=ZK,BQ:=adJ,Pc:=fun _=>none,gho:=adI,IM:=IM,mixed:=by kernel_rfl,oS:=fun _ _ h=>Ph PW h }
def aL (l:List Nat):List (List Nat):=l.map fun m=>(aab (m.log2+1)).filter m.testBit
def bC (a:Nat):Nat→DT→DT
 | 0,t=>t
 | n+1,t=>Cf (a+1) fun b=>.take a [] (bC b n t)
def bw (i:Nat) (t:DT):DT:=.br i [] [] t .stop
def PX:af:=⟨aL [0,0,0,4,12,0,32,96,0,256,992,2046,4094,8191,16383],aL [0,0,0,4,8,0,32,64,0,256,640,1042,2048,0,8193],(bC 0 13 (bw 13 (.take 14 [] .done)))⟩
def VP:af:=⟨aL [0,0,0,6,14,30,0,0,128,448,960,1984,4094,0,0,24576,57344,122880,0,0,524288,1835008,3932160,8126464,16769024,33554430,67108862,134217727,268435455],aL [0,0,0,6,8,16,0,0,128,320,512,1024,2080,0,0,24576,32768,65536,0,0,524288,1310720,2097152,4194304,8519680,16781312,33554432,0,134217729],(bC 0 27 (bw 27 (.take 28 [] .done)))⟩
def VQ:af:=⟨aL [0,1,3,7,15,31,0,64,192,463,1023,2047,0,4096,13263,32767,65535,0,131072,422863,1048575,2097151,0,4194304,13530063,33554431,67108863,134217727],aL [0,1,2,0,8,16,0,64,128,0,544,1024,0,4096,0,18432,32768,0,131072,0,589824,1048576,0,4194304,0,18874368,33554432,0],(bC 0 3 (bC 6 2 (.take 8 [8] (.take 12 [8] (.take 13 [13,8] (.take 17 [13,8] (.take 18 [18,13,8] (.take 22 [18,13,8] (.take 23 [23,18,13,8] (.br 3 [23,18,13,8] [23,18,13] (.take 4 [23,18,13] (.take 5 [23,18,13] (.br 9 [23,18,13] [23,18] (.take 10 [23,18] (.take 11 [23,18] (.br 14 [23,18] [23] (.take 15 [23] (.take 16 [23] (.br 19 [23] [] (bC 20 2 (bw 24 (bC 25 2 (bw 27 .done)))) .stop))) .stop))) .stop))) .stop))))))))))⟩
def VR:af:=⟨aL [0,0,3,0,0,24,56,127,255],aL [0,0,3,0,0,24,32,0,128],(bC 0 7 (bw 7 (.take 8 [] .done)))⟩
def VS:af:=⟨aL [0,0,3,7,0,0,48,112,255],aL [0,0,3,4,0,0,48,64,136],(bC 0 9 .done)⟩
def VT:af:=⟨aL [0,0,2,7,15,31,31,127,255,511,31,1055,4095,8191,16383,16383,65535,131071,262143,16383,540671,2097151,4194303,8388607,8388607,33554431,67108863,134217727,8388607,276824063,1073741823,2147483647,4294967295,8589934591],aL [0,0,2,5,8,16,16,112,144,272,16,1040,2576,4112,8192,8192,57344,73728,139264,8192,532480,1318912,2105344,4194304,4194304,29360128,37748736,71303168,4194304,272629760,675282944,1077944320,2147491856,4294967312],(bC 0 34 .done)⟩
def VU:af:=⟨aL [0,0,2,7,15,31,31,127,255,31,1023,2047],aL [0,0,2,5,8,16,16,112,144,16,784,1040],(bC 0 12 .done)⟩
def PY:af:=⟨aL [0,0,0,6,15,0,32,127,0,0,768,2047,4095],aL [0,0,0,6,0,0,32,0,0,0,768,0,2306],(bC 0 4 (.take 5 [5] (.take 6 [5] (.take 8 [5] (.take 9 [5] (.take 10 [5] (.br 4 [5] [] (bw 7 (bw 11 (.take 12 [] .done))) .stop)))))))⟩
def PZ:af:=⟨aL [0,1,0,4,12,28,63,127,255,255,1023,2047,4095],aL [0,1,0,4,8,16,34,64,128,128,896,1152,2176],(bC 0 13 .done)⟩
def VV:af:=⟨aL [0,0,3,7,0,0,48,112,255],aL [0,0,3,4,0,0,48,64,136],(bC 0 9 .done)⟩
def VW:af:=⟨aL [0,0,3,7,0,0,48,112,255],aL [0,0,3,4,0,0,48,64,136],(bC 0 9 .done)⟩
def VX:af:=⟨aL [0,0,3,7,0,0,48,112,255],aL [0,0,3,4,0,0,48,64,136],(bC 0 9 .done)⟩
def VY:af:=⟨aL [0,1,3,0,8,31,63,127,255],aL [0,1,0,0,8,0,36,0,128],(bC 0 2 (.take 3 [] (.take 4 [4] (.br 2 [4] [] (bw 5 (.take 6 [] (bw 7 (.take 8 [] .done)))) .stop))))⟩
def VZ:af:=⟨aL [0,1,0,4,0,19,63],aL [0,1,0,4,0,0,8],(.take 0 [0] (.take 1 [1,0] (.take 2 [2,1,0] (.take 3 [3,2,1,0] (.br 4 [3,2,1,0] [3] (.br 5 [3] [] (.take 6 [] .done) .stop) .stop)))))⟩
def P0:af:=⟨aL [0,0,0,0,0,0,56,0,0,0,1016,2040,3,8191,16383],aL [0,0,0,0,0,0,0,0,0,0,0,1088,3,4100,0],(.take 0 [0] (.take 1 [0] (.take 2 [0] (.take 3 [0] (.take 4 [0] (.take 5 [0] (.take 7 [0] (.take 8 [0] (.take 9 [0] (.take 12 [0] (.br 6 [0] [0] (.br 10 [0] [] (.take 11 [] (.take 13 [] (bw 14 .done))) .stop) .stop)))))))))))⟩
def P1:af:=⟨aL [0,1,3,7,0,16,48,112,255],aL [0,1,2,4,0,16,32,64,136],(bC 0 9 .done)⟩
def V0:af:=⟨aL [0,1,0,4,15,31,31,95,223,511,1023,31,4095,8191,16383,32767,65535,131071,262143],aL [0,0,0,4,8,16,16,80,144,304,528,16,0,4112,8208,0,32770,0,131072],(.take 0 [] (bC 2 2 (bw 1 (bC 4 8 (bw 12 (bC 13 2 (bw 15 (.take 16 [] (bw 17 (.take 18 [] .done))))))))))⟩
def V1:af:=⟨aL [0,1,3,7,7,23,63,127,255,7,519,2047,4095],aL [0,1,2,4,4,20,44,68,0,4,516,1284,2052],(bC 0 8 (.take 9 [] (.take 10 [10] (.br 8 [10] [] (bC 11 2 .done) .stop))))⟩
def V2:af:=⟨aL [0,1,3,7,15,0,32,96,224,480,1023,2047],aL [0,1,2,4,0,0,32,64,128,256,0,1024],(bC 0 4 (bC 5 3 (.take 8 [8] (.take 9 [9,8] (.br 4 [9,8] [] (bw 10 (.take 11 [] .done)) .stop)))))⟩
def V3:af:=⟨aL [0,1,0,0,12,28,63,127],aL [0,1,0,0,12,16,0,64],(bC 0 6 (bw 6 (.take 7 [] .done)))⟩
def P2:af:=⟨aL [0,1,3,7,15,31,0,127,255,511,1023],aL [0,1,2,4,8,0,0,0,160,0,512],(bC 0 5 (.take 6 [6] (.br 5 [6] [] (bw 7 (.take 8 [] (bw 9 (.take 10 [] .done)))) .stop)))⟩
def P3:af:=⟨aL [0,1,3,7,15,31,63,127,63,319,831,1855,4095,8191,16383],aL [0,1,2,4,8,16,32,0,32,288,544,1056,0,4256,8224],(bC 0 7 (.take 8 [8] (.take 9 [8] (.take 10 [8] (.take 11 [11,8] (.br 7 [11,8] [] (bw 12 (bC 13 2 .done)) .stop))))))⟩
def P4:af:=⟨aL [0,1,3,7,0,31],aL [0,1,2,4,0,24],(bC 0 6 .done)⟩
def LZ:af:=⟨aL [0,1,3,7,15,0,32,127,255],aL [0,1,2,4,8,0,32,80,128],(bC 0 9 .done)⟩
def L0:af:=⟨aL [0,1,3,7,0,31],aL [0,1,2,4,0,0],(bC 0 5 (bw 5 .done))⟩
def L4:af:=⟨aL [0,0,0,4,12,28,60,0,125,381,893,2047,4095,8191],aL [0,0,0,4,8,16,32,0,1,256,0,2,2048,0],(.take 0 [] (.take 1 [1] (.take 2 [1] (.take 3 [1] (.take 4 [1] (.take 5 [1] (.take 6 [1] (.take 7 [7,1] (.take 8 [7,1] (.take 9 [7,1] (.br 10 [7,1] [] (bC 11 2 (bw 13 .done)) .stop)))))))))))⟩
def P5:af:=⟨aL [0,1,3,7,15,31,63,127,255,511,255,255,2303,6399,15615,31999,65535,131071,262143],aL [0,1,2,4,12,20,36,64,128,0,128,128,2176,4224,9344,16512,0,66176,131200],(bC 0 9 (bC 10 2 (.take 12 [12] (.take 13 [12] (.take 14 [12] (.take 15 [15,12] (.br 9 [15,12] [] (bw 16 (bC 17 2 .done)) .stop)))))))⟩
def P6:af:=⟨aL [0,1,0,7,15,31],aL [0,0,0,0,2,8],(.take 0 [] (.take 2 [2] (.br 1 [2] [] (bw 3 (bC 4 2 .done)) .stop)))⟩
def L6:af:=⟨aL [0,0,3,7,0,0,48,112,255],aL [0,0,3,4,0,0,48,64,136],(bC 0 9 .done)⟩
def P7:af:=⟨aL [0,1,0,7,15,31],aL [0,0,0,0,10,0],(.take 0 [] (.take 2 [2] (.br 1 [2] [] (bw 3 (.take 4 [] (bw 5 .done))) .stop)))⟩
def P8:af:=⟨aL [0,0,0,4,14,30,0,0,192,448,1022,2046,4095,8191],aL [0,0,0,4,10,16,0,0,192,256,0,1024,0,4097],(bC 0 10 (bw 10 (.take 11 [] (bw 12 (.take 13 [] .done)))))⟩
def P9:af:=⟨aL [0,1,3,0,8,31,63,127,255],aL [0,1,0,0,8,0,36,0,128],(bC 0 2 (.take 3 [] (.take 4 [4] (.br 2 [4] [] (bw 5 (.take 6 [] (bw 7 (.take 8 [] .done)))) .stop))))⟩
def Qa:af:=⟨aL [0,1,3,0,0,16,48,120,255,0,512,1536,0,4096,0,16384,49264,127088,261744,524287,1048575],aL [0,1,2,0,0,16,0,72,132,0,512,1024,0,4096,0,16384,0,73728,133120,262400,0],(bC 0 2 (.take 2 [2] (.take 3 [2] (.take 4 [2] (.take 5 [2] (.take 9 [2] (.take 10 [2] (.take 11 [11,2] (.take 12 [11,2] (.take 13 [11,2] (.take 14 [11,2] (.take 15 [15,11,2] (.br 6 [15,11,2] [11,2] (.take 7 [11,2] (.take 8 [11,2] (.br 16 [11,2] [] (bC 17 3 (bw 20 .done)) .stop))) .stop)))))))))))))⟩
def Qb:af:=⟨aL [0,0,2,7,0,0,32,127,0,0,1023,2047],aL [0,0,2,0,0,0,32,0,0,0,0,0],(.al 8 [1,3,7,8,9,11,12,13] (.al 9 [1,3,7,8,9,11,12,13] (bC 0 3 (bC 4 2 (.take 6 [6] (.br 3 [6] [] (bw 7 (bw 10 (bw 11 .done))) .stop))))))⟩
def Qd:af:=⟨aL [0,0,0,3,15,31,63,0,0,256,0,896,3968,8064,16256,32767],aL [0,0,0,3,12,16,0,0,0,256,0,640,3072,4096,8192,16448],(bC 0 6 (.take 7 [7] (.take 8 [7] (.take 9 [7] (.take 10 [7] (.take 11 [7] (.take 12 [7] (.take 13 [7] (.take 14 [14,7] (.br 6 [14,7] [] (.take 15 [] .done) .stop))))))))))⟩
def Qe:af:=⟨aL [0,1,0,4,12,0,32,0,128,384,896,2016,0,4096,16383,32767],aL [0,0,0,4,8,0,32,0,128,256,512,1088,0,4096,10258,0],(.take 0 [] (.take 2 [] (.take 3 [3] (.take 4 [3] (.take 5 [3] (.take 6 [6,3] (.take 7 [6,3] (.take 8 [8,6,3] (.take 9 [8,6,3] (.take 10 [8,6,3] (.take 11 [8,6,3] (.take 12 [8,6,3] (.take 13 [13,8,6,3] (.br 1 [13,8,6,3] [] (.take 14 [] (bw 15 .done)) .stop))))))))))))))⟩
def Qf:af:=⟨aL [0,1,0,4,15,31,0,64,192,511,1023,2047,4095,8191,16383,32767,65535,131071],aL [0,1,0,4,10,0,0,64,128,256,512,1536,2560,4608,0,16416,0,65536],(bC 0 5 (.take 6 [] (.take 7 [7] (.take 8 [7] (.br 5 [7] [] (bC 9 5 (bw 14 (.take 15 [] (bw 16 (.take 17 [] .done))))) .stop)))))⟩
def Qg:af:=⟨aL [0,1,0,4,15,0,32,0,128,511,0,1024,0,4096,16383,32767,65535,131071],aL [0,1,0,4,0,0,32,0,128,0,0,1024,0,4096,0,16912,0,65536],(bC 0 4 (.take 5 [] (.take 6 [6] (.take 7 [6] (.take 8 [8,6] (.take 10 [8,6] (.take 11 [11,8,6] (.take 12 [11,8,6] (.take 13 [13,11,8,6] (.br 4 [13,11,8,6] [13,11] (.br 9 [13,11] [] (bw 14 (.take 15 [] (bw 16 (.take 17 [] .done)))) .stop) .stop))))))))))⟩
def L7:af:=⟨aL [0,1,3,7,7,23,63,127,7,7,775,1799,4095,8191,16383],aL [0,1,2,4,4,20,44,68,4,4,772,1028,0,4100,8196],(bC 0 12 (bw 12 (bC 13 2 .done)))⟩
def Qh:af:=⟨aL [0,0,3,7,3,19,63],aL [0,0,3,4,0,16,0],(bC 0 2 (.take 2 [2] (.take 3 [2] (.br 4 [2] [] (.take 5 [] (bw 6 .done)) .stop))))⟩
def Qi:af:=⟨aL [0,0,3,0,0,0,32,112,248,7,1023,2047],aL [0,0,3,0,0,0,32,80,136,4,256,0],(bC 0 12 .done)⟩
def Qj:af:=⟨aL [0,1,3,0,8,24,63,127],aL [0,1,2,0,0,16,36,64],(bC 0 2 (.take 2 [2] (.take 3 [2] (.br 4 [2] [] (bC 5 3 .done) .stop))))⟩
def Qk:af:=⟨aL [0,1,0,4,0,16,60,124,252,511,1023,2047,4095],aL [0,0,0,4,0,16,40,64,128,0,514,0,2048],(.take 0 [] (.take 2 [] (.take 3 [3] (.take 4 [3] (.take 5 [5,3] (.take 6 [5,3] (.take 7 [5,3] (.take 8 [5,3] (.br 1 [5,3] [] (bw 9 (.take 10 [] (bw 11 (.take 12 [] .done)))) .stop)))))))))⟩
def Ql:af:=⟨aL [0,1,3,0,8,31,63,127,255],aL [0,1,0,0,8,0,36,0,128],(bC 0 2 (.take 3 [] (.take 4 [4] (.br 2 [4] [] (bw 5 (.take 6 [] (bw 7 (.take 8 [] .done)))) .stop))))⟩
def Qm:af:=⟨aL [0,0,3,7,15,15,63,127,15,15,527,1807,3855,8191,16383],aL [0,0,3,4,8,8,56,72,8,8,520,1288,2056,0,8200],(bC 0 13 (bw 13 (.take 14 [] .done)))⟩
def Qn:af:=⟨aL [0,0,0,0,8,0,0,64,224,480,0,0,3072,7168,16355,32739,65535,131071],aL [0,0,0,0,8,0,0,64,160,256,0,0,3072,4096,3,0,20,0],(bC 0 15 (bw 15 (.take 16 [] (bw 17 .done))))⟩
def L8:af:=⟨aL [0,0,0,0,0,24,0,0,0,384,960,1984,0,0,12288,28672,65475,131011,262143,524287],aL [0,0,0,0,0,24,0,0,0,384,576,1024,0,0,12288,16384,3,0,36,0],(bC 0 17 (bw 17 (.take 18 [] (bw 19 .done))))⟩
def Ma:af:=⟨aL [0,0,0,0,0,24,0,0,0,384,960,1984,0,0,12288,28672,65475,131011,262143,524287],aL [0,0,0,0,0,24,0,0,0,384,576,1024,0,0,12288,16384,3,0,36,0],(bC 0 17 (bw 17 (.take 18 [] (bw 19 .done))))⟩
def Qo:af:=⟨aL [0,0,0,0,0,0,48,112,0,0,768,1792,4083,8179,16383,32767],aL [0,0,0,0,0,0,48,64,0,0,768,1024,3,0,12,0],(bC 0 13 (bw 13 (.take 14 [] (bw 15 .done))))⟩
def Qp:af:=⟨aL [0,0,3,7,15,15,63,127,15,15,527,1807,3855,8191,16383,32767],aL [0,0,3,4,8,8,56,72,8,8,520,1288,2056,0,8200,16392],(bC 0 13 (bw 13 (bC 14 2 .done)))⟩
def Mb:af:=⟨aL [0,0,0,0,8,0,0,64,224,480,0,0,3072,7168,16355,32739,65535,131071],aL [0,0,0,0,8,0,0,64,160,256,0,0,3072,4096,3,0,20,0],(bC 0 15 (bw 15 (.take 16 [] (bw 17 .done))))⟩
def Mc:af:=⟨aL [0,0,3,7,0,0,32,112,240,511,1023],aL [0,0,3,4,0,0,32,80,128,0,512],(bC 0 9 (bw 9 (.take 10 [] .done)))⟩
def Md:af:=⟨aL [0,0,0,0,8,0,0,64,224,480,0,0,3072,7168,16355,32739,65535,131071],aL [0,0,0,0,8,0,0,64,160,256,0,0,3072,4096,3,0,20,0],(bC 0 15 (bw 15 (.take 16 [] (bw 17 .done))))⟩
def Me:af:=⟨aL [0,0,3,7,0,0,32,112,240,511,1023],aL [0,0,3,4,0,0,32,80,128,0,512],(bC 0 9 (bw 9 (.take 10 [] .done)))⟩
def Mf:af:=⟨aL [0,0,0,0,8,0,0,64,224,480,0,0,3072,7168,16355,32739,65535,131071],aL [0,0,0,0,8,0,0,64,160,256,0,0,3072,4096,3,0,20,0],(bC 0 15 (bw 15 (.take 16 [] (bw 17 .done))))⟩
def Qq:af:=⟨aL [0,0,0,0,0,0,48,112,0,0,768,1792,4083,8179,16383,32767],aL [0,0,0,0,0,0,48,64,0,0,768,1024,3,0,12,0],(bC 0 13 (bw 13 (.take 14 [] (bw 15 .done))))⟩
def Qr:af:=⟨aL [0,0,3,7,15,15,63,127,15,15,783,1807,4095,8191,16383],aL [0,0,3,4,8,8,56,72,8,8,776,1032,0,4104,8200],(bC 0 12 (bw 12 (bC 13 2 .done)))⟩
def Qs:af:=⟨aL [0,0,3,7,15,15,63,127,15,15,783,1807,4095,8191],aL [0,0,3,4,8,8,56,72,8,8,776,1032,0,4104],(bC 0 12 (bw 12 (.take 13 [] .done)))⟩
def Qt:af:=⟨aL [0,0,0,0,0,0,48,112,0,0,768,1792,4083,8179,16383,32767],aL [0,0,0,0,0,0,48,64,0,0,768,1024,3,0,12,0],(bC 0 13 (bw 13 (.take 14 [] (bw 15 .done))))⟩
def Qu:af:=⟨aL [0,0,0,0,0,0,48,112,0,0,768,1792,4083,8179,16383,32767],aL [0,0,0,0,0,0,48,64,0,0,768,1024,3,0,12,0],(bC 0 13 (bw 13 (.take 14 [] (bw 15 .done))))⟩
def Qv:af:=⟨aL [0,0,3,7,15,15,63,127,15,15,783,1807,4095,8191],aL [0,0,3,4,8,8,56,72,8,8,776,1032,0,4104],(bC 0 12 (bw 12 (.take 13 [] .done)))⟩
def Qw:af:=⟨aL [0,0,3,7,15,15,63,127,15,15,783,1807,4095,8191,16383],aL [0,0,3,4,8,8,56,72,8,8,776,1032,0,4104,8200],(bC 0 12 (bw 12 (bC 13 2 .done)))⟩
def Qx:af:=⟨aL [0,0,0,0,0,0,48,112,0,0,768,1792,4083,8179,16383,32767],aL [0,0,0,0,0,0,48,64,0,0,768,1024,3,0,12,0],(bC 0 13 (bw 13 (.take 14 [] (bw 15 .done))))⟩
def Mg:af:=⟨aL [0,0,0,0,0,0,48,112,0,0,768,1792,4083,8179,16383,32767],aL [0,0,0,0,0,0,48,64,0,0,768,1024,3,0,12,0],(bC 0 13 (bw 13 (.take 14 [] (bw 15 .done))))⟩
def Mh:af:=⟨aL [0,0,3,7,15,15,63,127,15,15,783,1807,4095,8191],aL [0,0,3,4,8,8,56,72,8,8,776,1032,0,4104],(bC 0 12 (bw 12 (.take 13 [] .done)))⟩
def Mi:af:=⟨aL [0,0,3,7,15,15,63,127,15,15,783,1807,4095,8191,16383],aL [0,0,3,4,8,8,56,72,8,8,776,1032,0,4104,8200],(bC 0 12 (bw 12 (bC 13 2 .done)))⟩
def Mj:af:=⟨aL [0,0,0,0,0,0,48,112,0,0,768,1792,4083,8179,16383,32767],aL [0,0,0,0,0,0,48,64,0,0,768,1024,3,0,12,0],(bC 0 13 (bw 13 (.take 14 [] (bw 15 .done))))⟩
def Mk:af:=⟨aL [0,0,0,0,0,0,48,112,0,0,768,1792,4083,8179,16383,32767],aL [0,0,0,0,0,0,48,64,0,0,768,1024,3,0,12,0],(bC 0 13 (bw 13 (.take 14 [] (bw 15 .done))))⟩
def Ml:af:=⟨aL [0,1,3,7,7,7,39,119,247,7,7,1543,3591,8191,16383,32767,65535],aL [0,1,2,4,4,4,36,84,132,4,4,1540,2052,0,8196,16388,32772],(bC 0 13 (bw 13 (bC 14 3 .done)))⟩
def Qy:af:=⟨aL [0,1,0,4,15,0,32,0,128,511,1023,2047,4095],aL [0,1,0,4,0,0,32,0,128,0,528,0,2048],(bC 0 4 (.take 5 [] (.take 6 [6] (.take 7 [6] (.take 8 [8,6] (.br 4 [8,6] [] (bw 9 (.take 10 [] (bw 11 (.take 12 [] .done)))) .stop))))))⟩
def Qz:af:=⟨aL [0,0,0,6,14,0,0,64,224,480,1023],aL [0,0,0,6,8,0,0,64,160,256,0],(bC 0 10 (bw 10 .done))⟩
def Mm:af:=⟨aL [0,0,0,6,14,0,0,64,224,480,1023,2047],aL [0,0,0,6,8,0,0,64,160,256,0,1024],(bC 0 10 (bw 10 (.take 11 [] .done)))⟩
def QA:af:=⟨aL [0,0,3,0,0,16,63,0,0,511,1023],aL [0,0,0,0,0,16,0,0,0,0,0],(.al 7 [1,3,11,12,14,15,16] (.al 8 [1,3,11,12,14,15,16] (bC 0 2 (.take 3 [3] (.take 4 [3] (.take 5 [3] (.br 2 [3] [] (bw 6 (bw 9 (bw 10 .done))) .stop)))))))⟩
def QB:af:=⟨aL [0,1,0,7,15,31,31,31,223,511,1023,31,31,31,12319,28703,63519,129055,262143,524287],aL [0,1,0,6,8,16,16,16,208,304,528,16,16,16,12304,16400,34832,65552,0,262160],(bC 0 18 (bw 18 (.take 19 [] .done)))⟩
def QC:af:=⟨aL [0,0,0,6,15,31,0,0,0,384,960,1984,4095,8191],aL [0,0,0,6,9,16,0,0,0,384,576,1024,0,4096],(bC 0 12 (bw 12 (.take 13 [] .done)))⟩
def QD:af:=⟨aL [0,0,0,6,0,0,0,96,0,0,0,1536,3840,7936,0,0,0,98304,245760,507904,1048335,2096911,4194303,8388607],aL [0,0,0,6,0,0,0,96,0,0,0,1536,2304,4096,0,0,0,98304,147456,262144,9,0,144,0],(bC 0 21 (bw 21 (.take 22 [] (bw 23 .done))))⟩
def QE:af:=⟨aL [0,1,3,0,8,24,56,127,255,511],aL [0,1,2,0,8,16,32,68,1,0],(bC 0 9 (bw 9 .done))⟩
def QF:af:=⟨aL [0,1,3,0,8,24,56,127,255,511],aL [0,1,2,0,8,16,32,68,1,0],(bC 0 9 (bw 9 .done))⟩
def QG:af:=⟨aL [0,1,3,0,8,24,56,127,255,511],aL [0,1,2,0,8,16,32,68,1,0],(bC 0 9 (bw 9 .done))⟩
def QH:af:=⟨aL [0,0,0,6,14,0,63,127],aL [0,0,0,6,8,0,0,64],(bC 0 6 (bw 6 (.take 7 [] .done)))⟩
def QI:af:=⟨aL [0,0,0,6,14,30,30,30,222,478,30,2046,4094,8190,4095,32767],aL [0,0,0,6,8,16,16,16,208,272,16,0,2064,4112,1,8192],(bC 0 11 (bw 11 (bC 12 4 .done)))⟩
def QJ:af:=⟨aL [0,0,3,7,15,15,15,111,239,15,15,1039,3599,7695,16383,32767,65535],aL [0,0,3,4,8,8,8,104,136,8,8,1032,2568,4104,0,16392,32776],(bC 0 14 (bw 14 (bC 15 2 .done)))⟩
def QK:af:=⟨aL [0,0,0,0,8,0,0,64,224,480,0,0,3072,7168,16355,32739,65535,131071],aL [0,0,0,0,8,0,0,64,160,256,0,0,3072,4096,3,0,20,0],(bC 0 15 (bw 15 (.take 16 [] (bw 17 .done))))⟩
def Mn:af:=⟨aL [0,0,0,0,0,24,0,0,0,384,960,1984,0,0,12288,28672,65475,131011,262143,524287],aL [0,0,0,0,0,24,0,0,0,384,576,1024,0,0,12288,16384,3,0,36,0],(bC 0 17 (bw 17 (.take 18 [] (bw 19 .done))))⟩
def Mo:af:=⟨aL [0,0,0,0,0,24,0,0,0,384,960,1984,0,0,12288,28672,65475,131011,262143,524287],aL [0,0,0,0,0,24,0,0,0,384,576,1024,0,0,12288,16384,3,0,36,0],(bC 0 17 (bw 17 (.take 18 [] (bw 19 .done))))⟩
def QL:af:=⟨aL [0,0,0,0,0,0,48,112,0,0,768,1792,4083,8179,16383,32767],aL [0,0,0,0,0,0,48,64,0,0,768,1024,3,0,12,0],(bC 0 13 (bw 13 (.take 14 [] (bw 15 .done))))⟩
def QM:af:=⟨aL [0,0,3,7,15,15,15,111,239,15,15,1039,3599,7695,16383,32767,65535,131071],aL [0,0,3,4,8,8,8,104,136,8,8,1032,2568,4104,0,16392,32776,65544],(bC 0 14 (bw 14 (bC 15 3 .done)))⟩
def Mp:af:=⟨aL [0,0,0,0,8,0,0,64,224,480,0,0,3072,7168,16355,32739,65535,131071],aL [0,0,0,0,8,0,0,64,160,256,0,0,3072,4096,3,0,20,0],(bC 0 15 (bw 15 (.take 16 [] (bw 17 .done))))⟩
def Mq:af:=⟨aL [0,0,0,6,14,0,0,64,224,480,1023,2047,4095],aL [0,0,0,6,8,0,0,64,160,256,0,1024,2048],(bC 0 10 (bw 10 (bC 11 2 .done)))⟩
def Mr:af:=⟨aL [0,0,0,0,8,0,0,64,224,480,0,0,3072,7168,16355,32739,65535,131071],aL [0,0,0,0,8,0,0,64,160,256,0,0,3072,4096,3,0,20,0],(bC 0 15 (bw 15 (.take 16 [] (bw 17 .done))))⟩
def Ms:af:=⟨aL [0,0,0,6,14,0,0,64,224,480,1023,2047,4095],aL [0,0,0,6,8,0,0,64,160,256,0,1024,2048],(bC 0 10 (bw 10 (bC 11 2 .done)))⟩
def Mt:af:=⟨aL [0,0,0,0,8,0,0,64,224,480,0,0,3072,7168,16355,32739,65535,131071],aL [0,0,0,0,8,0,0,64,160,256,0,0,3072,4096,3,0,20,0],(bC 0 15 (bw 15 (.take 16 [] (bw 17 .done))))⟩
def QN:af:=⟨aL [0,0,0,0,0,0,48,112,0,0,768,1792,4083,8179,16383,32767],aL [0,0,0,0,0,0,48,64,0,0,768,1024,3,0,12,0],(bC 0 13 (bw 13 (.take 14 [] (bw 15 .done))))⟩
def QO:af:=⟨aL [0,0,3,7,15,15,15,111,239,15,15,1551,3599,8191,16383,32767,65535],aL [0,0,3,4,8,8,8,104,136,8,8,1544,2056,0,8200,16392,32776],(bC 0 13 (bw 13 (bC 14 3 .done)))⟩
def QP:af:=⟨aL [0,0,3,7,15,15,15,111,239,15,15,1551,3599,8191,16383,32767],aL [0,0,3,4,8,8,8,104,136,8,8,1544,2056,0,8200,16392],(bC 0 13 (bw 13 (bC 14 2 .done)))⟩
def QQ:af:=⟨aL [0,0,0,0,0,0,48,112,0,0,768,1792,4083,8179,16383,32767],aL [0,0,0,0,0,0,48,64,0,0,768,1024,3,0,12,0],(bC 0 13 (bw 13 (.take 14 [] (bw 15 .done))))⟩
def QR:af:=⟨aL [0,0,0,0,0,0,48,112,0,0,768,1792,4083,8179,16383,32767],aL [0,0,0,0,0,0,48,64,0,0,768,1024,3,0,12,0],(bC 0 13 (bw 13 (.take 14 [] (bw 15 .done))))⟩
def QS:af:=⟨aL [0,0,3,7,15,15,15,111,239,15,15,1551,3599,8191,16383,32767],aL [0,0,3,4,8,8,8,104,136,8,8,1544,2056,0,8200,16392],(bC 0 13 (bw 13 (bC 14 2 .done)))⟩
def QT:af:=⟨aL [0,0,3,7,15,15,15,111,239,15,15,1551,3599,8191,16383,32767,65535],aL [0,0,3,4,8,8,8,104,136,8,8,1544,2056,0,8200,16392,32776],(bC 0 13 (bw 13 (bC 14 3 .done)))⟩
def QU:af:=⟨aL [0,0,0,0,0,0,48,112,0,0,768,1792,4083,8179,16383,32767],aL [0,0,0,0,0,0,48,64,0,0,768,1024,3,0,12,0],(bC 0 13 (bw 13 (.take 14 [] (bw 15 .done))))⟩
def Mu:af:=⟨aL [0,0,0,0,0,0,48,112,0,0,768,1792,4083,8179,16383,32767],aL [0,0,0,0,0,0,48,64,0,0,768,1024,3,0,12,0],(bC 0 13 (bw 13 (.take 14 [] (bw 15 .done))))⟩
def Mw:af:=⟨aL [0,0,3,7,15,15,15,111,239,15,15,1551,3599,8191,16383,32767],aL [0,0,3,4,8,8,8,104,136,8,8,1544,2056,0,8200,16392],(bC 0 13 (bw 13 (bC 14 2 .done)))⟩
def My:af:=⟨aL [0,0,3,7,15,15,15,111,239,15,15,1551,3599,8191,16383,32767,65535],aL [0,0,3,4,8,8,8,104,136,8,8,1544,2056,0,8200,16392,32776],(bC 0 13 (bw 13 (bC 14 3 .done)))⟩
def Mz:af:=⟨aL [0,0,0,0,0,0,48,112,0,0,768,1792,4083,8179,16383,32767],aL [0,0,0,0,0,0,48,64,0,0,768,1024,3,0,12,0],(bC 0 13 (bw 13 (.take 14 [] (bw 15 .done))))⟩
def MA:af:=⟨aL [0,0,0,0,0,0,48,112,0,0,768,1792,4083,8179,16383,32767],aL [0,0,0,0,0,0,48,64,0,0,768,1024,3,0,12,0],(bC 0 13 (bw 13 (.take 14 [] (bw 15 .done))))⟩
def MB:af:=⟨aL [0,1,3,7,7,7,39,119,247,7,7,1543,3591,8191,16383,32767,65535],aL [0,1,2,4,4,4,36,84,132,4,4,1540,2052,0,8196,16388,32772],(bC 0 13 (bw 13 (bC 14 3 .done)))⟩
def QV:af:=⟨aL [0,0,2,0,0,16,0,64,192,0,512,455,2503,8191,16383],aL [0,0,2,0,0,16,0,64,128,0,512,5,0,40,0],(bC 0 12 (bw 12 (.take 13 [] (bw 14 .done))))⟩
def QW:af:=⟨aL [0,0,2,0,0,16,0,64,192,0,512,455,2503,8191,16383],aL [0,0,2,0,0,16,0,64,128,0,512,5,0,40,0],(bC 0 12 (bw 12 (.take 13 [] (bw 14 .done))))⟩
def QX:af:=⟨aL [0,0,2,0,0,16,0,64,192,0,512,455,2503,8191,16383],aL [0,0,2,0,0,16,0,64,128,0,512,5,0,40,0],(bC 0 12 (bw 12 (.take 13 [] (bw 14 .done))))⟩
def MC:af:=⟨aL [0,0,2,0,0,16,0,64,192,0,512,455,2503,8191,16383],aL [0,0,2,0,0,16,0,64,128,0,512,5,0,40,0],(bC 0 12 (bw 12 (.take 13 [] (bw 14 .done))))⟩
def MD:af:=⟨aL [0,0,2,0,0,16,0,64,192,0,512,455,2503,8191,16383],aL [0,0,2,0,0,16,0,64,128,0,512,5,0,40,0],(bC 0 12 (bw 12 (.take 13 [] (bw 14 .done))))⟩
def ME:af:=⟨aL [0,0,2,0,0,16,0,64,192,0,512,455,2503,8191,16383],aL [0,0,2,0,0,16,0,64,128,0,512,5,0,40,0],(bC 0 12 (bw 12 (.take 13 [] (bw 14 .done))))⟩
def MF:af:=⟨aL [0,0,2,0,0,16,0,64,192,0,512,455,2503,8191,16383],aL [0,0,2,0,0,16,0,64,128,0,512,5,0,40,0],(bC 0 12 (bw 12 (.take 13 [] (bw 14 .done))))⟩
def QY:af:=⟨aL [0,0,3,7,0,0,48,112,255],aL [0,0,3,4,0,0,48,64,0],(bC 0 8 (bw 8 .done))⟩
def QZ:af:=⟨aL [0,1,0,7,15,31,31,31,31,415,991,2015,31,31,31,24607,57375,127007,258079,524287,1048575,2097151],aL [0,1,0,6,8,16,16,16,16,400,592,1040,16,16,16,24592,32784,69648,131088,0,524304,1048592],(bC 0 19 (bw 19 (bC 20 2 .done)))⟩
def Q0:af:=⟨aL [0,0,0,0,12,30,62,0,0,0,768,1920,3968,8191,16383,32767],aL [0,0,0,0,12,18,32,0,0,0,768,1152,2048,0,8192,16384],(bC 0 13 (bw 13 (bC 14 2 .done)))⟩
def Q1:af:=⟨aL [0,0,0,6,0,0,0,96,0,0,0,1536,3840,7936,0,0,0,98304,245760,507904,1048335,2096911,4194303,8388607],aL [0,0,0,6,0,0,0,96,0,0,0,1536,2304,4096,0,0,0,98304,147456,262144,9,0,144,0],(bC 0 21 (bw 21 (.take 22 [] (bw 23 .done))))⟩
def Q2:af:=⟨aL [0,0,3,7,15,15,15,111,239,15,15,1039,3599,7695,16383,32767,65535],aL [0,0,3,4,8,8,8,104,136,8,8,1032,2568,4104,0,16392,32776],(bC 0 14 (bw 14 (bC 15 2 .done)))⟩
def Q3:af:=⟨aL [0,0,0,0,8,0,0,64,224,480,0,0,3072,7168,16355,32739,65535,131071],aL [0,0,0,0,8,0,0,64,160,256,0,0,3072,4096,3,0,20,0],(bC 0 15 (bw 15 (.take 16 [] (bw 17 .done))))⟩
def MG:af:=⟨aL [0,0,0,0,0,24,0,0,0,384,960,1984,0,0,12288,28672,65475,131011,262143,524287],aL [0,0,0,0,0,24,0,0,0,384,576,1024,0,0,12288,16384,3,0,36,0],(bC 0 17 (bw 17 (.take 18 [] (bw 19 .done))))⟩
def MH:af:=⟨aL [0,0,0,0,0,24,0,0,0,384,960,1984,0,0,12288,28672,65475,131011,262143,524287],aL [0,0,0,0,0,24,0,0,0,384,576,1024,0,0,12288,16384,3,0,36,0],(bC 0 17 (bw 17 (.take 18 [] (bw 19 .done))))⟩
def Q4:af:=⟨aL [0,0,0,0,0,0,48,112,0,0,768,1792,4083,8179,16383,32767],aL [0,0,0,0,0,0,48,64,0,0,768,1024,3,0,12,0],(bC 0 13 (bw 13 (.take 14 [] (bw 15 .done))))⟩
def Q5:af:=⟨aL [0,0,3,7,15,15,15,111,239,15,15,1039,3599,7695,16383,32767,65535,131071],aL [0,0,3,4,8,8,8,104,136,8,8,1032,2568,4104,0,16392,32776,65544],(bC 0 14 (bw 14 (bC 15 3 .done)))⟩
def MI:af:=⟨aL [0,0,0,0,8,0,0,64,224,480,0,0,3072,7168,16355,32739,65535,131071],aL [0,0,0,0,8,0,0,64,160,256,0,0,3072,4096,3,0,20,0],(bC 0 15 (bw 15 (.take 16 [] (bw 17 .done))))⟩
def MJ:af:=⟨aL [0,0,0,6,14,0,0,64,224,480,1023,2047,4095],aL [0,0,0,6,8,0,0,64,160,256,0,1024,2048],(bC 0 10 (bw 10 (bC 11 2 .done)))⟩
def MK:af:=⟨aL [0,0,0,0,8,0,0,64,224,480,0,0,3072,7168,16355,32739,65535,131071],aL [0,0,0,0,8,0,0,64,160,256,0,0,3072,4096,3,0,20,0],(bC 0 15 (bw 15 (.take 16 [] (bw 17 .done))))⟩
def ML:af:=⟨aL [0,0,0,6,14,0,0,64,224,480,1023,2047,4095],aL [0,0,0,6,8,0,0,64,160,256,0,1024,2048],(bC 0 10 (bw 10 (bC 11 2 .done)))⟩
def MM:af:=⟨aL [0,0,0,0,8,0,0,64,224,480,0,0,3072,7168,16355,32739,65535,131071],aL [0,0,0,0,8,0,0,64,160,256,0,0,3072,4096,3,0,20,0],(bC 0 15 (bw 15 (.take 16 [] (bw 17 .done))))⟩
def Q6:af:=⟨aL [0,0,0,0,0,0,48,112,0,0,768,1792,4083,8179,16383,32767],aL [0,0,0,0,0,0,48,64,0,0,768,1024,3,0,12,0],(bC 0 13 (bw 13 (.take 14 [] (bw 15 .done))))⟩
def Q7:af:=⟨aL [0,0,3,7,15,15,15,111,239,15,15,1551,3599,8191,16383,32767,65535],aL [0,0,3,4,8,8,8,104,136,8,8,1544,2056,0,8200,16392,32776],(bC 0 13 (bw 13 (bC 14 3 .done)))⟩
def Q8:af:=⟨aL [0,0,3,7,15,15,15,111,239,15,15,1551,3599,8191,16383,32767],aL [0,0,3,4,8,8,8,104,136,8,8,1544,2056,0,8200,16392],(bC 0 13 (bw 13 (bC 14 2 .done)))⟩
def Q9:af:=⟨aL [0,0,0,0,0,0,48,112,0,0,768,1792,4083,8179,16383,32767],aL [0,0,0,0,0,0,48,64,0,0,768,1024,3,0,12,0],(bC 0 13 (bw 13 (.take 14 [] (bw 15 .done))))⟩
def Ra:af:=⟨aL [0,0,0,0,0,0,48,112,0,0,768,1792,4083,8179,16383,32767],aL [0,0,0,0,0,0,48,64,0,0,768,1024,3,0,12,0],(bC 0 13 (bw 13 (.take 14 [] (bw 15 .done))))⟩
def Rb:af:=⟨aL [0,0,3,7,15,15,15,111,239,15,15,1551,3599,8191,16383,32767],aL [0,0,3,4,8,8,8,104,136,8,8,1544,2056,0,8200,16392],(bC 0 13 (bw 13 (bC 14 2 .done)))⟩
def Rc:af:=⟨aL [0,0,3,7,15,15,15,111,239,15,15,1551,3599,8191,16383,32767,65535],aL [0,0,3,4,8,8,8,104,136,8,8,1544,2056,0,8200,16392,32776],(bC 0 13 (bw 13 (bC 14 3 .done)))⟩
def Re:af:=⟨aL [0,0,0,0,0,0,48,112,0,0,768,1792,4083,8179,16383,32767],aL [0,0,0,0,0,0,48,64,0,0,768,1024,3,0,12,0],(bC 0 13 (bw 13 (.take 14 [] (bw 15 .done))))⟩
def MN:af:=⟨aL [0,0,0,0,0,0,48,112,0,0,768,1792,4083,8179,16383,32767],aL [0,0,0,0,0,0,48,64,0,0,768,1024,3,0,12,0],(bC 0 13 (bw 13 (.take 14 [] (bw 15 .done))))⟩
def MO:af:=⟨aL [0,0,3,7,15,15,15,111,239,15,15,1551,3599,8191,16383,32767],aL [0,0,3,4,8,8,8,104,136,8,8,1544,2056,0,8200,16392],(bC 0 13 (bw 13 (bC 14 2 .done)))⟩
def MP:af:=⟨aL [0,0,3,7,15,15,15,111,239,15,15,1551,3599,8191,16383,32767,65535],aL [0,0,3,4,8,8,8,104,136,8,8,1544,2056,0,8200,16392,32776],(bC 0 13 (bw 13 (bC 14 3 .done)))⟩
def MQ:af:=⟨aL [0,0,0,0,0,0,48,112,0,0,768,1792,4083,8179,16383,32767],aL [0,0,0,0,0,0,48,64,0,0,768,1024,3,0,12,0],(bC 0 13 (bw 13 (.take 14 [] (bw 15 .done))))⟩
def MR:af:=⟨aL [0,0,0,0,0,0,48,112,0,0,768,1792,4083,8179,16383,32767],aL [0,0,0,0,0,0,48,64,0,0,768,1024,3,0,12,0],(bC 0 13 (bw 13 (.take 14 [] (bw 15 .done))))⟩
def Rf:af:=⟨aL [0,0,0,6,14,0,0,96,224,511,1023],aL [0,0,0,6,8,0,0,96,128,0,512],(bC 0 9 (bw 9 (.take 10 [] .done)))⟩
def Rg:af:=⟨aL [0,1,0,7,15,31,31,31,31,415,991,2015,31,31,31,24607,57375,127007,258079,524287,1048575,2097151],aL [0,1,0,6,8,16,16,16,16,400,592,1040,16,16,16,24592,32784,69648,131088,0,524304,1048592],(bC 0 19 (bw 19 (bC 20 2 .done)))⟩
def Rh:af:=⟨aL [0,0,0,0,12,30,62,0,0,0,768,1920,3968,8191,16383,32767],aL [0,0,0,0,12,18,32,0,0,0,768,1152,2048,0,8192,16384],(bC 0 13 (bw 13 (bC 14 2 .done)))⟩
def Ri:af:=⟨aL [0,0,0,6,0,0,0,96,0,0,0,1536,3840,7936,0,0,0,98304,245760,507904,1048335,2096911,4194303,8388607],aL [0,0,0,6,0,0,0,96,0,0,0,1536,2304,4096,0,0,0,98304,147456,262144,9,0,144,0],(bC 0 21 (bw 21 (.take 22 [] (bw 23 .done))))⟩
def Rj:af:=⟨aL [0,0,0,6,14,0,0,96,224,511,1023],aL [0,0,0,6,8,0,0,96,128,0,512],(bC 0 9 (bw 9 (.take 10 [] .done)))⟩
def dtF (f r:Nat):Option af:=
  bif aaa f 15 then (bif aaa r 23 then some PX else none) else
  bif aaa f 17 then (bif aaa r 8 then some VP else none) else
  bif aaa f 29 then (bif aaa r 8 then some VQ else none) else
  bif aaa f 31 then (bif aaa r 6 then some VR else none) else
  bif aaa f 37 then (bif aaa r 6 then some VS else none) else
  bif aaa f 41 then (bif aaa r 7 then some VT else bif aaa r 9 then some VU else bif aaa r 10 then some PY else none) else
  bif aaa f 43 then (bif aaa r 15 then some PZ else none) else
  bif aaa f 49 then (bif aaa r 6 then some VV else none) else
  bif aaa f 50 then (bif aaa r 6 then some VW else none) else
  bif aaa f 51 then (bif aaa r 6 then some VX else none) else
  bif aaa f 54 then (bif aaa r 1 then some VY else none) else
  bif aaa f 55 then (bif aaa r 2 then some VZ else none) else
  bif aaa f 57 then (bif aaa r 15 then some P0 else bif aaa r 18 then some P1 else none) else
  bif aaa f 79 then (bif aaa r 6 then some V0 else none) else
  bif aaa f 93 then (bif aaa r 5 then some V1 else none) else
  bif aaa f 97 then (bif aaa r 1 then some V2 else none) else
  bif aaa f 99 then (bif aaa r 8 then some V3 else none) else
  bif aaa f 100 then (bif aaa r 1 then some P2 else bif aaa r 4 then some P3 else bif aaa r 8 then some P4 else bif aaa r 10 then some LZ else bif aaa r 14 then some L0 else bif aaa r 15 then some L4 else none) else
  bif aaa f 101 then (bif aaa r 2 then some P5 else bif aaa r 6 then some P6 else bif aaa r 13 then some L6 else none) else
  bif aaa f 105 then (bif aaa r 1 then some P7 else none) else
  bif aaa f 107 then (bif aaa r 6 then some P8 else none) else
  bif aaa f 108 then (bif aaa r 1 then some P9 else none) else
  bif aaa f 109 then (bif aaa r 1 then some Qa else none) else
  bif aaa f 115 then (bif aaa r 2 then some Qb else none) else
  bif aaa f 116 then (bif aaa r 1 then some Qd else none) else
  bif aaa f 121 then (bif aaa r 1 then some Qe else none) else
  bif aaa f 125 then (bif aaa r 1 then some Qf else none) else
  bif aaa f 127 then (bif aaa r 1 then some Qg else none) else
  bif aaa f 128 then (bif aaa r 17 then some L7 else none) else
  bif aaa f 131 then (bif aaa r 8 then some Qh else none) else
  bif aaa f 141 then (bif aaa r 3 then some Qi else none) else
  bif aaa f 144 then (bif aaa r 1 then some Qj else none) else
  bif aaa f 151 then (bif aaa r 1 then some Qk else none) else
  bif aaa f 157 then (bif aaa r 1 then some Ql else none) else
  bif aaa f 161 then (bif aaa r 4 then some Qm else bif aaa r 6 then some Qn else none) else
  bif aaa f 162 then (bif aaa r 10 then some L8 else none) else
  bif aaa f 163 then (bif aaa r 10 then some Ma else none) else
  bif aaa f 165 then (bif aaa r 3 then some Qo else none) else
  bif aaa f 166 then (bif aaa r 5 then some Qp else bif aaa r 11 then some Mb else bif aaa r 16 then some Mc else bif aaa r 17 then some Md else bif aaa r 22 then some Me else bif aaa r 23 then some Mf else none) else
  bif aaa f 168 then (bif aaa r 1 then some Qq else bif aaa r 3 then some Qr else bif aaa r 5 then some Qs else bif aaa r 8 then some Qt else none) else
  bif aaa f 169 then (bif aaa r 1 then some Qu else bif aaa r 3 then some Qv else bif aaa r 5 then some Qw else bif aaa r 8 then some Qx else bif aaa r 10 then some Mg else bif aaa r 13 then some Mh else bif aaa r 15 then some Mi else bif aaa r 18 then some Mj else bif aaa r 21 then some Mk else none) else
  bif aaa f 175 then (bif aaa r 17 then some Ml else none) else
  bif aaa f 177 then (bif aaa r 1 then some Qy else none) else
  bif aaa f 178 then (bif aaa r 6 then some Qz else bif aaa r 11 then some Mm else none) else
  bif aaa f 192 then (bif aaa r 3 then some QA else none) else
  bif aaa f 196 then (bif aaa r 3 then some QB else bif aaa r 5 then some QC else bif aaa r 6 then some QD else none) else
  bif aaa f 198 then (bif aaa r 1 then some QE else bif aaa r 2 then some QF else bif aaa r 3 then some QG else none) else
  bif aaa f 201 then (bif aaa r 5 then some QH else bif aaa r 8 then some QI else none) else
  bif aaa f 202 then (bif aaa r 4 then some QJ else bif aaa r 6 then some QK else none) else
  bif aaa f 203 then (bif aaa r 10 then some Mn else none) else
  bif aaa f 204 then (bif aaa r 10 then some Mo else none) else
  bif aaa f 206 then (bif aaa r 3 then some QL else none) else
  bif aaa f 207 then (bif aaa r 5 then some QM else bif aaa r 11 then some Mp else bif aaa r 16 then some Mq else bif aaa r 17 then some Mr else bif aaa r 22 then some Ms else bif aaa r 23 then some Mt else none) else
  bif aaa f 208 then (bif aaa r 1 then some QN else bif aaa r 3 then some QO else bif aaa r 5 then some QP else bif aaa r 8 then some QQ else none) else
  bif aaa f 209 then (bif aaa r 1 then some QR else bif aaa r 3 then some QS else bif aaa r 5 then some QT else bif aaa r 8 then some QU else bif aaa r 10 then some Mu else bif aaa r 13 then some Mw else bif aaa r 15 then some My else bif aaa r 18 then some Mz else bif aaa r 21 then some MA else none) else
  bif aaa f 210 then (bif aaa r 17 then some MB else none) else
  bif aaa f 213 then (bif aaa r 7 then some QV else bif aaa r 8 then some QW else bif aaa r 9 then some QX else bif aaa r 10 then some MC else bif aaa r 17 then some MD else bif aaa r 18 then some ME else bif aaa r 23 then some MF else none) else
  bif aaa f 223 then (bif aaa r 1 then some QY else none) else
  bif aaa f 224 then (bif aaa r 3 then some QZ else bif aaa r 5 then some Q0 else bif aaa r 6 then some Q1 else none) else
  bif aaa f 227 then (bif aaa r 4 then some Q2 else bif aaa r 6 then some Q3 else none) else
  bif aaa f 228 then (bif aaa r 10 then some MG else none) else
  bif aaa f 229 then (bif aaa r 10 then some MH else none) else
  bif aaa f 231 then (bif aaa r 3 then some Q4 else none) else
  bif aaa f 232 then (bif aaa r 5 then some Q5 else bif aaa r 11 then some MI else bif aaa r 16 then some MJ else bif aaa r 17 then some MK else bif aaa r 22 then some ML else bif aaa r 23 then some MM else none) else
  bif aaa f 233 then (bif aaa r 1 then some Q6 else bif aaa r 3 then some Q7 else bif aaa r 5 then some Q8 else bif aaa r 8 then some Q9 else none) else
  bif aaa f 234 then (bif aaa r 1 then some Ra else bif aaa r 3 then some Rb else bif aaa r 5 then some Rc else bif aaa r 8 then some Re else bif aaa r 10 then some MN else bif aaa r 13 then some MO else bif aaa r 15 then some MP else bif aaa r 18 then some MQ else bif aaa r 21 then some MR else none) else
  bif aaa f 245 then (bif aaa r 1 then some Rf else none) else
  bif aaa f 246 then (bif aaa r 3 then some Rg else bif aaa r 5 then some Rh else bif aaa r 6 then some Ri else none) else
  bif aaa f 253 then (bif aaa r 1 then some Rj else none) else none
def okF (f:Nat):Bool:=Nat.blt f 279&&!(([4,7,9,10,11,12,13,19,21,22,23,25,46,47,59,62,65,66,72,74,76,88,89,102,104,117,118,134,174]:List Nat).any (aaa f))
theorem MS:(aab 279).all (fun f=>!okF f || match Tryz.prog.funcs[f]? with
  |some fn=>match fn.body with
    |some c=>bG (dtF f) c
    |none=>true
  |none=>true)=true:=by kernel_rfl
theorem Rk (f:FuncId) (fn:Func) (c:Code) (h:okF f=true) (hf:Tryz.prog.funcs[f]?=some fn) (hb:fn.body=some c):bG (dtF f) c=true:=by
  have bZ:f < 279:=by
    have:Nat.blt f 279=true:=by
      rw [okF,Bool.and_eq_true] at h
      exact h.1
    exact Nat.le_of_ble_eq_true this
  have h1:=List.all_eq_true.1 MS f (List.mem_range.2 bZ)
  rw [h,hf] at h1
  simp only [hb] at h1
  simpa using h1
noncomputable def ZL:Jr:={ toEnv:=env,dt:=dtF,okF:=okF,TQ:=Rk }
end Go.Proofs.YtldcljfjjoidhaaGreatDoor
