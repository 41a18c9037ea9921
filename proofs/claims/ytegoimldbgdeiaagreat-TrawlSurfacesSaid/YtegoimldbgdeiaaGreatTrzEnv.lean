/- The abstract machine's surroundings for this program: its types as a table (printed by a program of ours,checked by the kernel). -/
import Derived.Test.YtegoimldbgdeiaaGreatProg
import Derived.Test.YtegoimldbgdeiaaGreatAmKK
import Derived.KernelRfl
set_option linter.all false
open List renaming range→aag
open Nat renaming beq→aaa
namespace Go.Proofs.YtegoimldbgdeiaaGreat
open Go Go.Am
abbrev dI:aM:=(.agg (.cons (.list 2 (.agg (.cons .str (.cons (.list 2 (.agg (.ci (.ci .nil)))) .nil)))) (.cons (.list 5 (.agg (.ci (.ci (.ci (.ci (.cons .bool .nil))))))) .nil)))
abbrev av:Type:=(List (Int × Int))
abbrev a7:Type:=(List (Int × Int × Int × Int × Bool))
abbrev n8:aM:=(.agg (.cons (.list 2 (.agg (.cons .str (.cons (.list 2 (.agg (.cons (.int .i64) (.cons (.int .i64) .nil)))) .nil)))) (.cons (.list 5 (.agg (.cons (.int .i64) (.cons (.int .i64) (.cons (.int .i64) (.cons (.int .i64) (.cons .bool .nil))))))) .nil)))
abbrev aW:Type:=(List ((List UInt8) × av))
abbrev bt:aM:=(.agg (.ci (.ci .nil)))
abbrev aG:Type:=(List Int)
abbrev bQ:aM:=(.list 1 (.int .i64))
abbrev eJ:Type:=(List ((Int × Int) × Int))
abbrev fk:Type:=(List (Int × Int × Int × Int))
abbrev uW:aM:=(.agg (.ci (.ci (.ci (.ci (.cons .bool .nil))))))
abbrev gf:aM:=(.list 2 (.agg (.cons .str (.cons (.list 2 bt) .nil))))
abbrev cX:Type:=(List (Nat × Nat))
abbrev fV:aM:=(.list 2 (.agg (.cons bt (.ci .nil))))
abbrev wM:aM:=(.agg (.cons (.int .i64) (.cons (.int .i64) .nil)))
abbrev bg:Type:=(Int × Int)
abbrev bI:Type:=(List aG)
abbrev bF:aM:=(.list 2 bt)
abbrev jh:aM:=(.agg (.ci (.ci (.ci (.ci .nil)))))
abbrev Bq:Type:=(Int × Int × Int × Int × Int × Int × Int × Int × aG × (List (Int × Bool)) × eJ × Int × aG)
abbrev Gg:Type:=((Int × Int × Int × Int × Int × Int × Int × aG × (List (Int × Bool)) × eJ × Int × aG))
abbrev nq:Type:=(Int × Int × Int × Int × Bool)
abbrev qv:aM:=(.list 2 (.agg (.ci (.cons .bool .nil))))
abbrev kw:Type:=(List UInt8)
abbrev eV:Type:=(aW × a7)
abbrev fa:aM:=(.list 1 bQ)
abbrev Of:aM:=(.agg (.cons (.int .i64) (.cons (.int .i64) (.cons (.int .i64) (.cons (.int .i64) (.cons (.int .i64) (.cons (.int .i64) .nil)))))))
abbrev gj:aM:=(.list 5 uW)
abbrev JM:aM:=(.list 3 (.agg (.cons .bool (.cons (.int .i64) (.cons (.int .i64) .nil)))))
abbrev JN:Type:=((Bool × Int × aG × (List (Int × Bool)) × eJ × Int × aG))
abbrev D6:Type:=(Int × Int × Int × Int × bI × cX)
abbrev Og:Type:=(Int × eJ × Unit × aG × (List (Nat × List Int)) × Unit × aW × a7)
abbrev rU:Type:=(List (bg × Bool))
abbrev Gh:aM:=(.list 2 (.agg (.cons bt (.cons .bool .nil))))
abbrev Oh:Type:=(av × fk × av × fk × aW × a7 × av × eJ × Int × aG)
abbrev Gi:aM:=(.agg (.ci (.ci (.ci (.ci (.ci (.ci .nil)))))))
abbrev lN:Type:=(kw × av)
abbrev SJ:aM:=(.agg (.cons (.int .i64) (.cons (.int .i64) (.cons (.int .i64) (.cons (.int .i64) (.cons .bool .nil))))))
abbrev iS:Type:=(List av)
abbrev uX:Type:=(Int × kw × av)
abbrev wN:Type:=(Int ⊕ (Int ⊕ Unit))
abbrev Gj:Type:=(Int × Int × Int × Int × Int × Int)
abbrev SK:Type:=(av × fk × av × fk × av × aW × a7 × av × eJ × av × Int × aG)
abbrev JO:Type:=(aG × bI × aG × Int × bI × cX)
abbrev Gk:aM:=(.agg (.cons .str (.cons bF .nil)))
abbrev rV:Type:=(Nat × List Int)
abbrev Br:Type:=(Int × Int × Int × Int)
abbrev wO:Type:=(List (Int × Bool))
abbrev rW:aM:=(.list 2 wM)
abbrev Bs:Type:=(Int × bI × cX)
abbrev JP:Type:=(aG × aG × Int × Unit × aG)
abbrev Oi:Type:=(Int × aW × a7 × av × aW × a7)
abbrev SL:Type:=(aG × aG × aG × av × av × av × Int × aG)
abbrev yT:Type:=(bI × cX)
abbrev Oj:Type:=(aG × aG × Int × av × av)
abbrev SM:Type:=(aG × aG × av × av × Int × aG)
abbrev Ok:Type:=(Unit × Int × bI × cX)
abbrev JQ:Type:=(Unit × bI × cX)
set_option maxRecDepth 100000
def zR (n:Nat) (x:AV):Option AV:=some (.agg (List.replicate n x))
def sK:Nat→Nat→Yk
  |0,_=>.nil
  |n+1,i=>.cons i 1 false .int (sK n (i+1))
def tB (t k : Nat) (a b : Option TI) : Option TI := bif Nat.ble t k then a else b
def tI (k : TK) (n : Nat) (a : Bool) (z : Option AV) (e : EK) : Option TI := some ⟨k, n, a, z, e⟩
def tiT (t : Nat) : Option TI :=
 tB t 126 (tB t 62 (tB t 30 (tB t 14 (tB t 6 (tB t 2 (tB t 0 (tI (.sc) 1 false (some (.bW [])) (.no))
 (tB t 1 (tI (.sc) 1 false (some (.gq)) (.no))
 (tI (.int .i64) 1 false (some (.int .i64 0)) (.int))))
 (tB t 4 (tB t 3 (tI (.int .i64) 1 false (some (.int .i64 0)) (.int))
 (tI (.sc) 1 false (some (.bool false)) (.bool)))
 (tB t 5 (tI (.int .u8) 1 false (some (.int .u8 0)) (.int))
 (tI (.int .u8) 1 false (some (.int .u8 0)) (.int)))))
 (tB t 10 (tB t 8 (tB t 7 (tI (.st [(0,1,false),(1,1,false),(2,1,false),(3,1,false)]) 4 true (some (.agg [.int .i64 0,.int .i64 0,.bool false,.int .u8 0])) ((.st (.cons 0 1 false .int (.cons 1 1 false .int (.cons 2 1 false .bool (.cons 3 1 false .int .nil)))))))
 (tI (.st [(0,1,false),(1,1,false),(2,1,false),(3,1,false)]) 4 true (some (.agg [.int .i64 0,.int .i64 0,.bool false,.int .u8 0])) ((.st (.cons 0 1 false .int (.cons 1 1 false .int (.cons 2 1 false .bool (.cons 3 1 false .int .nil))))))))
 (tB t 9 (tI (.str) 1 false (some (.str [])) (.str))
 (tI (.str) 1 false (some (.str [])) (.str))))
 (tB t 12 (tB t 11 (none)
 (tI (.int .u64) 1 false (some (.int .u64 0)) (.int)))
 (none))))
 (tB t 22 (tB t 18 (tB t 16 (tB t 15 (none)
 (tI (.sc) 1 false (some (.ra)) (.no)))
 (none))
 (tB t 20 (tB t 19 (none)
 (tI (.sc) 1 false (some (.vY)) (.no)))
 (tB t 21 (tI (.int .i32) 1 false (some (.int .i32 0)) (.int))
 (tI (.sl 92 2 true 40 (some (.agg [.str [],.list .nil 0 []]))) 1 false (some (.list .nil 0 [])) (.no)))))
 (tB t 26 (tB t 24 (tB t 23 (tI (.sl 79 5 true 40 (some (.agg [.int .i64 0,.int .i64 0,.int .i64 0,.int .i64 0,.bool false]))) 1 false (some (.list .nil 0 [])) (.no))
 (tI (.st [(0,1,false),(1,1,false)]) 2 true (some (.agg [.list .nil 0 [],.list .nil 0 []])) ((.st (.cons 0 1 false .no (.cons 1 1 false .no .nil))))))
 (tB t 25 (tI (.st [(0,1,false),(1,1,false)]) 2 true (some (.agg [.list .nil 0 [],.list .nil 0 []])) ((.st (.cons 0 1 false .no (.cons 1 1 false .no .nil)))))
 (none)))
 (tB t 28 (tB t 27 (none)
 (tI (.sl 37 1 false 24 (some (.list .nil 0 []))) 1 false (some (.list .nil 0 [])) (.no)))
 (tB t 29 (tI (.int .i64) 1 false (some (.int .i64 0)) (.int))
 (tI (.sc) 1 false (some (.bW [.list .nil 0 [],.int .i64 0])) (.no)))))))
 (tB t 46 (tB t 38 (tB t 34 (tB t 32 (tB t 31 (none)
 (tI (.sl 131 2 true 40 (some (.agg [.str [],.list .nil 0 []]))) 1 false (some (.list .nil 0 [])) (.no)))
 (tB t 33 (tI (.sl 110 5 true 40 (some (.agg [.int .i64 0,.int .i64 0,.int .i64 0,.int .i64 0,.bool false]))) 1 false (some (.list .nil 0 [])) (.no))
 (none)))
 (tB t 36 (tB t 35 (tI (.st [(0,1,false),(1,1,false)]) 2 true (some (.agg [.list .nil 0 [],.list .nil 0 []])) ((.st (.cons 0 1 false .no (.cons 1 1 false .no .nil)))))
 (none))
 (tB t 37 (tI (.sl 100 2 true 16 (some (.agg [.int .i64 0,.int .i64 0]))) 1 false (some (.list .nil 0 [])) (.no))
 (tI (.sc) 1 false (some (.bW [.list .nil 0 [],.int .i64 0,.int .i64 0])) (.no)))))
 (tB t 42 (tB t 40 (tB t 39 (none)
 (tI (.sl 53 3 true 24 (some (.agg [.bool false,.int .i64 0,.int .i64 0]))) 1 false (some (.list .nil 0 [])) (.no)))
 (tB t 41 (tI (.sc) 1 false (some (.bW [.list .nil 0 [],.int .i64 0])) (.no))
 (none)))
 (tB t 44 (tB t 43 (none)
 (tI (.sl 49 1 false 24 (some (.list .nil 0 []))) 1 false (some (.list .nil 0 [])) (.no)))
 (tB t 45 (none)
 (tI (.sl 52 3 true 24 (some (.agg [.bool false,.int .i64 0,.int .i64 0]))) 1 false (some (.list .nil 0 [])) (.no))))))
 (tB t 54 (tB t 50 (tB t 48 (tB t 47 (none)
 (tI (.sc) 1 false (some (.gq)) (.no)))
 (tB t 49 (tI (.sl 77 2 true 16 (some (.agg [.int .i64 0,.int .i64 0]))) 1 false (some (.list .nil 0 [])) (.no))
 (none)))
 (tB t 52 (tB t 51 (none)
 (tI (.st [(0,1,false),(1,1,false),(2,1,false)]) 3 true (some (.agg [.bool false,.int .i64 0,.int .i64 0])) ((.st (.cons 0 1 false .bool (.cons 1 1 false .int (.cons 2 1 false .int .nil)))))))
 (tB t 53 (tI (.st [(0,1,false),(1,1,false),(2,1,false)]) 3 true (some (.agg [.bool false,.int .i64 0,.int .i64 0])) ((.st (.cons 0 1 false .bool (.cons 1 1 false .int (.cons 2 1 false .int .nil))))))
 (none))))
 (tB t 58 (tB t 56 (tB t 55 (none)
 (tI (.sl 59 1 false 24 (some (.list .nil 0 []))) 1 false (some (.list .nil 0 [])) (.no)))
 (tB t 57 (tI (.sc) 1 false (some (.bW [.list .nil 0 [],.int .i64 0])) (.no))
 (tI (.sc) 1 false (some (.gq)) (.no))))
 (tB t 60 (tB t 59 (tI (.sl 3 1 false 8 (some (.int .i64 0))) 1 false (some (.list .nil 0 [])) (.no))
 (tI (.sc) 1 false (some (.bW [.list .nil 0 [],.int .i64 0])) (.no)))
 (none))))))
 (tB t 94 (tB t 78 (tB t 70 (tB t 66 (tB t 64 (tB t 63 (tI (.st [(0,1,false),(1,1,false),(2,1,false),(3,1,false),(4,1,false),(5,1,false)]) 6 true (zR 6 (.int .i64 0)) ((.st (sK 6 0))))
 (tI (.sc) 1 false (none) (.no)))
 (tB t 65 (tI (.sc) 1 false (some (.gq)) (.no))
 (tI (.sc) 1 false (some (.gq)) (.no))))
 (tB t 68 (none)
 (tB t 69 (none)
 (tI (.st [(0,1,false),(1,1,false),(2,1,false),(3,1,false),(4,1,false),(5,1,false)]) 6 true (zR 6 (.int .i64 0)) ((.st (sK 6 0)))))))
 (tB t 74 (tB t 72 (none)
 (tB t 73 (tI (.st [(0,1,false),(1,1,false)]) 2 true (some (.agg [.int .i64 0,.list .nil 0 []])) ((.st (.cons 0 1 false .int (.cons 1 1 false .no .nil)))))
 (none)))
 (tB t 76 (none)
 (tB t 77 (tI (.st [(0,1,false),(1,1,false)]) 2 true (some (.agg [.int .i64 0,.int .i64 0])) ((.st (sK 2 0))))
 (none)))))
 (tB t 86 (tB t 82 (tB t 80 (tB t 79 (tI (.st [(0,2,true),(2,2,true),(4,1,false)]) 5 true (some (.agg [.int .i64 0,.int .i64 0,.int .i64 0,.int .i64 0,.bool false])) ((.st (.cons 0 2 true (.st (sK 2 0)) (.cons 2 2 true (.st (sK 2 0)) (.cons 4 1 false .bool .nil))))))
 (tI (.sc) 1 false (some (.gq)) (.no)))
 (tB t 81 (tI (.st [(0,1,false),(1,1,false)]) 2 true (some (.agg [.int .i64 0,.list .nil 0 []])) ((.st (.cons 0 1 false .int (.cons 1 1 false .no .nil)))))
 (none)))
 (tB t 84 (tB t 83 (tI (.sl 119 3 true 24 (some (.agg [.int .i64 0,.int .i64 0,.bool false]))) 1 false (some (.list .nil 0 [])) (.no))
 (tI (.sc) 1 false (some (.bW [.list .nil 0 [],.int .i64 0])) (.no)))
 (none)))
 (tB t 90 (tB t 88 (none)
 (tB t 89 (none)
 (tI (.sl 94 2 true 16 (some (.agg [.int .i64 0,.int .i64 0]))) 1 false (some (.list .nil 0 [])) (.no))))
 (tB t 92 (tB t 91 (none)
 (tI (.st [(0,1,false),(1,1,false)]) 2 true (some (.agg [.str [],.list .nil 0 []])) ((.st (.cons 0 1 false .str (.cons 1 1 false .no .nil))))))
 (tB t 93 (none)
 (tI (.st [(0,1,false),(1,1,false)]) 2 true (some (.agg [.int .i64 0,.int .i64 0])) ((.st (sK 2 0)))))))))
 (tB t 110 (tB t 102 (tB t 98 (tB t 96 (tB t 95 (tI (.sc) 1 false (some (.gq)) (.no))
 (none))
 (tB t 97 (tI (.st [(0,1,false),(1,2,true),(3,2,true)]) 5 true (some (.agg [.list .nil 0 [],.int .i64 0,.int .i64 0,.int .i64 0,.int .i64 0])) ((.st (.cons 0 1 false .no (.cons 1 2 true (.st (sK 2 0)) (.cons 3 2 true (.st (sK 2 0)) .nil))))))
 (tI (.sc) 1 false (some (.bW [.int .i64 0,.int .i64 0])) (.no))))
 (tB t 100 (tB t 99 (tI (.sc) 1 false (some (.gq)) (.no))
 (tI (.st [(0,1,false),(1,1,false)]) 2 true (some (.agg [.int .i64 0,.int .i64 0])) ((.st (sK 2 0)))))
 (tB t 101 (tI (.sc) 1 false (some (.gq)) (.no))
 (tI (.sc) 1 false (some (.bW [.list .nil 0 [],.bool false])) (.no)))))
 (tB t 106 (tB t 104 (tB t 103 (tI (.sc) 1 false (some (.gq)) (.no))
 (none))
 (tB t 105 (tI (.sc) 1 false (some (.gq)) (.no))
 (tI (.arr 2 1 false) 2 true (some (.agg [.int .i64 0,.int .i64 0])) ((.st (sK 2 0))))))
 (tB t 108 (tB t 107 (tI (.sc) 1 false (none) (.no))
 (tI (.sc) 1 false (some (.gq)) (.no)))
 (tB t 109 (tI (.st [(0,2,true),(2,2,true),(4,1,false)]) 5 true (some (.agg [.int .i64 0,.int .i64 0,.int .i64 0,.int .i64 0,.bool false])) ((.st (.cons 0 2 true (.st (sK 2 0)) (.cons 2 2 true (.st (sK 2 0)) (.cons 4 1 false .bool .nil))))))
 (tI (.st [(0,2,true),(2,2,true),(4,1,false)]) 5 true (some (.agg [.int .i64 0,.int .i64 0,.int .i64 0,.int .i64 0,.bool false])) ((.st (.cons 0 2 true (.st (sK 2 0)) (.cons 2 2 true (.st (sK 2 0)) (.cons 4 1 false .bool .nil))))))))))
 (tB t 118 (tB t 114 (tB t 112 (tB t 111 (tI (.sc) 1 false (some (.gq)) (.no))
 (tI (.sc) 1 false (some (.gq)) (.no)))
 (tB t 113 (none)
 (tI (.sc) 1 false (some (.gq)) (.no))))
 (tB t 116 (tB t 115 (tI (.sc) 1 false (some (.gq)) (.no))
 (tI (.sc) 1 false (some (.gq)) (.no)))
 (tB t 117 (tI (.sc) 1 false (some (.gq)) (.no))
 (tI (.st [(0,2,true),(2,1,false)]) 3 true (some (.agg [.int .i64 0,.int .i64 0,.bool false])) ((.st (.cons 0 2 true (.st (sK 2 0)) (.cons 2 1 false .bool .nil))))))))
 (tB t 122 (tB t 120 (tB t 119 (tI (.st [(0,2,true),(2,1,false)]) 3 true (some (.agg [.int .i64 0,.int .i64 0,.bool false])) ((.st (.cons 0 2 true (.st (sK 2 0)) (.cons 2 1 false .bool .nil)))))
 (tI (.st [(0,1,false),(1,1,false),(2,1,false)]) 3 true (some (.agg [.str [],.int .i64 0,.int .i64 0])) ((.st (.cons 0 1 false .str (.cons 1 1 false .int (.cons 2 1 false .int .nil)))))))
 (tB t 121 (tI (.st [(0,1,false),(1,1,false),(2,1,false)]) 3 true (some (.agg [.str [],.int .i64 0,.int .i64 0])) ((.st (.cons 0 1 false .str (.cons 1 1 false .int (.cons 2 1 false .int .nil))))))
 (tI (.sl 121 3 true 32 (some (.agg [.str [],.int .i64 0,.int .i64 0]))) 1 false (some (.list .nil 0 [])) (.no))))
 (tB t 124 (tB t 123 (tI (.sc) 1 false (some (.bW [.int .i64 0,.int .i64 0,.int .i64 0])) (.no))
 (none))
 (tB t 125 (tI (.sc) 1 false (none) (.no))
 (none))))))))
 (tB t 190 (tB t 158 (tB t 142 (tB t 134 (tB t 130 (tB t 128 (none)
 (tB t 129 (tI (.sl 132 2 true 16 (some (.agg [.int .i64 0,.int .i64 0]))) 1 false (some (.list .nil 0 [])) (.no))
 (none)))
 (tB t 132 (tB t 131 (tI (.st [(0,1,false),(1,1,false)]) 2 true (some (.agg [.str [],.list .nil 0 []])) ((.st (.cons 0 1 false .str (.cons 1 1 false .no .nil)))))
 (tI (.st [(0,1,false),(1,1,false)]) 2 true (some (.agg [.int .i64 0,.int .i64 0])) ((.st (sK 2 0)))))
 (tB t 133 (none)
 (tI (.sc) 1 false (some (.gq)) (.no)))))
 (tB t 138 (tB t 136 (none)
 (tB t 137 (none)
 (tI (.sc) 1 false (some (.gq)) (.no))))
 (tB t 140 (none)
 (tB t 141 (tI (.map 77 3 (some (.int .i64 0))) 1 false (some (.nQ)) (.no))
 (tI (.sc) 1 false (none) (.no))))))
 (tB t 150 (tB t 146 (none)
 (tB t 148 (tB t 147 (tI (.map 100 3 (some (.int .i64 0))) 1 false (some (.nQ)) (.no))
 (none))
 (tB t 149 (tI (.sc) 1 false (some (.gq)) (.no))
 (tI (.sc) 1 false (some (.gq)) (.no)))))
 (tB t 154 (none)
 (tB t 156 (tB t 155 (none)
 (tI (.st [(0,1,false),(1,1,false)]) 2 true (some (.agg [.list .nil 0 [],.list .nil 0 []])) ((.st (.cons 0 1 false .no (.cons 1 1 false .no .nil))))))
 (tB t 157 (tI (.sc) 1 false (some (.ra)) (.no))
 (tI (.sc) 1 false (none) (.no)))))))
 (tB t 174 (tB t 166 (tB t 162 (none)
 (tB t 164 (tB t 163 (tI (.sc) 1 false (some (.gq)) (.no))
 (tI (.sc) 1 false (some (.bW [.int .i64 0,.bool false])) (.no)))
 (tB t 165 (tI (.map 3 3 (some (.int .i64 0))) 1 false (some (.nQ)) (.no))
 (tI (.sc) 1 false (some (.bW [.nQ,.list .nil 0 []])) (.no)))))
 (tB t 170 (none)
 (tB t 172 (none)
 (tB t 173 (tI (.sc) 1 false (some (.gq)) (.no))
 (tI (.sc) 1 false (some (.gq)) (.no))))))
 (tB t 182 (none)
 (tB t 186 (tB t 184 (tB t 183 (tI (.sc) 1 false (some (.gq)) (.no))
 (none))
 (none))
 (tB t 188 (tB t 187 (tI (.map 100 4 (some (.bool false))) 1 false (some (.nQ)) (.no))
 (none))
 (tB t 189 (tI (.arr 2 2 true) 4 true (zR 4 (.int .i64 0)) ((.st (.cons 0 2 true (.st (sK 2 0)) (.cons 2 2 true (.st (sK 2 0)) .nil)))))
 (none)))))))
 (tB t 222 (tB t 206 (tB t 198 (tB t 194 (tB t 192 (tB t 191 (tI (.sc) 1 false (none) (.no))
 (none))
 (tB t 193 (none)
 (tI (.sl 106 2 true 16 (some (.agg [.int .i64 0,.int .i64 0]))) 1 false (some (.list .nil 0 [])) (.no))))
 (tB t 196 (tB t 195 (none)
 (tI (.sc) 1 false (some (.gq)) (.no)))
 (tB t 197 (none)
 (tI (.sc) 1 false (some (.gq)) (.no)))))
 (tB t 202 (tB t 200 (tB t 199 (tI (.map 3 4 (some (.bool false))) 1 false (some (.nQ)) (.no))
 (tI (.sc) 1 false (some (.gq)) (.no)))
 (tB t 201 (tI (.sc) 1 false (some (.gq)) (.no))
 (none)))
 (tB t 204 (tB t 203 (none)
 (tI (.sc) 1 false (none) (.no)))
 (tB t 205 (none)
 (tI (.sl 189 4 true 32 (zR 4 (.int .i64 0))) 1 false (some (.list .nil 0 [])) (.no))))))
 (tB t 214 (tB t 210 (tB t 208 (tB t 207 (tI (.arr 2 4 true) 8 true (zR 8 (.int .i64 0)) ((.st (.cons 0 4 true (.st (.cons 0 2 true (.st (sK 2 0)) (.cons 2 2 true (.st (sK 2 0)) .nil))) (.cons 4 4 true (.st (.cons 0 2 true (.st (sK 2 0)) (.cons 2 2 true (.st (sK 2 0)) .nil))) .nil)))))
 (none))
 (none))
 (tB t 212 (none)
 (tB t 213 (none)
 (tI (.sl 29 1 false 8 (some (.int .i64 0))) 1 false (some (.list .nil 0 [])) (.no)))))
 (tB t 218 (tB t 216 (tB t 215 (none)
 (tI (.map 3 83 (some (.list .nil 0 []))) 1 false (some (.nQ)) (.no)))
 (tB t 217 (tI (.sc) 1 false (some (.gq)) (.no))
 (none)))
 (tB t 220 (tB t 219 (none)
 (tI (.sc) 1 false (some (.gq)) (.no)))
 (none)))))
 (tB t 238 (tB t 230 (tB t 226 (none)
 (tB t 228 (tB t 227 (none)
 (tI (.sc) 1 false (some (.gq)) (.no)))
 (tB t 229 (tI (.sc) 1 false (none) (.no))
 (none))))
 (tB t 234 (none)
 (tB t 236 (tB t 235 (tI (.sl 83 1 false 24 (some (.list .nil 0 []))) 1 false (some (.list .nil 0 [])) (.no))
 (none))
 (none))))
 (none))))
def tiF (t:Nat):Option TI:=bif Nat.ble 255 t then none else tiT t
theorem VP:(aag 255).map (fun t=>match tiF t with | none=>none | some _=>O9 Tryz.prog t)=(aag 255).map tiF:=by kernel_rfl
theorem Pa (t:TypeId) (i:TI) (h:tiF t=some i):O9 Tryz.prog t=some i:=by
  by_cases ht:t < 255
  · have h1:=congrArg (fun l=>l[t]?) VP
    simp only [List.getElem?_map,List.getElem?_range ht,Option.map_some,Option.some.injEq] at h1
    rw [h] at h1
    exact h1
  · have hb:Nat.ble 255 t=true:=Nat.ble_eq_true_of_le (Nat.not_lt.1 ht)
    rw [tiF,hb] at h
    cases h
def afo:List ((Nat × Nat) × List (Option Nat × Nat × Nat)):=[((21,17),[(none,131073,3)]),((21,18),[(some 18,196609,1048578)]),((25,2),[(none,983041,3)]),((25,3),[(none,1,59)]),((25,5),[(none,1,3)]),((25,39),[(some 39,0,1048577)]),((27,6),[(some 0,1,3)]),((75,1),[(none,2031617,3),(none,2031617,59)]),((75,176),[(some 14,0,1048576)]),((81,148),[(some 20,0,1048576)])]
def YW:List ((Nat × Nat) × List (Option Nat × Nat × Nat))→Nat→Nat→List (Option Nat × Nat × Nat)
  |[],_,_=>[]
  |((a,b),x) :: l,f,t=>bif aaa a f&&aaa b t then x else YW l f t
def ajo (f t:Nat):List (Option Nat × Nat × Nat):=YW afo f t
def ajp (f t:Nat):Bool:=
  (aaa f 1000000&&aaa t 1000000) ||
  (aaa f 21&&(aaa t 5 || aaa t 6 || aaa t 196626 || aaa t 327716 || aaa t 458788)) ||
  (aaa f 25&&(aaa t 40)) ||
  (aaa f 27&&(aaa t 6)) ||
  (aaa f 30&&(aaa t 131072)) ||
  (aaa f 33&&(aaa t 2)) ||
  (aaa f 34&&(aaa t 5 || aaa t 7 || aaa t 8 || aaa t 131072 || aaa t 131074)) ||
  (aaa f 38&&(aaa t 2)) ||
  (aaa f 47&&(aaa t 3 || aaa t 8)) ||
  (aaa f 61&&(aaa t 5 || aaa t 131072)) ||
  (aaa f 62&&(aaa t 3 || aaa t 5)) ||
  (aaa f 63&&(aaa t 3 || aaa t 5 || aaa t 6)) ||
  (aaa f 67&&(aaa t 196624)) ||
  (aaa f 68&&(aaa t 131072 || aaa t 196629)) ||
  (aaa f 71&&(aaa t 1)) ||
  (aaa f 75&&(aaa t 197 || aaa t 65585 || aaa t 131072 || aaa t 196635 || aaa t 524345 || aaa t 589842 || aaa t 589846)) ||
  (aaa f 81&&(aaa t 1 || aaa t 2 || aaa t 3 || aaa t 4 || aaa t 5 || aaa t 6 || aaa t 7 || aaa t 11)) ||
  (aaa f 98&&(aaa t 4)) ||
  (aaa f 99&&(aaa t 1 || aaa t 3)) ||
  (aaa f 103&&(aaa t 196618)) ||
  (aaa f 105&&(aaa t 196618)) ||
  (aaa f 120&&(aaa t 131072)) ||
  (aaa f 123&&(aaa t 196613)) ||
  (aaa f 124&&(aaa t 196618)) ||
  (aaa f 129&&(aaa t 196618)) ||
  (aaa f 131&&(aaa t 196613)) ||
  (aaa f 138&&(aaa t 2))
def YX:dX:=[]
theorem VQ:YX.all (fun p=>aZ p.2)=true:=by kernel_rfl
def afp (g:Nat):Option (List AV):=fh YX g
noncomputable def env:Env:={ P:=Tryz.prog,ti:=tiF,ft:=afp,E0:=ajp,U1:=fun _=>none,gho:=ajo,Pa:=Pa,mixed:=by kernel_rfl,GV:=fun _ _ h=>U6 VQ h }
def fb (l:List Nat):List (List Nat):=l.map fun m=>(aag (m.log2+1)).filter m.testBit
def lX (a:Nat):Nat→DT→DT
 | 0,t=>t
 | n+1,t=>Ho (a+1) fun b=>.take a [] (lX b n t)
def lf (i:Nat) (t:DT):DT:=.br i [] [] t .stop
def afq:aH:=⟨fb [0,1,3,7,7,23,63,127,255,511,1023,2047,4095,8191,8191,24575,65535,131071,262143,524287,1048575,2097151,4194303,8388607,8388607,25165823,67108863,134217727,268435455],fb [0,1,2,4,4,0,0,68,128,256,768,1280,2048,4096,4096,0,0,69632,131072,262144,786432,1310720,2097152,4194304,4194304,0,46137344,71303168,134217728],(lX 0 5 (lf 5 (lf 6 (lX 7 8 (lf 15 (lf 16 (lX 17 6 (.take 23 [23] (.take 24 [23] (.br 25 [23] [] (lX 26 3 .done) .stop))))))))))⟩
def aaU:aH:=⟨fb [0,0,3,0,8,24,0,64,248,0,512,2047,0,8191],fb [0,0,0,0,8,16,0,64,160,0,512,1284,0,0],(.al 12 [1,6,7,24,25,26,27,28,29,30,31,32,33,34] (lX 0 2 (.take 3 [] (.take 4 [4] (.take 5 [4] (.take 6 [4] (.take 7 [7,4] (.take 8 [7,4] (.take 9 [7,4] (.take 10 [10,7,4] (.br 2 [10,7,4] [] (.take 11 [] (lf 13 .done)) .stop)))))))))))⟩
def VR:aH:=⟨fb [0,0,2,0,14,0,32,0,224,480,1023,2047],fb [0,0,2,0,12,0,32,0,192,256,0,1024],(lX 0 10 (lf 10 (.take 11 [] .done)))⟩
def aaV:aH:=⟨fb [0,0,2,0,0,16,56,120,0,0,768,1792,4088,8191,16383],fb [0,0,2,0,0,16,40,64,0,0,768,1024,0,5,0],(.take 0 [0] (.take 1 [0] (.take 2 [2,0] (.take 3 [2,0] (.take 4 [2,0] (.take 5 [2,0] (.take 6 [2,0] (.take 7 [2,0] (.take 8 [2,0] (.take 9 [2,0] (.take 10 [2,0] (.take 11 [2,0] (.br 12 [2,0] [] (.take 13 [] (lf 14 .done)) .stop)))))))))))))⟩
def aaW:aH:=⟨fb [0,0,3,7,0,0,48,112,255,511],fb [0,0,3,4,0,0,48,64,0,256],(lX 0 8 (lf 8 (.take 9 [] .done)))⟩
def VS:aH:=⟨fb [0,0,2,7,0,0,32,127,0,0,512,2047,0,0,8192,32767,0,0,0,0,1048575,2097151,4194303,8388607],fb [0,0,2,0,0,0,32,0,0,0,512,0,0,0,8192,0,0,0,0,0,0,0,0,0],(.al 16 [1,8,54,55,56,58,59,60,62,63,64,66,67,68] (.al 17 [1,8,54,55,56,58,59,60,62,63,64,66,67,68] (.al 18 [1,8,54,55,56,58,59,60,62,63,64,66,67,68] (.al 19 [1,8,54,55,56,58,59,60,62,63,64,66,67,68] (lX 0 3 (.take 4 [4] (.take 5 [4] (.take 6 [6,4] (.take 8 [8,6,4] (.take 9 [8,6,4] (.take 10 [10,8,6,4] (.take 12 [12,10,8,6,4] (.take 13 [12,10,8,6,4] (.take 14 [14,12,10,8,6,4] (.br 3 [14,12,10,8,6,4] [14,12,10,8] (.br 7 [14,12,10,8] [14,12] (.br 11 [14,12] [] (lf 15 (lf 20 (lf 21 (lf 22 (lf 23 .done))))) .stop) .stop) .stop)))))))))))))))⟩
def VT:aH:=⟨fb [0,0,0,4,14,30,0,64,254,510,0,0,2048,7168,15360,0,32768,130048,261120,524287,1048575],fb [0,0,0,4,10,16,0,64,160,256,0,0,2048,5120,8192,0,32768,81920,131072,0,525315],(lX 0 19 (lf 19 (.take 20 [] .done)))⟩
def VU:aH:=⟨fb [0,0,0,4,14,30,0,64,254,510,0,0,2048,7168,15360,0,32768,130048,261120,524287,1048575],fb [0,0,0,4,10,16,0,64,160,256,0,0,2048,5120,8192,0,32768,81920,131072,0,525315],(lX 0 19 (lf 19 (.take 20 [] .done)))⟩
def aaX:aH:=⟨fb [0,0,3,7,0,0,48,112,255],fb [0,0,3,4,0,0,48,64,136],(lX 0 9 .done)⟩
def aaY:aH:=⟨fb [0,0,2,6,0,16,0,112,240,496,1008,2046,4094,0,8192,24576,0,65536,0,458752,983040,2031616,4128768,8380416,16769024,33554431,67108863],fb [0,0,2,4,0,16,0,96,128,256,512,1032,2048,0,8192,16384,0,65536,0,393216,524288,1048576,2097152,4227072,8388608,0,33562627],(lX 0 25 (lf 25 (.take 26 [] .done)))⟩
def aaZ:aH:=⟨fb [0,1,3,7,0,16,48,0,135,391,1015,0,2048,6144,0,16775,49543,115079,246151,0,770439,1819015,4194303,0,16777215],fb [0,0,0,4,0,16,32,0,0,256,576,0,2048,4096,0,0,32768,0,131072,0,0,1048576,2368520,0,0],(.al 23 [1,4,5,6,7,8,9,10,11,12,13,14,15,16,17,18,19,20,21,22,23,24,25] (.take 0 [] (.take 4 [] (.take 5 [5] (.take 6 [6,5] (.take 7 [7,6,5] (.take 11 [7,6,5] (.take 12 [12,7,6,5] (.take 13 [13,12,7,6,5] (.take 14 [14,13,12,7,6,5] (.take 19 [19,14,13,12,7,6,5] (.br 1 [19,14,13,12,7,6,5] [19,14,13,12,7,6,5] (.br 2 [19,14,13,12,7,6,5] [19,14,13,12,6,5] (.take 3 [19,14,13,12,6,5] (.br 8 [19,14,13,12,6,5] [19,13,12,6,5] (.take 9 [9,19,13,12,6,5] (.take 10 [9,19,13,12,6,5] (.br 15 [9,19,13,12,6,5] [9,19,13,12,6,5] (.take 16 [9,19,13,12,6,5] (.br 17 [9,19,13,12,6,5] [9,13,12,6,5] (.take 18 [9,13,12,6,5] (.br 20 [9,13,12,6,5] [] (lX 21 2 (lf 24 .done)) .stop)) .stop)) .stop))) .stop)) .stop) .stop))))))))))))⟩
def aa0:aH:=⟨fb [0,1,0,4,12,28,63,0,128,384,1023,2047,4095,2047,10239,26623,65535,131071,262143,524287,1048575,2097151],fb [0,0,0,4,8,16,0,0,128,256,512,1024,3072,1024,9216,17408,37888,66560,0,262210,0,1048576],(.take 0 [] (.take 2 [] (.take 3 [3] (.take 4 [4,3] (.take 5 [4,3] (.take 7 [4,3] (.take 8 [8,4,3] (.take 9 [8,4,3] (.br 1 [8,4,3] [8] (.br 6 [8] [] (lX 10 8 (lf 18 (.take 19 [] (lf 20 (.take 21 [] .done))))) .stop) .stop)))))))))⟩
def VV:aH:=⟨fb [0,0,2,0,0,16,56,120,0,0,0,1536,3840,7936,16376,32767,65535],fb [0,0,2,0,0,16,40,64,0,0,0,1536,2304,4096,0,5,0],(.take 0 [0] (.take 1 [0] (.take 2 [2,0] (.take 3 [2,0] (.take 4 [2,0] (.take 5 [2,0] (.take 6 [2,0] (.take 7 [2,0] (.take 8 [2,0] (.take 9 [2,0] (.take 10 [2,0] (.take 11 [2,0] (.take 12 [2,0] (.take 13 [2,0] (.br 14 [2,0] [] (.take 15 [] (lf 16 .done)) .stop)))))))))))))))⟩
def VW:aH:=⟨fb [0,0,0,7,0,0,0,127,255],fb [0,0,0,0,0,0,0,0,136],(lX 0 3 (.take 4 [4] (.take 5 [5,4] (.take 6 [5,4] (.br 3 [5,4] [] (lf 7 (.take 8 [] .done)) .stop)))))⟩
def aa1:aH:=⟨fb [0,1,0,4,12,0,32,0,128,480,992,2016,4064,8188,16383,32767],fb [0,1,0,4,8,0,32,0,128,320,512,1024,2048,4112,8194,0],(lX 0 15 (lf 15 .done))⟩
def aa2:aH:=⟨fb [0,1,3,7,15,31,15,79,207,511,1023,2047,4095,8191,16383,32767,65535,131071,262143,131071,655359,131071,2228223,7995391,16383999,33161215,66715647,134217727,268435455,536870911],fb [0,1,2,4,8,24,8,72,136,296,520,1024,2048,6144,10240,18432,32768,65536,196608,65536,589824,65536,2162688,5308416,8454144,16842752,33619968,67436544,134283264,268435456],(lX 0 30 .done)⟩
def VX:aH:=⟨fb [0,0,2,7,15,0,0,64,239,495,511,2047],fb [0,0,2,0,8,0,0,64,0,256,16,512],(lX 0 3 (.take 5 [5] (.take 6 [5] (.take 7 [7,5] (.br 3 [7,5] [] (.take 4 [] (lf 8 (lX 9 3 .done))) .stop)))))⟩
def aa3:aH:=⟨fb [0,1,3,7,15,0,32,96,224,511,0,1024,0,4096,12288,28672,64512,131071,0,262144,786432,1835008,4194303,8388607,16777215,33554431],fb [0,1,2,4,0,0,32,64,128,0,0,1024,0,4096,8192,16384,34816,0,0,262144,524288,1048576,0,4325904,0,16777216],(lX 0 4 (.take 5 [] (.take 6 [6] (.take 7 [7,6] (.take 8 [7,6] (.take 10 [7,6] (.take 11 [11,7,6] (.take 12 [11,7,6] (.take 13 [13,11,7,6] (.take 14 [14,13,11,7,6] (.take 15 [15,14,13,11,7,6] (.take 16 [15,14,13,11,7,6] (.take 18 [15,14,13,11,7,6] (.take 19 [19,15,14,13,11,7,6] (.take 20 [20,19,15,14,13,11,7,6] (.take 21 [20,19,15,14,13,11,7,6] (.br 4 [20,19,15,14,13,11,7,6] [20,19,15,14,13,11] (.br 9 [20,19,15,14,13,11] [20,19] (.br 17 [20,19] [] (lf 22 (.take 23 [] (lf 24 (.take 25 [] .done)))) .stop) .stop) .stop)))))))))))))))))⟩
def aa4:aH:=⟨fb [0,0,0,4,0,28,63,127],fb [0,0,0,4,0,24,0,64],(lX 0 6 (lf 6 (.take 7 [] .done)))⟩
def aa5:aH:=⟨fb [0,0,3,7,15,0,0,96,224,480,1023],fb [0,0,3,4,8,0,0,96,128,256,528],(lX 0 11 .done)⟩
def VY:aH:=⟨fb [0,1,3,0,8,31,63,127,255],fb [0,1,0,0,8,0,36,0,128],(lX 0 2 (.take 3 [] (.take 4 [4] (.br 2 [4] [] (lf 5 (.take 6 [] (lf 7 (.take 8 [] .done)))) .stop))))⟩
def aa6:aH:=⟨fb [0,1,0,4,15,31,63,0,128,511,1023,2047],fb [0,1,0,4,10,16,32,0,128,320,512,0],(lX 0 11 (lf 11 .done))⟩
def VZ:aH:=⟨fb [0,0,2,7,15,31,31,127,255,31,31,1567,3615,31,15903,32287,65535,131071],fb [0,0,2,5,8,16,16,112,144,16,16,1552,2064,16,12304,16400,33040,65552],(lX 0 18 .done)⟩
def aa7:aH:=⟨fb [0,1,3,7,0,16,48,112,255,0,1023],fb [0,1,2,0,0,16,32,0,136,0,0],(.al 9 [1,15,16,17,18,19,20,21,22] (.take 0 [] (.take 1 [1] (.take 2 [2,1] (.take 4 [2,1] (.take 5 [5,2,1] (.take 6 [6,5,2,1] (.br 3 [6,5] [2,1] (.br 7 [2,1] [] (.take 8 [] (lf 10 .done)) .stop) (.br 7 [2,1] [6,5] (.br 3 [6,5] [] (.take 8 [] (lf 10 .done)) .stop) .stop)))))))))⟩
def V0:aH:=⟨fb [0,1,0,0,0,0,32,0,224,480,0,999,3047,8191,16383],fb [0,1,0,0,0,0,32,0,192,256,0,6,0,24,0],(lX 0 12 (lf 12 (.take 13 [] (lf 14 .done))))⟩
def V1:aH:=⟨fb [0,1,0,0,8,0,56,120,248,511,1023],fb [0,1,0,0,8,0,48,64,128,6,0],(lX 0 10 (lf 10 .done))⟩
def V2:aH:=⟨fb [0,1,0,0,8,0,56,120,248,0,512,2040,4095,8191],fb [0,1,0,0,8,0,48,64,0,0,512,0,6,0],(.take 0 [] (.take 1 [1] (.take 2 [1] (.take 3 [1] (.take 4 [1] (.take 5 [1] (.take 6 [1] (.take 7 [1] (.take 9 [1] (.take 10 [1] (.br 8 [1] [1] (.br 11 [1] [] (.take 12 [] (lf 13 .done)) .stop) .stop)))))))))))⟩
def V3:aH:=⟨fb [0,1,0,4,12,31,63,0,128,0,512,1536,3968,8064,16383,0,32768,131071],fb [0,1,0,4,8,18,32,0,128,0,512,1024,2304,4096,8256,0,32768,81920],(lX 0 18 .done)⟩
def V4:aH:=⟨fb [0,0,0,4,12,30,62,0,128,0,512,1536,3968,8064,0,16384,0,130944,262016,524286,1048574,524161,4194303],fb [0,0,0,4,8,18,32,0,128,0,512,1024,2304,4096,0,16384,0,106496,0,262208,0,0,1048576],(.take 0 [0] (.take 1 [0] (.take 2 [0] (.take 3 [0] (.take 4 [4,0] (.take 5 [4,0] (.take 6 [6,4,0] (.take 7 [6,4,0] (.take 8 [6,4,0] (.take 9 [6,4,0] (.take 10 [6,4,0] (.take 11 [6,4,0] (.take 12 [6,4,0] (.take 13 [6,4,0] (.take 14 [6,4,0] (.take 15 [6,4,0] (.take 16 [6,4,0] (.take 17 [6,4,0] (.br 18 [6,4,0] [6,4,0] (.take 19 [6,4,0] (.br 20 [0] [6,4] (.br 21 [6,4] [] (.take 22 [] .done) .stop) (.br 21 [6,4] [0] (.br 20 [0] [] (.take 22 [] .done) .stop) .stop))) .stop)))))))))))))))))))⟩
def aa8:aH:=⟨fb [0,0,0,6,15,31,63,63,127,511],fb [0,0,0,6,9,16,32,32,64,128],(lX 0 10 .done)⟩
def aa9:aH:=⟨fb [0,0,0,6,15],fb [0,0,0,6,0],(lX 0 4 (lf 4 .done))⟩
def V5:aH:=⟨fb [0,0,2,0,0,16,0,0,0,384,896,1984,0,0,8192,28672,62336,0,131072,393216,1045376,2093959,4191111,8388551,16777215,33554431],fb [0,0,2,0,0,16,0,0,0,0,512,1088,0,0,8192,20480,0,0,131072,262144,0,0,2097152,0,0,0],(.take 0 [0] (.take 1 [0] (.take 2 [2,0] (.take 3 [3,2,0] (.take 4 [3,2,0] (.take 5 [5,3,2,0] (.take 6 [5,3,2,0] (.take 7 [5,3,2,0] (.take 8 [5,3,2,0] (.take 12 [12,5,3,2,0] (.take 13 [12,5,3,2,0] (.take 14 [14,12,5,3,2,0] (.take 15 [15,14,12,5,3,2,0] (.take 17 [17,15,14,12,5,3,2,0] (.take 18 [17,15,14,12,5,3,2,0] (.take 19 [17,15,14,12,5,3,2,0] (.br 9 [17,15,14,12,5,3,2,0] [17,5,3,2,0] (.take 10 [17,5,3,2,0] (.take 11 [17,5,3,2,0] (.br 16 [17,5,3,2,0] [5,3,2,0] (.br 20 [5,3,2,0] [5,3] (.br 21 [5,3] [5,3] (.take 22 [5,3] (.br 23 [5,3] [] (lf 24 (lf 25 .done)) .stop)) .stop) .stop) .stop))) .stop)))))))))))))))))⟩
def V6:aH:=⟨fb [0,0,2,0,0,16,0,0,0,384,896,1984,0,0,8192,28672,62336,0,131072,393216,1045376,2093959,4191111,8388551,16777215,33554431],fb [0,0,2,0,0,16,0,0,0,0,512,1088,0,0,8192,20480,0,0,131072,262144,0,0,2097152,0,0,0],(.take 0 [0] (.take 1 [0] (.take 2 [2,0] (.take 3 [3,2,0] (.take 4 [3,2,0] (.take 5 [5,3,2,0] (.take 6 [5,3,2,0] (.take 7 [5,3,2,0] (.take 8 [5,3,2,0] (.take 12 [12,5,3,2,0] (.take 13 [12,5,3,2,0] (.take 14 [14,12,5,3,2,0] (.take 15 [15,14,12,5,3,2,0] (.take 17 [17,15,14,12,5,3,2,0] (.take 18 [17,15,14,12,5,3,2,0] (.take 19 [17,15,14,12,5,3,2,0] (.br 9 [17,15,14,12,5,3,2,0] [17,5,3,2,0] (.take 10 [17,5,3,2,0] (.take 11 [17,5,3,2,0] (.br 16 [17,5,3,2,0] [5,3,2,0] (.br 20 [5,3,2,0] [5,3] (.br 21 [5,3] [5,3] (.take 22 [5,3] (.br 23 [5,3] [] (lf 24 (lf 25 .done)) .stop)) .stop) .stop) .stop))) .stop)))))))))))))))))⟩
def V7:aH:=⟨fb [0,0,2,7,0,0,32,112,255,0,0,1536,3584,8191],fb [0,0,2,5,0,0,32,80,136,0,0,0,2048,4352],(.take 0 [0] (.take 1 [0] (.take 2 [2,0] (.take 3 [3,2,0] (.take 4 [4,3,2,0] (.take 5 [4,3,2,0] (.take 6 [6,4,3,2,0] (.take 7 [7,6,4,3,2,0] (.take 8 [7,6,4,3,2,0] (.take 9 [7,6,4,3,2,0] (.take 10 [7,6,4,3,2,0] (.br 11 [7,6,4,3,2,0] [] (lX 12 2 .done) .stop))))))))))))⟩
def V8:aH:=⟨fb [0,0,0,4,14,0,32,96,0,510,1022,2047,4095],fb [0,0,0,4,10,0,32,64,0,400,0,0,0],(.take 0 [0] (.take 1 [0] (.take 2 [0] (.take 3 [0] (.take 4 [0] (.take 5 [0] (.take 6 [0] (.take 7 [0] (.take 8 [0] (.take 9 [0] (.br 10 [0] [] (lf 11 (lf 12 .done)) .stop)))))))))))⟩
def aba:aH:=⟨fb [0,1,3,7,15,31,15,79,207,511,1023,2047,4095,8191,16383,32767,65535,131071,262143,131071,655359,131071,2228223,7995391,16383999,33161215,66715647,134217727,268435455,536870911],fb [0,1,2,4,8,24,8,72,136,296,520,1024,2048,6144,10240,18432,32768,65536,196608,65536,589824,65536,2162688,5308416,8454144,16842752,33619968,67436544,134283264,268435456],(lX 0 30 .done)⟩
def abb:aH:=⟨fb [0,1,0,4,15,31,63,0,128,511,1023,2047],fb [0,1,0,4,10,16,32,0,128,320,512,0],(lX 0 11 (lf 11 .done))⟩
def abc:aH:=⟨fb [0,0,2,7,15,0,0,64,239,495,511,2047],fb [0,0,2,0,8,0,0,64,0,256,16,512],(lX 0 3 (.take 5 [5] (.take 6 [5] (.take 7 [7,5] (.br 3 [7,5] [] (.take 4 [] (lf 8 (lX 9 3 .done))) .stop)))))⟩
def abd:aH:=⟨fb [0,1,3,7,15,0,32,127,0,256,1023,2047,4095,8191],fb [0,1,0,4,0,0,32,0,0,256,0,1168,0,4096],(lX 0 2 (.take 5 [] (.take 6 [6] (.take 8 [6] (.take 9 [9,6] (.br 2 [9,6] [9,6] (.take 3 [9,6] (.br 4 [9,6] [9] (.br 7 [9] [] (lf 10 (.take 11 [] (lf 12 (.take 13 [] .done)))) .stop) .stop)) .stop))))))⟩
def abe:aH:=⟨fb [0,1,3,7,15,0,63,0,128,384,896,2047,4095,8191,16383,32767,65535,131071,262143,524287,1048575],fb [0,1,0,4,0,0,0,0,128,256,512,1024,2048,6144,10240,18432,34816,0,131152,0,524288],(lX 0 2 (.take 5 [] (.take 7 [] (.take 8 [8] (.take 9 [9,8] (.take 10 [9,8] (.br 2 [9,8] [9,8] (.take 3 [9,8] (.br 4 [9,8] [9,8] (.br 6 [9,8] [] (lX 11 6 (lf 17 (.take 18 [] (lf 19 (.take 20 [] .done))))) .stop) .stop)) .stop)))))))⟩
def V9:aH:=⟨fb [0,1,3,0,8,31,63,127,255],fb [0,1,0,0,8,0,36,0,128],(lX 0 2 (.take 3 [] (.take 4 [4] (.br 2 [4] [] (lf 5 (.take 6 [] (lf 7 (.take 8 [] .done)))) .stop))))⟩
def Wa:aH:=⟨fb [0,0,2,0,8,24,0,64,0,256,960,1984,4032,8128,16376,32766,65535,131071],fb [0,0,2,0,8,16,0,64,0,256,640,1024,2048,4096,8224,16388,32769,0],(lX 0 17 (lf 17 .done))⟩
def Wb:aH:=⟨fb [0,0,0,6,1,31],fb [0,0,0,6,0,8],(.take 0 [] (.take 1 [1] (.take 2 [2,1] (.take 3 [2,1] (.br 4 [2,1] [] (.take 5 [] .done) .stop)))))⟩
def Wc:aH:=⟨fb [0,0,2,0,14,30,63,0],fb [0,0,2,0,12,16,0,0],(lX 0 6 (.take 7 [] (lf 6 .done)))⟩
def Wd:aH:=⟨fb [0,1,0,7,15,31,0,127,255,511,1023,511,4095,8191],fb [0,1,0,6,8,16,0,96,128,256,768,256,3328,4352],(lX 0 14 .done)⟩
def SN:aH:=⟨fb [0,1,0,7,15,31,0,127,255,511,1023,511,4095,8191],fb [0,1,0,6,8,16,0,96,128,256,768,256,3328,4352],(lX 0 14 .done)⟩
def SO:aH:=⟨fb [0,0,2,7,0,0,32,112,15,511],fb [0,0,2,5,0,0,32,80,8,128],(lX 0 10 .done)⟩
def We:aH:=⟨fb [0,1,3,7,7,31,63,7,255,511,1023],fb [0,1,2,4,4,28,36,4,196,260,512],(lX 0 11 .done)⟩
def Wf:aH:=⟨fb [0,0,2,6,15,31,0,127,255,511,1023,511,2559,6655,16383,32767,511,66047,511,262655,786943,2032127,4129279,8388607,511,16777727,67108863,134217727,268435455],fb [0,0,2,4,9,16,0,96,128,256,768,256,2304,4352,9472,16640,256,65792,256,262400,524544,1179904,2097408,4227328,256,16777472,41943296,67109120,134217728],(lX 0 29 .done)⟩
def Wg:aH:=⟨fb [0,1,0,4,3,31,63],fb [0,1,0,4,0,8,0],(lX 0 3 (.take 3 [3] (.br 4 [3] [] (lX 5 2 .done) .stop)))⟩
def Wh:aH:=⟨fb [0,1,0,4,3,31,63],fb [0,1,0,4,0,8,0],(lX 0 3 (.take 3 [3] (.br 4 [3] [] (lX 5 2 .done) .stop)))⟩
def Wi:aH:=⟨fb [0,0,2,7,0,0,32,127,0,0,1023,2047],fb [0,0,2,0,0,0,32,0,0,0,0,0],(.al 8 [2,3,7,8,9,11,12,13] (.al 9 [2,3,7,8,9,11,12,13] (lX 0 3 (.take 4 [4] (.take 5 [4] (.take 6 [6,4] (.br 3 [6,4] [] (lf 7 (lf 10 (lf 11 .done))) .stop)))))))⟩
def SP:aH:=⟨fb [0,0,2,7,0,0,32,112,15,511],fb [0,0,2,5,0,0,32,80,8,128],(lX 0 10 .done)⟩
def SQ:aH:=⟨fb [0,0,0,6,0,16,63],fb [0,0,0,6,0,16,0],(lX 0 6 (lf 6 .done))⟩
def Wj:aH:=⟨fb [0,0,0,0,0,0,48,112,0,0,768,1792,4083,8179,16383,32767],fb [0,0,0,0,0,0,48,64,0,0,768,1024,3,0,12,0],(lX 0 13 (lf 13 (.take 14 [] (lf 15 .done))))⟩
def Wk:aH:=⟨fb [0,0,2,7,0,0,32,112,255,511],fb [0,0,2,5,0,0,32,80,136,0],(lX 0 9 (lf 9 .done))⟩
def Wl:aH:=⟨fb [0,0,0,0,0,0,48,112,0,0,768,1792,4083,8179,16383,32767],fb [0,0,0,0,0,0,48,64,0,0,768,1024,3,0,12,0],(lX 0 13 (lf 13 (.take 14 [] (lf 15 .done))))⟩
def Wm:aH:=⟨fb [0,1,0,4,0,28,60,0,252,511,1023],fb [0,1,0,4,0,24,32,0,192,258,0],(lX 0 10 (lf 10 .done))⟩
def dtF (f r:Nat):Option aH:=
  bif aaa f 4 then (bif aaa r 9 then some afq else none) else
  bif aaa f 13 then (bif aaa r 9 then some aaU else none) else
  bif aaa f 14 then (bif aaa r 16 then some VR else none) else
  bif aaa f 21 then (bif aaa r 8 then some aaV else none) else
  bif aaa f 24 then (bif aaa r 6 then some aaW else none) else
  bif aaa f 25 then (bif aaa r 15 then some VS else bif aaa r 18 then some VT else bif aaa r 19 then some VU else none) else
  bif aaa f 26 then (bif aaa r 6 then some aaX else none) else
  bif aaa f 27 then (bif aaa r 9 then some aaY else none) else
  bif aaa f 28 then (bif aaa r 1 then some aaZ else none) else
  bif aaa f 33 then (bif aaa r 1 then some aa0 else none) else
  bif aaa f 34 then (bif aaa r 11 then some VV else none) else
  bif aaa f 38 then (bif aaa r 12 then some VW else none) else
  bif aaa f 40 then (bif aaa r 1 then some aa1 else none) else
  bif aaa f 44 then (bif aaa r 1 then some aa2 else none) else
  bif aaa f 48 then (bif aaa r 11 then some VX else none) else
  bif aaa f 56 then (bif aaa r 1 then some aa3 else bif aaa r 7 then some aa4 else none) else
  bif aaa f 64 then (bif aaa r 6 then some aa5 else bif aaa r 14 then some VY else none) else
  bif aaa f 69 then (bif aaa r 1 then some aa6 else none) else
  bif aaa f 73 then (bif aaa r 11 then some VZ else none) else
  bif aaa f 75 then (bif aaa r 1 then some aa7 else bif aaa r 19 then some V0 else bif aaa r 21 then some V1 else bif aaa r 22 then some V2 else bif aaa r 29 then some V3 else bif aaa r 32 then some V4 else none) else
  bif aaa f 81 then (bif aaa r 7 then some aa8 else bif aaa r 9 then some aa9 else bif aaa r 19 then some V5 else bif aaa r 21 then some V6 else bif aaa r 27 then some V7 else bif aaa r 30 then some V8 else none) else
  bif aaa f 85 then (bif aaa r 1 then some aba else none) else
  bif aaa f 88 then (bif aaa r 1 then some abb else none) else
  bif aaa f 89 then (bif aaa r 9 then some abc else none) else
  bif aaa f 96 then (bif aaa r 6 then some abd else none) else
  bif aaa f 98 then (bif aaa r 5 then some abe else bif aaa r 11 then some V9 else none) else
  bif aaa f 100 then (bif aaa r 1 then some Wa else none) else
  bif aaa f 101 then (bif aaa r 4 then some Wb else bif aaa r 5 then some Wc else bif aaa r 8 then some Wd else bif aaa r 10 then some SN else none) else
  bif aaa f 102 then (bif aaa r 10 then some SO else none) else
  bif aaa f 107 then (bif aaa r 1 then some We else none) else
  bif aaa f 109 then (bif aaa r 1 then some Wf else none) else
  bif aaa f 113 then (bif aaa r 6 then some Wg else bif aaa r 8 then some Wh else none) else
  bif aaa f 114 then (bif aaa r 1 then some Wi else none) else
  bif aaa f 115 then (bif aaa r 10 then some SP else bif aaa r 23 then some SQ else none) else
  bif aaa f 119 then (bif aaa r 3 then some Wj else none) else
  bif aaa f 122 then (bif aaa r 2 then some Wk else none) else
  bif aaa f 126 then (bif aaa r 3 then some Wl else none) else
  bif aaa f 136 then (bif aaa r 3 then some Wm else none) else none
def okF (f:Nat):Bool:=Nat.blt f 158&&!(([3,5,6,7,17,19,20,32,36,41,43,45,47,49,50,51,67,68,76,82,91,92,130]:List Nat).any (aaa f))
theorem SR:(aag 158).all (fun f=>!okF f || match Tryz.prog.funcs[f]? with
  |some fn=>match fn.body with
    |some c=>dL (dtF f) c
    |none=>true
  |none=>true)=true:=by kernel_rfl
theorem Wn (f:FuncId) (fn:Func) (c:Code) (h:okF f=true) (hf:Tryz.prog.funcs[f]?=some fn) (hb:fn.body=some c):dL (dtF f) c=true:=by
  have cE:f < 158:=by
    have:Nat.blt f 158=true:=by
      rw [okF,Bool.and_eq_true] at h
      exact h.1
    exact Nat.le_of_ble_eq_true this
  have h1:=List.all_eq_true.1 SR f (List.mem_range.2 cE)
  rw [h,hf] at h1
  simp only [hb] at h1
  simpa using h1
noncomputable def ajr:aaD:={ toEnv:=env,dt:=dtF,okF:=okF,YA:=Wn }
end Go.Proofs.YtegoimldbgdeiaaGreat
