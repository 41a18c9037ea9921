/- The abstract machine's surroundings for this program: its types as a table (printed by a program of ours,checked by the kernel). -/
import Derived.Test.YtegoimldbgdeiaaProg
import Derived.Test.YtegoimldbgdeiaaAmKL
import Derived.KernelRfl
set_option linter.all false
open List renaming range→aal
open Nat renaming beq→aae
namespace Go.Proofs.Ytegoimldbgdeiaa
open Go Go.Am
abbrev cD:aL:=(.agg (.cons (.list 2 (.agg (.cons .str (.cons (.list 2 (.agg (.ci (.ci .nil)))) .nil)))) (.cons (.list 5 (.agg (.ci (.ci (.ci (.ci (.cons .bool .nil))))))) .nil)))
abbrev av:Type:=(List (Int × Int))
abbrev a8:Type:=(List (Int × Int × Int × Int × Bool))
abbrev nA:aL:=(.agg (.cons (.list 2 (.agg (.cons .str (.cons (.list 2 (.agg (.cons (.int .i64) (.cons (.int .i64) .nil)))) .nil)))) (.cons (.list 5 (.agg (.cons (.int .i64) (.cons (.int .i64) (.cons (.int .i64) (.cons (.int .i64) (.cons .bool .nil))))))) .nil)))
abbrev bC:aL:=(.agg (.ci (.ci .nil)))
abbrev a6:Type:=(List ((List UInt8) × av))
abbrev aQ:aL:=(.list 1 (.int .i64))
abbrev ao:Type:=(List Int)
abbrev dG:Type:=(List ((Int × Int) × Int))
abbrev DA:aL:=(.agg (.ci (.ci (.ci (.ci (.cons .bool .nil))))))
abbrev dV:aL:=(.list 2 (.agg (.cons .str (.cons (.list 2 bC) .nil))))
abbrev cQ:Type:=(List (Int × Int × Int × Int))
abbrev dv:aL:=(.list 2 (.agg (.cons bC (.ci .nil))))
abbrev nF:aL:=(.agg (.cons .str (.ci (.ci .nil))))
abbrev AL:aL:=(.agg (.cons (.int .i64) (.cons (.int .i64) .nil)))
abbrev bu:aL:=(.list 2 bC)
abbrev iA:aL:=(.agg (.ci (.ci (.ci (.ci .nil)))))
abbrev AM:Type:=(Int × Int × Int × Int × Int × Int × Int × Int × ao × (List (Int × Bool)) × dG × Int × ao)
abbrev bI:Type:=(Int × Int)
abbrev bY:Type:=(List ao)
abbrev FO:Type:=((Int × Int × Int × Int × Int × Int × Int × ao × (List (Int × Bool)) × dG × Int × ao))
abbrev mJ:Type:=(Int × Int × Int × Int × Bool)
abbrev qc:aL:=(.list 2 (.agg (.ci (.cons .bool .nil))))
abbrev jH:Type:=(List UInt8)
abbrev dR:Type:=(a6 × a8)
abbrev dW:aL:=(.list 5 DA)
abbrev Np:aL:=(.agg (.cons (.int .i64) (.cons (.int .i64) (.cons (.int .i64) (.cons (.int .i64) (.cons (.int .i64) (.cons (.int .i64) .nil)))))))
abbrev e7:aL:=(.list 1 aQ)
abbrev FP:aL:=(.agg (.cons .bool (.cons (.int .i64) (.cons (.int .i64) .nil))))
abbrev Jg:Type:=((Bool × Int × ao × (List (Int × Bool)) × dG × Int × ao))
abbrev vX:aL:=(.agg (.ci (.cons aQ .nil)))
abbrev AN:Type:=(Int × Int × ao × ao × bY)
abbrev Nq:Type:=(av × cQ × av × cQ × a6 × a8 × av × dG × Int × ao)
abbrev rq:Type:=(List (bI × Bool))
abbrev FQ:aL:=(.list 2 (.agg (.cons bC (.cons .bool .nil))))
abbrev lf:Type:=(jH × av)
abbrev RX:aL:=(.agg (.cons (.int .i64) (.cons (.int .i64) (.cons (.int .i64) (.cons (.int .i64) (.cons .bool .nil))))))
abbrev uA:Type:=(Int × jH × av)
abbrev vY:Type:=(Int ⊕ (Int ⊕ Unit))
abbrev tc:Type:=(Bool × Int × Int)
abbrev RY:Type:=(av × cQ × av × cQ × av × a6 × a8 × av × dG × av × Int × ao)
abbrev nG:aL:=(.list 3 nF)
abbrev FR:aL:=(.agg (.cons .str (.cons bu .nil)))
abbrev jm:Type:=(List av)
abbrev FT:aL:=(.agg (.cons .bool (.ci (.ci .nil))))
abbrev AO:Type:=(Int × Int × Int × Int)
abbrev vZ:Type:=(List (Int × Bool))
abbrev Jh:Type:=(Int × Int × Int × Int × Int × Int)
abbrev Ji:Type:=(ao × Int × ao × bY × ao)
abbrev FU:Type:=(Unit × Unit × ao × bY)
abbrev Nr:aL:=(.agg (.ci (.ci (.ci (.ci (.ci (.ci .nil)))))))
abbrev td:aL:=(.list 2 AL)
abbrev RZ:Type:=(((ao × bY) × Unit) ⊕ ((ao × bY) × (Int × ao)))
abbrev Ns:Type:=(Int × a6 × a8 × av × a6 × a8)
abbrev FV:Type:=(List (jH × Int × Int))
abbrev R6:Type:=(ao × ao × ao × av × av × av × Int × ao)
abbrev Jj:Type:=(ao × bY × ao × ao)
abbrev Nt:Type:=(ao × ao × Int × av × av)
abbrev we:Type:=(Bool × dG)
abbrev FW:Type:=(Int × Int × dG)
abbrev XL:Type:=(av × cQ × av × cQ × av × Int × a6 × a8 × av × dG × av)
abbrev R7:Type:=(ao × ao × av × av × Int × ao)
set_option maxRecDepth 100000
def zR (n:Nat) (x:AV):Option AV:=some (.agg (List.replicate n x))
def sK:Nat→Nat→Xf
  |0,_=>.nil
  |n+1,i=>.cons i 1 false .int (sK n (i+1))
def tB (t k : Nat) (a b : Option TI) : Option TI := bif Nat.ble t k then a else b
def tI (k : TK) (n : Nat) (a : Bool) (z : Option AV) (e : EK) : Option TI := some ⟨k, n, a, z, e⟩
def tiT (t : Nat) : Option TI :=
 tB t 116 (tB t 57 (tB t 28 (tB t 13 (tB t 6 (tB t 2 (tB t 0 (tI (.sc) 1 false (some (.bG [])) (.no))
 (tB t 1 (tI (.sc) 1 false (some (.fC)) (.no))
 (tI (.int .i64) 1 false (some (.int .i64 0)) (.int))))
 (tB t 4 (tB t 3 (tI (.int .i64) 1 false (some (.int .i64 0)) (.int))
 (tI (.sc) 1 false (some (.bool false)) (.bool)))
 (tB t 5 (tI (.int .u8) 1 false (some (.int .u8 0)) (.int))
 (tI (.int .u8) 1 false (some (.int .u8 0)) (.int)))))
 (tB t 9 (tB t 7 (tI (.st [(0,1,false),(1,1,false),(2,1,false),(3,1,false)]) 4 true (some (.agg [.int .i64 0,.int .i64 0,.bool false,.int .u8 0])) ((.st (.cons 0 1 false .int (.cons 1 1 false .int (.cons 2 1 false .bool (.cons 3 1 false .int .nil)))))))
 (tB t 8 (tI (.st [(0,1,false),(1,1,false),(2,1,false),(3,1,false)]) 4 true (some (.agg [.int .i64 0,.int .i64 0,.bool false,.int .u8 0])) ((.st (.cons 0 1 false .int (.cons 1 1 false .int (.cons 2 1 false .bool (.cons 3 1 false .int .nil)))))))
 (tI (.str) 1 false (some (.str [])) (.str))))
 (tB t 11 (tB t 10 (tI (.str) 1 false (some (.str [])) (.str))
 (none))
 (tB t 12 (tI (.int .u64) 1 false (some (.int .u64 0)) (.int))
 (none)))))
 (tB t 20 (tB t 16 (tB t 14 (none)
 (tB t 15 (none)
 (tI (.sc) 1 false (some (.ql)) (.no))))
 (tB t 18 (none)
 (tB t 19 (none)
 (tI (.sc) 1 false (some (.vz)) (.no)))))
 (tB t 24 (tB t 22 (tB t 21 (tI (.int .i32) 1 false (some (.int .i32 0)) (.int))
 (none))
 (tB t 23 (tI (.arr 2 1 false) 2 true (some (.agg [.int .i64 0,.int .i64 0])) ((.st (sK 2 0))))
 (tI (.sc) 1 false (some (.fC)) (.no))))
 (tB t 26 (tB t 25 (tI (.sl 28 3 true 32 (some (.agg [.str [],.int .i64 0,.int .i64 0]))) 1 false (some (.list .nil 0 [])) (.no))
 (none))
 (tB t 27 (none)
 (tI (.st [(0,1,false),(1,1,false),(2,1,false)]) 3 true (some (.agg [.str [],.int .i64 0,.int .i64 0])) ((.st (.cons 0 1 false .str (.cons 1 1 false .int (.cons 2 1 false .int .nil)))))))))))
 (tB t 42 (tB t 35 (tB t 31 (tB t 29 (tI (.int .i64) 1 false (some (.int .i64 0)) (.int))
 (tB t 30 (tI (.sc) 1 false (some (.bG [.int .i64 0,.int .i64 0,.int .i64 0])) (.no))
 (none)))
 (tB t 33 (tB t 32 (tI (.sc) 1 false (none) (.no))
 (none))
 (none)))
 (tB t 38 (none)
 (tB t 40 (tB t 39 (none)
 (tI (.sl 74 2 true 40 (some (.agg [.str [],.list .nil 0 []]))) 1 false (some (.list .nil 0 [])) (.no)))
 (tB t 41 (tI (.sl 113 5 true 40 (some (.agg [.int .i64 0,.int .i64 0,.int .i64 0,.int .i64 0,.bool false]))) 1 false (some (.list .nil 0 [])) (.no))
 (none)))))
 (tB t 49 (tB t 45 (tB t 43 (tI (.st [(0,1,false),(1,1,false)]) 2 true (some (.agg [.list .nil 0 [],.list .nil 0 []])) ((.st (.cons 0 1 false .no (.cons 1 1 false .no .nil)))))
 (tB t 44 (none)
 (tI (.sl 131 2 true 40 (some (.agg [.str [],.list .nil 0 []]))) 1 false (some (.list .nil 0 [])) (.no))))
 (tB t 47 (tB t 46 (tI (.sl 110 5 true 40 (some (.agg [.int .i64 0,.int .i64 0,.int .i64 0,.int .i64 0,.bool false]))) 1 false (some (.list .nil 0 [])) (.no))
 (none))
 (tB t 48 (tI (.st [(0,1,false),(1,1,false)]) 2 true (some (.agg [.list .nil 0 [],.list .nil 0 []])) ((.st (.cons 0 1 false .no (.cons 1 1 false .no .nil)))))
 (none))))
 (tB t 53 (tB t 51 (tB t 50 (tI (.sl 67 2 true 16 (some (.agg [.int .i64 0,.int .i64 0]))) 1 false (some (.list .nil 0 [])) (.no))
 (tI (.sc) 1 false (some (.bG [.list .nil 0 [],.int .i64 0])) (.no)))
 (tB t 52 (none)
 (tI (.sl 50 1 false 24 (some (.list .nil 0 []))) 1 false (some (.list .nil 0 [])) (.no))))
 (tB t 55 (tB t 54 (tI (.sc) 1 false (some (.bG [.list .nil 0 [],.int .i64 0])) (.no))
 (none))
 (tB t 56 (none)
 (tI (.st [(0,1,false),(1,1,false),(2,1,false),(3,1,false),(4,1,false),(5,1,false)]) 6 true (zR 6 (.int .i64 0)) ((.st (sK 6 0))))))))))
 (tB t 86 (tB t 71 (tB t 64 (tB t 60 (tB t 58 (tI (.sc) 1 false (none) (.no))
 (tB t 59 (none)
 (tI (.sl 76 3 true 24 (some (.agg [.bool false,.int .i64 0,.int .i64 0]))) 1 false (some (.list .nil 0 [])) (.no))))
 (tB t 62 (tB t 61 (tI (.sc) 1 false (some (.bG [.list .nil 0 [],.int .i64 0])) (.no))
 (none))
 (tB t 63 (tI (.sc) 1 false (some (.bG [.list .nil 0 [],.int .i64 0,.int .i64 0])) (.no))
 (tI (.sc) 1 false (some (.fC)) (.no)))))
 (tB t 67 (tB t 65 (tI (.map 67 3 (some (.int .i64 0))) 1 false (some (.nL)) (.no))
 (tB t 66 (tI (.st [(0,1,false),(1,1,false)]) 2 true (some (.agg [.int .i64 0,.int .i64 0])) ((.st (sK 2 0))))
 (tI (.st [(0,1,false),(1,1,false)]) 2 true (some (.agg [.int .i64 0,.int .i64 0])) ((.st (sK 2 0))))))
 (tB t 69 (tB t 68 (none)
 (tI (.st [(0,1,false),(1,1,false)]) 2 true (some (.agg [.int .i64 0,.int .i64 0])) ((.st (sK 2 0)))))
 (tB t 70 (none)
 (tI (.st [(0,1,false),(1,1,false)]) 2 true (some (.agg [.int .i64 0,.int .i64 0])) ((.st (sK 2 0))))))))
 (tB t 78 (tB t 74 (tB t 72 (tI (.sl 71 2 true 16 (some (.agg [.int .i64 0,.int .i64 0]))) 1 false (some (.list .nil 0 [])) (.no))
 (tB t 73 (none)
 (tI (.st [(0,1,false),(1,1,false)]) 2 true (some (.agg [.str [],.list .nil 0 []])) ((.st (.cons 0 1 false .str (.cons 1 1 false .no .nil)))))))
 (tB t 76 (tB t 75 (none)
 (tI (.st [(0,1,false),(1,1,false),(2,1,false)]) 3 true (some (.agg [.bool false,.int .i64 0,.int .i64 0])) ((.st (.cons 0 1 false .bool (.cons 1 1 false .int (.cons 2 1 false .int .nil)))))))
 (tB t 77 (tI (.sl 3 1 false 8 (some (.int .i64 0))) 1 false (some (.list .nil 0 [])) (.no))
 (none))))
 (tB t 82 (tB t 80 (tB t 79 (none)
 (tI (.sc) 1 false (some (.fC)) (.no)))
 (tB t 81 (tI (.sc) 1 false (some (.bG [.list .nil 0 [],.int .i64 0])) (.no))
 (none)))
 (tB t 84 (tB t 83 (tI (.st [(0,1,false),(1,1,false)]) 2 true (some (.agg [.int .i64 0,.list .nil 0 []])) ((.st (.cons 0 1 false .int (.cons 1 1 false .no .nil)))))
 (none))
 (tB t 85 (tI (.sc) 1 false (some (.fC)) (.no))
 (none))))))
 (tB t 101 (tB t 93 (tB t 89 (none)
 (tB t 91 (tB t 90 (tI (.sc) 1 false (some (.fC)) (.no))
 (none))
 (tB t 92 (tI (.sc) 1 false (some (.fC)) (.no))
 (none))))
 (tB t 97 (tB t 95 (tB t 94 (none)
 (tI (.sl 69 2 true 16 (some (.agg [.int .i64 0,.int .i64 0]))) 1 false (some (.list .nil 0 [])) (.no)))
 (tB t 96 (none)
 (tI (.sc) 1 false (none) (.no))))
 (tB t 99 (tB t 98 (tI (.sc) 1 false (some (.fC)) (.no))
 (tI (.sc) 1 false (some (.fC)) (.no)))
 (tB t 100 (tI (.sc) 1 false (some (.fC)) (.no))
 (tI (.sc) 1 false (some (.fC)) (.no))))))
 (tB t 108 (tB t 104 (tB t 102 (tI (.sc) 1 false (none) (.no))
 (tB t 103 (tI (.sc) 1 false (some (.fC)) (.no))
 (none)))
 (tB t 106 (tB t 105 (tI (.sc) 1 false (some (.fC)) (.no))
 (tI (.sl 77 1 false 24 (some (.list .nil 0 []))) 1 false (some (.list .nil 0 [])) (.no)))
 (tB t 107 (tI (.sc) 1 false (some (.bG [.list .nil 0 [],.int .i64 0])) (.no))
 (tI (.sc) 1 false (some (.fC)) (.no)))))
 (tB t 112 (tB t 110 (tB t 109 (tI (.st [(0,2,true),(2,2,true),(4,1,false)]) 5 true (some (.agg [.int .i64 0,.int .i64 0,.int .i64 0,.int .i64 0,.bool false])) ((.st (.cons 0 2 true (.st (sK 2 0)) (.cons 2 2 true (.st (sK 2 0)) (.cons 4 1 false .bool .nil))))))
 (tI (.st [(0,2,true),(2,2,true),(4,1,false)]) 5 true (some (.agg [.int .i64 0,.int .i64 0,.int .i64 0,.int .i64 0,.bool false])) ((.st (.cons 0 2 true (.st (sK 2 0)) (.cons 2 2 true (.st (sK 2 0)) (.cons 4 1 false .bool .nil)))))))
 (tB t 111 (tI (.sc) 1 false (some (.fC)) (.no))
 (tI (.st [(0,2,true),(2,2,true),(4,1,false)]) 5 true (some (.agg [.int .i64 0,.int .i64 0,.int .i64 0,.int .i64 0,.bool false])) ((.st (.cons 0 2 true (.st (sK 2 0)) (.cons 2 2 true (.st (sK 2 0)) (.cons 4 1 false .bool .nil))))))))
 (tB t 114 (tB t 113 (tI (.st [(0,2,true),(2,2,true),(4,1,false)]) 5 true (some (.agg [.int .i64 0,.int .i64 0,.int .i64 0,.int .i64 0,.bool false])) ((.st (.cons 0 2 true (.st (sK 2 0)) (.cons 2 2 true (.st (sK 2 0)) (.cons 4 1 false .bool .nil))))))
 (tI (.sc) 1 false (some (.fC)) (.no)))
 (tB t 115 (tI (.sc) 1 false (some (.fC)) (.no))
 (tI (.sc) 1 false (some (.fC)) (.no)))))))))
 (tB t 175 (tB t 145 (tB t 130 (tB t 123 (tB t 119 (tB t 117 (tI (.sc) 1 false (some (.fC)) (.no))
 (tB t 118 (tI (.sc) 1 false (some (.fC)) (.no))
 (none)))
 (tB t 121 (tB t 120 (tI (.st [(0,2,true),(2,1,false)]) 3 true (some (.agg [.int .i64 0,.int .i64 0,.bool false])) ((.st (.cons 0 2 true (.st (sK 2 0)) (.cons 2 1 false .bool .nil)))))
 (tI (.st [(0,2,true),(2,1,false)]) 3 true (some (.agg [.int .i64 0,.int .i64 0,.bool false])) ((.st (.cons 0 2 true (.st (sK 2 0)) (.cons 2 1 false .bool .nil))))))
 (tB t 122 (tI (.sl 121 3 true 24 (some (.agg [.int .i64 0,.int .i64 0,.bool false]))) 1 false (some (.list .nil 0 [])) (.no))
 (none))))
 (tB t 126 (none)
 (tB t 128 (none)
 (tB t 129 (tI (.sl 132 2 true 16 (some (.agg [.int .i64 0,.int .i64 0]))) 1 false (some (.list .nil 0 [])) (.no))
 (none)))))
 (tB t 137 (tB t 133 (tB t 131 (tI (.st [(0,1,false),(1,1,false)]) 2 true (some (.agg [.str [],.list .nil 0 []])) ((.st (.cons 0 1 false .str (.cons 1 1 false .no .nil)))))
 (tB t 132 (tI (.st [(0,1,false),(1,1,false)]) 2 true (some (.agg [.int .i64 0,.int .i64 0])) ((.st (sK 2 0))))
 (none)))
 (tB t 135 (none)
 (tB t 136 (none)
 (tI (.sc) 1 false (some (.fC)) (.no)))))
 (tB t 141 (tB t 139 (none)
 (tB t 140 (none)
 (tI (.st [(0,1,false),(1,1,false)]) 2 true (some (.agg [.list .nil 0 [],.list .nil 0 []])) ((.st (.cons 0 1 false .no (.cons 1 1 false .no .nil)))))))
 (tB t 143 (tB t 142 (tI (.sc) 1 false (some (.ql)) (.no))
 (tI (.sc) 1 false (none) (.no)))
 (none)))))
 (tB t 160 (tB t 152 (tB t 148 (tB t 146 (tI (.sc) 1 false (some (.fC)) (.no))
 (tB t 147 (tI (.sc) 1 false (some (.bG [.int .i64 0,.bool false])) (.no))
 (none)))
 (tB t 150 (tB t 149 (none)
 (tI (.sc) 1 false (some (.fC)) (.no)))
 (tB t 151 (tI (.sc) 1 false (none) (.no))
 (none))))
 (tB t 156 (none)
 (tB t 158 (tB t 157 (none)
 (tI (.map 3 3 (some (.int .i64 0))) 1 false (some (.nL)) (.no)))
 (tB t 159 (tI (.sc) 1 false (some (.bG [.nL,.list .nil 0 []])) (.no))
 (none)))))
 (tB t 167 (tB t 163 (tB t 161 (none)
 (tB t 162 (tI (.sc) 1 false (some (.fC)) (.no))
 (tI (.sc) 1 false (some (.fC)) (.no))))
 (tB t 165 (none)
 (tB t 166 (none)
 (tI (.sc) 1 false (some (.fC)) (.no)))))
 (tB t 171 (tB t 169 (tB t 168 (none)
 (tI (.sc) 1 false (some (.fC)) (.no)))
 (none))
 (tB t 173 (tB t 172 (tI (.sl 29 1 false 8 (some (.int .i64 0))) 1 false (some (.list .nil 0 [])) (.no))
 (tI (.map 67 4 (some (.bool false))) 1 false (some (.nL)) (.no)))
 (tB t 174 (tI (.arr 2 2 true) 4 true (zR 4 (.int .i64 0)) ((.st (.cons 0 2 true (.st (sK 2 0)) (.cons 2 2 true (.st (sK 2 0)) .nil)))))
 (none)))))))
 (tB t 204 (tB t 189 (tB t 182 (tB t 178 (tB t 176 (tI (.sc) 1 false (none) (.no))
 (tB t 177 (none)
 (tI (.map 3 4 (some (.bool false))) 1 false (some (.nL)) (.no))))
 (tB t 180 (tB t 179 (none)
 (tI (.sl 23 2 true 16 (some (.agg [.int .i64 0,.int .i64 0]))) 1 false (some (.list .nil 0 [])) (.no)))
 (tB t 181 (none)
 (tI (.sc) 1 false (some (.fC)) (.no)))))
 (tB t 185 (tB t 183 (none)
 (tB t 184 (tI (.sc) 1 false (some (.fC)) (.no))
 (none)))
 (tB t 187 (tB t 186 (tI (.sc) 1 false (some (.fC)) (.no))
 (none))
 (none))))
 (tB t 196 (tB t 192 (none)
 (tB t 194 (tB t 193 (none)
 (tI (.sc) 1 false (some (.fC)) (.no)))
 (none)))
 (tB t 200 (tB t 198 (tB t 197 (none)
 (tI (.map 3 122 (some (.list .nil 0 []))) 1 false (some (.nL)) (.no)))
 (tB t 199 (tI (.sc) 1 false (some (.fC)) (.no))
 (tI (.sc) 1 false (some (.fC)) (.no))))
 (tB t 202 (tB t 201 (none)
 (tI (.sc) 1 false (some (.fC)) (.no)))
 (none)))))
 (tB t 219 (tB t 211 (tB t 207 (tB t 205 (tI (.sl 174 4 true 32 (zR 4 (.int .i64 0))) 1 false (some (.list .nil 0 [])) (.no))
 (tB t 206 (tI (.arr 2 4 true) 8 true (zR 8 (.int .i64 0)) ((.st (.cons 0 4 true (.st (.cons 0 2 true (.st (sK 2 0)) (.cons 2 2 true (.st (sK 2 0)) .nil))) (.cons 4 4 true (.st (.cons 0 2 true (.st (sK 2 0)) (.cons 2 2 true (.st (sK 2 0)) .nil))) .nil)))))
 (none)))
 (none))
 (tB t 215 (tB t 213 (none)
 (tB t 214 (none)
 (tI (.sl 122 1 false 24 (some (.list .nil 0 []))) 1 false (some (.list .nil 0 [])) (.no))))
 (none)))
 (none))))
def tiF (t:Nat):Option TI:=bif Nat.ble 235 t then none else tiT t
theorem Vg:(aal 235).map (fun t=>match tiF t with | none=>none | some _=>Ot Try.prog t)=(aal 235).map tiF:=by kernel_rfl
theorem Ou (t:TypeId) (i:TI) (h:tiF t=some i):Ot Try.prog t=some i:=by
  by_cases ht:t < 235
  · have h1:=congrArg (fun l=>l[t]?) Vg
    simp only [List.getElem?_map,List.getElem?_range ht,Option.map_some,Option.some.injEq] at h1
    rw [h] at h1
    exact h1
  · have hb:Nat.ble 235 t=true:=Nat.ble_eq_true_of_le (Nat.not_lt.1 ht)
    rw [tiF,hb] at h
    cases h
def aez:List ((Nat × Nat) × List (Option Nat × Nat × Nat)):=[((64,1),[(none,2031617,3),(none,2031617,77)]),((64,176),[(some 14,0,1048576)]),((70,6),[(some 0,1,3)]),((78,148),[(some 20,0,1048576)])]
def XM:List ((Nat × Nat) × List (Option Nat × Nat × Nat))→Nat→Nat→List (Option Nat × Nat × Nat)
  |[],_,_=>[]
  |((a,b),x) :: l,f,t=>bif aae a f&&aae b t then x else XM l f t
def air (f t:Nat):List (Option Nat × Nat × Nat):=XM aez f t
def ais (f t:Nat):Bool:=
  (aae f 1000000&&aae t 1000000) ||
  (aae f 25&&(aae t 131072)) ||
  (aae f 27&&(aae t 2)) ||
  (aae f 30&&(aae t 131072 || aae t 196629)) ||
  (aae f 38&&(aae t 3 || aae t 8)) ||
  (aae f 41&&(aae t 5 || aae t 7 || aae t 8 || aae t 131072 || aae t 131074)) ||
  (aae f 46&&(aae t 5 || aae t 6 || aae t 131072 || aae t 131074)) ||
  (aae f 49&&(aae t 2)) ||
  (aae f 56&&(aae t 1 || aae t 3)) ||
  (aae f 58&&(aae t 3 || aae t 5)) ||
  (aae f 60&&(aae t 5 || aae t 131072)) ||
  (aae f 61&&(aae t 3 || aae t 5 || aae t 6)) ||
  (aae f 64&&(aae t 197 || aae t 65585 || aae t 131072 || aae t 196635 || aae t 524345 || aae t 589842 || aae t 589846)) ||
  (aae f 70&&(aae t 6)) ||
  (aae f 73&&(aae t 4)) ||
  (aae f 78&&(aae t 1 || aae t 2 || aae t 3 || aae t 4 || aae t 5 || aae t 6 || aae t 7 || aae t 11)) ||
  (aae f 80&&(aae t 1)) ||
  (aae f 94&&(aae t 196618)) ||
  (aae f 96&&(aae t 196618)) ||
  (aae f 102&&(aae t 131072)) ||
  (aae f 108&&(aae t 196618)) ||
  (aae f 110&&(aae t 196613)) ||
  (aae f 112&&(aae t 196613)) ||
  (aae f 113&&(aae t 196618)) ||
  (aae f 127&&(aae t 2))
def XN:dy:=[]
theorem Vh:XN.all (fun p=>aN p.2)=true:=by kernel_rfl
def aeA (g:Nat):Option (List AV):=eJ XN g
noncomputable def env:Env:={ P:=Try.prog,ti:=tiF,fm:=aeA,B7:=ais,Uo:=fun _=>none,gho:=air,Ou:=Ou,mixed:=by kernel_rfl,Gt:=fun _ _ h=>Uu Vh h }
def fk (l:List Nat):List (List Nat):=l.map fun m=>(aal (m.log2+1)).filter m.testBit
def o0 (a:Nat):Nat→DT→DT
 | 0,t=>t
 | n+1,t=>G3 (a+1) fun b=>.take a [] (o0 b n t)
def nZ (i:Nat) (t:DT):DT:=.br i [] [] t .stop
def ZL:aJ:=⟨fk [0,1,3,7,15,31,63,127,15,271,1023,2047,4095,8191,16383,32767,65535,8191,139263,524287,1048575,2097151,4194303,8388607,16777215,2097151,35651583,134217727,268435455,536870911],fk [0,1,2,4,8,24,40,72,8,264,648,1032,2048,4096,12288,20480,36864,4096,135168,331776,528384,1048576,3145728,5242880,9437184,1048576,34603008,84934656,135270400,268439552],(o0 0 30 .done)⟩
def ZM:aJ:=⟨fk [0,0,3,7,3,19,63],fk [0,0,3,4,0,16,0],(o0 0 2 (.take 2 [2] (.take 3 [2] (.br 4 [2] [] (.take 5 [] (nZ 6 .done)) .stop))))⟩
def ZN:aJ:=⟨fk [0,0,2,0,8,30,62,126,0,256,1022,2046,4094,8191,16383],fk [0,0,2,0,8,20,32,64,0,256,640,1024,2048,4097,8193],(o0 0 15 .done)⟩
def ZO:aJ:=⟨fk [0,0,2,0,8,30,62,126,0,256,1022,2046,4094,8191,16383],fk [0,0,2,0,8,20,32,64,0,256,640,1024,2048,4097,8193],(o0 0 15 .done)⟩
def ZP:aJ:=⟨fk [0,0,3,0,8,24,0,64,248,0,512,2047,0,8191],fk [0,0,0,0,8,16,0,64,160,0,512,1284,0,0],(.al 12 [1,6,7,24,25,26,27,28,29,30,31,32,33,34] (o0 0 2 (.take 3 [] (.take 4 [4] (.take 5 [4] (.take 6 [4] (.take 7 [7,4] (.take 8 [7,4] (.take 9 [7,4] (.take 10 [10,7,4] (.br 2 [10,7,4] [] (.take 11 [] (nZ 13 .done)) .stop)))))))))))⟩
def ZQ:aJ:=⟨fk [0,1,3,7,15,31,15,79,207,511,1023,2047,4095,8191,16383,32767,65535,131071,262143,131071,655359,131071,2228223,7995391,16383999,33161215,66715647,134217727,268435455,536870911],fk [0,1,2,4,8,24,8,72,136,296,520,1024,2048,6144,10240,18432,32768,65536,196608,65536,589824,65536,2162688,5308416,8454144,16842752,33619968,67436544,134283264,268435456],(o0 0 30 .done)⟩
def ZR:aJ:=⟨fk [0,1,0,4,12,28,63,0,128,384,1023,2047,4095,2047,10239,26623,65535,131071,262143,524287,1048575,2097151],fk [0,0,0,4,8,16,0,0,128,256,512,1024,3072,1024,9216,17408,37888,66560,0,262210,0,1048576],(.take 0 [] (.take 2 [] (.take 3 [3] (.take 4 [4,3] (.take 5 [4,3] (.take 7 [4,3] (.take 8 [8,4,3] (.take 9 [8,4,3] (.br 1 [8,4,3] [8] (.br 6 [8] [] (o0 10 8 (nZ 18 (.take 19 [] (nZ 20 (.take 21 [] .done))))) .stop) .stop)))))))))⟩
def Vi:aJ:=⟨fk [0,0,2,0,14,0,32,0,224,480,1023,2047],fk [0,0,2,0,12,0,32,0,192,256,0,1024],(o0 0 10 (nZ 10 (.take 11 [] .done)))⟩
def ZS:aJ:=⟨fk [0,0,3,7,0,0,48,112,255],fk [0,0,3,4,0,0,48,64,136],(o0 0 9 .done)⟩
def ZT:aJ:=⟨fk [0,1,3,7,15,0,32,96,224,511,0,1024,0,4096,12288,28672,64512,131071,0,262144,786432,1835008,4194303,8388607,16777215,33554431],fk [0,1,2,4,0,0,32,64,128,0,0,1024,0,4096,8192,16384,34816,0,0,262144,524288,1048576,0,4325904,0,16777216],(o0 0 4 (.take 5 [] (.take 6 [6] (.take 7 [7,6] (.take 8 [7,6] (.take 10 [7,6] (.take 11 [11,7,6] (.take 12 [11,7,6] (.take 13 [13,11,7,6] (.take 14 [14,13,11,7,6] (.take 15 [15,14,13,11,7,6] (.take 16 [15,14,13,11,7,6] (.take 18 [15,14,13,11,7,6] (.take 19 [19,15,14,13,11,7,6] (.take 20 [20,19,15,14,13,11,7,6] (.take 21 [20,19,15,14,13,11,7,6] (.br 4 [20,19,15,14,13,11,7,6] [20,19,15,14,13,11] (.br 9 [20,19,15,14,13,11] [20,19] (.br 17 [20,19] [] (nZ 22 (.take 23 [] (nZ 24 (.take 25 [] .done)))) .stop) .stop) .stop)))))))))))))))))⟩
def ZU:aJ:=⟨fk [0,0,0,4,0,28,63,127],fk [0,0,0,4,0,24,0,64],(o0 0 6 (nZ 6 (.take 7 [] .done)))⟩
def Vj:aJ:=⟨fk [0,0,2,0,0,16,56,120,0,0,0,1536,3840,7936,16376,32767,65535],fk [0,0,2,0,0,16,40,64,0,0,0,1536,2304,4096,0,5,0],(.take 0 [0] (.take 1 [0] (.take 2 [2,0] (.take 3 [2,0] (.take 4 [2,0] (.take 5 [2,0] (.take 6 [2,0] (.take 7 [2,0] (.take 8 [2,0] (.take 9 [2,0] (.take 10 [2,0] (.take 11 [2,0] (.take 12 [2,0] (.take 13 [2,0] (.br 14 [2,0] [] (.take 15 [] (nZ 16 .done)) .stop)))))))))))))))⟩
def Vk:aJ:=⟨fk [0,0,2,7,15,0,0,64,239,495,511,2047],fk [0,0,2,0,8,0,0,64,0,256,16,512],(o0 0 3 (.take 5 [5] (.take 6 [5] (.take 7 [7,5] (.br 3 [7,5] [] (.take 4 [] (nZ 8 (o0 9 3 .done))) .stop)))))⟩
def ZV:aJ:=⟨fk [0,0,2,0,0,16,56,120,0,0,768,1792,4088,8191,16383],fk [0,0,2,0,0,16,40,64,0,0,768,1024,0,5,0],(.take 0 [0] (.take 1 [0] (.take 2 [2,0] (.take 3 [2,0] (.take 4 [2,0] (.take 5 [2,0] (.take 6 [2,0] (.take 7 [2,0] (.take 8 [2,0] (.take 9 [2,0] (.take 10 [2,0] (.take 11 [2,0] (.br 12 [2,0] [] (.take 13 [] (nZ 14 .done)) .stop)))))))))))))⟩
def ZW:aJ:=⟨fk [0,0,3,7,0,0,48,112,255,511],fk [0,0,3,4,0,0,48,64,0,256],(o0 0 8 (nZ 8 (.take 9 [] .done)))⟩
def Vl:aJ:=⟨fk [0,0,0,7,0,0,0,127,255],fk [0,0,0,0,0,0,0,0,136],(o0 0 3 (.take 4 [4] (.take 5 [5,4] (.take 6 [5,4] (.br 3 [5,4] [] (nZ 7 (.take 8 [] .done)) .stop)))))⟩
def ZX:aJ:=⟨fk [0,1,3,7,15,0,32,127,0,256,1023,2047,4095,8191],fk [0,1,0,4,0,0,32,0,0,256,0,1168,0,4096],(o0 0 2 (.take 5 [] (.take 6 [6] (.take 8 [6] (.take 9 [9,6] (.br 2 [9,6] [9,6] (.take 3 [9,6] (.br 4 [9,6] [9] (.br 7 [9] [] (nZ 10 (.take 11 [] (nZ 12 (.take 13 [] .done)))) .stop) .stop)) .stop))))))⟩
def ZY:aJ:=⟨fk [0,1,3,7,0,16,48,112,255,0,1023],fk [0,1,2,0,0,16,32,0,136,0,0],(.al 9 [1,15,16,17,18,19,20,21,22] (.take 0 [] (.take 1 [1] (.take 2 [2,1] (.take 4 [2,1] (.take 5 [5,2,1] (.take 6 [6,5,2,1] (.br 3 [6,5] [2,1] (.br 7 [2,1] [] (.take 8 [] (nZ 10 .done)) .stop) (.br 7 [2,1] [6,5] (.br 3 [6,5] [] (.take 8 [] (nZ 10 .done)) .stop) .stop)))))))))⟩
def Vm:aJ:=⟨fk [0,1,0,0,0,0,32,0,224,480,0,999,3047,8191,16383],fk [0,1,0,0,0,0,32,0,192,256,0,6,0,24,0],(o0 0 12 (nZ 12 (.take 13 [] (nZ 14 .done))))⟩
def Vn:aJ:=⟨fk [0,1,0,0,8,0,56,120,248,511,1023],fk [0,1,0,0,8,0,48,64,128,6,0],(o0 0 10 (nZ 10 .done))⟩
def Vo:aJ:=⟨fk [0,1,0,0,8,0,56,120,248,0,512,2040,4095,8191],fk [0,1,0,0,8,0,48,64,0,0,512,0,6,0],(.take 0 [] (.take 1 [1] (.take 2 [1] (.take 3 [1] (.take 4 [1] (.take 5 [1] (.take 6 [1] (.take 7 [1] (.take 9 [1] (.take 10 [1] (.br 8 [1] [1] (.br 11 [1] [] (.take 12 [] (nZ 13 .done)) .stop) .stop)))))))))))⟩
def Vp:aJ:=⟨fk [0,1,0,4,12,31,63,0,128,0,512,1536,3968,8064,16383,0,32768,131071],fk [0,1,0,4,8,18,32,0,128,0,512,1024,2304,4096,8256,0,32768,81920],(o0 0 18 .done)⟩
def Vq:aJ:=⟨fk [0,0,0,4,12,30,62,0,128,0,512,1536,3968,8064,0,16384,0,130944,262016,524286,1048574,524161,4194303],fk [0,0,0,4,8,18,32,0,128,0,512,1024,2304,4096,0,16384,0,106496,0,262208,0,0,1048576],(.take 0 [0] (.take 1 [0] (.take 2 [0] (.take 3 [0] (.take 4 [4,0] (.take 5 [4,0] (.take 6 [6,4,0] (.take 7 [6,4,0] (.take 8 [6,4,0] (.take 9 [6,4,0] (.take 10 [6,4,0] (.take 11 [6,4,0] (.take 12 [6,4,0] (.take 13 [6,4,0] (.take 14 [6,4,0] (.take 15 [6,4,0] (.take 16 [6,4,0] (.take 17 [6,4,0] (.br 18 [6,4,0] [6,4,0] (.take 19 [6,4,0] (.br 20 [0] [6,4] (.br 21 [6,4] [] (.take 22 [] .done) .stop) (.br 21 [6,4] [0] (.br 20 [0] [] (.take 22 [] .done) .stop) .stop))) .stop)))))))))))))))))))⟩
def ZZ:aJ:=⟨fk [0,0,3,7,15,0,0,96,224,480,1023],fk [0,0,3,4,8,0,0,96,128,256,528],(o0 0 11 .done)⟩
def Vr:aJ:=⟨fk [0,1,3,0,8,31,63,127,255],fk [0,1,0,0,8,0,36,0,128],(o0 0 2 (.take 3 [] (.take 4 [4] (.br 2 [4] [] (nZ 5 (.take 6 [] (nZ 7 (.take 8 [] .done)))) .stop))))⟩
def Z0:aJ:=⟨fk [0,1,3,7,15,31,15,79,207,511,1023,2047,4095,8191,16383,32767,65535,131071,262143,131071,655359,131071,2228223,7995391,16383999,33161215,66715647,134217727,268435455,536870911],fk [0,1,2,4,8,24,8,72,136,296,520,1024,2048,6144,10240,18432,32768,65536,196608,65536,589824,65536,2162688,5308416,8454144,16842752,33619968,67436544,134283264,268435456],(o0 0 30 .done)⟩
def Z1:aJ:=⟨fk [0,1,3,7,15,0,63,0,128,384,896,2047,4095,8191,16383,32767,65535,131071,262143,524287,1048575],fk [0,1,0,4,0,0,0,0,128,256,512,1024,2048,6144,10240,18432,34816,0,131152,0,524288],(o0 0 2 (.take 5 [] (.take 7 [] (.take 8 [8] (.take 9 [9,8] (.take 10 [9,8] (.br 2 [9,8] [9,8] (.take 3 [9,8] (.br 4 [9,8] [9,8] (.br 6 [9,8] [] (o0 11 6 (nZ 17 (.take 18 [] (nZ 19 (.take 20 [] .done))))) .stop) .stop)) .stop)))))))⟩
def Vs:aJ:=⟨fk [0,1,3,0,8,31,63,127,255],fk [0,1,0,0,8,0,36,0,128],(o0 0 2 (.take 3 [] (.take 4 [4] (.br 2 [4] [] (nZ 5 (.take 6 [] (nZ 7 (.take 8 [] .done)))) .stop))))⟩
def Z2:aJ:=⟨fk [0,0,2,7,15,0,0,64,239,495,511,2047],fk [0,0,2,0,8,0,0,64,0,256,16,512],(o0 0 3 (.take 5 [5] (.take 6 [5] (.take 7 [7,5] (.br 3 [7,5] [] (.take 4 [] (nZ 8 (o0 9 3 .done))) .stop)))))⟩
def Z3:aJ:=⟨fk [0,0,0,6,15,31,63,63,127,511],fk [0,0,0,6,9,16,32,32,64,128],(o0 0 10 .done)⟩
def Z4:aJ:=⟨fk [0,0,0,6,15],fk [0,0,0,6,0],(o0 0 4 (nZ 4 .done))⟩
def Vt:aJ:=⟨fk [0,0,2,0,0,16,0,0,0,384,896,1984,0,0,8192,28672,62336,0,131072,393216,1045376,2093959,4191111,8388551,16777215,33554431],fk [0,0,2,0,0,16,0,0,0,0,512,1088,0,0,8192,20480,0,0,131072,262144,0,0,2097152,0,0,0],(.take 0 [0] (.take 1 [0] (.take 2 [2,0] (.take 3 [3,2,0] (.take 4 [3,2,0] (.take 5 [5,3,2,0] (.take 6 [5,3,2,0] (.take 7 [5,3,2,0] (.take 8 [5,3,2,0] (.take 12 [12,5,3,2,0] (.take 13 [12,5,3,2,0] (.take 14 [14,12,5,3,2,0] (.take 15 [15,14,12,5,3,2,0] (.take 17 [17,15,14,12,5,3,2,0] (.take 18 [17,15,14,12,5,3,2,0] (.take 19 [17,15,14,12,5,3,2,0] (.br 9 [17,15,14,12,5,3,2,0] [17,5,3,2,0] (.take 10 [17,5,3,2,0] (.take 11 [17,5,3,2,0] (.br 16 [17,5,3,2,0] [5,3,2,0] (.br 20 [5,3,2,0] [5,3] (.br 21 [5,3] [5,3] (.take 22 [5,3] (.br 23 [5,3] [] (nZ 24 (nZ 25 .done)) .stop)) .stop) .stop) .stop))) .stop)))))))))))))))))⟩
def Vu:aJ:=⟨fk [0,0,2,0,0,16,0,0,0,384,896,1984,0,0,8192,28672,62336,0,131072,393216,1045376,2093959,4191111,8388551,16777215,33554431],fk [0,0,2,0,0,16,0,0,0,0,512,1088,0,0,8192,20480,0,0,131072,262144,0,0,2097152,0,0,0],(.take 0 [0] (.take 1 [0] (.take 2 [2,0] (.take 3 [3,2,0] (.take 4 [3,2,0] (.take 5 [5,3,2,0] (.take 6 [5,3,2,0] (.take 7 [5,3,2,0] (.take 8 [5,3,2,0] (.take 12 [12,5,3,2,0] (.take 13 [12,5,3,2,0] (.take 14 [14,12,5,3,2,0] (.take 15 [15,14,12,5,3,2,0] (.take 17 [17,15,14,12,5,3,2,0] (.take 18 [17,15,14,12,5,3,2,0] (.take 19 [17,15,14,12,5,3,2,0] (.br 9 [17,15,14,12,5,3,2,0] [17,5,3,2,0] (.take 10 [17,5,3,2,0] (.take 11 [17,5,3,2,0] (.br 16 [17,5,3,2,0] [5,3,2,0] (.br 20 [5,3,2,0] [5,3] (.br 21 [5,3] [5,3] (.take 22 [5,3] (.br 23 [5,3] [] (nZ 24 (nZ 25 .done)) .stop)) .stop) .stop) .stop))) .stop)))))))))))))))))⟩
def Vv:aJ:=⟨fk [0,0,2,7,0,0,32,112,255,0,0,1536,3584,8191],fk [0,0,2,5,0,0,32,80,136,0,0,0,2048,4352],(.take 0 [0] (.take 1 [0] (.take 2 [2,0] (.take 3 [3,2,0] (.take 4 [4,3,2,0] (.take 5 [4,3,2,0] (.take 6 [6,4,3,2,0] (.take 7 [7,6,4,3,2,0] (.take 8 [7,6,4,3,2,0] (.take 9 [7,6,4,3,2,0] (.take 10 [7,6,4,3,2,0] (.br 11 [7,6,4,3,2,0] [] (o0 12 2 .done) .stop))))))))))))⟩
def Vw:aJ:=⟨fk [0,0,0,4,14,0,32,96,0,510,1022,2047,4095],fk [0,0,0,4,10,0,32,64,0,400,0,0,0],(.take 0 [0] (.take 1 [0] (.take 2 [0] (.take 3 [0] (.take 4 [0] (.take 5 [0] (.take 6 [0] (.take 7 [0] (.take 8 [0] (.take 9 [0] (.br 10 [0] [] (nZ 11 (nZ 12 .done)) .stop)))))))))))⟩
def Z5:aJ:=⟨fk [0,1,0,4,15,31,63,0,128,511,1023,2047],fk [0,1,0,4,10,16,32,0,128,320,512,0],(o0 0 11 (nZ 11 .done))⟩
def Z6:aJ:=⟨fk [0,1,0,4,15,31,63,0,128,511,1023,2047],fk [0,1,0,4,10,16,32,0,128,320,512,0],(o0 0 11 (nZ 11 .done))⟩
def Z7:aJ:=⟨fk [0,0,2,0,8,24,0,64,0,256,960,1984,4032,8128,16376,32766,65535,131071],fk [0,0,2,0,8,16,0,64,0,256,640,1024,2048,4096,8224,16388,32769,0],(o0 0 17 (nZ 17 .done))⟩
def Z8:aJ:=⟨fk [0,0,0,6,1,31],fk [0,0,0,6,0,8],(.take 0 [] (.take 1 [1] (.take 2 [2,1] (.take 3 [2,1] (.br 4 [2,1] [] (.take 5 [] .done) .stop)))))⟩
def Z9:aJ:=⟨fk [0,0,2,0,14,30,63,0],fk [0,0,2,0,12,16,0,0],(o0 0 6 (.take 7 [] (nZ 6 .done)))⟩
def aaa:aJ:=⟨fk [0,1,0,7,15,31,0,127,255,511,1023,511,4095,8191],fk [0,1,0,6,8,16,0,96,128,256,768,256,3328,4352],(o0 0 14 .done)⟩
def Vx:aJ:=⟨fk [0,1,0,7,15,31,0,127,255,511,1023,511,4095,8191],fk [0,1,0,6,8,16,0,96,128,256,768,256,3328,4352],(o0 0 14 .done)⟩
def aab:aJ:=⟨fk [0,1,3,7,7,31,63,7,255,511,1023],fk [0,1,2,4,4,28,36,4,196,260,512],(o0 0 11 .done)⟩
def Vy:aJ:=⟨fk [0,0,2,7,0,0,32,112,15,511],fk [0,0,2,5,0,0,32,80,8,128],(o0 0 10 .done)⟩
def aac:aJ:=⟨fk [0,0,2,6,15,31,0,127,255,511,1023,511,2559,6655,16383,32767,511,66047,511,262655,786943,2032127,4129279,8388607,511,16777727,67108863,134217727,268435455],fk [0,0,2,4,9,16,0,96,128,256,768,256,2304,4352,9472,16640,256,65792,256,262400,524544,1179904,2097408,4227328,256,16777472,41943296,67109120,134217728],(o0 0 29 .done)⟩
def Vz:aJ:=⟨fk [0,0,0,0,0,0,48,112,0,0,768,1792,4083,8179,16383,32767],fk [0,0,0,0,0,0,48,64,0,0,768,1024,3,0,12,0],(o0 0 13 (nZ 13 (.take 14 [] (nZ 15 .done))))⟩
def VA:aJ:=⟨fk [0,0,2,7,0,0,32,112,255,511],fk [0,0,2,5,0,0,32,80,136,0],(o0 0 9 (nZ 9 .done))⟩
def VB:aJ:=⟨fk [0,0,0,0,0,0,48,112,0,0,768,1792,4083,8179,16383,32767],fk [0,0,0,0,0,0,48,64,0,0,768,1024,3,0,12,0],(o0 0 13 (nZ 13 (.take 14 [] (nZ 15 .done))))⟩
def VC:aJ:=⟨fk [0,0,2,7,0,0,32,127,0,0,1023,2047],fk [0,0,2,0,0,0,32,0,0,0,0,0],(.al 8 [2,3,7,8,9,11,12,13] (.al 9 [2,3,7,8,9,11,12,13] (o0 0 3 (.take 4 [4] (.take 5 [4] (.take 6 [6,4] (.br 3 [6,4] [] (nZ 7 (nZ 10 (nZ 11 .done))) .stop)))))))⟩
def R8:aJ:=⟨fk [0,0,2,7,0,0,32,112,15,511],fk [0,0,2,5,0,0,32,80,8,128],(o0 0 10 .done)⟩
def R9:aJ:=⟨fk [0,0,0,6,0,16,63],fk [0,0,0,6,0,16,0],(o0 0 6 (nZ 6 .done))⟩
def VD:aJ:=⟨fk [0,1,0,4,0,28,60,0,252,511,1023],fk [0,1,0,4,0,24,32,0,192,258,0],(o0 0 10 (nZ 10 .done))⟩
def dtF (f r:Nat):Option aJ:=
  bif aae f 5 then (bif aae r 16 then some ZL else bif aae r 25 then some ZM else bif aae r 26 then some ZN else bif aae r 45 then some ZO else none) else
  bif aae f 21 then (bif aae r 9 then some ZP else none) else
  bif aae f 23 then (bif aae r 1 then some ZQ else none) else
  bif aae f 27 then (bif aae r 1 then some ZR else none) else
  bif aae f 28 then (bif aae r 16 then some Vi else none) else
  bif aae f 31 then (bif aae r 6 then some ZS else none) else
  bif aae f 35 then (bif aae r 1 then some ZT else bif aae r 7 then some ZU else none) else
  bif aae f 41 then (bif aae r 11 then some Vj else none) else
  bif aae f 42 then (bif aae r 11 then some Vk else none) else
  bif aae f 46 then (bif aae r 8 then some ZV else none) else
  bif aae f 48 then (bif aae r 6 then some ZW else none) else
  bif aae f 49 then (bif aae r 12 then some Vl else none) else
  bif aae f 50 then (bif aae r 6 then some ZX else none) else
  bif aae f 64 then (bif aae r 1 then some ZY else bif aae r 19 then some Vm else bif aae r 21 then some Vn else bif aae r 22 then some Vo else bif aae r 29 then some Vp else bif aae r 32 then some Vq else none) else
  bif aae f 68 then (bif aae r 6 then some ZZ else bif aae r 14 then some Vr else none) else
  bif aae f 71 then (bif aae r 1 then some Z0 else none) else
  bif aae f 73 then (bif aae r 5 then some Z1 else bif aae r 11 then some Vs else none) else
  bif aae f 74 then (bif aae r 9 then some Z2 else none) else
  bif aae f 78 then (bif aae r 7 then some Z3 else bif aae r 9 then some Z4 else bif aae r 19 then some Vt else bif aae r 21 then some Vu else bif aae r 27 then some Vv else bif aae r 30 then some Vw else none) else
  bif aae f 81 then (bif aae r 1 then some Z5 else none) else
  bif aae f 88 then (bif aae r 1 then some Z6 else none) else
  bif aae f 90 then (bif aae r 1 then some Z7 else none) else
  bif aae f 91 then (bif aae r 4 then some Z8 else bif aae r 5 then some Z9 else bif aae r 8 then some aaa else bif aae r 10 then some Vx else none) else
  bif aae f 92 then (bif aae r 1 then some aab else none) else
  bif aae f 93 then (bif aae r 10 then some Vy else none) else
  bif aae f 99 then (bif aae r 1 then some aac else none) else
  bif aae f 101 then (bif aae r 3 then some Vz else none) else
  bif aae f 111 then (bif aae r 2 then some VA else none) else
  bif aae f 115 then (bif aae r 3 then some VB else none) else
  bif aae f 117 then (bif aae r 1 then some VC else none) else
  bif aae f 118 then (bif aae r 10 then some R8 else bif aae r 23 then some R9 else none) else
  bif aae f 122 then (bif aae r 3 then some VD else none) else none
def okF (f:Nat):Bool:=Nat.blt f 144&&!(([3,4,6,7,8,9,13,14,29,30,32,34,36,38,39,43,69,70,76,82,105,109]:List Nat).any (aae f))
theorem Sa:(aal 144).all (fun f=>!okF f || match Try.prog.funcs[f]? with
  |some fn=>match fn.body with
    |some c=>bW (dtF f) c
    |none=>true
  |none=>true)=true:=by kernel_rfl
theorem VE (f:FuncId) (fn:Func) (c:Code) (h:okF f=true) (hf:Try.prog.funcs[f]?=some fn) (hb:fn.body=some c):bW (dtF f) c=true:=by
  have cI:f < 144:=by
    have:Nat.blt f 144=true:=by
      rw [okF,Bool.and_eq_true] at h
      exact h.1
    exact Nat.le_of_ble_eq_true this
  have h1:=List.all_eq_true.1 Sa f (List.mem_range.2 cI)
  rw [h,hf] at h1
  simp only [hb] at h1
  simpa using h1
noncomputable def aiu:Zr:={ toEnv:=env,dt:=dtF,okF:=okF,Xu:=VE }
end Go.Proofs.Ytegoimldbgdeiaa
