/- The abstract machine's surroundings for this program: its types as a table (printed by a program of ours,checked by the kernel). -/
import Derived.Test.YtegoimldbgdeiaaGreatProg
import Derived.Test.YtegoimldbgdeiaaGreatAmKL
import Derived.KernelRfl
set_option linter.all false
open List renaming range→aao
open Nat renaming beq→aal
namespace Go.Proofs.YtegoimldbgdeiaaGreat
open Go Go.Am
abbrev cM:aP:=(.agg (.cons (.list 2 (.agg (.cons .str (.cons (.list 2 (.agg (.ci (.ci .nil)))) .nil)))) (.cons (.list 5 (.agg (.ci (.ci (.ci (.ci (.cons .bool .nil))))))) .nil)))
abbrev aw:Type:=(List (Int × Int))
abbrev a6:Type:=(List (Int × Int × Int × Int × Bool))
abbrev ko:aP:=(.agg (.cons (.list 2 (.agg (.cons .str (.cons (.list 2 (.agg (.cons (.int .i64) (.cons (.int .i64) .nil)))) .nil)))) (.cons (.list 5 (.agg (.cons (.int .i64) (.cons (.int .i64) (.cons (.int .i64) (.cons (.int .i64) (.cons .bool .nil))))))) .nil)))
abbrev bC:aP:=(.agg (.ci (.ci .nil)))
abbrev a7:Type:=(List ((List UInt8) × aw))
abbrev nQ:aP:=(.agg (.ci (.ci (.ci (.ci (.cons .bool .nil))))))
abbrev fm:aP:=(.list 2 (.agg (.cons .str (.cons (.list 2 bC) .nil))))
abbrev dZ:Type:=(List (Int × Int × Int × Int))
abbrev fK:Type:=(List ((Int × Int) × Int))
abbrev bF:aP:=(.list 1 (.int .i64))
abbrev aM:Type:=(List Int)
abbrev th:aP:=(.agg (.cons (.int .i64) (.cons (.int .i64) .nil)))
abbrev gH:aP:=(.list 2 (.agg (.cons bC (.ci .nil))))
abbrev ni:Type:=(List ((List UInt8) × (Nat × Nat)))
abbrev bO:aP:=(.list 2 bC)
abbrev gI:aP:=(.agg (.ci (.ci (.ci (.ci .nil)))))
abbrev xU:Type:=(Int × Int × Int × Int × Int × Int × Int × Int × aM × (List (Int × Bool)) × fK × Int × aM)
abbrev eJ:Type:=(List UInt8)
abbrev ku:Type:=(Int × Int × Int × Int × Bool)
abbrev CZ:Type:=((Int × Int × Int × Int × Int × Int × Int × aM × (List (Int × Bool)) × fK × Int × aM))
abbrev C0:aP:=(.agg (.cons (.int .i64) (.cons (.int .i64) (.cons (.int .i64) (.cons (.int .i64) (.cons .bool .nil))))))
abbrev cR:aP:=(.list 5 nQ)
abbrev oq:aP:=(.list 2 (.agg (.ci (.cons .bool .nil))))
abbrev cp:Type:=(Int × Int)
abbrev dN:Type:=(a7 × a6)
abbrev JD:aP:=(.agg (.cons (.int .i64) (.cons (.int .i64) (.cons (.int .i64) (.cons (.int .i64) (.cons (.int .i64) (.cons (.int .i64) .nil)))))))
abbrev C1:Type:=(Int × Int × Int × (List aw) × a6 × ni × (Nat × Nat))
abbrev tj:aP:=(.agg (.cons .str (.cons bO .nil)))
abbrev F2:aP:=(.list 3 (.agg (.cons .bool (.cons (.int .i64) (.cons (.int .i64) .nil)))))
abbrev F4:Type:=((Bool × Int × aM × (List (Int × Bool)) × fK × Int × aM))
abbrev py:Type:=(Int × eJ × aw)
abbrev JE:Type:=(aw × dZ × aw × dZ × a7 × a6 × aw × fK × Int × aM)
abbrev jE:Type:=(eJ × aw)
abbrev C2:aP:=(.list 2 (.agg (.cons bC (.cons .bool .nil))))
abbrev lq:Type:=(Nat × Nat)
abbrev tk:Type:=(Int ⊕ (Int ⊕ Unit))
abbrev NE:Type:=(aw × dZ × aw × dZ × aw × a7 × a6 × aw × fK × aw × Int × aM)
abbrev lU:Type:=(List aw)
abbrev tn:Type:=(List (Int × Bool))
abbrev pz:aP:=(.list 2 th)
abbrev Be:Type:=(Int × Int × Int × Int)
abbrev JF:Type:=(Int × Int × lU × a6 × ni × lq)
abbrev NF:Type:=(aM × aM × aM × aw × aw × aw × Int × aM)
abbrev rZ:aP:=(.list 1 bO)
abbrev JG:Type:=(Int × lU × a6 × ni × lq)
abbrev JH:Type:=(aM × aM × Int × aw × aw)
abbrev NG:Type:=(aM × aM × aw × aw × Int × aM)
abbrev C3:Type:=(Int × a7 × a6)
abbrev F5:Type:=(Int ⊕ (Bool ⊕ Unit))
set_option maxRecDepth 100000
def zR (n:Nat) (x:AV):Option AV:=some (.agg (List.replicate n x))
def sK:Nat→Nat→Sw
  |0,_=>.nil
  |n+1,i=>.cons i 1 false .int (sK n (i+1))
def tB (t k : Nat) (a b : Option TI) : Option TI := bif Nat.ble t k then a else b
def tI (k : TK) (n : Nat) (a : Bool) (z : Option AV) (e : EK) : Option TI := some ⟨k, n, a, z, e⟩
def tiT (t : Nat) : Option TI :=
 tB t 126 (tB t 62 (tB t 30 (tB t 14 (tB t 6 (tB t 2 (tB t 0 (tI (.sc) 1 false (some (.bP [])) (.no))
 (tB t 1 (tI (.sc) 1 false (some (.eV)) (.no))
 (tI (.int .i64) 1 false (some (.int .i64 0)) (.int))))
 (tB t 4 (tB t 3 (tI (.int .i64) 1 false (some (.int .i64 0)) (.int))
 (tI (.sc) 1 false (some (.bool false)) (.bool)))
 (tB t 5 (tI (.int .u8) 1 false (some (.int .u8 0)) (.int))
 (tI (.int .u8) 1 false (some (.int .u8 0)) (.int)))))
 (tB t 10 (tB t 8 (tB t 7 (tI (.st [(0,1,false),(1,1,false),(2,1,false),(3,1,false)]) 4 true (some (.agg [.int .i64 0,.int .i64 0,.bool false,.int .u8 0])) ((.st (.cons 0 1 false .int (.cons 1 1 false .int (.cons 2 1 false .bool (.cons 3 1 false .int .nil)))))))
 (tI (.st [(0,1,false),(1,1,false),(2,1,false),(3,1,false)]) 4 true (some (.agg [.int .i64 0,.int .i64 0,.bool false,.int .u8 0])) ((.st (.cons 0 1 false .int (.cons 1 1 false .int (.cons 2 1 false .bool (.cons 3 1 false .int .nil))))))))
 (tB t 9 (tI (.str) 1 false (some (.str [])) (.str))
 (tI (.str) 1 false (some (.str [])) (.str))))
 (tB t 12 (tB t 11 (none)
 (tI (.int .u64) 1 false (some (.int .u64 0)) (.int)))
 (none))))
 (tB t 22 (tB t 18 (tB t 16 (tB t 15 (none)
 (tI (.sc) 1 false (some (.oW)) (.no)))
 (none))
 (tB t 20 (tB t 19 (none)
 (tI (.sc) 1 false (some (.sM)) (.no)))
 (tB t 21 (tI (.int .i32) 1 false (some (.int .i32 0)) (.int))
 (tI (.sl 92 2 true 40 (some (.agg [.str [],.list .nil 0 []]))) 1 false (some (.list .nil 0 [])) (.no)))))
 (tB t 26 (tB t 24 (tB t 23 (tI (.sl 79 5 true 40 (some (.agg [.int .i64 0,.int .i64 0,.int .i64 0,.int .i64 0,.bool false]))) 1 false (some (.list .nil 0 [])) (.no))
 (tI (.st [(0,1,false),(1,1,false)]) 2 true (some (.agg [.list .nil 0 [],.list .nil 0 []])) ((.st (.cons 0 1 false .no (.cons 1 1 false .no .nil))))))
 (tB t 25 (tI (.st [(0,1,false),(1,1,false)]) 2 true (some (.agg [.list .nil 0 [],.list .nil 0 []])) ((.st (.cons 0 1 false .no (.cons 1 1 false .no .nil)))))
 (none)))
 (tB t 28 (tB t 27 (none)
 (tI (.sl 37 1 false 24 (some (.list .nil 0 []))) 1 false (some (.list .nil 0 [])) (.no)))
 (tB t 29 (tI (.int .i64) 1 false (some (.int .i64 0)) (.int))
 (tI (.sc) 1 false (some (.bP [.list .nil 0 [],.int .i64 0])) (.no)))))))
 (tB t 46 (tB t 38 (tB t 34 (tB t 32 (tB t 31 (none)
 (tI (.sl 131 2 true 40 (some (.agg [.str [],.list .nil 0 []]))) 1 false (some (.list .nil 0 [])) (.no)))
 (tB t 33 (tI (.sl 110 5 true 40 (some (.agg [.int .i64 0,.int .i64 0,.int .i64 0,.int .i64 0,.bool false]))) 1 false (some (.list .nil 0 [])) (.no))
 (none)))
 (tB t 36 (tB t 35 (tI (.st [(0,1,false),(1,1,false)]) 2 true (some (.agg [.list .nil 0 [],.list .nil 0 []])) ((.st (.cons 0 1 false .no (.cons 1 1 false .no .nil)))))
 (none))
 (tB t 37 (tI (.sl 100 2 true 16 (some (.agg [.int .i64 0,.int .i64 0]))) 1 false (some (.list .nil 0 [])) (.no))
 (tI (.sc) 1 false (some (.bP [.list .nil 0 [],.int .i64 0,.int .i64 0])) (.no)))))
 (tB t 42 (tB t 40 (tB t 39 (none)
 (tI (.sl 53 3 true 24 (some (.agg [.bool false,.int .i64 0,.int .i64 0]))) 1 false (some (.list .nil 0 [])) (.no)))
 (tB t 41 (tI (.sc) 1 false (some (.bP [.list .nil 0 [],.int .i64 0])) (.no))
 (none)))
 (tB t 44 (none)
 (tB t 45 (none)
 (tI (.sl 52 3 true 24 (some (.agg [.bool false,.int .i64 0,.int .i64 0]))) 1 false (some (.list .nil 0 [])) (.no))))))
 (tB t 54 (tB t 50 (tB t 48 (tB t 47 (none)
 (tI (.sc) 1 false (some (.eV)) (.no)))
 (none))
 (tB t 52 (tB t 51 (none)
 (tI (.st [(0,1,false),(1,1,false),(2,1,false)]) 3 true (some (.agg [.bool false,.int .i64 0,.int .i64 0])) ((.st (.cons 0 1 false .bool (.cons 1 1 false .int (.cons 2 1 false .int .nil)))))))
 (tB t 53 (tI (.st [(0,1,false),(1,1,false),(2,1,false)]) 3 true (some (.agg [.bool false,.int .i64 0,.int .i64 0])) ((.st (.cons 0 1 false .bool (.cons 1 1 false .int (.cons 2 1 false .int .nil))))))
 (none))))
 (tB t 58 (tB t 56 (tB t 55 (none)
 (tI (.sl 59 1 false 24 (some (.list .nil 0 []))) 1 false (some (.list .nil 0 [])) (.no)))
 (tB t 57 (tI (.sc) 1 false (some (.bP [.list .nil 0 [],.int .i64 0])) (.no))
 (tI (.sc) 1 false (some (.eV)) (.no))))
 (tB t 60 (tB t 59 (tI (.sl 3 1 false 8 (some (.int .i64 0))) 1 false (some (.list .nil 0 [])) (.no))
 (tI (.sc) 1 false (some (.bP [.list .nil 0 [],.int .i64 0])) (.no)))
 (none))))))
 (tB t 94 (tB t 78 (tB t 70 (tB t 66 (tB t 64 (tB t 63 (tI (.st [(0,1,false),(1,1,false),(2,1,false),(3,1,false),(4,1,false),(5,1,false)]) 6 true (zR 6 (.int .i64 0)) ((.st (sK 6 0))))
 (tI (.sc) 1 false (none) (.no)))
 (tB t 65 (tI (.sc) 1 false (some (.eV)) (.no))
 (tI (.sc) 1 false (some (.eV)) (.no))))
 (none))
 (tB t 74 (tB t 72 (none)
 (tB t 73 (tI (.st [(0,1,false),(1,1,false)]) 2 true (some (.agg [.int .i64 0,.list .nil 0 []])) ((.st (.cons 0 1 false .int (.cons 1 1 false .no .nil)))))
 (none)))
 (tB t 76 (none)
 (tB t 77 (tI (.st [(0,1,false),(1,1,false)]) 2 true (some (.agg [.int .i64 0,.int .i64 0])) ((.st (sK 2 0))))
 (none)))))
 (tB t 86 (tB t 82 (tB t 80 (tB t 79 (tI (.st [(0,2,true),(2,2,true),(4,1,false)]) 5 true (some (.agg [.int .i64 0,.int .i64 0,.int .i64 0,.int .i64 0,.bool false])) ((.st (.cons 0 2 true (.st (sK 2 0)) (.cons 2 2 true (.st (sK 2 0)) (.cons 4 1 false .bool .nil))))))
 (tI (.sc) 1 false (some (.eV)) (.no)))
 (tB t 81 (tI (.st [(0,1,false),(1,1,false)]) 2 true (some (.agg [.int .i64 0,.list .nil 0 []])) ((.st (.cons 0 1 false .int (.cons 1 1 false .no .nil)))))
 (none)))
 (tB t 84 (tB t 83 (tI (.sl 119 3 true 24 (some (.agg [.int .i64 0,.int .i64 0,.bool false]))) 1 false (some (.list .nil 0 [])) (.no))
 (tI (.sc) 1 false (some (.bP [.list .nil 0 [],.int .i64 0])) (.no)))
 (none)))
 (tB t 90 (tB t 88 (none)
 (tB t 89 (none)
 (tI (.sl 94 2 true 16 (some (.agg [.int .i64 0,.int .i64 0]))) 1 false (some (.list .nil 0 [])) (.no))))
 (tB t 92 (tB t 91 (none)
 (tI (.st [(0,1,false),(1,1,false)]) 2 true (some (.agg [.str [],.list .nil 0 []])) ((.st (.cons 0 1 false .str (.cons 1 1 false .no .nil))))))
 (tB t 93 (tI (.st [(0,1,false),(1,1,false)]) 2 true (some (.agg [.int .i64 0,.int .i64 0])) ((.st (sK 2 0))))
 (tI (.st [(0,1,false),(1,1,false)]) 2 true (some (.agg [.int .i64 0,.int .i64 0])) ((.st (sK 2 0)))))))))
 (tB t 110 (tB t 102 (tB t 98 (tB t 96 (tB t 95 (tI (.sc) 1 false (some (.eV)) (.no))
 (none))
 (tB t 97 (tI (.st [(0,1,false),(1,2,true),(3,2,true)]) 5 true (some (.agg [.list .nil 0 [],.int .i64 0,.int .i64 0,.int .i64 0,.int .i64 0])) ((.st (.cons 0 1 false .no (.cons 1 2 true (.st (sK 2 0)) (.cons 3 2 true (.st (sK 2 0)) .nil))))))
 (tI (.sc) 1 false (some (.bP [.int .i64 0,.int .i64 0])) (.no))))
 (tB t 100 (tB t 99 (tI (.sc) 1 false (some (.eV)) (.no))
 (tI (.st [(0,1,false),(1,1,false)]) 2 true (some (.agg [.int .i64 0,.int .i64 0])) ((.st (sK 2 0)))))
 (tB t 101 (tI (.sc) 1 false (some (.eV)) (.no))
 (tI (.sc) 1 false (some (.bP [.list .nil 0 [],.bool false])) (.no)))))
 (tB t 106 (tB t 104 (tB t 103 (tI (.sc) 1 false (some (.eV)) (.no))
 (none))
 (tB t 105 (tI (.sc) 1 false (some (.eV)) (.no))
 (tI (.arr 2 1 false) 2 true (some (.agg [.int .i64 0,.int .i64 0])) ((.st (sK 2 0))))))
 (tB t 108 (tB t 107 (tI (.sc) 1 false (none) (.no))
 (tI (.sc) 1 false (some (.eV)) (.no)))
 (tB t 109 (tI (.st [(0,2,true),(2,2,true),(4,1,false)]) 5 true (some (.agg [.int .i64 0,.int .i64 0,.int .i64 0,.int .i64 0,.bool false])) ((.st (.cons 0 2 true (.st (sK 2 0)) (.cons 2 2 true (.st (sK 2 0)) (.cons 4 1 false .bool .nil))))))
 (tI (.st [(0,2,true),(2,2,true),(4,1,false)]) 5 true (some (.agg [.int .i64 0,.int .i64 0,.int .i64 0,.int .i64 0,.bool false])) ((.st (.cons 0 2 true (.st (sK 2 0)) (.cons 2 2 true (.st (sK 2 0)) (.cons 4 1 false .bool .nil))))))))))
 (tB t 118 (tB t 114 (tB t 112 (tB t 111 (tI (.sc) 1 false (some (.eV)) (.no))
 (tI (.sc) 1 false (some (.eV)) (.no)))
 (tB t 113 (none)
 (tI (.sc) 1 false (some (.eV)) (.no))))
 (tB t 116 (tB t 115 (tI (.sc) 1 false (some (.eV)) (.no))
 (tI (.sc) 1 false (some (.eV)) (.no)))
 (tB t 117 (tI (.sc) 1 false (some (.eV)) (.no))
 (tI (.st [(0,2,true),(2,1,false)]) 3 true (some (.agg [.int .i64 0,.int .i64 0,.bool false])) ((.st (.cons 0 2 true (.st (sK 2 0)) (.cons 2 1 false .bool .nil))))))))
 (tB t 122 (tB t 120 (tB t 119 (tI (.st [(0,2,true),(2,1,false)]) 3 true (some (.agg [.int .i64 0,.int .i64 0,.bool false])) ((.st (.cons 0 2 true (.st (sK 2 0)) (.cons 2 1 false .bool .nil)))))
 (tI (.st [(0,1,false),(1,1,false),(2,1,false)]) 3 true (some (.agg [.str [],.int .i64 0,.int .i64 0])) ((.st (.cons 0 1 false .str (.cons 1 1 false .int (.cons 2 1 false .int .nil)))))))
 (tB t 121 (tI (.st [(0,1,false),(1,1,false),(2,1,false)]) 3 true (some (.agg [.str [],.int .i64 0,.int .i64 0])) ((.st (.cons 0 1 false .str (.cons 1 1 false .int (.cons 2 1 false .int .nil))))))
 (tI (.sl 121 3 true 32 (some (.agg [.str [],.int .i64 0,.int .i64 0]))) 1 false (some (.list .nil 0 [])) (.no))))
 (tB t 124 (tB t 123 (tI (.sc) 1 false (some (.bP [.int .i64 0,.int .i64 0,.int .i64 0])) (.no))
 (none))
 (tB t 125 (tI (.sc) 1 false (none) (.no))
 (none))))))))
 (tB t 190 (tB t 158 (tB t 142 (tB t 134 (tB t 130 (tB t 128 (none)
 (tB t 129 (tI (.sl 132 2 true 16 (some (.agg [.int .i64 0,.int .i64 0]))) 1 false (some (.list .nil 0 [])) (.no))
 (none)))
 (tB t 132 (tB t 131 (tI (.st [(0,1,false),(1,1,false)]) 2 true (some (.agg [.str [],.list .nil 0 []])) ((.st (.cons 0 1 false .str (.cons 1 1 false .no .nil)))))
 (tI (.st [(0,1,false),(1,1,false)]) 2 true (some (.agg [.int .i64 0,.int .i64 0])) ((.st (sK 2 0)))))
 (tB t 133 (none)
 (tI (.sc) 1 false (some (.eV)) (.no)))))
 (tB t 138 (tB t 136 (none)
 (tB t 137 (none)
 (tI (.sc) 1 false (some (.eV)) (.no))))
 (none)))
 (tB t 150 (tB t 146 (none)
 (tB t 148 (tB t 147 (tI (.map 100 3 (some (.int .i64 0))) 1 false (some (.mb)) (.no))
 (none))
 (tB t 149 (tI (.sc) 1 false (some (.eV)) (.no))
 (tI (.sc) 1 false (some (.eV)) (.no)))))
 (tB t 154 (none)
 (tB t 156 (tB t 155 (none)
 (tI (.st [(0,1,false),(1,1,false)]) 2 true (some (.agg [.list .nil 0 [],.list .nil 0 []])) ((.st (.cons 0 1 false .no (.cons 1 1 false .no .nil))))))
 (tB t 157 (tI (.sc) 1 false (some (.oW)) (.no))
 (tI (.sc) 1 false (none) (.no)))))))
 (tB t 174 (tB t 166 (tB t 162 (none)
 (tB t 164 (tB t 163 (tI (.sc) 1 false (some (.eV)) (.no))
 (tI (.sc) 1 false (some (.bP [.int .i64 0,.bool false])) (.no)))
 (tB t 165 (tI (.map 3 3 (some (.int .i64 0))) 1 false (some (.mb)) (.no))
 (tI (.sc) 1 false (some (.bP [.mb,.list .nil 0 []])) (.no)))))
 (tB t 170 (none)
 (tB t 172 (none)
 (tB t 173 (tI (.sc) 1 false (some (.eV)) (.no))
 (tI (.sc) 1 false (some (.eV)) (.no))))))
 (tB t 182 (tB t 178 (none)
 (tB t 180 (none)
 (tB t 181 (tI (.sc) 1 false (some (.eV)) (.no))
 (none))))
 (tB t 186 (tB t 184 (tB t 183 (tI (.sc) 1 false (some (.eV)) (.no))
 (none))
 (none))
 (tB t 188 (tB t 187 (tI (.map 100 4 (some (.bool false))) 1 false (some (.mb)) (.no))
 (none))
 (tB t 189 (tI (.arr 2 2 true) 4 true (zR 4 (.int .i64 0)) ((.st (.cons 0 2 true (.st (sK 2 0)) (.cons 2 2 true (.st (sK 2 0)) .nil)))))
 (none)))))))
 (tB t 222 (tB t 206 (tB t 198 (tB t 194 (tB t 192 (tB t 191 (tI (.sc) 1 false (none) (.no))
 (none))
 (tB t 193 (none)
 (tI (.sl 106 2 true 16 (some (.agg [.int .i64 0,.int .i64 0]))) 1 false (some (.list .nil 0 [])) (.no))))
 (tB t 196 (tB t 195 (none)
 (tI (.sc) 1 false (some (.eV)) (.no)))
 (tB t 197 (none)
 (tI (.sc) 1 false (some (.eV)) (.no)))))
 (tB t 202 (tB t 200 (tB t 199 (tI (.map 3 4 (some (.bool false))) 1 false (some (.mb)) (.no))
 (tI (.sc) 1 false (some (.eV)) (.no)))
 (tB t 201 (tI (.sc) 1 false (some (.eV)) (.no))
 (none)))
 (tB t 204 (none)
 (tB t 205 (none)
 (tI (.sl 189 4 true 32 (zR 4 (.int .i64 0))) 1 false (some (.list .nil 0 [])) (.no))))))
 (tB t 214 (tB t 210 (tB t 208 (tB t 207 (tI (.arr 2 4 true) 8 true (zR 8 (.int .i64 0)) ((.st (.cons 0 4 true (.st (.cons 0 2 true (.st (sK 2 0)) (.cons 2 2 true (.st (sK 2 0)) .nil))) (.cons 4 4 true (.st (.cons 0 2 true (.st (sK 2 0)) (.cons 2 2 true (.st (sK 2 0)) .nil))) .nil)))))
 (none))
 (none))
 (tB t 212 (none)
 (tB t 213 (none)
 (tI (.sl 29 1 false 8 (some (.int .i64 0))) 1 false (some (.list .nil 0 [])) (.no)))))
 (tB t 218 (tB t 216 (tB t 215 (none)
 (tI (.map 3 83 (some (.list .nil 0 []))) 1 false (some (.mb)) (.no)))
 (tB t 217 (tI (.sc) 1 false (some (.eV)) (.no))
 (none)))
 (tB t 220 (tB t 219 (none)
 (tI (.sc) 1 false (some (.eV)) (.no)))
 (none)))))
 (tB t 238 (tB t 230 (tB t 226 (tB t 224 (none)
 (tB t 225 (none)
 (tI (.sc) 1 false (some (.eV)) (.no))))
 (tB t 228 (tB t 227 (none)
 (tI (.sc) 1 false (some (.eV)) (.no)))
 (tB t 229 (tI (.sc) 1 false (none) (.no))
 (none))))
 (tB t 234 (none)
 (tB t 236 (tB t 235 (tI (.sl 83 1 false 24 (some (.list .nil 0 []))) 1 false (some (.list .nil 0 [])) (.no))
 (none))
 (none))))
 (none))))
def Zi (t:Nat):Option TI:=bif Nat.ble 255 t then none else tiT t
theorem Qi:(aao 255).map (fun t=>match Zi t with | none=>none | some _=>Ke Tryz.prog t)=(aao 255).map Zi:=by kernel_rfl
theorem Kf (t:TypeId) (i:TI) (h:Zi t=some i):Ke Tryz.prog t=some i:=by
  by_cases ht:t < 255
  · have h1:=congrArg (fun l=>l[t]?) Qi
    simp only [List.getElem?_map,List.getElem?_range ht,Option.map_some,Option.some.injEq] at h1
    rw [h] at h1
    exact h1
  · have hb:Nat.ble 255 t=true:=Nat.ble_eq_true_of_le (Nat.not_lt.1 ht)
    rw [Zi,hb] at h
    cases h
def Zj:List ((Nat × Nat) × List (Option Nat × Nat × Nat)):=[((21,17),[(none,131073,3)]),((21,18),[(some 18,196609,1048578)]),((25,2),[(none,983041,3)]),((25,3),[(none,1,59)]),((25,5),[(none,1,3)]),((25,39),[(some 39,0,1048577)]),((27,6),[(some 0,1,3)]),((47,32),[(none,983042,132)]),((47,96),[(some 96,8650754,1048580)]),((75,1),[(none,2031617,3),(none,2031617,59)]),((75,176),[(some 14,0,1048576)]),((81,148),[(some 20,0,1048576)])]
def S9:List ((Nat × Nat) × List (Option Nat × Nat × Nat))→Nat→Nat→List (Option Nat × Nat × Nat)
  |[],_,_=>[]
  |((a,b),x) :: l,f,t=>bif aal a f&&aal b t then x else S9 l f t
def acZ (f t:Nat):List (Option Nat × Nat × Nat):=S9 Zj f t
def ac0 (f t:Nat):Bool:=
  (aal f 1000000&&aal t 1000000) ||
  (aal f 21&&(aal t 5 || aal t 6 || aal t 196626 || aal t 327716 || aal t 458788)) ||
  (aal f 25&&(aal t 40)) ||
  (aal f 27&&(aal t 6)) ||
  (aal f 30&&(aal t 131072)) ||
  (aal f 33&&(aal t 2)) ||
  (aal f 34&&(aal t 5 || aal t 7 || aal t 8 || aal t 131072 || aal t 131074)) ||
  (aal f 38&&(aal t 2)) ||
  (aal f 45&&(aal t 131072)) ||
  (aal f 46&&(aal t 131072)) ||
  (aal f 47&&(aal t 3 || aal t 8 || aal t 131072)) ||
  (aal f 50&&(aal t 131072 || aal t 131074 || aal t 196620)) ||
  (aal f 61&&(aal t 5 || aal t 131072)) ||
  (aal f 62&&(aal t 3 || aal t 5)) ||
  (aal f 63&&(aal t 3 || aal t 5 || aal t 6)) ||
  (aal f 67&&(aal t 196624)) ||
  (aal f 68&&(aal t 131072 || aal t 196629)) ||
  (aal f 71&&(aal t 1)) ||
  (aal f 75&&(aal t 197 || aal t 65585 || aal t 131072 || aal t 196635 || aal t 524345 || aal t 589842 || aal t 589846)) ||
  (aal f 81&&(aal t 1 || aal t 2 || aal t 3 || aal t 4 || aal t 5 || aal t 6 || aal t 7 || aal t 11)) ||
  (aal f 90&&(aal t 196615)) ||
  (aal f 98&&(aal t 4)) ||
  (aal f 99&&(aal t 1 || aal t 3)) ||
  (aal f 103&&(aal t 196618)) ||
  (aal f 105&&(aal t 196618)) ||
  (aal f 120&&(aal t 131072)) ||
  (aal f 123&&(aal t 196613)) ||
  (aal f 124&&(aal t 196618)) ||
  (aal f 129&&(aal t 21 || aal t 196618)) ||
  (aal f 138&&(aal t 2))
def Ta:cX:=[]
theorem Qj:Ta.all (fun p=>aF p.2)=true:=by kernel_rfl
def Zk (g:Nat):Option (List AV):=dR Ta g
noncomputable def env:Env:={ P:=Tryz.prog,ti:=Zi,dF:=Zk,zg:=ac0,Pm:=fun _=>none,gho:=acZ,Kf:=Kf,mixed:=by kernel_rfl,Dm:=fun _ _ h=>Ps Qj h }
def dj (l:List Nat):List (List Nat):=l.map fun m=>(aao (m.log2+1)).filter m.testBit
def jU (a:Nat):Nat→DT→DT
 | 0,t=>t
 | n+1,t=>DS (a+1) fun b=>.take a [] (jU b n t)
def hX (i:Nat) (t:DT):DT:=.br i [] [] t .stop
def Zl:ay:=⟨dj [0,1,0,4,0,16,0,64,252,511,1023,2047,2047,0,12287,32767],dj [0,0,0,4,0,16,0,64,168,0,512,1024,1024,0,0,4096],(.al 13 [3,4,28,29,30,31,32,33,34,35,36,37,38] (.take 0 [] (.take 2 [] (.take 3 [3] (.take 4 [3] (.take 5 [5,3] (.take 6 [5,3] (.take 7 [7,5,3] (.take 8 [7,5,3] (.br 1 [7,5,3] [] (hX 9 (jU 10 3 (hX 14 (.take 15 [] .done)))) .stop))))))))))⟩
def Zm:ay:=⟨dj [0,1,0,4,15,31,63,63,0,383,1023],dj [0,0,0,4,0,16,32,32,0,0,128],(.al 8 [3,5,41,42,43,44,45,46] (.take 0 [] (.take 2 [] (.take 3 [3] (.br 1 [3] [] (hX 4 (jU 5 3 (hX 9 (.take 10 [] .done)))) .stop)))))⟩
def Zn:ay:=⟨dj [0,1,0,4,15,31,63,63,0,383,1023],dj [0,0,0,4,0,16,32,32,0,0,128],(.al 8 [3,5,49,50,51,52,53,54] (.take 0 [] (.take 2 [] (.take 3 [3] (.br 1 [3] [] (hX 4 (jU 5 3 (hX 9 (.take 10 [] .done)))) .stop)))))⟩
def Va:ay:=⟨dj [0,1,0,0,8,28,0,64,252,511,1023],dj [0,1,0,0,8,0,0,64,0,258,0],(.take 0 [] (.take 1 [1] (.take 2 [1] (.take 3 [1] (.take 4 [1] (.take 6 [6,1] (.take 7 [6,1] (.br 5 [6,1] [1] (.br 8 [1] [] (.take 9 [] (hX 10 .done)) .stop) .stop))))))))⟩
def Vb:ay:=⟨dj [0,0,3,7,15,31,15,127,255,511,1023,1023,4095,8191,16383,32767,65535,32767,262143,524287,1048575,2097151,2097151,8388607,16777215,33554431,67108863,134217727,67108863,536870911,1073741823,2147483647],dj [0,0,3,4,8,0,8,0,136,256,512,512,3584,4608,8192,16384,0,16384,0,278528,524288,1048576,1048576,7340032,9437184,16777216,33554432,0,33554432,0,570425344,1073741824],(jU 0 5 (.take 6 [6] (.br 5 [6] [] (hX 7 (jU 8 8 (.take 17 [17] (.br 16 [17] [] (hX 18 (jU 19 8 (.take 28 [28] (.br 27 [28] [] (hX 29 (jU 30 2 .done)) .stop)))) .stop)))) .stop)))⟩
def Vc:ay:=⟨dj [0,0,3,0,8,24,0,64,248,0,512,2047,0,8191],dj [0,0,0,0,8,16,0,64,160,0,512,1284,0,0],(.al 12 [1,6,7,24,25,26,27,28,29,30,31,32,33,34] (jU 0 2 (.take 3 [] (.take 4 [4] (.take 5 [4] (.take 6 [4] (.take 7 [7,4] (.take 8 [7,4] (.take 9 [7,4] (.take 10 [10,7,4] (.br 2 [10,7,4] [] (.take 11 [] (hX 13 .done)) .stop)))))))))))⟩
def Qk:ay:=⟨dj [0,0,2,0,14,0,32,0,224,480,1023,2047],dj [0,0,2,0,12,0,32,0,192,256,0,1024],(jU 0 10 (hX 10 (.take 11 [] .done)))⟩
def Vd:ay:=⟨dj [0,0,2,0,0,16,56,120,0,0,768,1792,4088,8191,16383],dj [0,0,2,0,0,16,40,64,0,0,768,1024,0,5,0],(.take 0 [0] (.take 1 [0] (.take 2 [2,0] (.take 3 [2,0] (.take 4 [2,0] (.take 5 [2,0] (.take 6 [2,0] (.take 7 [2,0] (.take 8 [2,0] (.take 9 [2,0] (.take 10 [2,0] (.take 11 [2,0] (.br 12 [2,0] [] (.take 13 [] (hX 14 .done)) .stop)))))))))))))⟩
def Ve:ay:=⟨dj [0,0,3,7,0,0,48,112,255,511],dj [0,0,3,4,0,0,48,64,0,256],(jU 0 8 (hX 8 (.take 9 [] .done)))⟩
def Vf:ay:=⟨dj [0,0,3,7,0,0,48,112,255],dj [0,0,3,4,0,0,48,64,136],(jU 0 9 .done)⟩
def Vg:ay:=⟨dj [0,1,0,4,12,28,63,0,128,384,1023,2047,4095,2047,10239,26623,65535,131071,262143,524287,1048575,2097151],dj [0,0,0,4,8,16,0,0,128,256,512,1024,3072,1024,9216,17408,37888,66560,0,262210,0,1048576],(.take 0 [] (.take 2 [] (.take 3 [3] (.take 4 [4,3] (.take 5 [4,3] (.take 7 [4,3] (.take 8 [8,4,3] (.take 9 [8,4,3] (.br 1 [8,4,3] [8] (.br 6 [8] [] (jU 10 8 (hX 18 (.take 19 [] (hX 20 (.take 21 [] .done))))) .stop) .stop)))))))))⟩
def Ql:ay:=⟨dj [0,0,2,0,0,16,56,120,0,0,0,1536,3840,7936,16376,32767,65535],dj [0,0,2,0,0,16,40,64,0,0,0,1536,2304,4096,0,5,0],(.take 0 [0] (.take 1 [0] (.take 2 [2,0] (.take 3 [2,0] (.take 4 [2,0] (.take 5 [2,0] (.take 6 [2,0] (.take 7 [2,0] (.take 8 [2,0] (.take 9 [2,0] (.take 10 [2,0] (.take 11 [2,0] (.take 12 [2,0] (.take 13 [2,0] (.br 14 [2,0] [] (.take 15 [] (hX 16 .done)) .stop)))))))))))))))⟩
def Qm:ay:=⟨dj [0,0,0,7,0,0,0,127,255],dj [0,0,0,0,0,0,0,0,136],(jU 0 3 (.take 4 [4] (.take 5 [5,4] (.take 6 [5,4] (.br 3 [5,4] [] (hX 7 (.take 8 [] .done)) .stop)))))⟩
def Vh:ay:=⟨dj [0,1,3,7,15,31,15,79,207,511,1023,2047,4095,8191,16383,32767,65535,131071,262143,131071,655359,131071,2228223,7995391,16383999,33161215,66715647,134217727,268435455,536870911],dj [0,1,2,4,8,24,8,72,136,296,520,1024,2048,6144,10240,18432,32768,65536,196608,65536,589824,65536,2162688,5308416,8454144,16842752,33619968,67436544,134283264,268435456],(jU 0 30 .done)⟩
def Vi:ay:=⟨dj [0,1,0,4,12,28,63,127,255,511],dj [0,0,0,4,8,16,0,66,0,256],(.take 0 [] (.take 2 [] (.take 3 [3] (.take 4 [4,3] (.take 5 [4,3] (.br 1 [4,3] [] (hX 6 (.take 7 [] (hX 8 (.take 9 [] .done)))) .stop))))))⟩
def Vj:ay:=⟨dj [0,1,0,4,15,31,31,95,223,511,1023,2047,4095,8191,16383],dj [0,0,0,4,8,16,16,80,144,304,528,0,2050,0,8192],(.take 0 [] (.take 2 [2] (.take 3 [2] (.br 1 [2] [] (jU 4 7 (hX 11 (.take 12 [] (hX 13 (.take 14 [] .done))))) .stop))))⟩
def Qn:ay:=⟨dj [0,0,0,0,12,28,60,124,255,511,1023],dj [0,0,0,0,12,16,32,64,3,256,0],(jU 0 10 (hX 10 .done))⟩
def Qo:ay:=⟨dj [0,1,0,0,0,16,56,0,0,256,1016,0,4088,8191,16383],dj [0,1,0,0,0,16,0,0,0,256,0,0,3136,6,0],(.take 0 [] (.take 1 [1] (.take 2 [1] (.take 3 [1] (.take 4 [1] (.take 5 [1] (.take 7 [1] (.take 8 [1] (.take 9 [9,1] (.take 11 [9,1] (.br 6 [9,1] [1] (.br 10 [1] [] (jU 12 2 (hX 14 .done)) .stop) .stop)))))))))))⟩
def Qp:ay:=⟨dj [0,0,2,7,15,0,0,64,239,495,511,2047],dj [0,0,2,0,8,0,0,64,0,256,16,512],(jU 0 3 (.take 5 [5] (.take 6 [5] (.take 7 [7,5] (.br 3 [7,5] [] (.take 4 [] (hX 8 (jU 9 3 .done))) .stop)))))⟩
def Vk:ay:=⟨dj [0,1,0,4,0,28,60,124,255,511,1023],dj [0,1,0,4,0,24,32,64,0,0,0],(jU 0 8 (hX 8 (.take 9 [] (hX 10 .done))))⟩
def Qq:ay:=⟨dj [0,1,0,0,15,0,32,0,0,511,127,2047,4095,8191],dj [0,1,0,0,0,0,32,0,0,0,0,0,0,0],(jU 0 4 (.take 5 [] (.take 6 [6] (.take 7 [6] (.take 8 [6] (.br 4 [6] [] (.take 10 [] (hX 9 (hX 11 (.take 12 [] (hX 13 .done))))) .stop))))))⟩
def Vl:ay:=⟨dj [0,1,0,7,15,31,0,64,0,448,960,1984,4095,8191,16383,32767,16383,131071,262143,524287,1048575,16383,2113535,16383,14696447,31473663,65028095,132136959,268435455,536870911],dj [0,1,0,6,8,16,0,64,0,384,512,1024,2080,4096,8192,24576,8192,106496,139264,270336,532480,8192,2105344,8192,12591104,16785408,33562624,67117056,135274496,268443648],(jU 0 30 .done)⟩
def Qr:ay:=⟨dj [0,1,0,7,15,31,0,127,255,0,512,0,3584,7680,15872,0,65024,130560,262143],dj [0,1,0,6,8,16,0,96,128,0,512,0,3072,4096,8192,0,49152,65536,131328],(jU 0 19 .done)⟩
def Qs:ay:=⟨dj [0,1,0,7,15,0,32,0,224,480,1023],dj [0,1,0,6,8,0,32,0,192,256,528],(jU 0 11 .done)⟩
def Vm:ay:=⟨dj [0,1,3,7,15,0,32,96,224,511,0,1024,0,4096,12288,28672,64512,131071,0,262144,786432,1835008,4194303,8388607,16777215,33554431],dj [0,1,2,4,0,0,32,64,128,0,0,1024,0,4096,8192,16384,34816,0,0,262144,524288,1048576,0,4325904,0,16777216],(jU 0 4 (.take 5 [] (.take 6 [6] (.take 7 [7,6] (.take 8 [7,6] (.take 10 [7,6] (.take 11 [11,7,6] (.take 12 [11,7,6] (.take 13 [13,11,7,6] (.take 14 [14,13,11,7,6] (.take 15 [15,14,13,11,7,6] (.take 16 [15,14,13,11,7,6] (.take 18 [15,14,13,11,7,6] (.take 19 [19,15,14,13,11,7,6] (.take 20 [20,19,15,14,13,11,7,6] (.take 21 [20,19,15,14,13,11,7,6] (.br 4 [20,19,15,14,13,11,7,6] [20,19,15,14,13,11] (.br 9 [20,19,15,14,13,11] [20,19] (.br 17 [20,19] [] (hX 22 (.take 23 [] (hX 24 (.take 25 [] .done)))) .stop) .stop) .stop)))))))))))))))))⟩
def Vn:ay:=⟨dj [0,0,0,4,0,28,63,127],dj [0,0,0,4,0,24,0,64],(jU 0 6 (hX 6 (.take 7 [] .done)))⟩
def Vo:ay:=⟨dj [0,0,3,7,15,0,0,96,224,480,1023],dj [0,0,3,4,8,0,0,96,128,256,528],(jU 0 11 .done)⟩
def Qt:ay:=⟨dj [0,1,3,0,8,31,63,127,255],dj [0,1,0,0,8,0,36,0,128],(jU 0 2 (.take 3 [] (.take 4 [4] (.br 2 [4] [] (hX 5 (.take 6 [] (hX 7 (.take 8 [] .done)))) .stop))))⟩
def Vp:ay:=⟨dj [0,1,0,4,15,31,63,0,128,511,1023,2047],dj [0,1,0,4,10,16,32,0,128,320,512,0],(jU 0 11 (hX 11 .done))⟩
def Vq:ay:=⟨dj [0,1,3,7,0,16,48,112,255,0,1023],dj [0,1,2,0,0,16,32,0,136,0,0],(.al 9 [1,15,16,17,18,19,20,21,22] (.take 0 [] (.take 1 [1] (.take 2 [2,1] (.take 4 [2,1] (.take 5 [5,2,1] (.take 6 [6,5,2,1] (.br 3 [6,5] [2,1] (.br 7 [2,1] [] (.take 8 [] (hX 10 .done)) .stop) (.br 7 [2,1] [6,5] (.br 3 [6,5] [] (.take 8 [] (hX 10 .done)) .stop) .stop)))))))))⟩
def Qu:ay:=⟨dj [0,1,0,0,0,0,32,0,224,480,0,999,3047,8191,16383],dj [0,1,0,0,0,0,32,0,192,256,0,6,0,24,0],(jU 0 12 (hX 12 (.take 13 [] (hX 14 .done))))⟩
def Qv:ay:=⟨dj [0,1,0,0,8,0,56,120,248,511,1023],dj [0,1,0,0,8,0,48,64,128,6,0],(jU 0 10 (hX 10 .done))⟩
def Qw:ay:=⟨dj [0,1,0,0,8,0,56,120,248,0,512,2040,4095,8191],dj [0,1,0,0,8,0,48,64,0,0,512,0,6,0],(.take 0 [] (.take 1 [1] (.take 2 [1] (.take 3 [1] (.take 4 [1] (.take 5 [1] (.take 6 [1] (.take 7 [1] (.take 9 [1] (.take 10 [1] (.br 8 [1] [1] (.br 11 [1] [] (.take 12 [] (hX 13 .done)) .stop) .stop)))))))))))⟩
def Qx:ay:=⟨dj [0,1,0,4,12,31,63,0,128,0,512,1536,3968,8064,16383,0,32768,131071],dj [0,1,0,4,8,18,32,0,128,0,512,1024,2304,4096,8256,0,32768,81920],(jU 0 18 .done)⟩
def Qy:ay:=⟨dj [0,0,0,4,12,30,62,0,128,0,512,1536,3968,8064,0,16384,0,130944,262016,524286,1048574,524161,4194303],dj [0,0,0,4,8,18,32,0,128,0,512,1024,2304,4096,0,16384,0,106496,0,262208,0,0,1048576],(.take 0 [0] (.take 1 [0] (.take 2 [0] (.take 3 [0] (.take 4 [4,0] (.take 5 [4,0] (.take 6 [6,4,0] (.take 7 [6,4,0] (.take 8 [6,4,0] (.take 9 [6,4,0] (.take 10 [6,4,0] (.take 11 [6,4,0] (.take 12 [6,4,0] (.take 13 [6,4,0] (.take 14 [6,4,0] (.take 15 [6,4,0] (.take 16 [6,4,0] (.take 17 [6,4,0] (.br 18 [6,4,0] [6,4,0] (.take 19 [6,4,0] (.br 20 [0] [6,4] (.br 21 [6,4] [] (.take 22 [] .done) .stop) (.br 21 [6,4] [0] (.br 20 [0] [] (.take 22 [] .done) .stop) .stop))) .stop)))))))))))))))))))⟩
def Vr:ay:=⟨dj [0,0,0,6,15,31,63,63,127,511],dj [0,0,0,6,9,16,32,32,64,128],(jU 0 10 .done)⟩
def Vs:ay:=⟨dj [0,0,0,6,15],dj [0,0,0,6,0],(jU 0 4 (hX 4 .done))⟩
def Qz:ay:=⟨dj [0,0,2,0,0,16,0,0,0,384,896,1984,0,0,8192,28672,62336,0,131072,393216,1045376,2093959,4191111,8388551,16777215,33554431],dj [0,0,2,0,0,16,0,0,0,0,512,1088,0,0,8192,20480,0,0,131072,262144,0,0,2097152,0,0,0],(.take 0 [0] (.take 1 [0] (.take 2 [2,0] (.take 3 [3,2,0] (.take 4 [3,2,0] (.take 5 [5,3,2,0] (.take 6 [5,3,2,0] (.take 7 [5,3,2,0] (.take 8 [5,3,2,0] (.take 12 [12,5,3,2,0] (.take 13 [12,5,3,2,0] (.take 14 [14,12,5,3,2,0] (.take 15 [15,14,12,5,3,2,0] (.take 17 [17,15,14,12,5,3,2,0] (.take 18 [17,15,14,12,5,3,2,0] (.take 19 [17,15,14,12,5,3,2,0] (.br 9 [17,15,14,12,5,3,2,0] [17,5,3,2,0] (.take 10 [17,5,3,2,0] (.take 11 [17,5,3,2,0] (.br 16 [17,5,3,2,0] [5,3,2,0] (.br 20 [5,3,2,0] [5,3] (.br 21 [5,3] [5,3] (.take 22 [5,3] (.br 23 [5,3] [] (hX 24 (hX 25 .done)) .stop)) .stop) .stop) .stop))) .stop)))))))))))))))))⟩
def QA:ay:=⟨dj [0,0,2,0,0,16,0,0,0,384,896,1984,0,0,8192,28672,62336,0,131072,393216,1045376,2093959,4191111,8388551,16777215,33554431],dj [0,0,2,0,0,16,0,0,0,0,512,1088,0,0,8192,20480,0,0,131072,262144,0,0,2097152,0,0,0],(.take 0 [0] (.take 1 [0] (.take 2 [2,0] (.take 3 [3,2,0] (.take 4 [3,2,0] (.take 5 [5,3,2,0] (.take 6 [5,3,2,0] (.take 7 [5,3,2,0] (.take 8 [5,3,2,0] (.take 12 [12,5,3,2,0] (.take 13 [12,5,3,2,0] (.take 14 [14,12,5,3,2,0] (.take 15 [15,14,12,5,3,2,0] (.take 17 [17,15,14,12,5,3,2,0] (.take 18 [17,15,14,12,5,3,2,0] (.take 19 [17,15,14,12,5,3,2,0] (.br 9 [17,15,14,12,5,3,2,0] [17,5,3,2,0] (.take 10 [17,5,3,2,0] (.take 11 [17,5,3,2,0] (.br 16 [17,5,3,2,0] [5,3,2,0] (.br 20 [5,3,2,0] [5,3] (.br 21 [5,3] [5,3] (.take 22 [5,3] (.br 23 [5,3] [] (hX 24 (hX 25 .done)) .stop)) .stop) .stop) .stop))) .stop)))))))))))))))))⟩
def QB:ay:=⟨dj [0,0,2,7,0,0,32,112,255,0,0,1536,3584,8191],dj [0,0,2,5,0,0,32,80,136,0,0,0,2048,4352],(.take 0 [0] (.take 1 [0] (.take 2 [2,0] (.take 3 [3,2,0] (.take 4 [4,3,2,0] (.take 5 [4,3,2,0] (.take 6 [6,4,3,2,0] (.take 7 [7,6,4,3,2,0] (.take 8 [7,6,4,3,2,0] (.take 9 [7,6,4,3,2,0] (.take 10 [7,6,4,3,2,0] (.br 11 [7,6,4,3,2,0] [] (jU 12 2 .done) .stop))))))))))))⟩
def QC:ay:=⟨dj [0,0,0,4,14,0,32,96,0,510,1022,2047,4095],dj [0,0,0,4,10,0,32,64,0,400,0,0,0],(.take 0 [0] (.take 1 [0] (.take 2 [0] (.take 3 [0] (.take 4 [0] (.take 5 [0] (.take 6 [0] (.take 7 [0] (.take 8 [0] (.take 9 [0] (.br 10 [0] [] (hX 11 (hX 12 .done)) .stop)))))))))))⟩
def Vt:ay:=⟨dj [0,1,3,7,15,31,15,79,207,511,1023,2047,4095,8191,16383,32767,65535,131071,262143,131071,655359,131071,2228223,7995391,16383999,33161215,66715647,134217727,268435455,536870911],dj [0,1,2,4,8,24,8,72,136,296,520,1024,2048,6144,10240,18432,32768,65536,196608,65536,589824,65536,2162688,5308416,8454144,16842752,33619968,67436544,134283264,268435456],(jU 0 30 .done)⟩
def Vu:ay:=⟨dj [0,1,0,4,15,31,63,0,128,511,1023,2047],dj [0,1,0,4,10,16,32,0,128,320,512,0],(jU 0 11 (hX 11 .done))⟩
def Vv:ay:=⟨dj [0,0,2,7,15,0,0,64,239,495,511,2047],dj [0,0,2,0,8,0,0,64,0,256,16,512],(jU 0 3 (.take 5 [5] (.take 6 [5] (.take 7 [7,5] (.br 3 [7,5] [] (.take 4 [] (hX 8 (jU 9 3 .done))) .stop)))))⟩
def Vw:ay:=⟨dj [0,0,3,0,0,24,63,127],dj [0,0,3,0,0,24,0,73],(jU 0 6 (hX 6 (.take 7 [] .done)))⟩
def Vx:ay:=⟨dj [0,0,0,0,0,0,48,112,0,0,768,1792,4083,8179,16383,32767],dj [0,0,0,0,0,0,48,64,0,0,768,1024,3,0,12,0],(jU 0 13 (hX 13 (.take 14 [] (hX 15 .done))))⟩
def Vy:ay:=⟨dj [0,1,3,7,15,0,32,127,0,256,1023,2047,4095,8191],dj [0,1,0,4,0,0,32,0,0,256,0,1168,0,4096],(jU 0 2 (.take 5 [] (.take 6 [6] (.take 8 [6] (.take 9 [9,6] (.br 2 [9,6] [9,6] (.take 3 [9,6] (.br 4 [9,6] [9] (.br 7 [9] [] (hX 10 (.take 11 [] (hX 12 (.take 13 [] .done)))) .stop) .stop)) .stop))))))⟩
def Vz:ay:=⟨dj [0,1,3,7,15,0,63,0,128,384,896,2047,4095,8191,16383,32767,65535,131071,262143,524287,1048575],dj [0,1,0,4,0,0,0,0,128,256,512,1024,2048,6144,10240,18432,34816,0,131152,0,524288],(jU 0 2 (.take 5 [] (.take 7 [] (.take 8 [8] (.take 9 [9,8] (.take 10 [9,8] (.br 2 [9,8] [9,8] (.take 3 [9,8] (.br 4 [9,8] [9,8] (.br 6 [9,8] [] (jU 11 6 (hX 17 (.take 18 [] (hX 19 (.take 20 [] .done))))) .stop) .stop)) .stop)))))))⟩
def QD:ay:=⟨dj [0,1,3,0,8,31,63,127,255],dj [0,1,0,0,8,0,36,0,128],(jU 0 2 (.take 3 [] (.take 4 [4] (.br 2 [4] [] (hX 5 (.take 6 [] (hX 7 (.take 8 [] .done)))) .stop))))⟩
def QE:ay:=⟨dj [0,0,2,0,8,24,0,64,0,256,960,1984,4032,8128,16376,32766,65535,131071],dj [0,0,2,0,8,16,0,64,0,256,640,1024,2048,4096,8224,16388,32769,0],(jU 0 17 (hX 17 .done))⟩
def QF:ay:=⟨dj [0,0,0,6,1,31],dj [0,0,0,6,0,8],(.take 0 [] (.take 1 [1] (.take 2 [2,1] (.take 3 [2,1] (.br 4 [2,1] [] (.take 5 [] .done) .stop)))))⟩
def QG:ay:=⟨dj [0,0,2,0,14,30,63,0],dj [0,0,2,0,12,16,0,0],(jU 0 6 (.take 7 [] (hX 6 .done)))⟩
def QH:ay:=⟨dj [0,1,0,7,15,31,0,127,255,511,1023,511,4095,8191],dj [0,1,0,6,8,16,0,96,128,256,768,256,3328,4352],(jU 0 14 .done)⟩
def NH:ay:=⟨dj [0,1,0,7,15,31,0,127,255,511,1023,511,4095,8191],dj [0,1,0,6,8,16,0,96,128,256,768,256,3328,4352],(jU 0 14 .done)⟩
def NI:ay:=⟨dj [0,0,2,7,0,0,32,112,15,511],dj [0,0,2,5,0,0,32,80,8,128],(jU 0 10 .done)⟩
def QI:ay:=⟨dj [0,1,3,7,7,31,63,7,255,511,1023],dj [0,1,2,4,4,28,36,4,196,260,512],(jU 0 11 .done)⟩
def QJ:ay:=⟨dj [0,0,2,6,15,31,0,127,255,511,1023,511,2559,6655,16383,32767,511,66047,511,262655,786943,2032127,4129279,8388607,511,16777727,67108863,134217727,268435455],dj [0,0,2,4,9,16,0,96,128,256,768,256,2304,4352,9472,16640,256,65792,256,262400,524544,1179904,2097408,4227328,256,16777472,41943296,67109120,134217728],(jU 0 29 .done)⟩
def QK:ay:=⟨dj [0,0,2,7,0,0,32,127,0,0,1023,2047],dj [0,0,2,0,0,0,32,0,0,0,0,0],(.al 8 [2,3,7,8,9,11,12,13] (.al 9 [2,3,7,8,9,11,12,13] (jU 0 3 (.take 4 [4] (.take 5 [4] (.take 6 [6,4] (.br 3 [6,4] [] (hX 7 (hX 10 (hX 11 .done))) .stop)))))))⟩
def NJ:ay:=⟨dj [0,0,2,7,0,0,32,112,15,511],dj [0,0,2,5,0,0,32,80,8,128],(jU 0 10 .done)⟩
def NK:ay:=⟨dj [0,0,0,6,0,16,63],dj [0,0,0,6,0,16,0],(jU 0 6 (hX 6 .done))⟩
def QL:ay:=⟨dj [0,0,0,0,0,0,48,112,0,0,768,1792,4083,8179,16383,32767],dj [0,0,0,0,0,0,48,64,0,0,768,1024,3,0,12,0],(jU 0 13 (hX 13 (.take 14 [] (hX 15 .done))))⟩
def QM:ay:=⟨dj [0,0,2,7,0,0,32,112,255,511],dj [0,0,2,5,0,0,32,80,136,0],(jU 0 9 (hX 9 .done))⟩
def QN:ay:=⟨dj [0,0,0,0,0,0,48,112,0,0,768,1792,4083,8179,16383,32767],dj [0,0,0,0,0,0,48,64,0,0,768,1024,3,0,12,0],(jU 0 13 (hX 13 (.take 14 [] (hX 15 .done))))⟩
def QO:ay:=⟨dj [0,1,0,4,12,31,63],dj [0,1,0,4,0,18,0],(.take 0 [] (.take 1 [1] (.take 2 [1] (.take 3 [1] (.br 4 [1] [] (.take 5 [] (hX 6 .done)) .stop)))))⟩
def QP:ay:=⟨dj [0,1,0,4,0,28,60,0,252,511,1023],dj [0,1,0,4,0,24,32,0,192,258,0],(jU 0 10 (hX 10 .done))⟩
def dtF (f r:Nat):Option ay:=
  bif aal f 7 then (bif aal r 3 then some Zl else bif aal r 4 then some Zm else bif aal r 5 then some Zn else bif aal r 14 then some Va else bif aal r 21 then some Vb else none) else
  bif aal f 13 then (bif aal r 9 then some Vc else none) else
  bif aal f 14 then (bif aal r 16 then some Qk else none) else
  bif aal f 21 then (bif aal r 8 then some Vd else none) else
  bif aal f 24 then (bif aal r 6 then some Ve else none) else
  bif aal f 26 then (bif aal r 6 then some Vf else none) else
  bif aal f 33 then (bif aal r 1 then some Vg else none) else
  bif aal f 34 then (bif aal r 11 then some Ql else none) else
  bif aal f 38 then (bif aal r 12 then some Qm else none) else
  bif aal f 44 then (bif aal r 1 then some Vh else none) else
  bif aal f 45 then (bif aal r 1 then some Vi else none) else
  bif aal f 47 then (bif aal r 1 then some Vj else bif aal r 10 then some Qn else bif aal r 17 then some Qo else none) else
  bif aal f 48 then (bif aal r 11 then some Qp else none) else
  bif aal f 49 then (bif aal r 6 then some Vk else none) else
  bif aal f 50 then (bif aal r 16 then some Qq else none) else
  bif aal f 51 then (bif aal r 6 then some Vl else bif aal r 11 then some Qr else bif aal r 16 then some Qs else none) else
  bif aal f 56 then (bif aal r 1 then some Vm else bif aal r 7 then some Vn else none) else
  bif aal f 64 then (bif aal r 6 then some Vo else bif aal r 14 then some Qt else none) else
  bif aal f 69 then (bif aal r 1 then some Vp else none) else
  bif aal f 75 then (bif aal r 1 then some Vq else bif aal r 19 then some Qu else bif aal r 21 then some Qv else bif aal r 22 then some Qw else bif aal r 29 then some Qx else bif aal r 32 then some Qy else none) else
  bif aal f 81 then (bif aal r 7 then some Vr else bif aal r 9 then some Vs else bif aal r 19 then some Qz else bif aal r 21 then some QA else bif aal r 27 then some QB else bif aal r 30 then some QC else none) else
  bif aal f 85 then (bif aal r 1 then some Vt else none) else
  bif aal f 88 then (bif aal r 1 then some Vu else none) else
  bif aal f 89 then (bif aal r 9 then some Vv else none) else
  bif aal f 91 then (bif aal r 5 then some Vw else none) else
  bif aal f 92 then (bif aal r 3 then some Vx else none) else
  bif aal f 96 then (bif aal r 6 then some Vy else none) else
  bif aal f 98 then (bif aal r 5 then some Vz else bif aal r 11 then some QD else none) else
  bif aal f 100 then (bif aal r 1 then some QE else none) else
  bif aal f 101 then (bif aal r 4 then some QF else bif aal r 5 then some QG else bif aal r 8 then some QH else bif aal r 10 then some NH else none) else
  bif aal f 102 then (bif aal r 10 then some NI else none) else
  bif aal f 107 then (bif aal r 1 then some QI else none) else
  bif aal f 109 then (bif aal r 1 then some QJ else none) else
  bif aal f 114 then (bif aal r 1 then some QK else none) else
  bif aal f 115 then (bif aal r 10 then some NJ else bif aal r 23 then some NK else none) else
  bif aal f 119 then (bif aal r 3 then some QL else none) else
  bif aal f 122 then (bif aal r 2 then some QM else none) else
  bif aal f 126 then (bif aal r 3 then some QN else none) else
  bif aal f 130 then (bif aal r 1 then some QO else none) else
  bif aal f 136 then (bif aal r 3 then some QP else none) else none
def okF (f:Nat):Bool:=Nat.blt f 158&&!(([3,4,5,6,17,19,20,25,27,28,32,36,40,41,43,67,68,73,76,82,113]:List Nat).any (aal f))
theorem NL:(aao 158).all (fun f=>!okF f || match Tryz.prog.funcs[f]? with
  |some fn=>match fn.body with
    |some c=>bR (dtF f) c
    |none=>true
  |none=>true)=true:=by kernel_rfl
theorem QQ (f:FuncId) (fn:Func) (c:Code) (h:okF f=true) (hf:Tryz.prog.funcs[f]?=some fn) (hb:fn.body=some c):bR (dtF f) c=true:=by
  have bW:f < 158:=by
    have:Nat.blt f 158=true:=by
      rw [okF,Bool.and_eq_true] at h
      exact h.1
    exact Nat.le_of_ble_eq_true this
  have h1:=List.all_eq_true.1 NL f (List.mem_range.2 bW)
  rw [h,hf] at h1
  simp only [hb] at h1
  simpa using h1
noncomputable def ac2:UR:={ toEnv:=env,dt:=dtF,okF:=okF,SM:=QQ }
end Go.Proofs.YtegoimldbgdeiaaGreat
