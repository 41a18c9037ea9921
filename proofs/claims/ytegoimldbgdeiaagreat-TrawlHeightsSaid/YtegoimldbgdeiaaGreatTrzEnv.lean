/- The abstract machine's surroundings for this program: its types as a table (printed by a program of ours,checked by the kernel). -/
import Derived.Test.YtegoimldbgdeiaaGreatProg
import Derived.Test.YtegoimldbgdeiaaGreatAmKF
import Derived.KernelRfl
set_option linter.all false
open List renaming range->aag
open Nat renaming beq->aad
namespace Go.Proofs.YtegoimldbgdeiaaGreat
open Go Go.Am
abbrev cJ:aF:=(.agg (.cons (.list 2 (.agg (.cons .str (.cons (.list 2 (.agg (.ci (.ci .nil)))) .nil)))) (.cons (.list 5 (.agg (.ci (.ci (.ci (.ci (.cons .bool .nil))))))) .nil)))
abbrev aj:Type:=(List (Int×Int))
abbrev aG:Type:=(List (Int×Int×Int×Int×Bool))
abbrev bI:aF:=(.agg (.ci (.ci .nil)))
abbrev mm:aF:=(.agg (.cons (.list 2 (.agg (.cons .str (.cons (.list 2 (.agg (.cons (.int .i64) (.cons (.int .i64) .nil)))) .nil)))) (.cons (.list 5 (.agg (.cons (.int .i64) (.cons (.int .i64) (.cons (.int .i64) (.cons (.int .i64) (.cons .bool .nil))))))) .nil)))
abbrev aP:Type:=(List ((List UInt8)×aj))
abbrev bw:Type:=(List ((Int×Int)×Int))
abbrev ah:Type:=(List Int)
abbrev eJ:Type:=(List (Int×Int×Bool))
abbrev aO:aF:=(.list 1 (.int .i64))
abbrev cm:aF:=(.list 5 (.agg (.ci (.ci (.ci (.ci (.cons .bool .nil)))))))
abbrev cp:aF:=(.list 2 (.agg (.cons .str (.cons (.list 2 bI) .nil))))
abbrev fx:aF:=(.list 3 (.agg (.ci (.ci (.cons .bool .nil)))))
abbrev bF:aF:=(.list 2 (.agg (.cons bI (.ci .nil))))
abbrev da:Type:=(List (Int×Int×Int×Int))
abbrev bU:Type:=(List (Int×eJ))
abbrev eQ:aF:=(.list 2 (.agg (.ci (.cons fx .nil))))
abbrev aR:aF:=(.list 2 bI)
abbrev dm:Type:=(List (Nat×Nat))
abbrev bz:Type:=(List ah)
abbrev EM:aF:=(.agg (.cons (.int .i64) (.cons (.int .i64) .nil)))
abbrev jk:aF:=(.agg (.ci (.ci (.ci (.ci .nil)))))
abbrev PN:Type:=((Int×Int×Int×Int×Int×Int×Int×Int×ah×(List (Int×Bool))×bw×Int×ah)⊕((Int×Int×Int×Int×Int×Int×Int×ah×(List (Int×Bool))×bw×Int×ah)))
abbrev cj:Type:=(Int×Int)
abbrev BT:aF:=(.agg (.cons (.int .i64) (.cons (.int .i64) (.cons .bool .nil))))
abbrev fj:Type:=(List UInt8)
abbrev dx:Type:=(aP×aG)
abbrev ms:Type:=(Int×Int×Int×Int×Bool)
abbrev qL:aF:=(.list 2 (.agg (.ci (.cons .bool .nil))))
abbrev dR:aF:=(.list 1 aO)
abbrev zv:Type:=(bw×Unit×aj×Unit×bU×Unit×Unit×Bool)
abbrev iM:Type:=(Int×Int×Bool)
abbrev wY:aF:=(.agg (.ci (.ci (.ci (.ci (.cons .bool .nil))))))
abbrev PO:aF:=(.agg (.cons (.int .i64) (.cons (.int .i64) (.cons (.int .i64) (.cons (.int .i64) (.cons (.int .i64) (.cons (.int .i64) .nil)))))))
abbrev K7:Type:=(Unit×eJ×bw×Unit×aj×Unit×bU×Unit×Unit×ah×ah)
abbrev Hb:Type:=(Bool×Int×ah×(List (Int×Bool))×bw×Int×ah)
abbrev K8:Type:=(aj×da×aj×da×aP×aG×aj×bw×Int×ah)
abbrev K9:aF:=(.list 3 (.agg (.cons .bool (.cons (.int .i64) (.cons (.int .i64) .nil)))))
abbrev PP:Type:=(Int×aj×Unit×bw×Unit×ah×(List (Nat×List Int))×Unit×aP×aG)
abbrev PQ:Type:=(aj×da×aj×da×aj×aP×aG×aj×bw×aj×Int×ah)
abbrev U7:Type:=(aP×aG×Unit×eJ×bw×Unit×aj×Unit×bU×Unit×Unit×aP×aG×ah×ah×aP×aG)
abbrev PR:Type:=(Unit×bw×Unit×aj×Unit×bU×Unit×Unit×ah×ah×eJ)
abbrev La:Type:=(Bool×bw×Unit×aj×Unit×bU×Unit×Unit)
abbrev BU:aF:=(.agg (.ci (.ci (.cons .bool .nil))))
abbrev PS:Type:=(aj×da×aj×da×aj×aP×aG×aj×bw×aj)
abbrev PT:Type:=(bw×Unit×aj×Unit×bU×Unit×Unit×Bool×aP×aG)
abbrev lu:Type:=(fj×aj)
abbrev Hc:aF:=(.list 2 (.agg (.cons bI (.cons .bool .nil))))
abbrev U8:aF:=(.agg (.cons (.list 3 BT) (.cons (.int .i64) (.cons (.int .i64) (.cons (.int .i64) (.cons (.int .i64) .nil))))))
abbrev Hd:aF:=(.agg (.ci (.ci (.ci (.ci (.ci (.ci .nil)))))))
abbrev vb:Type:=(List (Int×Bool))
abbrev vc:Type:=(Int⊕(Int⊕Unit))
abbrev wZ:Type:=(Int×Int×Int×Int)
abbrev He:Type:=(Int×Int×Int×Int×bz×dm)
abbrev U9:aF:=(.agg (.cons (.int .i64) (.cons (.int .i64) (.cons (.int .i64) (.cons (.int .i64) (.cons .bool .nil))))))
abbrev Va:Type:=(Unit×Int×bw×Unit×aj×Unit×bU×Unit×Unit×ah×ah×eJ)
abbrev Vb:Type:=(Int×Int×bw×Unit×aj×Unit×bU×Unit×Unit×ah×ah×eJ)
abbrev tY:Type:=(Nat×List Int)
abbrev Lb:Type:=(ah×bz×ah×Int×bz×dm)
abbrev Hf:aF:=(.agg (.cons .str (.cons aR .nil)))
abbrev PU:Type:=(ah×ah×ah×aj×aj×aj×Int×ah)
abbrev Vc:Type:=(Int×Int×Int×Int×Int×Int×Int×ah×vb×bw×Int×ah)
abbrev Lc:Type:=(ah×ah×aj×aj×Int×ah)
abbrev Ve:Type:=(Int×bw×Unit×aj×Unit×bU×Unit×Unit×Bool×aP×aG)
abbrev EN:Type:=(Unit×Unit×ah×ah)
abbrev Vf:Type:=(bw×Unit×aj×Unit×bU×Unit×Unit×ah×ah×eJ)
abbrev Vg:Type:=(aj×Unit×bw×Unit×ah×(List tY)×Unit×aP×aG)
abbrev Ld:Type:=(Int×Int×Int×Int×Int×Int)
abbrev Vh:Type:=(Unit×ah×Int×aj×aj×aj×Int×ah×Unit×ah)
abbrev Le:Type:=(ah×ah×Int×Unit×ah)
abbrev PV:Type:=((Int×bz×dm)⊕((bz×dm)))
abbrev Vi:Type:=(Int×bw×Unit×aj×Unit×bU×Unit×Unit×Bool)
abbrev BV:Type:=(Int×fj×aj)
abbrev tZ:aF:=(.list 2 EM)
abbrev PW:Type:=(ah×ah×ah×aj×aj×aj)
abbrev PX:Type:=((Int×ah×ah)⊕((ah×ah)))
abbrev PY:Type:=(ah×bz×ah×bz×dm)
abbrev Lf:Type:=(Unit×Int×bz×dm)
abbrev Hg:Type:=(Unit×bz×dm)
abbrev Vj:Type:=(bw×Unit×aj×Unit×bU×Unit×Unit)
abbrev PZ:Type:=(ah×ah×Int×aj×aj)
abbrev acF:Type:=(Int×Int×Int×Int×Int×Int×Int×Int×ah×vb×bw×Int×ah)
abbrev acG:Type:=(Int×Unit×eJ×bw×Unit×aj×Unit×bU×Unit×Unit×ah×ah)
set_option maxRecDepth 100000
def zR (n:Nat) (x:AV):Option AV:=some (.agg (List.replicate n x))
def sK:Nat->Nat->EKs
  |0,_=>.nil
  |n+1,i=>.cons i 1 false .int (sK n (i+1))
def tB (t k : Nat) (a b : Option TI) : Option TI := bif Nat.ble t k then a else b
def tI (k : TK) (n : Nat) (a : Bool) (z : Option AV) (e : EK) : Option TI := some ⟨k, n, a, z, e⟩
def tiT (t : Nat) : Option TI :=
 tB t 126 (tB t 62 (tB t 30 (tB t 14 (tB t 6 (tB t 2 (tB t 0 (tI (.sc) 1 false (some (.cD [])) (.no))
 (tB t 1 (tI (.sc) 1 false (some (.gf)) (.no))
 (tI (.int .i64) 1 false (some (.int .i64 0)) (.int))))
 (tB t 4 (tB t 3 (tI (.int .i64) 1 false (some (.int .i64 0)) (.int))
 (tI (.sc) 1 false (some (.bool false)) (.bool)))
 (tB t 5 (tI (.int .u8) 1 false (some (.int .u8 0)) (.int))
 (tI (.int .u8) 1 false (some (.int .u8 0)) (.int)))))
 (tB t 10 (tB t 8 (tB t 7 (tI (.st [(0,1,false),(1,1,false),(2,1,false),(3,1,false)]) 4 true (some (.agg [.int .i64 0,.int .i64 0,.bool false,.int .u8 0])) ((.st (.cons 0 1 false .int (.cons 1 1 false .int (.cons 2 1 false .bool (.cons 3 1 false .int .nil)))))))
 (tI (.st [(0,1,false),(1,1,false),(2,1,false),(3,1,false)]) 4 true (some (.agg [.int .i64 0,.int .i64 0,.bool false,.int .u8 0])) ((.st (.cons 0 1 false .int (.cons 1 1 false .int (.cons 2 1 false .bool (.cons 3 1 false .int .nil))))))))
 (tB t 9 (tI (.str) 1 false (some (.str [])) (.str))
 (tI (.str) 1 false (some (.str [])) (.str))))
 (tB t 12 (tB t 11 (none)
 (tI (.int .u64) 1 false (some (.int .u64 0)) (.int)))
 (none))))
 (tB t 22 (tB t 18 (tB t 16 (tB t 15 (none)
 (tI (.sc) 1 false (some (.qn)) (.no)))
 (tB t 17 (tI (.sc) 1 false (some (.qn)) (.no))
 (none)))
 (tB t 20 (tB t 19 (none)
 (tI (.sc) 1 false (some (.wz)) (.no)))
 (tB t 21 (tI (.int .i32) 1 false (some (.int .i32 0)) (.int))
 (tI (.sl 92 2 true 40 (some (.agg [.str [],.list .nil 0 []]))) 1 false (some (.list .nil 0 [])) (.no)))))
 (tB t 26 (tB t 24 (tB t 23 (tI (.sl 79 5 true 40 (some (.agg [.int .i64 0,.int .i64 0,.int .i64 0,.int .i64 0,.bool false]))) 1 false (some (.list .nil 0 [])) (.no))
 (tI (.st [(0,1,false),(1,1,false)]) 2 true (some (.agg [.list .nil 0 [],.list .nil 0 []])) ((.st (.cons 0 1 false .no (.cons 1 1 false .no .nil))))))
 (tB t 25 (tI (.st [(0,1,false),(1,1,false)]) 2 true (some (.agg [.list .nil 0 [],.list .nil 0 []])) ((.st (.cons 0 1 false .no (.cons 1 1 false .no .nil)))))
 (none)))
 (tB t 28 (tB t 27 (none)
 (tI (.sl 37 1 false 24 (some (.list .nil 0 []))) 1 false (some (.list .nil 0 [])) (.no)))
 (tB t 29 (tI (.int .i64) 1 false (some (.int .i64 0)) (.int))
 (tI (.sc) 1 false (some (.cD [.list .nil 0 [],.int .i64 0])) (.no)))))))
 (tB t 46 (tB t 38 (tB t 34 (tB t 32 (tB t 31 (none)
 (tI (.sl 131 2 true 40 (some (.agg [.str [],.list .nil 0 []]))) 1 false (some (.list .nil 0 [])) (.no)))
 (tB t 33 (tI (.sl 110 5 true 40 (some (.agg [.int .i64 0,.int .i64 0,.int .i64 0,.int .i64 0,.bool false]))) 1 false (some (.list .nil 0 [])) (.no))
 (none)))
 (tB t 36 (tB t 35 (tI (.st [(0,1,false),(1,1,false)]) 2 true (some (.agg [.list .nil 0 [],.list .nil 0 []])) ((.st (.cons 0 1 false .no (.cons 1 1 false .no .nil)))))
 (none))
 (tB t 37 (tI (.sl 100 2 true 16 (some (.agg [.int .i64 0,.int .i64 0]))) 1 false (some (.list .nil 0 [])) (.no))
 (tI (.sc) 1 false (some (.cD [.list .nil 0 [],.int .i64 0,.int .i64 0])) (.no)))))
 (tB t 42 (tB t 40 (tB t 39 (none)
 (tI (.sl 53 3 true 24 (some (.agg [.bool false,.int .i64 0,.int .i64 0]))) 1 false (some (.list .nil 0 [])) (.no)))
 (tB t 41 (tI (.sc) 1 false (some (.cD [.list .nil 0 [],.int .i64 0])) (.no))
 (none)))
 (tB t 44 (none)
 (tB t 45 (none)
 (tI (.sl 52 3 true 24 (some (.agg [.bool false,.int .i64 0,.int .i64 0]))) 1 false (some (.list .nil 0 [])) (.no))))))
 (tB t 54 (tB t 50 (tB t 48 (tB t 47 (none)
 (tI (.sc) 1 false (some (.gf)) (.no)))
 (none))
 (tB t 52 (tB t 51 (none)
 (tI (.st [(0,1,false),(1,1,false),(2,1,false)]) 3 true (some (.agg [.bool false,.int .i64 0,.int .i64 0])) ((.st (.cons 0 1 false .bool (.cons 1 1 false .int (.cons 2 1 false .int .nil)))))))
 (tB t 53 (tI (.st [(0,1,false),(1,1,false),(2,1,false)]) 3 true (some (.agg [.bool false,.int .i64 0,.int .i64 0])) ((.st (.cons 0 1 false .bool (.cons 1 1 false .int (.cons 2 1 false .int .nil))))))
 (none))))
 (tB t 58 (tB t 56 (tB t 55 (none)
 (tI (.sl 59 1 false 24 (some (.list .nil 0 []))) 1 false (some (.list .nil 0 [])) (.no)))
 (tB t 57 (tI (.sc) 1 false (some (.cD [.list .nil 0 [],.int .i64 0])) (.no))
 (tI (.sc) 1 false (some (.gf)) (.no))))
 (tB t 60 (tB t 59 (tI (.sl 3 1 false 8 (some (.int .i64 0))) 1 false (some (.list .nil 0 [])) (.no))
 (tI (.sc) 1 false (some (.cD [.list .nil 0 [],.int .i64 0])) (.no)))
 (none))))))
 (tB t 94 (tB t 78 (tB t 70 (tB t 66 (tB t 64 (tB t 63 (tI (.st [(0,1,false),(1,1,false),(2,1,false),(3,1,false),(4,1,false),(5,1,false)]) 6 true (zR 6 (.int .i64 0)) ((.st (sK 6 0))))
 (tI (.sc) 1 false (none) (.no)))
 (tB t 65 (tI (.sc) 1 false (some (.gf)) (.no))
 (tI (.sc) 1 false (some (.gf)) (.no))))
 (none))
 (tB t 74 (tB t 72 (none)
 (tB t 73 (tI (.st [(0,1,false),(1,1,false)]) 2 true (some (.agg [.int .i64 0,.list .nil 0 []])) ((.st (.cons 0 1 false .int (.cons 1 1 false .no .nil)))))
 (none)))
 (tB t 76 (none)
 (tB t 77 (tI (.st [(0,1,false),(1,1,false)]) 2 true (some (.agg [.int .i64 0,.int .i64 0])) ((.st (sK 2 0))))
 (none)))))
 (tB t 86 (tB t 82 (tB t 80 (tB t 79 (tI (.st [(0,2,true),(2,2,true),(4,1,false)]) 5 true (some (.agg [.int .i64 0,.int .i64 0,.int .i64 0,.int .i64 0,.bool false])) ((.st (.cons 0 2 true (.st (sK 2 0)) (.cons 2 2 true (.st (sK 2 0)) (.cons 4 1 false .bool .nil))))))
 (tI (.sc) 1 false (some (.gf)) (.no)))
 (tB t 81 (tI (.st [(0,1,false),(1,1,false)]) 2 true (some (.agg [.int .i64 0,.list .nil 0 []])) ((.st (.cons 0 1 false .int (.cons 1 1 false .no .nil)))))
 (none)))
 (tB t 84 (tB t 83 (tI (.sl 119 3 true 24 (some (.agg [.int .i64 0,.int .i64 0,.bool false]))) 1 false (some (.list .nil 0 [])) (.no))
 (tI (.sc) 1 false (some (.cD [.list .nil 0 [],.int .i64 0])) (.no)))
 (none)))
 (tB t 90 (tB t 88 (tB t 87 (tI (.sl 169 3 true 24 (some (.agg [.int .i64 0,.int .i64 0,.bool false]))) 1 false (some (.list .nil 0 [])) (.no))
 (none))
 (tB t 89 (none)
 (tI (.sl 94 2 true 16 (some (.agg [.int .i64 0,.int .i64 0]))) 1 false (some (.list .nil 0 [])) (.no))))
 (tB t 92 (tB t 91 (none)
 (tI (.st [(0,1,false),(1,1,false)]) 2 true (some (.agg [.str [],.list .nil 0 []])) ((.st (.cons 0 1 false .str (.cons 1 1 false .no .nil))))))
 (tB t 93 (none)
 (tI (.st [(0,1,false),(1,1,false)]) 2 true (some (.agg [.int .i64 0,.int .i64 0])) ((.st (sK 2 0)))))))))
 (tB t 110 (tB t 102 (tB t 98 (tB t 96 (tB t 95 (tI (.sc) 1 false (some (.gf)) (.no))
 (none))
 (tB t 97 (tI (.st [(0,1,false),(1,2,true),(3,2,true)]) 5 true (some (.agg [.list .nil 0 [],.int .i64 0,.int .i64 0,.int .i64 0,.int .i64 0])) ((.st (.cons 0 1 false .no (.cons 1 2 true (.st (sK 2 0)) (.cons 3 2 true (.st (sK 2 0)) .nil))))))
 (tI (.sc) 1 false (some (.cD [.int .i64 0,.int .i64 0])) (.no))))
 (tB t 100 (tB t 99 (tI (.sc) 1 false (some (.gf)) (.no))
 (tI (.st [(0,1,false),(1,1,false)]) 2 true (some (.agg [.int .i64 0,.int .i64 0])) ((.st (sK 2 0)))))
 (tB t 101 (tI (.sc) 1 false (some (.gf)) (.no))
 (tI (.sc) 1 false (some (.cD [.list .nil 0 [],.bool false])) (.no)))))
 (tB t 106 (tB t 104 (tB t 103 (tI (.sc) 1 false (some (.gf)) (.no))
 (none))
 (tB t 105 (tI (.sc) 1 false (some (.gf)) (.no))
 (tI (.arr 2 1 false) 2 true (some (.agg [.int .i64 0,.int .i64 0])) ((.st (sK 2 0))))))
 (tB t 108 (tB t 107 (tI (.sc) 1 false (none) (.no))
 (tI (.sc) 1 false (some (.gf)) (.no)))
 (tB t 109 (tI (.st [(0,2,true),(2,2,true),(4,1,false)]) 5 true (some (.agg [.int .i64 0,.int .i64 0,.int .i64 0,.int .i64 0,.bool false])) ((.st (.cons 0 2 true (.st (sK 2 0)) (.cons 2 2 true (.st (sK 2 0)) (.cons 4 1 false .bool .nil))))))
 (tI (.st [(0,2,true),(2,2,true),(4,1,false)]) 5 true (some (.agg [.int .i64 0,.int .i64 0,.int .i64 0,.int .i64 0,.bool false])) ((.st (.cons 0 2 true (.st (sK 2 0)) (.cons 2 2 true (.st (sK 2 0)) (.cons 4 1 false .bool .nil))))))))))
 (tB t 118 (tB t 114 (tB t 112 (tB t 111 (tI (.sc) 1 false (some (.gf)) (.no))
 (tI (.sc) 1 false (some (.gf)) (.no)))
 (tB t 113 (none)
 (tI (.sc) 1 false (some (.gf)) (.no))))
 (tB t 116 (tB t 115 (tI (.sc) 1 false (some (.gf)) (.no))
 (tI (.sc) 1 false (some (.gf)) (.no)))
 (tB t 117 (tI (.sc) 1 false (some (.gf)) (.no))
 (tI (.st [(0,2,true),(2,1,false)]) 3 true (some (.agg [.int .i64 0,.int .i64 0,.bool false])) ((.st (.cons 0 2 true (.st (sK 2 0)) (.cons 2 1 false .bool .nil))))))))
 (tB t 122 (tB t 120 (tB t 119 (tI (.st [(0,2,true),(2,1,false)]) 3 true (some (.agg [.int .i64 0,.int .i64 0,.bool false])) ((.st (.cons 0 2 true (.st (sK 2 0)) (.cons 2 1 false .bool .nil)))))
 (tI (.st [(0,1,false),(1,1,false),(2,1,false)]) 3 true (some (.agg [.str [],.int .i64 0,.int .i64 0])) ((.st (.cons 0 1 false .str (.cons 1 1 false .int (.cons 2 1 false .int .nil)))))))
 (tB t 121 (tI (.st [(0,1,false),(1,1,false),(2,1,false)]) 3 true (some (.agg [.str [],.int .i64 0,.int .i64 0])) ((.st (.cons 0 1 false .str (.cons 1 1 false .int (.cons 2 1 false .int .nil))))))
 (tI (.sl 121 3 true 32 (some (.agg [.str [],.int .i64 0,.int .i64 0]))) 1 false (some (.list .nil 0 [])) (.no))))
 (tB t 124 (tB t 123 (tI (.sc) 1 false (some (.cD [.int .i64 0,.int .i64 0,.int .i64 0])) (.no))
 (none))
 (tB t 125 (tI (.sc) 1 false (none) (.no))
 (none))))))))
 (tB t 190 (tB t 158 (tB t 142 (tB t 134 (tB t 130 (tB t 128 (none)
 (tB t 129 (tI (.sl 132 2 true 16 (some (.agg [.int .i64 0,.int .i64 0]))) 1 false (some (.list .nil 0 [])) (.no))
 (none)))
 (tB t 132 (tB t 131 (tI (.st [(0,1,false),(1,1,false)]) 2 true (some (.agg [.str [],.list .nil 0 []])) ((.st (.cons 0 1 false .str (.cons 1 1 false .no .nil)))))
 (tI (.st [(0,1,false),(1,1,false)]) 2 true (some (.agg [.int .i64 0,.int .i64 0])) ((.st (sK 2 0)))))
 (tB t 133 (none)
 (tI (.sc) 1 false (some (.gf)) (.no)))))
 (tB t 138 (tB t 136 (none)
 (tB t 137 (none)
 (tI (.sc) 1 false (some (.gf)) (.no))))
 (none)))
 (tB t 150 (tB t 146 (none)
 (tB t 148 (tB t 147 (tI (.map 100 3 (some (.int .i64 0))) 1 false (some (.fk)) (.no))
 (none))
 (tB t 149 (tI (.sc) 1 false (some (.gf)) (.no))
 (tI (.sc) 1 false (some (.gf)) (.no)))))
 (tB t 154 (none)
 (tB t 156 (tB t 155 (none)
 (tI (.st [(0,1,false),(1,1,false)]) 2 true (some (.agg [.list .nil 0 [],.list .nil 0 []])) ((.st (.cons 0 1 false .no (.cons 1 1 false .no .nil))))))
 (tB t 157 (tI (.sc) 1 false (some (.qn)) (.no))
 (tI (.sc) 1 false (none) (.no)))))))
 (tB t 174 (tB t 166 (tB t 162 (none)
 (tB t 164 (tB t 163 (tI (.sc) 1 false (some (.gf)) (.no))
 (tI (.sc) 1 false (some (.cD [.int .i64 0,.bool false])) (.no)))
 (tB t 165 (tI (.map 3 3 (some (.int .i64 0))) 1 false (some (.fk)) (.no))
 (tI (.sc) 1 false (some (.cD [.fk,.list .nil 0 []])) (.no)))))
 (tB t 170 (tB t 168 (none)
 (tB t 169 (tI (.st [(0,2,true),(2,1,false)]) 3 true (some (.agg [.int .i64 0,.int .i64 0,.bool false])) ((.st (.cons 0 2 true (.st (sK 2 0)) (.cons 2 1 false .bool .nil)))))
 (tI (.sc) 1 false (some (.cD [.int .i64 0,.int .i64 0])) (.no))))
 (tB t 172 (none)
 (tB t 173 (tI (.sc) 1 false (some (.gf)) (.no))
 (tI (.sc) 1 false (some (.gf)) (.no))))))
 (tB t 182 (none)
 (tB t 186 (tB t 184 (tB t 183 (tI (.sc) 1 false (some (.gf)) (.no))
 (none))
 (none))
 (tB t 188 (tB t 187 (tI (.map 100 4 (some (.bool false))) 1 false (some (.fk)) (.no))
 (none))
 (tB t 189 (tI (.arr 2 2 true) 4 true (zR 4 (.int .i64 0)) ((.st (.cons 0 2 true (.st (sK 2 0)) (.cons 2 2 true (.st (sK 2 0)) .nil)))))
 (none)))))))
 (tB t 222 (tB t 206 (tB t 198 (tB t 194 (tB t 192 (tB t 191 (tI (.sc) 1 false (none) (.no))
 (none))
 (tB t 193 (none)
 (tI (.sl 106 2 true 16 (some (.agg [.int .i64 0,.int .i64 0]))) 1 false (some (.list .nil 0 [])) (.no))))
 (tB t 196 (tB t 195 (none)
 (tI (.sc) 1 false (some (.gf)) (.no)))
 (tB t 197 (none)
 (tI (.sc) 1 false (some (.gf)) (.no)))))
 (tB t 202 (tB t 200 (tB t 199 (tI (.map 3 4 (some (.bool false))) 1 false (some (.fk)) (.no))
 (tI (.sc) 1 false (some (.gf)) (.no)))
 (tB t 201 (tI (.sc) 1 false (some (.gf)) (.no))
 (none)))
 (tB t 204 (none)
 (tB t 205 (none)
 (tI (.sl 189 4 true 32 (zR 4 (.int .i64 0))) 1 false (some (.list .nil 0 [])) (.no))))))
 (tB t 214 (tB t 210 (tB t 208 (tB t 207 (tI (.arr 2 4 true) 8 true (zR 8 (.int .i64 0)) ((.st (.cons 0 4 true (.st (.cons 0 2 true (.st (sK 2 0)) (.cons 2 2 true (.st (sK 2 0)) .nil))) (.cons 4 4 true (.st (.cons 0 2 true (.st (sK 2 0)) (.cons 2 2 true (.st (sK 2 0)) .nil))) .nil)))))
 (none))
 (none))
 (tB t 212 (none)
 (tB t 213 (none)
 (tI (.sl 29 1 false 8 (some (.int .i64 0))) 1 false (some (.list .nil 0 [])) (.no)))))
 (tB t 218 (tB t 216 (tB t 215 (none)
 (tI (.map 3 83 (some (.list .nil 0 []))) 1 false (some (.fk)) (.no)))
 (tB t 217 (tI (.sc) 1 false (some (.gf)) (.no))
 (none)))
 (tB t 220 (tB t 219 (none)
 (tI (.sc) 1 false (some (.gf)) (.no)))
 (none)))))
 (tB t 238 (tB t 230 (tB t 226 (none)
 (tB t 228 (tB t 227 (none)
 (tI (.sc) 1 false (some (.gf)) (.no)))
 (tB t 229 (tI (.sc) 1 false (none) (.no))
 (none))))
 (tB t 234 (none)
 (tB t 236 (tB t 235 (tI (.sl 83 1 false 24 (some (.list .nil 0 []))) 1 false (some (.list .nil 0 [])) (.no))
 (none))
 (none))))
 (none))))
def tiF (t:Nat):Option TI:=bif Nat.ble 255 t then none else tiT t
def YP:(aag 255).map (λ t=>match tiF t with | none=>none | some _=>QS Tryz.prog t)=(aag 255).map tiF:=by kernel_rfl
def QT (t:TypeId) (i:TI) (h:tiF t=some i):QS Tryz.prog t=some i:=by
  by_cases ht:t < 255
  . have h1:=congrArg (λ l=>l[t]?) YP
    simp only [List.getElem?_map,List.getElem?_range ht,Option.map_some,Option.some.injEq] at h1
    rw [h] at h1
    exact h1
  . have hb:Nat.ble 255 t=true:=Nat.ble_eq_true_of_le (Nat.not_lt.1 ht)
    rw [tiF,hb] at h
    cases h
def akl:List ((Nat×Nat)×List (Option Nat×Nat×Nat)):=[((21,17),[(none,131073,3)]),((21,18),[(some 18,196609,1048578)]),((25,2),[(none,983041,3)]),((25,3),[(none,1,59)]),((25,5),[(none,1,3)]),((25,39),[(some 39,0,1048577)]),((27,6),[(some 0,1,3)]),((34,26),[(none,131073,3)]),((34,27),[(some 27,196609,1048578)]),((43,30),[(none,2031617,3),(none,2031617,3)]),((47,32),[(none,983042,132)]),((47,96),[(some 96,8650754,1048580)]),((75,1),[(none,2031617,3),(none,2031617,59)]),((75,176),[(some 14,0,1048576)]),((81,122),[(none,2031617,3),(none,2031617,3)]),((81,148),[(some 20,0,1048576)])]
def acH:List ((Nat×Nat)×List (Option Nat×Nat×Nat))->Nat->Nat->List (Option Nat×Nat×Nat)
  |[],_,_=>[]
  |((a,b),x)::l,f,t=>bif aad a f&&aad b t then x else acH l f t
def aoU (f t:Nat):List (Option Nat×Nat×Nat):=acH akl f t
def aoV (f t:Nat):Bool:=
  (aad f 1000000&&aad t 1000000) ||
  (aad f 21&&(aad t 5 || aad t 6 || aad t 196626 || aad t 327716 || aad t 458788)) ||
  (aad f 25&&(aad t 40)) ||
  (aad f 27&&(aad t 6)) ||
  (aad f 30&&(aad t 131072)) ||
  (aad f 33&&(aad t 2)) ||
  (aad f 34&&(aad t 5 || aad t 7 || aad t 8 || aad t 196635 || aad t 327727 || aad t 458799)) ||
  (aad f 38&&(aad t 2)) ||
  (aad f 43&&(aad t 589856 || aad t 589858 || aad t 655394)) ||
  (aad f 45&&(aad t 131072)) ||
  (aad f 46&&(aad t 131072)) ||
  (aad f 47&&(aad t 3 || aad t 8 || aad t 131072)) ||
  (aad f 50&&(aad t 131072 || aad t 131074 || aad t 196620)) ||
  (aad f 61&&(aad t 5 || aad t 131072)) ||
  (aad f 62&&(aad t 3 || aad t 5)) ||
  (aad f 63&&(aad t 3 || aad t 5 || aad t 6)) ||
  (aad f 67&&(aad t 196624)) ||
  (aad f 68&&(aad t 131072 || aad t 196629)) ||
  (aad f 71&&(aad t 1)) ||
  (aad f 75&&(aad t 197 || aad t 65585 || aad t 131072 || aad t 196635 || aad t 524345 || aad t 589842 || aad t 589846)) ||
  (aad f 81&&(aad t 1 || aad t 2 || aad t 3 || aad t 4 || aad t 5 || aad t 6 || aad t 7 || aad t 11)) ||
  (aad f 90&&(aad t 196615)) ||
  (aad f 98&&(aad t 4)) ||
  (aad f 99&&(aad t 1 || aad t 3)) ||
  (aad f 103&&(aad t 196618)) ||
  (aad f 105&&(aad t 196618)) ||
  (aad f 120&&(aad t 131072)) ||
  (aad f 124&&(aad t 196618)) ||
  (aad f 127&&(aad t 131072)) ||
  (aad f 129&&(aad t 21 || aad t 196618)) ||
  (aad f 138&&(aad t 2))
def acI:ew:=[]
def YQ:acI.all (λ p=>aZ p.2)=true:=by kernel_rfl
def akm (g:Nat):Option (List AV):=fm acI g
noncomputable def env:Env:={ P:=Tryz.prog,ti:=tiF,fU:=akm,FP:=aoV,elp:=λ _=>none,gho:=aoU,QT:=QT,mixed:=by kernel_rfl,HN:=λ _ _ h=>X5 YQ h }
def dJ (l:List Nat):List (List Nat):=l.map λ m=>(aag (m.log2+1)).filter m.testBit
def jJ (a:Nat):Nat->DT->DT
 | 0,t=>t
 | n+1,t=>Im (a+1) λ b=>.take a [] (jJ b n t)
def jK (i:Nat) (t:DT):DT:=.br i [] [] t .stop
def akn:aw:=⟨dJ [0,1,0,4,0,16,63,127,255,255,511,2047],dJ [0,0,0,4,0,16,0,64,128,128,256,512],(.take 0 [] (.take 2 [] (.take 3 [3] (.take 4 [3] (.take 5 [5,3] (.br 1 [5,3] [] (jK 6 (jJ 7 5 .done)) .stop))))))⟩
def ako:aw:=⟨dJ [0,1,0,4,15,31,63],dJ [0,0,0,4,0,0,32],(.take 0 [] (.take 2 [] (.take 3 [3] (.br 1 [3] [] (jK 4 (jK 5 (.take 6 [] .done))) .stop))))⟩
def aeZ:aw:=⟨dJ [0,1,0,4,12,31,63,0,131,0,512,1536,3971,8067,16383,32767],dJ [0,0,0,4,8,18,32,0,0,0,512,1024,2304,4096,8256,16384],(.take 0 [] (jJ 2 2 (.take 4 [4] (.take 7 [7,4] (.take 9 [7,4] (.take 10 [7,4] (.take 11 [11,7,4] (.br 1 [11,7,4] [11,4] (.take 5 [11,4] (.take 6 [6,11,4] (.br 8 [6,11,4] [] (jJ 12 4 .done) .stop))) .stop))))))))⟩
def ae0:aw:=⟨dJ [0,0,2,6,15,31,0,64,192,511,1023,0,0,4096,12288,30720,63488,0,131072,393216,1046528,2095104,4194303,8388607],dJ [0,0,2,4,9,16,0,64,128,288,512,0,0,4096,8192,18432,32768,0,131072,262144,589824,1048576,2098176,4194304],(jJ 0 24 .done)⟩
def ae1:aw:=⟨dJ [0,1,3,7,15,31,63,127,255,511,1023,2047,4095,4095,12287,32767,65535,131071,262143],dJ [0,1,2,4,8,24,40,64,128,384,640,1024,2048,2048,0,0,34816,67584,131072],(jJ 0 12 (.take 12 [12] (.take 13 [12] (.br 14 [12] [] (jK 15 (jJ 16 3 .done)) .stop))))⟩
def ae2:aw:=⟨dJ [0,0,3,0,8,24,0,64,248,0,512,2047,0,8191],dJ [0,0,0,0,8,16,0,64,160,0,512,1284,0,0],(.al 12 [1,6,7,24,25,26,27,28,29,30,31,32,33,34] (jJ 0 2 (.take 3 [] (.take 4 [4] (.take 5 [4] (.take 6 [4] (.take 7 [7,4] (.take 8 [7,4] (.take 9 [7,4] (.take 10 [10,7,4] (.br 2 [10,7,4] [] (.take 11 [] (jK 13 .done)) .stop)))))))))))⟩
def YR:aw:=⟨dJ [0,0,2,0,14,0,32,0,224,480,1023,2047],dJ [0,0,2,0,12,0,32,0,192,256,0,1024],(jJ 0 10 (jK 10 (.take 11 [] .done)))⟩
def ae3:aw:=⟨dJ [0,0,2,0,0,16,56,120,0,0,768,1792,4088,8191,16383],dJ [0,0,2,0,0,16,40,64,0,0,768,1024,0,5,0],(.take 0 [0] (.take 1 [0] (.take 2 [2,0] (.take 3 [2,0] (.take 4 [2,0] (.take 5 [2,0] (.take 6 [2,0] (.take 7 [2,0] (.take 8 [2,0] (.take 9 [2,0] (.take 10 [2,0] (.take 11 [2,0] (.br 12 [2,0] [] (.take 13 [] (jK 14 .done)) .stop)))))))))))))⟩
def ae4:aw:=⟨dJ [0,0,3,7,0,0,48,112,255,511],dJ [0,0,3,4,0,0,48,64,0,256],(jJ 0 8 (jK 8 (.take 9 [] .done)))⟩
def YS:aw:=⟨dJ [0,0,2,7,0,0,32,127,0,0,512,2047,0,0,8192,32767,0,0,0,0,1048575,2097151,4194303,8388607],dJ [0,0,2,0,0,0,32,0,0,0,512,0,0,0,8192,0,0,0,0,0,0,0,0,0],(.al 16 [1,8,54,55,56,58,59,60,62,63,64,66,67,68] (.al 17 [1,8,54,55,56,58,59,60,62,63,64,66,67,68] (.al 18 [1,8,54,55,56,58,59,60,62,63,64,66,67,68] (.al 19 [1,8,54,55,56,58,59,60,62,63,64,66,67,68] (jJ 0 3 (.take 4 [4] (.take 5 [4] (.take 6 [6,4] (.take 8 [8,6,4] (.take 9 [8,6,4] (.take 10 [10,8,6,4] (.take 12 [12,10,8,6,4] (.take 13 [12,10,8,6,4] (.take 14 [14,12,10,8,6,4] (.br 3 [14,12,10,8,6,4] [14,12,10,8] (.br 7 [14,12,10,8] [14,12] (.br 11 [14,12] [] (jK 15 (jK 20 (jK 21 (jK 22 (jK 23 .done))))) .stop) .stop) .stop)))))))))))))))⟩
def YT:aw:=⟨dJ [0,0,0,4,14,30,0,64,254,510,0,0,2048,7168,15360,0,32768,130048,261120,524287,1048575],dJ [0,0,0,4,10,16,0,64,160,256,0,0,2048,5120,8192,0,32768,81920,131072,0,525315],(jJ 0 19 (jK 19 (.take 20 [] .done)))⟩
def YU:aw:=⟨dJ [0,0,0,4,14,30,0,64,254,510,0,0,2048,7168,15360,0,32768,130048,261120,524287,1048575],dJ [0,0,0,4,10,16,0,64,160,256,0,0,2048,5120,8192,0,32768,81920,131072,0,525315],(jJ 0 19 (jK 19 (.take 20 [] .done)))⟩
def ae5:aw:=⟨dJ [0,0,3,7,0,0,48,112,255],dJ [0,0,3,4,0,0,48,64,136],(jJ 0 9 .done)⟩
def ae6:aw:=⟨dJ [0,0,2,6,0,16,0,112,240,496,1008,2046,4094,0,8192,24576,0,65536,0,458752,983040,2031616,4128768,8380416,16769024,33554431,67108863],dJ [0,0,2,4,0,16,0,96,128,256,512,1032,2048,0,8192,16384,0,65536,0,393216,524288,1048576,2097152,4227072,8388608,0,33562627],(jJ 0 25 (jK 25 (.take 26 [] .done)))⟩
def ae7:aw:=⟨dJ [0,1,0,4,12,28,63,0,128,384,1023,2047,4095,2047,10239,26623,65535,131071,262143,524287,1048575,2097151],dJ [0,0,0,4,8,16,0,0,128,256,512,1024,3072,1024,9216,17408,37888,66560,0,262210,0,1048576],(.take 0 [] (.take 2 [] (.take 3 [3] (.take 4 [4,3] (.take 5 [4,3] (.take 7 [4,3] (.take 8 [8,4,3] (.take 9 [8,4,3] (.br 1 [8,4,3] [8] (.br 6 [8] [] (jJ 10 8 (jK 18 (.take 19 [] (jK 20 (.take 21 [] .done))))) .stop) .stop)))))))))⟩
def YV:aw:=⟨dJ [0,0,2,0,0,16,56,120,0,0,0,1536,3840,7936,16376,32767,65535],dJ [0,0,2,0,0,16,40,64,0,0,0,1536,2304,4096,0,5,0],(.take 0 [0] (.take 1 [0] (.take 2 [2,0] (.take 3 [2,0] (.take 4 [2,0] (.take 5 [2,0] (.take 6 [2,0] (.take 7 [2,0] (.take 8 [2,0] (.take 9 [2,0] (.take 10 [2,0] (.take 11 [2,0] (.take 12 [2,0] (.take 13 [2,0] (.br 14 [2,0] [] (.take 15 [] (jK 16 .done)) .stop)))))))))))))))⟩
def ae8:aw:=⟨dJ [0,0,0,6,14,30,63,127],dJ [0,0,0,6,8,16,0,64],(jJ 0 6 (jK 6 (.take 7 [] .done)))⟩
def YW:aw:=⟨dJ [0,0,0,0,12,28,63,127,255,255,511,2047],dJ [0,0,0,0,12,16,0,64,128,128,256,512],(jJ 0 6 (jK 6 (jJ 7 5 .done)))⟩
def YX:aw:=⟨dJ [0,0,0,0,8,0,32,120,252,508,1023,2047,4095,4095,8191,32767],dJ [0,0,0,0,8,0,32,80,132,256,0,1024,2048,2048,4096,8192],(jJ 0 10 (jK 10 (jJ 11 5 .done)))⟩
def YY:aw:=⟨dJ [0,0,0,6,14,30,63,127,255],dJ [0,0,0,6,8,16,0,64,128],(jJ 0 6 (jK 6 (jJ 7 2 .done)))⟩
def YZ:aw:=⟨dJ [0,0,0,7,0,0,0,127,255],dJ [0,0,0,0,0,0,0,0,136],(jJ 0 3 (.take 4 [4] (.take 5 [5,4] (.take 6 [5,4] (.br 3 [5,4] [] (jK 7 (.take 8 [] .done)) .stop)))))⟩
def ae9:aw:=⟨dJ [0,1,0,4,12,0,32,0,128,480,992,2016,4064,8188,16383,32767],dJ [0,1,0,4,8,0,32,0,128,320,512,1024,2048,4112,8194,0],(jJ 0 15 (jK 15 .done))⟩
def afa:aw:=⟨dJ [0,1,0,0,15,31,63,127,127,511,1023,2047,4095,8191,16383,32767],dJ [0,0,0,0,0,16,32,64,64,0,576,1088,0,4098,0,16384],(.take 0 [] (.take 2 [2] (.take 3 [3,2] (.br 1 [3,2] [] (jK 4 (jJ 5 4 (jK 9 (jJ 10 2 (jK 12 (.take 13 [] (jK 14 (.take 15 [] .done)))))))) .stop))))⟩
def afb:aw:=⟨dJ [0,0,2,7,15,0,0,64,224,480,1023],dJ [0,0,2,5,8,0,0,64,160,256,528],(jJ 0 11 .done)⟩
def Y0:aw:=⟨dJ [0,0,0,6,15,0,0,0,192,480,1023,2047,4095],dJ [0,0,0,6,9,0,0,0,192,288,528,1024,0],(jJ 0 13 .done)⟩
def afc:aw:=⟨dJ [0,1,0,4,3,31],dJ [0,0,0,0,2,8],(.take 0 [] (.take 2 [] (.br 1 [] [] (.take 4 [] (jK 3 (.take 5 [] .done))) (jK 3 (jK 1 (jJ 4 2 .done))))))⟩
def Y1:aw:=⟨dJ [0,1,3,3,15,31,3,3,195,451,1023,2047,4095],dJ [0,1,2,2,14,18,2,2,194,258,546,1026,2049],(jJ 0 13 .done)⟩
def Y2:aw:=⟨dJ [0,0,3,7,0,31,63,0,0,384,896,0,2048,0,0,24576,57344,122880,260096,524160,1048448,127,4194303],dJ [0,0,3,4,0,24,32,0,0,384,512,0,2048,0,0,24576,32768,65536,135168,263168,524288,64,1048576],(jJ 0 23 .done)⟩
def Y3:aw:=⟨dJ [0,0,3,7,0,31,63,0,0,384,896,0,2048,0,0,24576,57344,122880,260096,524160,1048448,127,4194303],dJ [0,0,3,4,0,24,32,0,0,384,512,0,2048,0,0,24576,32768,65536,135168,263168,524288,64,1048576],(jJ 0 23 .done)⟩
def Y4:aw:=⟨dJ [0,0,3,7,0,0,48,112,255,0,512,0,3584,7680,15872,0,65024,130560,261632,524287],dJ [0,0,3,4,0,0,48,64,136,0,512,0,3072,4096,8192,0,49152,65536,131072,262400],(jJ 0 20 .done)⟩
def afd:aw:=⟨dJ [0,1,3,7,15,31,15,79,207,511,1023,2047,4095,8191,16383,32767,65535,131071,262143,131071,655359,131071,2228223,7995391,16383999,33161215,66715647,134217727,268435455,536870911],dJ [0,1,2,4,8,24,8,72,136,296,520,1024,2048,6144,10240,18432,32768,65536,196608,65536,589824,65536,2162688,5308416,8454144,16842752,33619968,67436544,134283264,268435456],(jJ 0 30 .done)⟩
def Y5:aw:=⟨dJ [0,0,2,7,15,0,0,64,239,495,511,2047],dJ [0,0,2,0,8,0,0,64,0,256,16,512],(jJ 0 3 (.take 5 [5] (.take 6 [5] (.take 7 [7,5] (.br 3 [7,5] [] (.take 4 [] (jK 8 (jJ 9 3 .done))) .stop)))))⟩
def afe:aw:=⟨dJ [0,1,3,7,15,0,32,96,224,511,0,1024,0,4096,12288,28672,64512,131071,0,262144,786432,1835008,4194303,8388607,16777215,33554431],dJ [0,1,2,4,0,0,32,64,128,0,0,1024,0,4096,8192,16384,34816,0,0,262144,524288,1048576,0,4325904,0,16777216],(jJ 0 4 (.take 5 [] (.take 6 [6] (.take 7 [7,6] (.take 8 [7,6] (.take 10 [7,6] (.take 11 [11,7,6] (.take 12 [11,7,6] (.take 13 [13,11,7,6] (.take 14 [14,13,11,7,6] (.take 15 [15,14,13,11,7,6] (.take 16 [15,14,13,11,7,6] (.take 18 [15,14,13,11,7,6] (.take 19 [19,15,14,13,11,7,6] (.take 20 [20,19,15,14,13,11,7,6] (.take 21 [20,19,15,14,13,11,7,6] (.br 4 [20,19,15,14,13,11,7,6] [20,19,15,14,13,11] (.br 9 [20,19,15,14,13,11] [20,19] (.br 17 [20,19] [] (jK 22 (.take 23 [] (jK 24 (.take 25 [] .done)))) .stop) .stop) .stop)))))))))))))))))⟩
def aff:aw:=⟨dJ [0,0,0,4,0,28,63,127],dJ [0,0,0,4,0,24,0,64],(jJ 0 6 (jK 6 (.take 7 [] .done)))⟩
def afg:aw:=⟨dJ [0,0,3,7,15,0,0,96,224,480,1023],dJ [0,0,3,4,8,0,0,96,128,256,528],(jJ 0 11 .done)⟩
def Y6:aw:=⟨dJ [0,1,3,0,8,31,63,127,255],dJ [0,1,0,0,8,0,36,0,128],(jJ 0 2 (.take 3 [] (.take 4 [4] (.br 2 [4] [] (jK 5 (.take 6 [] (jK 7 (.take 8 [] .done)))) .stop))))⟩
def afh:aw:=⟨dJ [0,1,0,4,15,31,63,0,128,511,1023,2047],dJ [0,1,0,4,10,16,32,0,128,320,512,0],(jJ 0 11 (jK 11 .done))⟩
def Y7:aw:=⟨dJ [0,0,2,7,15,31,31,127,255,31,31,1567,3615,31,15903,32287,65535,131071],dJ [0,0,2,5,8,16,16,112,144,16,16,1552,2064,16,12304,16400,33040,65552],(jJ 0 18 .done)⟩
def afi:aw:=⟨dJ [0,1,3,7,0,16,48,112,255,0,1023],dJ [0,1,2,0,0,16,32,0,136,0,0],(.al 9 [1,15,16,17,18,19,20,21,22] (.take 0 [] (.take 1 [1] (.take 2 [2,1] (.take 4 [2,1] (.take 5 [5,2,1] (.take 6 [6,5,2,1] (.br 3 [6,5] [2,1] (.br 7 [2,1] [] (.take 8 [] (jK 10 .done)) .stop) (.br 7 [2,1] [6,5] (.br 3 [6,5] [] (.take 8 [] (jK 10 .done)) .stop) .stop)))))))))⟩
def Y8:aw:=⟨dJ [0,1,0,0,0,0,32,0,224,480,0,999,3047,8191,16383],dJ [0,1,0,0,0,0,32,0,192,256,0,6,0,24,0],(jJ 0 12 (jK 12 (.take 13 [] (jK 14 .done))))⟩
def Y9:aw:=⟨dJ [0,1,0,0,8,0,56,120,248,511,1023],dJ [0,1,0,0,8,0,48,64,128,6,0],(jJ 0 10 (jK 10 .done))⟩
def Za:aw:=⟨dJ [0,1,0,0,8,0,56,120,248,0,512,2040,4095,8191],dJ [0,1,0,0,8,0,48,64,0,0,512,0,6,0],(.take 0 [] (.take 1 [1] (.take 2 [1] (.take 3 [1] (.take 4 [1] (.take 5 [1] (.take 6 [1] (.take 7 [1] (.take 9 [1] (.take 10 [1] (.br 8 [1] [1] (.br 11 [1] [] (.take 12 [] (jK 13 .done)) .stop) .stop)))))))))))⟩
def Zb:aw:=⟨dJ [0,1,0,4,12,31,63,0,128,0,512,1536,3968,8064,16383,0,32768,131071],dJ [0,1,0,4,8,18,32,0,128,0,512,1024,2304,4096,8256,0,32768,81920],(jJ 0 18 .done)⟩
def Zc:aw:=⟨dJ [0,0,0,4,12,30,62,0,128,0,512,1536,3968,8064,0,16384,0,130944,262016,524286,1048574,524161,4194303],dJ [0,0,0,4,8,18,32,0,128,0,512,1024,2304,4096,0,16384,0,106496,0,262208,0,0,1048576],(.take 0 [0] (.take 1 [0] (.take 2 [0] (.take 3 [0] (.take 4 [4,0] (.take 5 [4,0] (.take 6 [6,4,0] (.take 7 [6,4,0] (.take 8 [6,4,0] (.take 9 [6,4,0] (.take 10 [6,4,0] (.take 11 [6,4,0] (.take 12 [6,4,0] (.take 13 [6,4,0] (.take 14 [6,4,0] (.take 15 [6,4,0] (.take 16 [6,4,0] (.take 17 [6,4,0] (.br 18 [6,4,0] [6,4,0] (.take 19 [6,4,0] (.br 20 [0] [6,4] (.br 21 [6,4] [] (.take 22 [] .done) .stop) (.br 21 [6,4] [0] (.br 20 [0] [] (.take 22 [] .done) .stop) .stop))) .stop)))))))))))))))))))⟩
def afj:aw:=⟨dJ [0,0,0,6,15,31,63,63,127,511],dJ [0,0,0,6,9,16,32,32,64,128],(jJ 0 10 .done)⟩
def afk:aw:=⟨dJ [0,0,0,6,15],dJ [0,0,0,6,0],(jJ 0 4 (jK 4 .done))⟩
def Zd:aw:=⟨dJ [0,0,2,0,0,16,0,0,0,384,896,1984,0,0,8192,28672,62336,0,131072,393216,1045376,2093959,4191111,8388551,16777215,33554431],dJ [0,0,2,0,0,16,0,0,0,0,512,1088,0,0,8192,20480,0,0,131072,262144,0,0,2097152,0,0,0],(.take 0 [0] (.take 1 [0] (.take 2 [2,0] (.take 3 [3,2,0] (.take 4 [3,2,0] (.take 5 [5,3,2,0] (.take 6 [5,3,2,0] (.take 7 [5,3,2,0] (.take 8 [5,3,2,0] (.take 12 [12,5,3,2,0] (.take 13 [12,5,3,2,0] (.take 14 [14,12,5,3,2,0] (.take 15 [15,14,12,5,3,2,0] (.take 17 [17,15,14,12,5,3,2,0] (.take 18 [17,15,14,12,5,3,2,0] (.take 19 [17,15,14,12,5,3,2,0] (.br 9 [17,15,14,12,5,3,2,0] [17,5,3,2,0] (.take 10 [17,5,3,2,0] (.take 11 [17,5,3,2,0] (.br 16 [17,5,3,2,0] [5,3,2,0] (.br 20 [5,3,2,0] [5,3] (.br 21 [5,3] [5,3] (.take 22 [5,3] (.br 23 [5,3] [] (jK 24 (jK 25 .done)) .stop)) .stop) .stop) .stop))) .stop)))))))))))))))))⟩
def Ze:aw:=⟨dJ [0,0,2,0,0,16,0,0,0,384,896,1984,0,0,8192,28672,62336,0,131072,393216,1045376,2093959,4191111,8388551,16777215,33554431],dJ [0,0,2,0,0,16,0,0,0,0,512,1088,0,0,8192,20480,0,0,131072,262144,0,0,2097152,0,0,0],(.take 0 [0] (.take 1 [0] (.take 2 [2,0] (.take 3 [3,2,0] (.take 4 [3,2,0] (.take 5 [5,3,2,0] (.take 6 [5,3,2,0] (.take 7 [5,3,2,0] (.take 8 [5,3,2,0] (.take 12 [12,5,3,2,0] (.take 13 [12,5,3,2,0] (.take 14 [14,12,5,3,2,0] (.take 15 [15,14,12,5,3,2,0] (.take 17 [17,15,14,12,5,3,2,0] (.take 18 [17,15,14,12,5,3,2,0] (.take 19 [17,15,14,12,5,3,2,0] (.br 9 [17,15,14,12,5,3,2,0] [17,5,3,2,0] (.take 10 [17,5,3,2,0] (.take 11 [17,5,3,2,0] (.br 16 [17,5,3,2,0] [5,3,2,0] (.br 20 [5,3,2,0] [5,3] (.br 21 [5,3] [5,3] (.take 22 [5,3] (.br 23 [5,3] [] (jK 24 (jK 25 .done)) .stop)) .stop) .stop) .stop))) .stop)))))))))))))))))⟩
def Zf:aw:=⟨dJ [0,0,2,7,0,0,32,112,255,0,0,1536,3584,8191],dJ [0,0,2,5,0,0,32,80,136,0,0,0,2048,4352],(.take 0 [0] (.take 1 [0] (.take 2 [2,0] (.take 3 [3,2,0] (.take 4 [4,3,2,0] (.take 5 [4,3,2,0] (.take 6 [6,4,3,2,0] (.take 7 [7,6,4,3,2,0] (.take 8 [7,6,4,3,2,0] (.take 9 [7,6,4,3,2,0] (.take 10 [7,6,4,3,2,0] (.br 11 [7,6,4,3,2,0] [] (jJ 12 2 .done) .stop))))))))))))⟩
def Zg:aw:=⟨dJ [0,0,0,4,14,0,32,96,0,510,1022,2047,4095],dJ [0,0,0,4,10,0,32,64,0,400,0,0,0],(.take 0 [0] (.take 1 [0] (.take 2 [0] (.take 3 [0] (.take 4 [0] (.take 5 [0] (.take 6 [0] (.take 7 [0] (.take 8 [0] (.take 9 [0] (.br 10 [0] [] (jK 11 (jK 12 .done)) .stop)))))))))))⟩
def afl:aw:=⟨dJ [0,0,2,6,15,31,0,64,192,511,1023,0,0,4096,14336,30720,0,65536,260096,522240,2047,2097151],dJ [0,0,2,4,9,16,0,64,128,288,512,0,0,4096,10240,16384,0,65536,163840,262144,1024,524288],(jJ 0 22 .done)⟩
def afm:aw:=⟨dJ [0,1,3,7,15,31,15,79,207,511,1023,2047,4095,8191,16383,32767,65535,131071,262143,131071,655359,131071,2228223,7995391,16383999,33161215,66715647,134217727,268435455,536870911],dJ [0,1,2,4,8,24,8,72,136,296,520,1024,2048,6144,10240,18432,32768,65536,196608,65536,589824,65536,2162688,5308416,8454144,16842752,33619968,67436544,134283264,268435456],(jJ 0 30 .done)⟩
def afn:aw:=⟨dJ [0,1,0,4,15,31,63,0,128,511,1023,2047],dJ [0,1,0,4,10,16,32,0,128,320,512,0],(jJ 0 11 (jK 11 .done))⟩
def afo:aw:=⟨dJ [0,0,2,7,15,0,0,64,239,495,511,2047],dJ [0,0,2,0,8,0,0,64,0,256,16,512],(jJ 0 3 (.take 5 [5] (.take 6 [5] (.take 7 [7,5] (.br 3 [7,5] [] (.take 4 [] (jK 8 (jJ 9 3 .done))) .stop)))))⟩
def afp:aw:=⟨dJ [0,1,3,7,15,0,32,127,0,256,1023,2047,4095,8191],dJ [0,1,0,4,0,0,32,0,0,256,0,1168,0,4096],(jJ 0 2 (.take 5 [] (.take 6 [6] (.take 8 [6] (.take 9 [9,6] (.br 2 [9,6] [9,6] (.take 3 [9,6] (.br 4 [9,6] [9] (.br 7 [9] [] (jK 10 (.take 11 [] (jK 12 (.take 13 [] .done)))) .stop) .stop)) .stop))))))⟩
def afq:aw:=⟨dJ [0,1,3,7,15,0,63,0,128,384,896,2047,4095,8191,16383,32767,65535,131071,262143,524287,1048575],dJ [0,1,0,4,0,0,0,0,128,256,512,1024,2048,6144,10240,18432,34816,0,131152,0,524288],(jJ 0 2 (.take 5 [] (.take 7 [] (.take 8 [8] (.take 9 [9,8] (.take 10 [9,8] (.br 2 [9,8] [9,8] (.take 3 [9,8] (.br 4 [9,8] [9,8] (.br 6 [9,8] [] (jJ 11 6 (jK 17 (.take 18 [] (jK 19 (.take 20 [] .done))))) .stop) .stop)) .stop)))))))⟩
def Zh:aw:=⟨dJ [0,1,3,0,8,31,63,127,255],dJ [0,1,0,0,8,0,36,0,128],(jJ 0 2 (.take 3 [] (.take 4 [4] (.br 2 [4] [] (jK 5 (.take 6 [] (jK 7 (.take 8 [] .done)))) .stop))))⟩
def Zi:aw:=⟨dJ [0,0,2,0,8,24,0,64,0,256,960,1984,4032,8128,16376,32766,65535,131071],dJ [0,0,2,0,8,16,0,64,0,256,640,1024,2048,4096,8224,16388,32769,0],(jJ 0 17 (jK 17 .done))⟩
def Zj:aw:=⟨dJ [0,0,0,6,1,31],dJ [0,0,0,6,0,8],(.take 0 [] (.take 1 [1] (.take 2 [2,1] (.take 3 [2,1] (.br 4 [2,1] [] (.take 5 [] .done) .stop)))))⟩
def Zk:aw:=⟨dJ [0,0,2,0,14,30,63,0],dJ [0,0,2,0,12,16,0,0],(jJ 0 6 (.take 7 [] (jK 6 .done)))⟩
def Zl:aw:=⟨dJ [0,1,0,7,15,31,0,127,255,511,1023,511,4095,8191],dJ [0,1,0,6,8,16,0,96,128,256,768,256,3328,4352],(jJ 0 14 .done)⟩
def Vk:aw:=⟨dJ [0,1,0,7,15,31,0,127,255,511,1023,511,4095,8191],dJ [0,1,0,6,8,16,0,96,128,256,768,256,3328,4352],(jJ 0 14 .done)⟩
def Vl:aw:=⟨dJ [0,0,2,7,0,0,32,112,15,511],dJ [0,0,2,5,0,0,32,80,8,128],(jJ 0 10 .done)⟩
def Zm:aw:=⟨dJ [0,1,3,7,7,31,63,7,255,511,1023],dJ [0,1,2,4,4,28,36,4,196,260,512],(jJ 0 11 .done)⟩
def Zn:aw:=⟨dJ [0,0,2,6,15,31,0,127,255,511,1023,511,2559,6655,16383,32767,511,66047,511,262655,786943,2032127,4129279,8388607,511,16777727,67108863,134217727,268435455],dJ [0,0,2,4,9,16,0,96,128,256,768,256,2304,4352,9472,16640,256,65792,256,262400,524544,1179904,2097408,4227328,256,16777472,41943296,67109120,134217728],(jJ 0 29 .done)⟩
def Zo:aw:=⟨dJ [0,0,2,7,0,0,32,127,0,0,1023,2047],dJ [0,0,2,0,0,0,32,0,0,0,0,0],(.al 8 [2,3,7,8,9,11,12,13] (.al 9 [2,3,7,8,9,11,12,13] (jJ 0 3 (.take 4 [4] (.take 5 [4] (.take 6 [6,4] (.br 3 [6,4] [] (jK 7 (jK 10 (jK 11 .done))) .stop)))))))⟩
def Vm:aw:=⟨dJ [0,0,2,7,0,0,32,112,15,511],dJ [0,0,2,5,0,0,32,80,8,128],(jJ 0 10 .done)⟩
def Vn:aw:=⟨dJ [0,0,0,6,0,16,63],dJ [0,0,0,6,0,16,0],(jJ 0 6 (jK 6 .done))⟩
def Zp:aw:=⟨dJ [0,0,0,0,0,0,48,112,0,0,768,1792,4083,8179,16383,32767],dJ [0,0,0,0,0,0,48,64,0,0,768,1024,3,0,12,0],(jJ 0 13 (jK 13 (.take 14 [] (jK 15 .done))))⟩
def Zq:aw:=⟨dJ [0,0,2,7,0,0,32,112,255,511],dJ [0,0,2,5,0,0,32,80,136,0],(jJ 0 9 (jK 9 .done))⟩
def Zr:aw:=⟨dJ [0,0,0,0,0,0,48,112,0,0,768,1792,4083,8179,16383,32767],dJ [0,0,0,0,0,0,48,64,0,0,768,1024,3,0,12,0],(jJ 0 13 (jK 13 (.take 14 [] (jK 15 .done))))⟩
def Zs:aw:=⟨dJ [0,1,0,4,0,28,60,0,252,511,1023],dJ [0,1,0,4,0,24,32,0,192,258,0],(jJ 0 10 (jK 10 .done))⟩
def dtF (f r:Nat):Option aw:=
  bif aad f 6 then (bif aad r 4 then some akn else bif aad r 6 then some ako else bif aad r 17 then some aeZ else bif aad r 14 then some ae0 else bif aad r 25 then some ae1 else none) else
  bif aad f 13 then (bif aad r 9 then some ae2 else none) else
  bif aad f 14 then (bif aad r 16 then some YR else none) else
  bif aad f 21 then (bif aad r 8 then some ae3 else none) else
  bif aad f 24 then (bif aad r 6 then some ae4 else none) else
  bif aad f 25 then (bif aad r 15 then some YS else bif aad r 18 then some YT else bif aad r 19 then some YU else none) else
  bif aad f 26 then (bif aad r 6 then some ae5 else none) else
  bif aad f 27 then (bif aad r 9 then some ae6 else none) else
  bif aad f 33 then (bif aad r 1 then some ae7 else none) else
  bif aad f 34 then (bif aad r 11 then some YV else none) else
  bif aad f 36 then (bif aad r 6 then some ae8 else bif aad r 13 then some YW else bif aad r 14 then some YX else bif aad r 17 then some YY else none) else
  bif aad f 38 then (bif aad r 12 then some YZ else none) else
  bif aad f 40 then (bif aad r 1 then some ae9 else none) else
  bif aad f 41 then (bif aad r 1 then some afa else bif aad r 5 then some afb else bif aad r 11 then some Y0 else none) else
  bif aad f 43 then (bif aad r 4 then some afc else bif aad r 12 then some Y1 else bif aad r 24 then some Y2 else bif aad r 38 then some Y3 else bif aad r 39 then some Y4 else none) else
  bif aad f 44 then (bif aad r 1 then some afd else none) else
  bif aad f 48 then (bif aad r 11 then some Y5 else none) else
  bif aad f 56 then (bif aad r 1 then some afe else bif aad r 7 then some aff else none) else
  bif aad f 64 then (bif aad r 6 then some afg else bif aad r 14 then some Y6 else none) else
  bif aad f 69 then (bif aad r 1 then some afh else none) else
  bif aad f 73 then (bif aad r 11 then some Y7 else none) else
  bif aad f 75 then (bif aad r 1 then some afi else bif aad r 19 then some Y8 else bif aad r 21 then some Y9 else bif aad r 22 then some Za else bif aad r 29 then some Zb else bif aad r 32 then some Zc else none) else
  bif aad f 81 then (bif aad r 7 then some afj else bif aad r 9 then some afk else bif aad r 19 then some Zd else bif aad r 21 then some Ze else bif aad r 27 then some Zf else bif aad r 30 then some Zg else none) else
  bif aad f 82 then (bif aad r 2 then some afl else none) else
  bif aad f 85 then (bif aad r 1 then some afm else none) else
  bif aad f 88 then (bif aad r 1 then some afn else none) else
  bif aad f 89 then (bif aad r 9 then some afo else none) else
  bif aad f 96 then (bif aad r 6 then some afp else none) else
  bif aad f 98 then (bif aad r 5 then some afq else bif aad r 11 then some Zh else none) else
  bif aad f 100 then (bif aad r 1 then some Zi else none) else
  bif aad f 101 then (bif aad r 4 then some Zj else bif aad r 5 then some Zk else bif aad r 8 then some Zl else bif aad r 10 then some Vk else none) else
  bif aad f 102 then (bif aad r 10 then some Vl else none) else
  bif aad f 107 then (bif aad r 1 then some Zm else none) else
  bif aad f 109 then (bif aad r 1 then some Zn else none) else
  bif aad f 114 then (bif aad r 1 then some Zo else none) else
  bif aad f 115 then (bif aad r 10 then some Vm else bif aad r 23 then some Vn else none) else
  bif aad f 119 then (bif aad r 3 then some Zp else none) else
  bif aad f 122 then (bif aad r 2 then some Zq else none) else
  bif aad f 126 then (bif aad r 3 then some Zr else none) else
  bif aad f 136 then (bif aad r 3 then some Zs else none) else none
def okF (f:Nat):Bool:=Nat.blt f 158&&!(([3,4,5,7,17,19,20,28,32,45,47,49,50,51,67,68,76,91,92,113,130]:List Nat).any (aad f))
def Vo:(aag 158).all (λ f=>!okF f || match Tryz.prog.funcs[f]? with
  |some fn=>match fn.body with
    |some c=>cI (dtF f) c
    |none=>true
  |none=>true)=true:=by kernel_rfl
def Zt (f:FuncId) (fn:Func) (c:Code) (h:okF f=true) (hf:Tryz.prog.funcs[f]?=some fn) (hb:fn.body=some c):cI (dtF f) c=true:=by
  have du:f < 158:=by
    have:Nat.blt f 158=true:=by
      rw [okF,Bool.and_eq_true] at h
      exact h.1
    exact Nat.le_of_ble_eq_true this
  have h1:=List.all_eq_true.1 Vo f (List.mem_range.2 du)
  rw [h,hf] at h1
  simp only [hb] at h1
  simpa using h1
noncomputable def aoX:aeF:={ toEnv:=env,dt:=dtF,okF:=okF,ack:=Zt }
end Go.Proofs.YtegoimldbgdeiaaGreat
