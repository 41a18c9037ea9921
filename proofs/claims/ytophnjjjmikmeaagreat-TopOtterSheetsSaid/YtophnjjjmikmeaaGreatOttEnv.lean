/- The abstract machine's surroundings for this program: its types as a table (printed by a program of ours,checked by the kernel). -/
import Derived.Test.YtophnjjjmikmeaaGreatProg
import Derived.Test.YtophnjjjmikmeaaGreatAmKL
import Derived.KernelRfl
set_option linter.all false
namespace Go.Proofs.YtophnjjjmikmeaaGreat
open Go Go.Am
set_option maxRecDepth 100000
def tI (k : TK) (n : Nat) (a : Bool) (z : Option AV) (e : EK) : Option TI := some ⟨k, n, a, z, e⟩
def Y0 (t : Nat) : Option TI :=
 bif Nat.ble t 104 then
 bif Nat.ble t 51 then
 bif Nat.ble t 25 then
 bif Nat.ble t 12 then
 bif Nat.ble t 5 then
 bif Nat.ble t 2 then
 bif Nat.ble t 0 then
 tI (.sc) 1 false (some (.bt [])) (.no)
 else
 bif Nat.ble t 1 then
 tI (.sc) 1 false (some (.dz)) (.no)
 else
 tI (.int .i64) 1 false (some (.int .i64 0)) (.int)
 else
 bif Nat.ble t 3 then
 tI (.int .i64) 1 false (some (.int .i64 0)) (.int)
 else
 bif Nat.ble t 4 then
 tI (.sc) 1 false (some (.bool false)) (.bool)
 else
 tI (.int .u8) 1 false (some (.int .u8 0)) (.int)
 else
 bif Nat.ble t 8 then
 bif Nat.ble t 6 then
 tI (.int .u8) 1 false (some (.int .u8 0)) (.int)
 else
 bif Nat.ble t 7 then
 tI (.st [(0,1,false),(1,1,false),(2,1,false),(3,1,false)]) 4 true (some (.agg [.int .i64 0,.int .i64 0,.bool false,.int .u8 0])) ((.st (.cons 0 1 false .int (.cons 1 1 false .int (.cons 2 1 false .bool (.cons 3 1 false .int .nil))))))
 else
 tI (.st [(0,1,false),(1,1,false),(2,1,false),(3,1,false)]) 4 true (some (.agg [.int .i64 0,.int .i64 0,.bool false,.int .u8 0])) ((.st (.cons 0 1 false .int (.cons 1 1 false .int (.cons 2 1 false .bool (.cons 3 1 false .int .nil))))))
 else
 bif Nat.ble t 10 then
 bif Nat.ble t 9 then
 tI (.str) 1 false (some (.str [])) (.str)
 else
 none
 else
 bif Nat.ble t 11 then
 tI (.str) 1 false (some (.str [])) (.str)
 else
 tI (.int .u64) 1 false (some (.int .u64 0)) (.int)
 else
 bif Nat.ble t 18 then
 bif Nat.ble t 15 then
 none
 else
 bif Nat.ble t 16 then
 tI (.sc) 1 false (some (.gW)) (.no)
 else
 bif Nat.ble t 17 then
 tI (.sc) 1 false (some (.gW)) (.no)
 else
 none
 else
 bif Nat.ble t 21 then
 bif Nat.ble t 19 then
 none
 else
 bif Nat.ble t 20 then
 tI (.sc) 1 false (some (.lY)) (.no)
 else
 tI (.int .i32) 1 false (some (.int .i32 0)) (.int)
 else
 bif Nat.ble t 23 then
 bif Nat.ble t 22 then
 none
 else
 tI (.st [(0,1,false),(1,1,false)]) 2 true (some (.agg [.int .i64 0,.int .i64 0])) ((.st (.cons 0 1 false .int (.cons 1 1 false .int .nil))))
 else
 bif Nat.ble t 24 then
 tI (.st [(0,1,false),(1,1,false)]) 2 true (some (.agg [.str [],.int .i64 0])) ((.st (.cons 0 1 false .str (.cons 1 1 false .int .nil))))
 else
 tI (.st [(0,1,false),(1,1,false)]) 2 true (some (.agg [.str [],.int .i64 0])) ((.st (.cons 0 1 false .str (.cons 1 1 false .int .nil))))
 else
 bif Nat.ble t 38 then
 bif Nat.ble t 31 then
 bif Nat.ble t 28 then
 bif Nat.ble t 26 then
 tI (.int .i8) 1 false (some (.int .i8 0)) (.int)
 else
 none
 else
 bif Nat.ble t 29 then
 tI (.sl 59 3 true 24 (some (.agg [.int .i64 0,.int .i64 0,.int .i64 0]))) 1 false (some (.list .nil 0 [])) (.no)
 else
 bif Nat.ble t 30 then
 tI (.int .i64) 1 false (some (.int .i64 0)) (.int)
 else
 tI (.sc) 1 false (some (.bt [.list .nil 0 [],.int .i64 0])) (.no)
 else
 bif Nat.ble t 34 then
 bif Nat.ble t 32 then
 tI (.sc) 1 false (some (.dz)) (.no)
 else
 none
 else
 bif Nat.ble t 36 then
 bif Nat.ble t 35 then
 none
 else
 tI (.st [(0,1,false),(1,1,false),(2,1,false),(3,1,false),(4,1,false)]) 5 true (some (.agg [.int .i64 0,.int .i64 0,.int .i64 0,.int .i64 0,.int .i64 0])) ((.st (.cons 0 1 false .int (.cons 1 1 false .int (.cons 2 1 false .int (.cons 3 1 false .int (.cons 4 1 false .int .nil)))))))
 else
 bif Nat.ble t 37 then
 tI (.sc) 1 false (none) (.no)
 else
 none
 else
 bif Nat.ble t 44 then
 bif Nat.ble t 41 then
 bif Nat.ble t 39 then
 none
 else
 bif Nat.ble t 40 then
 tI (.sc) 1 false (none) (.no)
 else
 none
 else
 none
 else
 bif Nat.ble t 47 then
 bif Nat.ble t 45 then
 tI (.sc) 1 false (some (.dz)) (.no)
 else
 bif Nat.ble t 46 then
 tI (.arr 2 1 false) 2 true (some (.agg [.int .i64 0,.int .i64 0])) ((.st (.cons 0 1 false .int (.cons 1 1 false .int .nil))))
 else
 none
 else
 bif Nat.ble t 49 then
 bif Nat.ble t 48 then
 tI (.sc) 1 false (some (.dz)) (.no)
 else
 tI (.sl 46 2 true 16 (some (.agg [.int .i64 0,.int .i64 0]))) 1 false (some (.list .nil 0 [])) (.no)
 else
 bif Nat.ble t 50 then
 tI (.sc) 1 false (some (.bt [.list .nil 0 [],.int .i64 0])) (.no)
 else
 none
 else
 bif Nat.ble t 77 then
 bif Nat.ble t 64 then
 bif Nat.ble t 57 then
 bif Nat.ble t 54 then
 bif Nat.ble t 52 then
 none
 else
 bif Nat.ble t 53 then
 tI (.sl 57 2 true 16 (some (.agg [.int .i64 0,.int .i64 0]))) 1 false (some (.list .nil 0 [])) (.no)
 else
 tI (.sc) 1 false (some (.bt [.list .nil 0 [],.int .i64 0])) (.no)
 else
 bif Nat.ble t 55 then
 none
 else
 bif Nat.ble t 56 then
 tI (.map 46 4 (some (.bool false))) 1 false (some (.ke)) (.no)
 else
 tI (.st [(0,1,false),(1,1,false)]) 2 true (some (.agg [.int .i64 0,.int .i64 0])) ((.st (.cons 0 1 false .int (.cons 1 1 false .int .nil))))
 else
 bif Nat.ble t 60 then
 bif Nat.ble t 58 then
 tI (.st [(0,1,false),(1,1,false),(2,1,false)]) 3 true (some (.agg [.int .i64 0,.int .i64 0,.int .i64 0])) ((.st (.cons 0 1 false .int (.cons 1 1 false .int (.cons 2 1 false .int .nil)))))
 else
 bif Nat.ble t 59 then
 tI (.st [(0,1,false),(1,1,false),(2,1,false)]) 3 true (some (.agg [.int .i64 0,.int .i64 0,.int .i64 0])) ((.st (.cons 0 1 false .int (.cons 1 1 false .int (.cons 2 1 false .int .nil)))))
 else
 tI (.sc) 1 false (some (.bt [.bool false,.int .i64 0])) (.no)
 else
 bif Nat.ble t 62 then
 bif Nat.ble t 61 then
 tI (.sc) 1 false (some (.dz)) (.no)
 else
 none
 else
 bif Nat.ble t 63 then
 none
 else
 tI (.sc) 1 false (some (.dz)) (.no)
 else
 bif Nat.ble t 70 then
 bif Nat.ble t 67 then
 bif Nat.ble t 65 then
 none
 else
 bif Nat.ble t 66 then
 tI (.sc) 1 false (some (.dz)) (.no)
 else
 none
 else
 bif Nat.ble t 68 then
 none
 else
 bif Nat.ble t 69 then
 none
 else
 tI (.sl 23 2 true 16 (some (.agg [.int .i64 0,.int .i64 0]))) 1 false (some (.list .nil 0 [])) (.no)
 else
 bif Nat.ble t 73 then
 bif Nat.ble t 71 then
 tI (.sc) 1 false (some (.bt [.list .nil 0 [],.int .i64 0])) (.no)
 else
 none
 else
 bif Nat.ble t 75 then
 none
 else
 bif Nat.ble t 76 then
 tI (.sl 80 5 true 40 (some (.agg [.int .i32 0,.int .i64 0,.int .i64 0,.int .i64 0,.int .i64 0]))) 1 false (some (.list .nil 0 [])) (.no)
 else
 tI (.sc) 1 false (some (.bt [.list .nil 0 [],.int .i64 0])) (.no)
 else
 bif Nat.ble t 90 then
 bif Nat.ble t 83 then
 bif Nat.ble t 80 then
 bif Nat.ble t 78 then
 tI (.sc) 1 false (some (.dz)) (.no)
 else
 bif Nat.ble t 79 then
 none
 else
 tI (.st [(0,1,false),(1,2,true),(3,2,true)]) 5 true (some (.agg [.int .i32 0,.int .i64 0,.int .i64 0,.int .i64 0,.int .i64 0])) ((.st (.cons 0 1 false .int (.cons 1 2 true (.st (.cons 0 1 false .int (.cons 1 1 false .int .nil))) (.cons 3 2 true (.st (.cons 0 1 false .int (.cons 1 1 false .int .nil))) .nil)))))
 else
 bif Nat.ble t 81 then
 none
 else
 bif Nat.ble t 82 then
 tI (.sc) 1 false (some (.dz)) (.no)
 else
 tI (.sc) 1 false (some (.dz)) (.no)
 else
 bif Nat.ble t 86 then
 bif Nat.ble t 84 then
 tI (.sc) 1 false (some (.dz)) (.no)
 else
 bif Nat.ble t 85 then
 none
 else
 tI (.sl 29 1 false 24 (some (.list .nil 0 []))) 1 false (some (.list .nil 0 [])) (.no)
 else
 none
 else
 bif Nat.ble t 97 then
 bif Nat.ble t 93 then
 none
 else
 bif Nat.ble t 95 then
 none
 else
 bif Nat.ble t 96 then
 none
 else
 tI (.sc) 1 false (some (.dz)) (.no)
 else
 bif Nat.ble t 100 then
 bif Nat.ble t 98 then
 none
 else
 bif Nat.ble t 99 then
 tI (.sc) 1 false (some (.dz)) (.no)
 else
 tI (.sc) 1 false (some (.dz)) (.no)
 else
 bif Nat.ble t 102 then
 bif Nat.ble t 101 then
 tI (.sc) 1 false (some (.dz)) (.no)
 else
 tI (.sc) 1 false (some (.dz)) (.no)
 else
 bif Nat.ble t 103 then
 tI (.sc) 1 false (some (.dz)) (.no)
 else
 tI (.sc) 1 false (some (.dz)) (.no)
 else
 bif Nat.ble t 156 then
 bif Nat.ble t 130 then
 bif Nat.ble t 117 then
 bif Nat.ble t 110 then
 bif Nat.ble t 107 then
 bif Nat.ble t 105 then
 tI (.sc) 1 false (some (.dz)) (.no)
 else
 none
 else
 bif Nat.ble t 108 then
 tI (.sc) 1 false (some (.dz)) (.no)
 else
 bif Nat.ble t 109 then
 none
 else
 tI (.st [(0,1,false),(1,1,false)]) 2 true (some (.agg [.int .i64 0,.int .i64 0])) ((.st (.cons 0 1 false .int (.cons 1 1 false .int .nil))))
 else
 bif Nat.ble t 113 then
 bif Nat.ble t 111 then
 tI (.sc) 1 false (some (.dz)) (.no)
 else
 bif Nat.ble t 112 then
 tI (.sc) 1 false (some (.dz)) (.no)
 else
 none
 else
 bif Nat.ble t 115 then
 bif Nat.ble t 114 then
 tI (.sc) 1 false (some (.dz)) (.no)
 else
 tI (.sc) 1 false (some (.dz)) (.no)
 else
 bif Nat.ble t 116 then
 tI (.sc) 1 false (some (.dz)) (.no)
 else
 tI (.sc) 1 false (some (.dz)) (.no)
 else
 bif Nat.ble t 123 then
 bif Nat.ble t 120 then
 bif Nat.ble t 118 then
 tI (.map 21 46 (some (.agg [.int .i64 0,.int .i64 0]))) 1 false (some (.ke)) (.no)
 else
 bif Nat.ble t 119 then
 tI (.sc) 1 false (some (.dz)) (.no)
 else
 none
 else
 bif Nat.ble t 121 then
 tI (.sc) 1 false (some (.dz)) (.no)
 else
 bif Nat.ble t 122 then
 tI (.arr 2 2 true) 4 true (some (.agg [.int .i64 0,.int .i64 0,.int .i64 0,.int .i64 0])) ((.st (.cons 0 2 true (.st (.cons 0 1 false .int (.cons 1 1 false .int .nil))) (.cons 2 2 true (.st (.cons 0 1 false .int (.cons 1 1 false .int .nil))) .nil))))
 else
 none
 else
 bif Nat.ble t 126 then
 bif Nat.ble t 124 then
 none
 else
 bif Nat.ble t 125 then
 none
 else
 tI (.sc) 1 false (some (.dz)) (.no)
 else
 bif Nat.ble t 128 then
 bif Nat.ble t 127 then
 none
 else
 tI (.sc) 1 false (some (.dz)) (.no)
 else
 bif Nat.ble t 129 then
 tI (.map 59 4 (some (.bool false))) 1 false (some (.ke)) (.no)
 else
 tI (.arr 4 3 true) 12 true (some (.agg [.int .i64 0,.int .i64 0,.int .i64 0,.int .i64 0,.int .i64 0,.int .i64 0,.int .i64 0,.int .i64 0,.int .i64 0,.int .i64 0,.int .i64 0,.int .i64 0])) ((.st (.cons 0 3 true (.st (.cons 0 1 false .int (.cons 1 1 false .int (.cons 2 1 false .int .nil)))) (.cons 3 3 true (.st (.cons 0 1 false .int (.cons 1 1 false .int (.cons 2 1 false .int .nil)))) (.cons 6 3 true (.st (.cons 0 1 false .int (.cons 1 1 false .int (.cons 2 1 false .int .nil)))) (.cons 9 3 true (.st (.cons 0 1 false .int (.cons 1 1 false .int (.cons 2 1 false .int .nil)))) .nil))))))
 else
 bif Nat.ble t 143 then
 bif Nat.ble t 136 then
 bif Nat.ble t 133 then
 bif Nat.ble t 131 then
 none
 else
 bif Nat.ble t 132 then
 none
 else
 tI (.sl 30 1 false 8 (some (.int .i64 0))) 1 false (some (.list .nil 0 [])) (.no)
 else
 bif Nat.ble t 134 then
 none
 else
 bif Nat.ble t 135 then
 tI (.sc) 1 false (some (.dz)) (.no)
 else
 none
 else
 bif Nat.ble t 139 then
 bif Nat.ble t 137 then
 tI (.sc) 1 false (some (.bt [.int .i64 0,.bool false])) (.no)
 else
 none
 else
 bif Nat.ble t 141 then
 bif Nat.ble t 140 then
 none
 else
 tI (.int .u64) 1 false (some (.int .u64 0)) (.int)
 else
 bif Nat.ble t 142 then
 tI (.sc) 1 false (some (.bt [.int .u64 0,.int .u64 0])) (.no)
 else
 none
 else
 bif Nat.ble t 149 then
 bif Nat.ble t 146 then
 bif Nat.ble t 144 then
 none
 else
 bif Nat.ble t 145 then
 tI (.sc) 1 false (some (.gW)) (.no)
 else
 tI (.sl 5 1 false 1 (some (.int .u8 0))) 1 false (some (.list .nil 0 [])) (.no)
 else
 bif Nat.ble t 147 then
 none
 else
 bif Nat.ble t 148 then
 tI (.st [(0,1,false),(1,1,false)]) 2 true (some (.agg [.gW,.list .nil 0 []])) ((.st (.cons 0 1 false .no (.cons 1 1 false .no .nil))))
 else
 none
 else
 bif Nat.ble t 152 then
 bif Nat.ble t 150 then
 none
 else
 bif Nat.ble t 151 then
 tI (.sc) 1 false (some (.lY)) (.no)
 else
 tI (.sc) 1 false (some (.bt [.int .i64 0,.lY])) (.no)
 else
 none
 else
 bif Nat.ble t 182 then
 bif Nat.ble t 169 then
 bif Nat.ble t 162 then
 bif Nat.ble t 159 then
 bif Nat.ble t 157 then
 none
 else
 bif Nat.ble t 158 then
 tI (.sl 3 1 false 8 (some (.int .i64 0))) 1 false (some (.list .nil 0 [])) (.no)
 else
 none
 else
 bif Nat.ble t 160 then
 none
 else
 bif Nat.ble t 161 then
 none
 else
 tI (.int .u32) 1 false (some (.int .u32 0)) (.int)
 else
 bif Nat.ble t 165 then
 bif Nat.ble t 163 then
 tI (.sc) 1 false (some (.bt [.int .u32 0,.int .u32 0])) (.no)
 else
 bif Nat.ble t 164 then
 none
 else
 tI (.int .u64) 1 false (some (.int .u64 0)) (.int)
 else
 bif Nat.ble t 167 then
 bif Nat.ble t 166 then
 tI (.sc) 1 false (some (.bt [.int .u64 0,.int .u64 0])) (.no)
 else
 none
 else
 bif Nat.ble t 168 then
 tI (.sc) 1 false (some (.gW)) (.no)
 else
 none
 else
 bif Nat.ble t 175 then
 bif Nat.ble t 172 then
 bif Nat.ble t 170 then
 tI (.int .i64) 1 false (some (.int .i64 0)) (.int)
 else
 bif Nat.ble t 171 then
 tI (.sc) 1 false (some (.bt [.int .i64 0,.int .i64 0])) (.no)
 else
 none
 else
 none
 else
 none
 else
 bif Nat.ble t 195 then
 bif Nat.ble t 188 then
 bif Nat.ble t 185 then
 bif Nat.ble t 183 then
 tI (.sc) 1 false (some (.gW)) (.no)
 else
 none
 else
 bif Nat.ble t 186 then
 tI (.int .u64) 1 false (some (.int .u64 0)) (.int)
 else
 none
 else
 bif Nat.ble t 191 then
 bif Nat.ble t 189 then
 none
 else
 bif Nat.ble t 190 then
 tI (.sc) 1 false (some (.gW)) (.no)
 else
 none
 else
 bif Nat.ble t 193 then
 none
 else
 bif Nat.ble t 194 then
 tI (.sc) 1 false (some (.gW)) (.no)
 else
 tI (.sc) 1 false (some (.bt [.int .i64 0,.int .i64 0])) (.no)
 else
 none
def RZ (t:Nat):Option TI:=bif Nat.ble 210 t then none else Y0 t
theorem Ks:(List.range 210).map (fun t=>match RZ t with | none=>none | some _=>EF Tryz.prog t)=(List.range 210).map RZ:=by kernel_rfl
theorem EG (t:TypeId) (i:TI) (h:RZ t=some i):EF Tryz.prog t=some i:=by
  by_cases ht:t < 210
  · have h1:=congrArg (fun l=>l[t]?) Ks
    simp only [List.getElem?_map,List.getElem?_range ht,Option.map_some,Option.some.injEq] at h1
    rw [h] at h1
    exact h1
  · have hb:Nat.ble 210 t=true:=Nat.ble_eq_true_of_le (Nat.not_lt.1 ht)
    rw [RZ,hb] at h
    cases h
def R6:List ((Nat × Nat) × List (Option Nat × Nat × Nat)):=[((34,3),[(none,2,23)]),((38,5),[(none,3,59)]),((82,2),[(some 0,3,59)])]
def My:List ((Nat × Nat) × List (Option Nat × Nat × Nat))→Nat→Nat→List (Option Nat × Nat × Nat)
  | [],_,_=>[]
  | ((a,b),x) :: l,f,t=>bif Nat.beq a f&&Nat.beq b t then x else My l f t
def Vw (f t:Nat):List (Option Nat × Nat × Nat):=My R6 f t
def Vx (f t:Nat):Bool:=
  (Nat.beq f 1000000&&Nat.beq t 1000000) ||
  (Nat.beq f 27&&(Nat.beq t 65563)) ||
  (Nat.beq f 34&&(Nat.beq t 6 || Nat.beq t 262160)) ||
  (Nat.beq f 36&&(Nat.beq t 196634 || Nat.beq t 262211)) ||
  (Nat.beq f 38&&(Nat.beq t 131072)) ||
  (Nat.beq f 48&&(Nat.beq t 3 || Nat.beq t 4 || Nat.beq t 5)) ||
  (Nat.beq f 69&&(Nat.beq t 9)) ||
  (Nat.beq f 78&&(Nat.beq t 262148 || Nat.beq t 393220)) ||
  (Nat.beq f 82&&(Nat.beq t 2 || Nat.beq t 131072)) ||
  (Nat.beq f 102&&(Nat.beq t 8)) ||
  (Nat.beq f 110&&(Nat.beq t 9)) ||
  (Nat.beq f 111&&(Nat.beq t 11)) ||
  (Nat.beq f 120&&(Nat.beq t 9)) ||
  (Nat.beq f 121&&(Nat.beq t 11))
def Mz:bX:=[]
theorem Kt:Mz.all (fun p=>aJ p.2)=true:=by kernel_rfl
def R7 (g:Nat):Option (List AV):=cO Mz g
noncomputable def env:Env:={ P:=Tryz.prog,ti:=RZ,cG:=R7,tW:=Vx,JB:=fun _=>none,Wl:=Vw,EG:=EG,mixed:=by kernel_rfl,yK:=fun _ _ h=>JH Kt h }
def bE (l:List Nat):List (List Nat):=l.map fun m=>(List.range (m.log2+1)).filter m.testBit
def cr (a:Nat):Nat→DT→DT
 | 0,t=>t
 | n+1,t=>zr (a+1) fun b=>.take a [] (cr b n t)
def cu (i:Nat) (t:DT):DT:=.br i [] [] t .stop
def N3:ai:=⟨bE [0,0,2,7,15,31,31,127,255,31,1023,2047],bE [0,0,2,5,8,16,16,112,144,16,784,1040],(cr 0 12 .done)⟩
def R8:ai:=⟨bE [0,1,3,7,7,23,63,127,7,7,775,1799,4095,8191,16383],bE [0,1,2,4,4,20,44,68,4,4,772,1028,0,4100,8196],(cr 0 12 (cu 12 (cr 13 2 .done)))⟩
def N4:ai:=⟨bE [0,0,3,7,0,0,48,112,255],bE [0,0,3,4,0,0,48,64,136],(cr 0 9 .done)⟩
def N5:ai:=⟨bE [0,1,0,7,15,31,0,64,0,256,960,0,2048,0,14336,32704,65535,131071,262143,524287],bE [0,1,0,6,8,0,0,64,0,256,640,0,2048,0,12288,17408,0,65568,0,262144],(cr 0 5 (.take 6 [] (.take 7 [7] (.take 8 [7] (.take 9 [7] (.take 10 [7] (.take 11 [7] (.take 12 [12,7] (.take 13 [12,7] (.take 14 [12,7] (.take 15 [12,7] (.br 5 [12,7] [] (cu 16 (.take 17 [] (cu 18 (.take 19 [] .done)))) .stop))))))))))))⟩
def Ku:ai:=⟨bE [0,0,0,4,12,0,32,96,254,0,0,1024,3072,0,8192,24576,65534,131070,262142,524287,1048575],bE [0,0,0,4,8,0,32,64,0,0,0,1024,2048,0,8192,16384,0,65792,131072,0,524289],(cr 0 8 (cr 9 3 (.take 12 [12] (.take 13 [12] (.take 14 [12] (.take 15 [15,12] (.br 8 [15,12] [] (cu 16 (cr 17 2 (cu 19 (.take 20 [] .done)))) .stop)))))))⟩
def N6:ai:=⟨bE [0,1,0,7,15,31,63],bE [0,0,0,0,10,0,32],(.take 0 [] (.take 2 [2] (.br 1 [2] [] (cu 3 (.take 4 [] (cu 5 (.take 6 [] .done)))) .stop)))⟩
def N7:ai:=⟨bE [0,1,0,4,15,31,31,95,223,511,1023,31,4095,8191,16383,32767,65535,131071,262143],bE [0,0,0,4,8,16,16,80,144,304,528,16,0,4112,8208,0,32770,0,131072],(.take 0 [] (cr 2 2 (cu 1 (cr 4 8 (cu 12 (cr 13 2 (cu 15 (.take 16 [] (cu 17 (.take 18 [] .done))))))))))⟩
def N8:ai:=⟨bE [0,1,0,4,12,3,63],bE [0,1,0,4,8,2,16],(cr 0 7 .done)⟩
def N9:ai:=⟨bE [0,1,0,4,0,16,60,124,252,511,1023,2047,4095],bE [0,0,0,4,0,16,40,64,128,0,514,0,2048],(.take 0 [] (.take 2 [] (.take 3 [3] (.take 4 [3] (.take 5 [5,3] (.take 6 [5,3] (.take 7 [5,3] (.take 8 [5,3] (.br 1 [5,3] [] (cu 9 (.take 10 [] (cu 11 (.take 12 [] .done)))) .stop)))))))))⟩
def Oa:ai:=⟨bE [0,1,3,0,8,31,63,127,255],bE [0,1,0,0,8,0,36,0,128],(cr 0 2 (.take 3 [] (.take 4 [4] (.br 2 [4] [] (cu 5 (.take 6 [] (cu 7 (.take 8 [] .done)))) .stop))))⟩
def Ob:ai:=⟨bE [0,1,0,4,15,31,0,64,192,511,1023,2047,4095,8191,16383,32767,65535,131071],bE [0,1,0,4,10,0,0,64,128,256,512,1536,2560,4608,0,16416,0,65536],(cr 0 5 (.take 6 [] (.take 7 [7] (.take 8 [7] (.br 5 [7] [] (cr 9 5 (cu 14 (.take 15 [] (cu 16 (.take 17 [] .done))))) .stop)))))⟩
def Oc:ai:=⟨bE [0,1,0,4,15,0,32,0,128,511,0,1024,0,4096,16383,32767,65535,131071],bE [0,1,0,4,0,0,32,0,128,0,0,1024,0,4096,0,16912,0,65536],(cr 0 4 (.take 5 [] (.take 6 [6] (.take 7 [6] (.take 8 [8,6] (.take 10 [8,6] (.take 11 [11,8,6] (.take 12 [11,8,6] (.take 13 [13,11,8,6] (.br 4 [13,11,8,6] [13,11] (.br 9 [13,11] [] (cu 14 (.take 15 [] (cu 16 (.take 17 [] .done)))) .stop) .stop))))))))))⟩
def Od:ai:=⟨bE [0,1,0,4,15,0,32,0,128,511,1023,2047,4095],bE [0,1,0,4,0,0,32,0,128,0,528,0,2048],(cr 0 4 (.take 5 [] (.take 6 [6] (.take 7 [6] (.take 8 [8,6] (.br 4 [8,6] [] (cu 9 (.take 10 [] (cu 11 (.take 12 [] .done)))) .stop))))))⟩
def Oe:ai:=⟨bE [0,0,0,6,14,0,0,64,224,480,1023],bE [0,0,0,6,8,0,0,64,160,256,0],(cr 0 10 (cu 10 .done))⟩
def Kv:ai:=⟨bE [0,0,0,6,14,0,0,64,224,480,1023,2047],bE [0,0,0,6,8,0,0,64,160,256,0,1024],(cr 0 10 (cu 10 (.take 11 [] .done)))⟩
def Of:ai:=⟨bE [0,0,2,6,0,16,48,127,255],bE [0,0,2,4,0,16,32,0,128],(cr 0 7 (cu 7 (.take 8 [] .done)))⟩
def Kw:ai:=⟨bE [0,1,3,0,8,7,63],bE [0,1,2,0,8,0,25],(cr 0 5 (cu 5 (.take 6 [] .done)))⟩
def Kx:ai:=⟨bE [0,1,3,0,8,7,63],bE [0,1,2,0,8,0,25],(cr 0 5 (cu 5 (.take 6 [] .done)))⟩
def Og:ai:=⟨bE [0,0,0,6,14,0,63,127],bE [0,0,0,6,8,0,0,64],(cr 0 6 (cu 6 (.take 7 [] .done)))⟩
def Oh:ai:=⟨bE [0,0,0,6,14,30,30,30,222,478,30,2046,4094,8190,4095,32767],bE [0,0,0,6,8,16,16,16,208,272,16,0,2064,4112,1,8192],(cr 0 11 (cu 11 (cr 12 4 .done)))⟩
def Oi:ai:=⟨bE [0,1,3,7,15,0,32,96,224,480,1023,0,4095],bE [0,1,2,4,0,0,32,64,128,256,528,0,3072],(cr 0 4 (cr 5 3 (.take 8 [8] (.take 9 [9,8] (.take 11 [9,8] (.br 4 [9,8] [] (.take 10 [] (.take 12 [] .done)) .stop))))))⟩
def Oj:ai:=⟨bE [0,1,3,7,15,0,32,96,224,480,1023,2047],bE [0,1,2,4,0,0,32,64,128,256,0,1024],(cr 0 4 (cr 5 3 (.take 8 [8] (.take 9 [9,8] (.br 4 [9,8] [] (cu 10 (.take 11 [] .done)) .stop)))))⟩
def Ky:ai:=⟨bE [0,1,3,7,7,7,39,119,247,7,7,1543,3591,8191,16383,32767,65535],bE [0,1,2,4,4,4,36,84,132,4,4,1540,2052,0,8196,16388,32772],(cr 0 13 (cu 13 (cr 14 3 .done)))⟩
def HW:ai:=⟨bE [0,1,3,7,7,7,39,119,247,7,7,1543,3591,8191,16383,32767,65535],bE [0,1,2,4,4,4,36,84,132,4,4,1540,2052,0,8196,16388,32772],(cr 0 13 (cu 13 (cr 14 3 .done)))⟩
def Kz:ai:=⟨bE [0,1,3,7,15,31,0,127,255,0,512,1536,3584,7680,16383,32767],bE [0,1,2,4,0,16,0,96,0,0,512,1024,2048,4096,8448,16384],(cr 0 4 (.take 6 [] (cr 9 3 (.take 12 [12] (.take 13 [13,12] (.br 4 [13,12] [13,12] (.take 5 [13,12] (.take 7 [13,12] (.br 8 [13,12] [] (cr 14 2 .done) .stop))) .stop))))))⟩
def KA:ai:=⟨bE [0,0,3,7,15,15,15,111,239,15,15,1039,3599,7695,16383,32767,65535],bE [0,0,3,4,8,8,8,104,136,8,8,1032,2568,4104,0,16392,32776],(cr 0 14 (cu 14 (cr 15 2 .done)))⟩
def KB:ai:=⟨bE [0,0,0,0,8,0,0,64,224,480,0,0,3072,7168,16355,32739,65535,131071],bE [0,0,0,0,8,0,0,64,160,256,0,0,3072,4096,3,0,20,0],(cr 0 15 (cu 15 (.take 16 [] (cu 17 .done))))⟩
def HX:ai:=⟨bE [0,0,0,0,0,24,0,0,0,384,960,1984,0,0,12288,28672,65475,131011,262143,524287],bE [0,0,0,0,0,24,0,0,0,384,576,1024,0,0,12288,16384,3,0,36,0],(cr 0 17 (cu 17 (.take 18 [] (cu 19 .done))))⟩
def HY:ai:=⟨bE [0,0,0,0,0,24,0,0,0,384,960,1984,0,0,12288,28672,65475,131011,262143,524287],bE [0,0,0,0,0,24,0,0,0,384,576,1024,0,0,12288,16384,3,0,36,0],(cr 0 17 (cu 17 (.take 18 [] (cu 19 .done))))⟩
def KC:ai:=⟨bE [0,0,0,0,0,0,48,112,0,0,768,1792,4083,8179,16383,32767],bE [0,0,0,0,0,0,48,64,0,0,768,1024,3,0,12,0],(cr 0 13 (cu 13 (.take 14 [] (cu 15 .done))))⟩
def KD:ai:=⟨bE [0,0,3,7,15,15,15,111,239,15,15,1039,3599,7695,16383,32767,65535,131071],bE [0,0,3,4,8,8,8,104,136,8,8,1032,2568,4104,0,16392,32776,65544],(cr 0 14 (cu 14 (cr 15 3 .done)))⟩
def HZ:ai:=⟨bE [0,0,0,0,8,0,0,64,224,480,0,0,3072,7168,16355,32739,65535,131071],bE [0,0,0,0,8,0,0,64,160,256,0,0,3072,4096,3,0,20,0],(cr 0 15 (cu 15 (.take 16 [] (cu 17 .done))))⟩
def H0:ai:=⟨bE [0,0,0,6,14,0,0,64,224,480,1023,2047,4095],bE [0,0,0,6,8,0,0,64,160,256,0,1024,2048],(cr 0 10 (cu 10 (cr 11 2 .done)))⟩
def H3:ai:=⟨bE [0,0,0,0,8,0,0,64,224,480,0,0,3072,7168,16355,32739,65535,131071],bE [0,0,0,0,8,0,0,64,160,256,0,0,3072,4096,3,0,20,0],(cr 0 15 (cu 15 (.take 16 [] (cu 17 .done))))⟩
def H4:ai:=⟨bE [0,0,0,6,14,0,0,64,224,480,1023,2047,4095],bE [0,0,0,6,8,0,0,64,160,256,0,1024,2048],(cr 0 10 (cu 10 (cr 11 2 .done)))⟩
def H5:ai:=⟨bE [0,0,0,0,8,0,0,64,224,480,0,0,3072,7168,16355,32739,65535,131071],bE [0,0,0,0,8,0,0,64,160,256,0,0,3072,4096,3,0,20,0],(cr 0 15 (cu 15 (.take 16 [] (cu 17 .done))))⟩
def KE:ai:=⟨bE [0,0,0,0,0,0,48,112,0,0,768,1792,4083,8179,16383,32767],bE [0,0,0,0,0,0,48,64,0,0,768,1024,3,0,12,0],(cr 0 13 (cu 13 (.take 14 [] (cu 15 .done))))⟩
def KF:ai:=⟨bE [0,0,3,7,15,15,15,111,239,15,15,1551,3599,8191,16383,32767,65535],bE [0,0,3,4,8,8,8,104,136,8,8,1544,2056,0,8200,16392,32776],(cr 0 13 (cu 13 (cr 14 3 .done)))⟩
def KG:ai:=⟨bE [0,0,3,7,15,15,15,111,239,15,15,1551,3599,8191,16383,32767],bE [0,0,3,4,8,8,8,104,136,8,8,1544,2056,0,8200,16392],(cr 0 13 (cu 13 (cr 14 2 .done)))⟩
def KH:ai:=⟨bE [0,0,0,0,0,0,48,112,0,0,768,1792,4083,8179,16383,32767],bE [0,0,0,0,0,0,48,64,0,0,768,1024,3,0,12,0],(cr 0 13 (cu 13 (.take 14 [] (cu 15 .done))))⟩
def KI:ai:=⟨bE [0,0,0,0,0,0,48,112,0,0,768,1792,4083,8179,16383,32767],bE [0,0,0,0,0,0,48,64,0,0,768,1024,3,0,12,0],(cr 0 13 (cu 13 (.take 14 [] (cu 15 .done))))⟩
def KJ:ai:=⟨bE [0,0,3,7,15,15,15,111,239,15,15,1551,3599,8191,16383,32767],bE [0,0,3,4,8,8,8,104,136,8,8,1544,2056,0,8200,16392],(cr 0 13 (cu 13 (cr 14 2 .done)))⟩
def KK:ai:=⟨bE [0,0,3,7,15,15,15,111,239,15,15,1551,3599,8191,16383,32767,65535],bE [0,0,3,4,8,8,8,104,136,8,8,1544,2056,0,8200,16392,32776],(cr 0 13 (cu 13 (cr 14 3 .done)))⟩
def KL:ai:=⟨bE [0,0,0,0,0,0,48,112,0,0,768,1792,4083,8179,16383,32767],bE [0,0,0,0,0,0,48,64,0,0,768,1024,3,0,12,0],(cr 0 13 (cu 13 (.take 14 [] (cu 15 .done))))⟩
def H6:ai:=⟨bE [0,0,0,0,0,0,48,112,0,0,768,1792,4083,8179,16383,32767],bE [0,0,0,0,0,0,48,64,0,0,768,1024,3,0,12,0],(cr 0 13 (cu 13 (.take 14 [] (cu 15 .done))))⟩
def H7:ai:=⟨bE [0,0,3,7,15,15,15,111,239,15,15,1551,3599,8191,16383,32767],bE [0,0,3,4,8,8,8,104,136,8,8,1544,2056,0,8200,16392],(cr 0 13 (cu 13 (cr 14 2 .done)))⟩
def H8:ai:=⟨bE [0,0,3,7,15,15,15,111,239,15,15,1551,3599,8191,16383,32767,65535],bE [0,0,3,4,8,8,8,104,136,8,8,1544,2056,0,8200,16392,32776],(cr 0 13 (cu 13 (cr 14 3 .done)))⟩
def H9:ai:=⟨bE [0,0,0,0,0,0,48,112,0,0,768,1792,4083,8179,16383,32767],bE [0,0,0,0,0,0,48,64,0,0,768,1024,3,0,12,0],(cr 0 13 (cu 13 (.take 14 [] (cu 15 .done))))⟩
def Ia:ai:=⟨bE [0,0,0,0,0,0,48,112,0,0,768,1792,4083,8179,16383,32767],bE [0,0,0,0,0,0,48,64,0,0,768,1024,3,0,12,0],(cr 0 13 (cu 13 (.take 14 [] (cu 15 .done))))⟩
def KM:ai:=⟨bE [0,0,3,7,15,15,15,111,239,15,15,1039,3599,7695,16383,32767,65535],bE [0,0,3,4,8,8,8,104,136,8,8,1032,2568,4104,0,16392,32776],(cr 0 14 (cu 14 (cr 15 2 .done)))⟩
def KN:ai:=⟨bE [0,0,0,0,8,0,0,64,224,480,0,0,3072,7168,16355,32739,65535,131071],bE [0,0,0,0,8,0,0,64,160,256,0,0,3072,4096,3,0,20,0],(cr 0 15 (cu 15 (.take 16 [] (cu 17 .done))))⟩
def Ib:ai:=⟨bE [0,0,0,0,0,24,0,0,0,384,960,1984,0,0,12288,28672,65475,131011,262143,524287],bE [0,0,0,0,0,24,0,0,0,384,576,1024,0,0,12288,16384,3,0,36,0],(cr 0 17 (cu 17 (.take 18 [] (cu 19 .done))))⟩
def Ic:ai:=⟨bE [0,0,0,0,0,24,0,0,0,384,960,1984,0,0,12288,28672,65475,131011,262143,524287],bE [0,0,0,0,0,24,0,0,0,384,576,1024,0,0,12288,16384,3,0,36,0],(cr 0 17 (cu 17 (.take 18 [] (cu 19 .done))))⟩
def KO:ai:=⟨bE [0,0,0,0,0,0,48,112,0,0,768,1792,4083,8179,16383,32767],bE [0,0,0,0,0,0,48,64,0,0,768,1024,3,0,12,0],(cr 0 13 (cu 13 (.take 14 [] (cu 15 .done))))⟩
def KP:ai:=⟨bE [0,0,3,7,15,15,15,111,239,15,15,1039,3599,7695,16383,32767,65535,131071],bE [0,0,3,4,8,8,8,104,136,8,8,1032,2568,4104,0,16392,32776,65544],(cr 0 14 (cu 14 (cr 15 3 .done)))⟩
def Ie:ai:=⟨bE [0,0,0,0,8,0,0,64,224,480,0,0,3072,7168,16355,32739,65535,131071],bE [0,0,0,0,8,0,0,64,160,256,0,0,3072,4096,3,0,20,0],(cr 0 15 (cu 15 (.take 16 [] (cu 17 .done))))⟩
def Ig:ai:=⟨bE [0,0,0,6,14,0,0,64,224,480,1023,2047,4095],bE [0,0,0,6,8,0,0,64,160,256,0,1024,2048],(cr 0 10 (cu 10 (cr 11 2 .done)))⟩
def Ih:ai:=⟨bE [0,0,0,0,8,0,0,64,224,480,0,0,3072,7168,16355,32739,65535,131071],bE [0,0,0,0,8,0,0,64,160,256,0,0,3072,4096,3,0,20,0],(cr 0 15 (cu 15 (.take 16 [] (cu 17 .done))))⟩
def Ii:ai:=⟨bE [0,0,0,6,14,0,0,64,224,480,1023,2047,4095],bE [0,0,0,6,8,0,0,64,160,256,0,1024,2048],(cr 0 10 (cu 10 (cr 11 2 .done)))⟩
def Ij:ai:=⟨bE [0,0,0,0,8,0,0,64,224,480,0,0,3072,7168,16355,32739,65535,131071],bE [0,0,0,0,8,0,0,64,160,256,0,0,3072,4096,3,0,20,0],(cr 0 15 (cu 15 (.take 16 [] (cu 17 .done))))⟩
def KQ:ai:=⟨bE [0,0,0,0,0,0,48,112,0,0,768,1792,4083,8179,16383,32767],bE [0,0,0,0,0,0,48,64,0,0,768,1024,3,0,12,0],(cr 0 13 (cu 13 (.take 14 [] (cu 15 .done))))⟩
def KR:ai:=⟨bE [0,0,3,7,15,15,15,111,239,15,15,1551,3599,8191,16383,32767,65535],bE [0,0,3,4,8,8,8,104,136,8,8,1544,2056,0,8200,16392,32776],(cr 0 13 (cu 13 (cr 14 3 .done)))⟩
def KS:ai:=⟨bE [0,0,3,7,15,15,15,111,239,15,15,1551,3599,8191,16383,32767],bE [0,0,3,4,8,8,8,104,136,8,8,1544,2056,0,8200,16392],(cr 0 13 (cu 13 (cr 14 2 .done)))⟩
def KT:ai:=⟨bE [0,0,0,0,0,0,48,112,0,0,768,1792,4083,8179,16383,32767],bE [0,0,0,0,0,0,48,64,0,0,768,1024,3,0,12,0],(cr 0 13 (cu 13 (.take 14 [] (cu 15 .done))))⟩
def KU:ai:=⟨bE [0,0,0,0,0,0,48,112,0,0,768,1792,4083,8179,16383,32767],bE [0,0,0,0,0,0,48,64,0,0,768,1024,3,0,12,0],(cr 0 13 (cu 13 (.take 14 [] (cu 15 .done))))⟩
def KV:ai:=⟨bE [0,0,3,7,15,15,15,111,239,15,15,1551,3599,8191,16383,32767],bE [0,0,3,4,8,8,8,104,136,8,8,1544,2056,0,8200,16392],(cr 0 13 (cu 13 (cr 14 2 .done)))⟩
def KW:ai:=⟨bE [0,0,3,7,15,15,15,111,239,15,15,1551,3599,8191,16383,32767,65535],bE [0,0,3,4,8,8,8,104,136,8,8,1544,2056,0,8200,16392,32776],(cr 0 13 (cu 13 (cr 14 3 .done)))⟩
def KX:ai:=⟨bE [0,0,0,0,0,0,48,112,0,0,768,1792,4083,8179,16383,32767],bE [0,0,0,0,0,0,48,64,0,0,768,1024,3,0,12,0],(cr 0 13 (cu 13 (.take 14 [] (cu 15 .done))))⟩
def Ik:ai:=⟨bE [0,0,0,0,0,0,48,112,0,0,768,1792,4083,8179,16383,32767],bE [0,0,0,0,0,0,48,64,0,0,768,1024,3,0,12,0],(cr 0 13 (cu 13 (.take 14 [] (cu 15 .done))))⟩
def Il:ai:=⟨bE [0,0,3,7,15,15,15,111,239,15,15,1551,3599,8191,16383,32767],bE [0,0,3,4,8,8,8,104,136,8,8,1544,2056,0,8200,16392],(cr 0 13 (cu 13 (cr 14 2 .done)))⟩
def Im:ai:=⟨bE [0,0,3,7,15,15,15,111,239,15,15,1551,3599,8191,16383,32767,65535],bE [0,0,3,4,8,8,8,104,136,8,8,1544,2056,0,8200,16392,32776],(cr 0 13 (cu 13 (cr 14 3 .done)))⟩
def Io:ai:=⟨bE [0,0,0,0,0,0,48,112,0,0,768,1792,4083,8179,16383,32767],bE [0,0,0,0,0,0,48,64,0,0,768,1024,3,0,12,0],(cr 0 13 (cu 13 (.take 14 [] (cu 15 .done))))⟩
def Ip:ai:=⟨bE [0,0,0,0,0,0,48,112,0,0,768,1792,4083,8179,16383,32767],bE [0,0,0,0,0,0,48,64,0,0,768,1024,3,0,12,0],(cr 0 13 (cu 13 (.take 14 [] (cu 15 .done))))⟩
def KY:ai:=⟨bE [0,1,0,7,15,31,31,31,31,415,991,2015,31,31,31,24607,57375,127007,258079,524287,1048575,2097151],bE [0,1,0,6,8,16,16,16,16,400,592,1040,16,16,16,24592,32784,69648,131088,0,524304,1048592],(cr 0 19 (cu 19 (cr 20 2 .done)))⟩
def KZ:ai:=⟨bE [0,0,0,0,12,30,62,0,0,0,768,1920,3968,8191,16383,32767],bE [0,0,0,0,12,18,32,0,0,0,768,1152,2048,0,8192,16384],(cr 0 13 (cu 13 (cr 14 2 .done)))⟩
def K0:ai:=⟨bE [0,0,0,6,0,0,0,96,0,0,0,1536,3840,7936,0,0,0,98304,245760,507904,1048335,2096911,4194303,8388607],bE [0,0,0,6,0,0,0,96,0,0,0,1536,2304,4096,0,0,0,98304,147456,262144,9,0,144,0],(cr 0 21 (cu 21 (.take 22 [] (cu 23 .done))))⟩
def K1:ai:=⟨bE [0,1,3,0,8,24,56,127,255,511],bE [0,1,2,0,8,16,32,68,1,0],(cr 0 9 (cu 9 .done))⟩
def K2:ai:=⟨bE [0,1,3,0,8,24,56,127,255,511],bE [0,1,2,0,8,16,32,68,1,0],(cr 0 9 (cu 9 .done))⟩
def K3:ai:=⟨bE [0,1,3,0,8,24,56,127,255,511],bE [0,1,2,0,8,16,32,68,1,0],(cr 0 9 (cu 9 .done))⟩
def K4:ai:=⟨bE [0,1,0,7,15,31,31,31,31,415,991,2015,31,31,31,24607,57375,127007,258079,524287,1048575,2097151],bE [0,1,0,6,8,16,16,16,16,400,592,1040,16,16,16,24592,32784,69648,131088,0,524304,1048592],(cr 0 19 (cu 19 (cr 20 2 .done)))⟩
def K5:ai:=⟨bE [0,0,0,0,12,30,62,0,0,0,768,1920,3968,8191,16383,32767],bE [0,0,0,0,12,18,32,0,0,0,768,1152,2048,0,8192,16384],(cr 0 13 (cu 13 (cr 14 2 .done)))⟩
def K6:ai:=⟨bE [0,0,0,6,0,0,0,96,0,0,0,1536,3840,7936,0,0,0,98304,245760,507904,1048335,2096911,4194303,8388607],bE [0,0,0,6,0,0,0,96,0,0,0,1536,2304,4096,0,0,0,98304,147456,262144,9,0,144,0],(cr 0 21 (cu 21 (.take 22 [] (cu 23 .done))))⟩
def K7:ai:=⟨bE [0,0,0,6,14,0,0,96,224,511,1023],bE [0,0,0,6,8,0,0,96,128,0,512],(cr 0 9 (cu 9 (.take 10 [] .done)))⟩
def K8:ai:=⟨bE [0,0,0,6,14,0,0,96,224,511,1023],bE [0,0,0,6,8,0,0,96,128,0,512],(cr 0 9 (cu 9 (.take 10 [] .done)))⟩
def Vy (f r:Nat):Option ai:=
  bif Nat.beq f 4 then (bif Nat.beq r 42 then some N3 else none) else
  bif Nat.beq f 9 then (bif Nat.beq r 9 then some R8 else none) else
  bif Nat.beq f 15 then (bif Nat.beq r 6 then some N4 else none) else
  bif Nat.beq f 17 then (bif Nat.beq r 4 then some N5 else none) else
  bif Nat.beq f 18 then (bif Nat.beq r 10 then some Ku else none) else
  bif Nat.beq f 22 then (bif Nat.beq r 1 then some N6 else none) else
  bif Nat.beq f 33 then (bif Nat.beq r 6 then some N7 else none) else
  bif Nat.beq f 35 then (bif Nat.beq r 5 then some N8 else none) else
  bif Nat.beq f 41 then (bif Nat.beq r 1 then some N9 else none) else
  bif Nat.beq f 46 then (bif Nat.beq r 1 then some Oa else none) else
  bif Nat.beq f 53 then (bif Nat.beq r 1 then some Ob else none) else
  bif Nat.beq f 72 then (bif Nat.beq r 1 then some Oc else none) else
  bif Nat.beq f 75 then (bif Nat.beq r 1 then some Od else none) else
  bif Nat.beq f 78 then (bif Nat.beq r 6 then some Oe else bif Nat.beq r 11 then some Kv else none) else
  bif Nat.beq f 84 then (bif Nat.beq r 4 then some Of else bif Nat.beq r 11 then some Kw else bif Nat.beq r 13 then some Kx else none) else
  bif Nat.beq f 85 then (bif Nat.beq r 5 then some Og else bif Nat.beq r 8 then some Oh else none) else
  bif Nat.beq f 94 then (bif Nat.beq r 3 then some Oi else none) else
  bif Nat.beq f 97 then (bif Nat.beq r 1 then some Oj else none) else
  bif Nat.beq f 98 then (bif Nat.beq r 17 then some Ky else none) else
  bif Nat.beq f 101 then (bif Nat.beq r 17 then some HW else none) else
  bif Nat.beq f 107 then (bif Nat.beq r 0 then some Kz else none) else
  bif Nat.beq f 108 then (bif Nat.beq r 4 then some KA else bif Nat.beq r 6 then some KB else none) else
  bif Nat.beq f 109 then (bif Nat.beq r 10 then some HX else none) else
  bif Nat.beq f 110 then (bif Nat.beq r 10 then some HY else none) else
  bif Nat.beq f 112 then (bif Nat.beq r 3 then some KC else none) else
  bif Nat.beq f 113 then (bif Nat.beq r 5 then some KD else bif Nat.beq r 11 then some HZ else bif Nat.beq r 16 then some H0 else bif Nat.beq r 17 then some H3 else bif Nat.beq r 22 then some H4 else bif Nat.beq r 23 then some H5 else none) else
  bif Nat.beq f 114 then (bif Nat.beq r 1 then some KE else bif Nat.beq r 3 then some KF else bif Nat.beq r 5 then some KG else bif Nat.beq r 8 then some KH else none) else
  bif Nat.beq f 115 then (bif Nat.beq r 1 then some KI else bif Nat.beq r 3 then some KJ else bif Nat.beq r 5 then some KK else bif Nat.beq r 8 then some KL else bif Nat.beq r 10 then some H6 else bif Nat.beq r 13 then some H7 else bif Nat.beq r 15 then some H8 else bif Nat.beq r 18 then some H9 else bif Nat.beq r 21 then some Ia else none) else
  bif Nat.beq f 118 then (bif Nat.beq r 4 then some KM else bif Nat.beq r 6 then some KN else none) else
  bif Nat.beq f 119 then (bif Nat.beq r 10 then some Ib else none) else
  bif Nat.beq f 120 then (bif Nat.beq r 10 then some Ic else none) else
  bif Nat.beq f 122 then (bif Nat.beq r 3 then some KO else none) else
  bif Nat.beq f 123 then (bif Nat.beq r 5 then some KP else bif Nat.beq r 11 then some Ie else bif Nat.beq r 16 then some Ig else bif Nat.beq r 17 then some Ih else bif Nat.beq r 22 then some Ii else bif Nat.beq r 23 then some Ij else none) else
  bif Nat.beq f 124 then (bif Nat.beq r 1 then some KQ else bif Nat.beq r 3 then some KR else bif Nat.beq r 5 then some KS else bif Nat.beq r 8 then some KT else none) else
  bif Nat.beq f 125 then (bif Nat.beq r 1 then some KU else bif Nat.beq r 3 then some KV else bif Nat.beq r 5 then some KW else bif Nat.beq r 8 then some KX else bif Nat.beq r 10 then some Ik else bif Nat.beq r 13 then some Il else bif Nat.beq r 15 then some Im else bif Nat.beq r 18 then some Io else bif Nat.beq r 21 then some Ip else none) else
  bif Nat.beq f 128 then (bif Nat.beq r 3 then some KY else bif Nat.beq r 5 then some KZ else bif Nat.beq r 6 then some K0 else none) else
  bif Nat.beq f 130 then (bif Nat.beq r 1 then some K1 else bif Nat.beq r 2 then some K2 else bif Nat.beq r 3 then some K3 else none) else
  bif Nat.beq f 133 then (bif Nat.beq r 3 then some K4 else bif Nat.beq r 5 then some K5 else bif Nat.beq r 6 then some K6 else none) else
  bif Nat.beq f 136 then (bif Nat.beq r 1 then some K7 else none) else
  bif Nat.beq f 137 then (bif Nat.beq r 1 then some K8 else none) else none
def okF (f:Nat):Bool:=Nat.blt f 156&&!(([14,23,37,38,42,55,56,63,89,90]:List Nat).any (Nat.beq f))
theorem Iq:(List.range 156).all (fun f=>!okF f || match Tryz.prog.funcs[f]? with
  | some fn=>match fn.body with
    | some c=>bj (Vy f) c
    | none=>true
  | none=>true)=true:=by kernel_rfl
theorem K9 (f:FuncId) (fn:Func) (c:Code) (h:okF f=true) (hf:Tryz.prog.funcs[f]?=some fn) (hb:fn.body=some c):bj (Vy f) c=true:=by
  have bM:f < 156:=by
    have:Nat.blt f 156=true:=by
      rw [okF,Bool.and_eq_true] at h
      exact h.1
    exact Nat.le_of_ble_eq_true this
  have h1:=List.all_eq_true.1 Iq f (List.mem_range.2 bM)
  rw [h,hf] at h1
  simp only [hb] at h1
  simpa using h1
noncomputable def La:NH:={ toEnv:=env,dt:=Vy,okF:=okF,Mf:=K9 }
end Go.Proofs.YtophnjjjmikmeaaGreat
