/- The abstract machine's surroundings for this program: its types as a table (printed by a program of ours, checked by the kernel). -/
import Derived.Test.YtpngggdfbbdfaaaDoorProg
import Derived.Test.YtpngggdfbbdfaaaDoorAmKG
import Derived.KernelRfl
set_option linter.all false
namespace Go.Proofs.YtpngggdfbbdfaaaDoor
open Go Go.Am
set_option maxRecDepth 100000
def tiT (t : Nat) : Option TI :=
 bif Nat.ble t 91 then
  bif Nat.ble t 45 then
   bif Nat.ble t 22 then
    bif Nat.ble t 10 then
     bif Nat.ble t 4 then
      bif Nat.ble t 1 then
       bif Nat.ble t 0 then
        some { k := .sc, size := 1, agg := false, zero := some (.tup []), ek := .no }
       else
        some { k := .sc, size := 1, agg := false, zero := some (.nilf), ek := .no }
      else
       bif Nat.ble t 2 then
        some { k := .int .i64, size := 1, agg := false, zero := some (.int .i64 0), ek := .int }
       else
        bif Nat.ble t 3 then
         some { k := .int .i64, size := 1, agg := false, zero := some (.int .i64 0), ek := .int }
        else
         some { k := .sc, size := 1, agg := false, zero := some (.bool false), ek := .bool }
     else
      bif Nat.ble t 7 then
       bif Nat.ble t 5 then
        some { k := .int .u8, size := 1, agg := false, zero := some (.int .u8 0), ek := .int }
       else
        bif Nat.ble t 6 then
         some { k := .int .u8, size := 1, agg := false, zero := some (.int .u8 0), ek := .int }
        else
         some { k := .st [(0, 1, false), (1, 1, false), (2, 1, false), (3, 1, false)], size := 4, agg := true, zero := some (.agg [.int .i64 0, .int .i64 0, .bool false, .int .u8 0]), ek := (.st (.cons 0 1 false .int (.cons 1 1 false .int (.cons 2 1 false .bool (.cons 3 1 false .int .nil))))) }
      else
       bif Nat.ble t 8 then
        some { k := .st [(0, 1, false), (1, 1, false), (2, 1, false), (3, 1, false)], size := 4, agg := true, zero := some (.agg [.int .i64 0, .int .i64 0, .bool false, .int .u8 0]), ek := (.st (.cons 0 1 false .int (.cons 1 1 false .int (.cons 2 1 false .bool (.cons 3 1 false .int .nil))))) }
       else
        bif Nat.ble t 9 then
         some { k := .str, size := 1, agg := false, zero := some (.str []), ek := .str }
        else
         some { k := .str, size := 1, agg := false, zero := some (.str []), ek := .str }
    else
     bif Nat.ble t 16 then
      bif Nat.ble t 13 then
       bif Nat.ble t 11 then
        some { k := .str, size := 1, agg := false, zero := some (.str []), ek := .str }
       else
        bif Nat.ble t 12 then
         some { k := .int .u64, size := 1, agg := false, zero := some (.int .u64 0), ek := .int }
        else
         none
      else
       bif Nat.ble t 14 then
        none
       else
        bif Nat.ble t 15 then
         some { k := .sc, size := 1, agg := false, zero := some (.nilp), ek := .no }
        else
         some { k := .sc, size := 1, agg := false, zero := some (.nilp), ek := .no }
     else
      bif Nat.ble t 19 then
       bif Nat.ble t 17 then
        some { k := .sc, size := 1, agg := false, zero := some (.nilp), ek := .no }
       else
        bif Nat.ble t 18 then
         none
        else
         none
      else
       bif Nat.ble t 20 then
        some { k := .sc, size := 1, agg := false, zero := some (.nili), ek := .no }
       else
        bif Nat.ble t 21 then
         some { k := .int .i32, size := 1, agg := false, zero := some (.int .i32 0), ek := .int }
        else
         some { k := .st [(0, 1, false), (1, 1, false)], size := 2, agg := true, zero := some (.agg [.int .i64 0, .int .i64 0]), ek := (.st (.cons 0 1 false .int (.cons 1 1 false .int .nil))) }
   else
    bif Nat.ble t 33 then
     bif Nat.ble t 27 then
      bif Nat.ble t 24 then
       bif Nat.ble t 23 then
        some { k := .st [(0, 1, false), (1, 1, false)], size := 2, agg := true, zero := some (.agg [.int .i64 0, .int .i64 0]), ek := (.st (.cons 0 1 false .int (.cons 1 1 false .int .nil))) }
       else
        some { k := .st [(0, 1, false), (1, 1, false)], size := 2, agg := true, zero := some (.agg [.int .i64 0, .int .i64 0]), ek := (.st (.cons 0 1 false .int (.cons 1 1 false .int .nil))) }
      else
       bif Nat.ble t 25 then
        some { k := .st [(0, 1, false), (1, 1, false)], size := 2, agg := true, zero := some (.agg [.int .i64 0, .int .i64 0]), ek := (.st (.cons 0 1 false .int (.cons 1 1 false .int .nil))) }
       else
        bif Nat.ble t 26 then
         some { k := .int .i64, size := 1, agg := false, zero := some (.int .i64 0), ek := .int }
        else
         some { k := .sc, size := 1, agg := false, zero := none, ek := .no }
     else
      bif Nat.ble t 30 then
       bif Nat.ble t 28 then
        some { k := .sc, size := 1, agg := false, zero := some (.nilf), ek := .no }
       else
        bif Nat.ble t 29 then
         some { k := .sc, size := 1, agg := false, zero := some (.nilf), ek := .no }
        else
         some { k := .sc, size := 1, agg := false, zero := some (.nilf), ek := .no }
      else
       bif Nat.ble t 31 then
        some { k := .sc, size := 1, agg := false, zero := some (.nilf), ek := .no }
       else
        bif Nat.ble t 32 then
         some { k := .sc, size := 1, agg := false, zero := some (.nilf), ek := .no }
        else
         some { k := .sc, size := 1, agg := false, zero := some (.nilf), ek := .no }
    else
     bif Nat.ble t 39 then
      bif Nat.ble t 36 then
       bif Nat.ble t 34 then
        some { k := .sc, size := 1, agg := false, zero := some (.nilf), ek := .no }
       else
        bif Nat.ble t 35 then
         some { k := .sc, size := 1, agg := false, zero := some (.nilf), ek := .no }
        else
         some { k := .st [(0, 2, true), (2, 1, false), (3, 1, false), (4, 1, false)], size := 5, agg := true, zero := some (.agg [.int .i64 0, .int .i64 0, .int .i64 0, .int .i64 0, .int .i64 0]), ek := (.st (.cons 0 2 true (.st (.cons 0 1 false .int (.cons 1 1 false .int .nil))) (.cons 2 1 false .int (.cons 3 1 false .int (.cons 4 1 false .int .nil))))) }
      else
       bif Nat.ble t 37 then
        some { k := .st [(0, 2, true), (2, 1, false), (3, 1, false), (4, 1, false)], size := 5, agg := true, zero := some (.agg [.int .i64 0, .int .i64 0, .int .i64 0, .int .i64 0, .int .i64 0]), ek := (.st (.cons 0 2 true (.st (.cons 0 1 false .int (.cons 1 1 false .int .nil))) (.cons 2 1 false .int (.cons 3 1 false .int (.cons 4 1 false .int .nil))))) }
       else
        bif Nat.ble t 38 then
         some { k := .sc, size := 1, agg := false, zero := none, ek := .no }
        else
         some { k := .sc, size := 1, agg := false, zero := some (.nilf), ek := .no }
     else
      bif Nat.ble t 42 then
       bif Nat.ble t 40 then
        some { k := .sc, size := 1, agg := false, zero := some (.nilf), ek := .no }
       else
        bif Nat.ble t 41 then
         some { k := .sc, size := 1, agg := false, zero := some (.nilf), ek := .no }
        else
         some { k := .sc, size := 1, agg := false, zero := some (.nilf), ek := .no }
      else
       bif Nat.ble t 43 then
        some { k := .sc, size := 1, agg := false, zero := some (.nilf), ek := .no }
       else
        bif Nat.ble t 44 then
         some { k := .sc, size := 1, agg := false, zero := some (.nilf), ek := .no }
        else
         some { k := .sl 3 1 false 8 (some (.int .i64 0)), size := 1, agg := false, zero := some (.list .nil 0 []), ek := .no }
  else
   bif Nat.ble t 68 then
    bif Nat.ble t 56 then
     bif Nat.ble t 50 then
      bif Nat.ble t 47 then
       bif Nat.ble t 46 then
        some { k := .sc, size := 1, agg := false, zero := none, ek := .no }
       else
        some { k := .sc, size := 1, agg := false, zero := some (.nilf), ek := .no }
      else
       bif Nat.ble t 48 then
        some { k := .sc, size := 1, agg := false, zero := some (.nilf), ek := .no }
       else
        bif Nat.ble t 49 then
         some { k := .sc, size := 1, agg := false, zero := some (.nilf), ek := .no }
        else
         some { k := .sc, size := 1, agg := false, zero := some (.nilf), ek := .no }
     else
      bif Nat.ble t 53 then
       bif Nat.ble t 51 then
        some { k := .arr 2 1 false, size := 2, agg := true, zero := some (.agg [.int .i64 0, .int .i64 0]), ek := .no }
       else
        bif Nat.ble t 52 then
         some { k := .sc, size := 1, agg := false, zero := some (.tup [.int .i64 0, .int .i64 0]), ek := .no }
        else
         some { k := .sc, size := 1, agg := false, zero := some (.nilf), ek := .no }
      else
       bif Nat.ble t 54 then
        some { k := .sc, size := 1, agg := false, zero := some (.nilf), ek := .no }
       else
        bif Nat.ble t 55 then
         some { k := .sc, size := 1, agg := false, zero := some (.nilf), ek := .no }
        else
         some { k := .sc, size := 1, agg := false, zero := some (.nilf), ek := .no }
    else
     bif Nat.ble t 62 then
      bif Nat.ble t 59 then
       bif Nat.ble t 57 then
        some { k := .sc, size := 1, agg := false, zero := some (.nilf), ek := .no }
       else
        bif Nat.ble t 58 then
         some { k := .sc, size := 1, agg := false, zero := some (.nilf), ek := .no }
        else
         some { k := .sc, size := 1, agg := false, zero := some (.nilf), ek := .no }
      else
       bif Nat.ble t 60 then
        some { k := .sl 112 3 true 24 (some (.agg [.int .i64 0, .int .i64 0, .int .i64 0])), size := 1, agg := false, zero := some (.list .nil 0 []), ek := .no }
       else
        bif Nat.ble t 61 then
         some { k := .sc, size := 1, agg := false, zero := some (.nilf), ek := .no }
        else
         some { k := .sc, size := 1, agg := false, zero := some (.nilf), ek := .no }
     else
      bif Nat.ble t 65 then
       bif Nat.ble t 63 then
        some { k := .sl 131 3 true 24 (some (.agg [.int .i64 0, .int .i64 0, .int .i64 0])), size := 1, agg := false, zero := some (.list .nil 0 []), ek := .no }
       else
        bif Nat.ble t 64 then
         some { k := .sc, size := 1, agg := false, zero := some (.nilf), ek := .no }
        else
         some { k := .sl 23 2 true 16 (some (.agg [.int .i64 0, .int .i64 0])), size := 1, agg := false, zero := some (.list .nil 0 []), ek := .no }
      else
       bif Nat.ble t 66 then
        some { k := .sc, size := 1, agg := false, zero := some (.tup [.list .nil 0 [], .int .i64 0]), ek := .no }
       else
        bif Nat.ble t 67 then
         some { k := .sc, size := 1, agg := false, zero := some (.nilf), ek := .no }
        else
         some { k := .sc, size := 1, agg := false, zero := some (.tup [.list .nil 0 [], .int .i64 0]), ek := .no }
   else
    bif Nat.ble t 79 then
     bif Nat.ble t 73 then
      bif Nat.ble t 70 then
       bif Nat.ble t 69 then
        some { k := .sc, size := 1, agg := false, zero := some (.nilf), ek := .no }
       else
        some { k := .sc, size := 1, agg := false, zero := some (.nilf), ek := .no }
      else
       bif Nat.ble t 71 then
        some { k := .sc, size := 1, agg := false, zero := some (.nilf), ek := .no }
       else
        bif Nat.ble t 72 then
         some { k := .sc, size := 1, agg := false, zero := some (.tup [.list .nil 0 [], .int .i64 0]), ek := .no }
        else
         some { k := .sc, size := 1, agg := false, zero := some (.nilf), ek := .no }
     else
      bif Nat.ble t 76 then
       bif Nat.ble t 74 then
        some { k := .sc, size := 1, agg := false, zero := some (.nilf), ek := .no }
       else
        bif Nat.ble t 75 then
         some { k := .sc, size := 1, agg := false, zero := some (.nilf), ek := .no }
        else
         some { k := .sc, size := 1, agg := false, zero := some (.nilf), ek := .no }
      else
       bif Nat.ble t 77 then
        some { k := .sc, size := 1, agg := false, zero := some (.nilf), ek := .no }
       else
        bif Nat.ble t 78 then
         some { k := .sl 121 3 true 32 (some (.agg [.str [], .int .i64 0, .int .i64 0])), size := 1, agg := false, zero := some (.list .nil 0 []), ek := .no }
        else
         some { k := .sc, size := 1, agg := false, zero := some (.nilf), ek := .no }
    else
     bif Nat.ble t 85 then
      bif Nat.ble t 82 then
       bif Nat.ble t 80 then
        some { k := .sc, size := 1, agg := false, zero := some (.nilf), ek := .no }
       else
        bif Nat.ble t 81 then
         some { k := .sl 132 3 true 32 (some (.agg [.str [], .int .i64 0, .int .i64 0])), size := 1, agg := false, zero := some (.list .nil 0 []), ek := .no }
        else
         some { k := .sc, size := 1, agg := false, zero := some (.nilf), ek := .no }
      else
       bif Nat.ble t 83 then
        some { k := .sc, size := 1, agg := false, zero := some (.nilf), ek := .no }
       else
        bif Nat.ble t 84 then
         some { k := .sc, size := 1, agg := false, zero := some (.tup [.int .i64 0, .int .i64 0]), ek := .no }
        else
         some { k := .sc, size := 1, agg := false, zero := some (.nilf), ek := .no }
     else
      bif Nat.ble t 88 then
       bif Nat.ble t 86 then
        some { k := .sc, size := 1, agg := false, zero := some (.nilf), ek := .no }
       else
        bif Nat.ble t 87 then
         some { k := .sc, size := 1, agg := false, zero := some (.nilf), ek := .no }
        else
         some { k := .arr 4 1 false, size := 4, agg := true, zero := some (.agg [.int .i64 0, .int .i64 0, .int .i64 0, .int .i64 0]), ek := .no }
      else
       bif Nat.ble t 89 then
        some { k := .sc, size := 1, agg := false, zero := some (.nilf), ek := .no }
       else
        bif Nat.ble t 90 then
         some { k := .sc, size := 1, agg := false, zero := some (.nilf), ek := .no }
        else
         some { k := .sc, size := 1, agg := false, zero := some (.nilf), ek := .no }
 else
  bif Nat.ble t 137 then
   bif Nat.ble t 114 then
    bif Nat.ble t 102 then
     bif Nat.ble t 96 then
      bif Nat.ble t 93 then
       bif Nat.ble t 92 then
        some { k := .sc, size := 1, agg := false, zero := some (.nilf), ek := .no }
       else
        some { k := .sc, size := 1, agg := false, zero := some (.nilf), ek := .no }
      else
       bif Nat.ble t 94 then
        some { k := .sl 119 4 true 40 (some (.agg [.int .i64 0, .int .i64 0, .int .i64 0, .str []])), size := 1, agg := false, zero := some (.list .nil 0 []), ek := .no }
       else
        bif Nat.ble t 95 then
         some { k := .sc, size := 1, agg := false, zero := some (.nilf), ek := .no }
        else
         some { k := .sl 106 3 true 24 (some (.agg [.int .i64 0, .int .i64 0, .int .i64 0])), size := 1, agg := false, zero := some (.list .nil 0 []), ek := .no }
     else
      bif Nat.ble t 99 then
       bif Nat.ble t 97 then
        some { k := .sc, size := 1, agg := false, zero := some (.tup [.list .nil 0 [], .int .i64 0]), ek := .no }
       else
        bif Nat.ble t 98 then
         some { k := .sc, size := 1, agg := false, zero := some (.nilf), ek := .no }
        else
         some { k := .sl 133 4 true 40 (some (.agg [.int .i64 0, .int .i64 0, .int .i64 0, .str []])), size := 1, agg := false, zero := some (.list .nil 0 []), ek := .no }
      else
       bif Nat.ble t 100 then
        some { k := .sc, size := 1, agg := false, zero := some (.nilf), ek := .no }
       else
        bif Nat.ble t 101 then
         some { k := .sc, size := 1, agg := false, zero := some (.nilf), ek := .no }
        else
         some { k := .sl 107 3 true 24 (some (.agg [.int .i64 0, .int .i64 0, .int .i64 0])), size := 1, agg := false, zero := some (.list .nil 0 []), ek := .no }
    else
     bif Nat.ble t 108 then
      bif Nat.ble t 105 then
       bif Nat.ble t 103 then
        some { k := .sc, size := 1, agg := false, zero := some (.tup [.list .nil 0 [], .int .i64 0]), ek := .no }
       else
        bif Nat.ble t 104 then
         some { k := .sc, size := 1, agg := false, zero := some (.nilf), ek := .no }
        else
         some { k := .st [(0, 1, false), (1, 1, false), (2, 1, false)], size := 3, agg := true, zero := some (.agg [.int .i64 0, .int .i64 0, .int .i64 0]), ek := (.st (.cons 0 1 false .int (.cons 1 1 false .int (.cons 2 1 false .int .nil)))) }
      else
       bif Nat.ble t 106 then
        some { k := .st [(0, 1, false), (1, 1, false), (2, 1, false)], size := 3, agg := true, zero := some (.agg [.int .i64 0, .int .i64 0, .int .i64 0]), ek := (.st (.cons 0 1 false .int (.cons 1 1 false .int (.cons 2 1 false .int .nil)))) }
       else
        bif Nat.ble t 107 then
         some { k := .st [(0, 1, false), (1, 1, false), (2, 1, false)], size := 3, agg := true, zero := some (.agg [.int .i64 0, .int .i64 0, .int .i64 0]), ek := (.st (.cons 0 1 false .int (.cons 1 1 false .int (.cons 2 1 false .int .nil)))) }
        else
         some { k := .sc, size := 1, agg := false, zero := some (.nilf), ek := .no }
     else
      bif Nat.ble t 111 then
       bif Nat.ble t 109 then
        some { k := .sc, size := 1, agg := false, zero := some (.nilf), ek := .no }
       else
        bif Nat.ble t 110 then
         some { k := .sc, size := 1, agg := false, zero := some (.nilf), ek := .no }
        else
         some { k := .st [(0, 1, false), (1, 2, true)], size := 3, agg := true, zero := some (.agg [.int .i64 0, .int .i64 0, .int .i64 0]), ek := (.st (.cons 0 1 false .int (.cons 1 2 true (.st (.cons 0 1 false .int (.cons 1 1 false .int .nil))) .nil))) }
      else
       bif Nat.ble t 112 then
        some { k := .st [(0, 1, false), (1, 2, true)], size := 3, agg := true, zero := some (.agg [.int .i64 0, .int .i64 0, .int .i64 0]), ek := (.st (.cons 0 1 false .int (.cons 1 2 true (.st (.cons 0 1 false .int (.cons 1 1 false .int .nil))) .nil))) }
       else
        bif Nat.ble t 113 then
         some { k := .sc, size := 1, agg := false, zero := some (.nilf), ek := .no }
        else
         some { k := .sc, size := 1, agg := false, zero := some (.nilf), ek := .no }
   else
    bif Nat.ble t 125 then
     bif Nat.ble t 119 then
      bif Nat.ble t 116 then
       bif Nat.ble t 115 then
        some { k := .sc, size := 1, agg := false, zero := some (.nilf), ek := .no }
       else
        some { k := .sc, size := 1, agg := false, zero := some (.nilf), ek := .no }
      else
       bif Nat.ble t 117 then
        some { k := .arr 2 1 false, size := 2, agg := true, zero := some (.agg [.int .u8 0, .int .u8 0]), ek := .no }
       else
        bif Nat.ble t 118 then
         some { k := .st [(0, 1, false), (1, 1, false), (2, 1, false), (3, 1, false)], size := 4, agg := true, zero := some (.agg [.int .i64 0, .int .i64 0, .int .i64 0, .str []]), ek := (.st (.cons 0 1 false .int (.cons 1 1 false .int (.cons 2 1 false .int (.cons 3 1 false .str .nil))))) }
        else
         some { k := .st [(0, 1, false), (1, 1, false), (2, 1, false), (3, 1, false)], size := 4, agg := true, zero := some (.agg [.int .i64 0, .int .i64 0, .int .i64 0, .str []]), ek := (.st (.cons 0 1 false .int (.cons 1 1 false .int (.cons 2 1 false .int (.cons 3 1 false .str .nil))))) }
     else
      bif Nat.ble t 122 then
       bif Nat.ble t 120 then
        some { k := .st [(0, 1, false), (1, 1, false), (2, 1, false)], size := 3, agg := true, zero := some (.agg [.str [], .int .i64 0, .int .i64 0]), ek := (.st (.cons 0 1 false .str (.cons 1 1 false .int (.cons 2 1 false .int .nil)))) }
       else
        bif Nat.ble t 121 then
         some { k := .st [(0, 1, false), (1, 1, false), (2, 1, false)], size := 3, agg := true, zero := some (.agg [.str [], .int .i64 0, .int .i64 0]), ek := (.st (.cons 0 1 false .str (.cons 1 1 false .int (.cons 2 1 false .int .nil)))) }
        else
         some { k := .sc, size := 1, agg := false, zero := some (.nilf), ek := .no }
      else
       bif Nat.ble t 123 then
        some { k := .sc, size := 1, agg := false, zero := some (.nilf), ek := .no }
       else
        bif Nat.ble t 124 then
         some { k := .sc, size := 1, agg := false, zero := some (.nilf), ek := .no }
        else
         some { k := .sc, size := 1, agg := false, zero := some (.nilf), ek := .no }
    else
     bif Nat.ble t 131 then
      bif Nat.ble t 128 then
       bif Nat.ble t 126 then
        some { k := .sc, size := 1, agg := false, zero := some (.nilf), ek := .no }
       else
        bif Nat.ble t 127 then
         some { k := .sc, size := 1, agg := false, zero := some (.nilf), ek := .no }
        else
         some { k := .sc, size := 1, agg := false, zero := some (.nilf), ek := .no }
      else
       bif Nat.ble t 129 then
        some { k := .sc, size := 1, agg := false, zero := some (.nilf), ek := .no }
       else
        bif Nat.ble t 130 then
         some { k := .sc, size := 1, agg := false, zero := some (.nilf), ek := .no }
        else
         some { k := .st [(0, 1, false), (1, 2, true)], size := 3, agg := true, zero := some (.agg [.int .i64 0, .int .i64 0, .int .i64 0]), ek := (.st (.cons 0 1 false .int (.cons 1 2 true (.st (.cons 0 1 false .int (.cons 1 1 false .int .nil))) .nil))) }
     else
      bif Nat.ble t 134 then
       bif Nat.ble t 132 then
        some { k := .st [(0, 1, false), (1, 1, false), (2, 1, false)], size := 3, agg := true, zero := some (.agg [.str [], .int .i64 0, .int .i64 0]), ek := (.st (.cons 0 1 false .str (.cons 1 1 false .int (.cons 2 1 false .int .nil)))) }
       else
        bif Nat.ble t 133 then
         some { k := .st [(0, 1, false), (1, 1, false), (2, 1, false), (3, 1, false)], size := 4, agg := true, zero := some (.agg [.int .i64 0, .int .i64 0, .int .i64 0, .str []]), ek := (.st (.cons 0 1 false .int (.cons 1 1 false .int (.cons 2 1 false .int (.cons 3 1 false .str .nil))))) }
        else
         some { k := .sc, size := 1, agg := false, zero := some (.nilf), ek := .no }
      else
       bif Nat.ble t 135 then
        some { k := .sc, size := 1, agg := false, zero := some (.nilf), ek := .no }
       else
        bif Nat.ble t 136 then
         some { k := .arr 3 1 false, size := 3, agg := true, zero := some (.agg [.int .i64 0, .int .i64 0, .int .i64 0]), ek := .no }
        else
         some { k := .sc, size := 1, agg := false, zero := some (.nilf), ek := .no }
  else
   bif Nat.ble t 160 then
    bif Nat.ble t 148 then
     bif Nat.ble t 142 then
      bif Nat.ble t 139 then
       bif Nat.ble t 138 then
        some { k := .sc, size := 1, agg := false, zero := some (.nilf), ek := .no }
       else
        some { k := .sc, size := 1, agg := false, zero := some (.nilf), ek := .no }
      else
       bif Nat.ble t 140 then
        some { k := .sc, size := 1, agg := false, zero := some (.nilf), ek := .no }
       else
        bif Nat.ble t 141 then
         some { k := .sc, size := 1, agg := false, zero := some (.nilf), ek := .no }
        else
         some { k := .sl 144 3 true 24 (some (.agg [.int .i64 0, .int .i64 0, .int .i64 0])), size := 1, agg := false, zero := some (.list .nil 0 []), ek := .no }
     else
      bif Nat.ble t 145 then
       bif Nat.ble t 143 then
        some { k := .st [(0, 1, false), (1, 1, false), (2, 1, false)], size := 3, agg := true, zero := some (.agg [.int .i64 0, .int .i64 0, .int .i64 0]), ek := (.st (.cons 0 1 false .int (.cons 1 1 false .int (.cons 2 1 false .int .nil)))) }
       else
        bif Nat.ble t 144 then
         some { k := .st [(0, 1, false), (1, 1, false), (2, 1, false)], size := 3, agg := true, zero := some (.agg [.int .i64 0, .int .i64 0, .int .i64 0]), ek := (.st (.cons 0 1 false .int (.cons 1 1 false .int (.cons 2 1 false .int .nil)))) }
        else
         some { k := .sc, size := 1, agg := false, zero := some (.nilf), ek := .no }
      else
       bif Nat.ble t 146 then
        some { k := .sc, size := 1, agg := false, zero := some (.nilf), ek := .no }
       else
        bif Nat.ble t 147 then
         some { k := .sc, size := 1, agg := false, zero := some (.nilf), ek := .no }
        else
         some { k := .sc, size := 1, agg := false, zero := some (.nilf), ek := .no }
    else
     bif Nat.ble t 154 then
      bif Nat.ble t 151 then
       bif Nat.ble t 149 then
        some { k := .sc, size := 1, agg := false, zero := some (.nilf), ek := .no }
       else
        bif Nat.ble t 150 then
         some { k := .sc, size := 1, agg := false, zero := some (.nilf), ek := .no }
        else
         some { k := .sc, size := 1, agg := false, zero := some (.nilf), ek := .no }
      else
       bif Nat.ble t 152 then
        some { k := .sc, size := 1, agg := false, zero := some (.nilf), ek := .no }
       else
        bif Nat.ble t 153 then
         some { k := .sc, size := 1, agg := false, zero := some (.nilf), ek := .no }
        else
         some { k := .sl 26 1 false 8 (some (.int .i64 0)), size := 1, agg := false, zero := some (.list .nil 0 []), ek := .no }
     else
      bif Nat.ble t 157 then
       bif Nat.ble t 155 then
        some { k := .sc, size := 1, agg := false, zero := some (.nilf), ek := .no }
       else
        bif Nat.ble t 156 then
         some { k := .map 9 3 (some (.int .i64 0)), size := 1, agg := false, zero := some (.nilm), ek := .no }
        else
         some { k := .sc, size := 1, agg := false, zero := some (.nilf), ek := .no }
      else
       bif Nat.ble t 158 then
        some { k := .sc, size := 1, agg := false, zero := some (.nilf), ek := .no }
       else
        bif Nat.ble t 159 then
         some { k := .sc, size := 1, agg := false, zero := some (.nilf), ek := .no }
        else
         some { k := .sc, size := 1, agg := false, zero := some (.nilf), ek := .no }
   else
    bif Nat.ble t 172 then
     bif Nat.ble t 166 then
      bif Nat.ble t 163 then
       bif Nat.ble t 161 then
        some { k := .sc, size := 1, agg := false, zero := some (.nilf), ek := .no }
       else
        bif Nat.ble t 162 then
         some { k := .sc, size := 1, agg := false, zero := some (.nilf), ek := .no }
        else
         some { k := .sc, size := 1, agg := false, zero := some (.nilf), ek := .no }
      else
       bif Nat.ble t 164 then
        some { k := .sc, size := 1, agg := false, zero := some (.nilf), ek := .no }
       else
        bif Nat.ble t 165 then
         some { k := .sc, size := 1, agg := false, zero := some (.nilf), ek := .no }
        else
         some { k := .sc, size := 1, agg := false, zero := some (.nilf), ek := .no }
     else
      bif Nat.ble t 169 then
       bif Nat.ble t 167 then
        some { k := .sc, size := 1, agg := false, zero := some (.nilf), ek := .no }
       else
        bif Nat.ble t 168 then
         some { k := .sc, size := 1, agg := false, zero := some (.nilf), ek := .no }
        else
         none
      else
       bif Nat.ble t 170 then
        none
       else
        bif Nat.ble t 171 then
         some { k := .arr 0 1 false, size := 0, agg := true, zero := some (.agg []), ek := .no }
        else
         some { k := .st [(0, 0, true)], size := 0, agg := true, zero := some (.agg []), ek := .no }
    else
     bif Nat.ble t 178 then
      bif Nat.ble t 175 then
       bif Nat.ble t 173 then
        some { k := .st [(0, 0, true)], size := 0, agg := true, zero := some (.agg []), ek := .no }
       else
        bif Nat.ble t 174 then
         some { k := .sc, size := 1, agg := false, zero := some (.nilf), ek := .no }
        else
         some { k := .int .u32, size := 1, agg := false, zero := some (.int .u32 0), ek := .int }
      else
       bif Nat.ble t 176 then
        some { k := .int .u8, size := 1, agg := false, zero := some (.int .u8 0), ek := .int }
       else
        bif Nat.ble t 177 then
         some { k := .int .u8, size := 1, agg := false, zero := some (.int .u8 0), ek := .int }
        else
         some { k := .sc, size := 1, agg := false, zero := some (.nilf), ek := .no }
     else
      bif Nat.ble t 181 then
       bif Nat.ble t 179 then
        some { k := .sc, size := 1, agg := false, zero := some (.nilp), ek := .no }
       else
        bif Nat.ble t 180 then
         some { k := .int .i32, size := 1, agg := false, zero := some (.int .i32 0), ek := .int }
        else
         some { k := .int .i32, size := 1, agg := false, zero := some (.int .i32 0), ek := .int }
      else
       bif Nat.ble t 182 then
        none
       else
        bif Nat.ble t 183 then
         none
        else
         some { k := .sc, size := 1, agg := false, zero := some (.nilp), ek := .no }
def tiF (t : Nat) : Option TI := bif Nat.ble 185 t then none else tiT t
theorem tiCheck : (List.range 185).map (fun t => match tiF t with | none => none | some _ => tiOf Tryd.prog t) = (List.range 185).map tiF := by kernel_rfl
theorem tiOk (t : TypeId) (i : TI) (h : tiF t = some i) : tiOf Tryd.prog t = some i := by
  by_cases ht : t < 185
  · have h1 := congrArg (fun l => l[t]?) tiCheck
    simp only [List.getElem?_map, List.getElem?_range ht, Option.map_some, Option.some.injEq] at h1
    rw [h] at h1
    exact h1
  · have hb : Nat.ble 185 t = true := Nat.ble_eq_true_of_le (Nat.not_lt.1 ht)
    rw [tiF, hb] at h
    cases h
def glbF (f t : Nat) : Bool :=
  (Nat.beq f 1000000 && Nat.beq t 1000000) ||
  (Nat.beq f 12 && (Nat.beq t 65596)) ||
  (Nat.beq f 22 && (Nat.beq t 158)) ||
  (Nat.beq f 39 && (Nat.beq t 7)) ||
  (Nat.beq f 41 && (Nat.beq t 4 || Nat.beq t 5 || Nat.beq t 7 || Nat.beq t 131072)) ||
  (Nat.beq f 45 && (Nat.beq t 65548)) ||
  (Nat.beq f 54 && (Nat.beq t 4)) ||
  (Nat.beq f 61 && (Nat.beq t 3 || Nat.beq t 9 || Nat.beq t 12)) ||
  (Nat.beq f 83 && (Nat.beq t 2 || Nat.beq t 3)) ||
  (Nat.beq f 96 && (Nat.beq t 2))
def globL : Boxes := [(0, [.int .i64 1, .int .i64 10, .int .i64 100])]
theorem globLOk : globL.all (fun p => closedL p.2) = true := by kernel_rfl
def globF (g : Nat) : Option (List AV) := lkB globL g
noncomputable def env : Env := { P := Tryd.prog, ti := tiF, glob := globF, glb := glbF, elp := fun _ => none, tiOk := tiOk, mixed := by kernel_rfl, globOk := fun _ _ h => lkB_all globLOk h }
def dt3x6 : DrawPlan := ⟨[[], [0], [], [0, 1, 2], [0, 1, 2, 3], [0, 1, 2, 3, 4]],
  [[], [], [], [], [], []],
  (.take 0 [] (.take 2 [2] (.br 1 [2] [] (.br 3 [] [] (.br 4 [] [] (.br 5 [] [] .done .stop) .stop) .stop) .stop)))⟩
def dt3x7 : DrawPlan := ⟨[[], [0], [], [0, 1, 2], [0, 1, 2, 3], [0, 1, 2, 3, 4], [0, 1, 2, 3, 4, 5], [0, 1, 2, 3, 4], [0, 1, 2, 3, 4, 5, 6, 7], [0, 1, 2, 3, 4, 5, 6, 7, 8], [0, 1, 2, 3, 4, 5, 6, 7, 8, 9], [0, 1, 2, 3, 4, 5, 6, 7, 8, 9, 10], [0, 1, 2, 3, 4, 5, 6, 7, 8, 9, 10, 11], [0, 1, 2, 3, 4, 5, 6, 7, 8, 9, 10, 11], [0, 1, 2, 3, 4, 5, 6, 7, 8, 9, 10, 11, 12, 13], [0, 1, 2, 3, 4, 5, 6, 7, 8, 9, 10, 11, 12, 13, 14], [0, 1, 2, 3, 4, 5, 6, 7, 8, 9, 10, 11, 12, 13, 14, 15], [0, 1, 2, 3, 4, 5, 6, 7, 8, 9, 10, 11, 12, 13, 14, 15, 16], [0, 1, 2, 3, 4, 5, 6, 7, 8, 9, 10, 11, 12, 13, 14, 15, 16], [0, 1, 2, 3, 4, 5, 6, 7, 8, 9, 10, 11, 12, 13, 14, 15, 16, 17, 18], [0, 1, 2, 3, 4, 5, 6, 7, 8, 9, 10, 11, 12, 13, 14, 15, 16, 17, 18, 19], [0, 1, 2, 3, 4, 5, 6, 7, 8, 9, 10, 11, 12, 13, 14, 15, 16, 17, 18, 19, 20], [0, 1, 2, 3, 4, 5, 6, 7, 8, 9, 10, 11, 12, 13, 14, 15, 16, 17, 18, 19, 20, 21], [0, 1, 2, 3, 4, 5, 6, 7, 8, 9, 10, 11, 12, 13, 14, 15, 16, 17, 18, 19, 20, 21], [0, 1, 2, 3, 4, 5, 6, 7, 8, 9, 10, 11, 12, 13, 14, 15, 16, 17, 18, 19, 20, 21, 22, 23], [0, 1, 2, 3, 4, 5, 6, 7, 8, 9, 10, 11, 12, 13, 14, 15, 16, 17, 18, 19, 20, 21, 22, 23, 24], [0, 1, 2, 3, 4, 5, 6, 7, 8, 9, 10, 11, 12, 13, 14, 15, 16, 17, 18, 19, 20, 21, 22, 23, 24, 25], [0, 1, 2, 3, 4, 5, 6, 7, 8, 9, 10, 11, 12, 13, 14, 15, 16, 17, 18, 19, 20, 21, 22, 23, 24, 25, 26], [0, 1, 2, 3, 4, 5, 6, 7, 8, 9, 10, 11, 12, 13, 14, 15, 16, 17, 18, 19, 20, 21, 22, 23, 24, 25, 26], [0, 1, 2, 3, 4, 5, 6, 7, 8, 9, 10, 11, 12, 13, 14, 15, 16, 17, 18, 19, 20, 21, 22, 23, 24, 25, 26, 27, 28], [0, 1, 2, 3, 4, 5, 6, 7, 8, 9, 10, 11, 12, 13, 14, 15, 16, 17, 18, 19, 20, 21, 22, 23, 24, 25, 26, 27, 28, 29], [0, 1, 2, 3, 4, 5, 6, 7, 8, 9, 10, 11, 12, 13, 14, 15, 16, 17, 18, 19, 20, 21, 22, 23, 24, 25, 26, 27, 28, 29, 30], [0, 1, 2, 3, 4, 5, 6, 7, 8, 9, 10, 11, 12, 13, 14, 15, 16, 17, 18, 19, 20, 21, 22, 23, 24, 25, 26, 27, 28, 29, 30, 31], [0, 1, 2, 3, 4, 5, 6, 7, 8, 9, 10, 11, 12, 13, 14, 15, 16, 17, 18, 19, 20, 21, 22, 23, 24, 25, 26, 27, 28, 29, 30, 31, 32], [0, 1, 2, 3, 4, 5, 6, 7, 8, 9, 10, 11, 12, 13, 14, 15, 16, 17, 18, 19, 20, 21, 22, 23, 24, 25, 26, 27, 28, 29, 30, 31, 32, 33]],
  [[], [], [], [1, 2], [3], [4], [], [4], [], [4, 6, 8], [4, 9], [10], [11], [11], [11, 12, 13], [11, 14], [15], [16], [16], [16, 17, 18], [16, 19], [20], [21], [21], [21, 22, 23], [21, 24], [25], [26], [26], [26, 27, 28], [26, 29], [30], [], [31, 32], [33]],
  (.take 0 [] (.take 2 [] (.br 1 [] [] (.take 3 [] (.take 4 [] (.take 5 [] (.take 7 [7] (.br 6 [7] [] (.br 8 [] [] (.take 9 [] (.take 10 [] (.take 11 [] (.take 12 [] (.take 13 [] (.take 14 [] (.take 15 [] (.take 16 [] (.take 17 [] (.take 18 [] (.take 19 [] (.take 20 [] (.take 21 [] (.take 22 [] (.take 23 [] (.take 24 [] (.take 25 [] (.take 26 [] (.take 27 [] (.take 28 [] (.take 29 [] (.take 30 [] (.take 31 [] (.br 32 [] [] (.take 33 [] (.take 34 [] .done)) .stop)))))))))))))))))))))))) .stop) .stop))))) .stop)))⟩
def dt4x4 : DrawPlan := ⟨[[], [0], [0, 1], [], [3], [], [5], [0, 1, 2, 3, 4, 5, 6], [0, 1, 2, 3, 4, 5, 6, 7], [0, 1, 2, 3, 4, 5, 6, 7, 8], [0, 1, 2, 3, 4, 5, 6, 7, 8, 9]],
  [[], [0], [], [], [3], [], [5], [], [2, 7], [], [9]],
  (.take 0 [] (.take 1 [] (.take 3 [] (.take 4 [4] (.take 5 [4] (.take 6 [6, 4] (.br 2 [6, 4] [] (.br 7 [] [] (.take 8 [] (.br 9 [] [] (.take 10 [] .done) .stop)) .stop) .stop)))))))⟩
def dt4x5 : DrawPlan := ⟨[[], [0], [0, 1], [], [3], [], [5], [0, 1, 2, 3, 4, 5, 6], [0, 1, 2, 3, 4, 5, 6, 7], [0, 1, 2, 3, 4, 5, 6, 7, 8], [0, 1, 2, 3, 4, 5, 6, 7, 8, 9]],
  [[], [0], [], [], [3], [], [5], [], [2, 7], [], [9]],
  (.take 0 [] (.take 1 [] (.take 3 [] (.take 4 [4] (.take 5 [4] (.take 6 [6, 4] (.br 2 [6, 4] [] (.br 7 [] [] (.take 8 [] (.br 9 [] [] (.take 10 [] .done) .stop)) .stop) .stop)))))))⟩
def dt4x11 : DrawPlan := ⟨[[], [0], [], [2], [], [4], [0, 1, 2, 3, 4, 5], [], [7], [], [9], [], [11], [0, 1, 2, 3, 4, 5, 6, 7, 8, 9, 10, 11, 12], [0, 1, 2, 3, 4, 5, 6, 7, 8, 9, 10, 11, 12, 13], [0, 1, 2, 3, 4, 5, 6, 7, 8, 9, 10, 11, 12, 13, 14]],
  [[], [0], [], [2], [], [4], [], [], [7], [], [9], [], [11], [], [], []],
  (.take 0 [] (.take 1 [] (.take 2 [] (.take 3 [] (.take 4 [] (.take 5 [] (.take 7 [] (.take 8 [8] (.take 9 [8] (.take 10 [10, 8] (.take 11 [10, 8] (.take 12 [12, 10, 8] (.br 6 [12, 10, 8] [] (.br 13 [] [] (.br 14 [] [] (.br 15 [] [] .done .stop) .stop) .stop) .stop)))))))))))))⟩
def dt5x4 : DrawPlan := ⟨[[], [0], [], [0, 1, 2], [0, 1, 2, 3], [0, 1, 2, 3, 4], [0, 1, 2, 3, 4, 5]],
  [[], [], [], [], [1, 3], [], [5]],
  (.take 0 [] (.take 2 [2] (.br 1 [2] [] (.br 3 [] [] (.take 4 [] (.br 5 [] [] (.take 6 [] .done) .stop)) .stop) .stop)))⟩
def dt5x5 : DrawPlan := ⟨[[], [0], [], [2], [0, 1, 2, 3], [0, 1, 2, 3, 4], [0, 1, 2, 3, 4, 5], [0, 1, 2, 3, 4, 5, 6]],
  [[], [], [], [2], [], [1, 4], [], [6]],
  (.take 0 [] (.take 2 [] (.take 3 [3] (.br 1 [3] [] (.br 4 [] [] (.take 5 [] (.br 6 [] [] (.take 7 [] .done) .stop)) .stop) .stop))))⟩
def dt10x13 : DrawPlan := ⟨[[], [0], [], [], [3], [2, 3, 4], [0, 1, 2, 3, 4, 5], [], [7], [], [], [10], [9, 10, 11], [7, 8, 9, 10, 11, 12], [0, 1, 2, 3, 4, 5, 6], [0, 1, 2, 3, 4, 5, 6, 7, 8, 9, 10, 11, 12, 13, 14]],
  [[], [0], [], [], [3], [2, 4], [1, 5], [], [7], [], [], [10], [9, 11], [8, 12], [6], [13]],
  (.take 0 [] (.take 1 [] (.take 2 [] (.take 3 [] (.take 4 [] (.take 5 [] (.take 6 [] (.take 7 [] (.take 8 [] (.take 9 [] (.take 10 [] (.take 11 [] (.take 12 [] (.take 13 [] (.take 14 [] (.take 15 [] .done))))))))))))))))⟩
def dt11x13 : DrawPlan := ⟨[[], [0], [], [2], [0, 1, 2, 3], [0, 1, 2, 3, 4], [0, 1, 2, 3, 4, 5], [0, 1, 2, 3, 4, 5, 6], [0, 1, 2, 3, 4, 5, 6, 7], [0, 1, 2, 3, 4, 5], [0, 1, 2, 3, 4, 5, 6, 7, 8, 9], [0, 1, 2, 3, 4, 5, 6, 7, 8, 9, 10], [0, 1, 2, 3, 4, 5, 6, 7, 8, 9, 10, 11], [0, 1, 2, 3, 4, 5, 6, 7, 8, 9, 10, 11, 12], [0, 1, 2, 3, 4, 5, 6, 7, 8, 9, 10, 11, 12], [0, 1, 2, 3, 4, 5, 6, 7, 8, 9, 10, 11, 12, 13, 14], [0, 1, 2, 3, 4, 5, 6, 7, 8, 9, 10, 11, 12, 13, 14, 15], [0, 1, 2, 3, 4, 5, 6, 7, 8, 9, 10, 11, 12], [0, 1, 2, 3, 4, 5, 6, 7, 8, 9, 10, 11, 12, 13, 14, 15, 16, 17], [0, 1, 2, 3, 4, 5, 6, 7, 8, 9, 10, 11, 12, 13, 14, 15, 16, 17, 18]],
  [[], [0], [], [2], [1, 3], [4], [5], [5, 6], [5, 7], [5], [5, 8, 9], [5, 10], [11], [12], [12], [12, 13, 14], [12, 15], [12], [12, 16, 17], [12, 18]],
  (.take 0 [] (.take 1 [] (.take 2 [] (.take 3 [] (.take 4 [] (.take 5 [] (.take 6 [] (.take 7 [] (.take 8 [] (.take 9 [] (.take 10 [] (.take 11 [] (.take 12 [] (.take 13 [] (.take 14 [] (.take 15 [] (.take 16 [] (.take 17 [] (.take 18 [] (.take 19 [] .done))))))))))))))))))))⟩
def dt11x24 : DrawPlan := ⟨[[], [], [0, 1], [0, 1, 2], [0, 1, 2, 3], [0, 1, 2, 3, 4], [0, 1, 2, 3, 4, 5], [0, 1, 2, 3, 4, 5, 6], [0, 1, 2, 3, 4, 5, 6], [0, 1, 2, 3, 4, 5, 6, 8], [0, 1, 2, 3, 4, 5, 6, 7, 8, 9], [0, 1, 2, 3, 4, 5, 6, 7, 8, 9, 10], [0, 1, 2, 3, 4, 5, 6, 7, 8, 9, 10, 11], [0, 1, 2, 3, 4, 5, 6, 7, 8, 9, 10, 11, 12], [0, 1, 2, 3, 4, 5, 6, 7, 8, 9, 10, 11, 12, 13], [0, 1, 2, 3, 4, 5, 6, 7, 8, 9, 10, 11, 12, 13, 14], [0, 1, 2, 3, 4, 5, 6, 7, 8, 9, 10, 11, 12, 13, 14, 15], [0, 1, 2, 3, 4, 5, 6, 7, 8, 9, 10, 11, 12, 13, 14, 15], [0, 1, 2, 3, 4, 5, 6, 7, 8, 9, 10, 11, 12, 13, 14, 15, 16, 17], [0, 1, 2, 3, 4, 5, 6, 7, 8, 9, 10, 11, 12, 13, 14, 15, 16, 17, 18], [0, 1, 2, 3, 4, 5, 6, 7, 8, 9, 10, 11, 12, 13, 14, 15], [0, 1, 2, 3, 4, 5, 6, 7, 8, 9, 10, 11, 12, 13, 14, 15], [0, 1, 2, 3, 4, 5, 6, 7, 8, 9, 10, 11, 12, 13, 14, 15], [0, 1, 2, 3, 4, 5, 6, 7, 8, 9, 10, 11, 12, 13, 14, 15, 22], [0, 1, 2, 3, 4, 5, 6, 7, 8, 9, 10, 11, 12, 13, 14, 15, 21, 22, 23], [0, 1, 2, 3, 4, 5, 6, 7, 8, 9, 10, 11, 12, 13, 14, 15, 21, 22, 23, 24], [0, 1, 2, 3, 4, 5, 6, 7, 8, 9, 10, 11, 12, 13, 14, 15, 16, 17, 18, 19, 20, 21, 22, 23, 24, 25], [0, 1, 2, 3, 4, 5, 6, 7, 8, 9, 10, 11, 12, 13, 14, 15, 16, 17, 18, 19, 20, 21, 22, 23, 24, 25, 26], [0, 1, 2, 3, 4, 5, 6, 7, 8, 9, 10, 11, 12, 13, 14, 15, 16, 17, 18, 19, 20, 21, 22, 23, 24, 25, 26, 27]],
  [[], [], [0, 1], [2], [], [4], [5], [6], [6], [6, 8], [6, 7, 9], [6, 10], [], [6, 12], [6, 13], [14], [15], [15], [15, 16, 17], [15, 18], [15], [15], [15], [15, 22], [15, 21, 23], [15, 24], [], [15, 26], [15, 27]],
  (.take 0 [] (.take 1 [] (.take 2 [] (.take 3 [] (.br 4 [] [] (.take 5 [] (.take 6 [] (.take 7 [] (.take 8 [] (.take 9 [] (.take 10 [] (.take 11 [] (.br 12 [] [] (.take 13 [] (.take 14 [] (.take 15 [] (.take 16 [] (.take 17 [] (.take 18 [] (.take 19 [] (.take 20 [] (.take 21 [] (.take 22 [] (.take 23 [] (.take 24 [] (.take 25 [] (.br 26 [] [] (.take 27 [] (.take 28 [] .done)) .stop)))))))))))))) .stop)))))))) .stop)))))⟩
def dt11x31 : DrawPlan := ⟨[[], [0], [0, 1], [0, 1, 2], [], [], [5], [5, 6], [5, 6, 7], [0, 1, 2, 3, 4, 5, 6, 7, 8], [0, 1, 2, 3, 4, 5, 6, 7, 8, 9], [0, 1, 2, 3, 4, 5, 6, 7, 8, 9, 10], [0, 1, 2, 3, 4, 5, 6, 7, 8, 9, 10], [], [0, 1, 2, 3, 4, 5, 6, 7, 8, 9, 10, 11, 13], [0, 1, 2, 3, 4, 5, 6, 7, 8, 9, 10, 11, 12, 13, 14]],
  [[], [0], [1], [2], [], [], [5], [6], [7], [], [9], [10], [10], [], [], [12]],
  (.take 0 [0] (.take 1 [1, 0] (.take 2 [2, 1, 0] (.take 3 [3, 2, 1, 0] (.take 4 [4, 3, 2, 1, 0] (.take 5 [5, 4, 3, 2, 1, 0] (.take 6 [6, 5, 4, 3, 2, 1, 0] (.take 7 [7, 6, 5, 4, 3, 2, 1, 0] (.take 8 [8, 7, 6, 5, 4, 3, 2, 1, 0] (.br 9 [] [8, 7, 6, 5, 4, 3, 2, 1, 0] (.take 10 [10, 8, 7, 6, 5, 4, 3, 2, 1, 0] (.take 11 [11, 10, 8, 7, 6, 5, 4, 3, 2, 1, 0] (.take 12 [12, 11, 10, 8, 7, 6, 5, 4, 3, 2, 1, 0] (.br 13 [12, 11, 10, 8, 7, 6, 5, 4, 3, 2, 1, 0] [] (.br 14 [] [] (.take 15 [] .done) .stop) .stop)))) (.br 13 [8, 7, 6, 5, 4, 3, 2, 1, 0] [] (.br 9 [] [] (.take 10 [] (.take 11 [] (.take 12 [] (.br 14 [] [] (.take 15 [] .done) .stop)))) .stop) .stop)))))))))))⟩
def dt11x40 : DrawPlan := ⟨[[], [], [], [2], [1, 2, 3], [0, 1, 2, 3, 4], [0, 1, 2, 3, 4, 5], [0, 1, 2, 3, 4, 5, 6], [0, 1, 2, 3, 4, 5, 6, 7], [0, 1, 2, 3, 4, 5, 6, 7, 8], [0, 1, 2, 3, 4, 5, 6, 7, 8, 9], [0, 1, 2, 3, 4, 5, 6, 7, 8, 9, 10], [0, 1, 2, 3, 4, 5, 6, 7, 8, 9, 10], [0, 1, 2, 3, 4, 5, 6, 7, 8, 9, 10, 12], [0, 1, 2, 3, 4, 5, 6, 7, 8, 9, 10, 12, 13], [0, 1, 2, 3, 4, 5, 6, 7, 8, 9, 10, 11, 12, 13, 14], [0, 1, 2, 3, 4, 5, 6, 7, 8, 9, 10, 11, 12, 13, 14, 15], [0, 1, 2, 3, 4, 5, 6, 7, 8, 9, 10], [0, 1, 2, 3, 4, 5, 6, 7, 8, 9, 10], [0, 1, 2, 3, 4, 5, 6, 7, 8, 9, 10, 11, 12, 13, 14, 15, 16, 17, 18], [0, 1, 2, 3, 4, 5, 6, 7, 8, 9, 10, 11, 12, 13, 14, 15, 16, 17, 18, 19], [0, 1, 2, 3, 4, 5, 6, 7, 8, 9, 10, 11, 12, 13, 14, 15, 16, 17, 18, 19, 20], [0, 1, 2, 3, 4, 5, 6, 7, 8, 9, 10, 11, 12, 13, 14, 15, 16, 17, 18, 19, 20, 21], [0, 1, 2, 3, 4, 5, 6, 7, 8, 9, 10, 11, 12, 13, 14, 15, 16, 17, 18, 19, 20, 21, 22], [0, 1, 2, 3, 4, 5, 6, 7, 8, 9, 10, 11, 12, 13, 14, 15, 16, 17, 18, 19, 20, 21, 22, 23]],
  [[], [], [], [2], [1, 3], [], [5], [6], [], [6, 8], [9], [10], [10], [10, 12], [10, 13], [10, 11, 14], [10, 15], [10], [10], [], [10, 19], [20], [], [21, 22], [23]],
  (.take 0 [] (.take 1 [] (.take 2 [] (.take 3 [] (.take 4 [] (.br 5 [] [] (.take 6 [] (.take 7 [] (.br 8 [] [] (.take 9 [] (.take 10 [] (.take 11 [] (.take 12 [] (.take 13 [] (.take 14 [] (.take 15 [] (.take 16 [] (.take 17 [] (.take 18 [] (.br 19 [] [] (.take 20 [] (.take 21 [] (.br 22 [] [] (.take 23 [] (.take 24 [] .done)) .stop))) .stop))))))))))) .stop))) .stop))))))⟩
def dt12x28 : DrawPlan := ⟨[[], [], [], [1, 2], [0, 1, 2, 3], [0, 1, 2, 3, 4], [], [], [6, 7], [6, 7, 8], [0, 1, 2, 3, 4, 5, 6, 7, 8, 9], [0, 1, 2, 3, 4, 5, 6, 7, 8, 9, 10]],
  [[], [], [], [1, 2], [0, 3], [4], [], [], [6, 7], [8], [5, 9], [10]],
  (.take 0 [] (.take 1 [] (.take 2 [] (.take 3 [] (.take 4 [] (.take 5 [] (.take 6 [] (.take 7 [] (.take 8 [] (.take 9 [] (.take 10 [] (.take 11 [] .done))))))))))))⟩
def dt13x3 : DrawPlan := ⟨[[], [0], [0, 1], [0, 1, 2], [], [4], [4, 5], [], [7], [7, 8], [4, 5, 6, 7, 8, 9], [0, 1, 2, 3], [0, 1, 2, 3, 4, 5, 6, 7, 8, 9, 10, 11]],
  [[], [0], [1], [2], [], [4], [5], [], [7], [8], [6, 9], [3], [10]],
  (.take 0 [] (.take 1 [] (.take 2 [] (.take 3 [] (.take 4 [] (.take 5 [] (.take 6 [] (.take 7 [] (.take 8 [] (.take 9 [] (.take 10 [] (.take 11 [] (.take 12 [] .done)))))))))))))⟩
def dt13x21 : DrawPlan := ⟨[[], [0], [], [], [2, 3], [0, 1, 2, 3, 4], [], [0, 1, 2, 3, 4, 5, 6], [0, 1, 2, 3, 4, 5, 6, 7], [0, 1, 2, 3, 4, 5, 6, 7, 8], [0, 1, 2, 3, 4, 5, 6, 7, 8], [0, 1, 2, 3, 4, 5, 6, 7, 8, 9], [0, 1, 2, 3, 4, 5, 6, 7, 8, 9, 10, 11]],
  [[], [], [], [], [2, 3], [], [], [], [7], [8], [8], [9], [10]],
  (.take 0 [] (.take 2 [] (.take 3 [] (.take 4 [] (.take 6 [] (.br 1 [] [] (.br 5 [] [] (.br 7 [] [] (.take 8 [] (.take 9 [] (.take 10 [] (.take 11 [] (.take 12 [] .done))))) .stop) .stop) .stop))))))⟩
def dt13x22 : DrawPlan := ⟨[[], [0], [], [], [2, 3], [0, 1, 2, 3, 4], [], [0, 1, 2, 3, 4, 5, 6], [0, 1, 2, 3, 4, 5, 6, 7], [0, 1, 2, 3, 4, 5, 6, 7, 8], [0, 1, 2, 3, 4, 5, 6, 7, 8], [0, 1, 2, 3, 4, 5, 6, 7, 8, 9], [0, 1, 2, 3, 4, 5, 6, 7, 8, 9, 10, 11]],
  [[], [], [], [], [2, 3], [], [], [], [7], [8], [8], [9], [10]],
  (.take 0 [] (.take 2 [] (.take 3 [] (.take 4 [] (.take 6 [] (.br 1 [] [] (.br 5 [] [] (.br 7 [] [] (.take 8 [] (.take 9 [] (.take 10 [] (.take 11 [] (.take 12 [] .done))))) .stop) .stop) .stop))))))⟩
def dt13x40 : DrawPlan := ⟨[[], [0], [0, 1], [0, 1, 2], [0, 1, 2], [0, 1, 2, 3, 4], [0, 1, 2, 3, 4, 5], [0, 1, 2, 3, 4, 5, 6], [0, 1, 2], [0, 1, 2, 3, 4, 5, 6, 7, 8], [0, 1, 2, 3, 4, 5, 6, 7, 8, 9], [0, 1, 2, 3, 4, 5, 6, 7, 8, 9, 10], [0, 1, 2, 3, 4, 5, 6, 7, 8, 9, 10, 11], [0, 1, 2, 3, 4, 5, 6, 7, 8, 9, 10, 11], [0, 1, 2, 3, 4, 5, 6, 7, 8, 9, 10, 11, 12, 13], [0, 1, 2, 3, 4, 5, 6, 7, 8, 9, 10, 11, 12, 13, 14], [0, 1, 2, 3, 4, 5, 6, 7, 8, 9, 10, 11, 12, 13, 14, 15], [0, 1, 2, 3, 4, 5, 6, 7, 8, 9, 10, 11], [0, 1, 2, 3, 4, 5, 6, 7, 8, 9, 10, 11, 12, 13, 14, 15, 16, 17], [0, 1, 2, 3, 4, 5, 6, 7, 8, 9, 10, 11, 12, 13, 14, 15, 16, 17, 18], [0, 1, 2, 3, 4, 5, 6, 7, 8, 9, 10, 11, 12, 13, 14, 15, 16, 17, 18, 19], [0, 1, 2, 3, 4, 5, 6, 7, 8, 9, 10, 11, 12, 13, 14, 15, 16, 17, 18, 19, 20], [0, 1, 2, 3, 4, 5, 6, 7, 8, 9, 10, 11, 12, 13, 14, 15, 16, 17, 18, 19, 20], [0, 1, 2, 3, 4, 5, 6, 7, 8, 9, 10, 11, 12, 13, 14, 15, 16, 17, 18, 19, 20, 21, 22], [0, 1, 2, 3, 4, 5, 6, 7, 8, 9, 10, 11, 12, 13, 14, 15, 16, 17, 18, 19, 20, 21, 22, 23], [0, 1, 2, 3, 4, 5, 6, 7, 8, 9, 10, 11, 12, 13, 14, 15, 16, 17, 18, 19, 20, 21, 22, 23, 24], [0, 1, 2, 3, 4, 5, 6, 7, 8, 9, 10, 11, 12, 13, 14, 15, 16, 17, 18, 19, 20], [0, 1, 2, 3, 4, 5, 6, 7, 8, 9, 10, 11, 12, 13, 14, 15, 16, 17, 18, 19, 20], [0, 1, 2, 3, 4, 5, 6, 7, 8, 9, 10, 11, 12, 13, 14, 15, 16, 17, 18, 19, 20, 27], [0, 1, 2, 3, 4, 5, 6, 7, 8, 9, 10, 11, 12, 13, 14, 15, 16, 17, 18, 19, 20, 26, 27, 28], [0, 1, 2, 3, 4, 5, 6, 7, 8, 9, 10, 11, 12, 13, 14, 15, 16, 17, 18, 19, 20, 21, 22, 23, 24, 25, 26, 27, 28, 29], [0, 1, 2, 3, 4, 5, 6, 7, 8, 9, 10, 11, 12, 13, 14, 15, 16, 17, 18, 19, 20, 21, 22, 23, 24, 25, 26, 27, 28, 29, 30], [0, 1, 2, 3, 4, 5, 6, 7, 8, 9, 10, 11, 12, 13, 14, 15, 16, 17, 18, 19, 20, 21, 22, 23, 24, 25, 26, 27, 28, 29, 30, 31], [0, 1, 2, 3, 4, 5, 6, 7, 8, 9, 10, 11, 12, 13, 14, 15, 16, 17, 18, 19, 20, 21, 22, 23, 24, 25, 26, 27, 28, 29, 30, 31, 32], [0, 1, 2, 3, 4, 5, 6, 7, 8, 9, 10, 11, 12, 13, 14, 15, 16, 17, 18, 19, 20, 21, 22, 23, 24, 25, 26, 27, 28, 29, 30, 31, 32], [0, 1, 2, 3, 4, 5, 6, 7, 8, 9, 10, 11, 12, 13, 14, 15, 16, 17, 18, 19, 20, 21, 22, 23, 24, 25, 26, 27, 28, 29, 30, 31, 32, 33, 34], [0, 1, 2, 3, 4, 5, 6, 7, 8, 9, 10, 11, 12, 13, 14, 15, 16, 17, 18, 19, 20, 21, 22, 23, 24, 25, 26, 27, 28, 29, 30, 31, 32, 33, 34, 35], [0, 1, 2, 3, 4, 5, 6, 7, 8, 9, 10, 11, 12, 13, 14, 15, 16, 17, 18, 19, 20, 21, 22, 23, 24, 25, 26, 27, 28, 29, 30, 31, 32], [0, 1, 2, 3, 4, 5, 6, 7, 8, 9, 10, 11, 12, 13, 14, 15, 16, 17, 18, 19, 20, 21, 22, 23, 24, 25, 26, 27, 28, 29, 30, 31, 32], [0, 1, 2, 3, 4, 5, 6, 7, 8, 9, 10, 11, 12, 13, 14, 15, 16, 17, 18, 19, 20, 21, 22, 23, 24, 25, 26, 27, 28, 29, 30, 31, 32, 37, 38], [0, 1, 2, 3, 4, 5, 6, 7, 8, 9, 10, 11, 12, 13, 14, 15, 16, 17, 18, 19, 20, 21, 22, 23, 24, 25, 26, 27, 28, 29, 30, 31, 32, 37, 38, 39], [0, 1, 2, 3, 4, 5, 6, 7, 8, 9, 10, 11, 12, 13, 14, 15, 16, 17, 18, 19, 20, 21, 22, 23, 24, 25, 26, 27, 28, 29, 30, 31, 32, 33, 34, 35, 36, 37, 38, 39, 40], [0, 1, 2, 3, 4, 5, 6, 7, 8, 9, 10, 11, 12, 13, 14, 15, 16, 17, 18, 19, 20, 21, 22, 23, 24, 25, 26, 27, 28, 29, 30, 31, 32, 33, 34, 35, 36, 37, 38, 39, 40, 41], [0, 1, 2, 3, 4, 5, 6, 7, 8, 9, 10, 11, 12, 13, 14, 15, 16, 17, 18, 19, 20, 21, 22, 23, 24, 25, 26, 27, 28, 29, 30, 31, 32, 33, 34, 35, 36, 37, 38, 39, 40, 41, 42], [0, 1, 2, 3, 4, 5, 6, 7, 8, 9, 10, 11, 12, 13, 14, 15, 16, 17, 18, 19, 20, 21, 22, 23, 24, 25, 26, 27, 28, 29, 30, 31, 32, 33, 34, 35, 36, 37, 38, 39, 40, 41, 42, 43], [0, 1, 2, 3, 4, 5, 6, 7, 8, 9, 10, 11, 12, 13, 14, 15, 16, 17, 18, 19, 20, 21, 22, 23, 24, 25, 26, 27, 28, 29, 30, 31, 32, 33, 34, 35, 36, 37, 38, 39, 40, 41, 42, 43], [0, 1, 2, 3, 4, 5, 6, 7, 8, 9, 10, 11, 12, 13, 14, 15, 16, 17, 18, 19, 20, 21, 22, 23, 24, 25, 26, 27, 28, 29, 30, 31, 32, 33, 34, 35, 36, 37, 38, 39, 40, 41, 42, 43, 45], [0, 1, 2, 3, 4, 5, 6, 7, 8, 9, 10, 11, 12, 13, 14, 15, 16, 17, 18, 19, 20, 21, 22, 23, 24, 25, 26, 27, 28, 29, 30, 31, 32, 33, 34, 35, 36, 37, 38, 39, 40, 41, 42, 43], [0, 1, 2, 3, 4, 5, 6, 7, 8, 9, 10, 11, 12, 13, 14, 15, 16, 17, 18, 19, 20, 21, 22, 23, 24, 25, 26, 27, 28, 29, 30, 31, 32, 33, 34, 35, 36, 37, 38, 39, 40, 41, 42, 43, 45, 46, 47], [0, 1, 2, 3, 4, 5, 6, 7, 8, 9, 10, 11, 12, 13, 14, 15, 16, 17, 18, 19, 20, 21, 22, 23, 24, 25, 26, 27, 28, 29, 30, 31, 32, 33, 34, 35, 36, 37, 38, 39, 40, 41, 42, 43, 44, 45, 46, 47, 48], [0, 1, 2, 3, 4, 5, 6, 7, 8, 9, 10, 11, 12, 13, 14, 15, 16, 17, 18, 19, 20, 21, 22, 23, 24, 25, 26, 27, 28, 29, 30, 31, 32, 33, 34, 35, 36, 37, 38, 39, 40, 41, 42, 43, 44, 45, 46, 47, 48, 49], [0, 1, 2, 3, 4, 5, 6, 7, 8, 9, 10, 11, 12, 13, 14, 15, 16, 17, 18, 19, 20, 21, 22, 23, 24, 25, 26, 27, 28, 29, 30, 31, 32, 33, 34, 35, 36, 37, 38, 39, 40, 41, 42, 43], [0, 1, 2, 3, 4, 5, 6, 7, 8, 9, 10, 11, 12, 13, 14, 15, 16, 17, 18, 19, 20, 21, 22, 23, 24, 25, 26, 27, 28, 29, 30, 31, 32, 33, 34, 35, 36, 37, 38, 39, 40, 41, 42, 43], [0, 1, 2, 3, 4, 5, 6, 7, 8, 9, 10, 11, 12, 13, 14, 15, 16, 17, 18, 19, 20, 21, 22, 23, 24, 25, 26, 27, 28, 29, 30, 31, 32, 33, 34, 35, 36, 37, 38, 39, 40, 41, 42, 43, 51, 52], [0, 1, 2, 3, 4, 5, 6, 7, 8, 9, 10, 11, 12, 13, 14, 15, 16, 17, 18, 19, 20, 21, 22, 23, 24, 25, 26, 27, 28, 29, 30, 31, 32, 33, 34, 35, 36, 37, 38, 39, 40, 41, 42, 43, 51, 52, 53], [0, 1, 2, 3, 4, 5, 6, 7, 8, 9, 10, 11, 12, 13, 14, 15, 16, 17, 18, 19, 20, 21, 22, 23, 24, 25, 26, 27, 28, 29, 30, 31, 32, 33, 34, 35, 36, 37, 38, 39, 40, 41, 42, 43, 44, 45, 46, 47, 48, 49, 50, 51, 52, 53, 54], [0, 1, 2, 3, 4, 5, 6, 7, 8, 9, 10, 11, 12, 13, 14, 15, 16, 17, 18, 19, 20, 21, 22, 23, 24, 25, 26, 27, 28, 29, 30, 31, 32, 33, 34, 35, 36, 37, 38, 39, 40, 41, 42, 43, 44, 45, 46, 47, 48, 49, 50, 51, 52, 53, 54, 55], [0, 1, 2, 3, 4, 5, 6, 7, 8, 9, 10, 11, 12, 13, 14, 15, 16, 17, 18, 19, 20, 21, 22, 23, 24, 25, 26, 27, 28, 29, 30, 31, 32, 33, 34, 35, 36, 37, 38, 39, 40, 41, 42, 43, 44, 45, 46, 47, 48, 49, 50, 51, 52, 53, 54, 55, 56], [0, 1, 2, 3, 4, 5, 6, 7, 8, 9, 10, 11, 12, 13, 14, 15, 16, 17, 18, 19, 20, 21, 22, 23, 24, 25, 26, 27, 28, 29, 30, 31, 32, 33, 34, 35, 36, 37, 38, 39, 40, 41, 42, 43, 44, 45, 46, 47, 48, 49, 50, 51, 52, 53, 54, 55, 56, 57], [0, 1, 2, 3, 4, 5, 6, 7, 8, 9, 10, 11, 12, 13, 14, 15, 16, 17, 18, 19, 20, 21, 22, 23, 24, 25, 26, 27, 28, 29, 30, 31, 32, 33, 34, 35, 36, 37, 38, 39, 40, 41, 42, 43, 44, 45, 46, 47, 48, 49, 50, 51, 52, 53, 54, 55, 56, 57], [0, 1, 2, 3, 4, 5, 6, 7, 8, 9, 10, 11, 12, 13, 14, 15, 16, 17, 18, 19, 20, 21, 22, 23, 24, 25, 26, 27, 28, 29, 30, 31, 32, 33, 34, 35, 36, 37, 38, 39, 40, 41, 42, 43, 44, 45, 46, 47, 48, 49, 50, 51, 52, 53, 54, 55, 56, 57, 58, 59], [0, 1, 2, 3, 4, 5, 6, 7, 8, 9, 10, 11, 12, 13, 14, 15, 16, 17, 18, 19, 20, 21, 22, 23, 24, 25, 26, 27, 28, 29, 30, 31, 32, 33, 34, 35, 36, 37, 38, 39, 40, 41, 42, 43, 44, 45, 46, 47, 48, 49, 50, 51, 52, 53, 54, 55, 56, 57, 58, 59, 60], [0, 1, 2, 3, 4, 5, 6, 7, 8, 9, 10, 11, 12, 13, 14, 15, 16, 17, 18, 19, 20, 21, 22, 23, 24, 25, 26, 27, 28, 29, 30, 31, 32, 33, 34, 35, 36, 37, 38, 39, 40, 41, 42, 43, 44, 45, 46, 47, 48, 49, 50, 51, 52, 53, 54, 55, 56, 57, 58, 59, 60, 61], [0, 1, 2, 3, 4, 5, 6, 7, 8, 9, 10, 11, 12, 13, 14, 15, 16, 17, 18, 19, 20, 21, 22, 23, 24, 25, 26, 27, 28, 29, 30, 31, 32, 33, 34, 35, 36, 37, 38, 39, 40, 41, 42, 43, 44, 45, 46, 47, 48, 49, 50, 51, 52, 53, 54, 55, 56, 57], [0, 1, 2, 3, 4, 5, 6, 7, 8, 9, 10, 11, 12, 13, 14, 15, 16, 17, 18, 19, 20, 21, 22, 23, 24, 25, 26, 27, 28, 29, 30, 31, 32, 33, 34, 35, 36, 37, 38, 39, 40, 41, 42, 43, 44, 45, 46, 47, 48, 49, 50, 51, 52, 53, 54, 55, 56, 57], [0, 1, 2, 3, 4, 5, 6, 7, 8, 9, 10, 11, 12, 13, 14, 15, 16, 17, 18, 19, 20, 21, 22, 23, 24, 25, 26, 27, 28, 29, 30, 31, 32, 33, 34, 35, 36, 37, 38, 39, 40, 41, 42, 43, 44, 45, 46, 47, 48, 49, 50, 51, 52, 53, 54, 55, 56, 57, 63, 64], [0, 1, 2, 3, 4, 5, 6, 7, 8, 9, 10, 11, 12, 13, 14, 15, 16, 17, 18, 19, 20, 21, 22, 23, 24, 25, 26, 27, 28, 29, 30, 31, 32, 33, 34, 35, 36, 37, 38, 39, 40, 41, 42, 43, 44, 45, 46, 47, 48, 49, 50, 51, 52, 53, 54, 55, 56, 57, 63, 64, 65], [0, 1, 2, 3, 4, 5, 6, 7, 8, 9, 10, 11, 12, 13, 14, 15, 16, 17, 18, 19, 20, 21, 22, 23, 24, 25, 26, 27, 28, 29, 30, 31, 32, 33, 34, 35, 36, 37, 38, 39, 40, 41, 42, 43, 44, 45, 46, 47, 48, 49, 50, 51, 52, 53, 54, 55, 56, 57, 63, 64, 65, 66], [0, 1, 2, 3, 4, 5, 6, 7, 8, 9, 10, 11, 12, 13, 14, 15, 16, 17, 18, 19, 20, 21, 22, 23, 24, 25, 26, 27, 28, 29, 30, 31, 32, 33, 34, 35, 36, 37, 38, 39, 40, 41, 42, 43, 44, 45, 46, 47, 48, 49, 50, 51, 52, 53, 54, 55, 56, 57, 58, 59, 60, 61, 62, 63, 64, 65, 66, 67], [0, 1, 2, 3, 4, 5, 6, 7, 8, 9, 10, 11, 12, 13, 14, 15, 16, 17, 18, 19, 20, 21, 22, 23, 24, 25, 26, 27, 28, 29, 30, 31, 32, 33, 34, 35, 36, 37, 38, 39, 40, 41, 42, 43, 44, 45, 46, 47, 48, 49, 50, 51, 52, 53, 54, 55, 56, 57], [0, 1, 2, 3, 4, 5, 6, 7, 8, 9, 10, 11, 12, 13, 14, 15, 16, 17, 18, 19, 20, 21, 22, 23, 24, 25, 26, 27, 28, 29, 30, 31, 32, 33, 34, 35, 36, 37, 38, 39, 40, 41, 42, 43, 44, 45, 46, 47, 48, 49, 50, 51, 52, 53, 54, 55, 56, 57, 58, 59, 60, 61, 62, 63, 64, 65, 66, 67, 68, 69], [0, 1, 2, 3, 4, 5, 6, 7, 8, 9, 10, 11, 12, 13, 14, 15, 16, 17, 18, 19, 20, 21, 22, 23, 24, 25, 26, 27, 28, 29, 30, 31, 32, 33, 34, 35, 36, 37, 38, 39, 40, 41, 42, 43, 44, 45, 46, 47, 48, 49, 50, 51, 52, 53, 54, 55, 56, 57, 58, 59, 60, 61, 62, 63, 64, 65, 66, 67, 68, 69, 70]],
  [[], [0], [1], [2], [2], [2, 3, 4], [2, 5], [2, 6], [2], [2, 7, 8], [2, 9], [10], [11], [11], [11, 12, 13], [11, 14], [11, 15], [11], [11, 16, 17], [11, 18], [19], [20], [20], [20, 21, 22], [20, 23], [20, 24], [20], [20], [20, 27], [20, 26, 28], [20, 25, 29], [20, 30], [31], [32], [32], [32, 33, 34], [32, 35], [32], [32], [32, 37, 38], [32, 39], [32, 36, 40], [32, 41], [42], [43], [43], [43, 45], [43], [43, 46, 47], [43, 44, 48], [43, 49], [43], [43], [43, 51, 52], [43, 53], [43, 50, 54], [43, 55], [56], [57], [57], [57, 58, 59], [57, 60], [57, 61], [57], [57], [57, 63, 64], [57, 65], [57, 66], [57, 62, 67], [57], [57, 68, 69], [57, 70]],
  (.take 0 [] (.take 1 [] (.take 2 [] (.take 3 [] (.take 4 [] (.take 5 [] (.take 6 [] (.take 7 [] (.take 8 [] (.take 9 [] (.take 10 [] (.take 11 [] (.take 12 [] (.take 13 [] (.take 14 [] (.take 15 [] (.take 16 [] (.take 17 [] (.take 18 [] (.take 19 [] (.take 20 [] (.take 21 [] (.take 22 [] (.take 23 [] (.take 24 [] (.take 25 [] (.take 26 [] (.take 27 [] (.take 28 [] (.take 29 [] (.take 30 [] (.take 31 [] (.take 32 [] (.take 33 [] (.take 34 [] (.take 35 [] (.take 36 [] (.take 37 [] (.take 38 [] (.take 39 [] (.take 40 [] (.take 41 [] (.take 42 [] (.take 43 [] (.take 44 [] (.take 45 [] (.take 46 [] (.take 47 [] (.take 48 [] (.take 49 [] (.take 50 [] (.take 51 [] (.take 52 [] (.take 53 [] (.take 54 [] (.take 55 [] (.take 56 [] (.take 57 [] (.take 58 [] (.take 59 [] (.take 60 [] (.take 61 [] (.take 62 [] (.take 63 [] (.take 64 [] (.take 65 [] (.take 66 [] (.take 67 [] (.take 68 [] (.take 69 [] (.take 70 [] (.take 71 [] .done))))))))))))))))))))))))))))))))))))))))))))))))))))))))))))))))))))))))⟩
def dt18x1 : DrawPlan := ⟨[[], [0], [], [2], [0, 1, 2, 3], [], [5], [], [7], [5, 6, 7, 8], [0, 1, 2, 3, 4], [0, 1, 2, 3, 4, 5, 6, 7, 8, 9, 10]],
  [[], [0], [], [2], [1, 3], [], [5], [], [7], [6, 8], [4], [9]],
  (.take 0 [] (.take 1 [] (.take 2 [] (.take 3 [] (.take 4 [] (.take 5 [] (.take 6 [] (.take 7 [] (.take 8 [] (.take 9 [] (.take 10 [] (.take 11 [] .done))))))))))))⟩
def dt19x1 : DrawPlan := ⟨[[], [0], [0, 1], [], [3], [0, 1, 2, 3, 4], [], [6], [], [8], [6, 7, 8, 9], [0, 1, 2, 3, 4, 5, 6, 7, 8, 9, 10], [0, 1, 2, 3, 4, 5, 6, 7, 8, 9, 10, 11], [0, 1, 2, 3, 4, 5, 6, 7, 8, 9, 10, 11, 12], [0, 1, 2, 3, 4, 5, 6, 7, 8, 9, 10, 11, 12, 13]],
  [[], [0], [], [], [3], [], [], [6], [], [8], [7, 9], [], [2, 5, 11], [], [13]],
  (.take 0 [] (.take 1 [] (.take 3 [] (.take 4 [4] (.take 6 [4] (.take 7 [7, 4] (.take 8 [7, 4] (.take 9 [9, 7, 4] (.take 10 [9, 7, 4] (.br 2 [9, 7, 4] [9, 7] (.br 5 [9, 7] [] (.br 11 [] [] (.take 12 [] (.br 13 [] [] (.take 14 [] .done) .stop)) .stop) .stop) .stop))))))))))⟩
def dt19x4 : DrawPlan := ⟨[[], [0], [], [2], [0, 1, 2, 3], [], [0, 1, 2, 3, 4, 5], [0, 1, 2, 3, 4, 5, 6], [0, 1, 2, 3, 4, 5, 6, 7]],
  [[], [0], [], [2], [], [], [4, 5], [], [7]],
  (.take 0 [] (.take 1 [] (.take 2 [] (.take 3 [] (.take 5 [5] (.br 4 [5] [] (.take 6 [] (.br 7 [] [] (.take 8 [] .done) .stop)) .stop))))))⟩
def dt20x1 : DrawPlan := ⟨[[], [0], [0, 1], [], [3], [0, 1, 2, 3, 4], [0, 1, 2, 3, 4, 5], [0, 1, 2, 3, 4, 5, 6], [0, 1, 2, 3, 4, 5, 6, 7]],
  [[], [0], [], [], [3], [], [2, 5], [], [7]],
  (.take 0 [] (.take 1 [] (.take 3 [] (.take 4 [4] (.br 2 [4] [] (.br 5 [] [] (.take 6 [] (.br 7 [] [] (.take 8 [] .done) .stop)) .stop) .stop)))))⟩
def dt20x4 : DrawPlan := ⟨[[], [0], [], [2], [0, 1, 2, 3], [], [0, 1, 2, 3, 4, 5], [0, 1, 2, 3, 4, 5, 6], [0, 1, 2, 3, 4, 5, 6, 7]],
  [[], [0], [], [2], [], [], [4, 5], [], [7]],
  (.take 0 [] (.take 1 [] (.take 2 [] (.take 3 [] (.take 5 [5] (.br 4 [5] [] (.take 6 [] (.br 7 [] [] (.take 8 [] .done) .stop)) .stop))))))⟩
def dt22x10 : DrawPlan := ⟨[[], [], [0, 1], [], [0, 1, 2, 3], [], [0, 1, 2, 3, 4, 5], [], [0, 1, 2, 3, 4, 5, 6, 7], [], [0, 1, 2, 3, 4, 5, 6, 7, 8, 9], [], [0, 1, 2, 3, 4, 5, 6, 7, 8, 9, 10, 11], [0, 1, 2, 3, 4, 5, 6, 7, 8, 9, 10, 11, 12], [0, 1, 2, 3, 4, 5, 6, 7, 8, 9, 10, 11, 12, 13], [0, 1, 2, 3, 4, 5, 6, 7, 8, 9, 10, 11, 12, 13, 14], [0, 1, 2, 3, 4, 5, 6, 7, 8, 9, 10, 11, 12, 13, 14], [0, 1, 2, 3, 4, 5, 6, 7, 8, 9, 10, 11, 12, 13, 14, 15, 16], [0, 1, 2, 3, 4, 5, 6, 7, 8, 9, 10, 11, 12, 13, 14, 15, 16, 17], [0, 1, 2, 3, 4, 5, 6, 7, 8, 9, 10, 11, 12, 13, 14, 15, 16, 17, 18], [0, 1, 2, 3, 4, 5, 6, 7, 8, 9, 10, 11, 12, 13, 14, 15, 16, 17, 18, 19], [0, 1, 2, 3, 4, 5, 6, 7, 8, 9, 10, 11, 12, 13, 14, 15, 16, 17, 18, 19], [0, 1, 2, 3, 4, 5, 6, 7, 8, 9, 10, 11, 12, 13, 14, 15, 16, 17, 18, 19, 20, 21], [0, 1, 2, 3, 4, 5, 6, 7, 8, 9, 10, 11, 12, 13, 14, 15, 16, 17, 18, 19, 20, 21, 22], [0, 1, 2, 3, 4, 5, 6, 7, 8, 9, 10, 11, 12, 13, 14, 15, 16, 17, 18, 19, 20, 21, 22, 23], [0, 1, 2, 3, 4, 5, 6, 7, 8, 9, 10, 11, 12, 13, 14, 15, 16, 17, 18, 19, 20, 21, 22, 23, 24], [0, 1, 2, 3, 4, 5, 6, 7, 8, 9, 10, 11, 12, 13, 14, 15, 16, 17, 18, 19, 20, 21, 22, 23, 24], [0, 1, 2, 3, 4, 5, 6, 7, 8, 9, 10, 11, 12, 13, 14, 15, 16, 17, 18, 19, 20, 21, 22, 23, 24, 25, 26], [0, 1, 2, 3, 4, 5, 6, 7, 8, 9, 10, 11, 12, 13, 14, 15, 16, 17, 18, 19, 20, 21, 22, 23, 24, 25, 26, 27], [0, 1, 2, 3, 4, 5, 6, 7, 8, 9, 10, 11, 12, 13, 14, 15, 16, 17, 18, 19, 20, 21, 22, 23, 24, 25, 26, 27, 28], [0, 1, 2, 3, 4, 5, 6, 7, 8, 9, 10, 11, 12, 13, 14, 15, 16, 17, 18, 19, 20, 21, 22, 23, 24, 25, 26, 27, 28, 29], [0, 1, 2, 3, 4, 5, 6, 7, 8, 9, 10, 11, 12, 13, 14, 15, 16, 17, 18, 19, 20, 21, 22, 23, 24, 25, 26, 27, 28, 29], [0, 1, 2, 3, 4, 5, 6, 7, 8, 9, 10, 11, 12, 13, 14, 15, 16, 17, 18, 19, 20, 21, 22, 23, 24, 25, 26, 27, 28, 29, 30, 31], [0, 1, 2, 3, 4, 5, 6, 7, 8, 9, 10, 11, 12, 13, 14, 15, 16, 17, 18, 19, 20, 21, 22, 23, 24, 25, 26, 27, 28, 29, 30, 31, 32], [0, 1, 2, 3, 4, 5, 6, 7, 8, 9, 10, 11, 12, 13, 14, 15, 16, 17, 18, 19, 20, 21, 22, 23, 24, 25, 26, 27, 28, 29, 30, 31, 32, 33], [0, 1, 2, 3, 4, 5, 6, 7, 8, 9, 10, 11, 12, 13, 14, 15, 16, 17, 18, 19, 20, 21, 22, 23, 24, 25, 26, 27, 28, 29, 30, 31, 32, 33, 34], [0, 1, 2, 3, 4, 5, 6, 7, 8, 9, 10, 11, 12, 13, 14, 15, 16, 17, 18, 19, 20, 21, 22, 23, 24, 25, 26, 27, 28, 29, 30, 31, 32, 33, 34, 35], [0, 1, 2, 3, 4, 5, 6, 7, 8, 9, 10, 11, 12, 13, 14, 15, 16, 17, 18, 19, 20, 21, 22, 23, 24, 25, 26, 27, 28, 29, 30, 31, 32, 33, 34, 35, 36], [0, 1, 2, 3, 4, 5, 6, 7, 8, 9, 10, 11, 12, 13, 14, 15, 16, 17, 18, 19, 20, 21, 22, 23, 24, 25, 26, 27, 28, 29, 30, 31, 32, 33, 34, 35, 36, 37], [0, 1, 2, 3, 4, 5, 6, 7, 8, 9, 10, 11, 12, 13, 14, 15, 16, 17, 18, 19, 20, 21, 22, 23, 24, 25, 26, 27, 28, 29, 30, 31, 32, 33, 34, 35, 36, 37, 38], [0, 1, 2, 3, 4, 5, 6, 7, 8, 9, 10, 11, 12, 13, 14, 15, 16, 17, 18, 19, 20, 21, 22, 23, 24, 25, 26, 27, 28, 29, 30, 31, 32, 33, 34, 35, 36, 37, 38, 39], [0, 1, 2, 3, 4, 5, 6, 7, 8, 9, 10, 11, 12, 13, 14, 15, 16, 17, 18, 19, 20, 21, 22, 23, 24, 25, 26, 27, 28, 29, 30, 31, 32, 33, 34, 35, 36, 37, 38, 39, 40], [0, 1, 2, 3, 4, 5, 6, 7, 8, 9, 10, 11, 12, 13, 14, 15, 16, 17, 18, 19, 20, 21, 22, 23, 24, 25, 26, 27, 28, 29, 30, 31, 32, 33, 34, 35, 36, 37, 38, 39, 40, 41], [0, 1, 2, 3, 4, 5, 6, 7, 8, 9, 10, 11, 12, 13, 14, 15, 16, 17, 18, 19, 20, 21, 22, 23, 24, 25, 26, 27, 28, 29, 30, 31, 32, 33, 34, 35, 36, 37, 38, 39, 40, 41, 42], [0, 1, 2, 3, 4, 5, 6, 7, 8, 9, 10, 11, 12, 13, 14, 15, 16, 17, 18, 19, 20, 21, 22, 23, 24, 25, 26, 27, 28, 29, 30, 31, 32, 33, 34, 35, 36, 37, 38, 39, 40, 41, 42], [0, 1, 2, 3, 4, 5, 6, 7, 8, 9, 10, 11, 12, 13, 14, 15, 16, 17, 18, 19, 20, 21, 22, 23, 24, 25, 26, 27, 28, 29, 30, 31, 32, 33, 34, 35, 36, 37, 38, 39, 40, 41, 42, 43, 44], [0, 1, 2, 3, 4, 5, 6, 7, 8, 9, 10, 11, 12, 13, 14, 15, 16, 17, 18, 19, 20, 21, 22, 23, 24, 25, 26, 27, 28, 29, 30, 31, 32, 33, 34, 35, 36, 37, 38, 39, 40, 41, 42, 43, 44, 45], [0, 1, 2, 3, 4, 5, 6, 7, 8, 9, 10, 11, 12, 13, 14, 15, 16, 17, 18, 19, 20, 21, 22, 23, 24, 25, 26, 27, 28, 29, 30, 31, 32, 33, 34, 35, 36, 37, 38, 39, 40, 41, 42, 43, 44, 45, 46], [0, 1, 2, 3, 4, 5, 6, 7, 8, 9, 10, 11, 12, 13, 14, 15, 16, 17, 18, 19, 20, 21, 22, 23, 24, 25, 26, 27, 28, 29, 30, 31, 32, 33, 34, 35, 36, 37, 38, 39, 40, 41, 42, 43, 44, 45, 46, 47], [0, 1, 2, 3, 4, 5, 6, 7, 8, 9, 10, 11, 12, 13, 14, 15, 16, 17, 18, 19, 20, 21, 22, 23, 24, 25, 26, 27, 28, 29, 30, 31, 32, 33, 34, 35, 36, 37, 38, 39, 40, 41, 42, 43, 44, 45, 46, 47], [0, 1, 2, 3, 4, 5, 6, 7, 8, 9, 10, 11, 12, 13, 14, 15, 16, 17, 18, 19, 20, 21, 22, 23, 24, 25, 26, 27, 28, 29, 30, 31, 32, 33, 34, 35, 36, 37, 38, 39, 40, 41, 42, 43, 44, 45, 46, 47, 48, 49], [0, 1, 2, 3, 4, 5, 6, 7, 8, 9, 10, 11, 12, 13, 14, 15, 16, 17, 18, 19, 20, 21, 22, 23, 24, 25, 26, 27, 28, 29, 30, 31, 32, 33, 34, 35, 36, 37, 38, 39, 40, 41, 42, 43, 44, 45, 46, 47, 48, 49, 50], [0, 1, 2, 3, 4, 5, 6, 7, 8, 9, 10, 11, 12, 13, 14, 15, 16, 17, 18, 19, 20, 21, 22, 23, 24, 25, 26, 27, 28, 29, 30, 31, 32, 33, 34, 35, 36, 37, 38, 39, 40, 41, 42, 43, 44, 45, 46, 47, 48, 49, 50, 51], [0, 1, 2, 3, 4, 5, 6, 7, 8, 9, 10, 11, 12, 13, 14, 15, 16, 17, 18, 19, 20, 21, 22, 23, 24, 25, 26, 27, 28, 29, 30, 31, 32, 33, 34, 35, 36, 37, 38, 39, 40, 41, 42, 43, 44, 45, 46, 47, 48, 49, 50, 51, 52], [0, 1, 2, 3, 4, 5, 6, 7, 8, 9, 10, 11, 12, 13, 14, 15, 16, 17, 18, 19, 20, 21, 22, 23, 24, 25, 26, 27, 28, 29, 30, 31, 32, 33, 34, 35, 36, 37, 38, 39, 40, 41, 42, 43, 44, 45, 46, 47, 48, 49, 50, 51, 52], [0, 1, 2, 3, 4, 5, 6, 7, 8, 9, 10, 11, 12, 13, 14, 15, 16, 17, 18, 19, 20, 21, 22, 23, 24, 25, 26, 27, 28, 29, 30, 31, 32, 33, 34, 35, 36, 37, 38, 39, 40, 41, 42, 43, 44, 45, 46, 47, 48, 49, 50, 51, 52, 53, 54], [0, 1, 2, 3, 4, 5, 6, 7, 8, 9, 10, 11, 12, 13, 14, 15, 16, 17, 18, 19, 20, 21, 22, 23, 24, 25, 26, 27, 28, 29, 30, 31, 32, 33, 34, 35, 36, 37, 38, 39, 40, 41, 42, 43, 44, 45, 46, 47, 48, 49, 50, 51, 52, 53, 54, 55]],
  [[], [], [0, 1], [], [2, 3], [], [4, 5], [], [6, 7], [], [8, 9], [], [10, 11], [12], [13], [14], [14], [14, 15, 16], [14, 17], [18], [19], [19], [19, 20, 21], [19, 22], [23], [24], [24], [24, 25, 26], [24, 27], [28], [29], [], [29, 30, 31], [29, 32], [33], [34], [34, 35], [34, 36], [37], [38], [38, 39], [38, 40], [41], [42], [42], [42, 43, 44], [42, 45], [46], [47], [47], [47, 48, 49], [47, 50], [51], [52], [52], [52, 53, 54], [52, 55]],
  (.take 0 [] (.take 1 [] (.take 2 [] (.take 3 [] (.take 4 [] (.take 5 [] (.take 6 [] (.take 7 [] (.take 8 [] (.take 9 [] (.take 10 [] (.take 11 [] (.take 12 [] (.take 13 [] (.take 14 [] (.take 15 [] (.take 16 [] (.take 17 [] (.take 18 [] (.take 19 [] (.take 20 [] (.take 21 [] (.take 22 [] (.take 23 [] (.take 24 [] (.take 25 [] (.take 26 [] (.take 27 [] (.take 28 [] (.take 29 [] (.take 30 [30] (.br 31 [30] [] (.take 32 [] (.take 33 [] (.take 34 [] (.take 35 [] (.take 36 [] (.take 37 [] (.take 38 [] (.take 39 [] (.take 40 [] (.take 41 [] (.take 42 [] (.take 43 [] (.take 44 [] (.take 45 [] (.take 46 [] (.take 47 [] (.take 48 [] (.take 49 [] (.take 50 [] (.take 51 [] (.take 52 [] (.take 53 [] (.take 54 [] (.take 55 [] (.take 56 [] .done))))))))))))))))))))))))) .stop))))))))))))))))))))))))))))))))⟩
def dt32x1 : DrawPlan := ⟨[[], [0], [], [0, 1, 2], [0, 1, 2, 3], [0, 1, 2, 3, 4], [0, 1, 2, 3, 4, 5]],
  [[], [], [], [], [1, 3], [], [5]],
  (.take 0 [] (.take 2 [2] (.br 1 [2] [] (.br 3 [] [] (.take 4 [] (.br 5 [] [] (.take 6 [] .done) .stop)) .stop) .stop)))⟩
def dt35x1 : DrawPlan := ⟨[[], [0], [], [2], [0, 1, 2, 3], [], [5], [], [7], [5, 6, 7, 8], [0, 1, 2, 3, 4], [0, 1, 2, 3, 4, 5, 6, 7, 8, 9, 10]],
  [[], [0], [], [2], [1, 3], [], [5], [], [7], [6, 8], [4], [9]],
  (.take 0 [] (.take 1 [] (.take 2 [] (.take 3 [] (.take 4 [] (.take 5 [] (.take 6 [] (.take 7 [] (.take 8 [] (.take 9 [] (.take 10 [] (.take 11 [] .done))))))))))))⟩
def dt37x10 : DrawPlan := ⟨[[], [0], [], [0, 1, 2], [0, 1, 2, 3], [0, 1, 2, 3, 4]],
  [[], [], [], [], [], [4]],
  (.take 0 [] (.take 2 [2] (.br 1 [2] [] (.br 3 [] [] (.br 4 [] [] (.take 5 [] .done) .stop) .stop) .stop)))⟩
def dt42x8 : DrawPlan := ⟨[[], [], [1], [], [1, 2, 3], [], [1, 2, 3, 4, 5], [], [], [7, 8], [], [7, 8, 9, 10], [1, 2, 3, 4, 5, 6, 7, 8, 9, 10, 11], [1, 2, 3, 4, 5, 6, 7, 8, 9, 10, 11, 12], [0, 1, 2, 3, 4, 5, 6, 7, 8, 9, 10, 11, 12, 13], [0, 1, 2, 3, 4, 5, 6, 7, 8, 9, 10, 11, 12, 13, 14]],
  [[], [], [1], [], [2, 3], [], [4, 5], [], [], [7, 8], [], [9, 10], [6, 11], [12], [], [0, 14]],
  (.take 0 [] (.take 1 [] (.take 2 [] (.take 3 [] (.take 4 [] (.take 5 [] (.take 6 [] (.take 7 [] (.take 8 [] (.take 9 [] (.take 10 [] (.take 11 [] (.take 12 [] (.take 13 [] (.br 14 [] [] (.take 15 [] .done) .stop)))))))))))))))⟩
def dt43x8 : DrawPlan := ⟨[[], [], [0, 1], [0, 1, 2], [0, 1, 2, 3], [0, 1, 2, 3, 4], [], [], [6, 7], [6, 7, 8], [6, 7, 8, 9], [0, 1, 2, 3, 4, 5, 6, 7, 8, 9, 10], [0, 1, 2, 3, 4, 5, 6, 7, 8, 9, 10, 11], [0, 1, 2, 3, 4, 5, 6, 7, 8, 9, 10, 11, 12], [0, 1, 2, 3, 4, 5, 6, 7, 8, 9, 10, 11, 12, 13]],
  [[], [], [0, 1], [2], [3], [], [], [], [6, 7], [8], [9], [], [5, 11], [], [13]],
  (.take 0 [] (.take 1 [] (.take 2 [] (.take 3 [] (.take 4 [] (.take 6 [] (.take 7 [] (.take 8 [] (.take 9 [] (.take 10 [10] (.br 5 [10] [] (.br 11 [] [] (.take 12 [] (.br 13 [] [] (.take 14 [] .done) .stop)) .stop) .stop)))))))))))⟩
def dt44x5 : DrawPlan := ⟨[[], [], [1], [], [], [3, 4], [3, 4, 5], [3, 4, 5, 6], [1, 2, 3, 4, 5, 6, 7], [], [], [9, 10], [9, 10, 11], [9, 10, 11, 12], [9, 10, 11, 12, 13], [1, 2, 3, 4, 5, 6, 7, 8, 9, 10, 11, 12, 13, 14], [], [], [16, 17], [16, 17, 18], [16, 17, 18, 19], [16, 17, 18, 19, 20], [16, 17, 18, 19, 20, 21], [1, 2, 3, 4, 5, 6, 7, 8, 9, 10, 11, 12, 13, 14, 15, 16, 17, 18, 19, 20, 21, 22], [0, 1, 2, 3, 4, 5, 6, 7, 8, 9, 10, 11, 12, 13, 14, 15, 16, 17, 18, 19, 20, 21, 22, 23], [0, 1, 2, 3, 4, 5, 6, 7, 8, 9, 10, 11, 12, 13, 14, 15, 16, 17, 18, 19, 20, 21, 22, 23, 24]],
  [[], [], [1], [], [], [3, 4], [5], [6], [2, 7], [], [], [9, 10], [11], [12], [13], [8, 14], [], [], [16, 17], [18], [19], [20], [21], [15, 22], [0, 23], [0, 24]],
  (.take 0 [] (.take 1 [] (.take 2 [] (.take 3 [] (.take 4 [] (.take 5 [] (.take 6 [] (.take 7 [] (.take 8 [] (.take 9 [] (.take 10 [] (.take 11 [] (.take 12 [] (.take 13 [] (.take 14 [] (.take 15 [] (.take 16 [] (.take 17 [] (.take 18 [] (.take 19 [] (.take 20 [] (.take 21 [] (.take 22 [] (.take 23 [] (.take 24 [] (.take 25 [] .done))))))))))))))))))))))))))⟩
def dt45x9 : DrawPlan := ⟨[[], [], [1], [], [], [3, 4], [3, 4, 5], [3, 4, 5, 6], [3, 4, 5, 6, 7], [1, 2, 3, 4, 5, 6, 7, 8], [], [], [10, 11], [10, 11, 12], [10, 11, 12, 13], [10, 11, 12, 13, 14], [10, 11, 12, 13, 14, 15], [1, 2, 3, 4, 5, 6, 7, 8, 9, 10, 11, 12, 13, 14, 15, 16], [0, 1, 2, 3, 4, 5, 6, 7, 8, 9, 10, 11, 12, 13, 14, 15, 16, 17], [0, 1, 2, 3, 4, 5, 6, 7, 8, 9, 10, 11, 12, 13, 14, 15, 16, 17, 18]],
  [[], [], [1], [], [], [3, 4], [5], [6], [7], [2, 8], [], [], [10, 11], [12], [13], [14], [15], [9, 16], [0, 17], [0, 18]],
  (.take 0 [] (.take 1 [] (.take 2 [] (.take 3 [] (.take 4 [] (.take 5 [] (.take 6 [] (.take 7 [] (.take 8 [] (.take 9 [] (.take 10 [] (.take 11 [] (.take 12 [] (.take 13 [] (.take 14 [] (.take 15 [] (.take 16 [] (.take 17 [] (.take 18 [] (.take 19 [] .done))))))))))))))))))))⟩
def dt46x5 : DrawPlan := ⟨[[], [], [1], [], [1, 2, 3], [], [1, 2, 3, 4, 5], [], [], [7, 8], [], [7, 8, 9, 10], [1, 2, 3, 4, 5, 6, 7, 8, 9, 10, 11], [1, 2, 3, 4, 5, 6, 7, 8, 9, 10, 11, 12], [0, 1, 2, 3, 4, 5, 6, 7, 8, 9, 10, 11, 12, 13], [0, 1, 2, 3, 4, 5, 6, 7, 8, 9, 10, 11, 12, 13, 14]],
  [[], [], [1], [], [2, 3], [], [4, 5], [], [], [7, 8], [], [9, 10], [6, 11], [12], [], [0, 14]],
  (.take 0 [] (.take 1 [] (.take 2 [] (.take 3 [] (.take 4 [] (.take 5 [] (.take 6 [] (.take 7 [] (.take 8 [] (.take 9 [] (.take 10 [] (.take 11 [] (.take 12 [] (.take 13 [] (.br 14 [] [] (.take 15 [] .done) .stop)))))))))))))))⟩
def dt47x6 : DrawPlan := ⟨[[], [], [0, 1], [0, 1, 2], [], [], [4, 5], [4, 5, 6], [0, 1, 2, 3, 4, 5, 6, 7]],
  [[], [], [0, 1], [2], [], [], [4, 5], [6], [3, 7]],
  (.take 0 [] (.take 1 [] (.take 2 [] (.take 3 [] (.take 4 [] (.take 5 [] (.take 6 [] (.take 7 [] (.take 8 [] .done)))))))))⟩
def dt48x6 : DrawPlan := ⟨[[], [], [0, 1], [0, 1, 2], [], [], [4, 5], [4, 5, 6], [0, 1, 2, 3, 4, 5, 6, 7]],
  [[], [], [0, 1], [2], [], [], [4, 5], [6], [3, 7]],
  (.take 0 [] (.take 1 [] (.take 2 [] (.take 3 [] (.take 4 [] (.take 5 [] (.take 6 [] (.take 7 [] (.take 8 [] .done)))))))))⟩
def dt52x8 : DrawPlan := ⟨[[], [], [0, 1], [], [], [3, 4], [3, 4, 5], [3, 4, 5, 6], [0, 1, 2, 3, 4, 5, 6, 7], [0, 1, 2, 3, 4, 5, 6, 7, 8]],
  [[], [], [0, 1], [], [], [3, 4], [5], [6], [], [8]],
  (.take 0 [] (.take 1 [] (.take 2 [] (.take 3 [] (.take 4 [] (.take 5 [] (.take 6 [] (.take 7 [] (.br 8 [] [] (.take 9 [] .done) .stop)))))))))⟩
def dt52x10 : DrawPlan := ⟨[[], [], [0, 1], [0, 1, 2], [0, 1, 2, 3], [0, 1, 2, 3, 4], [], [], [6, 7], [6, 7, 8], [6, 7, 8, 9], [0, 1, 2, 3, 4, 5, 6, 7, 8, 9, 10], [0, 1, 2, 3, 4, 5, 6, 7, 8, 9, 10, 11], [0, 1, 2, 3, 4, 5, 6, 7, 8, 9, 10, 11, 12], [0, 1, 2, 3, 4, 5, 6, 7, 8, 9, 10, 11, 12, 13]],
  [[], [], [0, 1], [2], [3], [], [], [], [6, 7], [8], [9], [], [5, 11], [], [13]],
  (.take 0 [] (.take 1 [] (.take 2 [] (.take 3 [] (.take 4 [] (.take 6 [] (.take 7 [] (.take 8 [] (.take 9 [] (.take 10 [10] (.br 5 [10] [] (.br 11 [] [] (.take 12 [] (.br 13 [] [] (.take 14 [] .done) .stop)) .stop) .stop)))))))))))⟩
def dt53x7 : DrawPlan := ⟨[[], [], [0, 1], [0, 1, 2], [0, 1, 2, 3], [], [0, 1, 2, 3, 4, 5], [], [], [7, 8], [7, 8, 9], [7, 8, 9, 10], [], [0, 1, 2, 3, 4, 5, 6, 7, 8, 9, 10, 11, 12], [0, 1, 2, 3, 4, 5, 6, 7, 8, 9, 10, 11, 12, 13], [0, 1, 2, 3, 4, 5, 6, 7, 8, 9, 10, 11, 12, 13, 14]],
  [[], [], [0, 1], [2], [3], [], [], [], [], [7, 8], [9], [10], [], [], [6], [13]],
  (.take 0 [] (.take 1 [] (.take 2 [] (.take 3 [] (.take 4 [] (.take 5 [] (.take 7 [] (.take 8 [] (.take 9 [] (.take 10 [] (.take 11 [11] (.take 12 [11] (.br 6 [11] [] (.br 13 [] [] (.take 14 [] (.take 15 [] .done)) .stop) .stop)))))))))))))⟩
def dt53x8 : DrawPlan := ⟨[[], [], [0, 1], [0, 1, 2], [0, 1, 2, 3], [0, 1, 2, 3], [0, 1, 2, 3, 4, 5], [0, 1, 2, 3, 4, 5, 6], [0, 1, 2, 3, 4, 5, 6, 7], [0, 1, 2, 3, 4, 5, 6, 7], [0, 1, 2, 3, 4, 5, 6, 7, 8, 9], [0, 1, 2, 3, 4, 5, 6, 7, 8, 9, 10], [0, 1, 2, 3, 4, 5, 6, 7, 8, 9, 10, 11], [0, 1, 2, 3, 4, 5, 6, 7], [0, 1, 2, 3, 4, 5, 6, 7], [0, 1, 2, 3, 4, 5, 6, 7, 13, 14], [0, 1, 2, 3, 4, 5, 6, 7, 13, 14, 15], [0, 1, 2, 3, 4, 5, 6, 7, 13, 14, 15, 16], [0, 1, 2, 3, 4, 5, 6, 7, 8, 9, 10, 11, 12, 13, 14, 15, 16, 17], [0, 1, 2, 3, 4, 5, 6, 7, 8, 9, 10, 11, 12, 13, 14, 15, 16, 17, 18], [0, 1, 2, 3, 4, 5, 6, 7, 8, 9, 10, 11, 12, 13, 14, 15, 16, 17, 18, 19]],
  [[], [], [0, 1], [2], [3], [3], [3, 4, 5], [3, 6], [7], [7], [7, 8, 9], [7, 10], [7, 11], [7], [7], [7, 13, 14], [7, 15], [7, 16], [7, 12, 17], [3, 7, 18], [3, 19]],
  (.take 0 [] (.take 1 [] (.take 2 [] (.take 3 [] (.take 4 [] (.take 5 [] (.take 6 [] (.take 7 [] (.take 8 [] (.take 9 [] (.take 10 [] (.take 11 [] (.take 12 [] (.take 13 [] (.take 14 [] (.take 15 [] (.take 16 [] (.take 17 [] (.take 18 [] (.take 19 [] (.take 20 [] .done)))))))))))))))))))))⟩
def dt54x7 : DrawPlan := ⟨[[], [0], [0, 1], [0, 1, 2], [0, 1, 2, 3], [], [0, 1, 2, 3, 4, 5], [], [7], [0, 1, 2, 3, 4, 5, 6, 7, 8], [], [10], [0, 1, 2, 3, 4, 5, 6, 7, 8, 9, 10, 11], [0, 1, 2, 3, 4, 5, 6, 7, 8, 9, 10, 11, 12], [0, 1, 2, 3, 4, 5, 6, 7, 8, 9, 10, 11, 12, 13], [0, 1, 2, 3, 4, 5, 6, 7, 8, 9, 10, 11, 12, 13, 14]],
  [[], [0], [], [2], [], [], [], [], [7], [], [], [10], [], [4, 6, 9, 12], [], [14]],
  (.take 0 [] (.take 1 [] (.take 5 [] (.take 7 [] (.take 8 [8] (.take 10 [8] (.take 11 [11, 8] (.br 2 [11, 8] [11, 8] (.take 3 [11, 8] (.br 4 [11, 8] [11, 8] (.br 6 [11, 8] [11] (.br 9 [11] [] (.br 12 [] [] (.take 13 [] (.br 14 [] [] (.take 15 [] .done) .stop)) .stop) .stop) .stop) .stop)) .stop))))))))⟩
def dt63x6 : DrawPlan := ⟨[[], [], [0, 1], [0, 1, 2], [0, 1, 2, 3], [0, 1, 2, 3, 4], [], [], [6, 7], [6, 7, 8], [6, 7, 8, 9], [0, 1, 2, 3, 4, 5, 6, 7, 8, 9, 10], [], [], [12, 13], [12, 13, 14], [12, 13, 14, 15], [0, 1, 2, 3, 4, 5, 6, 7, 8, 9, 10, 11, 12, 13, 14, 15, 16], [0, 1, 2, 3, 4, 5, 6, 7, 8, 9, 10, 11, 12, 13, 14, 15, 16, 17], [0, 1, 2, 3, 4, 5, 6, 7, 8, 9, 10, 11, 12, 13, 14, 15, 16, 17, 18], [0, 1, 2, 3, 4, 5, 6, 7, 8, 9, 10, 11, 12, 13, 14, 15, 16, 17, 18, 19]],
  [[], [], [0, 1], [2], [3], [], [], [], [6, 7], [8], [9], [], [], [], [12, 13], [14], [15], [], [5, 11, 17], [], [19]],
  (.take 0 [] (.take 1 [] (.take 2 [] (.take 3 [] (.take 4 [] (.take 6 [] (.take 7 [] (.take 8 [] (.take 9 [] (.take 10 [10] (.take 12 [10] (.take 13 [10] (.take 14 [10] (.take 15 [10] (.take 16 [16, 10] (.br 5 [16, 10] [16] (.br 11 [16] [] (.br 17 [] [] (.take 18 [] (.br 19 [] [] (.take 20 [] .done) .stop)) .stop) .stop) .stop))))))))))))))))⟩
def dt64x9 : DrawPlan := ⟨[[], [], [0, 1], [0, 1, 2], [0, 1, 2, 3], [], [], [5, 6], [5, 6, 7], [5, 6, 7, 8], [0, 1, 2, 3, 4, 5, 6, 7, 8, 9]],
  [[], [], [0, 1], [2], [3], [], [], [5, 6], [7], [8], [4, 9]],
  (.take 0 [] (.take 1 [] (.take 2 [] (.take 3 [] (.take 4 [] (.take 5 [] (.take 6 [] (.take 7 [] (.take 8 [] (.take 9 [] (.take 10 [] .done)))))))))))⟩
def dt64x10 : DrawPlan := ⟨[[], [0], [], [], [2, 3], [2, 3, 4], [2, 3, 4, 5], [], [], [7, 8], [7, 8, 9], [7, 8, 9, 10], [], [], [12, 13], [12, 13, 14], [12, 13, 14, 15], [], [2, 3, 4, 5, 6, 7, 8, 9, 10, 11, 12, 13, 14, 15, 16, 17], [0, 1, 2, 3, 4, 5, 6, 7, 8, 9, 10, 11, 12, 13, 14, 15, 16, 17, 18], [0, 1, 2, 3, 4, 5, 6, 7, 8, 9, 10, 11, 12, 13, 14, 15, 16, 17, 18, 19], [0, 1, 2, 3, 4, 5, 6, 7, 8, 9, 10, 11, 12, 13, 14, 15, 16, 17, 18, 19, 20]],
  [[], [0], [], [], [2, 3], [4], [5], [], [], [7, 8], [9], [10], [], [], [12, 13], [14], [15], [], [], [1, 18], [], []],
  (.take 0 [] (.take 1 [1] (.take 2 [1] (.take 3 [1] (.take 4 [1] (.take 5 [1] (.take 6 [1] (.take 7 [1] (.take 8 [1] (.take 9 [1] (.take 10 [1] (.take 11 [1] (.take 12 [1] (.take 13 [1] (.take 14 [1] (.take 15 [1] (.take 16 [1] (.take 17 [1] (.br 18 [1] [] (.take 19 [] (.take 20 [] (.br 21 [] [] .done .stop))) .stop)))))))))))))))))))⟩
def dt64x11 : DrawPlan := ⟨[[], [0], [], [], [2, 3], [2, 3, 4], [2, 3, 4, 5], [0, 1, 2, 3, 4, 5, 6], [0, 1, 2, 3, 4, 5, 6, 7], [0, 1, 2, 3, 4, 5, 6, 7, 8], [0, 1, 2, 3, 4, 5, 6, 7, 8, 9]],
  [[], [0], [], [], [2, 3], [4], [5], [1, 6], [7], [], []],
  (.take 0 [] (.take 1 [] (.take 2 [] (.take 3 [] (.take 4 [] (.take 5 [] (.take 6 [] (.take 7 [] (.take 8 [] (.take 9 [] (.br 10 [] [] .done .stop)))))))))))⟩
def dt64x12 : DrawPlan := ⟨[[], [0], [], [], [2, 3], [2, 3, 4], [2, 3, 4, 5], [0, 1, 2, 3, 4, 5, 6], [0, 1, 2, 3, 4, 5, 6, 7], [0, 1, 2, 3, 4, 5, 6, 7, 8]],
  [[], [0], [], [], [2, 3], [4], [5], [1, 6], [], []],
  (.take 0 [] (.take 1 [] (.take 2 [] (.take 3 [] (.take 4 [] (.take 5 [] (.take 6 [] (.take 7 [] (.take 8 [] (.br 9 [] [] .done .stop))))))))))⟩
def dt65x6 : DrawPlan := ⟨[[], [], [0, 1], [0, 1, 2], [], [], [4, 5], [4, 5, 6], [0, 1, 2, 3, 4, 5, 6, 7]],
  [[], [], [0, 1], [2], [], [], [4, 5], [6], [3, 7]],
  (.take 0 [] (.take 1 [] (.take 2 [] (.take 3 [] (.take 4 [] (.take 5 [] (.take 6 [] (.take 7 [] (.take 8 [] .done)))))))))⟩
def dt68x3 : DrawPlan := ⟨[[], [0], [0, 1], [], [3], [3, 4], [], [6], [6, 7], [0, 1, 2], [0, 1, 2, 3, 4, 5, 9], [0, 1, 2, 3, 4, 5, 6, 7, 8, 9, 10]],
  [[], [0], [1], [], [3], [4], [], [6], [7], [2], [5], [8]],
  (.take 0 [] (.take 1 [] (.take 2 [] (.take 3 [] (.take 4 [] (.take 5 [] (.take 6 [] (.take 7 [] (.take 8 [] (.take 9 [] (.take 10 [] (.take 11 [] .done))))))))))))⟩
def dt70x1 : DrawPlan := ⟨[[], [0], [], [2], [0, 1, 2, 3], [], [5], [], [7], [5, 6, 7, 8], [0, 1, 2, 3, 4], [0, 1, 2, 3, 4, 5, 6, 7, 8, 9, 10]],
  [[], [0], [], [2], [1, 3], [], [5], [], [7], [6, 8], [4], [9]],
  (.take 0 [] (.take 1 [] (.take 2 [] (.take 3 [] (.take 4 [] (.take 5 [] (.take 6 [] (.take 7 [] (.take 8 [] (.take 9 [] (.take 10 [] (.take 11 [] .done))))))))))))⟩
def dt71x2 : DrawPlan := ⟨[[], [], [0, 1], [], [], [3, 4], [0, 1, 2, 3, 4, 5], [0, 1, 2, 3, 4, 5, 6]],
  [[], [], [0, 1], [], [], [3, 4], [2, 5], []],
  (.take 0 [] (.take 1 [] (.take 2 [] (.take 3 [] (.take 4 [] (.take 5 [] (.take 6 [] (.br 7 [] [] .done .stop))))))))⟩
def dt79x2 : DrawPlan := ⟨[[], [], [0, 1], [], [], [3, 4], [0, 1, 2, 3, 4, 5], [0, 1, 2, 3, 4, 5, 6]],
  [[], [], [0, 1], [], [], [3, 4], [2, 5], []],
  (.take 0 [] (.take 1 [] (.take 2 [] (.take 3 [] (.take 4 [] (.take 5 [] (.take 6 [] (.br 7 [] [] .done .stop))))))))⟩
def dt85x7 : DrawPlan := ⟨[[], [], [], [1, 2], [1, 2, 3], [], [0, 1, 2, 3, 4, 5], [0, 1, 2, 3, 4, 5, 6]],
  [[], [], [], [1, 2], [3], [], [], [6]],
  (.take 0 [] (.take 1 [] (.take 2 [] (.take 3 [] (.take 4 [] (.take 5 [] (.br 6 [] [] (.take 7 [] .done) .stop)))))))⟩
def dt86x1 : DrawPlan := ⟨[[], [0], [], [2], [0, 1, 2, 3], [], [5], [], [7], [0, 1, 2, 3, 4, 5, 6, 7, 8], [], [10], [], [12], [0, 1, 2, 3, 4, 5, 6, 7, 8, 9, 10, 11, 12, 13], [0, 1, 2, 3, 4, 5, 6, 7, 8, 9, 10, 11, 12, 13, 14], [0, 1, 2, 3, 4, 5, 6, 7, 8, 9, 10, 11, 12, 13, 14, 15], [0, 1, 2, 3, 4, 5, 6, 7, 8, 9, 10, 11, 12, 13, 14, 15, 16]],
  [[], [0], [], [2], [], [], [5], [], [7], [], [], [10], [], [12], [], [4, 9, 14], [], [16]],
  (.take 0 [] (.take 1 [] (.take 2 [] (.take 3 [] (.take 5 [] (.take 6 [6] (.take 7 [6] (.take 8 [8, 6] (.take 10 [8, 6] (.take 11 [11, 8, 6] (.take 12 [11, 8, 6] (.take 13 [13, 11, 8, 6] (.br 4 [13, 11, 8, 6] [13, 11] (.br 9 [13, 11] [] (.br 14 [] [] (.take 15 [] (.br 16 [] [] (.take 17 [] .done) .stop)) .stop) .stop) .stop)))))))))))))⟩
def dt98x1 : DrawPlan := ⟨[[], [0], [], [2], [], [4], [0, 1, 2, 3, 4, 5], [], [], [0, 1, 2, 3, 4, 5, 6, 7, 8], [0, 1, 2, 3, 4, 5, 6, 7, 8, 9], [0, 1, 2, 3, 4, 5, 6, 7, 8, 9, 10], [0, 1, 2, 3, 4, 5, 6, 7, 8, 9, 10, 11], [0, 1, 2, 3, 4, 5, 6, 7, 8, 9, 10, 11, 12], [0, 1, 2, 3, 4, 5, 6, 7, 8, 9, 10, 11, 12, 13]],
  [[], [0], [], [2], [], [4], [], [], [], [], [9], [], [6, 11], [], [13]],
  (.take 0 [] (.take 1 [] (.take 2 [] (.take 3 [] (.take 4 [] (.take 5 [] (.take 7 [7] (.take 8 [8, 7] (.br 6 [8, 7] [] (.br 9 [] [] (.take 10 [] (.br 11 [] [] (.take 12 [] (.br 13 [] [] (.take 14 [] .done) .stop)) .stop)) .stop) .stop)))))))))⟩
def dt101x2 : DrawPlan := ⟨[[], [], [], [2], [1, 2, 3], [], [], [6], [5, 6, 7], [0, 1, 2, 3, 4, 5, 6, 7, 8], [0, 1, 2, 3, 4, 5, 6, 7, 8, 9]],
  [[], [], [], [2], [], [], [], [6], [5, 7], [0, 4, 8], []],
  (.take 0 [] (.take 1 [] (.take 2 [] (.take 3 [] (.take 5 [] (.take 6 [] (.take 7 [7] (.take 8 [7] (.br 4 [7] [] (.take 9 [] (.br 10 [] [] .done .stop)) .stop)))))))))⟩
def dt104x2 : DrawPlan := ⟨[[], [], [0, 1], [], [], [3, 4], [0, 1, 2, 3, 4, 5], [0, 1, 2, 3, 4, 5, 6]],
  [[], [], [0, 1], [], [], [3, 4], [2, 5], []],
  (.take 0 [] (.take 1 [] (.take 2 [] (.take 3 [] (.take 4 [] (.take 5 [] (.take 6 [] (.br 7 [] [] .done .stop))))))))⟩
def dt107x1 : DrawPlan := ⟨[[], [0], [0, 1], [], [3], [0, 1, 2, 3, 4], [0, 1, 2, 3, 4, 5], [0, 1, 2, 3, 4, 5, 6], [0, 1, 2, 3, 4, 5, 6, 7]],
  [[], [0], [], [], [3], [], [2, 5], [], [7]],
  (.take 0 [] (.take 1 [] (.take 3 [] (.take 4 [4] (.br 2 [4] [] (.br 5 [] [] (.take 6 [] (.br 7 [] [] (.take 8 [] .done) .stop)) .stop) .stop)))))⟩
def dt108x7 : DrawPlan := ⟨[[], [], [1], [], [3], [3, 4], [1, 2, 3, 4, 5], [], [7], [7, 8], [7, 8, 9], [1, 2, 3, 4, 5, 6, 7, 8, 9, 10], [0, 1, 2, 3, 4, 5, 6, 7, 8, 9, 10, 11], [0, 1, 2, 3, 4, 5, 6, 7, 8, 9, 10, 11, 12]],
  [[], [], [1], [], [3], [4], [2, 5], [], [7], [8], [9], [6, 10], [0, 11], [0, 12]],
  (.take 0 [] (.take 1 [] (.take 2 [] (.take 3 [] (.take 4 [] (.take 5 [] (.take 6 [] (.take 7 [] (.take 8 [] (.take 9 [] (.take 10 [] (.take 11 [] (.take 12 [] (.take 13 [] .done))))))))))))))⟩
def dt112x2 : DrawPlan := ⟨[[], [], [], [1, 2], [0, 1], [0, 1, 2, 3, 4]],
  [[], [], [], [1, 2], [0, 1], [0, 2, 3]],
  (.take 0 [] (.take 1 [] (.take 2 [] (.take 3 [] (.take 4 [] (.take 5 [] .done))))))⟩
def dtF (f r : Nat) : Option DrawPlan :=
  bif Nat.beq f 3 then (bif Nat.beq r 6 then some dt3x6 else bif Nat.beq r 7 then some dt3x7 else none) else
  bif Nat.beq f 4 then (bif Nat.beq r 4 then some dt4x4 else bif Nat.beq r 5 then some dt4x5 else bif Nat.beq r 11 then some dt4x11 else none) else
  bif Nat.beq f 5 then (bif Nat.beq r 4 then some dt5x4 else bif Nat.beq r 5 then some dt5x5 else none) else
  bif Nat.beq f 10 then (bif Nat.beq r 13 then some dt10x13 else none) else
  bif Nat.beq f 11 then (bif Nat.beq r 13 then some dt11x13 else bif Nat.beq r 24 then some dt11x24 else bif Nat.beq r 31 then some dt11x31 else bif Nat.beq r 40 then some dt11x40 else none) else
  bif Nat.beq f 12 then (bif Nat.beq r 28 then some dt12x28 else none) else
  bif Nat.beq f 13 then (bif Nat.beq r 3 then some dt13x3 else bif Nat.beq r 21 then some dt13x21 else bif Nat.beq r 22 then some dt13x22 else bif Nat.beq r 40 then some dt13x40 else none) else
  bif Nat.beq f 18 then (bif Nat.beq r 1 then some dt18x1 else none) else
  bif Nat.beq f 19 then (bif Nat.beq r 1 then some dt19x1 else bif Nat.beq r 4 then some dt19x4 else none) else
  bif Nat.beq f 20 then (bif Nat.beq r 1 then some dt20x1 else bif Nat.beq r 4 then some dt20x4 else none) else
  bif Nat.beq f 22 then (bif Nat.beq r 10 then some dt22x10 else none) else
  bif Nat.beq f 32 then (bif Nat.beq r 1 then some dt32x1 else none) else
  bif Nat.beq f 35 then (bif Nat.beq r 1 then some dt35x1 else none) else
  bif Nat.beq f 37 then (bif Nat.beq r 10 then some dt37x10 else none) else
  bif Nat.beq f 42 then (bif Nat.beq r 8 then some dt42x8 else none) else
  bif Nat.beq f 43 then (bif Nat.beq r 8 then some dt43x8 else none) else
  bif Nat.beq f 44 then (bif Nat.beq r 5 then some dt44x5 else none) else
  bif Nat.beq f 45 then (bif Nat.beq r 9 then some dt45x9 else none) else
  bif Nat.beq f 46 then (bif Nat.beq r 5 then some dt46x5 else none) else
  bif Nat.beq f 47 then (bif Nat.beq r 6 then some dt47x6 else none) else
  bif Nat.beq f 48 then (bif Nat.beq r 6 then some dt48x6 else none) else
  bif Nat.beq f 52 then (bif Nat.beq r 8 then some dt52x8 else bif Nat.beq r 10 then some dt52x10 else none) else
  bif Nat.beq f 53 then (bif Nat.beq r 7 then some dt53x7 else bif Nat.beq r 8 then some dt53x8 else none) else
  bif Nat.beq f 54 then (bif Nat.beq r 7 then some dt54x7 else none) else
  bif Nat.beq f 63 then (bif Nat.beq r 6 then some dt63x6 else none) else
  bif Nat.beq f 64 then (bif Nat.beq r 9 then some dt64x9 else bif Nat.beq r 10 then some dt64x10 else bif Nat.beq r 11 then some dt64x11 else bif Nat.beq r 12 then some dt64x12 else none) else
  bif Nat.beq f 65 then (bif Nat.beq r 6 then some dt65x6 else none) else
  bif Nat.beq f 68 then (bif Nat.beq r 3 then some dt68x3 else none) else
  bif Nat.beq f 70 then (bif Nat.beq r 1 then some dt70x1 else none) else
  bif Nat.beq f 71 then (bif Nat.beq r 2 then some dt71x2 else none) else
  bif Nat.beq f 79 then (bif Nat.beq r 2 then some dt79x2 else none) else
  bif Nat.beq f 85 then (bif Nat.beq r 7 then some dt85x7 else none) else
  bif Nat.beq f 86 then (bif Nat.beq r 1 then some dt86x1 else none) else
  bif Nat.beq f 98 then (bif Nat.beq r 1 then some dt98x1 else none) else
  bif Nat.beq f 101 then (bif Nat.beq r 2 then some dt101x2 else none) else
  bif Nat.beq f 104 then (bif Nat.beq r 2 then some dt104x2 else none) else
  bif Nat.beq f 107 then (bif Nat.beq r 1 then some dt107x1 else none) else
  bif Nat.beq f 108 then (bif Nat.beq r 7 then some dt108x7 else none) else
  bif Nat.beq f 112 then (bif Nat.beq r 2 then some dt112x2 else none) else none
def okF (f : Nat) : Bool := Nat.blt f 134
theorem drawsAll : (List.range 134).all (fun f => !okF f || match Tryd.prog.funcs[f]? with
  | some fn => match fn.body with
    | some c => codeDraws (dtF f) c
    | none => true
  | none => true) = true := by kernel_rfl
theorem drawsOk (f : FuncId) (fn : Func) (c : Code) (h : okF f = true) (hf : Tryd.prog.funcs[f]? = some fn) (hb : fn.body = some c) : codeDraws (dtF f) c = true := by
  have hlt : f < 134 := by
    have : Nat.blt f 134 = true := by
      simpa [okF] using h
    exact Nat.le_of_ble_eq_true this
  have h1 := List.all_eq_true.1 drawsAll f (List.mem_range.2 hlt)
  rw [h, hf] at h1
  simp only [hb] at h1
  simpa using h1
noncomputable def envD : EnvD := { toEnv := env, dt := dtF, okF := okF, draws := drawsOk }
end Go.Proofs.YtpngggdfbbdfaaaDoor
