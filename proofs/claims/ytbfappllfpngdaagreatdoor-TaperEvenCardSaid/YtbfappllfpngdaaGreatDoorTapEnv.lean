/- The abstract machine's surroundings for this program: its types as a table (printed by a program of ours, checked by the kernel). -/
import Derived.Test.YtbfappllfpngdaaGreatDoorProg
import Derived.Test.YtbfappllfpngdaaGreatDoorAmKH
import Derived.KernelRfl
set_option linter.all false
namespace Go.Proofs.YtbfappllfpngdaaGreatDoor
open Go Go.Am
set_option maxRecDepth 100000
def tiT (t : Nat) : Option TI :=
 bif Nat.ble t 113 then
  bif Nat.ble t 56 then
   bif Nat.ble t 27 then
    bif Nat.ble t 13 then
     bif Nat.ble t 6 then
      bif Nat.ble t 2 then
       bif Nat.ble t 0 then
        some { k := .sc, size := 1, agg := false, zero := some (.tup []), ek := .no }
       else
        bif Nat.ble t 1 then
         some { k := .sc, size := 1, agg := false, zero := some (.nilf), ek := .no }
        else
         some { k := .int .i64, size := 1, agg := false, zero := some (.int .i64 0), ek := .int }
      else
       bif Nat.ble t 4 then
        bif Nat.ble t 3 then
         some { k := .int .i64, size := 1, agg := false, zero := some (.int .i64 0), ek := .int }
        else
         some { k := .sc, size := 1, agg := false, zero := some (.bool false), ek := .bool }
       else
        bif Nat.ble t 5 then
         some { k := .int .u8, size := 1, agg := false, zero := some (.int .u8 0), ek := .int }
        else
         some { k := .int .u8, size := 1, agg := false, zero := some (.int .u8 0), ek := .int }
     else
      bif Nat.ble t 9 then
       bif Nat.ble t 7 then
        some { k := .st [(0, 1, false), (1, 1, false), (2, 1, false), (3, 1, false)], size := 4, agg := true, zero := some (.agg [.int .i64 0, .int .i64 0, .bool false, .int .u8 0]), ek := (.st (.cons 0 1 false .int (.cons 1 1 false .int (.cons 2 1 false .bool (.cons 3 1 false .int .nil))))) }
       else
        bif Nat.ble t 8 then
         some { k := .st [(0, 1, false), (1, 1, false), (2, 1, false), (3, 1, false)], size := 4, agg := true, zero := some (.agg [.int .i64 0, .int .i64 0, .bool false, .int .u8 0]), ek := (.st (.cons 0 1 false .int (.cons 1 1 false .int (.cons 2 1 false .bool (.cons 3 1 false .int .nil))))) }
        else
         some { k := .str, size := 1, agg := false, zero := some (.str []), ek := .str }
      else
       bif Nat.ble t 11 then
        bif Nat.ble t 10 then
         some { k := .str, size := 1, agg := false, zero := some (.str []), ek := .str }
        else
         some { k := .str, size := 1, agg := false, zero := some (.str []), ek := .str }
       else
        bif Nat.ble t 12 then
         some { k := .int .u64, size := 1, agg := false, zero := some (.int .u64 0), ek := .int }
        else
         none
    else
     bif Nat.ble t 20 then
      bif Nat.ble t 16 then
       bif Nat.ble t 14 then
        none
       else
        bif Nat.ble t 15 then
         some { k := .sc, size := 1, agg := false, zero := some (.nilp), ek := .no }
        else
         some { k := .sc, size := 1, agg := false, zero := some (.nilp), ek := .no }
      else
       bif Nat.ble t 18 then
        bif Nat.ble t 17 then
         some { k := .sc, size := 1, agg := false, zero := some (.nilp), ek := .no }
        else
         none
       else
        bif Nat.ble t 19 then
         none
        else
         some { k := .sc, size := 1, agg := false, zero := some (.nili), ek := .no }
     else
      bif Nat.ble t 23 then
       bif Nat.ble t 21 then
        some { k := .int .i32, size := 1, agg := false, zero := some (.int .i32 0), ek := .int }
       else
        bif Nat.ble t 22 then
         some { k := .sc, size := 1, agg := false, zero := some (.nilf), ek := .no }
        else
         some { k := .int .i64, size := 1, agg := false, zero := some (.int .i64 0), ek := .int }
      else
       bif Nat.ble t 25 then
        bif Nat.ble t 24 then
         some { k := .sc, size := 1, agg := false, zero := some (.tup [.str [], .int .i64 0]), ek := .no }
        else
         some { k := .sc, size := 1, agg := false, zero := some (.nilf), ek := .no }
       else
        bif Nat.ble t 26 then
         some { k := .sc, size := 1, agg := false, zero := some (.tup [.str [], .int .i64 0, .int .i64 0]), ek := .no }
        else
         some { k := .sc, size := 1, agg := false, zero := some (.nilf), ek := .no }
   else
    bif Nat.ble t 41 then
     bif Nat.ble t 34 then
      bif Nat.ble t 30 then
       bif Nat.ble t 28 then
        some { k := .sc, size := 1, agg := false, zero := some (.nilf), ek := .no }
       else
        bif Nat.ble t 29 then
         some { k := .sc, size := 1, agg := false, zero := some (.tup [.str [], .int .i64 0, .int .i64 0]), ek := .no }
        else
         some { k := .sc, size := 1, agg := false, zero := some (.nilf), ek := .no }
      else
       bif Nat.ble t 32 then
        bif Nat.ble t 31 then
         some { k := .sc, size := 1, agg := false, zero := some (.nilf), ek := .no }
        else
         some { k := .sc, size := 1, agg := false, zero := some (.nilf), ek := .no }
       else
        bif Nat.ble t 33 then
         some { k := .sc, size := 1, agg := false, zero := some (.nilf), ek := .no }
        else
         some { k := .sc, size := 1, agg := false, zero := some (.nilf), ek := .no }
     else
      bif Nat.ble t 37 then
       bif Nat.ble t 35 then
        some { k := .st [(0, 1, false), (1, 1, false), (2, 1, false), (3, 1, false)], size := 4, agg := true, zero := some (.agg [.str [], .int .i64 0, .str [], .int .i64 0]), ek := (.st (.cons 0 1 false .str (.cons 1 1 false .int (.cons 2 1 false .str (.cons 3 1 false .int .nil))))) }
       else
        bif Nat.ble t 36 then
         some { k := .st [(0, 1, false), (1, 1, false), (2, 1, false), (3, 1, false)], size := 4, agg := true, zero := some (.agg [.str [], .int .i64 0, .str [], .int .i64 0]), ek := (.st (.cons 0 1 false .str (.cons 1 1 false .int (.cons 2 1 false .str (.cons 3 1 false .int .nil))))) }
        else
         some { k := .sc, size := 1, agg := false, zero := some (.nilf), ek := .no }
      else
       bif Nat.ble t 39 then
        bif Nat.ble t 38 then
         some { k := .sc, size := 1, agg := false, zero := some (.nilf), ek := .no }
        else
         some { k := .sc, size := 1, agg := false, zero := some (.nilf), ek := .no }
       else
        bif Nat.ble t 40 then
         some { k := .sc, size := 1, agg := false, zero := some (.nilf), ek := .no }
        else
         some { k := .st [(0, 1, false), (1, 1, false)], size := 2, agg := true, zero := some (.agg [.int .i64 0, .int .i64 0]), ek := (.st (.cons 0 1 false .int (.cons 1 1 false .int .nil))) }
    else
     bif Nat.ble t 48 then
      bif Nat.ble t 44 then
       bif Nat.ble t 42 then
        some { k := .st [(0, 1, false), (1, 1, false)], size := 2, agg := true, zero := some (.agg [.int .i64 0, .int .i64 0]), ek := (.st (.cons 0 1 false .int (.cons 1 1 false .int .nil))) }
       else
        bif Nat.ble t 43 then
         some { k := .sc, size := 1, agg := false, zero := none, ek := .no }
        else
         some { k := .sc, size := 1, agg := false, zero := some (.nilf), ek := .no }
      else
       bif Nat.ble t 46 then
        bif Nat.ble t 45 then
         some { k := .sc, size := 1, agg := false, zero := some (.nilf), ek := .no }
        else
         some { k := .sc, size := 1, agg := false, zero := some (.nilf), ek := .no }
       else
        bif Nat.ble t 47 then
         some { k := .sc, size := 1, agg := false, zero := some (.nilf), ek := .no }
        else
         some { k := .sc, size := 1, agg := false, zero := some (.nilf), ek := .no }
     else
      bif Nat.ble t 52 then
       bif Nat.ble t 50 then
        bif Nat.ble t 49 then
         some { k := .st [(0, 1, false), (1, 1, false)], size := 2, agg := true, zero := some (.agg [.int .i64 0, .int .i64 0]), ek := (.st (.cons 0 1 false .int (.cons 1 1 false .int .nil))) }
        else
         some { k := .st [(0, 1, false), (1, 1, false)], size := 2, agg := true, zero := some (.agg [.int .i64 0, .int .i64 0]), ek := (.st (.cons 0 1 false .int (.cons 1 1 false .int .nil))) }
       else
        bif Nat.ble t 51 then
         some { k := .sc, size := 1, agg := false, zero := some (.nilf), ek := .no }
        else
         some { k := .sc, size := 1, agg := false, zero := some (.nilf), ek := .no }
      else
       bif Nat.ble t 54 then
        bif Nat.ble t 53 then
         some { k := .st [(0, 1, false), (1, 1, false)], size := 2, agg := true, zero := some (.agg [.int .i64 0, .int .i64 0]), ek := (.st (.cons 0 1 false .int (.cons 1 1 false .int .nil))) }
        else
         some { k := .st [(0, 1, false), (1, 1, false)], size := 2, agg := true, zero := some (.agg [.int .i64 0, .int .i64 0]), ek := (.st (.cons 0 1 false .int (.cons 1 1 false .int .nil))) }
       else
        bif Nat.ble t 55 then
         some { k := .st [(0, 1, false), (1, 1, false), (2, 1, false)], size := 3, agg := true, zero := some (.agg [.str [], .int .i64 0, .bool false]), ek := (.st (.cons 0 1 false .str (.cons 1 1 false .int (.cons 2 1 false .bool .nil)))) }
        else
         some { k := .st [(0, 1, false), (1, 1, false), (2, 1, false)], size := 3, agg := true, zero := some (.agg [.str [], .int .i64 0, .bool false]), ek := (.st (.cons 0 1 false .str (.cons 1 1 false .int (.cons 2 1 false .bool .nil)))) }
  else
   bif Nat.ble t 84 then
    bif Nat.ble t 70 then
     bif Nat.ble t 63 then
      bif Nat.ble t 59 then
       bif Nat.ble t 57 then
        some { k := .sl 54 2 true 16 (some (.agg [.int .i64 0, .int .i64 0])), size := 1, agg := false, zero := some (.list .nil 0 []), ek := .no }
       else
        bif Nat.ble t 58 then
         some { k := .sc, size := 1, agg := false, zero := some (.tup [.list .nil 0 [], .int .i64 0]), ek := .no }
        else
         some { k := .sc, size := 1, agg := false, zero := some (.nilf), ek := .no }
      else
       bif Nat.ble t 61 then
        bif Nat.ble t 60 then
         some { k := .sl 83 3 true 24 (some (.agg [.int .i64 0, .int .i64 0, .int .i64 0])), size := 1, agg := false, zero := some (.list .nil 0 []), ek := .no }
        else
         some { k := .sc, size := 1, agg := false, zero := some (.tup [.list .nil 0 [], .int .i64 0]), ek := .no }
       else
        bif Nat.ble t 62 then
         some { k := .sc, size := 1, agg := false, zero := some (.nilf), ek := .no }
        else
         some { k := .sl 79 2 true 16 (some (.agg [.int .i64 0, .int .i64 0])), size := 1, agg := false, zero := some (.list .nil 0 []), ek := .no }
     else
      bif Nat.ble t 66 then
       bif Nat.ble t 64 then
        some { k := .sc, size := 1, agg := false, zero := some (.tup [.list .nil 0 [], .int .i64 0]), ek := .no }
       else
        bif Nat.ble t 65 then
         some { k := .sc, size := 1, agg := false, zero := some (.nilf), ek := .no }
        else
         some { k := .sc, size := 1, agg := false, zero := some (.nilf), ek := .no }
      else
       bif Nat.ble t 68 then
        bif Nat.ble t 67 then
         some { k := .sc, size := 1, agg := false, zero := some (.nilf), ek := .no }
        else
         some { k := .sc, size := 1, agg := false, zero := some (.nilf), ek := .no }
       else
        bif Nat.ble t 69 then
         some { k := .sc, size := 1, agg := false, zero := some (.nilf), ek := .no }
        else
         some { k := .sc, size := 1, agg := false, zero := some (.nilf), ek := .no }
    else
     bif Nat.ble t 77 then
      bif Nat.ble t 73 then
       bif Nat.ble t 71 then
        some { k := .sc, size := 1, agg := false, zero := some (.nilf), ek := .no }
       else
        bif Nat.ble t 72 then
         some { k := .sc, size := 1, agg := false, zero := some (.nilf), ek := .no }
        else
         some { k := .sc, size := 1, agg := false, zero := some (.nilf), ek := .no }
      else
       bif Nat.ble t 75 then
        bif Nat.ble t 74 then
         some { k := .sc, size := 1, agg := false, zero := some (.nilf), ek := .no }
        else
         some { k := .sc, size := 1, agg := false, zero := some (.tup [.bool false, .int .i64 0]), ek := .no }
       else
        bif Nat.ble t 76 then
         some { k := .sc, size := 1, agg := false, zero := some (.nilf), ek := .no }
        else
         some { k := .sc, size := 1, agg := false, zero := some (.nilf), ek := .no }
     else
      bif Nat.ble t 80 then
       bif Nat.ble t 78 then
        some { k := .sc, size := 1, agg := false, zero := some (.nilf), ek := .no }
       else
        bif Nat.ble t 79 then
         some { k := .arr 2 1 false, size := 2, agg := true, zero := some (.agg [.int .i64 0, .int .i64 0]), ek := (.st (.cons 0 1 false .int (.cons 1 1 false .int .nil))) }
        else
         some { k := .sc, size := 1, agg := false, zero := none, ek := .no }
      else
       bif Nat.ble t 82 then
        bif Nat.ble t 81 then
         some { k := .sc, size := 1, agg := false, zero := some (.nilf), ek := .no }
        else
         some { k := .st [(0, 1, false), (1, 1, false), (2, 1, false)], size := 3, agg := true, zero := some (.agg [.int .i64 0, .int .i64 0, .int .i64 0]), ek := (.st (.cons 0 1 false .int (.cons 1 1 false .int (.cons 2 1 false .int .nil)))) }
       else
        bif Nat.ble t 83 then
         some { k := .st [(0, 1, false), (1, 1, false), (2, 1, false)], size := 3, agg := true, zero := some (.agg [.int .i64 0, .int .i64 0, .int .i64 0]), ek := (.st (.cons 0 1 false .int (.cons 1 1 false .int (.cons 2 1 false .int .nil)))) }
        else
         some { k := .sc, size := 1, agg := false, zero := some (.nilf), ek := .no }
   else
    bif Nat.ble t 98 then
     bif Nat.ble t 91 then
      bif Nat.ble t 87 then
       bif Nat.ble t 85 then
        some { k := .sc, size := 1, agg := false, zero := some (.tup [.str [], .int .i64 0]), ek := .no }
       else
        bif Nat.ble t 86 then
         some { k := .sc, size := 1, agg := false, zero := some (.nilf), ek := .no }
        else
         some { k := .sc, size := 1, agg := false, zero := some (.nilf), ek := .no }
      else
       bif Nat.ble t 89 then
        bif Nat.ble t 88 then
         some { k := .sc, size := 1, agg := false, zero := some (.nilf), ek := .no }
        else
         some { k := .sc, size := 1, agg := false, zero := some (.nilf), ek := .no }
       else
        bif Nat.ble t 90 then
         some { k := .arr 2 2 true, size := 4, agg := true, zero := some (.agg [.int .i64 0, .int .i64 0, .int .i64 0, .int .i64 0]), ek := (.st (.cons 0 2 true (.st (.cons 0 1 false .int (.cons 1 1 false .int .nil))) (.cons 2 2 true (.st (.cons 0 1 false .int (.cons 1 1 false .int .nil))) .nil))) }
        else
         some { k := .st [(0, 1, false), (1, 1, false)], size := 2, agg := true, zero := some (.agg [.int .i64 0, .int .i64 0]), ek := (.st (.cons 0 1 false .int (.cons 1 1 false .int .nil))) }
     else
      bif Nat.ble t 94 then
       bif Nat.ble t 92 then
        some { k := .arr 2 2 true, size := 4, agg := true, zero := some (.agg [.int .i64 0, .int .i64 0, .int .i64 0, .int .i64 0]), ek := (.st (.cons 0 2 true (.st (.cons 0 1 false .int (.cons 1 1 false .int .nil))) (.cons 2 2 true (.st (.cons 0 1 false .int (.cons 1 1 false .int .nil))) .nil))) }
       else
        bif Nat.ble t 93 then
         some { k := .sc, size := 1, agg := false, zero := none, ek := .no }
        else
         some { k := .sc, size := 1, agg := false, zero := some (.nilf), ek := .no }
      else
       bif Nat.ble t 96 then
        bif Nat.ble t 95 then
         some { k := .sc, size := 1, agg := false, zero := some (.nilf), ek := .no }
        else
         some { k := .sc, size := 1, agg := false, zero := some (.nilf), ek := .no }
       else
        bif Nat.ble t 97 then
         some { k := .sc, size := 1, agg := false, zero := some (.nilf), ek := .no }
        else
         some { k := .sc, size := 1, agg := false, zero := some (.nilf), ek := .no }
    else
     bif Nat.ble t 105 then
      bif Nat.ble t 101 then
       bif Nat.ble t 99 then
        some { k := .sc, size := 1, agg := false, zero := some (.nilf), ek := .no }
       else
        bif Nat.ble t 100 then
         some { k := .sc, size := 1, agg := false, zero := some (.nilf), ek := .no }
        else
         some { k := .sc, size := 1, agg := false, zero := some (.nilf), ek := .no }
      else
       bif Nat.ble t 103 then
        bif Nat.ble t 102 then
         some { k := .sc, size := 1, agg := false, zero := some (.nilf), ek := .no }
        else
         some { k := .sc, size := 1, agg := false, zero := some (.nilf), ek := .no }
       else
        bif Nat.ble t 104 then
         some { k := .sc, size := 1, agg := false, zero := some (.nilf), ek := .no }
        else
         some { k := .sc, size := 1, agg := false, zero := some (.tup [.int .i64 0, .int .i64 0]), ek := .no }
     else
      bif Nat.ble t 109 then
       bif Nat.ble t 107 then
        bif Nat.ble t 106 then
         some { k := .sc, size := 1, agg := false, zero := some (.nilf), ek := .no }
        else
         some { k := .sc, size := 1, agg := false, zero := some (.nilf), ek := .no }
       else
        bif Nat.ble t 108 then
         some { k := .sl 3 1 false 8 (some (.int .i64 0)), size := 1, agg := false, zero := some (.list .nil 0 []), ek := .no }
        else
         some { k := .sc, size := 1, agg := false, zero := none, ek := .no }
      else
       bif Nat.ble t 111 then
        bif Nat.ble t 110 then
         some { k := .sc, size := 1, agg := false, zero := some (.nilf), ek := .no }
        else
         some { k := .sc, size := 1, agg := false, zero := some (.nilf), ek := .no }
       else
        bif Nat.ble t 112 then
         some { k := .sc, size := 1, agg := false, zero := some (.nilf), ek := .no }
        else
         some { k := .sc, size := 1, agg := false, zero := some (.nilp), ek := .no }
 else
  bif Nat.ble t 170 then
   bif Nat.ble t 141 then
    bif Nat.ble t 127 then
     bif Nat.ble t 120 then
      bif Nat.ble t 116 then
       bif Nat.ble t 114 then
        some { k := .sl 5 1 false 1 (some (.int .u8 0)), size := 1, agg := false, zero := some (.list .nil 0 []), ek := .no }
       else
        bif Nat.ble t 115 then
         some { k := .st [(0, 1, false), (1, 1, false)], size := 2, agg := true, zero := some (.agg [.nilp, .list .nil 0 []]), ek := (.st (.cons 0 1 false .no (.cons 1 1 false .no .nil))) }
        else
         some { k := .st [(0, 1, false), (1, 1, false)], size := 2, agg := true, zero := some (.agg [.nilp, .list .nil 0 []]), ek := (.st (.cons 0 1 false .no (.cons 1 1 false .no .nil))) }
      else
       bif Nat.ble t 118 then
        bif Nat.ble t 117 then
         some { k := .sc, size := 1, agg := false, zero := some (.nilf), ek := .no }
        else
         some { k := .sc, size := 1, agg := false, zero := some (.nilf), ek := .no }
       else
        bif Nat.ble t 119 then
         some { k := .sc, size := 1, agg := false, zero := some (.nili), ek := .no }
        else
         some { k := .sc, size := 1, agg := false, zero := some (.nili), ek := .no }
     else
      bif Nat.ble t 123 then
       bif Nat.ble t 121 then
        some { k := .sc, size := 1, agg := false, zero := some (.tup [.int .i64 0, .nili]), ek := .no }
       else
        bif Nat.ble t 122 then
         some { k := .sc, size := 1, agg := false, zero := some (.nilf), ek := .no }
        else
         some { k := .sc, size := 1, agg := false, zero := some (.nilf), ek := .no }
      else
       bif Nat.ble t 125 then
        bif Nat.ble t 124 then
         some { k := .sc, size := 1, agg := false, zero := some (.nilf), ek := .no }
        else
         some { k := .sc, size := 1, agg := false, zero := some (.nilf), ek := .no }
       else
        bif Nat.ble t 126 then
         some { k := .sc, size := 1, agg := false, zero := some (.tup [.int .i64 0, .int .i32 0, .int .i64 0]), ek := .no }
        else
         some { k := .sc, size := 1, agg := false, zero := some (.nilf), ek := .no }
    else
     bif Nat.ble t 134 then
      bif Nat.ble t 130 then
       bif Nat.ble t 128 then
        some { k := .sl 21 1 false 4 (some (.int .i32 0)), size := 1, agg := false, zero := some (.list .nil 0 []), ek := .no }
       else
        bif Nat.ble t 129 then
         some { k := .sc, size := 1, agg := false, zero := some (.nilf), ek := .no }
        else
         some { k := .sc, size := 1, agg := false, zero := some (.nilf), ek := .no }
      else
       bif Nat.ble t 132 then
        bif Nat.ble t 131 then
         some { k := .sc, size := 1, agg := false, zero := some (.nilf), ek := .no }
        else
         some { k := .sc, size := 1, agg := false, zero := some (.nilf), ek := .no }
       else
        bif Nat.ble t 133 then
         some { k := .sc, size := 1, agg := false, zero := some (.nilf), ek := .no }
        else
         some { k := .sc, size := 1, agg := false, zero := some (.nilf), ek := .no }
     else
      bif Nat.ble t 137 then
       bif Nat.ble t 135 then
        some { k := .sc, size := 1, agg := false, zero := some (.nilf), ek := .no }
       else
        bif Nat.ble t 136 then
         some { k := .sc, size := 1, agg := false, zero := some (.nilf), ek := .no }
        else
         some { k := .sc, size := 1, agg := false, zero := some (.nilf), ek := .no }
      else
       bif Nat.ble t 139 then
        bif Nat.ble t 138 then
         some { k := .sc, size := 1, agg := false, zero := some (.nilf), ek := .no }
        else
         some { k := .sl 143 5 true 40 (some (.agg [.int .i32 0, .int .i64 0, .int .i64 0, .int .i64 0, .int .i64 0])), size := 1, agg := false, zero := some (.list .nil 0 []), ek := .no }
       else
        bif Nat.ble t 140 then
         some { k := .sc, size := 1, agg := false, zero := some (.tup [.list .nil 0 [], .int .i64 0]), ek := .no }
        else
         some { k := .sc, size := 1, agg := false, zero := some (.nilf), ek := .no }
   else
    bif Nat.ble t 155 then
     bif Nat.ble t 148 then
      bif Nat.ble t 144 then
       bif Nat.ble t 142 then
        some { k := .st [(0, 1, false), (1, 2, true), (3, 2, true)], size := 5, agg := true, zero := some (.agg [.int .i32 0, .int .i64 0, .int .i64 0, .int .i64 0, .int .i64 0]), ek := (.st (.cons 0 1 false .int (.cons 1 2 true (.st (.cons 0 1 false .int (.cons 1 1 false .int .nil))) (.cons 3 2 true (.st (.cons 0 1 false .int (.cons 1 1 false .int .nil))) .nil)))) }
       else
        bif Nat.ble t 143 then
         some { k := .st [(0, 1, false), (1, 2, true), (3, 2, true)], size := 5, agg := true, zero := some (.agg [.int .i32 0, .int .i64 0, .int .i64 0, .int .i64 0, .int .i64 0]), ek := (.st (.cons 0 1 false .int (.cons 1 2 true (.st (.cons 0 1 false .int (.cons 1 1 false .int .nil))) (.cons 3 2 true (.st (.cons 0 1 false .int (.cons 1 1 false .int .nil))) .nil)))) }
        else
         some { k := .sc, size := 1, agg := false, zero := some (.nilf), ek := .no }
      else
       bif Nat.ble t 146 then
        bif Nat.ble t 145 then
         some { k := .sc, size := 1, agg := false, zero := some (.nilf), ek := .no }
        else
         some { k := .sl 9 1 false 16 (some (.str [])), size := 1, agg := false, zero := some (.list .nil 0 []), ek := .no }
       else
        bif Nat.ble t 147 then
         some { k := .sc, size := 1, agg := false, zero := some (.nilf), ek := .no }
        else
         some { k := .sc, size := 1, agg := false, zero := some (.nilf), ek := .no }
     else
      bif Nat.ble t 151 then
       bif Nat.ble t 149 then
        some { k := .sc, size := 1, agg := false, zero := some (.nilf), ek := .no }
       else
        bif Nat.ble t 150 then
         some { k := .sc, size := 1, agg := false, zero := some (.nilf), ek := .no }
        else
         some { k := .sc, size := 1, agg := false, zero := some (.nilf), ek := .no }
      else
       bif Nat.ble t 153 then
        bif Nat.ble t 152 then
         some { k := .sc, size := 1, agg := false, zero := some (.tup [.int .i64 0, .int .i64 0]), ek := .no }
        else
         some { k := .sc, size := 1, agg := false, zero := some (.nilf), ek := .no }
       else
        bif Nat.ble t 154 then
         some { k := .sc, size := 1, agg := false, zero := some (.nilf), ek := .no }
        else
         some { k := .sc, size := 1, agg := false, zero := some (.nilf), ek := .no }
    else
     bif Nat.ble t 162 then
      bif Nat.ble t 158 then
       bif Nat.ble t 156 then
        some { k := .sc, size := 1, agg := false, zero := some (.nilf), ek := .no }
       else
        bif Nat.ble t 157 then
         some { k := .sc, size := 1, agg := false, zero := some (.nilf), ek := .no }
        else
         some { k := .sc, size := 1, agg := false, zero := some (.nilf), ek := .no }
      else
       bif Nat.ble t 160 then
        bif Nat.ble t 159 then
         some { k := .sc, size := 1, agg := false, zero := some (.nilf), ek := .no }
        else
         some { k := .sc, size := 1, agg := false, zero := some (.nilf), ek := .no }
       else
        bif Nat.ble t 161 then
         some { k := .sc, size := 1, agg := false, zero := some (.nilf), ek := .no }
        else
         some { k := .sc, size := 1, agg := false, zero := some (.nilf), ek := .no }
     else
      bif Nat.ble t 166 then
       bif Nat.ble t 164 then
        bif Nat.ble t 163 then
         some { k := .arr 256 1 false, size := 256, agg := true, zero := some (.agg [.bool false, .bool false, .bool false, .bool false, .bool false, .bool false, .bool false, .bool false, .bool false, .bool false, .bool false, .bool false, .bool false, .bool false, .bool false, .bool false, .bool false, .bool false, .bool false, .bool false, .bool false, .bool false, .bool false, .bool false, .bool false, .bool false, .bool false, .bool false, .bool false, .bool false, .bool false, .bool false, .bool false, .bool false, .bool false, .bool false, .bool false, .bool false, .bool false, .bool false, .bool false, .bool false, .bool false, .bool false, .bool false, .bool false, .bool false, .bool false, .bool false, .bool false, .bool false, .bool false, .bool false, .bool false, .bool false, .bool false, .bool false, .bool false, .bool false, .bool false, .bool false, .bool false, .bool false, .bool false, .bool false, .bool false, .bool false, .bool false, .bool false, .bool false, .bool false, .bool false, .bool false, .bool false, .bool false, .bool false, .bool false, .bool false, .bool false, .bool false, .bool false, .bool false, .bool false, .bool false, .bool false, .bool false, .bool false, .bool false, .bool false, .bool false, .bool false, .bool false, .bool false, .bool false, .bool false, .bool false, .bool false, .bool false, .bool false, .bool false, .bool false, .bool false, .bool false, .bool false, .bool false, .bool false, .bool false, .bool false, .bool false, .bool false, .bool false, .bool false, .bool false, .bool false, .bool false, .bool false, .bool false, .bool false, .bool false, .bool false, .bool false, .bool false, .bool false, .bool false, .bool false, .bool false, .bool false, .bool false, .bool false, .bool false, .bool false, .bool false, .bool false, .bool false, .bool false, .bool false, .bool false, .bool false, .bool false, .bool false, .bool false, .bool false, .bool false, .bool false, .bool false, .bool false, .bool false, .bool false, .bool false, .bool false, .bool false, .bool false, .bool false, .bool false, .bool false, .bool false, .bool false, .bool false, .bool false, .bool false, .bool false, .bool false, .bool false, .bool false, .bool false, .bool false, .bool false, .bool false, .bool false, .bool false, .bool false, .bool false, .bool false, .bool false, .bool false, .bool false, .bool false, .bool false, .bool false, .bool false, .bool false, .bool false, .bool false, .bool false, .bool false, .bool false, .bool false, .bool false, .bool false, .bool false, .bool false, .bool false, .bool false, .bool false, .bool false, .bool false, .bool false, .bool false, .bool false, .bool false, .bool false, .bool false, .bool false, .bool false, .bool false, .bool false, .bool false, .bool false, .bool false, .bool false, .bool false, .bool false, .bool false, .bool false, .bool false, .bool false, .bool false, .bool false, .bool false, .bool false, .bool false, .bool false, .bool false, .bool false, .bool false, .bool false, .bool false, .bool false, .bool false, .bool false, .bool false, .bool false, .bool false, .bool false, .bool false, .bool false, .bool false, .bool false, .bool false, .bool false, .bool false, .bool false, .bool false, .bool false, .bool false, .bool false, .bool false, .bool false, .bool false, .bool false, .bool false, .bool false, .bool false, .bool false, .bool false, .bool false]), ek := (.st (.cons 0 1 false .bool (.cons 1 1 false .bool (.cons 2 1 false .bool (.cons 3 1 false .bool (.cons 4 1 false .bool (.cons 5 1 false .bool (.cons 6 1 false .bool (.cons 7 1 false .bool (.cons 8 1 false .bool (.cons 9 1 false .bool (.cons 10 1 false .bool (.cons 11 1 false .bool (.cons 12 1 false .bool (.cons 13 1 false .bool (.cons 14 1 false .bool (.cons 15 1 false .bool (.cons 16 1 false .bool (.cons 17 1 false .bool (.cons 18 1 false .bool (.cons 19 1 false .bool (.cons 20 1 false .bool (.cons 21 1 false .bool (.cons 22 1 false .bool (.cons 23 1 false .bool (.cons 24 1 false .bool (.cons 25 1 false .bool (.cons 26 1 false .bool (.cons 27 1 false .bool (.cons 28 1 false .bool (.cons 29 1 false .bool (.cons 30 1 false .bool (.cons 31 1 false .bool (.cons 32 1 false .bool (.cons 33 1 false .bool (.cons 34 1 false .bool (.cons 35 1 false .bool (.cons 36 1 false .bool (.cons 37 1 false .bool (.cons 38 1 false .bool (.cons 39 1 false .bool (.cons 40 1 false .bool (.cons 41 1 false .bool (.cons 42 1 false .bool (.cons 43 1 false .bool (.cons 44 1 false .bool (.cons 45 1 false .bool (.cons 46 1 false .bool (.cons 47 1 false .bool (.cons 48 1 false .bool (.cons 49 1 false .bool (.cons 50 1 false .bool (.cons 51 1 false .bool (.cons 52 1 false .bool (.cons 53 1 false .bool (.cons 54 1 false .bool (.cons 55 1 false .bool (.cons 56 1 false .bool (.cons 57 1 false .bool (.cons 58 1 false .bool (.cons 59 1 false .bool (.cons 60 1 false .bool (.cons 61 1 false .bool (.cons 62 1 false .bool (.cons 63 1 false .bool (.cons 64 1 false .bool (.cons 65 1 false .bool (.cons 66 1 false .bool (.cons 67 1 false .bool (.cons 68 1 false .bool (.cons 69 1 false .bool (.cons 70 1 false .bool (.cons 71 1 false .bool (.cons 72 1 false .bool (.cons 73 1 false .bool (.cons 74 1 false .bool (.cons 75 1 false .bool (.cons 76 1 false .bool (.cons 77 1 false .bool (.cons 78 1 false .bool (.cons 79 1 false .bool (.cons 80 1 false .bool (.cons 81 1 false .bool (.cons 82 1 false .bool (.cons 83 1 false .bool (.cons 84 1 false .bool (.cons 85 1 false .bool (.cons 86 1 false .bool (.cons 87 1 false .bool (.cons 88 1 false .bool (.cons 89 1 false .bool (.cons 90 1 false .bool (.cons 91 1 false .bool (.cons 92 1 false .bool (.cons 93 1 false .bool (.cons 94 1 false .bool (.cons 95 1 false .bool (.cons 96 1 false .bool (.cons 97 1 false .bool (.cons 98 1 false .bool (.cons 99 1 false .bool (.cons 100 1 false .bool (.cons 101 1 false .bool (.cons 102 1 false .bool (.cons 103 1 false .bool (.cons 104 1 false .bool (.cons 105 1 false .bool (.cons 106 1 false .bool (.cons 107 1 false .bool (.cons 108 1 false .bool (.cons 109 1 false .bool (.cons 110 1 false .bool (.cons 111 1 false .bool (.cons 112 1 false .bool (.cons 113 1 false .bool (.cons 114 1 false .bool (.cons 115 1 false .bool (.cons 116 1 false .bool (.cons 117 1 false .bool (.cons 118 1 false .bool (.cons 119 1 false .bool (.cons 120 1 false .bool (.cons 121 1 false .bool (.cons 122 1 false .bool (.cons 123 1 false .bool (.cons 124 1 false .bool (.cons 125 1 false .bool (.cons 126 1 false .bool (.cons 127 1 false .bool (.cons 128 1 false .bool (.cons 129 1 false .bool (.cons 130 1 false .bool (.cons 131 1 false .bool (.cons 132 1 false .bool (.cons 133 1 false .bool (.cons 134 1 false .bool (.cons 135 1 false .bool (.cons 136 1 false .bool (.cons 137 1 false .bool (.cons 138 1 false .bool (.cons 139 1 false .bool (.cons 140 1 false .bool (.cons 141 1 false .bool (.cons 142 1 false .bool (.cons 143 1 false .bool (.cons 144 1 false .bool (.cons 145 1 false .bool (.cons 146 1 false .bool (.cons 147 1 false .bool (.cons 148 1 false .bool (.cons 149 1 false .bool (.cons 150 1 false .bool (.cons 151 1 false .bool (.cons 152 1 false .bool (.cons 153 1 false .bool (.cons 154 1 false .bool (.cons 155 1 false .bool (.cons 156 1 false .bool (.cons 157 1 false .bool (.cons 158 1 false .bool (.cons 159 1 false .bool (.cons 160 1 false .bool (.cons 161 1 false .bool (.cons 162 1 false .bool (.cons 163 1 false .bool (.cons 164 1 false .bool (.cons 165 1 false .bool (.cons 166 1 false .bool (.cons 167 1 false .bool (.cons 168 1 false .bool (.cons 169 1 false .bool (.cons 170 1 false .bool (.cons 171 1 false .bool (.cons 172 1 false .bool (.cons 173 1 false .bool (.cons 174 1 false .bool (.cons 175 1 false .bool (.cons 176 1 false .bool (.cons 177 1 false .bool (.cons 178 1 false .bool (.cons 179 1 false .bool (.cons 180 1 false .bool (.cons 181 1 false .bool (.cons 182 1 false .bool (.cons 183 1 false .bool (.cons 184 1 false .bool (.cons 185 1 false .bool (.cons 186 1 false .bool (.cons 187 1 false .bool (.cons 188 1 false .bool (.cons 189 1 false .bool (.cons 190 1 false .bool (.cons 191 1 false .bool (.cons 192 1 false .bool (.cons 193 1 false .bool (.cons 194 1 false .bool (.cons 195 1 false .bool (.cons 196 1 false .bool (.cons 197 1 false .bool (.cons 198 1 false .bool (.cons 199 1 false .bool (.cons 200 1 false .bool (.cons 201 1 false .bool (.cons 202 1 false .bool (.cons 203 1 false .bool (.cons 204 1 false .bool (.cons 205 1 false .bool (.cons 206 1 false .bool (.cons 207 1 false .bool (.cons 208 1 false .bool (.cons 209 1 false .bool (.cons 210 1 false .bool (.cons 211 1 false .bool (.cons 212 1 false .bool (.cons 213 1 false .bool (.cons 214 1 false .bool (.cons 215 1 false .bool (.cons 216 1 false .bool (.cons 217 1 false .bool (.cons 218 1 false .bool (.cons 219 1 false .bool (.cons 220 1 false .bool (.cons 221 1 false .bool (.cons 222 1 false .bool (.cons 223 1 false .bool (.cons 224 1 false .bool (.cons 225 1 false .bool (.cons 226 1 false .bool (.cons 227 1 false .bool (.cons 228 1 false .bool (.cons 229 1 false .bool (.cons 230 1 false .bool (.cons 231 1 false .bool (.cons 232 1 false .bool (.cons 233 1 false .bool (.cons 234 1 false .bool (.cons 235 1 false .bool (.cons 236 1 false .bool (.cons 237 1 false .bool (.cons 238 1 false .bool (.cons 239 1 false .bool (.cons 240 1 false .bool (.cons 241 1 false .bool (.cons 242 1 false .bool (.cons 243 1 false .bool (.cons 244 1 false .bool (.cons 245 1 false .bool (.cons 246 1 false .bool (.cons 247 1 false .bool (.cons 248 1 false .bool (.cons 249 1 false .bool (.cons 250 1 false .bool (.cons 251 1 false .bool (.cons 252 1 false .bool (.cons 253 1 false .bool (.cons 254 1 false .bool (.cons 255 1 false .bool .nil))))))))))))))))))))))))))))))))))))))))))))))))))))))))))))))))))))))))))))))))))))))))))))))))))))))))))))))))))))))))))))))))))))))))))))))))))))))))))))))))))))))))))))))))))))))))))))))))))))))))))))))))))))))))))))))))))))))))))))))))))))))))))))))))) }
        else
         some { k := .arr 256 1 false, size := 256, agg := true, zero := some (.agg [.bool false, .bool false, .bool false, .bool false, .bool false, .bool false, .bool false, .bool false, .bool false, .bool false, .bool false, .bool false, .bool false, .bool false, .bool false, .bool false, .bool false, .bool false, .bool false, .bool false, .bool false, .bool false, .bool false, .bool false, .bool false, .bool false, .bool false, .bool false, .bool false, .bool false, .bool false, .bool false, .bool false, .bool false, .bool false, .bool false, .bool false, .bool false, .bool false, .bool false, .bool false, .bool false, .bool false, .bool false, .bool false, .bool false, .bool false, .bool false, .bool false, .bool false, .bool false, .bool false, .bool false, .bool false, .bool false, .bool false, .bool false, .bool false, .bool false, .bool false, .bool false, .bool false, .bool false, .bool false, .bool false, .bool false, .bool false, .bool false, .bool false, .bool false, .bool false, .bool false, .bool false, .bool false, .bool false, .bool false, .bool false, .bool false, .bool false, .bool false, .bool false, .bool false, .bool false, .bool false, .bool false, .bool false, .bool false, .bool false, .bool false, .bool false, .bool false, .bool false, .bool false, .bool false, .bool false, .bool false, .bool false, .bool false, .bool false, .bool false, .bool false, .bool false, .bool false, .bool false, .bool false, .bool false, .bool false, .bool false, .bool false, .bool false, .bool false, .bool false, .bool false, .bool false, .bool false, .bool false, .bool false, .bool false, .bool false, .bool false, .bool false, .bool false, .bool false, .bool false, .bool false, .bool false, .bool false, .bool false, .bool false, .bool false, .bool false, .bool false, .bool false, .bool false, .bool false, .bool false, .bool false, .bool false, .bool false, .bool false, .bool false, .bool false, .bool false, .bool false, .bool false, .bool false, .bool false, .bool false, .bool false, .bool false, .bool false, .bool false, .bool false, .bool false, .bool false, .bool false, .bool false, .bool false, .bool false, .bool false, .bool false, .bool false, .bool false, .bool false, .bool false, .bool false, .bool false, .bool false, .bool false, .bool false, .bool false, .bool false, .bool false, .bool false, .bool false, .bool false, .bool false, .bool false, .bool false, .bool false, .bool false, .bool false, .bool false, .bool false, .bool false, .bool false, .bool false, .bool false, .bool false, .bool false, .bool false, .bool false, .bool false, .bool false, .bool false, .bool false, .bool false, .bool false, .bool false, .bool false, .bool false, .bool false, .bool false, .bool false, .bool false, .bool false, .bool false, .bool false, .bool false, .bool false, .bool false, .bool false, .bool false, .bool false, .bool false, .bool false, .bool false, .bool false, .bool false, .bool false, .bool false, .bool false, .bool false, .bool false, .bool false, .bool false, .bool false, .bool false, .bool false, .bool false, .bool false, .bool false, .bool false, .bool false, .bool false, .bool false, .bool false, .bool false, .bool false, .bool false, .bool false, .bool false, .bool false, .bool false, .bool false, .bool false, .bool false, .bool false, .bool false, .bool false, .bool false, .bool false, .bool false, .bool false, .bool false, .bool false]), ek := (.st (.cons 0 1 false .bool (.cons 1 1 false .bool (.cons 2 1 false .bool (.cons 3 1 false .bool (.cons 4 1 false .bool (.cons 5 1 false .bool (.cons 6 1 false .bool (.cons 7 1 false .bool (.cons 8 1 false .bool (.cons 9 1 false .bool (.cons 10 1 false .bool (.cons 11 1 false .bool (.cons 12 1 false .bool (.cons 13 1 false .bool (.cons 14 1 false .bool (.cons 15 1 false .bool (.cons 16 1 false .bool (.cons 17 1 false .bool (.cons 18 1 false .bool (.cons 19 1 false .bool (.cons 20 1 false .bool (.cons 21 1 false .bool (.cons 22 1 false .bool (.cons 23 1 false .bool (.cons 24 1 false .bool (.cons 25 1 false .bool (.cons 26 1 false .bool (.cons 27 1 false .bool (.cons 28 1 false .bool (.cons 29 1 false .bool (.cons 30 1 false .bool (.cons 31 1 false .bool (.cons 32 1 false .bool (.cons 33 1 false .bool (.cons 34 1 false .bool (.cons 35 1 false .bool (.cons 36 1 false .bool (.cons 37 1 false .bool (.cons 38 1 false .bool (.cons 39 1 false .bool (.cons 40 1 false .bool (.cons 41 1 false .bool (.cons 42 1 false .bool (.cons 43 1 false .bool (.cons 44 1 false .bool (.cons 45 1 false .bool (.cons 46 1 false .bool (.cons 47 1 false .bool (.cons 48 1 false .bool (.cons 49 1 false .bool (.cons 50 1 false .bool (.cons 51 1 false .bool (.cons 52 1 false .bool (.cons 53 1 false .bool (.cons 54 1 false .bool (.cons 55 1 false .bool (.cons 56 1 false .bool (.cons 57 1 false .bool (.cons 58 1 false .bool (.cons 59 1 false .bool (.cons 60 1 false .bool (.cons 61 1 false .bool (.cons 62 1 false .bool (.cons 63 1 false .bool (.cons 64 1 false .bool (.cons 65 1 false .bool (.cons 66 1 false .bool (.cons 67 1 false .bool (.cons 68 1 false .bool (.cons 69 1 false .bool (.cons 70 1 false .bool (.cons 71 1 false .bool (.cons 72 1 false .bool (.cons 73 1 false .bool (.cons 74 1 false .bool (.cons 75 1 false .bool (.cons 76 1 false .bool (.cons 77 1 false .bool (.cons 78 1 false .bool (.cons 79 1 false .bool (.cons 80 1 false .bool (.cons 81 1 false .bool (.cons 82 1 false .bool (.cons 83 1 false .bool (.cons 84 1 false .bool (.cons 85 1 false .bool (.cons 86 1 false .bool (.cons 87 1 false .bool (.cons 88 1 false .bool (.cons 89 1 false .bool (.cons 90 1 false .bool (.cons 91 1 false .bool (.cons 92 1 false .bool (.cons 93 1 false .bool (.cons 94 1 false .bool (.cons 95 1 false .bool (.cons 96 1 false .bool (.cons 97 1 false .bool (.cons 98 1 false .bool (.cons 99 1 false .bool (.cons 100 1 false .bool (.cons 101 1 false .bool (.cons 102 1 false .bool (.cons 103 1 false .bool (.cons 104 1 false .bool (.cons 105 1 false .bool (.cons 106 1 false .bool (.cons 107 1 false .bool (.cons 108 1 false .bool (.cons 109 1 false .bool (.cons 110 1 false .bool (.cons 111 1 false .bool (.cons 112 1 false .bool (.cons 113 1 false .bool (.cons 114 1 false .bool (.cons 115 1 false .bool (.cons 116 1 false .bool (.cons 117 1 false .bool (.cons 118 1 false .bool (.cons 119 1 false .bool (.cons 120 1 false .bool (.cons 121 1 false .bool (.cons 122 1 false .bool (.cons 123 1 false .bool (.cons 124 1 false .bool (.cons 125 1 false .bool (.cons 126 1 false .bool (.cons 127 1 false .bool (.cons 128 1 false .bool (.cons 129 1 false .bool (.cons 130 1 false .bool (.cons 131 1 false .bool (.cons 132 1 false .bool (.cons 133 1 false .bool (.cons 134 1 false .bool (.cons 135 1 false .bool (.cons 136 1 false .bool (.cons 137 1 false .bool (.cons 138 1 false .bool (.cons 139 1 false .bool (.cons 140 1 false .bool (.cons 141 1 false .bool (.cons 142 1 false .bool (.cons 143 1 false .bool (.cons 144 1 false .bool (.cons 145 1 false .bool (.cons 146 1 false .bool (.cons 147 1 false .bool (.cons 148 1 false .bool (.cons 149 1 false .bool (.cons 150 1 false .bool (.cons 151 1 false .bool (.cons 152 1 false .bool (.cons 153 1 false .bool (.cons 154 1 false .bool (.cons 155 1 false .bool (.cons 156 1 false .bool (.cons 157 1 false .bool (.cons 158 1 false .bool (.cons 159 1 false .bool (.cons 160 1 false .bool (.cons 161 1 false .bool (.cons 162 1 false .bool (.cons 163 1 false .bool (.cons 164 1 false .bool (.cons 165 1 false .bool (.cons 166 1 false .bool (.cons 167 1 false .bool (.cons 168 1 false .bool (.cons 169 1 false .bool (.cons 170 1 false .bool (.cons 171 1 false .bool (.cons 172 1 false .bool (.cons 173 1 false .bool (.cons 174 1 false .bool (.cons 175 1 false .bool (.cons 176 1 false .bool (.cons 177 1 false .bool (.cons 178 1 false .bool (.cons 179 1 false .bool (.cons 180 1 false .bool (.cons 181 1 false .bool (.cons 182 1 false .bool (.cons 183 1 false .bool (.cons 184 1 false .bool (.cons 185 1 false .bool (.cons 186 1 false .bool (.cons 187 1 false .bool (.cons 188 1 false .bool (.cons 189 1 false .bool (.cons 190 1 false .bool (.cons 191 1 false .bool (.cons 192 1 false .bool (.cons 193 1 false .bool (.cons 194 1 false .bool (.cons 195 1 false .bool (.cons 196 1 false .bool (.cons 197 1 false .bool (.cons 198 1 false .bool (.cons 199 1 false .bool (.cons 200 1 false .bool (.cons 201 1 false .bool (.cons 202 1 false .bool (.cons 203 1 false .bool (.cons 204 1 false .bool (.cons 205 1 false .bool (.cons 206 1 false .bool (.cons 207 1 false .bool (.cons 208 1 false .bool (.cons 209 1 false .bool (.cons 210 1 false .bool (.cons 211 1 false .bool (.cons 212 1 false .bool (.cons 213 1 false .bool (.cons 214 1 false .bool (.cons 215 1 false .bool (.cons 216 1 false .bool (.cons 217 1 false .bool (.cons 218 1 false .bool (.cons 219 1 false .bool (.cons 220 1 false .bool (.cons 221 1 false .bool (.cons 222 1 false .bool (.cons 223 1 false .bool (.cons 224 1 false .bool (.cons 225 1 false .bool (.cons 226 1 false .bool (.cons 227 1 false .bool (.cons 228 1 false .bool (.cons 229 1 false .bool (.cons 230 1 false .bool (.cons 231 1 false .bool (.cons 232 1 false .bool (.cons 233 1 false .bool (.cons 234 1 false .bool (.cons 235 1 false .bool (.cons 236 1 false .bool (.cons 237 1 false .bool (.cons 238 1 false .bool (.cons 239 1 false .bool (.cons 240 1 false .bool (.cons 241 1 false .bool (.cons 242 1 false .bool (.cons 243 1 false .bool (.cons 244 1 false .bool (.cons 245 1 false .bool (.cons 246 1 false .bool (.cons 247 1 false .bool (.cons 248 1 false .bool (.cons 249 1 false .bool (.cons 250 1 false .bool (.cons 251 1 false .bool (.cons 252 1 false .bool (.cons 253 1 false .bool (.cons 254 1 false .bool (.cons 255 1 false .bool .nil))))))))))))))))))))))))))))))))))))))))))))))))))))))))))))))))))))))))))))))))))))))))))))))))))))))))))))))))))))))))))))))))))))))))))))))))))))))))))))))))))))))))))))))))))))))))))))))))))))))))))))))))))))))))))))))))))))))))))))))))))))))))))))))))) }
       else
        bif Nat.ble t 165 then
         some { k := .sc, size := 1, agg := false, zero := none, ek := .no }
        else
         some { k := .sc, size := 1, agg := false, zero := some (.nilf), ek := .no }
      else
       bif Nat.ble t 168 then
        bif Nat.ble t 167 then
         some { k := .sc, size := 1, agg := false, zero := some (.nilf), ek := .no }
        else
         some { k := .sc, size := 1, agg := false, zero := some (.nilp), ek := .no }
       else
        bif Nat.ble t 169 then
         some { k := .sc, size := 1, agg := false, zero := some (.nilp), ek := .no }
        else
         some { k := .sl 23 1 false 8 (some (.int .i64 0)), size := 1, agg := false, zero := some (.list .nil 0 []), ek := .no }
  else
   bif Nat.ble t 198 then
    bif Nat.ble t 184 then
     bif Nat.ble t 177 then
      bif Nat.ble t 173 then
       bif Nat.ble t 171 then
        some { k := .sc, size := 1, agg := false, zero := some (.nilf), ek := .no }
       else
        bif Nat.ble t 172 then
         some { k := .sc, size := 1, agg := false, zero := some (.nilf), ek := .no }
        else
         some { k := .sc, size := 1, agg := false, zero := some (.nilf), ek := .no }
      else
       bif Nat.ble t 175 then
        bif Nat.ble t 174 then
         some { k := .map 21 79 (some (.agg [.int .i64 0, .int .i64 0])), size := 1, agg := false, zero := some (.nilm), ek := .no }
        else
         some { k := .sc, size := 1, agg := false, zero := some (.nilf), ek := .no }
       else
        bif Nat.ble t 176 then
         some { k := .sc, size := 1, agg := false, zero := some (.nilf), ek := .no }
        else
         some { k := .sc, size := 1, agg := false, zero := some (.nilf), ek := .no }
     else
      bif Nat.ble t 180 then
       bif Nat.ble t 178 then
        some { k := .int .u64, size := 1, agg := false, zero := some (.int .u64 0), ek := .int }
       else
        bif Nat.ble t 179 then
         some { k := .sc, size := 1, agg := false, zero := some (.tup [.int .u64 0, .int .u64 0]), ek := .no }
        else
         some { k := .sc, size := 1, agg := false, zero := some (.nilf), ek := .no }
      else
       bif Nat.ble t 182 then
        bif Nat.ble t 181 then
         some { k := .sc, size := 1, agg := false, zero := some (.nilf), ek := .no }
        else
         some { k := .sc, size := 1, agg := false, zero := some (.nilf), ek := .no }
       else
        bif Nat.ble t 183 then
         some { k := .sc, size := 1, agg := false, zero := some (.nilf), ek := .no }
        else
         some { k := .sc, size := 1, agg := false, zero := some (.nilp), ek := .no }
    else
     bif Nat.ble t 191 then
      bif Nat.ble t 187 then
       bif Nat.ble t 185 then
        some { k := .sc, size := 1, agg := false, zero := some (.nilf), ek := .no }
       else
        bif Nat.ble t 186 then
         some { k := .sc, size := 1, agg := false, zero := some (.tup [.int .i32 0, .int .i64 0]), ek := .no }
        else
         some { k := .sc, size := 1, agg := false, zero := some (.nilf), ek := .no }
      else
       bif Nat.ble t 189 then
        bif Nat.ble t 188 then
         some { k := .sc, size := 1, agg := false, zero := some (.nilf), ek := .no }
        else
         some { k := .sc, size := 1, agg := false, zero := some (.nilf), ek := .no }
       else
        bif Nat.ble t 190 then
         some { k := .sc, size := 1, agg := false, zero := some (.nilf), ek := .no }
        else
         some { k := .int .u32, size := 1, agg := false, zero := some (.int .u32 0), ek := .int }
     else
      bif Nat.ble t 194 then
       bif Nat.ble t 192 then
        some { k := .sc, size := 1, agg := false, zero := some (.tup [.int .u32 0, .int .u32 0]), ek := .no }
       else
        bif Nat.ble t 193 then
         some { k := .sc, size := 1, agg := false, zero := some (.nilf), ek := .no }
        else
         some { k := .int .u64, size := 1, agg := false, zero := some (.int .u64 0), ek := .int }
      else
       bif Nat.ble t 196 then
        bif Nat.ble t 195 then
         some { k := .sc, size := 1, agg := false, zero := some (.tup [.int .u64 0, .int .u64 0]), ek := .no }
        else
         some { k := .sc, size := 1, agg := false, zero := some (.nilf), ek := .no }
       else
        bif Nat.ble t 197 then
         some { k := .sc, size := 1, agg := false, zero := some (.nilf), ek := .no }
        else
         some { k := .arr 24 1 false, size := 24, agg := true, zero := some (.agg [.int .u8 0, .int .u8 0, .int .u8 0, .int .u8 0, .int .u8 0, .int .u8 0, .int .u8 0, .int .u8 0, .int .u8 0, .int .u8 0, .int .u8 0, .int .u8 0, .int .u8 0, .int .u8 0, .int .u8 0, .int .u8 0, .int .u8 0, .int .u8 0, .int .u8 0, .int .u8 0, .int .u8 0, .int .u8 0, .int .u8 0, .int .u8 0]), ek := (.st (.cons 0 1 false .int (.cons 1 1 false .int (.cons 2 1 false .int (.cons 3 1 false .int (.cons 4 1 false .int (.cons 5 1 false .int (.cons 6 1 false .int (.cons 7 1 false .int (.cons 8 1 false .int (.cons 9 1 false .int (.cons 10 1 false .int (.cons 11 1 false .int (.cons 12 1 false .int (.cons 13 1 false .int (.cons 14 1 false .int (.cons 15 1 false .int (.cons 16 1 false .int (.cons 17 1 false .int (.cons 18 1 false .int (.cons 19 1 false .int (.cons 20 1 false .int (.cons 21 1 false .int (.cons 22 1 false .int (.cons 23 1 false .int .nil))))))))))))))))))))))))) }
   else
    bif Nat.ble t 212 then
     bif Nat.ble t 205 then
      bif Nat.ble t 201 then
       bif Nat.ble t 199 then
        some { k := .sc, size := 1, agg := false, zero := some (.nilf), ek := .no }
       else
        bif Nat.ble t 200 then
         some { k := .sc, size := 1, agg := false, zero := some (.nilf), ek := .no }
        else
         some { k := .sc, size := 1, agg := false, zero := some (.tup [.list .nil 0 [], .str []]), ek := .no }
      else
       bif Nat.ble t 203 then
        bif Nat.ble t 202 then
         some { k := .sc, size := 1, agg := false, zero := some (.nilf), ek := .no }
        else
         some { k := .sc, size := 1, agg := false, zero := some (.nilf), ek := .no }
       else
        bif Nat.ble t 204 then
         some { k := .arr 256 1 false, size := 256, agg := true, zero := some (.agg [.int .u8 0, .int .u8 0, .int .u8 0, .int .u8 0, .int .u8 0, .int .u8 0, .int .u8 0, .int .u8 0, .int .u8 0, .int .u8 0, .int .u8 0, .int .u8 0, .int .u8 0, .int .u8 0, .int .u8 0, .int .u8 0, .int .u8 0, .int .u8 0, .int .u8 0, .int .u8 0, .int .u8 0, .int .u8 0, .int .u8 0, .int .u8 0, .int .u8 0, .int .u8 0, .int .u8 0, .int .u8 0, .int .u8 0, .int .u8 0, .int .u8 0, .int .u8 0, .int .u8 0, .int .u8 0, .int .u8 0, .int .u8 0, .int .u8 0, .int .u8 0, .int .u8 0, .int .u8 0, .int .u8 0, .int .u8 0, .int .u8 0, .int .u8 0, .int .u8 0, .int .u8 0, .int .u8 0, .int .u8 0, .int .u8 0, .int .u8 0, .int .u8 0, .int .u8 0, .int .u8 0, .int .u8 0, .int .u8 0, .int .u8 0, .int .u8 0, .int .u8 0, .int .u8 0, .int .u8 0, .int .u8 0, .int .u8 0, .int .u8 0, .int .u8 0, .int .u8 0, .int .u8 0, .int .u8 0, .int .u8 0, .int .u8 0, .int .u8 0, .int .u8 0, .int .u8 0, .int .u8 0, .int .u8 0, .int .u8 0, .int .u8 0, .int .u8 0, .int .u8 0, .int .u8 0, .int .u8 0, .int .u8 0, .int .u8 0, .int .u8 0, .int .u8 0, .int .u8 0, .int .u8 0, .int .u8 0, .int .u8 0, .int .u8 0, .int .u8 0, .int .u8 0, .int .u8 0, .int .u8 0, .int .u8 0, .int .u8 0, .int .u8 0, .int .u8 0, .int .u8 0, .int .u8 0, .int .u8 0, .int .u8 0, .int .u8 0, .int .u8 0, .int .u8 0, .int .u8 0, .int .u8 0, .int .u8 0, .int .u8 0, .int .u8 0, .int .u8 0, .int .u8 0, .int .u8 0, .int .u8 0, .int .u8 0, .int .u8 0, .int .u8 0, .int .u8 0, .int .u8 0, .int .u8 0, .int .u8 0, .int .u8 0, .int .u8 0, .int .u8 0, .int .u8 0, .int .u8 0, .int .u8 0, .int .u8 0, .int .u8 0, .int .u8 0, .int .u8 0, .int .u8 0, .int .u8 0, .int .u8 0, .int .u8 0, .int .u8 0, .int .u8 0, .int .u8 0, .int .u8 0, .int .u8 0, .int .u8 0, .int .u8 0, .int .u8 0, .int .u8 0, .int .u8 0, .int .u8 0, .int .u8 0, .int .u8 0, .int .u8 0, .int .u8 0, .int .u8 0, .int .u8 0, .int .u8 0, .int .u8 0, .int .u8 0, .int .u8 0, .int .u8 0, .int .u8 0, .int .u8 0, .int .u8 0, .int .u8 0, .int .u8 0, .int .u8 0, .int .u8 0, .int .u8 0, .int .u8 0, .int .u8 0, .int .u8 0, .int .u8 0, .int .u8 0, .int .u8 0, .int .u8 0, .int .u8 0, .int .u8 0, .int .u8 0, .int .u8 0, .int .u8 0, .int .u8 0, .int .u8 0, .int .u8 0, .int .u8 0, .int .u8 0, .int .u8 0, .int .u8 0, .int .u8 0, .int .u8 0, .int .u8 0, .int .u8 0, .int .u8 0, .int .u8 0, .int .u8 0, .int .u8 0, .int .u8 0, .int .u8 0, .int .u8 0, .int .u8 0, .int .u8 0, .int .u8 0, .int .u8 0, .int .u8 0, .int .u8 0, .int .u8 0, .int .u8 0, .int .u8 0, .int .u8 0, .int .u8 0, .int .u8 0, .int .u8 0, .int .u8 0, .int .u8 0, .int .u8 0, .int .u8 0, .int .u8 0, .int .u8 0, .int .u8 0, .int .u8 0, .int .u8 0, .int .u8 0, .int .u8 0, .int .u8 0, .int .u8 0, .int .u8 0, .int .u8 0, .int .u8 0, .int .u8 0, .int .u8 0, .int .u8 0, .int .u8 0, .int .u8 0, .int .u8 0, .int .u8 0, .int .u8 0, .int .u8 0, .int .u8 0, .int .u8 0, .int .u8 0, .int .u8 0, .int .u8 0, .int .u8 0, .int .u8 0, .int .u8 0, .int .u8 0, .int .u8 0, .int .u8 0, .int .u8 0, .int .u8 0, .int .u8 0, .int .u8 0, .int .u8 0, .int .u8 0, .int .u8 0, .int .u8 0, .int .u8 0, .int .u8 0, .int .u8 0, .int .u8 0, .int .u8 0]), ek := (.st (.cons 0 1 false .int (.cons 1 1 false .int (.cons 2 1 false .int (.cons 3 1 false .int (.cons 4 1 false .int (.cons 5 1 false .int (.cons 6 1 false .int (.cons 7 1 false .int (.cons 8 1 false .int (.cons 9 1 false .int (.cons 10 1 false .int (.cons 11 1 false .int (.cons 12 1 false .int (.cons 13 1 false .int (.cons 14 1 false .int (.cons 15 1 false .int (.cons 16 1 false .int (.cons 17 1 false .int (.cons 18 1 false .int (.cons 19 1 false .int (.cons 20 1 false .int (.cons 21 1 false .int (.cons 22 1 false .int (.cons 23 1 false .int (.cons 24 1 false .int (.cons 25 1 false .int (.cons 26 1 false .int (.cons 27 1 false .int (.cons 28 1 false .int (.cons 29 1 false .int (.cons 30 1 false .int (.cons 31 1 false .int (.cons 32 1 false .int (.cons 33 1 false .int (.cons 34 1 false .int (.cons 35 1 false .int (.cons 36 1 false .int (.cons 37 1 false .int (.cons 38 1 false .int (.cons 39 1 false .int (.cons 40 1 false .int (.cons 41 1 false .int (.cons 42 1 false .int (.cons 43 1 false .int (.cons 44 1 false .int (.cons 45 1 false .int (.cons 46 1 false .int (.cons 47 1 false .int (.cons 48 1 false .int (.cons 49 1 false .int (.cons 50 1 false .int (.cons 51 1 false .int (.cons 52 1 false .int (.cons 53 1 false .int (.cons 54 1 false .int (.cons 55 1 false .int (.cons 56 1 false .int (.cons 57 1 false .int (.cons 58 1 false .int (.cons 59 1 false .int (.cons 60 1 false .int (.cons 61 1 false .int (.cons 62 1 false .int (.cons 63 1 false .int (.cons 64 1 false .int (.cons 65 1 false .int (.cons 66 1 false .int (.cons 67 1 false .int (.cons 68 1 false .int (.cons 69 1 false .int (.cons 70 1 false .int (.cons 71 1 false .int (.cons 72 1 false .int (.cons 73 1 false .int (.cons 74 1 false .int (.cons 75 1 false .int (.cons 76 1 false .int (.cons 77 1 false .int (.cons 78 1 false .int (.cons 79 1 false .int (.cons 80 1 false .int (.cons 81 1 false .int (.cons 82 1 false .int (.cons 83 1 false .int (.cons 84 1 false .int (.cons 85 1 false .int (.cons 86 1 false .int (.cons 87 1 false .int (.cons 88 1 false .int (.cons 89 1 false .int (.cons 90 1 false .int (.cons 91 1 false .int (.cons 92 1 false .int (.cons 93 1 false .int (.cons 94 1 false .int (.cons 95 1 false .int (.cons 96 1 false .int (.cons 97 1 false .int (.cons 98 1 false .int (.cons 99 1 false .int (.cons 100 1 false .int (.cons 101 1 false .int (.cons 102 1 false .int (.cons 103 1 false .int (.cons 104 1 false .int (.cons 105 1 false .int (.cons 106 1 false .int (.cons 107 1 false .int (.cons 108 1 false .int (.cons 109 1 false .int (.cons 110 1 false .int (.cons 111 1 false .int (.cons 112 1 false .int (.cons 113 1 false .int (.cons 114 1 false .int (.cons 115 1 false .int (.cons 116 1 false .int (.cons 117 1 false .int (.cons 118 1 false .int (.cons 119 1 false .int (.cons 120 1 false .int (.cons 121 1 false .int (.cons 122 1 false .int (.cons 123 1 false .int (.cons 124 1 false .int (.cons 125 1 false .int (.cons 126 1 false .int (.cons 127 1 false .int (.cons 128 1 false .int (.cons 129 1 false .int (.cons 130 1 false .int (.cons 131 1 false .int (.cons 132 1 false .int (.cons 133 1 false .int (.cons 134 1 false .int (.cons 135 1 false .int (.cons 136 1 false .int (.cons 137 1 false .int (.cons 138 1 false .int (.cons 139 1 false .int (.cons 140 1 false .int (.cons 141 1 false .int (.cons 142 1 false .int (.cons 143 1 false .int (.cons 144 1 false .int (.cons 145 1 false .int (.cons 146 1 false .int (.cons 147 1 false .int (.cons 148 1 false .int (.cons 149 1 false .int (.cons 150 1 false .int (.cons 151 1 false .int (.cons 152 1 false .int (.cons 153 1 false .int (.cons 154 1 false .int (.cons 155 1 false .int (.cons 156 1 false .int (.cons 157 1 false .int (.cons 158 1 false .int (.cons 159 1 false .int (.cons 160 1 false .int (.cons 161 1 false .int (.cons 162 1 false .int (.cons 163 1 false .int (.cons 164 1 false .int (.cons 165 1 false .int (.cons 166 1 false .int (.cons 167 1 false .int (.cons 168 1 false .int (.cons 169 1 false .int (.cons 170 1 false .int (.cons 171 1 false .int (.cons 172 1 false .int (.cons 173 1 false .int (.cons 174 1 false .int (.cons 175 1 false .int (.cons 176 1 false .int (.cons 177 1 false .int (.cons 178 1 false .int (.cons 179 1 false .int (.cons 180 1 false .int (.cons 181 1 false .int (.cons 182 1 false .int (.cons 183 1 false .int (.cons 184 1 false .int (.cons 185 1 false .int (.cons 186 1 false .int (.cons 187 1 false .int (.cons 188 1 false .int (.cons 189 1 false .int (.cons 190 1 false .int (.cons 191 1 false .int (.cons 192 1 false .int (.cons 193 1 false .int (.cons 194 1 false .int (.cons 195 1 false .int (.cons 196 1 false .int (.cons 197 1 false .int (.cons 198 1 false .int (.cons 199 1 false .int (.cons 200 1 false .int (.cons 201 1 false .int (.cons 202 1 false .int (.cons 203 1 false .int (.cons 204 1 false .int (.cons 205 1 false .int (.cons 206 1 false .int (.cons 207 1 false .int (.cons 208 1 false .int (.cons 209 1 false .int (.cons 210 1 false .int (.cons 211 1 false .int (.cons 212 1 false .int (.cons 213 1 false .int (.cons 214 1 false .int (.cons 215 1 false .int (.cons 216 1 false .int (.cons 217 1 false .int (.cons 218 1 false .int (.cons 219 1 false .int (.cons 220 1 false .int (.cons 221 1 false .int (.cons 222 1 false .int (.cons 223 1 false .int (.cons 224 1 false .int (.cons 225 1 false .int (.cons 226 1 false .int (.cons 227 1 false .int (.cons 228 1 false .int (.cons 229 1 false .int (.cons 230 1 false .int (.cons 231 1 false .int (.cons 232 1 false .int (.cons 233 1 false .int (.cons 234 1 false .int (.cons 235 1 false .int (.cons 236 1 false .int (.cons 237 1 false .int (.cons 238 1 false .int (.cons 239 1 false .int (.cons 240 1 false .int (.cons 241 1 false .int (.cons 242 1 false .int (.cons 243 1 false .int (.cons 244 1 false .int (.cons 245 1 false .int (.cons 246 1 false .int (.cons 247 1 false .int (.cons 248 1 false .int (.cons 249 1 false .int (.cons 250 1 false .int (.cons 251 1 false .int (.cons 252 1 false .int (.cons 253 1 false .int (.cons 254 1 false .int (.cons 255 1 false .int .nil))))))))))))))))))))))))))))))))))))))))))))))))))))))))))))))))))))))))))))))))))))))))))))))))))))))))))))))))))))))))))))))))))))))))))))))))))))))))))))))))))))))))))))))))))))))))))))))))))))))))))))))))))))))))))))))))))))))))))))))))))))))))))))))))) }
        else
         some { k := .st [(0, 1, false), (1, 1, false)], size := 2, agg := true, zero := some (.agg [.int .u8 0, .int .u8 0]), ek := (.st (.cons 0 1 false .int (.cons 1 1 false .int .nil))) }
     else
      bif Nat.ble t 208 then
       bif Nat.ble t 206 then
        some { k := .st [(0, 1, false), (1, 1, false)], size := 2, agg := true, zero := some (.agg [.int .u8 0, .int .u8 0]), ek := (.st (.cons 0 1 false .int (.cons 1 1 false .int .nil))) }
       else
        bif Nat.ble t 207 then
         some { k := .arr 16 2 true, size := 32, agg := true, zero := some (.agg [.int .u8 0, .int .u8 0, .int .u8 0, .int .u8 0, .int .u8 0, .int .u8 0, .int .u8 0, .int .u8 0, .int .u8 0, .int .u8 0, .int .u8 0, .int .u8 0, .int .u8 0, .int .u8 0, .int .u8 0, .int .u8 0, .int .u8 0, .int .u8 0, .int .u8 0, .int .u8 0, .int .u8 0, .int .u8 0, .int .u8 0, .int .u8 0, .int .u8 0, .int .u8 0, .int .u8 0, .int .u8 0, .int .u8 0, .int .u8 0, .int .u8 0, .int .u8 0]), ek := (.st (.cons 0 2 true (.st (.cons 0 1 false .int (.cons 1 1 false .int .nil))) (.cons 2 2 true (.st (.cons 0 1 false .int (.cons 1 1 false .int .nil))) (.cons 4 2 true (.st (.cons 0 1 false .int (.cons 1 1 false .int .nil))) (.cons 6 2 true (.st (.cons 0 1 false .int (.cons 1 1 false .int .nil))) (.cons 8 2 true (.st (.cons 0 1 false .int (.cons 1 1 false .int .nil))) (.cons 10 2 true (.st (.cons 0 1 false .int (.cons 1 1 false .int .nil))) (.cons 12 2 true (.st (.cons 0 1 false .int (.cons 1 1 false .int .nil))) (.cons 14 2 true (.st (.cons 0 1 false .int (.cons 1 1 false .int .nil))) (.cons 16 2 true (.st (.cons 0 1 false .int (.cons 1 1 false .int .nil))) (.cons 18 2 true (.st (.cons 0 1 false .int (.cons 1 1 false .int .nil))) (.cons 20 2 true (.st (.cons 0 1 false .int (.cons 1 1 false .int .nil))) (.cons 22 2 true (.st (.cons 0 1 false .int (.cons 1 1 false .int .nil))) (.cons 24 2 true (.st (.cons 0 1 false .int (.cons 1 1 false .int .nil))) (.cons 26 2 true (.st (.cons 0 1 false .int (.cons 1 1 false .int .nil))) (.cons 28 2 true (.st (.cons 0 1 false .int (.cons 1 1 false .int .nil))) (.cons 30 2 true (.st (.cons 0 1 false .int (.cons 1 1 false .int .nil))) .nil))))))))))))))))) }
        else
         some { k := .sc, size := 1, agg := false, zero := some (.nilf), ek := .no }
      else
       bif Nat.ble t 210 then
        bif Nat.ble t 209 then
         some { k := .arr 20 1 false, size := 20, agg := true, zero := some (.agg [.int .u64 0, .int .u64 0, .int .u64 0, .int .u64 0, .int .u64 0, .int .u64 0, .int .u64 0, .int .u64 0, .int .u64 0, .int .u64 0, .int .u64 0, .int .u64 0, .int .u64 0, .int .u64 0, .int .u64 0, .int .u64 0, .int .u64 0, .int .u64 0, .int .u64 0, .int .u64 0]), ek := (.st (.cons 0 1 false .int (.cons 1 1 false .int (.cons 2 1 false .int (.cons 3 1 false .int (.cons 4 1 false .int (.cons 5 1 false .int (.cons 6 1 false .int (.cons 7 1 false .int (.cons 8 1 false .int (.cons 9 1 false .int (.cons 10 1 false .int (.cons 11 1 false .int (.cons 12 1 false .int (.cons 13 1 false .int (.cons 14 1 false .int (.cons 15 1 false .int (.cons 16 1 false .int (.cons 17 1 false .int (.cons 18 1 false .int (.cons 19 1 false .int .nil))))))))))))))))))))) }
        else
         some { k := .arr 65 1 false, size := 65, agg := true, zero := some (.agg [.int .u8 0, .int .u8 0, .int .u8 0, .int .u8 0, .int .u8 0, .int .u8 0, .int .u8 0, .int .u8 0, .int .u8 0, .int .u8 0, .int .u8 0, .int .u8 0, .int .u8 0, .int .u8 0, .int .u8 0, .int .u8 0, .int .u8 0, .int .u8 0, .int .u8 0, .int .u8 0, .int .u8 0, .int .u8 0, .int .u8 0, .int .u8 0, .int .u8 0, .int .u8 0, .int .u8 0, .int .u8 0, .int .u8 0, .int .u8 0, .int .u8 0, .int .u8 0, .int .u8 0, .int .u8 0, .int .u8 0, .int .u8 0, .int .u8 0, .int .u8 0, .int .u8 0, .int .u8 0, .int .u8 0, .int .u8 0, .int .u8 0, .int .u8 0, .int .u8 0, .int .u8 0, .int .u8 0, .int .u8 0, .int .u8 0, .int .u8 0, .int .u8 0, .int .u8 0, .int .u8 0, .int .u8 0, .int .u8 0, .int .u8 0, .int .u8 0, .int .u8 0, .int .u8 0, .int .u8 0, .int .u8 0, .int .u8 0, .int .u8 0, .int .u8 0, .int .u8 0]), ek := (.st (.cons 0 1 false .int (.cons 1 1 false .int (.cons 2 1 false .int (.cons 3 1 false .int (.cons 4 1 false .int (.cons 5 1 false .int (.cons 6 1 false .int (.cons 7 1 false .int (.cons 8 1 false .int (.cons 9 1 false .int (.cons 10 1 false .int (.cons 11 1 false .int (.cons 12 1 false .int (.cons 13 1 false .int (.cons 14 1 false .int (.cons 15 1 false .int (.cons 16 1 false .int (.cons 17 1 false .int (.cons 18 1 false .int (.cons 19 1 false .int (.cons 20 1 false .int (.cons 21 1 false .int (.cons 22 1 false .int (.cons 23 1 false .int (.cons 24 1 false .int (.cons 25 1 false .int (.cons 26 1 false .int (.cons 27 1 false .int (.cons 28 1 false .int (.cons 29 1 false .int (.cons 30 1 false .int (.cons 31 1 false .int (.cons 32 1 false .int (.cons 33 1 false .int (.cons 34 1 false .int (.cons 35 1 false .int (.cons 36 1 false .int (.cons 37 1 false .int (.cons 38 1 false .int (.cons 39 1 false .int (.cons 40 1 false .int (.cons 41 1 false .int (.cons 42 1 false .int (.cons 43 1 false .int (.cons 44 1 false .int (.cons 45 1 false .int (.cons 46 1 false .int (.cons 47 1 false .int (.cons 48 1 false .int (.cons 49 1 false .int (.cons 50 1 false .int (.cons 51 1 false .int (.cons 52 1 false .int (.cons 53 1 false .int (.cons 54 1 false .int (.cons 55 1 false .int (.cons 56 1 false .int (.cons 57 1 false .int (.cons 58 1 false .int (.cons 59 1 false .int (.cons 60 1 false .int (.cons 61 1 false .int (.cons 62 1 false .int (.cons 63 1 false .int (.cons 64 1 false .int .nil)))))))))))))))))))))))))))))))))))))))))))))))))))))))))))))))))) }
       else
        bif Nat.ble t 211 then
         some { k := .sc, size := 1, agg := false, zero := some (.nilf), ek := .no }
        else
         some { k := .sc, size := 1, agg := false, zero := some (.nilf), ek := .no }
    else
     bif Nat.ble t 219 then
      bif Nat.ble t 215 then
       bif Nat.ble t 213 then
        some { k := .sc, size := 1, agg := false, zero := some (.nilf), ek := .no }
       else
        bif Nat.ble t 214 then
         some { k := .arr 32 1 false, size := 32, agg := true, zero := some (.agg [.int .u8 0, .int .u8 0, .int .u8 0, .int .u8 0, .int .u8 0, .int .u8 0, .int .u8 0, .int .u8 0, .int .u8 0, .int .u8 0, .int .u8 0, .int .u8 0, .int .u8 0, .int .u8 0, .int .u8 0, .int .u8 0, .int .u8 0, .int .u8 0, .int .u8 0, .int .u8 0, .int .u8 0, .int .u8 0, .int .u8 0, .int .u8 0, .int .u8 0, .int .u8 0, .int .u8 0, .int .u8 0, .int .u8 0, .int .u8 0, .int .u8 0, .int .u8 0]), ek := (.st (.cons 0 1 false .int (.cons 1 1 false .int (.cons 2 1 false .int (.cons 3 1 false .int (.cons 4 1 false .int (.cons 5 1 false .int (.cons 6 1 false .int (.cons 7 1 false .int (.cons 8 1 false .int (.cons 9 1 false .int (.cons 10 1 false .int (.cons 11 1 false .int (.cons 12 1 false .int (.cons 13 1 false .int (.cons 14 1 false .int (.cons 15 1 false .int (.cons 16 1 false .int (.cons 17 1 false .int (.cons 18 1 false .int (.cons 19 1 false .int (.cons 20 1 false .int (.cons 21 1 false .int (.cons 22 1 false .int (.cons 23 1 false .int (.cons 24 1 false .int (.cons 25 1 false .int (.cons 26 1 false .int (.cons 27 1 false .int (.cons 28 1 false .int (.cons 29 1 false .int (.cons 30 1 false .int (.cons 31 1 false .int .nil))))))))))))))))))))))))))))))))) }
        else
         some { k := .arr 64 1 false, size := 64, agg := true, zero := some (.agg [.int .u8 0, .int .u8 0, .int .u8 0, .int .u8 0, .int .u8 0, .int .u8 0, .int .u8 0, .int .u8 0, .int .u8 0, .int .u8 0, .int .u8 0, .int .u8 0, .int .u8 0, .int .u8 0, .int .u8 0, .int .u8 0, .int .u8 0, .int .u8 0, .int .u8 0, .int .u8 0, .int .u8 0, .int .u8 0, .int .u8 0, .int .u8 0, .int .u8 0, .int .u8 0, .int .u8 0, .int .u8 0, .int .u8 0, .int .u8 0, .int .u8 0, .int .u8 0, .int .u8 0, .int .u8 0, .int .u8 0, .int .u8 0, .int .u8 0, .int .u8 0, .int .u8 0, .int .u8 0, .int .u8 0, .int .u8 0, .int .u8 0, .int .u8 0, .int .u8 0, .int .u8 0, .int .u8 0, .int .u8 0, .int .u8 0, .int .u8 0, .int .u8 0, .int .u8 0, .int .u8 0, .int .u8 0, .int .u8 0, .int .u8 0, .int .u8 0, .int .u8 0, .int .u8 0, .int .u8 0, .int .u8 0, .int .u8 0, .int .u8 0, .int .u8 0]), ek := (.st (.cons 0 1 false .int (.cons 1 1 false .int (.cons 2 1 false .int (.cons 3 1 false .int (.cons 4 1 false .int (.cons 5 1 false .int (.cons 6 1 false .int (.cons 7 1 false .int (.cons 8 1 false .int (.cons 9 1 false .int (.cons 10 1 false .int (.cons 11 1 false .int (.cons 12 1 false .int (.cons 13 1 false .int (.cons 14 1 false .int (.cons 15 1 false .int (.cons 16 1 false .int (.cons 17 1 false .int (.cons 18 1 false .int (.cons 19 1 false .int (.cons 20 1 false .int (.cons 21 1 false .int (.cons 22 1 false .int (.cons 23 1 false .int (.cons 24 1 false .int (.cons 25 1 false .int (.cons 26 1 false .int (.cons 27 1 false .int (.cons 28 1 false .int (.cons 29 1 false .int (.cons 30 1 false .int (.cons 31 1 false .int (.cons 32 1 false .int (.cons 33 1 false .int (.cons 34 1 false .int (.cons 35 1 false .int (.cons 36 1 false .int (.cons 37 1 false .int (.cons 38 1 false .int (.cons 39 1 false .int (.cons 40 1 false .int (.cons 41 1 false .int (.cons 42 1 false .int (.cons 43 1 false .int (.cons 44 1 false .int (.cons 45 1 false .int (.cons 46 1 false .int (.cons 47 1 false .int (.cons 48 1 false .int (.cons 49 1 false .int (.cons 50 1 false .int (.cons 51 1 false .int (.cons 52 1 false .int (.cons 53 1 false .int (.cons 54 1 false .int (.cons 55 1 false .int (.cons 56 1 false .int (.cons 57 1 false .int (.cons 58 1 false .int (.cons 59 1 false .int (.cons 60 1 false .int (.cons 61 1 false .int (.cons 62 1 false .int (.cons 63 1 false .int .nil))))))))))))))))))))))))))))))))))))))))))))))))))))))))))))))))) }
      else
       bif Nat.ble t 217 then
        bif Nat.ble t 216 then
         none
        else
         none
       else
        bif Nat.ble t 218 then
         some { k := .arr 0 1 false, size := 0, agg := true, zero := some (.agg []), ek := (.st .nil) }
        else
         some { k := .st [(0, 0, true)], size := 0, agg := true, zero := some (.agg []), ek := .no }
     else
      bif Nat.ble t 223 then
       bif Nat.ble t 221 then
        bif Nat.ble t 220 then
         some { k := .st [(0, 0, true)], size := 0, agg := true, zero := some (.agg []), ek := .no }
        else
         some { k := .int .u8, size := 1, agg := false, zero := some (.int .u8 0), ek := .int }
       else
        bif Nat.ble t 222 then
         some { k := .int .u8, size := 1, agg := false, zero := some (.int .u8 0), ek := .int }
        else
         some { k := .sc, size := 1, agg := false, zero := some (.nilf), ek := .no }
      else
       bif Nat.ble t 225 then
        bif Nat.ble t 224 then
         some { k := .int .i32, size := 1, agg := false, zero := some (.int .i32 0), ek := .int }
        else
         some { k := .int .i32, size := 1, agg := false, zero := some (.int .i32 0), ek := .int }
       else
        bif Nat.ble t 226 then
         none
        else
         none
def tiF (t : Nat) : Option TI := bif Nat.ble 228 t then none else tiT t
theorem tiCheck : (List.range 228).map (fun t => match tiF t with | none => none | some _ => tiOf Tryz.prog t) = (List.range 228).map tiF := by kernel_rfl
theorem tiOk (t : TypeId) (i : TI) (h : tiF t = some i) : tiOf Tryz.prog t = some i := by
  by_cases ht : t < 228
  · have h1 := congrArg (fun l => l[t]?) tiCheck
    simp only [List.getElem?_map, List.getElem?_range ht, Option.map_some, Option.some.injEq] at h1
    rw [h] at h1
    exact h1
  · have hb : Nat.ble 228 t = true := Nat.ble_eq_true_of_le (Nat.not_lt.1 ht)
    rw [tiF, hb] at h
    cases h
def glbF (f t : Nat) : Bool :=
  (Nat.beq f 1000000 && Nat.beq t 1000000) ||
  (Nat.beq f 16 && (Nat.beq t 5)) ||
  (Nat.beq f 34 && (Nat.beq t 65563)) ||
  (Nat.beq f 39 && (Nat.beq t 65550)) ||
  (Nat.beq f 44 && (Nat.beq t 5 || Nat.beq t 6 || Nat.beq t 8)) ||
  (Nat.beq f 57 && (Nat.beq t 2 || Nat.beq t 7 || Nat.beq t 8 || Nat.beq t 9)) ||
  (Nat.beq f 72 && (Nat.beq t 5)) ||
  (Nat.beq f 104 && (Nat.beq t 9)) ||
  (Nat.beq f 107 && (Nat.beq t 2 || Nat.beq t 5)) ||
  (Nat.beq f 112 && (Nat.beq t 1)) ||
  (Nat.beq f 127 && (Nat.beq t 8)) ||
  (Nat.beq f 147 && (Nat.beq t 5)) ||
  (Nat.beq f 162 && (Nat.beq t 12))
def globL : Boxes := []
theorem globLOk : globL.all (fun p => closedL p.2) = true := by kernel_rfl
def globF (g : Nat) : Option (List AV) := lkB globL g
noncomputable def env : Env := { P := Tryz.prog, ti := tiF, glob := globF, glb := glbF, elp := fun _ => none, tiOk := tiOk, mixed := by kernel_rfl, globOk := fun _ _ h => lkB_all globLOk h }
def dt4x5 : DrawPlan := ⟨[[], [0], [], [2], [], [4], [], [6], [0, 1, 2, 3, 4, 5, 6, 7], [], [9], [], [11], [], [13], [], [15], [0, 1, 2, 3, 4, 5, 6, 7, 8, 9, 10, 11, 12, 13, 14, 15, 16], [0, 1, 2, 3, 4, 5, 6, 7, 8, 9, 10, 11, 12, 13, 14, 15, 16, 17], [0, 1, 2, 3, 4, 5, 6, 7, 8, 9, 10, 11, 12, 13, 14, 15, 16, 17, 18]],
  [[], [0], [], [2], [], [4], [], [6], [], [], [9], [], [11], [], [13], [], [15], [], [8], [17]],
  (.take 0 [] (.take 1 [] (.take 2 [] (.take 3 [] (.take 4 [] (.take 5 [] (.take 6 [] (.take 7 [] (.take 9 [] (.take 10 [10] (.take 11 [10] (.take 12 [12, 10] (.take 13 [12, 10] (.take 14 [14, 12, 10] (.take 15 [14, 12, 10] (.take 16 [16, 14, 12, 10] (.br 8 [16, 14, 12, 10] [] (.br 17 [] [] (.take 18 [] (.take 19 [] .done)) .stop) .stop)))))))))))))))))⟩
def dt7x11 : DrawPlan := ⟨[[], [], [0, 1], [], [], [4], [3, 4, 5], [0, 1, 2, 3, 4, 5, 6]],
  [[], [], [0, 1], [], [], [4], [3, 5], [2, 6]],
  (.take 0 [] (.take 1 [] (.take 2 [] (.take 3 [] (.take 4 [] (.take 5 [] (.take 6 [] (.take 7 [] .done))))))))⟩
def dt8x15 : DrawPlan := ⟨[[], [], [0, 1], [0, 1, 2], [0, 1, 2, 3], [0, 1, 2, 3, 4], [0, 1, 2, 3, 4], [0, 1, 2, 3, 4, 5, 6], [0, 1, 2, 3, 4, 5, 6, 7], [0, 1, 2, 3, 4, 5, 6, 7, 8], [0, 1, 2, 3, 4, 5, 6, 7, 8, 9], [0, 1, 2, 3, 4, 5, 6, 7, 8, 9, 10], [0, 1, 2, 3, 4, 5, 6, 7, 8, 9, 10], [0, 1, 2, 3, 4, 5, 6, 7, 8, 9, 10, 12], [0, 1, 2, 3, 4, 5, 6, 7, 8, 9, 10], [0, 1, 2, 3, 4, 5, 6, 7, 8, 9, 10, 12, 13, 14], [0, 1, 2, 3, 4, 5, 6, 7, 8, 9, 10], [0, 1, 2, 3, 4, 5, 6, 7, 8, 9, 10], [0, 1, 2, 3, 4, 5, 6, 7, 8, 9, 10, 16, 17], [0, 1, 2, 3, 4, 5, 6, 7, 8, 9, 10, 12, 13, 14, 15, 16, 17, 18], [0, 1, 2, 3, 4, 5, 6, 7, 8, 9, 10, 11, 12, 13, 14, 15, 16, 17, 18, 19], [0, 1, 2, 3, 4, 5, 6, 7, 8, 9, 10, 11, 12, 13, 14, 15, 16, 17, 18, 19, 20], [0, 1, 2, 3, 4, 5, 6, 7, 8, 9, 10, 11, 12, 13, 14, 15, 16, 17, 18, 19, 20, 21], [0, 1, 2, 3, 4, 5, 6, 7, 8, 9, 10, 11, 12, 13, 14, 15, 16, 17, 18, 19, 20, 21, 22], [0, 1, 2, 3, 4, 5, 6, 7, 8, 9, 10, 11, 12, 13, 14, 15, 16, 17, 18, 19, 20, 21, 22], [0, 1, 2, 3, 4, 5, 6, 7, 8, 9, 10, 11, 12, 13, 14, 15, 16, 17, 18, 19, 20, 21, 22, 24], [0, 1, 2, 3, 4, 5, 6, 7, 8, 9, 10, 11, 12, 13, 14, 15, 16, 17, 18, 19, 20, 21, 22, 24, 25], [0, 1, 2, 3, 4, 5, 6, 7, 8, 9, 10, 11, 12, 13, 14, 15, 16, 17, 18, 19, 20, 21, 22], [0, 1, 2, 3, 4, 5, 6, 7, 8, 9, 10, 11, 12, 13, 14, 15, 16, 17, 18, 19, 20, 21, 22, 24, 25, 26, 27], [0, 1, 2, 3, 4, 5, 6, 7, 8, 9, 10, 11, 12, 13, 14, 15, 16, 17, 18, 19, 20, 21, 22, 23, 24, 25, 26, 27, 28], [0, 1, 2, 3, 4, 5, 6, 7, 8, 9, 10, 11, 12, 13, 14, 15, 16, 17, 18, 19, 20, 21, 22], [0, 1, 2, 3, 4, 5, 6, 7, 8, 9, 10, 11, 12, 13, 14, 15, 16, 17, 18, 19, 20, 21, 22], [0, 1, 2, 3, 4, 5, 6, 7, 8, 9, 10, 11, 12, 13, 14, 15, 16, 17, 18, 19, 20, 21, 22, 30, 31], [0, 1, 2, 3, 4, 5, 6, 7, 8, 9, 10, 11, 12, 13, 14, 15, 16, 17, 18, 19, 20, 21, 22, 23, 24, 25, 26, 27, 28, 29, 30, 31, 32], [0, 1, 2, 3, 4, 5, 6, 7, 8, 9, 10, 11, 12, 13, 14, 15, 16, 17, 18, 19, 20, 21, 22, 23, 24, 25, 26, 27, 28, 29, 30, 31, 32, 33]],
  [[], [], [0, 1], [2], [3], [4], [4], [4, 5, 6], [4, 7], [4, 8], [9], [10], [10], [10, 12], [10], [10, 13, 14], [10], [10], [10, 16, 17], [10, 15, 18], [10, 11, 19], [10, 20], [21], [22], [22], [22, 24], [22, 25], [22], [22, 26, 27], [22, 23, 28], [22], [22], [22, 30, 31], [22, 29, 32], [22, 33]],
  (.take 0 [] (.take 1 [] (.take 2 [] (.take 3 [] (.take 4 [] (.take 5 [] (.take 6 [] (.take 7 [] (.take 8 [] (.take 9 [] (.take 10 [] (.take 11 [] (.take 12 [] (.take 13 [] (.take 14 [] (.take 15 [] (.take 16 [] (.take 17 [] (.take 18 [] (.take 19 [] (.take 20 [] (.take 21 [] (.take 22 [] (.take 23 [] (.take 24 [] (.take 25 [] (.take 26 [] (.take 27 [] (.take 28 [] (.take 29 [] (.take 30 [] (.take 31 [] (.take 32 [] (.take 33 [] (.take 34 [] .done)))))))))))))))))))))))))))))))))))⟩
def dt9x9 : DrawPlan := ⟨[[], [0], [0, 1], [0, 1, 2], [0, 1, 2, 3], [0, 1, 2, 3, 4], [0, 1, 2, 3, 4, 5], [0, 1, 2, 3, 4, 5, 6], [0, 1, 2, 3, 4, 5, 6, 7], [0, 1, 2, 3, 4, 5, 6, 7, 8], [0, 1, 2, 3, 4, 5, 6, 7, 8, 9], [0, 1, 2, 3, 4, 5, 6, 7, 8, 9, 10], [0, 1, 2, 3, 4, 5, 6, 7, 8, 9, 10, 11], [0, 1, 2, 3, 4, 5, 6, 7, 8, 9, 10, 11, 12], [0, 1, 2, 3, 4, 5, 6, 7, 8, 9, 10, 11, 12, 13], [0, 1, 2, 3, 4, 5, 6, 7, 8, 9, 10, 11, 12, 13, 14], [0, 1, 2, 3, 4, 5, 6, 7, 8, 9, 10, 11, 12, 13, 14, 15], [0, 1, 2, 3, 4, 5, 6, 7, 8, 9, 10, 11, 12, 13, 14, 15, 16], [0, 1, 2, 3, 4, 5, 6, 7, 8, 9, 10, 11, 12, 13, 14, 15, 16, 17], [0, 1, 2, 3, 4, 5, 6, 7, 8, 9, 10, 11, 12, 13, 14, 15, 16, 17, 18], [0, 1, 2, 3, 4, 5, 6, 7, 8, 9, 10, 11, 12, 13, 14, 15, 16, 17, 18, 19], [0, 1, 2, 3, 4, 5, 6, 7, 8, 9, 10, 11, 12, 13, 14, 15, 16, 17, 18], [0, 1, 2, 3, 4, 5, 6, 7, 8, 9, 10, 11, 12, 13, 14, 15, 16, 17, 18, 21], [0, 1, 2, 3, 4, 5, 6, 7, 8, 9, 10, 11, 12, 13, 14, 15, 16, 17, 18, 19, 20, 21, 22], [0, 1, 2, 3, 4, 5, 6, 7, 8, 9, 10, 11, 12, 13, 14, 15, 16, 17, 18, 19, 20, 21, 22, 23], [0, 1, 2, 3, 4, 5, 6, 7, 8, 9, 10, 11, 12, 13, 14, 15, 16, 17, 18, 19, 20, 21, 22, 23, 24], [0, 1, 2, 3, 4, 5, 6, 7, 8, 9, 10, 11, 12, 13, 14, 15, 16, 17, 18, 19, 20, 21, 22, 23, 24, 25], [0, 1, 2, 3, 4, 5, 6, 7, 8, 9, 10, 11, 12, 13, 14, 15, 16, 17, 18, 19, 20, 21, 22, 23, 24, 25, 26], [0, 1, 2, 3, 4, 5, 6, 7, 8, 9, 10, 11, 12, 13, 14, 15, 16, 17, 18, 19, 20, 21, 22, 23, 24, 25], [0, 1, 2, 3, 4, 5, 6, 7, 8, 9, 10, 11, 12, 13, 14, 15, 16, 17, 18, 19, 20, 21, 22, 23, 24, 25, 28], [0, 1, 2, 3, 4, 5, 6, 7, 8, 9, 10, 11, 12, 13, 14, 15, 16, 17, 18, 19, 20, 21, 22, 23, 24, 25, 26, 27, 28, 29], [0, 1, 2, 3, 4, 5, 6, 7, 8, 9, 10, 11, 12, 13, 14, 15, 16, 17, 18, 19, 20, 21, 22, 23, 24, 25, 26, 27, 28, 29, 30], [0, 1, 2, 3, 4, 5, 6, 7, 8, 9, 10, 11, 12, 13, 14, 15, 16, 17, 18, 19, 20, 21, 22, 23, 24, 25, 26, 27, 28, 29, 30, 31], [0, 1, 2, 3, 4, 5, 6, 7, 8, 9, 10, 11, 12, 13, 14, 15, 16, 17, 18, 19, 20, 21, 22, 23, 24, 25, 26, 27, 28, 29, 30, 31, 32], [0, 1, 2, 3, 4, 5, 6, 7, 8, 9, 10, 11, 12, 13, 14, 15, 16, 17, 18, 19, 20, 21, 22, 23, 24, 25, 26, 27, 28, 29, 30, 31, 32, 33], [0, 1, 2, 3, 4, 5, 6, 7, 8, 9, 10, 11, 12, 13, 14, 15, 16, 17, 18, 19, 20, 21, 22, 23, 24, 25, 26, 27, 28, 29, 30, 31, 32], [0, 1, 2, 3, 4, 5, 6, 7, 8, 9, 10, 11, 12, 13, 14, 15, 16, 17, 18, 19, 20, 21, 22, 23, 24, 25, 26, 27, 28, 29, 30, 31, 32, 35], [0, 1, 2, 3, 4, 5, 6, 7, 8, 9, 10, 11, 12, 13, 14, 15, 16, 17, 18, 19, 20, 21, 22, 23, 24, 25, 26, 27, 28, 29, 30, 31, 32, 33, 34, 35, 36], [0, 1, 2, 3, 4, 5, 6, 7, 8, 9, 10, 11, 12, 13, 14, 15, 16, 17, 18, 19, 20, 21, 22, 23, 24, 25, 26, 27, 28, 29, 30, 31, 32], [0, 1, 2, 3, 4, 5, 6, 7, 8, 9, 10, 11, 12, 13, 14, 15, 16, 17, 18, 19, 20, 21, 22, 23, 24, 25, 26, 27, 28, 29, 30, 31, 32, 33, 34, 35, 36, 37, 38], [0, 1, 2, 3, 4, 5, 6, 7, 8, 9, 10, 11, 12, 13, 14, 15, 16, 17, 18, 19, 20, 21, 22, 23, 24, 25, 26, 27, 28, 29, 30, 31, 32, 33, 34, 35, 36, 37, 38, 39], [0, 1, 2, 3, 4, 5, 6, 7, 8, 9, 10, 11, 12, 13, 14, 15, 16, 17, 18, 19, 20, 21, 22, 23, 24, 25, 26, 27, 28, 29, 30, 31, 32, 33, 34, 35, 36, 37, 38, 39, 40], [0, 1, 2, 3, 4, 5, 6, 7, 8, 9, 10, 11, 12, 13, 14, 15, 16, 17, 18, 19, 20, 21, 22, 23, 24, 25, 26, 27, 28, 29, 30, 31, 32, 33, 34, 35, 36, 37, 38, 39, 40, 41], [0, 1, 2, 3, 4, 5, 6, 7, 8, 9, 10, 11, 12, 13, 14, 15, 16, 17, 18, 19, 20, 21, 22, 23, 24, 25, 26, 27, 28, 29, 30, 31, 32, 33, 34, 35, 36, 37, 38, 39, 40, 41, 42], [0, 1, 2, 3, 4, 5, 6, 7, 8, 9, 10, 11, 12, 13, 14, 15, 16, 17, 18, 19, 20, 21, 22, 23, 24, 25, 26, 27, 28, 29, 30, 31, 32, 33, 34, 35, 36, 37, 38, 39, 40, 41, 42, 43], [0, 1, 2, 3, 4, 5, 6, 7, 8, 9, 10, 11, 12, 13, 14, 15, 16, 17, 18, 19, 20, 21, 22, 23, 24, 25, 26, 27, 28, 29, 30, 31, 32, 33, 34, 35, 36, 37, 38, 39, 40, 41], [0, 1, 2, 3, 4, 5, 6, 7, 8, 9, 10, 11, 12, 13, 14, 15, 16, 17, 18, 19, 20, 21, 22, 23, 24, 25, 26, 27, 28, 29, 30, 31, 32, 33, 34, 35, 36, 37, 38, 39, 40, 41, 42, 43, 44, 45], [0, 1, 2, 3, 4, 5, 6, 7, 8, 9, 10, 11, 12, 13, 14, 15, 16, 17, 18, 19, 20, 21, 22, 23, 24, 25, 26, 27, 28, 29, 30, 31, 32, 33, 34, 35, 36, 37, 38, 39, 40, 41, 42, 43, 44, 45, 46], [0, 1, 2, 3, 4, 5, 6, 7, 8, 9, 10, 11, 12, 13, 14, 15, 16, 17, 18, 19, 20, 21, 22, 23, 24, 25, 26, 27, 28, 29, 30, 31, 32, 33, 34, 35, 36, 37, 38, 39, 40, 41, 42, 43, 44, 45, 46, 47], [0, 1, 2, 3, 4, 5, 6, 7, 8, 9, 10, 11, 12, 13, 14, 15, 16, 17, 18, 19, 20, 21, 22, 23, 24, 25, 26, 27, 28, 29, 30, 31, 32, 33, 34, 35, 36, 37, 38, 39, 40, 41, 42, 43, 44, 45, 46, 47, 48], [0, 1, 2, 3, 4, 5, 6, 7, 8, 9, 10, 11, 12, 13, 14, 15, 16, 17, 18, 19, 20, 21, 22, 23, 24, 25, 26, 27, 28, 29, 30, 31, 32, 33, 34, 35, 36, 37, 38, 39, 40, 41, 42, 43, 44, 45, 46, 47, 48], [0, 1, 2, 3, 4, 5, 6, 7, 8, 9, 10, 11, 12, 13, 14, 15, 16, 17, 18, 19, 20, 21, 22, 23, 24, 25, 26, 27, 28, 29, 30, 31, 32, 33, 34, 35, 36, 37, 38, 39, 40, 41, 42, 43, 44, 45, 46, 47, 48, 49, 50], [0, 1, 2, 3, 4, 5, 6, 7, 8, 9, 10, 11, 12, 13, 14, 15, 16, 17, 18, 19, 20, 21, 22, 23, 24, 25, 26, 27, 28, 29, 30, 31, 32, 33, 34, 35, 36, 37, 38, 39, 40, 41, 42, 43, 44, 45, 46, 47, 48, 49, 50, 51], [0, 1, 2, 3, 4, 5, 6, 7, 8, 9, 10, 11, 12, 13, 14, 15, 16, 17, 18, 19, 20, 21, 22, 23, 24, 25, 26, 27, 28, 29, 30, 31, 32, 33, 34, 35, 36, 37, 38, 39, 40, 41, 42, 43, 44, 45, 46, 47, 48], [0, 1, 2, 3, 4, 5, 6, 7, 8, 9, 10, 11, 12, 13, 14, 15, 16, 17, 18, 19, 20, 21, 22, 23, 24, 25, 26, 27, 28, 29, 30, 31, 32, 33, 34, 35, 36, 37, 38, 39, 40, 41, 42, 43, 44, 45, 46, 47, 48, 53], [0, 1, 2, 3, 4, 5, 6, 7, 8, 9, 10, 11, 12, 13, 14, 15, 16, 17, 18, 19, 20, 21, 22, 23, 24, 25, 26, 27, 28, 29, 30, 31, 32, 33, 34, 35, 36, 37, 38, 39, 40, 41, 42, 43, 44, 45, 46, 47, 48], [0, 1, 2, 3, 4, 5, 6, 7, 8, 9, 10, 11, 12, 13, 14, 15, 16, 17, 18, 19, 20, 21, 22, 23, 24, 25, 26, 27, 28, 29, 30, 31, 32, 33, 34, 35, 36, 37, 38, 39, 40, 41, 42, 43, 44, 45, 46, 47, 48, 55], [0, 1, 2, 3, 4, 5, 6, 7, 8, 9, 10, 11, 12, 13, 14, 15, 16, 17, 18, 19, 20, 21, 22, 23, 24, 25, 26, 27, 28, 29, 30, 31, 32, 33, 34, 35, 36, 37, 38, 39, 40, 41, 42, 43, 44, 45, 46, 47, 48], [0, 1, 2, 3, 4, 5, 6, 7, 8, 9, 10, 11, 12, 13, 14, 15, 16, 17, 18, 19, 20, 21, 22, 23, 24, 25, 26, 27, 28, 29, 30, 31, 32, 33, 34, 35, 36, 37, 38, 39, 40, 41, 42, 43, 44, 45, 46, 47, 48, 57], [0, 1, 2, 3, 4, 5, 6, 7, 8, 9, 10, 11, 12, 13, 14, 15, 16, 17, 18, 19, 20, 21, 22, 23, 24, 25, 26, 27, 28, 29, 30, 31, 32, 33, 34, 35, 36, 37, 38, 39, 40, 41, 42, 43, 44, 45, 46, 47, 48, 55, 56, 57, 58], [0, 1, 2, 3, 4, 5, 6, 7, 8, 9, 10, 11, 12, 13, 14, 15, 16, 17, 18, 19, 20, 21, 22, 23, 24, 25, 26, 27, 28, 29, 30, 31, 32, 33, 34, 35, 36, 37, 38, 39, 40, 41, 42, 43, 44, 45, 46, 47, 48, 53, 54, 55, 56, 57, 58, 59], [0, 1, 2, 3, 4, 5, 6, 7, 8, 9, 10, 11, 12, 13, 14, 15, 16, 17, 18, 19, 20, 21, 22, 23, 24, 25, 26, 27, 28, 29, 30, 31, 32, 33, 34, 35, 36, 37, 38, 39, 40, 41, 42, 43, 44, 45, 46, 47, 48], [0, 1, 2, 3, 4, 5, 6, 7, 8, 9, 10, 11, 12, 13, 14, 15, 16, 17, 18, 19, 20, 21, 22, 23, 24, 25, 26, 27, 28, 29, 30, 31, 32, 33, 34, 35, 36, 37, 38, 39, 40, 41, 42, 43, 44, 45, 46, 47, 48, 61], [0, 1, 2, 3, 4, 5, 6, 7, 8, 9, 10, 11, 12, 13, 14, 15, 16, 17, 18, 19, 20, 21, 22, 23, 24, 25, 26, 27, 28, 29, 30, 31, 32, 33, 34, 35, 36, 37, 38, 39, 40, 41, 42, 43, 44, 45, 46, 47, 48], [0, 1, 2, 3, 4, 5, 6, 7, 8, 9, 10, 11, 12, 13, 14, 15, 16, 17, 18, 19, 20, 21, 22, 23, 24, 25, 26, 27, 28, 29, 30, 31, 32, 33, 34, 35, 36, 37, 38, 39, 40, 41, 42, 43, 44, 45, 46, 47, 48, 63], [0, 1, 2, 3, 4, 5, 6, 7, 8, 9, 10, 11, 12, 13, 14, 15, 16, 17, 18, 19, 20, 21, 22, 23, 24, 25, 26, 27, 28, 29, 30, 31, 32, 33, 34, 35, 36, 37, 38, 39, 40, 41, 42, 43, 44, 45, 46, 47, 48], [0, 1, 2, 3, 4, 5, 6, 7, 8, 9, 10, 11, 12, 13, 14, 15, 16, 17, 18, 19, 20, 21, 22, 23, 24, 25, 26, 27, 28, 29, 30, 31, 32, 33, 34, 35, 36, 37, 38, 39, 40, 41, 42, 43, 44, 45, 46, 47, 48, 65], [0, 1, 2, 3, 4, 5, 6, 7, 8, 9, 10, 11, 12, 13, 14, 15, 16, 17, 18, 19, 20, 21, 22, 23, 24, 25, 26, 27, 28, 29, 30, 31, 32, 33, 34, 35, 36, 37, 38, 39, 40, 41, 42, 43, 44, 45, 46, 47, 48, 63, 64, 65, 66], [0, 1, 2, 3, 4, 5, 6, 7, 8, 9, 10, 11, 12, 13, 14, 15, 16, 17, 18, 19, 20, 21, 22, 23, 24, 25, 26, 27, 28, 29, 30, 31, 32, 33, 34, 35, 36, 37, 38, 39, 40, 41, 42, 43, 44, 45, 46, 47, 48, 61, 62, 63, 64, 65, 66, 67], [0, 1, 2, 3, 4, 5, 6, 7, 8, 9, 10, 11, 12, 13, 14, 15, 16, 17, 18, 19, 20, 21, 22, 23, 24, 25, 26, 27, 28, 29, 30, 31, 32, 33, 34, 35, 36, 37, 38, 39, 40, 41, 42, 43, 44, 45, 46, 47, 48, 53, 54, 55, 56, 57, 58, 59, 60, 61, 62, 63, 64, 65, 66, 67, 68], [0, 1, 2, 3, 4, 5, 6, 7, 8, 9, 10, 11, 12, 13, 14, 15, 16, 17, 18, 19, 20, 21, 22, 23, 24, 25, 26, 27, 28, 29, 30, 31, 32, 33, 34, 35, 36, 37, 38, 39, 40, 41, 42, 43, 44, 45, 46, 47, 48, 49, 50, 51, 52, 53, 54, 55, 56, 57, 58, 59, 60, 61, 62, 63, 64, 65, 66, 67, 68, 69], [0, 1, 2, 3, 4, 5, 6, 7, 8, 9, 10, 11, 12, 13, 14, 15, 16, 17, 18, 19, 20, 21, 22, 23, 24, 25, 26, 27, 28, 29, 30, 31, 32, 33, 34, 35, 36, 37, 38, 39, 40, 41, 42, 43, 44, 45, 46, 47, 48, 49, 50, 51, 52, 53, 54, 55, 56, 57, 58, 59, 60, 61, 62, 63, 64, 65, 66, 67, 68, 69, 70]],
  [[], [0], [1], [2], [2, 3], [2, 4], [5], [6], [6, 7], [6, 8], [9], [10], [10, 11], [10, 12], [13], [14], [14, 15], [14, 16], [17], [18], [18, 19], [18], [18, 21], [18, 20, 22], [18, 23], [24], [25], [25, 26], [25], [25, 28], [25, 27, 29], [25, 30], [31], [32], [32, 33], [32], [32, 35], [32, 34, 36], [32], [32, 37, 38], [32, 39], [40], [41], [41, 42], [41, 43], [41], [41, 44, 45], [41, 46], [47], [48], [48], [48, 49, 50], [48, 51], [48], [48, 53], [48], [48, 55], [48], [48, 57], [48, 56, 58], [48, 54, 59], [48], [48, 61], [48], [48, 63], [48], [48, 65], [48, 64, 66], [48, 62, 67], [48, 60, 68], [48, 52, 69], [48, 70]],
  (.take 0 [] (.take 1 [] (.take 2 [] (.take 3 [] (.take 4 [] (.take 5 [] (.take 6 [] (.take 7 [] (.take 8 [] (.take 9 [] (.take 10 [] (.take 11 [] (.take 12 [] (.take 13 [] (.take 14 [] (.take 15 [] (.take 16 [] (.take 17 [] (.take 18 [] (.take 19 [] (.take 20 [] (.take 21 [] (.take 22 [] (.take 23 [] (.take 24 [] (.take 25 [] (.take 26 [] (.take 27 [] (.take 28 [] (.take 29 [] (.take 30 [] (.take 31 [] (.take 32 [] (.take 33 [] (.take 34 [] (.take 35 [] (.take 36 [] (.take 37 [] (.take 38 [] (.take 39 [] (.take 40 [] (.take 41 [] (.take 42 [] (.take 43 [] (.take 44 [] (.take 45 [] (.take 46 [] (.take 47 [] (.take 48 [] (.take 49 [] (.take 50 [] (.take 51 [] (.take 52 [] (.take 53 [] (.take 54 [] (.take 55 [] (.take 56 [] (.take 57 [] (.take 58 [] (.take 59 [] (.take 60 [] (.take 61 [] (.take 62 [] (.take 63 [] (.take 64 [] (.take 65 [] (.take 66 [] (.take 67 [] (.take 68 [] (.take 69 [] (.take 70 [] (.take 71 [] .done))))))))))))))))))))))))))))))))))))))))))))))))))))))))))))))))))))))))⟩
def dt9x15 : DrawPlan := ⟨[[], [], [1], [0, 1, 2], [0, 1, 2, 3], [0, 1, 2, 3, 4], [], [6], [0, 1, 2, 3, 4, 5, 6, 7], [], [9], [], [], [12], [11, 12, 13], [11, 12, 13, 14], [11, 12, 13, 14, 15], [9, 10, 11, 12, 13, 14, 15, 16], [0, 1, 2, 3, 4, 5, 6, 7, 8, 9, 10, 11, 12, 13, 14, 15, 16, 17], [0, 1, 2, 3, 4, 5, 6, 7, 8, 9, 10, 11, 12, 13, 14, 15, 16, 17, 18], [0, 1, 2, 3, 4, 5, 6, 7, 8, 9, 10, 11, 12, 13, 14, 15, 16, 17, 18, 19], [0, 1, 2, 3, 4, 5, 6, 7, 8, 9, 10, 11, 12, 13, 14, 15, 16, 17, 18, 19], [0, 1, 2, 3, 4, 5, 6, 7, 8, 9, 10, 11, 12, 13, 14, 15, 16, 17, 18, 19, 21], [0, 1, 2, 3, 4, 5, 6, 7, 8, 9, 10, 11, 12, 13, 14, 15, 16, 17, 18, 19, 20, 21, 22], [0, 1, 2, 3, 4, 5, 6, 7, 8, 9, 10, 11, 12, 13, 14, 15, 16, 17, 18, 19, 20, 21, 22, 23], [0, 1, 2, 3, 4, 5, 6, 7, 8, 9, 10, 11, 12, 13, 14, 15, 16, 17, 18, 19, 20, 21, 22, 23, 24], [0, 1, 2, 3, 4, 5, 6, 7, 8, 9, 10, 11, 12, 13, 14, 15, 16, 17, 18, 19], [0, 1, 2, 3, 4, 5, 6, 7, 8, 9, 10, 11, 12, 13, 14, 15, 16, 17, 18, 19], [0, 1, 2, 3, 4, 5, 6, 7, 8, 9, 10, 11, 12, 13, 14, 15, 16, 17, 18, 19, 27], [0, 1, 2, 3, 4, 5, 6, 7, 8, 9, 10, 11, 12, 13, 14, 15, 16, 17, 18, 19, 26, 27, 28], [0, 1, 2, 3, 4, 5, 6, 7, 8, 9, 10, 11, 12, 13, 14, 15, 16, 17, 18, 19, 26, 27, 28, 29], [0, 1, 2, 3, 4, 5, 6, 7, 8, 9, 10, 11, 12, 13, 14, 15, 16, 17, 18, 19, 26, 27, 28, 29, 30], [0, 1, 2, 3, 4, 5, 6, 7, 8, 9, 10, 11, 12, 13, 14, 15, 16, 17, 18, 19, 20, 21, 22, 23, 24, 25, 26, 27, 28, 29, 30, 31], [0, 1, 2, 3, 4, 5, 6, 7, 8, 9, 10, 11, 12, 13, 14, 15, 16, 17, 18, 19, 20, 21, 22, 23, 24, 25, 26, 27, 28, 29, 30, 31, 32]],
  [[], [], [1], [0, 2], [3], [4], [], [6], [5, 7], [], [9], [], [], [12], [11, 13], [14], [15], [10, 16], [8, 17], [18], [19], [19], [19, 21], [19, 20, 22], [19, 23], [19, 24], [19], [19], [19, 27], [19, 26, 28], [19, 29], [19, 30], [19, 25, 31], [19, 32]],
  (.take 0 [] (.take 1 [] (.take 2 [] (.take 3 [] (.take 4 [] (.take 5 [] (.take 6 [] (.take 7 [] (.take 8 [] (.take 9 [] (.take 10 [] (.take 11 [] (.take 12 [] (.take 13 [] (.take 14 [] (.take 15 [] (.take 16 [] (.take 17 [] (.take 18 [] (.take 19 [] (.take 20 [] (.take 21 [] (.take 22 [] (.take 23 [] (.take 24 [] (.take 25 [] (.take 26 [] (.take 27 [] (.take 28 [] (.take 29 [] (.take 30 [] (.take 31 [] (.take 32 [] (.take 33 [] .done))))))))))))))))))))))))))))))))))⟩
def dt9x17 : DrawPlan := ⟨[[], [0], [], [], [3], [3, 4], [2, 3, 4, 5], [0, 1, 2, 3, 4, 5, 6], [0, 1, 2, 3, 4, 5, 6, 7]],
  [[], [0], [], [], [3], [4], [2, 5], [1, 6], [7]],
  (.take 0 [] (.take 1 [] (.take 2 [] (.take 3 [] (.take 4 [] (.take 5 [] (.take 6 [] (.take 7 [] (.take 8 [] .done)))))))))⟩
def dt9x18 : DrawPlan := ⟨[[], [], [1], [0, 1, 2], [0, 1, 2, 3], [0, 1, 2, 3, 4], [0, 1, 2, 3, 4], [0, 1, 2, 3, 4, 5, 6], [0, 1, 2, 3, 4, 5, 6, 7], [0, 1, 2, 3, 4], [0, 1, 2, 3, 4], [0, 1, 2, 3, 4, 9, 10], [0, 1, 2, 3, 4, 9, 10, 11], [0, 1, 2, 3, 4, 9, 10, 11, 12], [0, 1, 2, 3, 4], [0, 1, 2, 3, 4], [0, 1, 2, 3, 4, 14, 15], [0, 1, 2, 3, 4, 14, 15, 16], [0, 1, 2, 3, 4, 14, 15, 16, 17], [0, 1, 2, 3, 4, 9, 10, 11, 12, 13, 14, 15, 16, 17, 18], [0, 1, 2, 3, 4, 5, 6, 7, 8, 9, 10, 11, 12, 13, 14, 15, 16, 17, 18, 19], [0, 1, 2, 3, 4, 5, 6, 7, 8, 9, 10, 11, 12, 13, 14, 15, 16, 17, 18, 19, 20], [0, 1, 2, 3, 4, 5, 6, 7, 8, 9, 10, 11, 12, 13, 14, 15, 16, 17, 18, 19, 20, 21], [0, 1, 2, 3, 4, 5, 6, 7, 8, 9, 10, 11, 12, 13, 14, 15, 16, 17, 18, 19, 20, 21, 22], [0, 1, 2, 3, 4, 5, 6, 7, 8, 9, 10, 11, 12, 13, 14, 15, 16, 17, 18, 19, 20, 21, 22], [0, 1, 2, 3, 4, 5, 6, 7, 8, 9, 10, 11, 12, 13, 14, 15, 16, 17, 18, 19, 20, 21, 22, 24], [0, 1, 2, 3, 4, 5, 6, 7, 8, 9, 10, 11, 12, 13, 14, 15, 16, 17, 18, 19, 20, 21, 22, 23, 24, 25], [0, 1, 2, 3, 4, 5, 6, 7, 8, 9, 10, 11, 12, 13, 14, 15, 16, 17, 18, 19, 20, 21, 22, 23, 24, 25, 26], [0, 1, 2, 3, 4, 5, 6, 7, 8, 9, 10, 11, 12, 13, 14, 15, 16, 17, 18, 19, 20, 21, 22], [0, 1, 2, 3, 4, 5, 6, 7, 8, 9, 10, 11, 12, 13, 14, 15, 16, 17, 18, 19, 20, 21, 22], [0, 1, 2, 3, 4, 5, 6, 7, 8, 9, 10, 11, 12, 13, 14, 15, 16, 17, 18, 19, 20, 21, 22, 28, 29], [0, 1, 2, 3, 4, 5, 6, 7, 8, 9, 10, 11, 12, 13, 14, 15, 16, 17, 18, 19, 20, 21, 22, 28, 29, 30], [0, 1, 2, 3, 4, 5, 6, 7, 8, 9, 10, 11, 12, 13, 14, 15, 16, 17, 18, 19, 20, 21, 22, 28, 29, 30, 31], [0, 1, 2, 3, 4, 5, 6, 7, 8, 9, 10, 11, 12, 13, 14, 15, 16, 17, 18, 19, 20, 21, 22, 28, 29, 30, 31, 32], [0, 1, 2, 3, 4, 5, 6, 7, 8, 9, 10, 11, 12, 13, 14, 15, 16, 17, 18, 19, 20, 21, 22], [0, 1, 2, 3, 4, 5, 6, 7, 8, 9, 10, 11, 12, 13, 14, 15, 16, 17, 18, 19, 20, 21, 22], [0, 1, 2, 3, 4, 5, 6, 7, 8, 9, 10, 11, 12, 13, 14, 15, 16, 17, 18, 19, 20, 21, 22, 34, 35], [0, 1, 2, 3, 4, 5, 6, 7, 8, 9, 10, 11, 12, 13, 14, 15, 16, 17, 18, 19, 20, 21, 22, 34, 35, 36], [0, 1, 2, 3, 4, 5, 6, 7, 8, 9, 10, 11, 12, 13, 14, 15, 16, 17, 18, 19, 20, 21, 22, 34, 35, 36, 37], [0, 1, 2, 3, 4, 5, 6, 7, 8, 9, 10, 11, 12, 13, 14, 15, 16, 17, 18, 19, 20, 21, 22, 34, 35, 36, 37, 38], [0, 1, 2, 3, 4, 5, 6, 7, 8, 9, 10, 11, 12, 13, 14, 15, 16, 17, 18, 19, 20, 21, 22, 28, 29, 30, 31, 32, 33, 34, 35, 36, 37, 38, 39], [0, 1, 2, 3, 4, 5, 6, 7, 8, 9, 10, 11, 12, 13, 14, 15, 16, 17, 18, 19, 20, 21, 22, 23, 24, 25, 26, 27, 28, 29, 30, 31, 32, 33, 34, 35, 36, 37, 38, 39, 40], [0, 1, 2, 3, 4, 5, 6, 7, 8, 9, 10, 11, 12, 13, 14, 15, 16, 17, 18, 19, 20, 21, 22, 23, 24, 25, 26, 27, 28, 29, 30, 31, 32, 33, 34, 35, 36, 37, 38, 39, 40, 41]],
  [[], [], [1], [0, 2], [3], [4], [4], [4, 5, 6], [4, 7], [4], [4], [4, 9, 10], [4, 11], [4, 12], [4], [4], [4, 14, 15], [4, 16], [4, 17], [4, 13, 18], [4, 8, 19], [4, 20], [21], [22], [22], [22, 24], [22, 23, 25], [22, 26], [22], [22], [22, 28, 29], [22, 30], [22, 31], [22, 32], [22], [22], [22, 34, 35], [22, 36], [22, 37], [22, 38], [22, 33, 39], [22, 27, 40], [22, 41]],
  (.take 0 [] (.take 1 [] (.take 2 [] (.take 3 [] (.take 4 [] (.take 5 [] (.take 6 [] (.take 7 [] (.take 8 [] (.take 9 [] (.take 10 [] (.take 11 [] (.take 12 [] (.take 13 [] (.take 14 [] (.take 15 [] (.take 16 [] (.take 17 [] (.take 18 [] (.take 19 [] (.take 20 [] (.take 21 [] (.take 22 [] (.take 23 [] (.take 24 [] (.take 25 [] (.take 26 [] (.take 27 [] (.take 28 [] (.take 29 [] (.take 30 [] (.take 31 [] (.take 32 [] (.take 33 [] (.take 34 [] (.take 35 [] (.take 36 [] (.take 37 [] (.take 38 [] (.take 39 [] (.take 40 [] (.take 41 [] (.take 42 [] .done)))))))))))))))))))))))))))))))))))))))))))⟩
def dt9x21 : DrawPlan := ⟨[[], [], [1], [0, 1, 2], [0, 1, 2, 3], [0, 1, 2, 3, 4], [0, 1, 2, 3, 4], [0, 1, 2, 3, 4, 5, 6], [0, 1, 2, 3, 4, 5, 6, 7], [0, 1, 2, 3, 4, 5, 6, 7, 8], [0, 1, 2, 3, 4, 5, 6, 7, 8, 9], [0, 1, 2, 3, 4], [0, 1, 2, 3, 4], [0, 1, 2, 3, 4, 11, 12], [0, 1, 2, 3, 4, 11, 12, 13], [0, 1, 2, 3, 4, 11, 12, 13, 14], [0, 1, 2, 3, 4], [0, 1, 2, 3, 4], [0, 1, 2, 3, 4, 17], [0, 1, 2, 3, 4, 16, 17, 18], [0, 1, 2, 3, 4, 16, 17, 18, 19], [0, 1, 2, 3, 4, 16, 17, 18, 19, 20], [0, 1, 2, 3, 4, 11, 12, 13, 14, 15, 16, 17, 18, 19, 20, 21], [0, 1, 2, 3, 4, 5, 6, 7, 8, 9, 10, 11, 12, 13, 14, 15, 16, 17, 18, 19, 20, 21, 22], [0, 1, 2, 3, 4, 5, 6, 7, 8, 9, 10, 11, 12, 13, 14, 15, 16, 17, 18, 19, 20, 21, 22, 23], [0, 1, 2, 3, 4, 5, 6, 7, 8, 9, 10, 11, 12, 13, 14, 15, 16, 17, 18, 19, 20, 21, 22, 23, 24], [0, 1, 2, 3, 4, 5, 6, 7, 8, 9, 10, 11, 12, 13, 14, 15, 16, 17, 18, 19, 20, 21, 22, 23, 24, 25], [0, 1, 2, 3, 4, 5, 6, 7, 8, 9, 10, 11, 12, 13, 14, 15, 16, 17, 18, 19, 20, 21, 22, 23, 24, 25], [0, 1, 2, 3, 4, 5, 6, 7, 8, 9, 10, 11, 12, 13, 14, 15, 16, 17, 18, 19, 20, 21, 22, 23, 24, 25, 26, 27], [0, 1, 2, 3, 4, 5, 6, 7, 8, 9, 10, 11, 12, 13, 14, 15, 16, 17, 18, 19, 20, 21, 22, 23, 24, 25, 26, 27, 28], [0, 1, 2, 3, 4, 5, 6, 7, 8, 9, 10, 11, 12, 13, 14, 15, 16, 17, 18, 19, 20, 21, 22, 23, 24, 25, 26, 27, 28, 29], [0, 1, 2, 3, 4, 5, 6, 7, 8, 9, 10, 11, 12, 13, 14, 15, 16, 17, 18, 19, 20, 21, 22, 23, 24, 25, 26, 27, 28, 29, 30], [0, 1, 2, 3, 4, 5, 6, 7, 8, 9, 10, 11, 12, 13, 14, 15, 16, 17, 18, 19, 20, 21, 22, 23, 24, 25], [0, 1, 2, 3, 4, 5, 6, 7, 8, 9, 10, 11, 12, 13, 14, 15, 16, 17, 18, 19, 20, 21, 22, 23, 24, 25], [0, 1, 2, 3, 4, 5, 6, 7, 8, 9, 10, 11, 12, 13, 14, 15, 16, 17, 18, 19, 20, 21, 22, 23, 24, 25, 32, 33], [0, 1, 2, 3, 4, 5, 6, 7, 8, 9, 10, 11, 12, 13, 14, 15, 16, 17, 18, 19, 20, 21, 22, 23, 24, 25, 32, 33, 34], [0, 1, 2, 3, 4, 5, 6, 7, 8, 9, 10, 11, 12, 13, 14, 15, 16, 17, 18, 19, 20, 21, 22, 23, 24, 25, 32, 33, 34, 35], [0, 1, 2, 3, 4, 5, 6, 7, 8, 9, 10, 11, 12, 13, 14, 15, 16, 17, 18, 19, 20, 21, 22, 23, 24, 25], [0, 1, 2, 3, 4, 5, 6, 7, 8, 9, 10, 11, 12, 13, 14, 15, 16, 17, 18, 19, 20, 21, 22, 23, 24, 25], [0, 1, 2, 3, 4, 5, 6, 7, 8, 9, 10, 11, 12, 13, 14, 15, 16, 17, 18, 19, 20, 21, 22, 23, 24, 25, 38], [0, 1, 2, 3, 4, 5, 6, 7, 8, 9, 10, 11, 12, 13, 14, 15, 16, 17, 18, 19, 20, 21, 22, 23, 24, 25, 37, 38, 39], [0, 1, 2, 3, 4, 5, 6, 7, 8, 9, 10, 11, 12, 13, 14, 15, 16, 17, 18, 19, 20, 21, 22, 23, 24, 25, 37, 38, 39, 40], [0, 1, 2, 3, 4, 5, 6, 7, 8, 9, 10, 11, 12, 13, 14, 15, 16, 17, 18, 19, 20, 21, 22, 23, 24, 25, 37, 38, 39, 40, 41], [0, 1, 2, 3, 4, 5, 6, 7, 8, 9, 10, 11, 12, 13, 14, 15, 16, 17, 18, 19, 20, 21, 22, 23, 24, 25, 32, 33, 34, 35, 36, 37, 38, 39, 40, 41, 42], [0, 1, 2, 3, 4, 5, 6, 7, 8, 9, 10, 11, 12, 13, 14, 15, 16, 17, 18, 19, 20, 21, 22, 23, 24, 25, 26, 27, 28, 29, 30, 31, 32, 33, 34, 35, 36, 37, 38, 39, 40, 41, 42, 43], [0, 1, 2, 3, 4, 5, 6, 7, 8, 9, 10, 11, 12, 13, 14, 15, 16, 17, 18, 19, 20, 21, 22, 23, 24, 25, 26, 27, 28, 29, 30, 31, 32, 33, 34, 35, 36, 37, 38, 39, 40, 41, 42, 43, 44]],
  [[], [], [1], [0, 2], [3], [4], [4], [4, 5, 6], [4, 7], [4, 8], [4, 9], [4], [4], [4, 11, 12], [4, 13], [4, 14], [4], [4], [4, 17], [4, 16, 18], [4, 19], [4, 20], [4, 15, 21], [4, 10, 22], [4, 23], [24], [25], [25], [25, 26, 27], [25, 28], [25, 29], [25, 30], [25], [25], [25, 32, 33], [25, 34], [25, 35], [25], [25], [25, 38], [25, 37, 39], [25, 40], [25, 41], [25, 36, 42], [25, 31, 43], [25, 44]],
  (.take 0 [] (.take 1 [] (.take 2 [] (.take 3 [] (.take 4 [] (.take 5 [] (.take 6 [] (.take 7 [] (.take 8 [] (.take 9 [] (.take 10 [] (.take 11 [] (.take 12 [] (.take 13 [] (.take 14 [] (.take 15 [] (.take 16 [] (.take 17 [] (.take 18 [] (.take 19 [] (.take 20 [] (.take 21 [] (.take 22 [] (.take 23 [] (.take 24 [] (.take 25 [] (.take 26 [] (.take 27 [] (.take 28 [] (.take 29 [] (.take 30 [] (.take 31 [] (.take 32 [] (.take 33 [] (.take 34 [] (.take 35 [] (.take 36 [] (.take 37 [] (.take 38 [] (.take 39 [] (.take 40 [] (.take 41 [] (.take 42 [] (.take 43 [] (.take 44 [] (.take 45 [] .done))))))))))))))))))))))))))))))))))))))))))))))⟩
def dt9x25 : DrawPlan := ⟨[[], [], [0, 1], [0, 1, 2], [], [4], [], [6], [0, 1, 2, 3, 4, 5, 6, 7], [0, 1, 2, 3, 4, 5, 6, 7, 8], [0, 1, 2, 3, 4, 5, 6, 7, 8, 9], [0, 1, 2, 3, 4, 5, 6, 7, 8, 9], [0, 1, 2, 3, 4, 5, 6, 7, 8, 9, 10], [0, 1, 2, 3, 4, 5, 6, 7, 8, 9, 10, 11, 12]],
  [[], [], [0, 1], [2], [], [4], [], [6], [], [8], [9], [9], [10], [11]],
  (.take 0 [] (.take 1 [] (.take 2 [] (.take 3 [] (.take 4 [] (.take 5 [] (.take 6 [] (.take 7 [] (.br 8 [] [] (.take 9 [] (.take 10 [] (.take 11 [] (.take 12 [] (.take 13 [] .done))))) .stop)))))))))⟩
def dt9x28 : DrawPlan := ⟨[[], [0], [0, 1], [0, 1, 2], [0, 1, 2, 3], [0, 1, 2], [0, 1, 2, 5], [0, 1, 2, 3, 4, 5, 6], [0, 1, 2, 3, 4, 5, 6, 7], [0, 1, 2, 3, 4, 5, 6, 7, 8], [0, 1, 2, 3, 4, 5, 6, 7, 8, 9], [0, 1, 2, 3, 4, 5, 6, 7, 8, 9], [0, 1, 2, 3, 4, 5, 6, 7, 8, 9, 10, 11], [0, 1, 2, 3, 4, 5, 6, 7, 8, 9, 10, 11, 12], [0, 1, 2, 3, 4, 5, 6, 7, 8, 9], [0, 1, 2, 3, 4, 5, 6, 7, 8, 9, 14], [0, 1, 2, 3, 4, 5, 6, 7, 8, 9], [0, 1, 2, 3, 4, 5, 6, 7, 8, 9, 16], [0, 1, 2, 3, 4, 5, 6, 7, 8, 9], [0, 1, 2, 3, 4, 5, 6, 7, 8, 9, 18], [0, 1, 2, 3, 4, 5, 6, 7, 8, 9, 18, 19], [0, 1, 2, 3, 4, 5, 6, 7, 8, 9], [0, 1, 2, 3, 4, 5, 6, 7, 8, 9, 21], [0, 1, 2, 3, 4, 5, 6, 7, 8, 9, 18, 19, 20, 21, 22], [0, 1, 2, 3, 4, 5, 6, 7, 8, 9, 16, 17, 18, 19, 20, 21, 22, 23], [0, 1, 2, 3, 4, 5, 6, 7, 8, 9, 14, 15, 16, 17, 18, 19, 20, 21, 22, 23, 24], [0, 1, 2, 3, 4, 5, 6, 7, 8, 9, 10, 11, 12, 13, 14, 15, 16, 17, 18, 19, 20, 21, 22, 23, 24, 25], [0, 1, 2, 3, 4, 5, 6, 7, 8, 9, 10, 11, 12, 13, 14, 15, 16, 17, 18, 19, 20, 21, 22, 23, 24, 25, 26], [0, 1, 2, 3, 4, 5, 6, 7, 8, 9, 10, 11, 12, 13, 14, 15, 16, 17, 18, 19, 20, 21, 22, 23, 24, 25, 26, 27], [0, 1, 2, 3, 4, 5, 6, 7, 8, 9, 10, 11, 12, 13, 14, 15, 16, 17, 18, 19, 20, 21, 22, 23, 24, 25, 26, 27, 28], [0, 1, 2, 3, 4, 5, 6, 7, 8, 9, 10, 11, 12, 13, 14, 15, 16, 17, 18, 19, 20, 21, 22, 23, 24, 25, 26, 27, 28, 29], [0, 1, 2, 3, 4, 5, 6, 7, 8, 9, 10, 11, 12, 13, 14, 15, 16, 17, 18, 19, 20, 21, 22, 23, 24, 25, 26, 27, 28, 29, 30], [0, 1, 2, 3, 4, 5, 6, 7, 8, 9, 10, 11, 12, 13, 14, 15, 16, 17, 18, 19, 20, 21, 22, 23, 24, 25, 26, 27, 28, 29, 30, 31], [0, 1, 2, 3, 4, 5, 6, 7, 8, 9, 10, 11, 12, 13, 14, 15, 16, 17, 18, 19, 20, 21, 22, 23, 24, 25, 26, 27, 28, 29, 30, 31, 32], [0, 1, 2, 3, 4, 5, 6, 7, 8, 9, 10, 11, 12, 13, 14, 15, 16, 17, 18, 19, 20, 21, 22, 23, 24, 25, 26, 27, 28, 29, 30, 31, 32, 33], [0, 1, 2, 3, 4, 5, 6, 7, 8, 9, 10, 11, 12, 13, 14, 15, 16, 17, 18, 19, 20, 21, 22, 23, 24, 25, 26, 27, 28, 29, 30, 31, 32, 33, 34], [0, 1, 2, 3, 4, 5, 6, 7, 8, 9, 10, 11, 12, 13, 14, 15, 16, 17, 18, 19, 20, 21, 22, 23, 24, 25, 26, 27, 28, 29, 30, 31, 32, 33, 34, 35], [0, 1, 2, 3, 4, 5, 6, 7, 8, 9, 10, 11, 12, 13, 14, 15, 16, 17, 18, 19, 20, 21, 22, 23, 24, 25, 26, 27, 28, 29, 30, 31, 32, 33, 34, 35, 36], [0, 1, 2, 3, 4, 5, 6, 7, 8, 9, 10, 11, 12, 13, 14, 15, 16, 17, 18, 19, 20, 21, 22, 23, 24, 25, 26, 27, 28, 29, 30, 31, 32, 33, 34, 35, 36, 37], [0, 1, 2, 3, 4, 5, 6, 7, 8, 9, 10, 11, 12, 13, 14, 15, 16, 17, 18, 19, 20, 21, 22, 23, 24, 25, 26, 27, 28, 29, 30, 31, 32, 33, 34, 35, 36], [0, 1, 2, 3, 4, 5, 6, 7, 8, 9, 10, 11, 12, 13, 14, 15, 16, 17, 18, 19, 20, 21, 22, 23, 24, 25, 26, 27, 28, 29, 30, 31, 32, 33, 34, 35, 36, 39], [0, 1, 2, 3, 4, 5, 6, 7, 8, 9, 10, 11, 12, 13, 14, 15, 16, 17, 18, 19, 20, 21, 22, 23, 24, 25, 26, 27, 28, 29, 30, 31, 32, 33, 34, 35, 36, 37, 38, 39, 40], [0, 1, 2, 3, 4, 5, 6, 7, 8, 9, 10, 11, 12, 13, 14, 15, 16, 17, 18, 19, 20, 21, 22, 23, 24, 25, 26, 27, 28, 29, 30, 31, 32, 33, 34, 35, 36, 37, 38, 39, 40, 41], [0, 1, 2, 3, 4, 5, 6, 7, 8, 9, 10, 11, 12, 13, 14, 15, 16, 17, 18, 19, 20, 21, 22, 23, 24, 25, 26, 27, 28, 29, 30, 31, 32, 33, 34, 35, 36, 37, 38, 39, 40, 41, 42], [0, 1, 2, 3, 4, 5, 6, 7, 8, 9, 10, 11, 12, 13, 14, 15, 16, 17, 18, 19, 20, 21, 22, 23, 24, 25, 26, 27, 28, 29, 30, 31, 32, 33, 34, 35, 36, 37, 38, 39, 40, 41, 42, 43], [0, 1, 2, 3, 4, 5, 6, 7, 8, 9, 10, 11, 12, 13, 14, 15, 16, 17, 18, 19, 20, 21, 22, 23, 24, 25, 26, 27, 28, 29, 30, 31, 32, 33, 34, 35, 36, 37, 38, 39, 40, 41, 42, 43], [0, 1, 2, 3, 4, 5, 6, 7, 8, 9, 10, 11, 12, 13, 14, 15, 16, 17, 18, 19, 20, 21, 22, 23, 24, 25, 26, 27, 28, 29, 30, 31, 32, 33, 34, 35, 36, 37, 38, 39, 40, 41, 42, 43, 44, 45], [0, 1, 2, 3, 4, 5, 6, 7, 8, 9, 10, 11, 12, 13, 14, 15, 16, 17, 18, 19, 20, 21, 22, 23, 24, 25, 26, 27, 28, 29, 30, 31, 32, 33, 34, 35, 36, 37, 38, 39, 40, 41, 42, 43, 44, 45, 46], [0, 1, 2, 3, 4, 5, 6, 7, 8, 9, 10, 11, 12, 13, 14, 15, 16, 17, 18, 19, 20, 21, 22, 23, 24, 25, 26, 27, 28, 29, 30, 31, 32, 33, 34, 35, 36, 37, 38, 39, 40, 41, 42, 43], [0, 1, 2, 3, 4, 5, 6, 7, 8, 9, 10, 11, 12, 13, 14, 15, 16, 17, 18, 19, 20, 21, 22, 23, 24, 25, 26, 27, 28, 29, 30, 31, 32, 33, 34, 35, 36, 37, 38, 39, 40, 41, 42, 43], [0, 1, 2, 3, 4, 5, 6, 7, 8, 9, 10, 11, 12, 13, 14, 15, 16, 17, 18, 19, 20, 21, 22, 23, 24, 25, 26, 27, 28, 29, 30, 31, 32, 33, 34, 35, 36, 37, 38, 39, 40, 41, 42, 43, 48, 49], [0, 1, 2, 3, 4, 5, 6, 7, 8, 9, 10, 11, 12, 13, 14, 15, 16, 17, 18, 19, 20, 21, 22, 23, 24, 25, 26, 27, 28, 29, 30, 31, 32, 33, 34, 35, 36, 37, 38, 39, 40, 41, 42, 43, 48, 49, 50], [0, 1, 2, 3, 4, 5, 6, 7, 8, 9, 10, 11, 12, 13, 14, 15, 16, 17, 18, 19, 20, 21, 22, 23, 24, 25, 26, 27, 28, 29, 30, 31, 32, 33, 34, 35, 36, 37, 38, 39, 40, 41, 42, 43, 44, 45, 46, 47, 48, 49, 50, 51], [0, 1, 2, 3, 4, 5, 6, 7, 8, 9, 10, 11, 12, 13, 14, 15, 16, 17, 18, 19, 20, 21, 22, 23, 24, 25, 26, 27, 28, 29, 30, 31, 32, 33, 34, 35, 36, 37, 38, 39, 40, 41, 42, 43, 44, 45, 46, 47, 48, 49, 50, 51, 52], [0, 1, 2, 3, 4, 5, 6, 7, 8, 9, 10, 11, 12, 13, 14, 15, 16, 17, 18, 19, 20, 21, 22, 23, 24, 25, 26, 27, 28, 29, 30, 31, 32, 33, 34, 35, 36, 37, 38, 39, 40, 41, 42, 43, 44, 45, 46, 47, 48, 49, 50, 51, 52, 53]],
  [[], [0], [1], [2], [2, 3], [2], [2, 5], [2, 4, 6], [2, 7], [8], [9], [9], [9, 10, 11], [9, 12], [9], [9, 14], [9], [9, 16], [9], [9, 18], [9, 19], [9], [9, 21], [9, 20, 22], [9, 17, 23], [9, 15, 24], [9, 13, 25], [9, 26], [27], [28], [28, 29], [28, 30], [31], [32], [32, 33], [32, 34], [35], [36], [36, 37], [36], [36, 39], [36, 38, 40], [36, 41], [42], [43], [43], [43, 44, 45], [43, 46], [43], [43], [43, 48, 49], [43, 50], [43, 47, 51], [43, 52], [53]],
  (.take 0 [] (.take 1 [] (.take 2 [] (.take 3 [] (.take 4 [] (.take 5 [] (.take 6 [] (.take 7 [] (.take 8 [] (.take 9 [] (.take 10 [] (.take 11 [] (.take 12 [] (.take 13 [] (.take 14 [] (.take 15 [] (.take 16 [] (.take 17 [] (.take 18 [] (.take 19 [] (.take 20 [] (.take 21 [] (.take 22 [] (.take 23 [] (.take 24 [] (.take 25 [] (.take 26 [] (.take 27 [] (.take 28 [] (.take 29 [] (.take 30 [] (.take 31 [] (.take 32 [] (.take 33 [] (.take 34 [] (.take 35 [] (.take 36 [] (.take 37 [] (.take 38 [] (.take 39 [] (.take 40 [] (.take 41 [] (.take 42 [] (.take 43 [] (.take 44 [] (.take 45 [] (.take 46 [] (.take 47 [] (.take 48 [] (.take 49 [] (.take 50 [] (.take 51 [] (.take 52 [] (.take 53 [] (.take 54 [] .done)))))))))))))))))))))))))))))))))))))))))))))))))))))))⟩
def dt11x10 : DrawPlan := ⟨[[], [0], [], [2], [0, 1, 2, 3], [], [5], [], [7], [], [9], [7, 8, 9, 10], [5, 6, 7, 8, 9, 10, 11], [0, 1, 2, 3, 4], [0, 1, 2, 3, 4, 5, 6, 7, 8, 9, 10, 11, 12, 13]],
  [[], [0], [], [2], [1, 3], [], [5], [], [7], [], [9], [8, 10], [6, 11], [4], [12]],
  (.take 0 [] (.take 1 [] (.take 2 [] (.take 3 [] (.take 4 [] (.take 5 [] (.take 6 [] (.take 7 [] (.take 8 [] (.take 9 [] (.take 10 [] (.take 11 [] (.take 12 [] (.take 13 [] (.take 14 [] .done)))))))))))))))⟩
def dt12x17 : DrawPlan := ⟨[[], [], [0, 1], [0, 1, 2], [0, 1, 2, 3], [0, 1, 2, 3, 4], [0, 1, 2, 3], [0, 1, 2, 3, 4, 5, 6], [0, 1, 2, 3, 4, 5, 6, 7], [0, 1, 2, 3, 4, 5, 6, 7, 8], [0, 1, 2, 3, 4, 5, 6, 7, 8, 9], [0, 1, 2, 3, 4, 5, 6, 7, 8, 9], [0, 1, 2, 3, 4, 5, 6, 7, 8, 9, 10, 11], [0, 1, 2, 3, 4, 5, 6, 7, 8, 9, 10, 11, 12], [0, 1, 2, 3, 4, 5, 6, 7, 8, 9, 10, 11, 12, 13], [0, 1, 2, 3, 4, 5, 6, 7, 8, 9, 10, 11, 12, 13, 14], [0, 1, 2, 3, 4, 5, 6, 7, 8, 9, 10, 11, 12, 13, 14], [0, 1, 2, 3, 4, 5, 6, 7, 8, 9, 10, 11, 12, 13, 14], [0, 1, 2, 3, 4, 5, 6, 7, 8, 9, 10, 11, 12, 13, 14], [0, 1, 2, 3, 4, 5, 6, 7, 8, 9, 10, 11, 12, 13, 14, 15, 16, 17, 18], [0, 1, 2, 3, 4, 5, 6, 7, 8, 9, 10, 11, 12, 13, 14, 15, 16, 17, 18, 19], [0, 1, 2, 3, 4, 5, 6, 7, 8, 9, 10, 11, 12, 13, 14, 15, 16, 17, 18, 19, 20]],
  [[], [], [0, 1], [2], [3], [], [3], [3, 5, 6], [3, 7], [8], [9], [9], [9, 10, 11], [9, 12], [13], [14], [14], [14], [14], [], [14, 19], [20]],
  (.take 0 [] (.take 1 [] (.take 2 [] (.take 3 [] (.take 4 [] (.take 6 [6] (.br 5 [6] [] (.take 7 [] (.take 8 [] (.take 9 [] (.take 10 [] (.take 11 [] (.take 12 [] (.take 13 [] (.take 14 [] (.take 15 [] (.take 16 [] (.take 17 [] (.take 18 [] (.br 19 [] [] (.take 20 [] (.take 21 [] .done)) .stop))))))))))))) .stop)))))))⟩
def dt13x7 : DrawPlan := ⟨[[], [0], [0, 1], [0, 1, 2], [0, 1, 2, 3], [0, 1, 2, 3, 4], [0, 1, 2, 3, 4, 5], [0, 1, 2, 3, 4, 5, 6], [0, 1, 2, 3, 4, 5, 6], [0, 1, 2, 3, 4, 5, 6], [0, 1, 2, 3, 4, 5, 6, 7, 8, 9], [0, 1, 2, 3, 4, 5, 6, 7, 8, 9, 10], [0, 1, 2, 3, 4, 5, 6, 7, 8, 9, 10, 11], [0, 1, 2, 3, 4, 5, 6, 7, 8, 9, 10, 11, 12], [0, 1, 2, 3, 4, 5, 6, 7, 8, 9, 10, 11, 12, 13], [0, 1, 2, 3, 4, 5, 6, 7, 8, 9, 10, 11, 12, 13], [0, 1, 2, 3, 4, 5, 6, 7, 8, 9, 10, 11, 12, 13], [0, 1, 2, 3, 4, 5, 6, 7, 8, 9, 10, 11, 12, 13, 16], [0, 1, 2, 3, 4, 5, 6, 7, 8, 9, 10, 11, 12, 13, 14, 15, 16, 17], [0, 1, 2, 3, 4, 5, 6, 7, 8, 9, 10, 11, 12, 13, 14, 15, 16, 17, 18], [0, 1, 2, 3, 4, 5, 6, 7, 8, 9, 10, 11, 12, 13, 14, 15, 16, 17, 18, 19], [0, 1, 2, 3, 4, 5, 6, 7, 8, 9, 10, 11, 12, 13, 14, 15, 16, 17, 18, 19, 20], [0, 1, 2, 3, 4, 5, 6, 7, 8, 9, 10, 11, 12, 13, 14, 15, 16, 17, 18, 19, 20, 21], [0, 1, 2, 3, 4, 5, 6, 7, 8, 9, 10, 11, 12, 13, 14, 15, 16, 17, 18, 19, 20, 21, 22], [0, 1, 2, 3, 4, 5, 6, 7, 8, 9, 10, 11, 12, 13, 14, 15, 16, 17, 18, 19, 20, 21, 22, 23], [0, 1, 2, 3, 4, 5, 6, 7, 8, 9, 10, 11, 12, 13, 14, 15, 16, 17, 18, 19, 20, 21, 22, 23, 24], [0, 1, 2, 3, 4, 5, 6, 7, 8, 9, 10, 11, 12, 13, 14, 15, 16, 17, 18, 19, 20, 21, 22, 23, 24, 25], [0, 1, 2, 3, 4, 5, 6, 7, 8, 9, 10, 11, 12, 13, 14, 15, 16, 17, 18, 19, 20, 21, 22, 23, 24, 25, 26], [0, 1, 2, 3, 4, 5, 6, 7, 8, 9, 10, 11, 12, 13, 14, 15, 16, 17, 18, 19, 20, 21, 22, 23, 24, 25, 26, 27], [0, 1, 2, 3, 4, 5, 6, 7, 8, 9, 10, 11, 12, 13, 14, 15, 16, 17, 18, 19, 20, 21, 22, 23, 24, 25, 26], [0, 1, 2, 3, 4, 5, 6, 7, 8, 9, 10, 11, 12, 13, 14, 15, 16, 17, 18, 19, 20, 21, 22, 23, 24, 25, 26, 27, 28, 29], [0, 1, 2, 3, 4, 5, 6, 7, 8, 9, 10, 11, 12, 13, 14, 15, 16, 17, 18, 19, 20, 21, 22, 23, 24, 25, 26, 27, 28, 29, 30]],
  [[], [0], [1], [2], [2, 3], [2, 4], [5], [6], [6], [6], [], [6, 10], [6, 11], [12], [13], [13], [13], [], [], [13, 18], [13, 19], [20], [21], [], [21, 23], [21, 24], [25], [26], [26, 27], [26], [26, 28, 29], [26, 30]],
  (.take 0 [] (.take 1 [] (.take 2 [] (.take 3 [] (.take 4 [] (.take 5 [] (.take 6 [] (.take 7 [] (.take 8 [] (.take 9 [] (.br 10 [] [] (.take 11 [] (.take 12 [] (.take 13 [] (.take 14 [14] (.take 15 [14] (.take 16 [14] (.br 17 [14] [] (.br 18 [] [] (.take 19 [] (.take 20 [] (.take 21 [] (.take 22 [] (.br 23 [] [] (.take 24 [] (.take 25 [] (.take 26 [] (.take 27 [] (.take 28 [] (.take 29 [] (.take 30 [] (.take 31 [] .done)))))))) .stop))))) .stop) .stop))))))) .stop)))))))))))⟩
def dt13x32 : DrawPlan := ⟨[[], [0], [0, 1], [0, 1, 2], [0, 1, 2, 3], [0, 1, 2, 3], [0, 1, 2, 3], [0, 1, 2, 3, 6], [0, 1, 2, 3, 4, 5, 6, 7], [0, 1, 2, 3, 4, 5, 6, 7, 8]],
  [[], [0], [1], [2], [3], [3], [3], [], [], [3, 8]],
  (.take 0 [] (.take 1 [] (.take 2 [] (.take 3 [] (.take 4 [4] (.take 5 [5, 4] (.take 6 [5, 4] (.br 7 [5, 4] [] (.br 8 [] [] (.take 9 [] .done) .stop) .stop))))))))⟩
def dt16x8 : DrawPlan := ⟨[[], [], [1], [], [3], [1, 2, 3, 4], [1, 2, 3, 4, 5], [], [7], [1, 2, 3, 4, 5, 6, 7, 8], [0, 1, 2, 3, 4, 5, 6, 7, 8, 9]],
  [[], [], [1], [], [3], [2, 4], [], [], [7], [6, 8], []],
  (.take 0 [] (.take 1 [] (.take 2 [] (.take 3 [] (.take 4 [] (.take 5 [] (.take 7 [] (.take 8 [] (.br 6 [] [] (.take 9 [] (.br 10 [] [] .done .stop)) .stop)))))))))⟩
def dt20x7 : DrawPlan := ⟨[[], [0], [], [2], [0, 1, 2, 3], [0, 1, 2, 3, 4], [0, 1, 2, 3, 4, 5], [0, 1, 2, 3, 4, 5], [0, 1, 2, 3, 4, 5, 7], [0, 1, 2, 3, 4, 5, 6, 7, 8], [0, 1, 2, 3, 4, 5], [0, 1, 2, 3, 4, 5], [0, 1, 2, 3, 4, 5, 10, 11], [0, 1, 2, 3, 4, 5, 6, 7, 8, 9, 10, 11, 12], [0, 1, 2, 3, 4, 5, 6, 7, 8, 9, 10, 11, 12, 13]],
  [[], [0], [], [2], [1, 3], [4], [5], [5], [5, 7], [5, 6, 8], [5], [5], [5, 10, 11], [5, 9, 12], [5, 13]],
  (.take 0 [] (.take 1 [] (.take 2 [] (.take 3 [] (.take 4 [] (.take 5 [] (.take 6 [] (.take 7 [] (.take 8 [] (.take 9 [] (.take 10 [] (.take 11 [] (.take 12 [] (.take 13 [] (.take 14 [] .done)))))))))))))))⟩
def dt20x8 : DrawPlan := ⟨[[], [], [1], [0, 1, 2], [], [], [], [6], [4, 5, 6, 7], [0, 1, 2, 3, 4, 5, 6, 7, 8], [0, 1, 2, 3, 4, 5, 6, 7, 8, 9]],
  [[], [], [], [0, 2], [], [], [], [6], [4, 5, 7], [3, 8], [0, 9]],
  (.take 0 [] (.take 1 [] (.take 4 [] (.take 5 [] (.take 6 [] (.take 7 [] (.take 8 [] (.br 2 [] [] (.take 3 [] (.take 9 [] (.take 10 [] .done))) .stop))))))))⟩
def dt27x5 : DrawPlan := ⟨[[], [0], [], [0, 1, 2], [], [], [4, 5], [0, 1, 2, 3, 4, 5, 6], [], [], [8, 9], [], [], [11, 12], [8, 9, 10, 11, 12, 13], [0, 1, 2, 3, 4, 5, 6, 7, 8, 9, 10, 11, 12, 13, 14]],
  [[], [0], [], [1, 2], [], [], [4, 5], [3, 6], [], [], [8, 9], [], [], [11, 12], [10, 13], [7, 14]],
  (.take 0 [] (.take 1 [] (.take 2 [] (.take 3 [] (.take 4 [] (.take 5 [] (.take 6 [] (.take 7 [] (.take 8 [] (.take 9 [] (.take 10 [] (.take 11 [] (.take 12 [] (.take 13 [] (.take 14 [] (.take 15 [] .done))))))))))))))))⟩
def dt36x10 : DrawPlan := ⟨[[], [], [], [2], [2, 3], [], [5], [5, 6], [1, 2, 3, 4, 5, 6, 7], [], [], [10], [10, 11], [], [13], [13, 14], [1, 2, 3, 4, 5, 6, 7, 8, 9, 10, 11, 12, 13, 14, 15], [1, 2, 3, 4, 5, 6, 7, 8, 9, 10, 11, 12, 13, 14, 15, 16], [1, 2, 3, 4, 5, 6, 7, 8, 9, 10, 11, 12, 13, 14, 15, 16, 17], [0, 1, 2, 3, 4, 5, 6, 7, 8, 9, 10, 11, 12, 13, 14, 15, 16, 17, 18], [0, 1, 2, 3, 4, 5, 6, 7, 8, 9, 10, 11, 12, 13, 14, 15, 16, 17, 18, 19]],
  [[], [], [], [2], [3], [], [5], [6], [], [], [], [10], [11], [], [13], [14], [], [8, 16], [17], [], [0, 19]],
  (.take 0 [] (.take 1 [] (.take 2 [] (.take 3 [] (.take 4 [] (.take 5 [] (.take 6 [] (.take 7 [] (.take 9 [] (.take 10 [] (.take 11 [] (.take 12 [12] (.take 13 [12] (.take 14 [12] (.take 15 [15, 12] (.br 8 [15, 12] [] (.br 16 [] [] (.take 17 [] (.take 18 [] (.br 19 [] [] (.take 20 [] .done) .stop))) .stop) .stop))))))))))))))))⟩
def dt38x6 : DrawPlan := ⟨[[], [], [0, 1], [0, 1, 2], [], [], [4, 5], [4, 5, 6], [0, 1, 2, 3, 4, 5, 6, 7]],
  [[], [], [0, 1], [2], [], [], [4, 5], [6], [3, 7]],
  (.take 0 [] (.take 1 [] (.take 2 [] (.take 3 [] (.take 4 [] (.take 5 [] (.take 6 [] (.take 7 [] (.take 8 [] .done)))))))))⟩
def dt40x6 : DrawPlan := ⟨[[], [], [0, 1], [0, 1, 2], [], [], [4, 5], [4, 5, 6], [0, 1, 2, 3, 4, 5, 6, 7]],
  [[], [], [0, 1], [2], [], [], [4, 5], [6], [3, 7]],
  (.take 0 [] (.take 1 [] (.take 2 [] (.take 3 [] (.take 4 [] (.take 5 [] (.take 6 [] (.take 7 [] (.take 8 [] .done)))))))))⟩
def dt41x6 : DrawPlan := ⟨[[], [], [1], [0, 1, 2], [0, 1, 2, 3], [0, 1, 2, 3, 4], [], [], [6, 7], [6, 7, 8], [6, 7, 8, 9], [0, 1, 2, 3, 4, 5, 6, 7, 8, 9, 10], [0, 1, 2, 3, 4, 5, 6, 7, 8, 9, 10, 11]],
  [[], [], [1], [0, 2], [3], [4], [], [], [6, 7], [8], [9], [5, 10], [11]],
  (.take 0 [] (.take 1 [] (.take 2 [] (.take 3 [] (.take 4 [] (.take 5 [] (.take 6 [] (.take 7 [] (.take 8 [] (.take 9 [] (.take 10 [] (.take 11 [] (.take 12 [] .done)))))))))))))⟩
def dt41x7 : DrawPlan := ⟨[[], [], [], [1, 2], [1, 2, 3], [1, 2, 3, 4], [], [], [6, 7], [6, 7, 8], [6, 7, 8, 9], [], [], [12], [11, 12, 13], [11, 12, 13, 14], [11, 12, 13, 14, 15], [], [], [17, 18], [17, 18, 19], [17, 18, 19, 20], [11, 12, 13, 14, 15, 16, 17, 18, 19, 20, 21], [1, 2, 3, 4, 5, 6, 7, 8, 9, 10, 11, 12, 13, 14, 15, 16, 17, 18, 19, 20, 21, 22], [1, 2, 3, 4, 5, 6, 7, 8, 9, 10, 11, 12, 13, 14, 15, 16, 17, 18, 19, 20, 21, 22, 23], [0, 1, 2, 3, 4, 5, 6, 7, 8, 9, 10, 11, 12, 13, 14, 15, 16, 17, 18, 19, 20, 21, 22, 23, 24], [0, 1, 2, 3, 4, 5, 6, 7, 8, 9, 10, 11, 12, 13, 14, 15, 16, 17, 18, 19, 20, 21, 22, 23, 24, 25]],
  [[], [], [], [1, 2], [3], [4], [], [], [6, 7], [8], [9], [], [], [12], [11, 13], [14], [15], [], [], [17, 18], [19], [20], [16, 21], [5, 10, 22], [23], [], [0, 25]],
  (.take 0 [] (.take 1 [] (.take 2 [] (.take 3 [] (.take 4 [] (.take 5 [] (.take 6 [] (.take 7 [] (.take 8 [] (.take 9 [] (.take 10 [] (.take 11 [] (.take 12 [] (.take 13 [] (.take 14 [] (.take 15 [] (.take 16 [] (.take 17 [] (.take 18 [] (.take 19 [] (.take 20 [] (.take 21 [] (.take 22 [] (.take 23 [] (.take 24 [] (.br 25 [] [] (.take 26 [] .done) .stop))))))))))))))))))))))))))⟩
def dt42x6 : DrawPlan := ⟨[[], [], [0, 1], [0, 1, 2], [], [], [4, 5], [4, 5, 6], [0, 1, 2, 3, 4, 5, 6, 7]],
  [[], [], [0, 1], [2], [], [], [4, 5], [6], [3, 7]],
  (.take 0 [] (.take 1 [] (.take 2 [] (.take 3 [] (.take 4 [] (.take 5 [] (.take 6 [] (.take 7 [] (.take 8 [] .done)))))))))⟩
def dt43x6 : DrawPlan := ⟨[[], [], [1], [0, 1, 2], [0, 1, 2, 3], [0, 1, 2, 3, 4], [], [], [6, 7], [6, 7, 8], [6, 7, 8, 9], [0, 1, 2, 3, 4, 5, 6, 7, 8, 9, 10], [0, 1, 2, 3, 4, 5, 6, 7, 8, 9, 10, 11]],
  [[], [], [1], [0, 2], [3], [4], [], [], [6, 7], [8], [9], [5, 10], [11]],
  (.take 0 [] (.take 1 [] (.take 2 [] (.take 3 [] (.take 4 [] (.take 5 [] (.take 6 [] (.take 7 [] (.take 8 [] (.take 9 [] (.take 10 [] (.take 11 [] (.take 12 [] .done)))))))))))))⟩
def dt43x7 : DrawPlan := ⟨[[], [], [], [1, 2], [1, 2, 3], [1, 2, 3, 4], [], [], [7], [6, 7, 8], [6, 7, 8, 9], [6, 7, 8, 9, 10], [1, 2, 3, 4, 5, 6, 7, 8, 9, 10, 11], [1, 2, 3, 4, 5, 6, 7, 8, 9, 10, 11, 12], [], [], [14, 15], [14, 15, 16], [14, 15, 16, 17], [], [], [20], [19, 20, 21], [19, 20, 21, 22], [19, 20, 21, 22, 23], [14, 15, 16, 17, 18, 19, 20, 21, 22, 23, 24], [14, 15, 16, 17, 18, 19, 20, 21, 22, 23, 24, 25], [1, 2, 3, 4, 5, 6, 7, 8, 9, 10, 11, 12, 13, 14, 15, 16, 17, 18, 19, 20, 21, 22, 23, 24, 25, 26], [1, 2, 3, 4, 5, 6, 7, 8, 9, 10, 11, 12, 13, 14, 15, 16, 17, 18, 19, 20, 21, 22, 23, 24, 25, 26, 27], [0, 1, 2, 3, 4, 5, 6, 7, 8, 9, 10, 11, 12, 13, 14, 15, 16, 17, 18, 19, 20, 21, 22, 23, 24, 25, 26, 27, 28], [0, 1, 2, 3, 4, 5, 6, 7, 8, 9, 10, 11, 12, 13, 14, 15, 16, 17, 18, 19, 20, 21, 22, 23, 24, 25, 26, 27, 28, 29]],
  [[], [], [], [1, 2], [3], [4], [], [], [7], [6, 8], [9], [10], [5, 11], [12], [], [], [14, 15], [16], [17], [], [], [20], [19, 21], [22], [23], [18, 24], [25], [13, 26], [27], [], [0, 29]],
  (.take 0 [] (.take 1 [] (.take 2 [] (.take 3 [] (.take 4 [] (.take 5 [] (.take 6 [] (.take 7 [] (.take 8 [] (.take 9 [] (.take 10 [] (.take 11 [] (.take 12 [] (.take 13 [] (.take 14 [] (.take 15 [] (.take 16 [] (.take 17 [] (.take 18 [] (.take 19 [] (.take 20 [] (.take 21 [] (.take 22 [] (.take 23 [] (.take 24 [] (.take 25 [] (.take 26 [] (.take 27 [] (.take 28 [] (.br 29 [] [] (.take 30 [] .done) .stop))))))))))))))))))))))))))))))⟩
def dt48x7 : DrawPlan := ⟨[[], [], [0, 1], [], [3], [], [3, 4, 5], [0, 1, 2], [0, 1, 2, 3, 4, 5, 6, 7], [0, 1, 2, 3, 4, 5, 6, 7, 8]],
  [[], [], [0, 1], [], [3], [], [4, 5], [2], [6], []],
  (.take 0 [] (.take 1 [] (.take 2 [] (.take 3 [] (.take 4 [] (.take 5 [] (.take 6 [] (.take 7 [] (.take 8 [] (.take 9 [] .done))))))))))⟩
def dt50x4 : DrawPlan := ⟨[[], [0], [], [0, 1, 2], [0, 1, 2, 3], [0, 1, 2, 3, 4], [0, 1, 2, 3, 4, 5], [0, 1, 2, 3, 4, 5], [0, 1, 2, 3, 4, 5, 6, 7], [0, 1, 2, 3, 4, 5], [0, 1, 2, 3, 4, 5, 9], [0, 1, 2, 3, 4, 5], [0, 1, 2, 3, 4, 5, 9, 10, 11], [0, 1, 2, 3, 4, 5, 6, 7, 8, 9, 10, 11, 12], [0, 1, 2, 3, 4, 5], [0, 1, 2, 3, 4, 5, 6, 7, 8, 9, 10, 11, 12, 13, 14], [0, 1, 2, 3, 4, 5, 6, 7, 8, 9, 10, 11, 12, 13, 14, 15]],
  [[], [0], [], [1, 2], [3], [4], [5], [5], [5, 6, 7], [5], [5, 9], [5], [5, 10, 11], [], [5], [5, 13, 14], [5, 15]],
  (.take 0 [] (.take 1 [] (.take 2 [] (.take 3 [] (.take 4 [] (.take 5 [] (.take 6 [] (.take 7 [] (.take 8 [] (.take 9 [] (.take 10 [] (.take 11 [] (.take 12 [] (.take 14 [] (.br 13 [] [] (.take 15 [] (.take 16 [] .done)) .stop)))))))))))))))⟩
def dt50x5 : DrawPlan := ⟨[[], [], [0, 1], [], [3], [], [3, 4, 5], [0, 1, 2], [0, 1, 2, 3, 4, 5, 6, 7]],
  [[], [], [0, 1], [], [3], [], [4, 5], [2], [6]],
  (.take 0 [] (.take 1 [] (.take 2 [] (.take 3 [] (.take 4 [] (.take 5 [] (.take 6 [] (.take 7 [] (.take 8 [] .done)))))))))⟩
def dt52x13 : DrawPlan := ⟨[[], [], [], [], [2, 3], [0, 1, 2, 3, 4], [], [], [6, 7], [0, 1, 2, 3, 4, 5, 6, 7, 8], [0, 1, 2, 3, 4, 5, 6, 7, 8, 9]],
  [[], [], [], [], [2, 3], [0, 1, 4], [], [], [6, 7], [], [9]],
  (.take 0 [] (.take 1 [] (.take 2 [] (.take 3 [] (.take 4 [] (.take 5 [] (.take 6 [] (.take 7 [] (.take 8 [] (.br 9 [] [] (.take 10 [] .done) .stop))))))))))⟩
def dt54x2 : DrawPlan := ⟨[[], [], [0, 1], [], [], [3, 4], [0, 1, 2, 3, 4, 5], [0, 1, 2, 3, 4, 5, 6]],
  [[], [], [0, 1], [], [], [3, 4], [2, 5], [6]],
  (.take 0 [] (.take 1 [] (.take 2 [] (.take 3 [] (.take 4 [] (.take 5 [] (.take 6 [] (.take 7 [] .done))))))))⟩
def dt56x4 : DrawPlan := ⟨[[], [0], [], [2], [], [4], [], [], [], [0, 1, 4, 5, 6, 7, 8], [0, 1, 2, 3, 4, 5, 6, 7, 8, 9], [0, 1, 2, 3, 4, 5, 6, 7, 8, 9, 10]],
  [[], [0], [], [2], [], [], [], [], [], [], [], []],
  (.take 0 [0] (.take 1 [1, 0] (.take 2 [2, 1, 0] (.take 3 [3, 2, 1, 0] (.take 4 [4, 3, 2, 1, 0] (.br 5 [3, 1] [4, 3, 2, 1, 0] (.br 6 [4, 3, 2, 1, 0] [4, 3, 2, 1, 0] (.br 7 [4, 3, 2, 1, 0] [4, 3, 2, 1, 0] (.br 8 [4, 3, 2, 1, 0] [3] (.br 9 [3] [] (.br 10 [] [] (.br 11 [] [] .done .stop) .stop) .stop) .stop) (.br 8 [4, 3, 2, 1, 0] [4, 3, 2, 1, 0] (.br 7 [4, 3, 2, 1, 0] [3] (.br 9 [3] [] (.br 10 [] [] (.br 11 [] [] .done .stop) .stop) .stop) .stop) .stop)) (.br 7 [4, 3, 2, 1, 0] [4, 3, 2, 1, 0] (.br 6 [4, 3, 2, 1, 0] [4, 3, 2, 1, 0] (.br 8 [4, 3, 2, 1, 0] [3] (.br 9 [3] [] (.br 10 [] [] (.br 11 [] [] .done .stop) .stop) .stop) .stop) (.br 8 [4, 3, 2, 1, 0] [4, 3, 2, 1, 0] (.br 6 [4, 3, 2, 1, 0] [3] (.br 9 [3] [] (.br 10 [] [] (.br 11 [] [] .done .stop) .stop) .stop) .stop) .stop)) (.br 8 [4, 3, 2, 1, 0] [4, 3, 2, 1, 0] (.br 6 [4, 3, 2, 1, 0] [4, 3, 2, 1, 0] (.br 7 [4, 3, 2, 1, 0] [3] (.br 9 [3] [] (.br 10 [] [] (.br 11 [] [] .done .stop) .stop) .stop) .stop) (.br 7 [4, 3, 2, 1, 0] [4, 3, 2, 1, 0] (.br 6 [4, 3, 2, 1, 0] [3] (.br 9 [3] [] (.br 10 [] [] (.br 11 [] [] .done .stop) .stop) .stop) .stop) .stop)) .stop))) (.br 6 [4, 3, 2, 1, 0] [4, 3, 2, 1, 0] (.br 5 [3, 1] [4, 3, 2, 1, 0] (.br 7 [4, 3, 2, 1, 0] [4, 3, 2, 1, 0] (.br 8 [4, 3, 2, 1, 0] [3] (.br 9 [3] [] (.br 10 [] [] (.br 11 [] [] .done .stop) .stop) .stop) .stop) (.br 8 [4, 3, 2, 1, 0] [4, 3, 2, 1, 0] (.br 7 [4, 3, 2, 1, 0] [3] (.br 9 [3] [] (.br 10 [] [] (.br 11 [] [] .done .stop) .stop) .stop) .stop) .stop)) (.br 7 [4, 3, 2, 1, 0] [4, 3, 2, 1, 0] (.br 5 [3, 1] [4, 3, 2, 1, 0] (.br 8 [4, 3, 2, 1, 0] [3] (.br 9 [3] [] (.br 10 [] [] (.br 11 [] [] .done .stop) .stop) .stop) .stop) (.br 8 [4, 3, 2, 1, 0] [3, 1] (.br 5 [3, 1] [3] (.br 9 [3] [] (.br 10 [] [] (.br 11 [] [] .done .stop) .stop) .stop) .stop) .stop)) (.br 8 [4, 3, 2, 1, 0] [4, 3, 2, 1, 0] (.br 5 [3, 1] [4, 3, 2, 1, 0] (.br 7 [4, 3, 2, 1, 0] [3] (.br 9 [3] [] (.br 10 [] [] (.br 11 [] [] .done .stop) .stop) .stop) .stop) (.br 7 [4, 3, 2, 1, 0] [3, 1] (.br 5 [3, 1] [3] (.br 9 [3] [] (.br 10 [] [] (.br 11 [] [] .done .stop) .stop) .stop) .stop) .stop)) .stop))) (.br 7 [4, 3, 2, 1, 0] [4, 3, 2, 1, 0] (.br 5 [3, 1] [4, 3, 2, 1, 0] (.br 6 [4, 3, 2, 1, 0] [4, 3, 2, 1, 0] (.br 8 [4, 3, 2, 1, 0] [3] (.br 9 [3] [] (.br 10 [] [] (.br 11 [] [] .done .stop) .stop) .stop) .stop) (.br 8 [4, 3, 2, 1, 0] [4, 3, 2, 1, 0] (.br 6 [4, 3, 2, 1, 0] [3] (.br 9 [3] [] (.br 10 [] [] (.br 11 [] [] .done .stop) .stop) .stop) .stop) .stop)) (.br 6 [4, 3, 2, 1, 0] [4, 3, 2, 1, 0] (.br 5 [3, 1] [4, 3, 2, 1, 0] (.br 8 [4, 3, 2, 1, 0] [3] (.br 9 [3] [] (.br 10 [] [] (.br 11 [] [] .done .stop) .stop) .stop) .stop) (.br 8 [4, 3, 2, 1, 0] [3, 1] (.br 5 [3, 1] [3] (.br 9 [3] [] (.br 10 [] [] (.br 11 [] [] .done .stop) .stop) .stop) .stop) .stop)) (.br 8 [4, 3, 2, 1, 0] [4, 3, 2, 1, 0] (.br 5 [3, 1] [4, 3, 2, 1, 0] (.br 6 [4, 3, 2, 1, 0] [3] (.br 9 [3] [] (.br 10 [] [] (.br 11 [] [] .done .stop) .stop) .stop) .stop) (.br 6 [4, 3, 2, 1, 0] [3, 1] (.br 5 [3, 1] [3] (.br 9 [3] [] (.br 10 [] [] (.br 11 [] [] .done .stop) .stop) .stop) .stop) .stop)) .stop))) (.br 8 [4, 3, 2, 1, 0] [4, 3, 2, 1, 0] (.br 5 [3, 1] [4, 3, 2, 1, 0] (.br 6 [4, 3, 2, 1, 0] [4, 3, 2, 1, 0] (.br 7 [4, 3, 2, 1, 0] [3] (.br 9 [3] [] (.br 10 [] [] (.br 11 [] [] .done .stop) .stop) .stop) .stop) (.br 7 [4, 3, 2, 1, 0] [4, 3, 2, 1, 0] (.br 6 [4, 3, 2, 1, 0] [3] (.br 9 [3] [] (.br 10 [] [] (.br 11 [] [] .done .stop) .stop) .stop) .stop) .stop)) (.br 6 [4, 3, 2, 1, 0] [4, 3, 2, 1, 0] (.br 5 [3, 1] [4, 3, 2, 1, 0] (.br 7 [4, 3, 2, 1, 0] [3] (.br 9 [3] [] (.br 10 [] [] (.br 11 [] [] .done .stop) .stop) .stop) .stop) (.br 7 [4, 3, 2, 1, 0] [3, 1] (.br 5 [3, 1] [3] (.br 9 [3] [] (.br 10 [] [] (.br 11 [] [] .done .stop) .stop) .stop) .stop) .stop)) (.br 7 [4, 3, 2, 1, 0] [4, 3, 2, 1, 0] (.br 5 [3, 1] [4, 3, 2, 1, 0] (.br 6 [4, 3, 2, 1, 0] [3] (.br 9 [3] [] (.br 10 [] [] (.br 11 [] [] .done .stop) .stop) .stop) .stop) (.br 6 [4, 3, 2, 1, 0] [3, 1] (.br 5 [3, 1] [3] (.br 9 [3] [] (.br 10 [] [] (.br 11 [] [] .done .stop) .stop) .stop) .stop) .stop)) .stop))) .stop)))))))))⟩
def dt60x1 : DrawPlan := ⟨[[], [0], [], [0, 1, 2], [0, 1, 2, 3], [0, 1, 2, 3, 4], [0, 1, 2, 3, 4, 5], [0, 1, 2, 3, 4, 5, 6], [0, 1, 2, 3, 4, 5], [0, 1, 2, 3, 4, 5, 6, 7, 8], [0, 1, 2, 3, 4, 5, 6, 7, 8, 9], [0, 1, 2, 3, 4, 5, 6, 7, 8, 9, 10], [0, 1, 2, 3, 4, 5, 6, 7, 8, 9, 10, 11], [0, 1, 2, 3, 4, 5, 6, 7, 8, 9, 10, 11, 12], [0, 1, 2, 3, 4, 5, 6, 7, 8, 9, 10, 11, 12, 13], [0, 1, 2, 3, 4, 5, 6, 7, 8, 9, 10, 11, 12], [0, 1, 2, 3, 4, 5, 6, 7, 8, 9, 10, 11, 12, 15], [0, 1, 2, 3, 4, 5, 6, 7, 8, 9, 10, 11, 12, 13, 14, 15, 16], [0, 1, 2, 3, 4, 5, 6, 7, 8, 9, 10, 11, 12, 13, 14, 15, 16, 17], [0, 1, 2, 3, 4, 5, 6, 7, 8, 9, 10, 11, 12, 13, 14, 15, 16, 17, 18], [0, 1, 2, 3, 4, 5, 6, 7, 8, 9, 10, 11, 12, 13, 14, 15, 16, 17, 18, 19], [0, 1, 2, 3, 4, 5, 6, 7, 8, 9, 10, 11, 12, 13, 14, 15, 16, 17, 18, 19, 20], [0, 1, 2, 3, 4, 5, 6, 7, 8, 9, 10, 11, 12, 13, 14, 15, 16, 17, 18, 19, 20, 21], [0, 1, 2, 3, 4, 5, 6, 7, 8, 9, 10, 11, 12, 13, 14, 15, 16, 17, 18, 19, 20], [0, 1, 2, 3, 4, 5, 6, 7, 8, 9, 10, 11, 12, 13, 14, 15, 16, 17, 18, 19, 20, 23], [0, 1, 2, 3, 4, 5, 6, 7, 8, 9, 10, 11, 12, 13, 14, 15, 16, 17, 18, 19, 20, 21, 22, 23, 24], [0, 1, 2, 3, 4, 5, 6, 7, 8, 9, 10, 11, 12, 13, 14, 15, 16, 17, 18, 19, 20, 21, 22, 23, 24, 25], [0, 1, 2, 3, 4, 5, 6, 7, 8, 9, 10, 11, 12, 13, 14, 15, 16, 17, 18, 19, 20, 21, 22, 23, 24, 25, 26]],
  [[], [0], [], [], [3], [4], [5], [5, 6], [5], [], [5, 9], [5, 10], [11], [12], [12, 13], [12], [], [], [12, 17], [12, 18], [19], [20], [20, 21], [20], [], [], [20, 25], [20, 26]],
  (.take 0 [] (.take 1 [] (.take 2 [] (.br 3 [] [] (.take 4 [] (.take 5 [] (.take 6 [] (.take 7 [] (.take 8 [] (.br 9 [] [] (.take 10 [] (.take 11 [] (.take 12 [] (.take 13 [] (.take 14 [14] (.take 15 [14] (.br 16 [14] [] (.br 17 [] [] (.take 18 [] (.take 19 [] (.take 20 [] (.take 21 [] (.take 22 [22] (.take 23 [22] (.br 24 [22] [] (.br 25 [] [] (.take 26 [] (.take 27 [] .done)) .stop) .stop))))))) .stop) .stop))))))) .stop)))))) .stop))))⟩
def dt62x2 : DrawPlan := ⟨[[], [], [], [1, 2], [0, 1], [0, 1, 2, 3, 4]],
  [[], [], [], [1, 2], [0, 1], [0, 2, 3]],
  (.take 0 [] (.take 1 [] (.take 2 [] (.take 3 [] (.take 4 [] (.take 5 [] .done))))))⟩
def dt64x1 : DrawPlan := ⟨[[], [0], [], [2], [0, 1, 2, 3], [], [5], [], [7], [5, 6, 7, 8], [0, 1, 2, 3, 4, 5, 6, 7, 8, 9], [], [11], [], [13], [11, 12, 13, 14], [], [16], [], [18], [16, 17, 18, 19], [11, 12, 13, 14, 15, 16, 17, 18, 19, 20], [0, 1, 2, 3, 4, 5, 6, 7, 8, 9, 10], [0, 1, 2, 3, 4, 5, 6, 7, 8, 9, 10, 11, 12, 13, 14, 15, 16, 17, 18, 19, 20, 21, 22]],
  [[], [0], [], [2], [1, 3], [], [5], [], [7], [6, 8], [4, 9], [], [11], [], [13], [12, 14], [], [16], [], [18], [17, 19], [15, 20], [10], [21]],
  (.take 0 [] (.take 1 [] (.take 2 [] (.take 3 [] (.take 4 [] (.take 5 [] (.take 6 [] (.take 7 [] (.take 8 [] (.take 9 [] (.take 10 [] (.take 11 [] (.take 12 [] (.take 13 [] (.take 14 [] (.take 15 [] (.take 16 [] (.take 17 [] (.take 18 [] (.take 19 [] (.take 20 [] (.take 21 [] (.take 22 [] (.take 23 [] .done))))))))))))))))))))))))⟩
def dt69x2 : DrawPlan := ⟨[[], [0], [], [2], [0, 1, 2, 3], [], [5], [], [7], [5, 6, 7, 8], [0, 1, 2, 3, 4], [0, 1, 2, 3, 4, 5, 6, 7, 8, 9, 10]],
  [[], [0], [], [2], [1, 3], [], [5], [], [7], [6, 8], [4], [9]],
  (.take 0 [] (.take 1 [] (.take 2 [] (.take 3 [] (.take 4 [] (.take 5 [] (.take 6 [] (.take 7 [] (.take 8 [] (.take 9 [] (.take 10 [] (.take 11 [] .done))))))))))))⟩
def dt74x1 : DrawPlan := ⟨[[], [0], [0, 1], [0, 1, 2], [0, 1, 2, 3], [], [5], [5, 6], [5, 6, 7], [5, 6, 7, 8], [0, 1, 2, 3, 4, 5, 6, 7, 8, 9], [0, 1, 2, 3, 4, 5, 6, 7, 8, 9, 10]],
  [[], [0], [1], [2], [], [], [5], [6], [7], [8], [], [10]],
  (.take 0 [] (.take 1 [] (.take 2 [] (.take 3 [] (.take 5 [] (.take 6 [] (.take 7 [] (.take 8 [8] (.take 9 [9, 8] (.br 4 [9, 8] [] (.br 10 [] [] (.take 11 [] .done) .stop) .stop))))))))))⟩
def dt86x6 : DrawPlan := ⟨[[], [0], [], [0, 1, 2], [], [0, 1, 2, 3, 4], [], [], [6, 7], [], [6, 7, 8, 9], [0, 1, 2, 3, 4, 5, 6, 7, 8, 9, 10]],
  [[], [0], [], [1, 2], [], [3, 4], [], [], [6, 7], [], [8, 9], [5, 10]],
  (.take 0 [] (.take 1 [] (.take 2 [] (.take 3 [] (.take 4 [] (.take 5 [] (.take 6 [] (.take 7 [] (.take 8 [] (.take 9 [] (.take 10 [] (.take 11 [] .done))))))))))))⟩
def dt90x1 : DrawPlan := ⟨[[], [0], [0, 1], [], [3], [0, 1, 2, 3, 4], [0, 1, 2, 3, 4, 5], [0, 1, 2, 3, 4, 5, 6], [0, 1, 2, 3, 4, 5, 6, 7]],
  [[], [0], [], [], [3], [], [2, 5], [], [7]],
  (.take 0 [] (.take 1 [] (.take 3 [] (.take 4 [4] (.br 2 [4] [] (.br 5 [] [] (.take 6 [] (.br 7 [] [] (.take 8 [] .done) .stop)) .stop) .stop)))))⟩
def dt94x2 : DrawPlan := ⟨[[], [], [0, 1], [], [], [3, 4], [0, 1, 2, 3, 4, 5], [0, 1, 2, 3, 4, 5, 6]],
  [[], [], [0, 1], [], [], [3, 4], [2, 5], []],
  (.take 0 [] (.take 1 [] (.take 2 [] (.take 3 [] (.take 4 [] (.take 5 [] (.take 6 [] (.br 7 [] [] .done .stop))))))))⟩
def dt99x1 : DrawPlan := ⟨[[], [], [], [], [2, 3], [0, 1, 2, 3, 4], [], [0, 1, 2, 3, 4, 5, 6], [0, 1, 2, 3, 4, 5, 6, 7]],
  [[], [], [], [], [2, 3], [0, 1, 4], [], [], [7]],
  (.take 0 [] (.take 1 [] (.take 2 [] (.take 3 [] (.take 4 [] (.take 5 [] (.take 6 [] (.br 7 [] [] (.take 8 [] .done) .stop))))))))⟩
def dt102x3 : DrawPlan := ⟨[[], [], [1], [], [1, 2, 3], [0, 1, 2, 3, 4], [], [], [6, 7], [0, 1, 2, 3, 4, 5, 6, 7, 8]],
  [[], [], [1], [], [2, 3], [0, 4], [], [], [6, 7], []],
  (.take 0 [] (.take 1 [] (.take 2 [] (.take 3 [] (.take 4 [] (.take 5 [] (.take 6 [] (.take 7 [] (.take 8 [] (.br 9 [] [] .done .stop))))))))))⟩
def dt111x1 : DrawPlan := ⟨[[], [0], [], [2], [2, 3], [], [5], [2, 3, 4, 5, 6], [0, 1], [0, 1, 2, 3, 4, 5, 6, 7, 8]],
  [[], [0], [], [2], [3], [], [5], [4, 6], [1], [7]],
  (.take 0 [] (.take 1 [] (.take 2 [] (.take 3 [] (.take 4 [] (.take 5 [] (.take 6 [] (.take 7 [] (.take 8 [] (.take 9 [] .done))))))))))⟩
def dt113x1 : DrawPlan := ⟨[[], [0], [], [2], [0, 1, 2, 3], [], [5], [], [7], [5, 6, 7, 8], [0, 1, 2, 3, 4], [0, 1, 2, 3, 4, 5, 6, 7, 8, 9, 10]],
  [[], [0], [], [2], [1, 3], [], [5], [], [7], [6, 8], [4], [9]],
  (.take 0 [] (.take 1 [] (.take 2 [] (.take 3 [] (.take 4 [] (.take 5 [] (.take 6 [] (.take 7 [] (.take 8 [] (.take 9 [] (.take 10 [] (.take 11 [] .done))))))))))))⟩
def dt115x2 : DrawPlan := ⟨[[], [0], [], [2], [0, 1, 2, 3], [], [5], [], [7], [5, 6, 7, 8], [0, 1, 2, 3, 4, 5, 6, 7, 8, 9], [], [11], [], [13], [11, 12, 13, 14], [], [16], [], [18], [16, 17, 18, 19], [11, 12, 13, 14, 15, 16, 17, 18, 19, 20], [0, 1, 2, 3, 4, 5, 6, 7, 8, 9, 10], [0, 1, 2, 3, 4, 5, 6, 7, 8, 9, 10, 11, 12, 13, 14, 15, 16, 17, 18, 19, 20, 21, 22]],
  [[], [0], [], [2], [1, 3], [], [5], [], [7], [6, 8], [4, 9], [], [11], [], [13], [12, 14], [], [16], [], [18], [17, 19], [15, 20], [10], [21]],
  (.take 0 [] (.take 1 [] (.take 2 [] (.take 3 [] (.take 4 [] (.take 5 [] (.take 6 [] (.take 7 [] (.take 8 [] (.take 9 [] (.take 10 [] (.take 11 [] (.take 12 [] (.take 13 [] (.take 14 [] (.take 15 [] (.take 16 [] (.take 17 [] (.take 18 [] (.take 19 [] (.take 20 [] (.take 21 [] (.take 22 [] (.take 23 [] .done))))))))))))))))))))))))⟩
def dt118x2 : DrawPlan := ⟨[[], [], [0, 1], [], [], [3, 4], [0, 1, 2, 3, 4, 5], [0, 1, 2, 3, 4, 5, 6]],
  [[], [], [0, 1], [], [], [3, 4], [2, 5], []],
  (.take 0 [] (.take 1 [] (.take 2 [] (.take 3 [] (.take 4 [] (.take 5 [] (.take 6 [] (.br 7 [] [] .done .stop))))))))⟩
def dt128x2 : DrawPlan := ⟨[[], [], [], [1, 2], [0, 1], [0, 1, 2, 3, 4]],
  [[], [], [], [1, 2], [0, 1], [0, 2, 3]],
  (.take 0 [] (.take 1 [] (.take 2 [] (.take 3 [] (.take 4 [] (.take 5 [] .done))))))⟩
def dt131x1 : DrawPlan := ⟨[[], [0], [], [2], [], [4], [2, 3, 4, 5], [2, 3, 4, 5, 6], [2, 3, 4, 5, 6, 7], [0, 1, 2, 3, 4, 5, 6, 7, 8], [0, 1, 2, 3, 4, 5, 6, 7, 8, 9], [0, 1, 2, 3, 4, 5, 6, 7, 8, 9, 10], [0, 1, 2, 3, 4, 5, 6, 7, 8, 9, 10, 11]],
  [[], [], [], [2], [], [4], [3, 5], [6], [7], [], [1, 9], [], [11]],
  (.take 0 [] (.take 2 [] (.take 3 [3] (.take 4 [3] (.take 5 [5, 3] (.take 6 [5, 3] (.take 7 [5, 3] (.take 8 [5, 3] (.br 1 [5, 3] [] (.br 9 [] [] (.take 10 [] (.br 11 [] [] (.take 12 [] .done) .stop)) .stop) .stop)))))))))⟩
def dt139x3 : DrawPlan := ⟨[[], [0], [0, 1], [0, 1, 2], [0, 1, 2, 3], [], [5], [5, 6], [5, 6, 7], [5, 6, 7, 8], [0, 1, 2, 3, 4, 5, 6, 7, 8, 9], [], [0, 1, 2, 3, 4, 5, 6, 7, 8, 9, 10, 11]],
  [[], [0], [1], [2], [], [], [5], [6], [7], [8], [4, 9], [], [10, 11]],
  (.take 0 [] (.take 1 [] (.take 2 [] (.take 3 [] (.take 5 [] (.take 6 [] (.take 7 [] (.take 8 [8] (.take 9 [9, 8] (.take 11 [9, 8] (.br 4 [9, 8] [] (.take 10 [] (.take 12 [] .done)) .stop)))))))))))⟩
def dt150x1 : DrawPlan := ⟨[[], [0], [0, 1], [], [3], [0, 1, 2, 3, 4], [0, 1, 2, 3, 4, 5], [0, 1, 2, 3, 4, 5, 6], [0, 1, 2, 3, 4, 5, 6, 7]],
  [[], [0], [], [], [3], [], [2, 5], [], [7]],
  (.take 0 [] (.take 1 [] (.take 3 [] (.take 4 [4] (.br 2 [4] [] (.br 5 [] [] (.take 6 [] (.br 7 [] [] (.take 8 [] .done) .stop)) .stop) .stop)))))⟩
def dt156x0 : DrawPlan := ⟨[[], [0], [0, 1], [0, 1, 2], [0, 1, 2, 3], [0, 1, 2, 3, 4], [], [0, 1, 2, 3, 4, 5, 6], [0, 1, 2, 3, 4, 5, 6, 7], [], [9], [9, 10], [9, 10, 11], [9, 10, 11, 12], [0, 1, 2, 3, 4, 5, 6, 7, 8, 9, 10, 11, 12, 13], [0, 1, 2, 3, 4, 5, 6, 7, 8, 9, 10, 11, 12, 13, 14]],
  [[], [0], [1], [2], [], [4], [], [5, 6], [], [], [9], [10], [11], [12], [8, 13], [14]],
  (.take 0 [] (.take 1 [] (.take 2 [] (.take 3 [] (.take 6 [] (.take 9 [] (.take 10 [] (.take 11 [] (.take 12 [12] (.take 13 [13, 12] (.br 4 [13, 12] [13, 12] (.take 5 [13, 12] (.take 7 [13, 12] (.br 8 [13, 12] [] (.take 14 [] (.take 15 [] .done)) .stop))) .stop)))))))))))⟩
def dt158x6 : DrawPlan := ⟨[[], [], [0, 1], [], [], [3, 4], [0, 1, 2, 3, 4, 5]],
  [[], [], [0, 1], [], [], [3, 4], [2, 5]],
  (.take 0 [] (.take 1 [] (.take 2 [] (.take 3 [] (.take 4 [] (.take 5 [] (.take 6 [] .done)))))))⟩
def dt158x7 : DrawPlan := ⟨[[], [], [1], [0, 1, 2], [], [], [4, 5], [0, 1, 2, 3, 4, 5, 6], [0, 1, 2, 3, 4, 5, 6, 7]],
  [[], [], [1], [0, 2], [], [], [4, 5], [], [7]],
  (.take 0 [] (.take 1 [] (.take 2 [] (.take 3 [] (.take 4 [] (.take 5 [] (.take 6 [] (.br 7 [] [] (.take 8 [] .done) .stop))))))))⟩
def dt158x14 : DrawPlan := ⟨[[], [], [], [1, 2], [0, 1, 2, 3], [], [], [], [6, 7], [5, 6, 7, 8], [0, 1, 2, 3, 4, 5, 6, 7, 8, 9]],
  [[], [], [], [1, 2], [0, 3], [], [], [], [6, 7], [5, 8], [4, 9]],
  (.take 0 [] (.take 1 [] (.take 2 [] (.take 3 [] (.take 4 [] (.take 5 [] (.take 6 [] (.take 7 [] (.take 8 [] (.take 9 [] (.take 10 [] .done)))))))))))⟩
def dt158x31 : DrawPlan := ⟨[[], [], [], [1, 2], [0, 1, 2, 3], [], [], [], [6, 7], [5, 6, 7, 8], [0, 1, 2, 3, 4, 5, 6, 7, 8, 9]],
  [[], [], [], [1, 2], [0, 3], [], [], [], [6, 7], [5, 8], [4, 9]],
  (.take 0 [] (.take 1 [] (.take 2 [] (.take 3 [] (.take 4 [] (.take 5 [] (.take 6 [] (.take 7 [] (.take 8 [] (.take 9 [] (.take 10 [] .done)))))))))))⟩
def dt161x7 : DrawPlan := ⟨[[], [], [1], [], [], [4], [], [6], [6, 7], [], [9], [0, 1, 2, 6, 7, 8], [0, 1, 2, 6, 7, 8, 11], [0, 1, 2, 3, 4, 5, 6, 7, 8, 9, 10, 11, 12], [0, 1, 2, 3, 4, 5, 6, 7, 8, 9, 10, 11, 12, 13]],
  [[], [], [1], [], [], [4], [], [6], [7], [], [9], [0, 2], [], [3, 5], []],
  (.take 0 [] (.take 1 [] (.take 2 [] (.take 3 [] (.take 4 [] (.take 5 [] (.take 6 [] (.take 7 [] (.take 8 [] (.take 9 [] (.take 10 [] (.take 11 [] (.br 12 [] [] (.take 13 [] (.br 14 [] [] .done .stop)) .stop)))))))))))))⟩
def dt161x8 : DrawPlan := ⟨[[], [], [1], [], [], [4], [], [6], [6, 7], [], [9], [0, 1, 2, 6, 7, 8], [0, 1, 2, 6, 7, 8, 11], [0, 1, 2, 3, 4, 5, 6, 7, 8, 9, 10, 11, 12], [0, 1, 2, 3, 4, 5, 6, 7, 8, 9, 10, 11, 12, 13]],
  [[], [], [1], [], [], [4], [], [6], [7], [], [9], [0, 2], [], [3, 5], []],
  (.take 0 [] (.take 1 [] (.take 2 [] (.take 3 [] (.take 4 [] (.take 5 [] (.take 6 [] (.take 7 [] (.take 8 [] (.take 9 [] (.take 10 [] (.take 11 [] (.br 12 [] [] (.take 13 [] (.br 14 [] [] .done .stop)) .stop)))))))))))))⟩
def dt161x9 : DrawPlan := ⟨[[], [], [1], [], [], [4], [], [6], [6, 7], [], [9], [0, 1, 2, 6, 7, 8], [0, 1, 2, 6, 7, 8, 11], [0, 1, 2, 3, 4, 5, 6, 7, 8, 9, 10, 11, 12], [0, 1, 2, 3, 4, 5, 6, 7, 8, 9, 10, 11, 12, 13]],
  [[], [], [1], [], [], [4], [], [6], [7], [], [9], [0, 2], [], [3, 5], []],
  (.take 0 [] (.take 1 [] (.take 2 [] (.take 3 [] (.take 4 [] (.take 5 [] (.take 6 [] (.take 7 [] (.take 8 [] (.take 9 [] (.take 10 [] (.take 11 [] (.br 12 [] [] (.take 13 [] (.br 14 [] [] .done .stop)) .stop)))))))))))))⟩
def dt161x10 : DrawPlan := ⟨[[], [], [1], [], [], [4], [], [6], [6, 7], [], [9], [0, 1, 2, 6, 7, 8], [0, 1, 2, 6, 7, 8, 11], [0, 1, 2, 3, 4, 5, 6, 7, 8, 9, 10, 11, 12], [0, 1, 2, 3, 4, 5, 6, 7, 8, 9, 10, 11, 12, 13]],
  [[], [], [1], [], [], [4], [], [6], [7], [], [9], [0, 2], [], [3, 5], []],
  (.take 0 [] (.take 1 [] (.take 2 [] (.take 3 [] (.take 4 [] (.take 5 [] (.take 6 [] (.take 7 [] (.take 8 [] (.take 9 [] (.take 10 [] (.take 11 [] (.br 12 [] [] (.take 13 [] (.br 14 [] [] .done .stop)) .stop)))))))))))))⟩
def dt161x17 : DrawPlan := ⟨[[], [], [1], [], [], [4], [], [6], [6, 7], [], [9], [0, 1, 2, 6, 7, 8], [0, 1, 2, 6, 7, 8, 11], [0, 1, 2, 3, 4, 5, 6, 7, 8, 9, 10, 11, 12], [0, 1, 2, 3, 4, 5, 6, 7, 8, 9, 10, 11, 12, 13]],
  [[], [], [1], [], [], [4], [], [6], [7], [], [9], [0, 2], [], [3, 5], []],
  (.take 0 [] (.take 1 [] (.take 2 [] (.take 3 [] (.take 4 [] (.take 5 [] (.take 6 [] (.take 7 [] (.take 8 [] (.take 9 [] (.take 10 [] (.take 11 [] (.br 12 [] [] (.take 13 [] (.br 14 [] [] .done .stop)) .stop)))))))))))))⟩
def dt161x18 : DrawPlan := ⟨[[], [], [1], [], [], [4], [], [6], [6, 7], [], [9], [0, 1, 2, 6, 7, 8], [0, 1, 2, 6, 7, 8, 11], [0, 1, 2, 3, 4, 5, 6, 7, 8, 9, 10, 11, 12], [0, 1, 2, 3, 4, 5, 6, 7, 8, 9, 10, 11, 12, 13]],
  [[], [], [1], [], [], [4], [], [6], [7], [], [9], [0, 2], [], [3, 5], []],
  (.take 0 [] (.take 1 [] (.take 2 [] (.take 3 [] (.take 4 [] (.take 5 [] (.take 6 [] (.take 7 [] (.take 8 [] (.take 9 [] (.take 10 [] (.take 11 [] (.br 12 [] [] (.take 13 [] (.br 14 [] [] .done .stop)) .stop)))))))))))))⟩
def dt161x23 : DrawPlan := ⟨[[], [], [1], [], [], [4], [], [6], [6, 7], [], [9], [0, 1, 2, 6, 7, 8], [0, 1, 2, 6, 7, 8, 11], [0, 1, 2, 3, 4, 5, 6, 7, 8, 9, 10, 11, 12], [0, 1, 2, 3, 4, 5, 6, 7, 8, 9, 10, 11, 12, 13]],
  [[], [], [1], [], [], [4], [], [6], [7], [], [9], [0, 2], [], [3, 5], []],
  (.take 0 [] (.take 1 [] (.take 2 [] (.take 3 [] (.take 4 [] (.take 5 [] (.take 6 [] (.take 7 [] (.take 8 [] (.take 9 [] (.take 10 [] (.take 11 [] (.br 12 [] [] (.take 13 [] (.br 14 [] [] .done .stop)) .stop)))))))))))))⟩
def dtF (f r : Nat) : Option DrawPlan :=
  bif Nat.beq f 4 then (bif Nat.beq r 5 then some dt4x5 else none) else
  bif Nat.beq f 7 then (bif Nat.beq r 11 then some dt7x11 else none) else
  bif Nat.beq f 8 then (bif Nat.beq r 15 then some dt8x15 else none) else
  bif Nat.beq f 9 then (bif Nat.beq r 9 then some dt9x9 else bif Nat.beq r 15 then some dt9x15 else bif Nat.beq r 17 then some dt9x17 else bif Nat.beq r 18 then some dt9x18 else bif Nat.beq r 21 then some dt9x21 else bif Nat.beq r 25 then some dt9x25 else bif Nat.beq r 28 then some dt9x28 else none) else
  bif Nat.beq f 11 then (bif Nat.beq r 10 then some dt11x10 else none) else
  bif Nat.beq f 12 then (bif Nat.beq r 17 then some dt12x17 else none) else
  bif Nat.beq f 13 then (bif Nat.beq r 7 then some dt13x7 else bif Nat.beq r 32 then some dt13x32 else none) else
  bif Nat.beq f 16 then (bif Nat.beq r 8 then some dt16x8 else none) else
  bif Nat.beq f 20 then (bif Nat.beq r 7 then some dt20x7 else bif Nat.beq r 8 then some dt20x8 else none) else
  bif Nat.beq f 27 then (bif Nat.beq r 5 then some dt27x5 else none) else
  bif Nat.beq f 36 then (bif Nat.beq r 10 then some dt36x10 else none) else
  bif Nat.beq f 38 then (bif Nat.beq r 6 then some dt38x6 else none) else
  bif Nat.beq f 40 then (bif Nat.beq r 6 then some dt40x6 else none) else
  bif Nat.beq f 41 then (bif Nat.beq r 6 then some dt41x6 else bif Nat.beq r 7 then some dt41x7 else none) else
  bif Nat.beq f 42 then (bif Nat.beq r 6 then some dt42x6 else none) else
  bif Nat.beq f 43 then (bif Nat.beq r 6 then some dt43x6 else bif Nat.beq r 7 then some dt43x7 else none) else
  bif Nat.beq f 48 then (bif Nat.beq r 7 then some dt48x7 else none) else
  bif Nat.beq f 50 then (bif Nat.beq r 4 then some dt50x4 else bif Nat.beq r 5 then some dt50x5 else none) else
  bif Nat.beq f 52 then (bif Nat.beq r 13 then some dt52x13 else none) else
  bif Nat.beq f 54 then (bif Nat.beq r 2 then some dt54x2 else none) else
  bif Nat.beq f 56 then (bif Nat.beq r 4 then some dt56x4 else none) else
  bif Nat.beq f 60 then (bif Nat.beq r 1 then some dt60x1 else none) else
  bif Nat.beq f 62 then (bif Nat.beq r 2 then some dt62x2 else none) else
  bif Nat.beq f 64 then (bif Nat.beq r 1 then some dt64x1 else none) else
  bif Nat.beq f 69 then (bif Nat.beq r 2 then some dt69x2 else none) else
  bif Nat.beq f 74 then (bif Nat.beq r 1 then some dt74x1 else none) else
  bif Nat.beq f 86 then (bif Nat.beq r 6 then some dt86x6 else none) else
  bif Nat.beq f 90 then (bif Nat.beq r 1 then some dt90x1 else none) else
  bif Nat.beq f 94 then (bif Nat.beq r 2 then some dt94x2 else none) else
  bif Nat.beq f 99 then (bif Nat.beq r 1 then some dt99x1 else none) else
  bif Nat.beq f 102 then (bif Nat.beq r 3 then some dt102x3 else none) else
  bif Nat.beq f 111 then (bif Nat.beq r 1 then some dt111x1 else none) else
  bif Nat.beq f 113 then (bif Nat.beq r 1 then some dt113x1 else none) else
  bif Nat.beq f 115 then (bif Nat.beq r 2 then some dt115x2 else none) else
  bif Nat.beq f 118 then (bif Nat.beq r 2 then some dt118x2 else none) else
  bif Nat.beq f 128 then (bif Nat.beq r 2 then some dt128x2 else none) else
  bif Nat.beq f 131 then (bif Nat.beq r 1 then some dt131x1 else none) else
  bif Nat.beq f 139 then (bif Nat.beq r 3 then some dt139x3 else none) else
  bif Nat.beq f 150 then (bif Nat.beq r 1 then some dt150x1 else none) else
  bif Nat.beq f 156 then (bif Nat.beq r 0 then some dt156x0 else none) else
  bif Nat.beq f 158 then (bif Nat.beq r 6 then some dt158x6 else bif Nat.beq r 7 then some dt158x7 else bif Nat.beq r 14 then some dt158x14 else bif Nat.beq r 31 then some dt158x31 else none) else
  bif Nat.beq f 161 then (bif Nat.beq r 7 then some dt161x7 else bif Nat.beq r 8 then some dt161x8 else bif Nat.beq r 9 then some dt161x9 else bif Nat.beq r 10 then some dt161x10 else bif Nat.beq r 17 then some dt161x17 else bif Nat.beq r 18 then some dt161x18 else bif Nat.beq r 23 then some dt161x23 else none) else none
def okF (f : Nat) : Bool := Nat.blt f 205
theorem drawsAll : (List.range 205).all (fun f => !okF f || match Tryz.prog.funcs[f]? with
  | some fn => match fn.body with
    | some c => codeDraws (dtF f) c
    | none => true
  | none => true) = true := by kernel_rfl
theorem drawsOk (f : FuncId) (fn : Func) (c : Code) (h : okF f = true) (hf : Tryz.prog.funcs[f]? = some fn) (hb : fn.body = some c) : codeDraws (dtF f) c = true := by
  have hlt : f < 205 := by
    have : Nat.blt f 205 = true := by
      simpa [okF] using h
    exact Nat.le_of_ble_eq_true this
  have h1 := List.all_eq_true.1 drawsAll f (List.mem_range.2 hlt)
  rw [h, hf] at h1
  simp only [hb] at h1
  simpa using h1
noncomputable def envD : EnvD := { toEnv := env, dt := dtF, okF := okF, draws := drawsOk }
end Go.Proofs.YtbfappllfpngdaaGreatDoor
