/- Plain laws: joins of meshes. -/
import Derived.Test.YtfiopgedfcaodaaGreatDoorSeamT
import Derived.Test.YtfiopgedfcaodaaGreatDoorAmKK
set_option linter.all false
namespace Go.Proofs.YtfiopgedfcaodaaGreatDoor
open Go Go.Am
set_option maxRecDepth 100000
theorem T91_when (N:Nat) (b:Bool) (e:Int):T91 N (b,e) = some (if b then e else 0):=by rw [T91_eq]; cases b <;> rfl
theorem T90_first {N:Nat} (hN:Big N) (l:List Int) (hl:l.length ≤ 9223372036854775806):T90 N l = some (firstNZ l):=by
 obtain ⟨o,h1,h2⟩:=first_loop (rd:=R90x26 N l) l (fun k hk=>by
  have hd:=nthD_map n24 l k hk
  have e1:d24 (nthD (List.map n24 l) k) = l[k]:=by rw [hd]; rfl
  have e2:Pat.fits p24 (nthD (List.map n24 l) k) = true:=by rw [hd]; rfl
  simp only [R90x26,List.length_map,Int.toNat_natCast,e1,e2,w_succ (show k < 9223372036854775807 by omega),lt_range hk,in_range hk,Bool.and_self,cond_true]
  by_cases hz:l[k] = 0
  ·simp [hz]
  ·simp [hz,Bool.cond_eq_ite]) (by simp only [R90x26,List.length_map,ge_range,cond_false]) N (by unfold Big at hN; omega)
 rw [T90_eq,h1,Option.bind_some]
 rcases o with o | o
 ·simpa using h2
 ·simpa using h2
theorem T28_first {N:Nat} (hN:Big N) (l:List Int) (hl:l.length ≤ 9223372036854775806):T28 N l = some (firstNZ l):=by
 obtain ⟨o,h1,h2⟩:=first_loop (rd:=R28x26 N l) l (fun k hk=>by
  have hd:=nthD_map n3 l k hk
  have e1:d3 (nthD (List.map n3 l) k) = l[k]:=by rw [hd]; rfl
  have e2:Pat.fits p3 (nthD (List.map n3 l) k) = true:=by rw [hd]; rfl
  simp only [R28x26,List.length_map,Int.toNat_natCast,e1,e2,w_succ (show k < 9223372036854775807 by omega),lt_range hk,in_range hk,Bool.and_self,cond_true]
  by_cases hz:l[k] = 0
  ·simp [hz]
  ·simp [hz,Bool.cond_eq_ite]) (by simp only [R28x26,List.length_map,ge_range,cond_false]) N (by unfold Big at hN; omega)
 rw [T28_eq,h1,Option.bind_some]
 rcases o with o | o
 ·simpa using h2
 ·simpa using h2
theorem two24 (x y:Int):((bif (allFit (Pat.fits p24) [(AV.int .i64 x),(AV.int .i64 y)] && true) then some (List.map d24 [(AV.int .i64 x),(AV.int .i64 y)]) else none:Option ((List Int)))) = some [x,y]:=rfl
theorem three24 (x y z:Int):((bif (allFit (Pat.fits p24) [(AV.int .i64 x),(AV.int .i64 y),(AV.int .i64 z)] && true) then some (List.map d24 [(AV.int .i64 x),(AV.int .i64 y),(AV.int .i64 z)]) else none:Option ((List Int)))) = some [x,y,z]:=rfl
theorem snoc46 (l:List (Int × Int)) (a b:Int):List.map n46 l ++ [AV.agg [AV.int .i64 a,AV.int .i64 b]] = List.map n46 (l ++ [(a,b)]):=by
 rw [List.map_append]; rfl
section joins
variable {m n:Int} (hm:1 ≤ m) (hm':m ≤ 256) (hn:1 ≤ n) (hn':n ≤ 256)
include hm hm' hn hn'
end joins
section take
variable {m n:Int} (hm:1 ≤ m) (hm':m ≤ 256) (hn:1 ≤ n) (hn':n ≤ 256)
include hm hm' hn hn'
end take
theorem at46 (l:List (Int × Int)) {k:Nat} (hk:k < l.length):d46 (nthD (List.map n46 l) k) = l.getD k (0,0) ∧ Pat.fits p46 (nthD (List.map n46 l) k) = true:=by
 rw [nthD_map n46 l k hk,dn46,fn46]
 simp [hk]
section chk
variable {N:Nat} (hN:Big N) {m n:Int} (l:List (Int × Int)) (hl:l.length ≤ 1000000)
include hN hl
end chk
theorem T24_same {N:Nat} (hN:Big N) (l:List (Int × Int)) (hl:l.length ≤ 1000000):T24 N (l,l) = some true:=by
 rw [T24_eq]
 simp only [bne_self_eq_false,cond_false,List.length_map]
 have key:=loopR_count (rd:=R24x58 N l l) l.length (fun k=>(k:Int)) (.inr ()) (fun k hk=>by
  obtain ⟨a1,a2⟩:=at46 l hk
  simp only [R24x58,List.length_map,Int.toNat_natCast,a1,a2,lt_range hk,in_range hk,Bool.and_self,cond_true,beq_self_eq_true,Bool.not_true,cond_false,w_succ (show k < 9223372036854775807 by omega)]) (by
  simp only [R24x58,List.length_map,ge_range,cond_false]) N 0 (Nat.zero_le _) (by unfold Big at hN; omega)
 have key':loopR (R24x58 N l l) N 0 = some (.inr ()):=key
 rw [key',Option.bind_some]
 rfl
end Go.Proofs.YtfiopgedfcaodaaGreatDoor
