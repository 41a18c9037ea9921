/- Plain laws: shares of bars and spread words (Exact). -/
import Derived.Test.YtophnjjjmikmeaaGreatOttT
set_option linter.all false
namespace Go.Proofs.YtophnjjjmikmeaaGreat
open Go Go.Am
set_option maxRecDepth 100000
section low
variable {N:Nat} (hN:gU N) {a b:Int} (ha:0≤a) (VJ:a≤9223372036854775807) (hb:0 < b) (jC:b≤9223372036854775807)
include hN ha VJ hb jC
end low
theorem rM (N:Nat) (b:Bool) (e:Int):PB N (b,e)=some (if b then e else 0):=by rw [RD]; cases b <;> rfl
theorem Ob (N:Nat) (n lo hi:Int):W4 N (n,lo,hi)=some (uz n lo hi):=by
 rw [RK,rM,rM]
 unfold uz
 by_cases h1:n < lo
 ·simp [h1]
 ·by_cases h2:n > hi <;> simp [h1,h2]
theorem zV {N:Nat} (hN:gU N) (l:List Int) (hl:l.length≤9223372036854775806):Vr N l=some (bg l):=by
 obtain ⟨o,h1,h2⟩:=pS (rd:=Bs N l) l (fun k hk=>by
  have hd:=gB n30 l k hk
  have e1:d30 (aw (List.map n30 l) k)=l[k]:=by rw [hd]; rfl
  have e2:aj.fits u0 (aw (List.map n30 l) k)=true:=by rw [hd]; rfl
  simp only [Bs,List.length_map,Int.toNat_natCast,e1,e2,dy (show k < 9223372036854775807 by omega),cu hk,bP hk,Bool.and_self,cond_true]
  by_cases hz:l[k]=0
  ·simp [hz]
  ·simp [hz,Bool.cond_eq_ite]) (by simp only [Bs,List.length_map,du,cond_false]) N (by unfold gU at hN; omega)
 rw [RC,h1,Option.bind_some]
 rcases o with o | o
 ·simpa using h2
 ·simpa using h2
theorem two (x y:Int):((bif (allFit (aj.fits u0) [(AV.int .i64 x),(AV.int .i64 y)]&&true) then some (List.map d30 [(AV.int .i64 x),(AV.int .i64 y)]) else none:Option ((List Int))))=some [x,y]:=rfl
section EX
variable {N:Nat} (hN:gU N) (r:Int × Int)
include hN
def shr (r:Int × Int):Int × Int:=low (2 * (if r.2 < r.1 then r.2 else r.1)) (r.1+r.2)
end EX
def pk (m n:Int) (i:Nat):Bool:=decide (((i:Int)+1) * m / (m+n) > (i:Int) * m / (m+n))
section mix
variable {N:Nat} (hN:gU N) {a b:List UInt8} {m n:Int} (hm:0≤m) (hn:0≤n) (hs:m+n≤100000) (ha:a.length≤100000) (hb:b.length≤100000)
include hN hm hn hs ha hb
end mix
section word
variable {N:Nat} (hN:gU N) (r p:Int × Int) (h1:0≤p.1) (h2:p.1≤p.2) (h3:p.2≤1000)
include hN h1 h2 h3
end word
end Go.Proofs.YtophnjjjmikmeaaGreat
