/- Plain laws: shares of bars and spread words (Exact). -/
import Derived.Test.YtophnjjjmikmeaaGreatOttT
set_option linter.all false
namespace Go.Proofs.YtophnjjjmikmeaaGreat
open Go Go.Am
set_option maxRecDepth 100000
section low
variable {N:Nat} (hN:gQ N) {a b:Int} (ha:0≤a) (Sx:a≤9223372036854775807) (hb:0 < b) (iQ:b≤9223372036854775807)
include hN ha Sx hb iQ
end low
theorem qB (N:Nat) (b:Bool) (e:Int):MC N (b,e)=some (if b then e else 0):=by rw [Oy]; cases b <;> rfl
theorem Ll (N:Nat) (n lo hi:Int):TB N (n,lo,hi)=some (qv n lo hi):=by
 rw [OE,qB,qB]
 unfold qv
 by_cases h1:n < lo
 ·simp [h1]
 ·by_cases h2:n > hi <;> simp [h1,h2]
theorem yw {N:Nat} (hN:gQ N) (l:List Int) (hl:l.length≤9223372036854775806):Sd N l=some (aX l):=by
 obtain ⟨o,h1,h2⟩:=oY (rd:=zU N l) l (fun k hk=>by
  have hd:=dv n30 l k hk
  have e1:d30 (av (List.map n30 l) k)=l[k]:=by rw [hd]; rfl
  have e2:aq.fits qW (av (List.map n30 l) k)=true:=by rw [hd]; rfl
  simp only [zU,List.length_map,Int.toNat_natCast,e1,e2,ea (show k < 9223372036854775807 by omega),ck hk,bV hk,Bool.and_self,cond_true]
  by_cases hz:l[k]=0
  ·simp [hz]
  ·simp [hz,Bool.cond_eq_ite]) (by simp only [zU,List.length_map,cT,cond_false]) N (by unfold gQ at hN; omega)
 rw [Ox,h1,Option.bind_some]
 rcases o with o | o
 ·simpa using h2
 ·simpa using h2
theorem two (x y:Int):((bif (allFit (aq.fits qW) [(AV.int .i64 x),(AV.int .i64 y)]&&true) then some (List.map d30 [(AV.int .i64 x),(AV.int .i64 y)]) else none:Option ((List Int))))=some [x,y]:=rfl
section CZ
variable {N:Nat} (hN:gQ N) (r:Int × Int)
include hN
def shr (r:Int × Int):Int × Int:=low (2 * (if r.2 < r.1 then r.2 else r.1)) (r.1+r.2)
end CZ
def pk (m n:Int) (i:Nat):Bool:=decide (((i:Int)+1) * m / (m+n) > (i:Int) * m / (m+n))
section mix
variable {N:Nat} (hN:gQ N) {a b:List UInt8} {m n:Int} (hm:0≤m) (hn:0≤n) (hs:m+n≤100000) (ha:a.length≤100000) (hb:b.length≤100000)
include hN hm hn hs ha hb
end mix
section word
variable {N:Nat} (hN:gQ N) (r p:Int × Int) (h1:0≤p.1) (h2:p.1≤p.2) (h3:p.2≤1000)
include hN h1 h2 h3
end word
end Go.Proofs.YtophnjjjmikmeaaGreat
