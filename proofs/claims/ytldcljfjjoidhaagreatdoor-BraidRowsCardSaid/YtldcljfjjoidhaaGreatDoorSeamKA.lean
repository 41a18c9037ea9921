/- Plain laws: knots,courses,their checks and walks. -/
import Derived.Test.YtldcljfjjoidhaaGreatDoorBraT
import Derived.Test.YtldcljfjjoidhaaGreatDoorAmKK
import Derived.Test.YtldcljfjjoidhaaGreatDoorAmKL
set_option linter.all false
namespace Go.Proofs.YtldcljfjjoidhaaGreatDoor
open Go Go.Am
open List (map)
open Int (toNat)
open Go.IntKind (wrap)
open Go.Am.aO (fits)
set_option maxRecDepth 100000
theorem Fb (n:Nat) (h:n < 18446744073709551616):(BitVec.ofInt 64 (wrap .i64 (n:Int))).toNat=n:=by
 rw [BitVec.toNat_ofInt,IntKind.wrap_i64]
 omega
theorem abo (a b:Nat):(a ^^^ b) % 2=(a+b) % 2:=by
 have h:=Nat.xor_mod_two_pow (a:=a) (b:=b) (n:=1)
 rw [Nat.pow_one] at h
 rw [h]
 rcases Nat.mod_two_eq_zero_or_one a with ha | ha <;> rcases Nat.mod_two_eq_zero_or_one b with hb | hb <;> rw [ha,hb] <;> simp <;> omega
theorem Ue (x y:Int):(GM .i64 (GN .i64 x y) 1 != 0)=decide ((x+y) % 2≠0):=by
 have h1:(BitVec.ofInt 64 x ^^^ BitVec.ofInt 64 y).toNat < 18446744073709551616:=(BitVec.ofInt 64 x ^^^ BitVec.ofInt 64 y).isLt
 have h2:(BitVec.ofInt 64 1).toNat=1:=by decide
 have h3:GM .i64 (GN .i64 x y) 1=wrap .i64 ((((BitVec.ofInt 64 x ^^^ BitVec.ofInt 64 y).toNat % 2:Nat)):Int):=by
  show wrap .i64 (((BitVec.ofInt 64 (wrap .i64 (((BitVec.ofInt 64 x ^^^ BitVec.ofInt 64 y).toNat:Nat):Int)) &&& BitVec.ofInt 64 1).toNat:Nat):Int)=_
  rw [BitVec.toNat_and,Fb _ h1,h2,Nat.and_one_is_mod]
 rw [h3,ki (by omega),BitVec.toNat_xor,abo,BitVec.toNat_ofInt,BitVec.toNat_ofInt]
 have e:((((x % ((2 ^ 64:Nat):Int)).toNat+(y % ((2 ^ 64:Nat):Int)).toNat) % 2:Nat):Int)=(x+y) % 2:=by omega
 rw [e]
 by_cases h:(x+y) % 2=0 <;> simp [h]
def bp (p:Int × Int):Int:=if p.1 < -100000∨p.1 > 100000∨p.2 < -100000∨p.2 > 100000 then 3 else if (p.1+p.2) % 2=0 then 0 else 14
theorem ja {N:Nat} (hN:e7 N) (l:List Int) (hl:l.length≤9223372036854775806):uN N l=some (bT l):=by
 obtain ⟨o,h1,h2⟩:=qC (rd:=vm N l) l (fun k hk=>by
  have hd:=gM pH l k hk
  have e1:nJ (aj (map pH l) k)=l[k]:=by rw [hd]; rfl
  have e2:fits BI (aj (map pH l) k)=true:=by rw [hd]; rfl
  simp only [vm,List.length_map,Int.toNat_natCast,e1,e2,bN (show k < 9223372036854775807 by omega),aX hk,ay hk,Bool.and_self,cond_true]
  by_cases hz:l[k]=0
  ·simp [hz]
  ·simp [hz,Bool.cond_eq_ite]) (by simp only [vm,List.length_map,bJ,cond_false]) N (by unfold e7 at hN; omega)
 rw [Pe,h1,Option.bind_some]
 rcases o with o | o
 ·simpa using h2
 ·simpa using h2
theorem HR {N:Nat} (hN:e7 N) (l:List Int) (hl:l.length≤9223372036854775806):Ze N l=some (bT l):=by
 obtain ⟨o,h1,h2⟩:=qC (rd:=Bk N l) l (fun k hk=>by
  have hd:=gM pH l k hk
  have e1:nJ (aj (map pH l) k)=l[k]:=by rw [hd]; rfl
  have e2:fits BI (aj (map pH l) k)=true:=by rw [hd]; rfl
  simp only [Bk,List.length_map,Int.toNat_natCast,e1,e2,bN (show k < 9223372036854775807 by omega),aX hk,ay hk,Bool.and_self,cond_true]
  by_cases hz:l[k]=0
  ·simp [hz]
  ·simp [hz,Bool.cond_eq_ite]) (by simp only [Bk,List.length_map,bJ,cond_false]) N (by unfold e7 at hN; omega)
 rw [T8,h1,Option.bind_some]
 rcases o with o | o
 ·simpa using h2
 ·simpa using h2
theorem Dg (x y:Int):((bif allFit (fits BI) [AV.int .i64 x,AV.int .i64 y]&&true then some (map nJ [AV.int .i64 x,AV.int .i64 y]) else none:Option qP))=some [x,y]:=rfl
theorem kj (N:Nat) (b:Bool) (e:Int):yW N (b,e)=some (if b then e else 0):=by rw [Pf]; cases b <;> rfl
theorem Lr (N:Nat) (b:Bool) (e:Int):Zf N (b,e)=some (if b then e else 0):=by rw [Ua]; cases b <;> rfl
theorem Dh (N:Nat) (n lo hi:Int):KV N (n,lo,hi)=some (Rk n lo hi):=by
 rw [Ph,kj,kj]
 unfold Rk
 by_cases h1:n < lo
 ·simp [h1]
 ·by_cases h2:n > hi <;> simp [h1,h2]
theorem HS {N:Nat} (hN:e7 N) (p:Int × Int):KW N p=some (bp p):=by
 rw [Pk,Gf]
 simp only [Dh,Option.bind_some,beq_self_eq_true,Bool.and_self,cond_true]
 rw [Dg]
 simp only [Option.bind_some]
 rw [ja hN _ (by simp)]
 simp only [Option.bind_some,kj,Ue]
 rw [Dg]
 simp only [Option.bind_some]
 rw [ja hN _ (by simp)]
 simp only [Option.bind_some]
 congr 1
 unfold bp Rk
 simp only [bT]
 by_cases h1:p.1 < -100000∨p.1 > 100000
 ·have h:p.1 < -100000∨p.1 > 100000∨p.2 < -100000∨p.2 > 100000:=by omega
  simp [h,h1]
 ·by_cases h2:p.2 < -100000∨p.2 > 100000
  ·have h:p.1 < -100000∨p.1 > 100000∨p.2 < -100000∨p.2 > 100000:=by omega
   simp [h,h1,h2]
  ·have h:¬ (p.1 < -100000∨p.1 > 100000∨p.2 < -100000∨p.2 > 100000):=by omega
   by_cases h3:(p.1+p.2) % 2=0 <;> simp [h,h1,h2,h3]
theorem z6 (N:Nat) (p:Int × Int):E8 N p=some (bp p):=by
 rw [PX,Gm,Gm,PV]
 unfold bp
 by_cases h:p.1 < -100000∨p.1 > 100000∨p.2 < -100000∨p.2 > 100000
 ·rw [if_pos h]
  by_cases h1:p.1 < -100000 <;> by_cases h2:p.1 > 100000 <;> by_cases h3:p.2 < -100000 <;> by_cases h4:p.2 > 100000 <;> simp [h1,h2,h3,h4] <;> omega
 ·rw [if_neg h]
  have h1:¬ p.1 < -100000:=by omega
  have h2:¬ p.1 > 100000:=by omega
  have h3:¬ p.2 < -100000:=by omega
  have h4:¬ p.2 > 100000:=by omega
  rw [ki (x:=p.1+p.2) (by omega)]
  have e:((Int.tmod (p.1+p.2) 2) == 0)=decide ((p.1+p.2) % 2=0):=by
   by_cases h5:(p.1+p.2) % 2=0
   ·have:Int.tmod (p.1+p.2) 2=0:=Int.tmod_eq_zero_of_dvd (Int.dvd_of_emod_eq_zero h5)
    simp [h5,this]
   ·have:Int.tmod (p.1+p.2) 2≠0:=fun e=>h5 (Int.emod_eq_zero_of_dvd (Int.dvd_of_tmod_eq_zero e))
    simp [h5,this]
  rw [e]
  by_cases h5:(p.1+p.2) % 2=0 <;> simp [h1,h2,h3,h4,h5]
abbrev Uf:=Int × Int × Bool × Bool × Int
def sg (b:Bool):Int:=if b then 1 else -1
def XQ (c:Uf) (i:Nat):Int × Int:=(c.1+(i:Int) * sg c.2.2.1,c.2.1+((i % 2:Nat):Int) * sg c.2.2.2.1)
theorem fX {p:Int × Int} (h:bp p=0):-100000≤p.1∧p.1≤100000∧-100000≤p.2∧p.2≤100000:=by
 unfold bp at h
 split at h
 ·cases h
 ·omega
section
variable {N:Nat} (hN:e7 N)
include hN
end
end Go.Proofs.YtldcljfjjoidhaaGreatDoor
namespace Go.Proofs.YtldcljfjjoidhaaGreatDoor
open Go Go.Am
open List (map)
open Int (toNat)
open Go.IntKind (wrap)
open Go.Am.aO (fits)
set_option maxRecDepth 100000
section
variable {N:Nat} (hN:e7 N)
include hN
end
end Go.Proofs.YtldcljfjjoidhaaGreatDoor
