/- Plain laws: knots,courses,their checks and walks. -/
import Derived.Test.YtldcljfjjoidhaaGreatDoorBraT
import Derived.Test.YtldcljfjjoidhaaGreatDoorAmKK
import Derived.Test.YtldcljfjjoidhaaGreatDoorAmKL
set_option linter.all false
namespace Go.Proofs.YtldcljfjjoidhaaGreatDoor
open Go Go.Am
set_option maxRecDepth 100000
theorem CQ (n:Nat) (h:n < 18446744073709551616):(BitVec.ofInt 64 (IntKind.wrap .i64 (n:Int))).toNat=n:=by
 rw [BitVec.toNat_ofInt,IntKind.wrap_i64]
 omega
theorem Xv (a b:Nat):(a ^^^ b) % 2=(a+b) % 2:=by
 have h:=Nat.xor_mod_two_pow (a:=a) (b:=b) (n:=1)
 rw [Nat.pow_one] at h
 rw [h]
 rcases Nat.mod_two_eq_zero_or_one a with ha | ha <;> rcases Nat.mod_two_eq_zero_or_one b with hb | hb <;> rw [ha,hb] <;> simp <;> omega
theorem Ql (x y:Int):(D4 .i64 (D5 .i64 x y) 1 != 0)=decide ((x+y) % 2≠0):=by
 have h1:(BitVec.ofInt 64 x ^^^ BitVec.ofInt 64 y).toNat < 18446744073709551616:=(BitVec.ofInt 64 x ^^^ BitVec.ofInt 64 y).isLt
 have h2:(BitVec.ofInt 64 1).toNat=1:=by decide
 have h3:D4 .i64 (D5 .i64 x y) 1=IntKind.wrap .i64 ((((BitVec.ofInt 64 x ^^^ BitVec.ofInt 64 y).toNat % 2:Nat)):Int):=by
  show IntKind.wrap .i64 (((BitVec.ofInt 64 (IntKind.wrap .i64 (((BitVec.ofInt 64 x ^^^ BitVec.ofInt 64 y).toNat:Nat):Int)) &&& BitVec.ofInt 64 1).toNat:Nat):Int)=_
  rw [BitVec.toNat_and,CQ _ h1,h2,Nat.and_one_is_mod]
 rw [h3,lW (by omega),BitVec.toNat_xor,Xv,BitVec.toNat_ofInt,BitVec.toNat_ofInt]
 have e:((((x % ((2 ^ 64:Nat):Int)).toNat+(y % ((2 ^ 64:Nat):Int)).toNat) % 2:Nat):Int)=(x+y) % 2:=by omega
 rw [e]
 by_cases h:(x+y) % 2=0 <;> simp [h]
def cn (p:Int × Int):Int:=if p.1 < -100000∨p.1 > 100000∨p.2 < -100000∨p.2 > 100000 then 3 else if (p.1+p.2) % 2=0 then 0 else 14
theorem vt {N:Nat} (hN:iK N) (l:List Int) (hl:l.length≤9223372036854775806):HN N l=some (bc l):=by
 obtain ⟨o,h1,h2⟩:=oS (rd:=sY N l) l (fun k hk=>by
  have hd:=jz n26 l k hk
  have e1:d26 (ah (List.map n26 l) k)=l[k]:=by rw [hd]; rfl
  have e2:an.fits Bi (ah (List.map n26 l) k)=true:=by rw [hd]; rfl
  simp only [sY,List.length_map,Int.toNat_natCast,e1,e2,cO (show k < 9223372036854775807 by omega),bV hk,bR hk,Bool.and_self,cond_true]
  by_cases hz:l[k]=0
  ·simp [hz]
  ·simp [hz,Bool.cond_eq_ite]) (by simp only [sY,List.length_map,b0,cond_false]) N (by unfold iK at hN; omega)
 rw [LF,h1,Option.bind_some]
 rcases o with o | o
 ·simpa using h2
 ·simpa using h2
theorem nI {N:Nat} (hN:iK N) (l:List Int) (hl:l.length≤9223372036854775806):NX N l=some (bc l):=by
 obtain ⟨o,h1,h2⟩:=oS (rd:=yO N l) l (fun k hk=>by
  have hd:=jz n26 l k hk
  have e1:d26 (ah (List.map n26 l) k)=l[k]:=by rw [hd]; rfl
  have e2:an.fits Bi (ah (List.map n26 l) k)=true:=by rw [hd]; rfl
  simp only [yO,List.length_map,Int.toNat_natCast,e1,e2,cO (show k < 9223372036854775807 by omega),bV hk,bR hk,Bool.and_self,cond_true]
  by_cases hz:l[k]=0
  ·simp [hz]
  ·simp [hz,Bool.cond_eq_ite]) (by simp only [yO,List.length_map,b0,cond_false]) N (by unfold iK at hN; omega)
 rw [P7,h1,Option.bind_some]
 rcases o with o | o
 ·simpa using h2
 ·simpa using h2
theorem xm {N:Nat} (hN:iK N) (l:List Int) (hl:l.length≤9223372036854775806):T0 N l=some (bc l):=by
 obtain ⟨o,h1,h2⟩:=oS (rd:=yP N l) l (fun k hk=>by
  have hd:=jz n3 l k hk
  have e1:d3 (ah (List.map n3 l) k)=l[k]:=by rw [hd]; rfl
  have e2:an.fits p3 (ah (List.map n3 l) k)=true:=by rw [hd]; rfl
  simp only [yP,List.length_map,Int.toNat_natCast,e1,e2,cO (show k < 9223372036854775807 by omega),bV hk,bR hk,Bool.and_self,cond_true]
  by_cases hz:l[k]=0
  ·simp [hz]
  ·simp [hz,Bool.cond_eq_ite]) (by simp only [yP,List.length_map,b0,cond_false]) N (by unfold iK at hN; omega)
 rw [Qd,h1,Option.bind_some]
 rcases o with o | o
 ·simpa using h2
 ·simpa using h2
theorem It (x y:Int):((bif allFit (an.fits Bi) [AV.int .i64 x,AV.int .i64 y]&&true then some (List.map d26 [AV.int .i64 x,AV.int .i64 y]) else none:Option (List Int)))=some [x,y]:=rfl
theorem Xw (x y:Int):((bif allFit (an.fits p3) [AV.int .i64 x,AV.int .i64 y]&&true then some (List.map d3 [AV.int .i64 x,AV.int .i64 y]) else none:Option (List Int)))=some [x,y]:=rfl
theorem q8 (N:Nat) (b:Bool) (e:Int):E3 N (b,e)=some (if b then e else 0):=by rw [LG]; cases b <;> rfl
theorem vu (N:Nat) (b:Bool) (e:Int):P8 N (b,e)=some (if b then e else 0):=by rw [P9]; cases b <;> rfl
theorem Iu (N:Nat) (n lo hi:Int):HQ N (n,lo,hi)=some (AQ n lo hi):=by
 rw [LI,q8,q8]
 unfold AQ
 by_cases h1:n < lo
 ·simp [h1]
 ·by_cases h2:n > hi <;> simp [h1,h2]
theorem yQ (N:Nat) (n lo hi:Int):RB N (n,lo,hi)=some (AQ n lo hi):=by
 rw [Qa,vu,vu]
 unfold AQ
 by_cases h1:n < lo
 ·simp [h1]
 ·by_cases h2:n > hi <;> simp [h1,h2]
theorem DR (N:Nat) (n lo hi:Int):RC N (n,lo,hi)=some (AQ n lo hi):=by
 rw [Qe]
 unfold AQ
 by_cases h1:n < lo
 ·simp [h1]
 ·by_cases h2:n > hi <;> simp [h1,h2]
theorem xn {N:Nat} (hN:iK N) (p:Int × Int):E4 N p=some (cn p):=by
 rw [LL,LJ]
 simp only [Iu,Option.bind_some,beq_self_eq_true,Bool.and_self,cond_true]
 rw [It]
 simp only [Option.bind_some]
 rw [vt hN _ (by simp)]
 simp only [Option.bind_some,q8,Ql]
 rw [It]
 simp only [Option.bind_some]
 rw [vt hN _ (by simp)]
 simp only [Option.bind_some]
 congr 1
 unfold cn AQ
 simp only [bc]
 by_cases h1:p.1 < -100000∨p.1 > 100000
 ·have h:p.1 < -100000∨p.1 > 100000∨p.2 < -100000∨p.2 > 100000:=by omega
  simp [h,h1]
 ·by_cases h2:p.2 < -100000∨p.2 > 100000
  ·have h:p.1 < -100000∨p.1 > 100000∨p.2 < -100000∨p.2 > 100000:=by omega
   simp [h,h1,h2]
  ·have h:¬ (p.1 < -100000∨p.1 > 100000∨p.2 < -100000∨p.2 > 100000):=by omega
   by_cases h3:(p.1+p.2) % 2=0 <;> simp [h,h1,h2,h3]
theorem xo (N:Nat) (p:Int × Int):CN N p=some (cn p):=by
 rw [Mw,DQ,DQ,Mt]
 unfold cn
 by_cases h:p.1 < -100000∨p.1 > 100000∨p.2 < -100000∨p.2 > 100000
 ·rw [if_pos h]
  by_cases h1:p.1 < -100000 <;> by_cases h2:p.1 > 100000 <;> by_cases h3:p.2 < -100000 <;> by_cases h4:p.2 > 100000 <;> simp [h1,h2,h3,h4] <;> omega
 ·rw [if_neg h]
  have h1:¬ p.1 < -100000:=by omega
  have h2:¬ p.1 > 100000:=by omega
  have h3:¬ p.2 < -100000:=by omega
  have h4:¬ p.2 > 100000:=by omega
  rw [lW (x:=p.1+p.2) (by omega)]
  have e:((Int.tmod (p.1+p.2) 2) == 0)=decide ((p.1+p.2) % 2=0):=by
   by_cases h5:(p.1+p.2) % 2=0
   ·have:Int.tmod (p.1+p.2) 2=0:=Int.tmod_eq_zero_of_dvd (Int.dvd_of_emod_eq_zero h5)
    simp [h5,this]
   ·have:Int.tmod (p.1+p.2) 2≠0:=fun e=>h5 (Int.emod_eq_zero_of_dvd (Int.dvd_of_tmod_eq_zero e))
    simp [h5,this]
  rw [e]
  by_cases h5:(p.1+p.2) % 2=0 <;> simp [h1,h2,h3,h4,h5]
abbrev cQ:=Int × Int × Bool × Bool × Int
def sg (b:Bool):Int:=if b then 1 else -1
def a8 (c:cQ) (i:Nat):Int × Int:=(c.1+(i:Int) * sg c.2.2.1,c.2.1+((i % 2:Nat):Int) * sg c.2.2.2.1)
def bG (c:cQ) (k:Nat):List (Int × Int):=(List.range k).map (a8 c)
theorem dc (c:cQ) (k:Nat):(bG c k).length=k:=by simp [bG]
theorem A6 (c:cQ) (k:Nat):bG c (k+1)=bG c k++[a8 c k]:=by unfold bG; rw [List.range_succ,List.map_append]; rfl
theorem jD {p:Int × Int} (h:cn p=0):-100000≤p.1∧p.1≤100000∧-100000≤p.2∧p.2≤100000:=by
 unfold cn at h
 split at h
 ·cases h
 ·omega
theorem gN (N:Nat) (c:cQ) (i:Nat) (h:cn (c.1,c.2.1)=0) (hi:i≤100000):vn N ((c.1,c.2.1,c.2.2.1,c.2.2.2.1,c.2.2.2.2),(i:Int))=some (a8 c i):=by
 have hk:=jD h
 simp only at hk
 have t2:Int.tmod (i:Int) 2=((i % 2:Nat):Int):=rfl
 rw [Mj,DO,DO]
 obtain ⟨x,y,r,u,n⟩:=c
 simp only at hk ⊢
 have hm:0≤((i % 2:Nat):Int)∧((i % 2:Nat):Int) < 2:=by omega
 cases r <;> cases u
 all_goals simp only [cond_true,cond_false,Option.bind_some,beq_self_eq_true,Bool.and_self,t2,a8,sg,if_true,Bool.false_eq_true,if_false,Int.mul_one,Int.mul_neg]
 all_goals (generalize ((i % 2:Nat):Int)=q at *)
 all_goals (have a1:IntKind.wrap .i64 (i:Int)=i:=lW ⟨by omega,by omega⟩)
 all_goals (have a2:IntKind.wrap .i64 (-(i:Int))=-i:=lW ⟨by omega,by omega⟩)
 all_goals (have a3:IntKind.wrap .i64 q=q:=lW ⟨by omega,by omega⟩)
 all_goals (have a4:IntKind.wrap .i64 (-q)=-q:=lW ⟨by omega,by omega⟩)
 all_goals (simp only [a1,a2,a3,a4])
 all_goals (rw [lW ⟨by omega,by omega⟩,lW ⟨by omega,by omega⟩])
def df (c:cQ):Int:=bc [cn (c.1,c.2.1),AQ c.2.2.2.2 1 512]
def gC (c:cQ):Int:=if df c=0 then bc ((bG c (c.2.2.2.2.toNat+1)).map cn) else df c
theorem dA {c:cQ} (h:df c=0):cn (c.1,c.2.1)=0∧1≤c.2.2.2.2∧c.2.2.2.2≤512:=by
 have h:=lH.1 h
 refine ⟨h _ (by simp),?_⟩
 have:=h (AQ c.2.2.2.2 1 512) (by simp)
 unfold AQ at this
 split at this
 ·cases this
 ·omega
section
variable {N:Nat} (hN:iK N)
include hN
theorem Iv (c:cQ):Il N c=some (gC c):=by
 rw [Ml]
 simp only [xn hN,Option.bind_some,beq_self_eq_true,Bool.and_self,cond_true,yQ]
 rw [It]
 simp only [Option.bind_some]
 rw [nI hN _ (by simp)]
 simp only [Option.bind_some]
 have e1:bc [cn (c.1,c.2.1),AQ c.2.2.2.2 1 512]=df c:=rfl
 rw [e1]
 unfold gC
 by_cases h:df c=0
 ·obtain ⟨h1,h2,h3⟩:=dA h
  have key:=j5 (rd:=s7 N c) ((bG c (c.2.2.2.2.toNat+1)).map cn) (fun k hk=>by
   rw [List.length_map,dc] at hk
   have bT:decide ((k:Int) < IntKind.wrap .i64 (c.2.2.2.2+1))=true:=by rw [lW ⟨by omega,by omega⟩]; exact decide_eq_true (by omega)
   have q:=gN N c k h1 (by omega)
   have eg:((bG c (c.2.2.2.2.toNat+1)).map cn)[k]'(by rw [List.length_map,dc]; exact hk)=cn (a8 c k):=by simp [bG]
   rw [eg]
   have q2:E4 N ((a8 c k).1,(a8 c k).2)=some (cn (a8 c k)):=xn hN (a8 c k)
   simp only [s7,bT,cond_true,q,Option.bind_some,q2,cO (show k < 9223372036854775807 by omega)]
   by_cases hz:cn (a8 c k)=0
   ·simp [hz]
   ·simp [hz,Bool.cond_eq_ite]) (by
   rw [List.length_map,dc]
   have pd:decide (((c.2.2.2.2.toNat+1:Nat):Int) < IntKind.wrap .i64 (c.2.2.2.2+1))=false:=by rw [lW ⟨by omega,by omega⟩]; exact decide_eq_false (by omega)
   simp only [s7,pd,cond_false]) N (by rw [List.length_map,dc]; unfold iK at hN; omega)
  rw [h,key]
  simp only [bne_self_eq_false,cond_false,Option.bind_some,if_true]
  by_cases hz:bc ((bG c (c.2.2.2.2.toNat+1)).map cn)=0
  ·rw [if_pos hz,hz]; rfl
  ·rw [if_neg hz]; rfl
 ·have hb:(df c != 0)=true:=bne_iff_ne.2 h
  rw [hb,cond_true,if_neg h]
theorem Qm (l:List (Int × Int)) (p:Int × Int):List.map fS l++[AV.agg [AV.int .i64 p.1,AV.int .i64 p.2]]=List.map fS (l++[p]):=by rw [List.map_append]; rfl
theorem My (l:List (Int × Int)) {k:Nat} (hk:k < l.length):d86 (ah (List.map fS l) k)=l[k]∧an.fits nF (ah (List.map fS l) k)=true:=by
 rw [jz fS l k hk,WA,Wz]; exact ⟨rfl,rfl⟩
theorem Iw (c:cQ) (h:df c=0):Im N c=some (a8 c c.2.2.2.2.toNat):=by
 obtain ⟨h1,h2,h3⟩:=dA h
 have q:=gN N c c.2.2.2.2.toNat h1 (by omega)
 rw [show ((c.2.2.2.2.toNat:Nat):Int)=c.2.2.2.2 by omega] at q
 rw [Mn,q]
 rfl
end
end Go.Proofs.YtldcljfjjoidhaaGreatDoor
