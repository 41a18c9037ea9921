/- Plain laws: knots,courses,their checks and walks. -/
import Derived.Test.YtldcljfjjoidhaaGreatDoorBraT
import Derived.Test.YtldcljfjjoidhaaGreatDoorAmKK
import Derived.Test.YtldcljfjjoidhaaGreatDoorAmKL
set_option linter.all false
namespace Go.Proofs.YtldcljfjjoidhaaGreatDoor
open Go Go.Am
set_option maxRecDepth 100000
theorem DU (n:Nat) (h:n < 18446744073709551616):(BitVec.ofInt 64 (IntKind.wrap .i64 (n:Int))).toNat=n:=by
 rw [BitVec.toNat_ofInt,IntKind.wrap_i64]
 omega
theorem aat (a b:Nat):(a ^^^ b) % 2=(a+b) % 2:=by
 have h:=Nat.xor_mod_two_pow (a:=a) (b:=b) (n:=1)
 rw [Nat.pow_one] at h
 rw [h]
 rcases Nat.mod_two_eq_zero_or_one a with ha | ha <;> rcases Nat.mod_two_eq_zero_or_one b with hb | hb <;> rw [ha,hb] <;> simp <;> omega
theorem SZ (x y:Int):(Fv .i64 (Fw .i64 x y) 1 != 0)=decide ((x+y) % 2≠0):=by
 have h1:(BitVec.ofInt 64 x ^^^ BitVec.ofInt 64 y).toNat < 18446744073709551616:=(BitVec.ofInt 64 x ^^^ BitVec.ofInt 64 y).isLt
 have h2:(BitVec.ofInt 64 1).toNat=1:=by decide
 have h3:Fv .i64 (Fw .i64 x y) 1=IntKind.wrap .i64 ((((BitVec.ofInt 64 x ^^^ BitVec.ofInt 64 y).toNat % 2:Nat)):Int):=by
  show IntKind.wrap .i64 (((BitVec.ofInt 64 (IntKind.wrap .i64 (((BitVec.ofInt 64 x ^^^ BitVec.ofInt 64 y).toNat:Nat):Int)) &&& BitVec.ofInt 64 1).toNat:Nat):Int)=_
  rw [BitVec.toNat_and,DU _ h1,h2,Nat.and_one_is_mod]
 rw [h3,iH (by omega),BitVec.toNat_xor,aat,BitVec.toNat_ofInt,BitVec.toNat_ofInt]
 have e:((((x % ((2 ^ 64:Nat):Int)).toNat+(y % ((2 ^ 64:Nat):Int)).toNat) % 2:Nat):Int)=(x+y) % 2:=by omega
 rw [e]
 by_cases h:(x+y) % 2=0 <;> simp [h]
def aL (p:Int × Int):Int:=if p.1 < -100000∨p.1 > 100000∨p.2 < -100000∨p.2 > 100000 then 3 else if (p.1+p.2) % 2=0 then 0 else 14
theorem ia {N:Nat} (hN:fC N) (l:List Int) (hl:l.length≤9223372036854775806):tC N l=some (aY l):=by
 obtain ⟨o,h1,h2⟩:=mo (rd:=tV N l) l (fun k hk=>by
  have hd:=fS n26 l k hk
  have e1:d26 (ah (List.map n26 l) k)=l[k]:=by rw [hd]; rfl
  have e2:aj.fits zS (ah (List.map n26 l) k)=true:=by rw [hd]; rfl
  simp only [tV,List.length_map,Int.toNat_natCast,e1,e2,bk (show k < 9223372036854775807 by omega),a8 hk,aI hk,Bool.and_self,cond_true]
  by_cases hz:l[k]=0
  ·simp [hz]
  ·simp [hz,Bool.cond_eq_ite]) (by simp only [tV,List.length_map,bp,cond_false]) N (by unfold fC at hN; omega)
 rw [NA,h1,Option.bind_some]
 rcases o with o | o
 ·simpa using h2
 ·simpa using h2
theorem yA {N:Nat} (hN:fC N) (l:List Int) (hl:l.length≤9223372036854775806):Ux N l=some (aY l):=by
 obtain ⟨o,h1,h2⟩:=mo (rd:=zV N l) l (fun k hk=>by
  have hd:=fS n26 l k hk
  have e1:d26 (ah (List.map n26 l) k)=l[k]:=by rw [hd]; rfl
  have e2:aj.fits zS (ah (List.map n26 l) k)=true:=by rw [hd]; rfl
  simp only [zV,List.length_map,Int.toNat_natCast,e1,e2,bk (show k < 9223372036854775807 by omega),a8 hk,aI hk,Bool.and_self,cond_true]
  by_cases hz:l[k]=0
  ·simp [hz]
  ·simp [hz,Bool.cond_eq_ite]) (by simp only [zV,List.length_map,bp,cond_false]) N (by unfold fC at hN; omega)
 rw [SC,h1,Option.bind_some]
 rcases o with o | o
 ·simpa using h2
 ·simpa using h2
theorem GA {N:Nat} (hN:fC N) (l:List Int) (hl:l.length≤9223372036854775806):X1 N l=some (aY l):=by
 obtain ⟨o,h1,h2⟩:=mo (rd:=zW N l) l (fun k hk=>by
  have hd:=fS n3 l k hk
  have e1:d3 (ah (List.map n3 l) k)=l[k]:=by rw [hd]; rfl
  have e2:aj.fits p3 (ah (List.map n3 l) k)=true:=by rw [hd]; rfl
  simp only [zW,List.length_map,Int.toNat_natCast,e1,e2,bk (show k < 9223372036854775807 by omega),a8 hk,aI hk,Bool.and_self,cond_true]
  by_cases hz:l[k]=0
  ·simp [hz]
  ·simp [hz,Bool.cond_eq_ite]) (by simp only [zW,List.length_map,bp,cond_false]) N (by unfold fC at hN; omega)
 rw [SI,h1,Option.bind_some]
 rcases o with o | o
 ·simpa using h2
 ·simpa using h2
theorem yB (x y:Int):((bif allFit (aj.fits zS) [AV.int .i64 x,AV.int .i64 y]&&true then some (List.map d26 [AV.int .i64 x,AV.int .i64 y]) else none:Option (List Int)))=some [x,y]:=rfl
theorem aau (x y:Int):((bif allFit (aj.fits p3) [AV.int .i64 x,AV.int .i64 y]&&true then some (List.map d3 [AV.int .i64 x,AV.int .i64 y]) else none:Option (List Int)))=some [x,y]:=rfl
theorem jt (N:Nat) (b:Bool) (e:Int):xx N (b,e)=some (if b then e else 0):=by rw [NB]; cases b <;> rfl
theorem wB (N:Nat) (b:Bool) (e:Int):SD N (b,e)=some (if b then e else 0):=by rw [SE]; cases b <;> rfl
theorem BY (N:Nat) (n lo hi:Int):JD N (n,lo,hi)=some (BH n lo hi):=by
 rw [NE,jt,jt]
 unfold BH
 by_cases h1:n < lo
 ·simp [h1]
 ·by_cases h2:n > hi <;> simp [h1,h2]
theorem Ox (N:Nat) (n lo hi:Int):X0 N (n,lo,hi)=some (BH n lo hi):=by
 rw [SG,wB,wB]
 unfold BH
 by_cases h1:n < lo
 ·simp [h1]
 ·by_cases h2:n > hi <;> simp [h1,h2]
theorem Oy (N:Nat) (n lo hi:Int):X2 N (n,lo,hi)=some (BH n lo hi):=by
 rw [SK]
 unfold BH
 by_cases h1:n < lo
 ·simp [h1]
 ·by_cases h2:n > hi <;> simp [h1,h2]
theorem r8 {N:Nat} (hN:fC N) (p:Int × Int):BN N p=some (aL p):=by
 rw [NF,EZ]
 simp only [BY,Option.bind_some,beq_self_eq_true,Bool.and_self,cond_true]
 rw [yB]
 simp only [Option.bind_some]
 rw [ia hN _ (by simp)]
 simp only [Option.bind_some,jt,SZ]
 rw [yB]
 simp only [Option.bind_some]
 rw [ia hN _ (by simp)]
 simp only [Option.bind_some]
 congr 1
 unfold aL BH
 simp only [aY]
 by_cases h1:p.1 < -100000∨p.1 > 100000
 ·have h:p.1 < -100000∨p.1 > 100000∨p.2 < -100000∨p.2 > 100000:=by omega
  simp [h,h1]
 ·by_cases h2:p.2 < -100000∨p.2 > 100000
  ·have h:p.1 < -100000∨p.1 > 100000∨p.2 < -100000∨p.2 > 100000:=by omega
   simp [h,h1,h2]
  ·have h:¬ (p.1 < -100000∨p.1 > 100000∨p.2 < -100000∨p.2 > 100000):=by omega
   by_cases h3:(p.1+p.2) % 2=0 <;> simp [h,h1,h2,h3]
theorem yC (N:Nat) (p:Int × Int):DQ N p=some (aL p):=by
 rw [Ow,E7,E7,Ou]
 unfold aL
 by_cases h:p.1 < -100000∨p.1 > 100000∨p.2 < -100000∨p.2 > 100000
 ·rw [if_pos h]
  by_cases h1:p.1 < -100000 <;> by_cases h2:p.1 > 100000 <;> by_cases h3:p.2 < -100000 <;> by_cases h4:p.2 > 100000 <;> simp [h1,h2,h3,h4] <;> omega
 ·rw [if_neg h]
  have h1:¬ p.1 < -100000:=by omega
  have h2:¬ p.1 > 100000:=by omega
  have h3:¬ p.2 < -100000:=by omega
  have h4:¬ p.2 > 100000:=by omega
  rw [iH (x:=p.1+p.2) (by omega)]
  have e:((Int.tmod (p.1+p.2) 2) == 0)=decide ((p.1+p.2) % 2=0):=by
   by_cases h5:(p.1+p.2) % 2=0
   ·have:Int.tmod (p.1+p.2) 2=0:=Int.tmod_eq_zero_of_dvd (Int.dvd_of_emod_eq_zero h5)
    simp [h5,this]
   ·have:Int.tmod (p.1+p.2) 2≠0:=fun e=>h5 (Int.emod_eq_zero_of_dvd (Int.dvd_of_tmod_eq_zero e))
    simp [h5,this]
  rw [e]
  by_cases h5:(p.1+p.2) % 2=0 <;> simp [h1,h2,h3,h4,h5]
abbrev dh:=Int × Int × Bool × Bool × Int
def sg (b:Bool):Int:=if b then 1 else -1
def aN (c:dh) (i:Nat):Int × Int:=(c.1+(i:Int) * sg c.2.2.1,c.2.1+((i % 2:Nat):Int) * sg c.2.2.2.1)
def bO (c:dh) (k:Nat):List (Int × Int):=(List.range k).map (aN c)
theorem dA (c:dh) (k:Nat):(bO c k).length=k:=by simp [bO]
theorem BZ (c:dh) (k:Nat):bO c (k+1)=bO c k++[aN c k]:=by unfold bO; rw [List.range_succ,List.map_append]; rfl
theorem jU {p:Int × Int} (h:aL p=0):-100000≤p.1∧p.1≤100000∧-100000≤p.2∧p.2≤100000:=by
 unfold aL at h
 split at h
 ·cases h
 ·omega
theorem dW (N:Nat) (c:dh) (i:Nat) (h:aL (c.1,c.2.1)=0) (hi:i≤100000):nK N ((c.1,c.2.1,c.2.2.1,c.2.2.2.1,c.2.2.2.2),(i:Int))=some (aN c i):=by
 have hk:=jU h
 simp only at hk
 have t2:Int.tmod (i:Int) 2=((i % 2:Nat):Int):=rfl
 rw [Of,E5,E5]
 obtain ⟨x,y,r,u,n⟩:=c
 simp only at hk ⊢
 have hm:0≤((i % 2:Nat):Int)∧((i % 2:Nat):Int) < 2:=by omega
 cases r <;> cases u
 all_goals simp only [cond_true,cond_false,Option.bind_some,beq_self_eq_true,Bool.and_self,t2,aN,sg,if_true,Bool.false_eq_true,if_false,Int.mul_one,Int.mul_neg]
 all_goals (generalize ((i % 2:Nat):Int)=q at *)
 all_goals (have a1:IntKind.wrap .i64 (i:Int)=i:=iH ⟨by omega,by omega⟩)
 all_goals (have a2:IntKind.wrap .i64 (-(i:Int))=-i:=iH ⟨by omega,by omega⟩)
 all_goals (have a3:IntKind.wrap .i64 q=q:=iH ⟨by omega,by omega⟩)
 all_goals (have a4:IntKind.wrap .i64 (-q)=-q:=iH ⟨by omega,by omega⟩)
 all_goals (simp only [a1,a2,a3,a4])
 all_goals (rw [iH ⟨by omega,by omega⟩,iH ⟨by omega,by omega⟩])
def cm (c:dh):Int:=aY [aL (c.1,c.2.1),BH c.2.2.2.2 1 512]
def fT (c:dh):Int:=if cm c=0 then aY ((bO c (c.2.2.2.2.toNat+1)).map aL) else cm c
theorem dB {c:dh} (h:cm c=0):aL (c.1,c.2.1)=0∧1≤c.2.2.2.2∧c.2.2.2.2≤512:=by
 have h:=jl.1 h
 refine ⟨h _ (by simp),?_⟩
 have:=h (BH c.2.2.2.2 1 512) (by simp)
 unfold BH at this
 split at this
 ·cases this
 ·omega
section
variable {N:Nat} (hN:fC N)
include hN
theorem Kg (c:dh):J9 N c=some (fT c):=by
 rw [Oh]
 simp only [r8 hN,Option.bind_some,beq_self_eq_true,Bool.and_self,cond_true,Ox]
 rw [yB]
 simp only [Option.bind_some]
 rw [yA hN _ (by simp)]
 simp only [Option.bind_some]
 have e1:aY [aL (c.1,c.2.1),BH c.2.2.2.2 1 512]=cm c:=rfl
 rw [e1]
 unfold fT
 by_cases h:cm c=0
 ·obtain ⟨h1,h2,h3⟩:=dB h
  have key:=iJ (rd:=tZ N c) ((bO c (c.2.2.2.2.toNat+1)).map aL) (fun k hk=>by
   rw [List.length_map,dA] at hk
   have bP:decide ((k:Int) < IntKind.wrap .i64 (c.2.2.2.2+1))=true:=by rw [iH ⟨by omega,by omega⟩]; exact decide_eq_true (by omega)
   have q:=dW N c k h1 (by omega)
   have eg:((bO c (c.2.2.2.2.toNat+1)).map aL)[k]'(by rw [List.length_map,dA]; exact hk)=aL (aN c k):=by simp [bO]
   rw [eg]
   have q2:BN N ((aN c k).1,(aN c k).2)=some (aL (aN c k)):=r8 hN (aN c k)
   simp only [tZ,bP,cond_true,q,Option.bind_some,q2,bk (show k < 9223372036854775807 by omega)]
   by_cases hz:aL (aN c k)=0
   ·simp [hz]
   ·simp [hz,Bool.cond_eq_ite]) (by
   rw [List.length_map,dA]
   have lM:decide (((c.2.2.2.2.toNat+1:Nat):Int) < IntKind.wrap .i64 (c.2.2.2.2+1))=false:=by rw [iH ⟨by omega,by omega⟩]; exact decide_eq_false (by omega)
   simp only [tZ,lM,cond_false]) N (by rw [List.length_map,dA]; unfold fC at hN; omega)
  rw [h,key]
  simp only [bne_self_eq_false,cond_false,Option.bind_some,if_true]
  by_cases hz:aY ((bO c (c.2.2.2.2.toNat+1)).map aL)=0
  ·rw [if_pos hz,hz]; rfl
  ·rw [if_neg hz]; rfl
 ·have hb:(cm c != 0)=true:=bne_iff_ne.2 h
  rw [hb,cond_true,if_neg h]
theorem S0 (l:List (Int × Int)) (p:Int × Int):List.map av l++[AV.agg [AV.int .i64 p.1,AV.int .i64 p.2]]=List.map av (l++[p]):=by rw [List.map_append]; rfl
theorem Kh (l:List (Int × Int)) {k:Nat} (hk:k < l.length):d86 (ah (List.map av l) k)=l[k]∧aj.fits cG (ah (List.map av l) k)=true:=by
 rw [fS av l k hk,V2,V1]; exact ⟨rfl,rfl⟩
theorem Ki (c:dh) (h:cm c=0):Oi N c=some (aN c c.2.2.2.2.toNat):=by
 obtain ⟨h1,h2,h3⟩:=dB h
 have q:=dW N c c.2.2.2.2.toNat h1 (by omega)
 rw [show ((c.2.2.2.2.toNat:Nat):Int)=c.2.2.2.2 by omega] at q
 rw [Om,q]
 rfl
end
end Go.Proofs.YtldcljfjjoidhaaGreatDoor
