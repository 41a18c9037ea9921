/- Plain laws: knots,courses,their checks and walks. -/
import Derived.Test.YtldcljfjjoidhaaGreatDoorBraT
import Derived.Test.YtldcljfjjoidhaaGreatDoorAmKK
import Derived.Test.YtldcljfjjoidhaaGreatDoorAmKL
set_option linter.all false
namespace Go.Proofs.YtldcljfjjoidhaaGreatDoor
open Go Go.Am
set_option maxRecDepth 100000
theorem D2 (n:Nat) (h:n < 18446744073709551616):(BitVec.ofInt 64 (IntKind.wrap .i64 (n:Int))).toNat=n:=by
 rw [BitVec.toNat_ofInt,IntKind.wrap_i64]
 omega
theorem aaQ (a b:Nat):(a ^^^ b) % 2=(a+b) % 2:=by
 have h:=Nat.xor_mod_two_pow (a:=a) (b:=b) (n:=1)
 rw [Nat.pow_one] at h
 rw [h]
 rcases Nat.mod_two_eq_zero_or_one a with ha | ha <;> rcases Nat.mod_two_eq_zero_or_one b with hb | hb <;> rw [ha,hb] <;> simp <;> omega
theorem Tp (x y:Int):(FG .i64 (FH .i64 x y) 1 != 0)=decide ((x+y) % 2≠0):=by
 have h1:(BitVec.ofInt 64 x ^^^ BitVec.ofInt 64 y).toNat < 18446744073709551616:=(BitVec.ofInt 64 x ^^^ BitVec.ofInt 64 y).isLt
 have h2:(BitVec.ofInt 64 1).toNat=1:=by decide
 have h3:FG .i64 (FH .i64 x y) 1=IntKind.wrap .i64 ((((BitVec.ofInt 64 x ^^^ BitVec.ofInt 64 y).toNat % 2:Nat)):Int):=by
  show IntKind.wrap .i64 (((BitVec.ofInt 64 (IntKind.wrap .i64 (((BitVec.ofInt 64 x ^^^ BitVec.ofInt 64 y).toNat:Nat):Int)) &&& BitVec.ofInt 64 1).toNat:Nat):Int)=_
  rw [BitVec.toNat_and,D2 _ h1,h2,Nat.and_one_is_mod]
 rw [h3,gY (by omega),BitVec.toNat_xor,aaQ,BitVec.toNat_ofInt,BitVec.toNat_ofInt]
 have e:((((x % ((2 ^ 64:Nat):Int)).toNat+(y % ((2 ^ 64:Nat):Int)).toNat) % 2:Nat):Int)=(x+y) % 2:=by omega
 rw [e]
 by_cases h:(x+y) % 2=0 <;> simp [h]
def aM (p:Int × Int):Int:=if p.1 < -100000∨p.1 > 100000∨p.2 < -100000∨p.2 > 100000 then 3 else if (p.1+p.2) % 2=0 then 0 else 14
theorem iq {N:Nat} (hN:fq N) (l:List Int) (hl:l.length≤9223372036854775806):tP N l=some (aY l):=by
 obtain ⟨o,h1,h2⟩:=mA (rd:=ul N l) l (fun k hk=>by
  have hd:=fV n26 l k hk
  have e1:d26 (ah (List.map n26 l) k)=l[k]:=by rw [hd]; rfl
  have e2:aj.fits Ac (ah (List.map n26 l) k)=true:=by rw [hd]; rfl
  simp only [ul,List.length_map,Int.toNat_natCast,e1,e2,bk (show k < 9223372036854775807 by omega),bc hk,aI hk,Bool.and_self,cond_true]
  by_cases hz:l[k]=0
  ·simp [hz]
  ·simp [hz,Bool.cond_eq_ite]) (by simp only [ul,List.length_map,bq,cond_false]) N (by unfold fq at hN; omega)
 rw [NR,h1,Option.bind_some]
 rcases o with o | o
 ·simpa using h2
 ·simpa using h2
theorem yQ {N:Nat} (hN:fq N) (l:List Int) (hl:l.length≤9223372036854775806):U2 N l=some (aY l):=by
 obtain ⟨o,h1,h2⟩:=mA (rd:=Af N l) l (fun k hk=>by
  have hd:=fV n26 l k hk
  have e1:d26 (ah (List.map n26 l) k)=l[k]:=by rw [hd]; rfl
  have e2:aj.fits Ac (ah (List.map n26 l) k)=true:=by rw [hd]; rfl
  simp only [Af,List.length_map,Int.toNat_natCast,e1,e2,bk (show k < 9223372036854775807 by omega),bc hk,aI hk,Bool.and_self,cond_true]
  by_cases hz:l[k]=0
  ·simp [hz]
  ·simp [hz,Bool.cond_eq_ite]) (by simp only [Af,List.length_map,bq,cond_false]) N (by unfold fq at hN; omega)
 rw [S1,h1,Option.bind_some]
 rcases o with o | o
 ·simpa using h2
 ·simpa using h2
theorem GP {N:Nat} (hN:fq N) (l:List Int) (hl:l.length≤9223372036854775806):Yr N l=some (aY l):=by
 obtain ⟨o,h1,h2⟩:=mA (rd:=Aj N l) l (fun k hk=>by
  have hd:=fV n3 l k hk
  have e1:d3 (ah (List.map n3 l) k)=l[k]:=by rw [hd]; rfl
  have e2:aj.fits p3 (ah (List.map n3 l) k)=true:=by rw [hd]; rfl
  simp only [Aj,List.length_map,Int.toNat_natCast,e1,e2,bk (show k < 9223372036854775807 by omega),bc hk,aI hk,Bool.and_self,cond_true]
  by_cases hz:l[k]=0
  ·simp [hz]
  ·simp [hz,Bool.cond_eq_ite]) (by simp only [Aj,List.length_map,bq,cond_false]) N (by unfold fq at hN; omega)
 rw [Tb,h1,Option.bind_some]
 rcases o with o | o
 ·simpa using h2
 ·simpa using h2
theorem yR (x y:Int):((bif allFit (aj.fits Ac) [AV.int .i64 x,AV.int .i64 y]&&true then some (List.map d26 [AV.int .i64 x,AV.int .i64 y]) else none:Option (List Int)))=some [x,y]:=rfl
theorem aaR (x y:Int):((bif allFit (aj.fits p3) [AV.int .i64 x,AV.int .i64 y]&&true then some (List.map d3 [AV.int .i64 x,AV.int .i64 y]) else none:Option (List Int)))=some [x,y]:=rfl
theorem jA (N:Nat) (b:Bool) (e:Int):xJ N (b,e)=some (if b then e else 0):=by rw [NS]; cases b <;> rfl
theorem wO (N:Nat) (b:Bool) (e:Int):S2 N (b,e)=some (if b then e else 0):=by rw [S3]; cases b <;> rfl
theorem Cf (N:Nat) (n lo hi:Int):JM N (n,lo,hi)=some (B0 n lo hi):=by
 rw [NU,jA,jA]
 unfold B0
 by_cases h1:n < lo
 ·simp [h1]
 ·by_cases h2:n > hi <;> simp [h1,h2]
theorem OL (N:Nat) (n lo hi:Int):Yq N (n,lo,hi)=some (B0 n lo hi):=by
 rw [S5,wO,wO]
 unfold B0
 by_cases h1:n < lo
 ·simp [h1]
 ·by_cases h2:n > hi <;> simp [h1,h2]
theorem OM (N:Nat) (n lo hi:Int):Ys N (n,lo,hi)=some (B0 n lo hi):=by
 rw [Td]
 unfold B0
 by_cases h1:n < lo
 ·simp [h1]
 ·by_cases h2:n > hi <;> simp [h1,h2]
theorem si {N:Nat} (hN:fq N) (p:Int × Int):B6 N p=some (aM p):=by
 rw [NV,E8]
 simp only [Cf,Option.bind_some,beq_self_eq_true,Bool.and_self,cond_true]
 rw [yR]
 simp only [Option.bind_some]
 rw [iq hN _ (by simp)]
 simp only [Option.bind_some,jA,Tp]
 rw [yR]
 simp only [Option.bind_some]
 rw [iq hN _ (by simp)]
 simp only [Option.bind_some]
 congr 1
 unfold aM B0
 simp only [aY]
 by_cases h1:p.1 < -100000∨p.1 > 100000
 ·have h:p.1 < -100000∨p.1 > 100000∨p.2 < -100000∨p.2 > 100000:=by omega
  simp [h,h1]
 ·by_cases h2:p.2 < -100000∨p.2 > 100000
  ·have h:p.1 < -100000∨p.1 > 100000∨p.2 < -100000∨p.2 > 100000:=by omega
   simp [h,h1,h2]
  ·have h:¬ (p.1 < -100000∨p.1 > 100000∨p.2 < -100000∨p.2 > 100000):=by omega
   by_cases h3:(p.1+p.2) % 2=0 <;> simp [h,h1,h2,h3]
theorem sj (N:Nat) (p:Int × Int):Ak N p=some (aM p):=by
 rw [OK,Fi,Fi,OJ]
 unfold aM
 by_cases h:p.1 < -100000∨p.1 > 100000∨p.2 < -100000∨p.2 > 100000
 ·rw [if_pos h]
  by_cases h1:p.1 < -100000 <;> by_cases h2:p.1 > 100000 <;> by_cases h3:p.2 < -100000 <;> by_cases h4:p.2 > 100000 <;> simp [h1,h2,h3,h4] <;> omega
 ·rw [if_neg h]
  have h1:¬ p.1 < -100000:=by omega
  have h2:¬ p.1 > 100000:=by omega
  have h3:¬ p.2 < -100000:=by omega
  have h4:¬ p.2 > 100000:=by omega
  rw [gY (x:=p.1+p.2) (by omega)]
  have e:((Int.tmod (p.1+p.2) 2) == 0)=decide ((p.1+p.2) % 2=0):=by
   by_cases h5:(p.1+p.2) % 2=0
   ·have:Int.tmod (p.1+p.2) 2=0:=Int.tmod_eq_zero_of_dvd (Int.dvd_of_emod_eq_zero h5)
    simp [h5,this]
   ·have:Int.tmod (p.1+p.2) 2≠0:=fun e=>h5 (Int.emod_eq_zero_of_dvd (Int.dvd_of_tmod_eq_zero e))
    simp [h5,this]
  rw [e]
  by_cases h5:(p.1+p.2) % 2=0 <;> simp [h1,h2,h3,h4,h5]
abbrev da:=Int × Int × Bool × Bool × Int
def sg (b:Bool):Int:=if b then 1 else -1
def ax (c:da) (i:Nat):Int × Int:=(c.1+(i:Int) * sg c.2.2.1,c.2.1+((i % 2:Nat):Int) * sg c.2.2.2.1)
def aZ (c:da) (k:Nat):List (Int × Int):=(List.range k).map (ax c)
theorem cR (c:da) (k:Nat):(aZ c k).length=k:=by simp [aZ]
theorem tu (c:da) (k:Nat):aZ c (k+1)=aZ c k++[ax c k]:=by unfold aZ; rw [List.range_succ,List.map_append]; rfl
theorem j7 {p:Int × Int} (h:aM p=0):-100000≤p.1∧p.1≤100000∧-100000≤p.2∧p.2≤100000:=by
 unfold aM at h
 split at h
 ·cases h
 ·omega
theorem dJ (N:Nat) (c:da) (i:Nat) (h:aM (c.1,c.2.1)=0) (hi:i≤100000):mQ N ((c.1,c.2.1,c.2.2.1,c.2.2.2.1,c.2.2.2.2),(i:Int))=some (ax c i):=by
 have hk:=j7 h
 simp only at hk
 have t2:Int.tmod (i:Int) 2=((i % 2:Nat):Int):=rfl
 rw [OC,Ff,Ff]
 obtain ⟨x,y,r,u,n⟩:=c
 simp only at hk ⊢
 have hm:0≤((i % 2:Nat):Int)∧((i % 2:Nat):Int) < 2:=by omega
 cases r <;> cases u
 all_goals simp only [cond_true,cond_false,Option.bind_some,beq_self_eq_true,Bool.and_self,t2,ax,sg,if_true,Bool.false_eq_true,if_false,Int.mul_one,Int.mul_neg]
 all_goals (generalize ((i % 2:Nat):Int)=q at *)
 all_goals (have a1:IntKind.wrap .i64 (i:Int)=i:=gY ⟨by omega,by omega⟩)
 all_goals (have a2:IntKind.wrap .i64 (-(i:Int))=-i:=gY ⟨by omega,by omega⟩)
 all_goals (have a3:IntKind.wrap .i64 q=q:=gY ⟨by omega,by omega⟩)
 all_goals (have a4:IntKind.wrap .i64 (-q)=-q:=gY ⟨by omega,by omega⟩)
 all_goals (simp only [a1,a2,a3,a4])
 all_goals (rw [gY ⟨by omega,by omega⟩,gY ⟨by omega,by omega⟩])
def cr (c:da):Int:=aY [aM (c.1,c.2.1),B0 c.2.2.2.2 1 512]
def dQ (c:da):Int:=if cr c=0 then aY ((aZ c (c.2.2.2.2.toNat+1)).map aM) else cr c
theorem cZ {c:da} (h:cr c=0):aM (c.1,c.2.1)=0∧1≤c.2.2.2.2∧c.2.2.2.2≤512:=by
 have h:=jt.1 h
 refine ⟨h _ (by simp),?_⟩
 have:=h (B0 c.2.2.2.2 1 512) (by simp)
 unfold B0 at this
 split at this
 ·cases this
 ·omega
section
variable {N:Nat} (hN:fq N)
include hN
theorem wP (c:da):Ah N c=some (dQ c):=by
 rw [OE]
 simp only [si hN,Option.bind_some,beq_self_eq_true,Bool.and_self,cond_true,OL]
 rw [yR]
 simp only [Option.bind_some]
 rw [yQ hN _ (by simp)]
 simp only [Option.bind_some]
 have e1:aY [aM (c.1,c.2.1),B0 c.2.2.2.2 1 512]=cr c:=rfl
 rw [e1]
 unfold dQ
 by_cases h:cr c=0
 ·obtain ⟨h1,h2,h3⟩:=cZ h
  have key:=iO (rd:=ur N c) ((aZ c (c.2.2.2.2.toNat+1)).map aM) (fun k hk=>by
   rw [List.length_map,cR] at hk
   have bM:decide ((k:Int) < IntKind.wrap .i64 (c.2.2.2.2+1))=true:=by rw [gY ⟨by omega,by omega⟩]; exact decide_eq_true (by omega)
   have q:=dJ N c k h1 (by omega)
   have eg:((aZ c (c.2.2.2.2.toNat+1)).map aM)[k]'(by rw [List.length_map,cR]; exact hk)=aM (ax c k):=by simp [aZ]
   rw [eg]
   have q2:B6 N ((ax c k).1,(ax c k).2)=some (aM (ax c k)):=si hN (ax c k)
   simp only [ur,bM,cond_true,q,Option.bind_some,q2,bk (show k < 9223372036854775807 by omega)]
   by_cases hz:aM (ax c k)=0
   ·simp [hz]
   ·simp [hz,Bool.cond_eq_ite]) (by
   rw [List.length_map,cR]
   have kN:decide (((c.2.2.2.2.toNat+1:Nat):Int) < IntKind.wrap .i64 (c.2.2.2.2+1))=false:=by rw [gY ⟨by omega,by omega⟩]; exact decide_eq_false (by omega)
   simp only [ur,kN,cond_false]) N (by rw [List.length_map,cR]; unfold fq at hN; omega)
  rw [h,key]
  simp only [bne_self_eq_false,cond_false,Option.bind_some,if_true]
  by_cases hz:aY ((aZ c (c.2.2.2.2.toNat+1)).map aM)=0
  ·rw [if_pos hz,hz]; rfl
  ·rw [if_neg hz]; rfl
 ·have hb:(cr c != 0)=true:=bne_iff_ne.2 h
  rw [hb,cond_true,if_neg h]
theorem Kn (l:List (Int × Int)) (p:Int × Int):List.map au l++[AV.agg [AV.int .i64 p.1,AV.int .i64 p.2]]=List.map au (l++[p]):=by rw [List.map_append]; rfl
theorem Tq (l:List (Int × Int)) {k:Nat} (hk:k < l.length):d86 (ah (List.map au l) k)=l[k]∧aj.fits cG (ah (List.map au l) k)=true:=by
 rw [fV au l k hk,Wr,Wq]; exact ⟨rfl,rfl⟩
theorem Cg (c:da) (h:cr c=0):GN N c=some (ax c c.2.2.2.2.toNat):=by
 obtain ⟨h1,h2,h3⟩:=cZ h
 have q:=dJ N c c.2.2.2.2.toNat h1 (by omega)
 rw [show ((c.2.2.2.2.toNat:Nat):Int)=c.2.2.2.2 by omega] at q
 rw [OF,q]
 rfl
theorem Ko (c:da):W5 N c=some (if dQ c=0 then (aZ c (c.2.2.2.2.toNat+1),0) else ([],dQ c)):=by
 have q:Ah N (c.1,c.2.1,c.2.2.1,c.2.2.2.1,c.2.2.2.2)=some (dQ c):=wP hN c
 rw [S7,q,Option.bind_some]
 have z:((bif (allFit (aj.fits cG) ([]:List AV)&&true) then some ((List.map d86 ([]:List AV)),0) else none:Option ((List (Int × Int)) × Int)).bind fun w8=>bif (decide (0=(List.map au w8.1).length)&&true) then some w8 else none)=some ([],0):=rfl
 rw [z,Option.bind_some]
 by_cases h:dQ c=0
 ·have he1:cr c=0:=by
   unfold dQ at h
   by_cases h1:cr c=0
   ·exact h1
   ·rw [if_neg h1] at h; exact h
  obtain ⟨h1,h2,h3⟩:=cZ he1
  have key:=bH (rd:=qW N c) (c.2.2.2.2.toNat+1) (fun k=>(aZ c k,(k:Int))) (aZ c (c.2.2.2.2.toNat+1)) (fun k hk=>by
   have bM:decide ((k:Int) < IntKind.wrap .i64 (c.2.2.2.2+1))=true:=by rw [gY ⟨by omega,by omega⟩]; exact decide_eq_true (by omega)
   have q:=dJ N c k h1 (by omega)
   have hb:decide (((aZ c k).length+1) * 16≤140737488355328)=true:=by rw [cR]; exact decide_eq_true (by omega)
   have hl:(aZ c k++[ax c k]).length=(aZ c k).length+1:=by simp
   rw [tu]
   simp only [qW,bM,cond_true,q,Option.bind_some,List.length_map,decide_true,hb,Bool.and_self,Kn hN,gD,gE,hl,bk (show k < 9223372036854775807 by omega)]) (by
   have kN:decide (((c.2.2.2.2.toNat+1:Nat):Int) < IntKind.wrap .i64 (c.2.2.2.2+1))=false:=by rw [gY ⟨by omega,by omega⟩]; exact decide_eq_false (by omega)
   simp only [qW,kN,cond_false,List.length_map,decide_true,Bool.and_self,gD,gE,cond_true,Option.bind_some]) N 0 (Nat.zero_le _) (by unfold fq at hN; omega)
  have mD:az (qW N c) N ([],0)=some (aZ c (c.2.2.2.2.toNat+1)):=key
  rw [h,mD]
  simp only [bne_self_eq_false,cond_false,Option.bind_some,gD,gE,Bool.and_self,cond_true,if_true]
 ·have hb:(dQ c != 0)=true:=bne_iff_ne.2 h
  rw [hb,cond_true,if_neg h]
  rfl
theorem ON (c:da):W7 N c=some (if dQ c=0 then (ax c c.2.2.2.2.toNat,0) else ((0,0),dQ c)):=by
 have q:Ah N (c.1,c.2.1,c.2.2.1,c.2.2.2.1,c.2.2.2.2)=some (dQ c):=wP hN c
 rw [S9,q,Option.bind_some]
 by_cases h:dQ c=0
 ·have he1:cr c=0:=by
   unfold dQ at h
   by_cases h1:cr c=0
   ·exact h1
   ·rw [if_neg h1] at h; exact h
  have q2:GN N (c.1,c.2.1,c.2.2.1,c.2.2.2.1,c.2.2.2.2)=some (ax c c.2.2.2.2.toNat):=Cg hN c he1
  rw [h,q2]
  rfl
 ·have hb:(dQ c != 0)=true:=bne_iff_ne.2 h
  rw [hb,cond_true,if_neg h]
end
end Go.Proofs.YtldcljfjjoidhaaGreatDoor
