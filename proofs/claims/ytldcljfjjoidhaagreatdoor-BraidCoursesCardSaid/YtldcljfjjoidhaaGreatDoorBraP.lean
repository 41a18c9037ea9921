/- Plain laws: knots,courses,their checks and walks. -/
import Derived.Test.YtldcljfjjoidhaaGreatDoorBraT
import Derived.Test.YtldcljfjjoidhaaGreatDoorAmKK
import Derived.Test.YtldcljfjjoidhaaGreatDoorAmKL
set_option linter.all false
namespace Go.Proofs.YtldcljfjjoidhaaGreatDoor
open Go Go.Am
set_option maxRecDepth 100000
theorem zP (n:Nat) (h:n < 18446744073709551616):(BitVec.ofInt 64 (IntKind.wrap .i64 (n:Int))).toNat=n:=by
 rw [BitVec.toNat_ofInt,IntKind.wrap_i64]
 omega
theorem Q4 (a b:Nat):(a ^^^ b) % 2=(a+b) % 2:=by
 have h:=Nat.xor_mod_two_pow (a:=a) (b:=b) (n:=1)
 rw [Nat.pow_one] at h
 rw [h]
 rcases Nat.mod_two_eq_zero_or_one a with ha | ha <;> rcases Nat.mod_two_eq_zero_or_one b with hb | hb <;> rw [ha,hb] <;> simp <;> omega
theorem LA (x y:Int):(AR .i64 (AS .i64 x y) 1 != 0)=decide ((x+y) % 2≠0):=by
 have h1:(BitVec.ofInt 64 x ^^^ BitVec.ofInt 64 y).toNat < 18446744073709551616:=(BitVec.ofInt 64 x ^^^ BitVec.ofInt 64 y).isLt
 have h2:(BitVec.ofInt 64 1).toNat=1:=by decide
 have h3:AR .i64 (AS .i64 x y) 1=IntKind.wrap .i64 ((((BitVec.ofInt 64 x ^^^ BitVec.ofInt 64 y).toNat % 2:Nat)):Int):=by
  show IntKind.wrap .i64 (((BitVec.ofInt 64 (IntKind.wrap .i64 (((BitVec.ofInt 64 x ^^^ BitVec.ofInt 64 y).toNat:Nat):Int)) &&& BitVec.ofInt 64 1).toNat:Nat):Int)=_
  rw [BitVec.toNat_and,zP _ h1,h2,Nat.and_one_is_mod]
 rw [h3,sR (by omega),BitVec.toNat_xor,Q4,BitVec.toNat_ofInt,BitVec.toNat_ofInt]
 have e:((((x % ((2 ^ 64:Nat):Int)).toNat+(y % ((2 ^ 64:Nat):Int)).toNat) % 2:Nat):Int)=(x+y) % 2:=by omega
 rw [e]
 by_cases h:(x+y) % 2=0 <;> simp [h]
def bS (p:Int × Int):Int:=if p.1 < -100000∨p.1 > 100000∨p.2 < -100000∨p.2 > 100000 then 3 else if (p.1+p.2) % 2=0 then 0 else 14
theorem s7 {N:Nat} (hN:ta N) (l:List Int) (hl:l.length≤9223372036854775806):El N l=some (cB l):=by
 obtain ⟨o,h1,h2⟩:=mJ (rd:=qG N l) l (fun k hk=>by
  have hd:=kZ n26 l k hk
  have e1:d26 (bM (List.map n26 l) k)=l[k]:=by rw [hd]; rfl
  have e2:av.fits Fa (bM (List.map n26 l) k)=true:=by rw [hd]; rfl
  simp only [qG,List.length_map,Int.toNat_natCast,e1,e2,ka (show k < 9223372036854775807 by omega),jD hk,jC hk,Bool.and_self,cond_true]
  by_cases hz:l[k]=0
  ·simp [hz]
  ·simp [hz,Bool.cond_eq_ite]) (by simp only [qG,List.length_map,jE,cond_false]) N (by unfold ta at hN; omega)
 rw [Hs,h1,Option.bind_some]
 rcases o with o | o
 ·simpa using h2
 ·simpa using h2
theorem BU {N:Nat} (hN:ta N) (l:List Int) (hl:l.length≤9223372036854775806):OY N l=some (cB l):=by
 obtain ⟨o,h1,h2⟩:=mJ (rd:=vC N l) l (fun k hk=>by
  have hd:=kZ n26 l k hk
  have e1:d26 (bM (List.map n26 l) k)=l[k]:=by rw [hd]; rfl
  have e2:av.fits Fa (bM (List.map n26 l) k)=true:=by rw [hd]; rfl
  simp only [vC,List.length_map,Int.toNat_natCast,e1,e2,ka (show k < 9223372036854775807 by omega),jD hk,jC hk,Bool.and_self,cond_true]
  by_cases hz:l[k]=0
  ·simp [hz]
  ·simp [hz,Bool.cond_eq_ite]) (by simp only [vC,List.length_map,jE,cond_false]) N (by unfold ta at hN; omega)
 rw [Lg,h1,Option.bind_some]
 rcases o with o | o
 ·simpa using h2
 ·simpa using h2
theorem BV {N:Nat} (hN:ta N) (l:List Int) (hl:l.length≤9223372036854775806):O0 N l=some (cB l):=by
 obtain ⟨o,h1,h2⟩:=mJ (rd:=vE N l) l (fun k hk=>by
  have hd:=kZ n3 l k hk
  have e1:d3 (bM (List.map n3 l) k)=l[k]:=by rw [hd]; rfl
  have e2:av.fits p3 (bM (List.map n3 l) k)=true:=by rw [hd]; rfl
  simp only [vE,List.length_map,Int.toNat_natCast,e1,e2,ka (show k < 9223372036854775807 by omega),jD hk,jC hk,Bool.and_self,cond_true]
  by_cases hz:l[k]=0
  ·simp [hz]
  ·simp [hz,Bool.cond_eq_ite]) (by simp only [vE,List.length_map,jE,cond_false]) N (by unfold ta at hN; omega)
 rw [Lr,h1,Option.bind_some]
 rcases o with o | o
 ·simpa using h2
 ·simpa using h2
theorem EO (x y:Int):((bif allFit (av.fits Fa) [AV.int .i64 x,AV.int .i64 y]&&true then some (List.map d26 [AV.int .i64 x,AV.int .i64 y]) else none:Option (List Int)))=some [x,y]:=rfl
theorem Q5 (x y:Int):((bif allFit (av.fits p3) [AV.int .i64 x,AV.int .i64 y]&&true then some (List.map d3 [AV.int .i64 x,AV.int .i64 y]) else none:Option (List Int)))=some [x,y]:=rfl
theorem oV (N:Nat) (b:Bool) (e:Int):BO N (b,e)=some (if b then e else 0):=by rw [Ht]; cases b <;> rfl
theorem xP (N:Nat) (b:Bool) (e:Int):Od N (b,e)=some (if b then e else 0):=by rw [Li]; cases b <;> rfl
theorem EP (N:Nat) (n lo hi:Int):Eo N (n,lo,hi)=some (B3 n lo hi):=by
 rw [Hv,oV,oV]
 unfold B3
 by_cases h1:n < lo
 ·simp [h1]
 ·by_cases h2:n > hi <;> simp [h1,h2]
theorem Ii (N:Nat) (n lo hi:Int):OZ N (n,lo,hi)=some (B3 n lo hi):=by
 rw [Lk,xP,xP]
 unfold B3
 by_cases h1:n < lo
 ·simp [h1]
 ·by_cases h2:n > hi <;> simp [h1,h2]
theorem Ij (N:Nat) (n lo hi:Int):O1 N (n,lo,hi)=some (B3 n lo hi):=by
 rw [Lt]
 unfold B3
 by_cases h1:n < lo
 ·simp [h1]
 ·by_cases h2:n > hi <;> simp [h1,h2]
theorem ux {N:Nat} (hN:ta N) (p:Int × Int):BP N p=some (bS p):=by
 rw [Hx,Hw]
 simp only [EP,Option.bind_some,beq_self_eq_true,Bool.and_self,cond_true]
 rw [EO]
 simp only [Option.bind_some]
 rw [s7 hN _ (by simp)]
 simp only [Option.bind_some,oV,LA]
 rw [EO]
 simp only [Option.bind_some]
 rw [s7 hN _ (by simp)]
 simp only [Option.bind_some]
 congr 1
 unfold bS B3
 simp only [cB]
 by_cases h1:p.1 < -100000∨p.1 > 100000
 ·have h:p.1 < -100000∨p.1 > 100000∨p.2 < -100000∨p.2 > 100000:=by omega
  simp [h,h1]
 ·by_cases h2:p.2 < -100000∨p.2 > 100000
  ·have h:p.1 < -100000∨p.1 > 100000∨p.2 < -100000∨p.2 > 100000:=by omega
   simp [h,h1,h2]
  ·have h:¬ (p.1 < -100000∨p.1 > 100000∨p.2 < -100000∨p.2 > 100000):=by omega
   by_cases h3:(p.1+p.2) % 2=0 <;> simp [h,h1,h2,h3]
theorem uy (N:Nat) (p:Int × Int):zO N p=some (bS p):=by
 rw [Ih,AO,AO,Ie]
 unfold bS
 by_cases h:p.1 < -100000∨p.1 > 100000∨p.2 < -100000∨p.2 > 100000
 ·rw [if_pos h]
  by_cases h1:p.1 < -100000 <;> by_cases h2:p.1 > 100000 <;> by_cases h3:p.2 < -100000 <;> by_cases h4:p.2 > 100000 <;> simp [h1,h2,h3,h4] <;> omega
 ·rw [if_neg h]
  have h1:¬ p.1 < -100000:=by omega
  have h2:¬ p.1 > 100000:=by omega
  have h3:¬ p.2 < -100000:=by omega
  have h4:¬ p.2 > 100000:=by omega
  rw [sR (x:=p.1+p.2) (by omega)]
  have e:((Int.tmod (p.1+p.2) 2) == 0)=decide ((p.1+p.2) % 2=0):=by
   by_cases h5:(p.1+p.2) % 2=0
   ·have:Int.tmod (p.1+p.2) 2=0:=Int.tmod_eq_zero_of_dvd (Int.dvd_of_emod_eq_zero h5)
    simp [h5,this]
   ·have:Int.tmod (p.1+p.2) 2≠0:=fun e=>h5 (Int.emod_eq_zero_of_dvd (Int.dvd_of_tmod_eq_zero e))
    simp [h5,this]
  rw [e]
  by_cases h5:(p.1+p.2) % 2=0 <;> simp [h1,h2,h3,h4,h5]
abbrev xQ:=Int × Int × Bool × Bool × Int
def sg (b:Bool):Int:=if b then 1 else -1
def b6 (c:xQ) (i:Nat):Int × Int:=(c.1+(i:Int) * sg c.2.2.1,c.2.1+((i % 2:Nat):Int) * sg c.2.2.2.1)
def bB (c:xQ) (k:Nat):List (Int × Int):=(List.range k).map (b6 c)
theorem cM (c:xQ) (k:Nat):(bB c k).length=k:=by simp [bB]
theorem pT (c:xQ) (k:Nat):bB c (k+1)=bB c k++[b6 c k]:=by unfold bB; rw [List.range_succ,List.map_append]; rfl
theorem s8 {p:Int × Int} (h:bS p=0):-100000≤p.1∧p.1≤100000∧-100000≤p.2∧p.2≤100000:=by
 unfold bS at h
 split at h
 ·cases h
 ·omega
theorem oW (N:Nat) (c:xQ) (i:Nat) (h:bS (c.1,c.2.1)=0) (hi:i≤100000):BT N ((c.1,c.2.1,c.2.2.1,c.2.2.2.1,c.2.2.2.2),(i:Int))=some (b6 c i):=by
 have hk:=s8 h
 simp only at hk
 have t2:Int.tmod (i:Int) 2=((i % 2:Nat):Int):=rfl
 rw [H5,AM,AM]
 obtain ⟨x,y,r,u,n⟩:=c
 simp only at hk ⊢
 have hm:0≤((i % 2:Nat):Int)∧((i % 2:Nat):Int) < 2:=by omega
 cases r <;> cases u
 all_goals simp only [cond_true,cond_false,Option.bind_some,beq_self_eq_true,Bool.and_self,t2,b6,sg,if_true,Bool.false_eq_true,if_false,Int.mul_one,Int.mul_neg]
 all_goals (generalize ((i % 2:Nat):Int)=q at *)
 all_goals (have a1:IntKind.wrap .i64 (i:Int)=i:=sR ⟨by omega,by omega⟩)
 all_goals (have a2:IntKind.wrap .i64 (-(i:Int))=-i:=sR ⟨by omega,by omega⟩)
 all_goals (have a3:IntKind.wrap .i64 q=q:=sR ⟨by omega,by omega⟩)
 all_goals (have a4:IntKind.wrap .i64 (-q)=-q:=sR ⟨by omega,by omega⟩)
 all_goals (simp only [a1,a2,a3,a4])
 all_goals (rw [sR ⟨by omega,by omega⟩,sR ⟨by omega,by omega⟩])
def fx (c:xQ):Int:=cB [bS (c.1,c.2.1),B3 c.2.2.2.2 1 512]
def ke (c:xQ):Int:=if fx c=0 then cB ((bB c (c.2.2.2.2.toNat+1)).map bS) else fx c
theorem iu {c:xQ} (h:fx c=0):bS (c.1,c.2.1)=0∧1≤c.2.2.2.2∧c.2.2.2.2≤512:=by
 have h:=vx.1 h
 refine ⟨h _ (by simp),?_⟩
 have:=h (B3 c.2.2.2.2 1 512) (by simp)
 unfold B3 at this
 split at this
 ·cases this
 ·omega
section
variable {N:Nat} (hN:ta N)
include hN
theorem xR (c:xQ):zM N c=some (ke c):=by
 rw [H6]
 simp only [ux hN,Option.bind_some,beq_self_eq_true,Bool.and_self,cond_true,Ii]
 rw [EO]
 simp only [Option.bind_some]
 rw [BU hN _ (by simp)]
 simp only [Option.bind_some]
 have e1:cB [bS (c.1,c.2.1),B3 c.2.2.2.2 1 512]=fx c:=rfl
 rw [e1]
 unfold ke
 by_cases h:fx c=0
 ·obtain ⟨h1,h2,h3⟩:=iu h
  have key:=pM (rd:=qJ N c) ((bB c (c.2.2.2.2.toNat+1)).map bS) (fun k hk=>by
   rw [List.length_map,cM] at hk
   have bD:decide ((k:Int) < IntKind.wrap .i64 (c.2.2.2.2+1))=true:=by rw [sR ⟨by omega,by omega⟩]; exact decide_eq_true (by omega)
   have q:=oW N c k h1 (by omega)
   have eg:((bB c (c.2.2.2.2.toNat+1)).map bS)[k]'(by rw [List.length_map,cM]; exact hk)=bS (b6 c k):=by simp [bB]
   rw [eg]
   have q2:BP N ((b6 c k).1,(b6 c k).2)=some (bS (b6 c k)):=ux hN (b6 c k)
   simp only [qJ,bD,cond_true,q,Option.bind_some,q2,ka (show k < 9223372036854775807 by omega)]
   by_cases hz:bS (b6 c k)=0
   ·simp [hz]
   ·simp [hz,Bool.cond_eq_ite]) (by
   rw [List.length_map,cM]
   have qO:decide (((c.2.2.2.2.toNat+1:Nat):Int) < IntKind.wrap .i64 (c.2.2.2.2+1))=false:=by rw [sR ⟨by omega,by omega⟩]; exact decide_eq_false (by omega)
   simp only [qJ,qO,cond_false]) N (by rw [List.length_map,cM]; unfold ta at hN; omega)
  rw [h,key]
  simp only [bne_self_eq_false,cond_false,Option.bind_some,if_true]
  by_cases hz:cB ((bB c (c.2.2.2.2.toNat+1)).map bS)=0
  ·rw [if_pos hz,hz]; rfl
  ·rw [if_neg hz]; rfl
 ·have hb:(fx c != 0)=true:=bne_iff_ne.2 h
  rw [hb,cond_true,if_neg h]
theorem EQ (l:List (Int × Int)) (p:Int × Int):List.map cU l++[AV.agg [AV.int .i64 p.1,AV.int .i64 p.2]]=List.map cU (l++[p]):=by rw [List.map_append]; rfl
theorem LB (l:List (Int × Int)) {k:Nat} (hk:k < l.length):d86 (bM (List.map cU l) k)=l[k]∧av.fits kn (bM (List.map cU l) k)=true:=by
 rw [kZ cU l k hk,Qw,Qv]; exact ⟨rfl,rfl⟩
theorem ER (c:xQ) (h:fx c=0):EN N c=some (b6 c c.2.2.2.2.toNat):=by
 obtain ⟨h1,h2,h3⟩:=iu h
 have q:=oW N c c.2.2.2.2.toNat h1 (by omega)
 rw [show ((c.2.2.2.2.toNat:Nat):Int)=c.2.2.2.2 by omega] at q
 rw [H8,q]
 rfl
theorem ES (c:xQ):Of N c=some (if ke c=0 then (bB c (c.2.2.2.2.toNat+1),0) else ([],ke c)):=by
 have q:zM N (c.1,c.2.1,c.2.2.1,c.2.2.2.1,c.2.2.2.2)=some (ke c):=xR hN c
 rw [Ln,q,Option.bind_some]
 have z:((bif (allFit (av.fits kn) ([]:List AV)&&true) then some ((List.map d86 ([]:List AV)),0) else none:Option ((List (Int × Int)) × Int)).bind fun w8=>bif (decide (0=(List.map cU w8.1).length)&&true) then some w8 else none)=some ([],0):=rfl
 rw [z,Option.bind_some]
 by_cases h:ke c=0
 ·have LC:fx c=0:=by
   unfold ke at h
   by_cases h1:fx c=0
   ·exact h1
   ·rw [if_neg h1] at h; exact h
  obtain ⟨h1,h2,h3⟩:=iu LC
  have key:=iP (rd:=nY N c) (c.2.2.2.2.toNat+1) (fun k=>(bB c k,(k:Int))) (bB c (c.2.2.2.2.toNat+1)) (fun k hk=>by
   have bD:decide ((k:Int) < IntKind.wrap .i64 (c.2.2.2.2+1))=true:=by rw [sR ⟨by omega,by omega⟩]; exact decide_eq_true (by omega)
   have q:=oW N c k h1 (by omega)
   have hb:decide (((bB c k).length+1) * 16≤140737488355328)=true:=by rw [cM]; exact decide_eq_true (by omega)
   have hl:(bB c k++[b6 c k]).length=(bB c k).length+1:=by simp
   rw [pT]
   simp only [nY,bD,cond_true,q,Option.bind_some,List.length_map,decide_true,hb,Bool.and_self,EQ hN,xI,xJ,hl,ka (show k < 9223372036854775807 by omega)]) (by
   have qO:decide (((c.2.2.2.2.toNat+1:Nat):Int) < IntKind.wrap .i64 (c.2.2.2.2+1))=false:=by rw [sR ⟨by omega,by omega⟩]; exact decide_eq_false (by omega)
   simp only [nY,qO,cond_false,List.length_map,decide_true,Bool.and_self,xI,xJ,cond_true,Option.bind_some]) N 0 (Nat.zero_le _) (by unfold ta at hN; omega)
  have ET:cq (nY N c) N ([],0)=some (bB c (c.2.2.2.2.toNat+1)):=key
  rw [h,ET]
  simp only [bne_self_eq_false,cond_false,Option.bind_some,xI,xJ,Bool.and_self,cond_true,if_true]
 ·have hb:(ke c != 0)=true:=bne_iff_ne.2 h
  rw [hb,cond_true,if_neg h]
  rfl
theorem Ik (c:xQ):Oh N c=some (if ke c=0 then (b6 c c.2.2.2.2.toNat,0) else ((0,0),ke c)):=by
 have q:zM N (c.1,c.2.1,c.2.2.1,c.2.2.2.1,c.2.2.2.2)=some (ke c):=xR hN c
 rw [Lp,q,Option.bind_some]
 by_cases h:ke c=0
 ·have LC:fx c=0:=by
   unfold ke at h
   by_cases h1:fx c=0
   ·exact h1
   ·rw [if_neg h1] at h; exact h
  have q2:EN N (c.1,c.2.1,c.2.2.1,c.2.2.2.1,c.2.2.2.2)=some (b6 c c.2.2.2.2.toNat):=ER hN c LC
  rw [h,q2]
  rfl
 ·have hb:(ke c != 0)=true:=bne_iff_ne.2 h
  rw [hb,cond_true,if_neg h]
end
end Go.Proofs.YtldcljfjjoidhaaGreatDoor
