/- Plain laws: knots,courses,their checks and walks. -/
import Derived.Test.YtldcljfjjoidhaaGreatDoorBraT
import Derived.Test.YtldcljfjjoidhaaGreatDoorAmKK
import Derived.Test.YtldcljfjjoidhaaGreatDoorAmKL
set_option linter.all false
namespace Go.Proofs.YtldcljfjjoidhaaGreatDoor
open Go Go.Am
open List (map)
open Int (toNat)
open Go.IntKind (wrap)
open Go.Am.aT (fits)
set_option maxRecDepth 100000
theorem Fq (n:Nat) (h:n < 18446744073709551616):(BitVec.ofInt 64 (wrap .i64 (n:Int))).toNat=n:=by
 rw [BitVec.toNat_ofInt,IntKind.wrap_i64]
 omega
theorem adi (a b:Nat):(a ^^^ b) % 2=(a+b) % 2:=by
 have h:=Nat.xor_mod_two_pow (a:=a) (b:=b) (n:=1)
 rw [Nat.pow_one] at h
 rw [h]
 rcases Nat.mod_two_eq_zero_or_one a with ha | ha <;> rcases Nat.mod_two_eq_zero_or_one b with hb | hb <;> rw [ha,hb] <;> simp <;> omega
theorem Vn (x y:Int):(Hd .i64 (He .i64 x y) 1 != 0)=decide ((x+y) % 2≠0):=by
 have h1:(BitVec.ofInt 64 x ^^^ BitVec.ofInt 64 y).toNat < 18446744073709551616:=(BitVec.ofInt 64 x ^^^ BitVec.ofInt 64 y).isLt
 have h2:(BitVec.ofInt 64 1).toNat=1:=by decide
 have h3:Hd .i64 (He .i64 x y) 1=wrap .i64 ((((BitVec.ofInt 64 x ^^^ BitVec.ofInt 64 y).toNat % 2:Nat)):Int):=by
  show wrap .i64 (((BitVec.ofInt 64 (wrap .i64 (((BitVec.ofInt 64 x ^^^ BitVec.ofInt 64 y).toNat:Nat):Int)) &&& BitVec.ofInt 64 1).toNat:Nat):Int)=_
  rw [BitVec.toNat_and,Fq _ h1,h2,Nat.and_one_is_mod]
 rw [h3,iE (by omega),BitVec.toNat_xor,adi,BitVec.toNat_ofInt,BitVec.toNat_ofInt]
 have e:((((x % ((2 ^ 64:Nat):Int)).toNat+(y % ((2 ^ 64:Nat):Int)).toNat) % 2:Nat):Int)=(x+y) % 2:=by omega
 rw [e]
 by_cases h:(x+y) % 2=0 <;> simp [h]
def aF (p:Int × Int):Int:=if p.1 < -100000∨p.1 > 100000∨p.2 < -100000∨p.2 > 100000 then 3 else if (p.1+p.2) % 2=0 then 0 else 14
theorem jc {N:Nat} (hN:fB N) (l:List Int) (hl:l.length≤9223372036854775806):uR N l=some (aS l):=by
 obtain ⟨o,h1,h2⟩:=nu (rd:=vi N l) l (fun k hk=>by
  have hd:=gM pY l k hk
  have e1:kF (af (map pY l) k)=l[k]:=by rw [hd]; rfl
  have e2:fits xz (af (map pY l) k)=true:=by rw [hd]; rfl
  simp only [vi,List.length_map,Int.toNat_natCast,e1,e2,bA (show k < 9223372036854775807 by omega),bf hk,aO hk,Bool.and_self,cond_true]
  by_cases hz:l[k]=0
  ·simp [hz]
  ·simp [hz,Bool.cond_eq_ite]) (by simp only [vi,List.length_map,bt,cond_false]) N (by unfold fB at hN; omega)
 rw [PE,h1,Option.bind_some]
 rcases o with o | o
 ·simpa using h2
 ·simpa using h2
theorem pL {N:Nat} (hN:fB N) (l:List Int) (hl:l.length≤9223372036854775806):SM N l=some (aS l):=by
 obtain ⟨o,h1,h2⟩:=nu (rd:=Bo N l) l (fun k hk=>by
  have hd:=gM pY l k hk
  have e1:kF (af (map pY l) k)=l[k]:=by rw [hd]; rfl
  have e2:fits xz (af (map pY l) k)=true:=by rw [hd]; rfl
  simp only [Bo,List.length_map,Int.toNat_natCast,e1,e2,bA (show k < 9223372036854775807 by omega),bf hk,aO hk,Bool.and_self,cond_true]
  by_cases hz:l[k]=0
  ·simp [hz]
  ·simp [hz,Bool.cond_eq_ite]) (by simp only [Bo,List.length_map,bt,cond_false]) N (by unfold fB at hN; omega)
 rw [U5,h1,Option.bind_some]
 rcases o with o | o
 ·simpa using h2
 ·simpa using h2
theorem Il {N:Nat} (hN:fB N) (l:List Int) (hl:l.length≤9223372036854775806):T32 N l=some (aS l):=by
 obtain ⟨o,h1,h2⟩:=nu (rd:=Bp N l) l (fun k hk=>by
  have hd:=gM eP l k hk
  have e1:eR (af (map eP l) k)=l[k]:=by rw [hd]; rfl
  have e2:fits p3 (af (map eP l) k)=true:=by rw [hd]; rfl
  simp only [Bp,List.length_map,Int.toNat_natCast,e1,e2,bA (show k < 9223372036854775807 by omega),bf hk,aO hk,Bool.and_self,cond_true]
  by_cases hz:l[k]=0
  ·simp [hz]
  ·simp [hz,Bool.cond_eq_ite]) (by simp only [Bp,List.length_map,bt,cond_false]) N (by unfold fB at hN; omega)
 rw [Va,h1,Option.bind_some]
 rcases o with o | o
 ·simpa using h2
 ·simpa using h2
theorem zW (x y:Int):((bif allFit (fits xz) [AV.int .i64 x,AV.int .i64 y]&&true then some (map kF [AV.int .i64 x,AV.int .i64 y]) else none:Option pX))=some [x,y]:=rfl
theorem adj (x y:Int):((bif allFit (fits p3) [AV.int .i64 x,AV.int .i64 y]&&true then some (map eR [AV.int .i64 x,AV.int .i64 y]) else none:Option pX))=some [x,y]:=rfl
theorem j8 (N:Nat) (b:Bool) (e:Int):yU N (b,e)=some (if b then e else 0):=by rw [PF]; cases b <;> rfl
theorem xP (N:Nat) (b:Bool) (e:Int):U6 N (b,e)=some (if b then e else 0):=by rw [U7]; cases b <;> rfl
theorem Dr (N:Nat) (n lo hi:Int):Le N (n,lo,hi)=some (pW n lo hi):=by
 rw [PH,j8,j8]
 unfold pW
 by_cases h1:n < lo
 ·simp [h1]
 ·by_cases h2:n > hi <;> simp [h1,h2]
theorem Bu (N:Nat) (n lo hi:Int):Xa N (n,lo,hi)=some (pW n lo hi):=by
 rw [U8,xP,xP]
 unfold pW
 by_cases h1:n < lo
 ·simp [h1]
 ·by_cases h2:n > hi <;> simp [h1,h2]
theorem Qv (N:Nat) (n lo hi:Int):T33 N (n,lo,hi)=some (pW n lo hi):=by
 rw [Vc]
 unfold pW
 by_cases h1:n < lo
 ·simp [h1]
 ·by_cases h2:n > hi <;> simp [h1,h2]
theorem tv {N:Nat} (hN:fB N) (p:Int × Int):De N p=some (aF p):=by
 rw [PI,GC]
 simp only [Dr,Option.bind_some,beq_self_eq_true,Bool.and_self,cond_true]
 rw [zW]
 simp only [Option.bind_some]
 rw [jc hN _ (by simp)]
 simp only [Option.bind_some,j8,Vn]
 rw [zW]
 simp only [Option.bind_some]
 rw [jc hN _ (by simp)]
 simp only [Option.bind_some]
 congr 1
 unfold aF pW
 simp only [aS]
 by_cases h1:p.1 < -100000∨p.1 > 100000
 ·have h:p.1 < -100000∨p.1 > 100000∨p.2 < -100000∨p.2 > 100000:=by omega
  simp [h,h1]
 ·by_cases h2:p.2 < -100000∨p.2 > 100000
  ·have h:p.1 < -100000∨p.1 > 100000∨p.2 < -100000∨p.2 > 100000:=by omega
   simp [h,h1,h2]
  ·have h:¬ (p.1 < -100000∨p.1 > 100000∨p.2 < -100000∨p.2 > 100000):=by omega
   by_cases h3:(p.1+p.2) % 2=0 <;> simp [h,h1,h2,h3]
theorem pM (N:Nat) (p:Int × Int):xJ N p=some (aF p):=by
 rw [Qs,Br,Br,Qr]
 unfold aF
 by_cases h:p.1 < -100000∨p.1 > 100000∨p.2 < -100000∨p.2 > 100000
 ·rw [if_pos h]
  by_cases h1:p.1 < -100000 <;> by_cases h2:p.1 > 100000 <;> by_cases h3:p.2 < -100000 <;> by_cases h4:p.2 > 100000 <;> simp [h1,h2,h3,h4] <;> omega
 ·rw [if_neg h]
  have h1:¬ p.1 < -100000:=by omega
  have h2:¬ p.1 > 100000:=by omega
  have h3:¬ p.2 < -100000:=by omega
  have h4:¬ p.2 > 100000:=by omega
  rw [iE (x:=p.1+p.2) (by omega)]
  have e:((Int.tmod (p.1+p.2) 2) == 0)=decide ((p.1+p.2) % 2=0):=by
   by_cases h5:(p.1+p.2) % 2=0
   ·have:Int.tmod (p.1+p.2) 2=0:=Int.tmod_eq_zero_of_dvd (Int.dvd_of_emod_eq_zero h5)
    simp [h5,this]
   ·have:Int.tmod (p.1+p.2) 2≠0:=fun e=>h5 (Int.emod_eq_zero_of_dvd (Int.dvd_of_tmod_eq_zero e))
    simp [h5,this]
  rw [e]
  by_cases h5:(p.1+p.2) % 2=0 <;> simp [h1,h2,h3,h4,h5]
abbrev bD:=Int × Int × Bool × Bool × Int
def sg (b:Bool):Int:=if b then 1 else -1
def aK (c:bD) (i:Nat):Int × Int:=(c.1+(i:Int) * sg c.2.2.1,c.2.1+((i % 2:Nat):Int) * sg c.2.2.2.1)
def cg (c:bD) (k:Nat):List XA:=(List.range k).map (aK c)
theorem eZ (c:bD) (k:Nat):(cg c k).length=k:=by simp [cg]
theorem Ds (c:bD) (k:Nat):cg c (k+1)=cg c k++[aK c k]:=by unfold cg; rw [List.range_succ,List.map_append]; rfl
theorem ey {p:Int × Int} (h:aF p=0):-100000≤p.1∧p.1≤100000∧-100000≤p.2∧p.2≤100000:=by
 unfold aF at h
 split at h
 ·cases h
 ·omega
theorem eM (N:Nat) (c:bD) (i:Nat) (h:aF (c.1,c.2.1)=0) (hi:i≤100000):qQ N ((c.1,c.2.1,c.2.2.1,c.2.2.2.1,c.2.2.2.2),(i:Int))=some (aK c i):=by
 have hk:=ey h
 simp only at hk
 have t2:Int.tmod (i:Int) 2=((i % 2:Nat):Int):=rfl
 rw [Ql,GI,GI]
 obtain ⟨x,y,r,u,n⟩:=c
 simp only at hk ⊢
 have hm:0≤((i % 2:Nat):Int)∧((i % 2:Nat):Int) < 2:=by omega
 cases r <;> cases u
 all_goals simp only [cond_true,cond_false,Option.bind_some,beq_self_eq_true,Bool.and_self,t2,aK,sg,if_true,Bool.false_eq_true,if_false,Int.mul_one,Int.mul_neg]
 all_goals (generalize ((i % 2:Nat):Int)=q at *)
 all_goals (have a1:wrap .i64 (i:Int)=i:=iE ⟨by omega,by omega⟩)
 all_goals (have a2:wrap .i64 (-(i:Int))=-i:=iE ⟨by omega,by omega⟩)
 all_goals (have a3:wrap .i64 q=q:=iE ⟨by omega,by omega⟩)
 all_goals (have a4:wrap .i64 (-q)=-q:=iE ⟨by omega,by omega⟩)
 all_goals (simp only [a1,a2,a3,a4])
 all_goals (rw [iE ⟨by omega,by omega⟩,iE ⟨by omega,by omega⟩])
def bX (c:bD):Int:=aS [aF (c.1,c.2.1),pW c.2.2.2.2 1 512]
def dW (c:bD):Int:=if bX c=0 then aS ((cg c (c.2.2.2.2.toNat+1)).map aF) else bX c
theorem cB {c:bD} (h:bX c=0):aF (c.1,c.2.1)=0∧1≤c.2.2.2.2∧c.2.2.2.2≤512:=by
 have h:=dj.1 h
 refine ⟨h _ (by simp),?_⟩
 have:=h (pW c.2.2.2.2 1 512) (by simp)
 unfold pW at this
 split at this
 ·cases this
 ·omega
section
variable {N:Nat} (hN:fB N)
include hN
theorem LR (c:bD):LH N c=some (dW c):=by
 rw [Qn]
 simp only [tv hN,Option.bind_some,beq_self_eq_true,Bool.and_self,cond_true,Bu]
 rw [zW]
 simp only [Option.bind_some]
 rw [pL hN _ (by simp)]
 simp only [Option.bind_some]
 have e1:aS [aF (c.1,c.2.1),pW c.2.2.2.2 1 512]=bX c:=rfl
 rw [e1]
 unfold dW
 by_cases h:bX c=0
 ·obtain ⟨h1,h2,h3⟩:=cB h
  have key:=ik (rd:=vn N c) ((cg c (c.2.2.2.2.toNat+1)).map aF) (fun k hk=>by
   rw [List.length_map,eZ] at hk
   have bV:decide ((k:Int) < wrap .i64 (c.2.2.2.2+1))=true:=by rw [iE ⟨by omega,by omega⟩]; exact decide_eq_true (by omega)
   have q:=eM N c k h1 (by omega)
   have eg:((cg c (c.2.2.2.2.toNat+1)).map aF)[k]'(by rw [List.length_map,eZ]; exact hk)=aF (aK c k):=by simp [cg]
   rw [eg]
   have q2:De N ((aK c k).1,(aK c k).2)=some (aF (aK c k)):=tv hN (aK c k)
   simp only [vn,bV,cond_true,q,Option.bind_some,q2,bA (show k < 9223372036854775807 by omega)]
   by_cases hz:aF (aK c k)=0
   ·simp [hz]
   ·simp [hz,Bool.cond_eq_ite]) (by
   rw [List.length_map,eZ]
   have mF:decide (((c.2.2.2.2.toNat+1:Nat):Int) < wrap .i64 (c.2.2.2.2+1))=false:=by rw [iE ⟨by omega,by omega⟩]; exact decide_eq_false (by omega)
   simp only [vn,mF,cond_false]) N (by rw [List.length_map,eZ]; unfold fB at hN; omega)
  rw [h,key]
  simp only [bne_self_eq_false,cond_false,Option.bind_some,if_true]
  by_cases hz:aS ((cg c (c.2.2.2.2.toNat+1)).map aF)=0
  ·rw [if_pos hz,hz]; rfl
  ·rw [if_neg hz]; rfl
 ·have hb:(bX c != 0)=true:=bne_iff_ne.2 h
  rw [hb,cond_true,if_neg h]
theorem Vo (l:List XA) (p:Int × Int):map av l++[AV.agg [AV.int .i64 p.1,AV.int .i64 p.2]]=map av (l++[p]):=by rw [List.map_append]; rfl
theorem Vp (l:List XA) {k:Nat} (hk:k < l.length):cn (af (map av l) k)=l[k]∧fits cz (af (map av l) k)=true:=by
 rw [gM av l k hk,YE,YD]; exact ⟨rfl,rfl⟩
theorem Dt (c:bD) (h:bX c=0):Ik N c=some (aK c c.2.2.2.2.toNat):=by
 obtain ⟨h1,h2,h3⟩:=cB h
 have q:=eM N c c.2.2.2.2.toNat h1 (by omega)
 rw [show ((c.2.2.2.2.toNat:Nat):Int)=c.2.2.2.2 by omega] at q
 rw [Qp,q]
 rfl
end
end Go.Proofs.YtldcljfjjoidhaaGreatDoor
