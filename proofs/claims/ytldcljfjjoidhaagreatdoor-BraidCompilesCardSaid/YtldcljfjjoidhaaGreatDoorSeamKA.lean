/- Plain laws: knots,courses,their checks and walks. -/
import Derived.Test.YtldcljfjjoidhaaGreatDoorBraT
import Derived.Test.YtldcljfjjoidhaaGreatDoorAmKK
import Derived.Test.YtldcljfjjoidhaaGreatDoorAmKL
set_option linter.all false
namespace Go.Proofs.YtldcljfjjoidhaaGreatDoor
open Go Go.Am
open List (map)
open Int (toNat)
open Go.IntKind (wrap)
open Go.Am.aR (fits)
set_option maxRecDepth 100000
theorem Gq (n:Nat) (h:n < 18446744073709551616):(BitVec.ofInt 64 (wrap .i64 (n:Int))).toNat=n:=by
 rw [BitVec.toNat_ofInt,IntKind.wrap_i64]
 omega
theorem aeG (a b:Nat):(a ^^^ b) % 2=(a+b) % 2:=by
 have h:=Nat.xor_mod_two_pow (a:=a) (b:=b) (n:=1)
 rw [Nat.pow_one] at h
 rw [h]
 rcases Nat.mod_two_eq_zero_or_one a with ha | ha <;> rcases Nat.mod_two_eq_zero_or_one b with hb | hb <;> rw [ha,hb] <;> simp <;> omega
theorem Wu (x y:Int):(H5 .i64 (H6 .i64 x y) 1 != 0)=decide ((x+y) % 2≠0):=by
 have h1:(BitVec.ofInt 64 x ^^^ BitVec.ofInt 64 y).toNat < 18446744073709551616:=(BitVec.ofInt 64 x ^^^ BitVec.ofInt 64 y).isLt
 have h2:(BitVec.ofInt 64 1).toNat=1:=by decide
 have h3:H5 .i64 (H6 .i64 x y) 1=wrap .i64 ((((BitVec.ofInt 64 x ^^^ BitVec.ofInt 64 y).toNat % 2:Nat)):Int):=by
  show wrap .i64 (((BitVec.ofInt 64 (wrap .i64 (((BitVec.ofInt 64 x ^^^ BitVec.ofInt 64 y).toNat:Nat):Int)) &&& BitVec.ofInt 64 1).toNat:Nat):Int)=_
  rw [BitVec.toNat_and,Gq _ h1,h2,Nat.and_one_is_mod]
 rw [h3,gk (by omega),BitVec.toNat_xor,aeG,BitVec.toNat_ofInt,BitVec.toNat_ofInt]
 have e:((((x % ((2 ^ 64:Nat):Int)).toNat+(y % ((2 ^ 64:Nat):Int)).toNat) % 2:Nat):Int)=(x+y) % 2:=by omega
 rw [e]
 by_cases h:(x+y) % 2=0 <;> simp [h]
def aV (p:Int × Int):Int:=if p.1 < -100000∨p.1 > 100000∨p.2 < -100000∨p.2 > 100000 then 3 else if (p.1+p.2) % 2=0 then 0 else 14
theorem jK {N:Nat} (hN:fL N) (l:List Int) (hl:l.length≤9223372036854775806):wx N l=some (aJ l):=by
 obtain ⟨o,h1,h2⟩:=oo (rd:=wV N l) l (fun k hk=>by
  have hd:=fH qT l k hk
  have e1:ka (ah (map qT l) k)=l[k]:=by rw [hd]; rfl
  have e2:fits vO (ah (map qT l) k)=true:=by rw [hd]; rfl
  simp only [wV,List.length_map,Int.toNat_natCast,e1,e2,bE (show k < 9223372036854775807 by omega),a8 hk,aB hk,Bool.and_self,cond_true]
  by_cases hz:l[k]=0
  ·simp [hz]
  ·simp [hz,Bool.cond_eq_ite]) (by simp only [wV,List.length_map,bO,cond_false]) N (by unfold fL at hN; omega)
 rw [QI,h1,Option.bind_some]
 rcases o with o | o
 ·simpa using h2
 ·simpa using h2
theorem nw {N:Nat} (hN:fL N) (l:List Int) (hl:l.length≤9223372036854775806):Rl N l=some (aJ l):=by
 obtain ⟨o,h1,h2⟩:=oo (rd:=Co N l) l (fun k hk=>by
  have hd:=fH qT l k hk
  have e1:ka (ah (map qT l) k)=l[k]:=by rw [hd]; rfl
  have e2:fits vO (ah (map qT l) k)=true:=by rw [hd]; rfl
  simp only [Co,List.length_map,Int.toNat_natCast,e1,e2,bE (show k < 9223372036854775807 by omega),a8 hk,aB hk,Bool.and_self,cond_true]
  by_cases hz:l[k]=0
  ·simp [hz]
  ·simp [hz,Bool.cond_eq_ite]) (by simp only [Co,List.length_map,bO,cond_false]) N (by unfold fL at hN; omega)
 rw [We,h1,Option.bind_some]
 rcases o with o | o
 ·simpa using h2
 ·simpa using h2
theorem Be {N:Nat} (hN:fL N) (l:List Int) (hl:l.length≤9223372036854775806):T32 N l=some (aJ l):=by
 obtain ⟨o,h1,h2⟩:=oo (rd:=Cp N l) l (fun k hk=>by
  have hd:=fH cC l k hk
  have e1:fx (ah (map cC l) k)=l[k]:=by rw [hd]; rfl
  have e2:fits p3 (ah (map cC l) k)=true:=by rw [hd]; rfl
  simp only [Cp,List.length_map,Int.toNat_natCast,e1,e2,bE (show k < 9223372036854775807 by omega),a8 hk,aB hk,Bool.and_self,cond_true]
  by_cases hz:l[k]=0
  ·simp [hz]
  ·simp [hz,Bool.cond_eq_ite]) (by simp only [Cp,List.length_map,bO,cond_false]) N (by unfold fL at hN; omega)
 rw [Wi,h1,Option.bind_some]
 rcases o with o | o
 ·simpa using h2
 ·simpa using h2
theorem Bf (x y:Int):((bif allFit (fits vO) [AV.int .i64 x,AV.int .i64 y]&&true then some (map ka [AV.int .i64 x,AV.int .i64 y]) else none:Option lW))=some [x,y]:=rfl
theorem aeH (x y:Int):((bif allFit (fits p3) [AV.int .i64 x,AV.int .i64 y]&&true then some (map fx [AV.int .i64 x,AV.int .i64 y]) else none:Option lW))=some [x,y]:=rfl
theorem kU (N:Nat) (b:Bool) (e:Int):An N (b,e)=some (if b then e else 0):=by rw [QJ]; cases b <;> rfl
theorem lH (N:Nat) (b:Bool) (e:Int):MB N (b,e)=some (if b then e else 0):=by rw [Wf]; cases b <;> rfl
theorem Ed (N:Nat) (n lo hi:Int):Mb N (n,lo,hi)=some (CD n lo hi):=by
 rw [QL,kU,kU]
 unfold CD
 by_cases h1:n < lo
 ·simp [h1]
 ·by_cases h2:n > hi <;> simp [h1,h2]
theorem RE (N:Nat) (n lo hi:Int):T90 N (n,lo,hi)=some (CD n lo hi):=by
 rw [Wh,lH,lH]
 unfold CD
 by_cases h1:n < lo
 ·simp [h1]
 ·by_cases h2:n > hi <;> simp [h1,h2]
theorem RG (N:Nat) (n lo hi:Int):T33 N (n,lo,hi)=some (CD n lo hi):=by
 rw [Wk]
 unfold CD
 by_cases h1:n < lo
 ·simp [h1]
 ·by_cases h2:n > hi <;> simp [h1,h2]
theorem uL {N:Nat} (hN:fL N) (p:Int × Int):D3 N p=some (aV p):=by
 rw [QM,Hx]
 simp only [Ed,Option.bind_some,beq_self_eq_true,Bool.and_self,cond_true]
 rw [Bf]
 simp only [Option.bind_some]
 rw [jK hN _ (by simp)]
 simp only [Option.bind_some,kU,Wu]
 rw [Bf]
 simp only [Option.bind_some]
 rw [jK hN _ (by simp)]
 simp only [Option.bind_some]
 congr 1
 unfold aV CD
 simp only [aJ]
 by_cases h1:p.1 < -100000∨p.1 > 100000
 ·have h:p.1 < -100000∨p.1 > 100000∨p.2 < -100000∨p.2 > 100000:=by omega
  simp [h,h1]
 ·by_cases h2:p.2 < -100000∨p.2 > 100000
  ·have h:p.1 < -100000∨p.1 > 100000∨p.2 < -100000∨p.2 > 100000:=by omega
   simp [h,h1,h2]
  ·have h:¬ (p.1 < -100000∨p.1 > 100000∨p.2 < -100000∨p.2 > 100000):=by omega
   by_cases h3:(p.1+p.2) % 2=0 <;> simp [h,h1,h2,h3]
theorem ny (N:Nat) (p:Int × Int):uI N p=some (aV p):=by
 rw [RA,HF,HF,Ry]
 unfold aV
 by_cases h:p.1 < -100000∨p.1 > 100000∨p.2 < -100000∨p.2 > 100000
 ·rw [if_pos h]
  by_cases h1:p.1 < -100000 <;> by_cases h2:p.1 > 100000 <;> by_cases h3:p.2 < -100000 <;> by_cases h4:p.2 > 100000 <;> simp [h1,h2,h3,h4] <;> omega
 ·rw [if_neg h]
  have h1:¬ p.1 < -100000:=by omega
  have h2:¬ p.1 > 100000:=by omega
  have h3:¬ p.2 < -100000:=by omega
  have h4:¬ p.2 > 100000:=by omega
  rw [gk (x:=p.1+p.2) (by omega)]
  have e:((Int.tmod (p.1+p.2) 2) == 0)=decide ((p.1+p.2) % 2=0):=by
   by_cases h5:(p.1+p.2) % 2=0
   ·have:Int.tmod (p.1+p.2) 2=0:=Int.tmod_eq_zero_of_dvd (Int.dvd_of_emod_eq_zero h5)
    simp [h5,this]
   ·have:Int.tmod (p.1+p.2) 2≠0:=fun e=>h5 (Int.emod_eq_zero_of_dvd (Int.dvd_of_tmod_eq_zero e))
    simp [h5,this]
  rw [e]
  by_cases h5:(p.1+p.2) % 2=0 <;> simp [h1,h2,h3,h4,h5]
abbrev dq:=Int × Int × Bool × Bool × Int
def sg (b:Bool):Int:=if b then 1 else -1
def bw (c:dq) (i:Nat):Int × Int:=(c.1+(i:Int) * sg c.2.2.1,c.2.1+((i % 2:Nat):Int) * sg c.2.2.2.1)
def b6 (c:dq) (k:Nat):List XA:=(List.range k).map (bw c)
theorem eZ (c:dq) (k:Nat):(b6 c k).length=k:=by simp [b6]
theorem Ee (c:dq) (k:Nat):b6 c (k+1)=b6 c k++[bw c k]:=by unfold b6; rw [List.range_succ,List.map_append]; rfl
theorem fm {p:Int × Int} (h:aV p=0):-100000≤p.1∧p.1≤100000∧-100000≤p.2∧p.2≤100000:=by
 unfold aV at h
 split at h
 ·cases h
 ·omega
theorem gX (N:Nat) (c:dq) (i:Nat) (h:aV (c.1,c.2.1)=0) (hi:i≤100000):uH N ((c.1,c.2.1,c.2.2.1,c.2.2.2.1,c.2.2.2.2),(i:Int))=some (bw c i):=by
 have hk:=fm h
 simp only at hk
 have t2:Int.tmod (i:Int) 2=((i % 2:Nat):Int):=rfl
 rw [Ro,HD,HD]
 obtain ⟨x,y,r,u,n⟩:=c
 simp only at hk ⊢
 have hm:0≤((i % 2:Nat):Int)∧((i % 2:Nat):Int) < 2:=by omega
 cases r <;> cases u
 all_goals simp only [cond_true,cond_false,Option.bind_some,beq_self_eq_true,Bool.and_self,t2,bw,sg,if_true,Bool.false_eq_true,if_false,Int.mul_one,Int.mul_neg]
 all_goals (generalize ((i % 2:Nat):Int)=q at *)
 all_goals (have a1:wrap .i64 (i:Int)=i:=gk ⟨by omega,by omega⟩)
 all_goals (have a2:wrap .i64 (-(i:Int))=-i:=gk ⟨by omega,by omega⟩)
 all_goals (have a3:wrap .i64 q=q:=gk ⟨by omega,by omega⟩)
 all_goals (have a4:wrap .i64 (-q)=-q:=gk ⟨by omega,by omega⟩)
 all_goals (simp only [a1,a2,a3,a4])
 all_goals (rw [gk ⟨by omega,by omega⟩,gk ⟨by omega,by omega⟩])
def cX (c:dq):Int:=aJ [aV (c.1,c.2.1),CD c.2.2.2.2 1 512]
def ju (c:dq):Int:=if cX c=0 then aJ ((b6 c (c.2.2.2.2.toNat+1)).map aV) else cX c
theorem fk {c:dq} (h:cX c=0):aV (c.1,c.2.1)=0∧1≤c.2.2.2.2∧c.2.2.2.2≤512:=by
 have h:=fP.1 h
 refine ⟨h _ (by simp),?_⟩
 have:=h (CD c.2.2.2.2 1 512) (by simp)
 unfold CD at this
 split at this
 ·cases this
 ·omega
section
variable {N:Nat} (hN:fL N)
include hN
theorem MN (c:dq):MC N c=some (ju c):=by
 rw [Rq]
 simp only [uL hN,Option.bind_some,beq_self_eq_true,Bool.and_self,cond_true,RE]
 rw [Bf]
 simp only [Option.bind_some]
 rw [nw hN _ (by simp)]
 simp only [Option.bind_some]
 have e1:aJ [aV (c.1,c.2.1),CD c.2.2.2.2 1 512]=cX c:=rfl
 rw [e1]
 unfold ju
 by_cases h:cX c=0
 ·obtain ⟨h1,h2,h3⟩:=fk h
  have key:=iW (rd:=wZ N c) ((b6 c (c.2.2.2.2.toNat+1)).map aV) (fun k hk=>by
   rw [List.length_map,eZ] at hk
   have cu:decide ((k:Int) < wrap .i64 (c.2.2.2.2+1))=true:=by rw [gk ⟨by omega,by omega⟩]; exact decide_eq_true (by omega)
   have q:=gX N c k h1 (by omega)
   have eg:((b6 c (c.2.2.2.2.toNat+1)).map aV)[k]'(by rw [List.length_map,eZ]; exact hk)=aV (bw c k):=by simp [b6]
   rw [eg]
   have q2:D3 N ((bw c k).1,(bw c k).2)=some (aV (bw c k)):=uL hN (bw c k)
   simp only [wZ,cu,cond_true,q,Option.bind_some,q2,bE (show k < 9223372036854775807 by omega)]
   by_cases hz:aV (bw c k)=0
   ·simp [hz]
   ·simp [hz,Bool.cond_eq_ite]) (by
   rw [List.length_map,eZ]
   have qi:decide (((c.2.2.2.2.toNat+1:Nat):Int) < wrap .i64 (c.2.2.2.2+1))=false:=by rw [gk ⟨by omega,by omega⟩]; exact decide_eq_false (by omega)
   simp only [wZ,qi,cond_false]) N (by rw [List.length_map,eZ]; unfold fL at hN; omega)
  rw [h,key]
  simp only [bne_self_eq_false,cond_false,Option.bind_some,if_true]
  by_cases hz:aJ ((b6 c (c.2.2.2.2.toNat+1)).map aV)=0
  ·rw [if_pos hz,hz]; rfl
  ·rw [if_neg hz]; rfl
 ·have hb:(cX c != 0)=true:=bne_iff_ne.2 h
  rw [hb,cond_true,if_neg h]
theorem Wv (l:List XA) (p:Int × Int):map cS l++[AV.agg [AV.int .i64 p.1,AV.int .i64 p.2]]=map cS (l++[p]):=by rw [List.map_append]; rfl
theorem RH (l:List XA) {k:Nat} (hk:k < l.length):nt (ah (map cS l) k)=l[k]∧fits fI (ah (map cS l) k)=true:=by
 rw [fH cS l k hk,adV,adU]; exact ⟨rfl,rfl⟩
theorem tA (c:dq) (h:cX c=0):sj N c=some (bw c c.2.2.2.2.toNat):=by
 obtain ⟨h1,h2,h3⟩:=fk h
 have q:=gX N c c.2.2.2.2.toNat h1 (by omega)
 rw [show ((c.2.2.2.2.toNat:Nat):Int)=c.2.2.2.2 by omega] at q
 rw [Rt,q]
 rfl
end
end Go.Proofs.YtldcljfjjoidhaaGreatDoor
namespace Go.Proofs.YtldcljfjjoidhaaGreatDoor
open Go Go.Am
open List (map)
open Int (toNat)
open Go.IntKind (wrap)
open Go.Am.aR (fits)
set_option maxRecDepth 100000
section
variable {N:Nat} (hN:fL N)
include hN
theorem zx (c:dq) (h:cX c=0):Ru N c=some (b6 c (c.2.2.2.2.toNat+1)):=by
 obtain ⟨h1,h2,h3⟩:=fk h
 have AF:=fm h1
 simp only at AF
 have key:=cW (rd:=tw N c) c.2.2.2.2.toNat (fun k=>(b6 c (k+1),(if k % 2=0 then c.2.2.2.1 else !c.2.2.2.1),(k:Int),(bw c k).1,(bw c k).2)) (b6 c (c.2.2.2.2.toNat+1),(bw c c.2.2.2.2.toNat).1,(bw c c.2.2.2.2.toNat).2) (fun k hk=>by
  have cu:decide ((k:Int) < c.2.2.2.2)=true:=decide_eq_true (by omega)
  have hl:(b6 c (k+1)++[bw c (k+1)]).length=k+1+1:=by rw [List.length_append,eZ]; rfl
  have hb:decide ((k+1+1) * 16≤140737488355328)=true:=decide_eq_true (by omega)
  have ek:bw c (k+1)=((if c.2.2.1=true then (bw c k).1+1 else (bw c k).1 - 1),(if (if k % 2=0 then c.2.2.2.1 else !c.2.2.2.1)=true then (bw c k).2+1 else (bw c k).2 - 1)):=by
   obtain ⟨x,y,r,u,n⟩:=c
   unfold bw sg
   rcases Nat.mod_two_eq_zero_or_one k with hm | hm
   ·have Ww:(k+1) % 2=1:=by omega
    simp only [hm,Ww,if_true]
    refine Prod.ext ?_ ?_
    ·cases r <;> simp <;> omega
    ·cases u <;> simp <;> omega
   ·have Ww:(k+1) % 2=0:=by omega
    simp only [hm,Ww,show ¬ (1=0) from by decide,if_false]
    refine Prod.ext ?_ ?_
    ·cases r <;> simp <;> omega
    ·cases u <;> simp <;> omega
  have hk5:(k:Int) < 512:=by omega
  have aiB:-200000≤(bw c k).1∧(bw c k).1≤200000∧-200000≤(bw c k).2∧(bw c k).2≤200000:=by
   obtain ⟨x,y,r,u,n⟩:=c
   simp only at AF h3
   have hm:((k % 2:Nat):Int) < 2:=by omega
   unfold bw sg
   cases r <;> cases u <;> simp <;> omega
  have hup:(if (k+1) % 2=0 then c.2.2.2.1 else !c.2.2.2.1)=!(if k % 2=0 then c.2.2.2.1 else !c.2.2.2.1):=by
   rcases Nat.mod_two_eq_zero_or_one k with hm | hm
   ·have Ww:(k+1) % 2=1:=by omega
    simp [hm,Ww]
   ·have Ww:(k+1) % 2=0:=by omega
    simp [hm,Ww]
  have e2:b6 c (k+1+1)=b6 c (k+1)++[bw c (k+1)]:=Ee c (k+1)
  rw [e2,hup]
  rw [ek] at hl ⊢
  generalize (if k % 2=0 then c.2.2.2.1 else !c.2.2.2.1)=up at *
  generalize bw c k=q at *
  have wa:wrap .i64 (q.1+1)=q.1+1:=gk ⟨by omega,by omega⟩
  have wb:wrap .i64 (q.1 - 1)=q.1 - 1:=gk ⟨by omega,by omega⟩
  have wc:wrap .i64 (q.2+1)=q.2+1:=gk ⟨by omega,by omega⟩
  have wd:wrap .i64 (q.2 - 1)=q.2 - 1:=gk ⟨by omega,by omega⟩
  have sn:=fun a b:Int=>Wv hN (b6 c (k+1)) (a,b)
  simp only at sn
  cases hr:c.2.2.1 <;> cases up
  all_goals simp only [hr,if_true,Bool.false_eq_true,if_false] at hl ⊢
  all_goals simp only [tw,cu,hr,cond_true,cond_false,VI,VJ,Bool.and_self,List.length_map,decide_true,Option.bind_some,wa,wb,wc,wd,eZ,hb,sn,hl,Bool.not_true,Bool.not_false,bE (show k < 9223372036854775807 by omega)]) (by
  have qi:decide (((c.2.2.2.2.toNat:Nat):Int) < c.2.2.2.2)=false:=decide_eq_false (by omega)
  simp only [tw,qi,cond_false,VI,VJ,Bool.and_self,List.length_map,decide_true,cond_true,Option.bind_some]) N 0 (Nat.zero_le _) (by unfold fL at hN; omega)
 have k0:b6 c 1=[(c.1,c.2.1)]:=by
  unfold b6 bw
  simp
 have e0:bw c 0=(c.1,c.2.1):=by unfold bw; simp
 simp only [Nat.zero_add,k0,e0] at key
 have z:((bif (allFit (fits fI) [(AV.agg [(AV.int .i64 c.1),(AV.int .i64 c.2.1)])]&&true) then some ((map nt [(AV.agg [(AV.int .i64 c.1),(AV.int .i64 c.2.1)])]),c.2.2.2.1,0,c.1,c.2.1) else none:Option (hU × Bool × Int × Int × Int)).bind fun ME=>bif (decide (1=(map cS ME.1).length)&&true) then some ME else none)=some ([(c.1,c.2.1)],c.2.2.2.1,0,c.1,c.2.1):=rfl
 rw [Wm,z]
 have pW:aL (tw N c) N ([(c.1,c.2.1)],c.2.2.2.1,0,c.1,c.2.1)=_:=key
 simp only [beq_self_eq_true,Bool.and_self,cond_true,Option.bind_some,pW,VI,VJ]
theorem RI (c:dq) (h:cX c=0):T56 N c=some (bw c c.2.2.2.2.toNat):=by
 obtain ⟨h1,h2,h3⟩:=fk h
 have q:Ru N (c.1,c.2.1,c.2.2.1,c.2.2.2.1,c.2.2.2.2)=some (b6 c (c.2.2.2.2.toNat+1)):=zx hN c h
 rw [Wr,q,Option.bind_some]
 have hw:wrap .i64 (((c.2.2.2.2.toNat+1:Nat):Int) - 1)=((c.2.2.2.2.toNat:Nat):Int):=by rw [gk ⟨by omega,by omega⟩]; omega
 have hk:c.2.2.2.2.toNat < (b6 c (c.2.2.2.2.toNat+1)).length:=by rw [eZ]; omega
 obtain ⟨a1,a2⟩:=RH hN (b6 c (c.2.2.2.2.toNat+1)) hk
 have eg:(b6 c (c.2.2.2.2.toNat+1))[c.2.2.2.2.toNat]=bw c c.2.2.2.2.toNat:=by simp [b6]
 rw [eg] at a1
 have ir:decide ((0:Int)≤((c.2.2.2.2.toNat:Nat):Int)∧((c.2.2.2.2.toNat:Nat):Int) < ((c.2.2.2.2.toNat+1:Nat):Int))=true:=decide_eq_true (by omega)
 simp only [List.length_map,eZ,hw,Int.toNat_natCast,ir,a1,a2,Bool.and_self,cond_true]
theorem RJ (c:dq):T54 N c=some (ju c):=by
 rw [Wp]
 have aeI:uI N (c.1,c.2.1)=some (aV (c.1,c.2.1)):=ny N (c.1,c.2.1)
 simp only [aeI,Option.bind_some,beq_self_eq_true,Bool.and_self,cond_true,RG]
 rw [aeH]
 simp only [Option.bind_some]
 rw [Be hN _ (by simp)]
 simp only [Option.bind_some]
 have e1:aJ [aV (c.1,c.2.1),CD c.2.2.2.2 1 512]=cX c:=rfl
 rw [e1]
 unfold ju
 by_cases h:cX c=0
 ·obtain ⟨h1,h2,h3⟩:=fk h
  have q:Ru N (c.1,c.2.1,c.2.2.1,c.2.2.2.1,c.2.2.2.2)=some (b6 c (c.2.2.2.2.toNat+1)):=zx hN c h
  have hlen:=eZ c (c.2.2.2.2.toNat+1)
  rw [h]
  simp only [bne_self_eq_false,cond_false,q,Option.bind_some,if_true]
  generalize b6 c (c.2.2.2.2.toNat+1)=l at *
  have key:=iW (rd:=xd N l) (l.map aV) (fun k hk=>by
   rw [List.length_map] at hk
   obtain ⟨a1,a2⟩:=RH hN l hk
   have q2:uI N (l[k].1,l[k].2)=some (aV l[k]):=ny N l[k]
   rw [List.getElem_map]
   simp only [xd,List.length_map,Int.toNat_natCast,a8 hk,aB hk,a1,a2,Bool.and_self,cond_true,q2,Option.bind_some,bE (show k < 9223372036854775807 by omega)]
   by_cases hz:aV l[k]=0
   ·simp [hz]
   ·simp [hz,Bool.cond_eq_ite]) (by
   rw [List.length_map]
   simp only [xd,List.length_map,bO,cond_false]) N (by rw [List.length_map]; unfold fL at hN; omega)
  rw [key]
  simp only [Option.bind_some]
  by_cases hz:aJ (l.map aV)=0
  ·rw [if_pos hz,hz]; rfl
  ·rw [if_neg hz]; rfl
 ·have hb:(cX c != 0)=true:=bne_iff_ne.2 h
  rw [hb,cond_true,if_neg h]
end
end Go.Proofs.YtldcljfjjoidhaaGreatDoor
