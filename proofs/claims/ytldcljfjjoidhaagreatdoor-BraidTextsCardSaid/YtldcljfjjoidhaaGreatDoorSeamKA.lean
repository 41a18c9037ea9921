/- Plain laws: knots,courses,their checks and walks. -/
import Derived.Test.YtldcljfjjoidhaaGreatDoorBraT
import Derived.Test.YtldcljfjjoidhaaGreatDoorAmKK
import Derived.Test.YtldcljfjjoidhaaGreatDoorAmKL
import Derived.Test.YtldcljfjjoidhaaGreatDoorBraU
import Derived.Test.YtldcljfjjoidhaaGreatDoorBraV
import Derived.Test.YtldcljfjjoidhaaGreatDoorBraLp
set_option linter.all false
open BitVec renaming ofInt→aaF, toNat_ofInt→aby
open Bool renaming and_self→aad, and_true→aaf, false_eq_true→aao, cond_eq_ite→aa3, not_false→abU, not_true→abW
open Int renaming toNat_natCast→aae
open List renaming length_map→aac, length_append→aag, length_singleton→aah, map_append→aai, getElem?_eq_getElem→aaZ, range→aa0, drop_zero→aa2, getElem_mem→aa4, length_take→aa5, take_add_one→aa6, length_range→aa7, take_length→aa8, length_cons→abD, range_succ→abN, mem_append→abT, mem_of_mem_take→abV
open Nat renaming zero_le→aap, mod_two_eq_zero_or_one→aa1, beq_refl→abx, min_eq_left→abS, le_of_lt→abX
open Option renaming bind_some→aab
open Sum renaming elim_inl→abI
namespace Go.Proofs.YtldcljfjjoidhaaGreatDoor
open Go Go.Am
open List (map)
open Int (toNat)
open Go.IntKind (wrap)
open Go.Am.aP (fits)
set_option maxRecDepth 100000
theorem Hy (n:Nat) (h:n < 18446744073709551616):(aaF 64 (wrap .i64 (n:Int))).toNat=n:=by
 rw [aby,IntKind.wrap_i64];omega
theorem aho (a b:Nat):(a ^^^ b) % 2=(a+b) % 2:=by
 have h:=Nat.xor_mod_two_pow (a:=a) (b:=b) (n:=1);rw [Nat.pow_one] at h;rw [h];rcases aa1 a with ha|ha <;> rcases aa1 b with hb|hb <;> rw [ha,hb] <;> simp <;> omega
theorem Yu (x y:Int):(I8 .i64 (I9 .i64 x y) 1 != 0)=decide ((x+y) % 2≠0):=by
 have h1:(aaF 64 x ^^^ aaF 64 y).toNat < 18446744073709551616:=(aaF 64 x ^^^ aaF 64 y).isLt;have h2:(aaF 64 1).toNat=1:=by decide
 have h3:I8 .i64 (I9 .i64 x y) 1=wrap .i64 ((((aaF 64 x ^^^ aaF 64 y).toNat % 2:Nat)):Int):=by
  show wrap .i64 (((aaF 64 (wrap .i64 (((aaF 64 x ^^^ aaF 64 y).toNat:Nat):Int)) &&& aaF 64 1).toNat:Nat):Int)=_;rw [BitVec.toNat_and,Hy _ h1,h2,Nat.and_one_is_mod]
 rw [h3,fA (by omega),BitVec.toNat_xor,aho,aby,aby];have e:((((x % ((2 ^ 64:Nat):Int)).toNat+(y % ((2 ^ 64:Nat):Int)).toNat) % 2:Nat):Int)=(x+y) % 2:=by omega
 rw [e];by_cases h:(x+y) % 2=0 <;> simp [h]
def bf (p:Int × Int):Int:=if p.1 < -100000∨p.1 > 100000∨p.2 < -100000∨p.2 > 100000 then 3 else if (p.1+p.2) % 2=0 then 0 else 14
theorem jl {N:Nat} (hN:eE N) (l:List Int) (hl:l.length≤9223372036854775806):wJ N l=some (aZ l):=by
 obtain ⟨o,h1,h2⟩:=ow (rd:=xj N l) l (fun k hk=>by
  have hd:=gO G9 l k hk;have e1:kj (ah (map G9 l) k)=l[k]:=by rw [hd]; rfl
  have e2:fits xh (ah (map G9 l) k)=true:=by rw [hd]; rfl
  simp only [xj,aac,aae,e1,e2,bp (show k < 9223372036854775807 by omega),aX hk,aO hk,aad,cond_true];by_cases hz:l[k]=0
  ·simp [hz]
  ·simp [hz,aa3]) (by simp only [xj,aac,bL,cond_false]) N (by unfold eE at hN; omega)
 rw [RL,h1,aab];rcases o with o|o
 ·simpa using h2
 ·simpa using h2
theorem nD {N:Nat} (hN:eE N) (l:List Int) (hl:l.length≤9223372036854775806):Ps N l=some (aZ l):=by
 obtain ⟨o,h1,h2⟩:=ow (rd:=CS N l) l (fun k hk=>by
  have hd:=gO G9 l k hk;have e1:kj (ah (map G9 l) k)=l[k]:=by rw [hd]; rfl
  have e2:fits xh (ah (map G9 l) k)=true:=by rw [hd]; rfl
  simp only [CS,aac,aae,e1,e2,bp (show k < 9223372036854775807 by omega),aX hk,aO hk,aad,cond_true];by_cases hz:l[k]=0
  ·simp [hz]
  ·simp [hz,aa3]) (by simp only [CS,aac,bL,cond_false]) N (by unfold eE at hN; omega)
 rw [Xj,h1,aab];rcases o with o|o
 ·simpa using h2
 ·simpa using h2
theorem BK {N:Nat} (hN:eE N) (l:List Int) (hl:l.length≤9223372036854775806):Ze N l=some (aZ l):=by
 obtain ⟨o,h1,h2⟩:=ow (rd:=CT N l) l (fun k hk=>by
  have hd:=gO p0 l k hk;have e1:gP (ah (map p0 l) k)=l[k]:=by rw [hd]; rfl
  have e2:fits p3 (ah (map p0 l) k)=true:=by rw [hd]; rfl
  simp only [CT,aac,aae,e1,e2,bp (show k < 9223372036854775807 by omega),aX hk,aO hk,aad,cond_true];by_cases hz:l[k]=0
  ·simp [hz]
  ·simp [hz,aa3]) (by simp only [CT,aac,bL,cond_false]) N (by unfold eE at hN; omega)
 rw [Xn,h1,aab];rcases o with o|o
 ·simpa using h2
 ·simpa using h2
theorem BL (x y:Int):((bif allFit (fits xh) [AV.int .i64 x,AV.int .i64 y]&&true then some (map kj [AV.int .i64 x,AV.int .i64 y]) else none:Option ma))=some [x,y]:=rfl
theorem ahp (x y:Int):((bif allFit (fits p3) [AV.int .i64 x,AV.int .i64 y]&&true then some (map gP [AV.int .i64 x,AV.int .i64 y]) else none:Option ma))=some [x,y]:=rfl
theorem kw (N:Nat) (b:Bool) (e:Int):AF N (b,e)=some (if b then e else 0):=by rw [RM]; cases b <;> rfl
theorem qw (N:Nat) (b:Bool) (e:Int):Pt N (b,e)=some (if b then e else 0):=by rw [Xk]; cases b <;> rfl
theorem E3 (N:Nat) (n lo hi:Int):Np N (n,lo,hi)=some (ov n lo hi):=by
 rw [RQ,kw,kw];unfold ov;by_cases h1:n < lo
 ·simp [h1]
 ·by_cases h2:n > hi <;> simp [h1,h2]
theorem IU (N:Nat) (n lo hi:Int):Zd N (n,lo,hi)=some (ov n lo hi):=by
 rw [Xl,qw,qw];unfold ov;by_cases h1:n < lo
 ·simp [h1]
 ·by_cases h2:n > hi <;> simp [h1,h2]
theorem IV (N:Nat) (n lo hi:Int):Zf N (n,lo,hi)=some (ov n lo hi):=by
 rw [Xo];unfold ov;by_cases h1:n < lo
 ·simp [h1]
 ·by_cases h2:n > hi <;> simp [h1,h2]
theorem uZ {N:Nat} (hN:eE N) (p:Int × Int):EJ N p=some (bf p):=by
 rw [RR,IB];simp only [E3,aab,beq_self_eq_true,aad,cond_true];rw [BL];simp only [aab];rw [jl hN _ (by simp)];simp only [aab,kw,Yu];rw [BL];simp only [aab];rw [jl hN _ (by simp)];simp only [aab];congr 1;unfold bf ov;simp only [aZ];by_cases h1:p.1 < -100000∨p.1 > 100000
 ·have h:p.1 < -100000∨p.1 > 100000∨p.2 < -100000∨p.2 > 100000:=by omega
  simp [h,h1]
 ·by_cases h2:p.2 < -100000∨p.2 > 100000
  ·have h:p.1 < -100000∨p.1 > 100000∨p.2 < -100000∨p.2 > 100000:=by omega
   simp [h,h1,h2]
  ·have h:¬ (p.1 < -100000∨p.1 > 100000∨p.2 < -100000∨p.2 > 100000):=by omega
   by_cases h3:(p.1+p.2) % 2=0 <;> simp [h,h1,h2,h3]
theorem BM (N:Nat) (p:Int × Int):Hi N p=some (bf p):=by
 rw [SL,II,II,SJ];unfold bf;by_cases h:p.1 < -100000∨p.1 > 100000∨p.2 < -100000∨p.2 > 100000
 ·rw [if_pos h];by_cases h1:p.1 < -100000 <;> by_cases h2:p.1 > 100000 <;> by_cases h3:p.2 < -100000 <;> by_cases h4:p.2 > 100000 <;> simp [h1,h2,h3,h4] <;> omega
 ·rw [if_neg h];have h1:¬ p.1 < -100000:=by omega
  have h2:¬ p.1 > 100000:=by omega
  have h3:¬ p.2 < -100000:=by omega
  have h4:¬ p.2 > 100000:=by omega
  rw [fA (x:=p.1+p.2) (by omega)];have e:((Int.tmod (p.1+p.2) 2) == 0)=decide ((p.1+p.2) % 2=0):=by
   by_cases h5:(p.1+p.2) % 2=0
   ·have:Int.tmod (p.1+p.2) 2=0:=Int.tmod_eq_zero_of_dvd (Int.dvd_of_emod_eq_zero h5);simp [h5,this]
   ·have:Int.tmod (p.1+p.2) 2≠0:=fun e=>h5 (Int.emod_eq_zero_of_dvd (Int.dvd_of_tmod_eq_zero e))
    simp [h5,this]
  rw [e];by_cases h5:(p.1+p.2) % 2=0 <;> simp [h1,h2,h3,h4,h5]
abbrev bQ:=Int × Int × Bool × Bool × Int
def sg (b:Bool):Int:=if b then 1 else -1
def aT (c:bQ) (i:Nat):Int × Int:=(c.1+(i:Int) * sg c.2.2.1,c.2.1+((i % 2:Nat):Int) * sg c.2.2.2.1)
def b7 (c:bQ) (k:Nat):List XA:=(aa0 k).map (aT c)
theorem ej (c:bQ) (k:Nat):(b7 c k).length=k:=by simp [b7]
theorem E4 (c:bQ) (k:Nat):b7 c (k+1)=b7 c k++[aT c k]:=by unfold b7; rw [abN,aai]; rfl
theorem jm {p:Int × Int} (h:bf p=0):-100000≤p.1∧p.1≤100000∧-100000≤p.2∧p.2≤100000:=by
 unfold bf at h;split at h
 ·cases h
 ·omega
theorem dY (N:Nat) (c:bQ) (i:Nat) (h:bf (c.1,c.2.1)=0) (hi:i≤100000):qf N ((c.1,c.2.1,c.2.2.1,c.2.2.2.1,c.2.2.2.2),(i:Int))=some (aT c i):=by
 have hk:=jm h;simp only at hk;have t2:Int.tmod (i:Int) 2=((i % 2:Nat):Int):=rfl;rw [Sz,IG,IG];obtain ⟨x,y,r,u,n⟩:=c;simp only at hk ⊢;have hm:0≤((i % 2:Nat):Int)∧((i % 2:Nat):Int) < 2:=by omega
 cases r <;> cases u
 all_goals simp only [cond_true,cond_false,aab,beq_self_eq_true,aad,t2,aT,sg,if_true,aao,if_false,Int.mul_one,Int.mul_neg]
 all_goals (generalize ((i % 2:Nat):Int)=q at *)
 all_goals (have a1:wrap .i64 (i:Int)=i:=fA ⟨by omega,by omega⟩)
 all_goals (have a2:wrap .i64 (-(i:Int))=-i:=fA ⟨by omega,by omega⟩)
 all_goals (have a3:wrap .i64 q=q:=fA ⟨by omega,by omega⟩)
 all_goals (have a4:wrap .i64 (-q)=-q:=fA ⟨by omega,by omega⟩)
 all_goals (simp only [a1,a2,a3,a4])
 all_goals (rw [fA ⟨by omega,by omega⟩,fA ⟨by omega,by omega⟩])
def cP (c:bQ):Int:=aZ [bf (c.1,c.2.1),ov c.2.2.2.2 1 512]
def dz (c:bQ):Int:=if cP c=0 then aZ ((b7 c (c.2.2.2.2.toNat+1)).map bf) else cP c
theorem dj {c:bQ} (h:cP c=0):bf (c.1,c.2.1)=0∧1≤c.2.2.2.2∧c.2.2.2.2≤512:=by
 have h:=gq.1 h;refine ⟨h _ (by simp),?_⟩;have:=h (ov c.2.2.2.2 1 512) (by simp);unfold ov at this;split at this
 ·cases this
 ·omega
section
variable {N:Nat} (hN:eE N)
include hN
theorem E5 (c:bQ):Hg N c=some (dz c):=by
 rw [SA];simp only [uZ hN,aab,beq_self_eq_true,aad,cond_true,IU];rw [BL];simp only [aab];rw [nD hN _ (by simp)];simp only [aab];have e1:aZ [bf (c.1,c.2.1),ov c.2.2.2.2 1 512]=cP c:=rfl;rw [e1];unfold dz;by_cases h:cP c=0
 ·obtain ⟨h1,h2,h3⟩:=dj h;have key:=jJ (rd:=xo N c) ((b7 c (c.2.2.2.2.toNat+1)).map bf) (fun k hk=>by
   rw [aac,ej] at hk;have cm:decide ((k:Int) < wrap .i64 (c.2.2.2.2+1))=true:=by rw [fA ⟨by omega,by omega⟩]; exact decide_eq_true (by omega)
   have q:=dY N c k h1 (by omega);have eg:((b7 c (c.2.2.2.2.toNat+1)).map bf)[k]'(by rw [aac,ej]; exact hk)=bf (aT c k):=by simp [b7]
   rw [eg];have q2:EJ N ((aT c k).1,(aT c k).2)=some (bf (aT c k)):=uZ hN (aT c k);simp only [xo,cm,cond_true,q,aab,q2,bp (show k < 9223372036854775807 by omega)];by_cases hz:bf (aT c k)=0
   ·simp [hz]
   ·simp [hz,aa3]) (by
   rw [aac,ej];have lM:decide (((c.2.2.2.2.toNat+1:Nat):Int) < wrap .i64 (c.2.2.2.2+1))=false:=by rw [fA ⟨by omega,by omega⟩]; exact decide_eq_false (by omega)
   simp only [xo,lM,cond_false]) N (by rw [aac,ej]; unfold eE at hN; omega)
  rw [h,key];simp only [bne_self_eq_false,cond_false,aab,if_true];by_cases hz:aZ ((b7 c (c.2.2.2.2.toNat+1)).map bf)=0
  ·rw [if_pos hz,hz]; rfl
  ·rw [if_neg hz]; rfl
 ·have hb:(cP c != 0)=true:=bne_iff_ne.2 h;rw [hb,cond_true,if_neg h]
theorem Yv (l:List XA) (p:Int × Int):map dx l++[AV.agg [AV.int .i64 p.1,AV.int .i64 p.2]]=map dx (l++[p]):=by rw [aai]; rfl
theorem TF (l:List XA) {k:Nat} (hk:k < l.length):dX (ah (map dx l) k)=l[k]∧fits cZ (ah (map dx l) k)=true:=by
 rw [gO dx l k hk,aaQ,aaP]; exact ⟨rfl,rfl⟩
theorem Ox (c:bQ) (h:cP c=0):SB N c=some (aT c c.2.2.2.2.toNat):=by
 obtain ⟨h1,h2,h3⟩:=dj h;have q:=dY N c c.2.2.2.2.toNat h1 (by omega);rw [show ((c.2.2.2.2.toNat:Nat):Int)=c.2.2.2.2 by omega] at q;rw [SE,q];rfl
end
end Go.Proofs.YtldcljfjjoidhaaGreatDoor
namespace Go.Proofs.YtldcljfjjoidhaaGreatDoor
open Go Go.Am
open List (map)
open Int (toNat)
open Go.IntKind (wrap)
open Go.Am.aP (fits)
set_option maxRecDepth 100000
section
variable {N:Nat} (hN:eE N)
include hN
theorem zY (c:bQ) (h:cP c=0):SF N c=some (b7 c (c.2.2.2.2.toNat+1)):=by
 obtain ⟨h1,h2,h3⟩:=dj h;have Dt:=jm h1;simp only at Dt;have key:=cE (rd:=tN N c) c.2.2.2.2.toNat (fun k=>(b7 c (k+1),(if k % 2=0 then c.2.2.2.1 else !c.2.2.2.1),(k:Int),(aT c k).1,(aT c k).2)) (b7 c (c.2.2.2.2.toNat+1),(aT c c.2.2.2.2.toNat).1,(aT c c.2.2.2.2.toNat).2) (fun k hk=>by
  have cm:decide ((k:Int) < c.2.2.2.2)=true:=decide_eq_true (by omega);have hl:(b7 c (k+1)++[aT c (k+1)]).length=k+1+1:=by rw [aag,ej]; rfl
  have hb:decide ((k+1+1) * 16≤140737488355328)=true:=decide_eq_true (by omega);have ek:aT c (k+1)=((if c.2.2.1=true then (aT c k).1+1 else (aT c k).1 - 1),(if (if k % 2=0 then c.2.2.2.1 else !c.2.2.2.1)=true then (aT c k).2+1 else (aT c k).2 - 1)):=by
   obtain ⟨x,y,r,u,n⟩:=c;unfold aT sg;rcases aa1 k with hm|hm
   ·have Oy:(k+1) % 2=1:=by omega
    simp only [hm,Oy,if_true];refine Prod.ext ?_ ?_
    ·cases r <;> simp <;> omega
    ·cases u <;> simp <;> omega
   ·have Oy:(k+1) % 2=0:=by omega
    simp only [hm,Oy,show ¬ (1=0) from by decide,if_false];refine Prod.ext ?_ ?_
    ·cases r <;> simp <;> omega
    ·cases u <;> simp <;> omega
  have hk5:(k:Int) < 512:=by omega
  have alO:-200000≤(aT c k).1∧(aT c k).1≤200000∧-200000≤(aT c k).2∧(aT c k).2≤200000:=by
   obtain ⟨x,y,r,u,n⟩:=c;simp only at Dt h3;have hm:((k % 2:Nat):Int) < 2:=by omega
   unfold aT sg;cases r <;> cases u <;> simp <;> omega
  have hup:(if (k+1) % 2=0 then c.2.2.2.1 else !c.2.2.2.1)=!(if k % 2=0 then c.2.2.2.1 else !c.2.2.2.1):=by
   rcases aa1 k with hm|hm
   ·have Oy:(k+1) % 2=1:=by omega
    simp [hm,Oy]
   ·have Oy:(k+1) % 2=0:=by omega
    simp [hm,Oy]
  have e2:b7 c (k+1+1)=b7 c (k+1)++[aT c (k+1)]:=E4 c (k+1);rw [e2,hup];rw [ek] at hl ⊢;generalize (if k % 2=0 then c.2.2.2.1 else !c.2.2.2.1)=up at *;generalize aT c k=q at *;have wa:wrap .i64 (q.1+1)=q.1+1:=fA ⟨by omega,by omega⟩;have wb:wrap .i64 (q.1 - 1)=q.1 - 1:=fA ⟨by omega,by omega⟩;have wc:wrap .i64 (q.2+1)=q.2+1:=fA ⟨by omega,by omega⟩;have wd:wrap .i64 (q.2 - 1)=q.2 - 1:=fA ⟨by omega,by omega⟩;have sn:=fun a b:Int=>Yv hN (b7 c (k+1)) (a,b)
  simp only at sn;cases hr:c.2.2.1 <;> cases up
  all_goals simp only [hr,if_true,aao,if_false] at hl ⊢
  all_goals simp only [tN,cm,hr,cond_true,cond_false,kV,kW,aad,aac,decide_true,aab,wa,wb,wc,wd,ej,hb,sn,hl,abW,abU,bp (show k < 9223372036854775807 by omega)]) (by
  have lM:decide (((c.2.2.2.2.toNat:Nat):Int) < c.2.2.2.2)=false:=decide_eq_false (by omega);simp only [tN,lM,cond_false,kV,kW,aad,aac,decide_true,cond_true,aab]) N 0 (aap _) (by unfold eE at hN; omega)
 have k0:b7 c 1=[(c.1,c.2.1)]:=by
  unfold b7 aT;simp
 have e0:aT c 0=(c.1,c.2.1):=by unfold aT; simp
 simp only [Nat.zero_add,k0,e0] at key;have z:((bif (allFit (fits cZ) [(AV.agg [(AV.int .i64 c.1),(AV.int .i64 c.2.1)])]&&true) then some ((map dX [(AV.agg [(AV.int .i64 c.1),(AV.int .i64 c.2.1)])]),c.2.2.2.1,0,c.1,c.2.1) else none:Option (lZ × Bool × Int × Int × Int)).bind fun EU=>bif (decide (1=(map dx EU.1).length)&&true) then some EU else none)=some ([(c.1,c.2.1)],c.2.2.2.1,0,c.1,c.2.1):=rfl;rw [Xp,z];have oL:ay (tN N c) N ([(c.1,c.2.1)],c.2.2.2.1,0,c.1,c.2.1)=_:=key;simp only [beq_self_eq_true,aad,cond_true,aab,oL,kV,kW]
theorem TG (c:bQ) (h:cP c=0):T56 N c=some (aT c c.2.2.2.2.toNat):=by
 obtain ⟨h1,h2,h3⟩:=dj h;have q:SF N (c.1,c.2.1,c.2.2.1,c.2.2.2.1,c.2.2.2.2)=some (b7 c (c.2.2.2.2.toNat+1)):=zY hN c h;rw [Xu,q,aab];have hw:wrap .i64 (((c.2.2.2.2.toNat+1:Nat):Int) - 1)=((c.2.2.2.2.toNat:Nat):Int):=by rw [fA ⟨by omega,by omega⟩]; omega
 have hk:c.2.2.2.2.toNat < (b7 c (c.2.2.2.2.toNat+1)).length:=by rw [ej]; omega
 obtain ⟨a1,a2⟩:=TF hN (b7 c (c.2.2.2.2.toNat+1)) hk;have eg:(b7 c (c.2.2.2.2.toNat+1))[c.2.2.2.2.toNat]=aT c c.2.2.2.2.toNat:=by simp [b7]
 rw [eg] at a1;have ir:decide ((0:Int)≤((c.2.2.2.2.toNat:Nat):Int)∧((c.2.2.2.2.toNat:Nat):Int) < ((c.2.2.2.2.toNat+1:Nat):Int))=true:=decide_eq_true (by omega);simp only [aac,ej,hw,aae,ir,a1,a2,aad,cond_true]
theorem TH (c:bQ):T54 N c=some (dz c):=by
 rw [Xs];have ahq:Hi N (c.1,c.2.1)=some (bf (c.1,c.2.1)):=BM N (c.1,c.2.1);simp only [ahq,aab,beq_self_eq_true,aad,cond_true,IV];rw [ahp];simp only [aab];rw [BK hN _ (by simp)];simp only [aab];have e1:aZ [bf (c.1,c.2.1),ov c.2.2.2.2 1 512]=cP c:=rfl;rw [e1];unfold dz;by_cases h:cP c=0
 ·obtain ⟨h1,h2,h3⟩:=dj h;have q:SF N (c.1,c.2.1,c.2.2.1,c.2.2.2.1,c.2.2.2.2)=some (b7 c (c.2.2.2.2.toNat+1)):=zY hN c h;have hlen:=ej c (c.2.2.2.2.toNat+1);rw [h];simp only [bne_self_eq_false,cond_false,q,aab,if_true];generalize b7 c (c.2.2.2.2.toNat+1)=l at *;have key:=jJ (rd:=xp N l) (l.map bf) (fun k hk=>by
   rw [aac] at hk;obtain ⟨a1,a2⟩:=TF hN l hk;have q2:Hi N (l[k].1,l[k].2)=some (bf l[k]):=BM N l[k];rw [List.getElem_map];simp only [xp,aac,aae,aX hk,aO hk,a1,a2,aad,cond_true,q2,aab,bp (show k < 9223372036854775807 by omega)];by_cases hz:bf l[k]=0
   ·simp [hz]
   ·simp [hz,aa3]) (by
   rw [aac];simp only [xp,aac,bL,cond_false]) N (by rw [aac]; unfold eE at hN; omega)
  rw [key];simp only [aab];by_cases hz:aZ (l.map bf)=0
  ·rw [if_pos hz,hz]; rfl
  ·rw [if_neg hz]; rfl
 ·have hb:(cP c != 0)=true:=bne_iff_ne.2 h;rw [hb,cond_true,if_neg h]
end
end Go.Proofs.YtldcljfjjoidhaaGreatDoor
namespace Go.Proofs.YtldcljfjjoidhaaGreatDoor
open Go Go.Am
open List (map)
open Int (toNat)
open Go.IntKind (wrap)
open Go.Am.aP (fits)
set_option maxRecDepth 100000
abbrev dm:=Int × Int × Int
def iV (a b:Int × Int):dm:=if a.2 > b.2 then (b.1,b.2,a.1 - b.1) else (a.1,a.2,b.1 - a.1)
theorem TJ (N:Nat) (a b:Int × Int) (h:-1000000≤a.1∧a.1≤1000000∧-1000000≤b.1∧b.1≤1000000):T64 N (a,b)=some (iV a b):=by
 rw [XD];unfold iV;by_cases h1:a.2 > b.2
 ·simp only [h1,decide_true,cond_true,if_true,aab];rw [fA ⟨by omega,by omega⟩]
 ·simp only [h1,decide_false,cond_false,if_false,aab];rw [fA ⟨by omega,by omega⟩]
theorem TL (l:List dm) (p:dm):map de l++[AV.agg [AV.int .i64 p.1,AV.int .i64 p.2.1,AV.int .i64 p.2.2]]=map de (l++[p]):=by rw [aai]; rfl
theorem eJ (c:bQ) (h:cP c=0) (i:Nat) (hi:i≤100000):-1000000≤(aT c i).1∧(aT c i).1≤1000000:=by
 obtain ⟨h1,h2,h3⟩:=dj h;have Dt:=jm h1;simp only at Dt;unfold aT sg;split <;> (simp only; omega)
def eK (c:bQ) (i:Nat):dm:=iV (aT c i) (aT c (i+1))
def cQ (c:bQ) (k:Nat):List dm:=(aa0 k).map (eK c)
def bS (c:bQ):List dm:=cQ c c.2.2.2.2.toNat
theorem fC (c:bQ) (k:Nat):(cQ c k).length=k:=by simp [cQ]
theorem lq (c:bQ) (k:Nat):cQ c (k+1)=cQ c k++[eK c k]:=by unfold cQ; rw [abN,aai]; rfl
def bH (p:List bQ):List dm:=p.flatMap bS
theorem nE {c:bQ} (h:cP c=0):(bS c).length≤512:=by
 obtain ⟨h1,h2,h3⟩:=dj h;unfold bS;rw [fC];omega
theorem nF (p:List bQ) (h:∀ c∈p,cP c=0):(bH p).length≤512 * p.length:=by
 induction p with
 |nil=>simp [bH]
 |cons c p ih=>
  have h1:=nE (h c (by simp));have h2:=ih (fun c hc=>h c (by simp [hc]));unfold bH at *;rw [List.flatMap_cons,aag,abD];omega
theorem qZ (p:List bQ) {k:Nat} (hk:k < p.length):bH (p.take (k+1))=bH (p.take k)++bS p[k]:=by
 unfold bH;rw [aa6,aaZ hk,List.flatMap_append];simp
section
variable {N:Nat} (hN:eE N)
include hN
theorem BN (c:bQ) (h:cP c=0):Kl N c=some (bS c):=by
 obtain ⟨h1,h2,h3⟩:=dj h;have key:=cE (rd:=qk N (b7 c (c.2.2.2.2.toNat+1))) c.2.2.2.2.toNat (fun k=>(cQ c k,((k+1:Nat):Int))) (bS c) (fun k hk=>by
  have hl:=ej c (c.2.2.2.2.toNat+1);have hm:wrap .i64 (((k+1:Nat):Int) - 1)=(k:Int):=by rw [fA ⟨by omega,by omega⟩]; omega
  have a1:=TF hN (b7 c (c.2.2.2.2.toNat+1)) (k:=k) (by omega);have a2:=TF hN (b7 c (c.2.2.2.2.toNat+1)) (k:=k+1) (by omega);have g1:(b7 c (c.2.2.2.2.toNat+1))[k]'(by omega)=aT c k:=by simp [b7]
  have g2:(b7 c (c.2.2.2.2.toNat+1))[k+1]'(by omega)=aT c (k+1):=by simp [b7]
  rw [g1] at a1;rw [g2] at a2;have r1:decide ((0:Int)≤(k:Int)∧(k:Int) < ((b7 c (c.2.2.2.2.toNat+1)).length:Int))=true:=aO (by omega);have r2:decide ((0:Int)≤((k+1:Nat):Int)∧((k+1:Nat):Int) < ((b7 c (c.2.2.2.2.toNat+1)).length:Int))=true:=aO (by omega);have r3:decide (((k+1:Nat):Int) < ((b7 c (c.2.2.2.2.toNat+1)).length:Int))=true:=aX (by omega);have b:=TJ N (aT c k) (aT c (k+1)) ⟨(eJ c h k (by omega)).1,(eJ c h k (by omega)).2,(eJ c h (k+1) (by omega)).1,(eJ c h (k+1) (by omega)).2⟩;have e:iV (aT c k) (aT c (k+1))=eK c k:=rfl;have hb:decide ((k+1) * 24≤140737488355328)=true:=decide_eq_true (by omega);have ll:(cQ c k++[eK c k]).length=k+1:=by rw [aag,fC]; rfl
  have sn:=TL (cQ c k) (eK c k);rw [lq];simp only [qk,r3,hm,r1,r2,aae,a1.1,a1.2,a2.1,a2.2,aad,cond_true,b,e,aab,aac,fC,decide_true,hb,sn,gA,fX,ll,bp (show k+1 < 9223372036854775807 by omega)]) (by
  have hl:=ej c (c.2.2.2.2.toNat+1);have lM:decide (((c.2.2.2.2.toNat+1:Nat):Int) < ((b7 c (c.2.2.2.2.toNat+1)).length:Int))=false:=by rw [hl]; exact bL _
  simp only [qk,lM,cond_false,gA,fX,aad,cond_true,aab,aac,decide_true];rfl) N 0 (aap _) (by unfold eE at hN; omega)
 rw [SS];have w:=zY hN c h;have oL:ay (qk N (b7 c (c.2.2.2.2.toNat+1))) N (([]:List dm),1)=some (bS c):=key;have z:((bif (allFit (fits aV) ([]:List AV)&&true) then some ((map bD ([]:List AV)),1) else none:Option (j4 × Int)).bind fun w8=>bif (decide (0=(map de w8.1).length)&&true) then some w8 else none)=some (([]:List dm),1):=rfl;rw [show SF N (c.1,c.2.1,c.2.2.1,c.2.2.2.1,c.2.2.2.2)=some (b7 c (c.2.2.2.2.toNat+1)) from w,aab,z,aab,oL,aab];simp only [gA,fX,cond_true]
theorem C3 (l:List bQ) {k:Nat} (hk:k < l.length):cb (ah (map ey l) k)=l[k]∧fits dS (ah (map ey l) k)=true:=by
 rw [gO ey l k hk];exact ⟨afB _,afA _⟩
theorem IW (p:List bQ) (h:∀ c∈p,cP c=0) (hp:p.length≤1000000):T44 N p=some (bH p):=by
 have key:=cE (rd:=zP N p) p.length (fun k=>(bH (p.take k),(k:Int))) (bH p) (fun k hk=>by
  have a:=C3 hN p hk;have r1:decide ((0:Int)≤(k:Int)∧(k:Int) < (p.length:Int))=true:=aO hk;have r2:decide ((k:Int) < (p.length:Int))=true:=aX hk;have e0:=h p[k] (aa4 hk);have b:=BN hN p[k] e0;have hl:=nF (p.take k) (fun c hc=>h c (abV hc));have hm:=nE e0;rw [aa5,abS (abX hk)] at hl;have hb:decide (((bH (p.take k)).length+(bS p[k]).length) * 24≤140737488355328)=true:=decide_eq_true (by omega);rw [qZ p hk];simp only [zP,aac,r2,r1,aae,a.1,a.2,aad,cond_true,b,aab,decide_true,hb,← aai,gA,fX,aag,bp (show k < 9223372036854775807 by omega)]) (by
  have lM:decide ((p.length:Int) < (p.length:Int))=false:=bL _;simp only [zP,aac,lM,cond_false,gA,fX,aad,cond_true,aab,decide_true,aa8]) N 0 (aap _) (by unfold eE at hN; omega)
 rw [XF];have oL:ay (zP N p) N (([]:List dm),0)=some (bH p):=key;have z:((bif (allFit (fits aV) ([]:List AV)&&true) then some ((map bD ([]:List AV)),0) else none:Option (j4 × Int)).bind fun w8=>bif (decide (0=(map de w8.1).length)&&true) then some w8 else none)=some (([]:List dm),0):=rfl;rw [z,aab,oL,aab];simp only [gA,fX,cond_true]
end
end Go.Proofs.YtldcljfjjoidhaaGreatDoor
namespace Go.Proofs.YtldcljfjjoidhaaGreatDoor
open Go Go.Am Go.Sort
open List (map)
open Int (toNat)
open Go.IntKind (wrap)
open Go.Am.aP (fits)
set_option maxRecDepth 100000
theorem zZ {V X:Type} {rd:V→Option (V ⊕ X)} (m:Nat) (E:Nat→V) (b:Nat→Bool) (y:Nat→X) (x:X)
  (h:∀ k,k < m→rd (E k)=some (if b k then .inr (y k) else .inl (E (k+1)))) (h0:rd (E m)=some (.inr x)) (n:Nat) (hn:m < n) :
  ay rd n (E 0)=some (match (aa0 m).find? b with | some j=>y j | none=>x):=by
 have key:=fh (rd:=rd) (S:=Unit) (Y:=Nat) (aa0 m) (fun _ k=>E k) (fun _ i=>if b i then .inr i else .inl ()) (fun _=>x) y (fun _ _=>True)
  (fun s k hk _=>by
   have hk:k < m:=by simpa using hk
   refine ⟨?_,fun _ _=>trivial⟩;rw [List.getElem_range,h k hk];cases b k <;> rfl) (fun _ _=>by rw [aa7]; exact h0) n () 0 (aap _) (by simpa using hn) trivial
 rw [aa2] at key;refine key.trans (congrArg some ?_);clear key h h0 hn;generalize aa0 m=l
 induction l with
 |nil=>rfl
 |cons a l ih=>
  simp only [foldI,List.find?_cons];cases b a with
  |true=>rfl
  |false=>simp only [aao,if_false,abI]; exact ih
theorem Oz (a b:dm):(a.1 == b.1&&(a.2.1 == b.2.1&&(a.2.2 == b.2.2&&true)))=decide (a=b):=by
 rw [Bool.eq_iff_iff];simp [Prod.ext_iff]
theorem E6 (N:Nat) (a b:dm):Zj N (a,b)=some ((ltOf lF) a b):=by
 rw [Oh,zJ];by_cases h1:a.2.1=b.2.1
 ·by_cases h2:a.1=b.1
  ·simp [h1,h2]
  ·have hb:(a.1 != b.1)=true:=bne_iff_ne.2 h2;simp [h1,h2,hb]
 ·have hb:(a.2.1 != b.2.1)=true:=bne_iff_ne.2 h1;simp [h1,hb]
theorem Hz (l:List dm) (a b:Nat):bC a b (map de l)=map de ((l.take b).drop a):=by simp [bC,List.map_take,List.map_drop]
section
variable {N:Nat} (hN:eE N)
include hN
theorem Yw (l s:List dm) (i:Nat) (hi:i < l.length) (hl:l.length≤1000000) (hs:s.length≤2000000):ay (nj N l (s,(i:Int))) N 0=some ((s.takeWhile fun x=>(ltOf lF) x l[i]).length:Int):=by
 obtain ⟨z1,z2⟩:=qc l hi;have q:=zZ (rd:=nj N l (s,(i:Int))) s.length (fun k=>(k:Int)) (fun k=>!(ltOf lF) (s.getD k (0,0,0)) l[i]) (fun k=>(k:Int)) (s.length:Int) (fun k hk=>by
  obtain ⟨a1,a2⟩:=qc s hk;have e:s.getD k (0,0,0)=s[k]:=by simp [hk]
  rw [e];have hb:Zj N ((s[k].1,s[k].2.1,s[k].2.2),(l[i].1,l[i].2.1,l[i].2.2))=some ((ltOf lF) s[k] l[i]):=E6 N s[k] l[i];simp only [nj,aac,aae,a1,a2,z1,z2,aX hk,aO hk,aO hi,aad,cond_true,bp (show k < 9223372036854775807 by omega),hb,aab];cases (ltOf lF) s[k] l[i] <;> rfl) (by
  simp only [nj,aac,bL,cond_false,aab]) N (by unfold eE at hN; omega)
 have q':ay (nj N l (s,(i:Int))) N 0=_:=q;rw [q'];have:=IT s (fun x=>(ltOf lF) x l[i]) (0,0,0);rw [← this];cases (aa0 s.length).find? fun j=>!(ltOf lF) (s.getD j (0,0,0)) l[i] <;> rfl
theorem OA (l:List dm) (s:List dm) (k:Nat) (hl:l.length≤1000000) (hs:s.length≤2000000) (hk:k < l.length):uV N l (s,(k:Int))=some (.inl (rB (ltOf lF) (0,0,0) l[k] s,((k+1:Nat):Int))):=by
 obtain ⟨a1,a2⟩:=qc l hk;have nJ:=Yw hN l s k hk hl hs;have hle:(s.takeWhile fun x=>(ltOf lF) x l[k]).length≤s.length:=(List.takeWhile_sublist _).length_le;unfold rB;simp only;generalize (s.takeWhile fun x=>(ltOf lF) x l[k]).length=a at *;generalize l[k]=o at *;have hc:((bif ((a:Int) == (s.length:Int)) then some true else bif (decide ((0:Int)≤(a:Int)∧(a:Int) < (s.length:Int))&&fits aV (ah (map de s) a)) then some (!(((bD (ah (map de s) a)).1 == o.1)&&(((bD (ah (map de s) a)).2.1 == o.2.1)&&(((bD (ah (map de s) a)).2.2 == o.2.2)&&true)))) else none):Option Bool)=some (decide (a=s.length∨s.getD a (0,0,0)≠o)):=by
  by_cases h:a=s.length
  ·have hb:((a:Int) == (s.length:Int))=true:=by simp [h]
   rw [hb]; simp [h]
  ·have wF:a < s.length:=by omega
   obtain ⟨b1,b2⟩:=qc s wF;have hb:((a:Int) == (s.length:Int))=false:=beq_false_of_ne (by omega);have e:s.getD a (0,0,0)=s[a]:=by simp [wF]
   rw [hb,b1,b2,aO wF,e,Oz];simp only [aad,cond_true,cond_false];congr 1;simp [h]
 have c1:decide ((0:Int)≤(a:Int)∧(a:Int)≤(s.length:Int))=true:=decide_eq_true (by omega);have ht:(List.take a s).length=a:=by rw [aa5]; omega
 have TM:∀ x:Nat,x≤4000000→decide (x * 24≤140737488355328)=true:=fun x hx=>decide_eq_true (by omega)
 have z0:∀ x:List dm,[AV.agg [AV.int .i64 o.1,AV.int .i64 o.2.1,AV.int .i64 o.2.2]]++map de x=map de ([o]++x):=fun x=>rfl
 have z1:∀ x y:List dm,(map de x++[AV.agg [AV.int .i64 o.1,AV.int .i64 o.2.1,AV.int .i64 o.2.2]])++map de y=map de (x++[o]++y):=fun x y=>by rw [aai,aai]; rfl
 simp only [uV,jr,xw,aac,aX hk,aae,a1,a2,aO hk,aad,cond_true,aab,nJ,hc];by_cases hi:a=s.length∨s.getD a (0,0,0)≠o
 ·rw [if_pos hi];simp only [hi,decide_true,cond_true,c1,aad,aaf,Hz,aa2,aa8,beq_self_eq_true];by_cases h0:a=0
  ·subst h0;simp only [List.take_zero,List.map_nil,List.isEmpty_nil,cond_true,List.nil_append,aah,aac,List.length_drop,decide_true,TM (1+s.length) (by omega),aad,z0,gA,fX,aab,aa2,aaf,bp (show k < 9223372036854775807 by omega)]
  ·have cS:List.isEmpty (map de (List.take a s))=false:=by
    cases hd:List.take a s with
    |nil=>rw [hd] at ht; simp at ht; omega
    |cons x y=>rfl
   simp only [cS,cond_false,List.nil_append,aag,aah,aac,List.length_drop,ht,Nat.zero_add,TM a (by omega),TM (a+1) (by omega),TM (a+1+(s.length - a)) (by omega),decide_true,cond_true,aad,z1,gA,fX,aab,aaf,bp (show k < 9223372036854775807 by omega)]
 ·rw [if_neg hi];simp only [hi,decide_false,cond_false,gA,fX,aaf,cond_true,aab,bp (show k < 9223372036854775807 by omega)]
theorem TN (l:List dm) (hl:l.length≤1000000):T62 N l=some (Hx (ltOf lF) (0,0,0) l):=by
 rw [XZ];have key:=jI (rd:=uV N l) l (fun s k=>(s,(k:Int))) (fun s k=>rB (ltOf lF) (0,0,0) k s) (fun s=>s) (fun s k=>s.length≤k∧k≤l.length) (fun s k hk hs=>by
  refine ⟨OA hN l s k hl (by omega) hk,?_⟩;have:=E1 (lt:=(ltOf lF)) (0,0,0) l[k] s;omega) (fun s _=>by
  simp only [uV,jr,xw,aac,bL,cond_false,gA,fX,aaf,cond_true,aab]) N [] 0 (aap _) (by unfold eE at hN; omega) ⟨Nat.le_refl _,aap _⟩
 have oL:ay (uV N l) N ([],0)=_:=key;have z:((bif (allFit (fits aV) ([]:List AV)&&true) then some ((map bD ([]:List AV)),0) else none:Option ((List dm) × Int)).bind fun XU=>some XU)=some ([],0):=rfl;rw [z,aab,oL,aa2,aab];simp only [gA,fX,cond_true];rfl
end
end Go.Proofs.YtldcljfjjoidhaaGreatDoor
namespace Go.Proofs.YtldcljfjjoidhaaGreatDoor
open Go Go.Am Go.Sort
open List (map)
open Int (toNat)
open Go.IntKind (wrap)
open Go.Am.aP (fits)
set_option maxRecDepth 100000
theorem E7 (l:List dm) (p:dm) (x y z:Int) (h:p=(x,y,z)):map de l++[AV.agg [AV.int .i64 x,AV.int .i64 y,AV.int .i64 z]]=map de (l++[p]):=by subst h; rw [aai]; rfl
section
variable {N:Nat} (hN:eE N)
include hN
theorem HA (l:List bQ) {k:Nat} (hk:k < l.length):bF (ah (map iq l) k)=l[k]∧fits xq (ah (map iq l) k)=true:=by
 rw [gO iq l k hk];exact ⟨afO _,afN _⟩
theorem Yx (p:List bQ) (i:Nat) (hi:i < p.length) (acc:List dm) (u:Unit) (hc:cP p[i]=0) (ha:acc.length≤1000000000) :
  ay (np N p (u,(i:Int),acc)) N (0,acc,p[i].1,p[i].2.1,p[i].2.2.1,p[i].2.2.2.1,p[i].2.2.2.2,())=some (acc++bS p[i],p[i].1,p[i].2.1,p[i].2.2.1,p[i].2.2.2.1,p[i].2.2.2.2,()):=by
 have a:=HA hN p hi;generalize p[i]=c at *;obtain ⟨h1,h2,h3⟩:=dj hc;have key:=cE (rd:=np N p (u,(i:Int),acc)) c.2.2.2.2.toNat (fun k=>((k:Int),acc++cQ c k,c.1,c.2.1,c.2.2.1,c.2.2.2.1,c.2.2.2.2,())) (acc++bS c,c.1,c.2.1,c.2.2.1,c.2.2.2.1,c.2.2.2.2,()) (fun k hk=>by
  have cm:decide ((k:Int) < c.2.2.2.2)=true:=decide_eq_true (by omega);have t1:=dY N c k h1 (by omega);have t2:=dY N c (k+1) h1 (by omega);have q1:=eJ c hc k (by omega);have q2:=eJ c hc (k+1) (by omega);have hl:(acc++cQ c k).length=acc.length+k:=by rw [aag,fC]
  have hb:decide ((acc.length+k+1) * 24≤140737488355328)=true:=decide_eq_true (by omega);have eb:eK c k=iV (aT c k) (aT c (k+1)):=rfl;have es:acc++cQ c (k+1)=(acc++cQ c k)++[eK c k]:=by rw [lq,List.append_assoc]
  rw [es];simp only [np,oE,aae,a.1,cm,cond_true,t1,bp (show k < 9223372036854775807 by omega),t2,aab,beq_self_eq_true,aad];unfold iV at eb;generalize aT c k=x at *;generalize aT c (k+1)=y at *;by_cases wg:x.2 > y.2
  ·rw [if_pos wg] at eb;have w:wrap .i64 (x.1 - y.1)=x.1 - y.1:=fA ⟨by omega,by omega⟩;have sn:=E7 (acc++cQ c k) (eK c k) y.1 y.2 (x.1 - y.1) eb;simp only [wg,decide_true,cond_true,gA,fX,aac,hl,abx,aad,aaf,aab,w,hb,sn,aag,aah,fC]
  ·rw [if_neg wg] at eb;have w:wrap .i64 (y.1 - x.1)=y.1 - x.1:=fA ⟨by omega,by omega⟩;have sn:=E7 (acc++cQ c k) (eK c k) x.1 x.2 (y.1 - x.1) eb;simp only [wg,decide_true,decide_false,cond_true,cond_false,gA,fX,aac,hl,abx,aad,aaf,aab,w,hb,sn,aag,aah,fC]) (by
  have lM:decide (((c.2.2.2.2.toNat:Nat):Int) < c.2.2.2.2)=false:=decide_eq_false (by omega);simp only [np,oE,aae,a.1,lM,cond_false,gA,fX,aac,abx,aad,aaf,cond_true,aab];rfl) N 0 (aap _) (by unfold eE at hN; omega)
 have e0:acc++cQ c 0=acc:=by simp [cQ]
 rw [e0] at key;exact key
theorem TO (p:List bQ) (h:∀ c∈p,cP c=0) (hp:p.length≤1000000):ay (li N p) N ((),0,[])=some ((),bH p):=by
 refine cE (rd:=li N p) p.length (fun k=>((),(k:Int),bH (p.take k))) ((),bH p) (fun k hk=>?_) ?_ N 0 (aap _) (by unfold eE at hN; omega)
 ·have a:=HA hN p hk;have e0:=h p[k] (aa4 hk);have hl:=nF (p.take k) (fun c hc=>h c (abV hc));rw [aa5,abS (abX hk)] at hl;have b:=Yx hN p k hk (bH (p.take k)) () e0 (by omega);rw [qZ p hk];simp only [li,aac,aX hk,aO hk,aae,a.1,a.2,gA,fX,abx,aad,aaf,cond_true,aab,b,bp (show k < 9223372036854775807 by omega)]
 ·simp only [li,aac,bL,cond_false,gA,fX,abx,aad,aaf,cond_true,aab,aa8]
theorem Ks (l:List dm):aF (map de l)=true:=by
 induction l with
 |nil=>rfl
 |cons x l ih=>exact ih
theorem TP (p:List bQ) (h:∀ c∈p,cP c=0) (hp:p.length≤1000000):T91 N p=some ((bH p).mergeSort fun x y=>!(ltOf lF) y x):=by
 have z2:((bif ((Nat.beq 0 (([]:List AV)).length&&Nat.beq 0 (([]:List AV)).length)&&(allFit (fits aV) ([]:List AV)&&true)) then some ((),0,(map bD ([]:List AV))) else none:Option (Unit × Int × j4)).bind fun w23=>some w23)=some ((),0,[]):=rfl;have hl:=nF p h;have es:gB aV lF (map de (bH p))=map de ((bH p).mergeSort fun x y=>!(ltOf lF) y x):=by
  unfold gB;rw [show map aV.bJ (map de (bH p))=bH p from fX _];rfl
 have hb:decide ((bH p).length≤140737488355328)=true:=decide_eq_true (by omega);rw [X9,z2,aab,TO hN p h hp,aab];simp only [es,aac,List.length_mergeSort,decide_true,hb,Ks hN,gA,fX,aad,cond_true]
end
end Go.Proofs.YtldcljfjjoidhaaGreatDoor
namespace Go.Proofs.YtldcljfjjoidhaaGreatDoor
open Go Go.Am Go.Sort
open List (map)
open Int (toNat)
open Go.IntKind (wrap)
open Go.Am.aP (fits)
set_option maxRecDepth 100000
section
variable {N:Nat} (hN:eE N)
include hN
theorem Yy (l:List bQ) (c:bQ):map iq l++[AV.agg [AV.int .i64 c.1,AV.int .i64 c.2.1,AV.bool c.2.2.1,AV.bool c.2.2.2.1,AV.int .i64 c.2.2.2.2]]=map iq (l++[c]):=by rw [aai]; rfl
theorem Yz (p:List bQ) (hp:p.length≤1000000):T28 N p=some p:=by
 have key:=cE (rd:=zS N p) p.length (fun k=>(p.take k,(k:Int))) p (fun k hk=>by
  obtain ⟨a1,a2⟩:=C3 hN p hk;have hl:(p.take k).length=k:=by rw [aa5]; omega
  have hb:decide ((k+1) * 32≤140737488355328)=true:=decide_eq_true (by omega);have sn:=Yy hN (p.take k) p[k];have es:p.take (k+1)=p.take k++[p[k]]:=by rw [aa6,aaZ hk]; rfl
  rw [es];simp only [zS,xr,aac,aae,aX hk,aO hk,a1,a2,aad,aaf,cond_true,decide_true,hl,hb,sn,qi,qj,aab,aag,aah,bp (show k < 9223372036854775807 by omega)]) (by
  simp only [zS,xr,aac,bL,cond_false,qi,qj,aaf,cond_true,aab,decide_true,aa8]) N 0 (aap _) (by unfold eE at hN; omega)
 have oL:ay (zS N p) N ([],0)=some p:=key;have z:((bif (allFit (fits xq) ([]:List AV)&&true) then some ((map bF ([]:List AV)),0) else none:Option (dQ × Int)).bind fun w6=>bif (decide (0=(map iq w6.1).length)&&true) then some w6 else none)=some ([],0):=rfl;rw [XN,z,aab,oL,aab];simp only [qi,qj,cond_true]
def AL (p:List bQ) (i:Nat):Bool:=i == 0 || !decide (aT (p.getD (i - 1) (0,0,false,false,0)) (p.getD (i - 1) (0,0,false,false,0)).2.2.2.2.toNat=((p.getD i (0,0,false,false,0)).1,(p.getD i (0,0,false,false,0)).2.1))
def HB (p:List bQ) (k:Nat):List Int:=((aa0 k).filter (AL p)).map fun i:Nat=>(i:Int)
theorem E8 (p:List bQ) (k:Nat):HB p (k+1)=if AL p k then HB p k++[(k:Int)] else HB p k:=by
 unfold HB;rw [abN,List.filter_append,aai];cases h:AL p k <;> simp [h]
theorem IX (p:List bQ) (k:Nat):(HB p k).length≤k:=by
 unfold HB;rw [aac];have:=List.length_filter_le (AL p) (aa0 k);rwa [aa7] at this
theorem IY (l:List Int) (x:Int):map p0 l++[AV.int .i64 x]=map p0 (l++[x]):=by rw [aai]; rfl
theorem IZ (q:Int × Int) (x y:Int):(!((q.1 == x)&&(q.2 == y)))=!decide (q=(x,y)):=by
 congr 1;rw [Bool.eq_iff_iff];simp [Prod.ext_iff]
theorem YA (p:List bQ) (h:∀ c∈p,cP c=0) (hp:p.length≤1000000):T93 N p=some (HB p p.length):=by
 have key:=cE (rd:=uY N p) p.length (fun k=>(HB p k,(k:Int))) (HB p p.length) (fun k hk=>by
  obtain ⟨a1,a2⟩:=HA hN p hk;have hl:=IX hN p k;have hb:decide (((HB p k).length+1) * 8≤140737488355328)=true:=decide_eq_true (by omega);rw [E8 hN];by_cases h0:k=0
  ·subst h0;have e:AL p 0=true:=rfl;have b0:((0:Int) == 0)=true:=rfl;have w1:wrap .i64 (0+1)=1:=rfl;have i0:decide ((0:Int)≤0∧(0:Int) < (p.length:Int))=true:=decide_eq_true (by omega);have l0:decide ((0:Int) < (p.length:Int))=true:=decide_eq_true (by omega);rw [e,if_pos rfl];simp only [uY,aac,Int.natCast_zero,Int.toNat_zero,l0,i0,a1,a2,b0,aad,aaf,cond_true,decide_true,hb,IY hN,KP,KQ,aab,aag,aah,w1];rfl
  ·obtain ⟨j,rfl⟩:∃ j,k=j+1:=⟨k - 1,by omega⟩;have hj:j < p.length:=by omega
   obtain ⟨b1,b2⟩:=HA hN p hj;have hm:wrap .i64 (((j+1:Nat):Int) - 1)=(j:Int):=by rw [fA ⟨by omega,by omega⟩]; omega
   have b0:(((j+1:Nat):Int) == 0)=false:=beq_false_of_ne (by omega);have SC:=Ox hN p[j] (h p[j] (aa4 hj));have e:AL p (j+1)=!decide (aT p[j] p[j].2.2.2.2.toNat=(p[j+1].1,p[j+1].2.1)):=by
    unfold AL;have g1:p.getD (j+1 - 1) (0,0,false,false,0)=p[j]:=by simp [hj]
    have g2:p.getD (j+1) (0,0,false,false,0)=p[j+1]:=by simp [hk]
    rw [g1,g2];rfl
   rw [e];simp only [uY,aac,aae,aX hk,aO hk,aO hj,hm,a1,a2,b1,b2,b0,aad,aaf,cond_true,cond_false,beq_self_eq_true,SC,IZ hN,KP,KQ,decide_true,aab];cases decide (aT p[j] p[j].2.2.2.2.toNat=(p[j+1].1,p[j+1].2.1)) with
   |true=>simp only [abW,cond_false,aao,if_false,decide_true,KP,KQ,aab,cond_true,aaf,aad,bp (show j+1 < 9223372036854775807 by omega)]
   |false=>simp only [abU,cond_true,if_true,hb,IY hN,KP,KQ,decide_true,aag,aah,aab,aaf,aad,bp (show j+1 < 9223372036854775807 by omega)]) (by
  simp only [uY,aac,bL,cond_false,KP,KQ,aaf,cond_true,aab,decide_true]) N 0 (aap _) (by unfold eE at hN; omega)
 have oL:ay (uY N p) N ([],0)=_:=key;have z:((bif (allFit (fits p3) ([]:List AV)&&true) then some ((map gP ([]:List AV)),0) else none:Option (ma × Int)).bind fun zx=>bif (decide (0=(map p0 zx.1).length)&&true) then some zx else none)=some ([],0):=rfl;rw [X7,z,aab,oL,aab];simp only [KP,KQ,cond_true]
theorem YB (p:List bQ) (h:∀ c∈p,cP c=0) (hp:p.length≤1000000):T46 N p=some (HB p p.length):=by
 have key:=cE (rd:=uX N p) p.length (fun k=>(HB p k,(k:Int))) (HB p p.length) (fun k hk=>by
  obtain ⟨a1,a2⟩:=C3 hN p hk;have hl:=IX hN p k;have hb:decide (((HB p k).length+1) * 8≤140737488355328)=true:=decide_eq_true (by omega);rw [E8 hN];by_cases h0:k=0
  ·subst h0;have e:AL p 0=true:=rfl;have b0:((0:Int) == 0)=true:=rfl;have w1:wrap .i64 (0+1)=1:=rfl;have i0:decide ((0:Int)≤0∧(0:Int) < (p.length:Int))=true:=decide_eq_true (by omega);have l0:decide ((0:Int) < (p.length:Int))=true:=decide_eq_true (by omega);rw [e,if_pos rfl];simp only [uX,aac,Int.natCast_zero,Int.toNat_zero,l0,i0,a1,a2,b0,aad,aaf,cond_true,decide_true,hb,IY hN,KP,KQ,aab,aag,aah,w1];rfl
  ·obtain ⟨j,rfl⟩:∃ j,k=j+1:=⟨k - 1,by omega⟩;have hj:j < p.length:=by omega
   obtain ⟨b1,b2⟩:=C3 hN p hj;have hm:wrap .i64 (((j+1:Nat):Int) - 1)=(j:Int):=by rw [fA ⟨by omega,by omega⟩]; omega
   have b0:(((j+1:Nat):Int) == 0)=false:=beq_false_of_ne (by omega);have e56:=TG hN p[j] (h p[j] (aa4 hj));have e:AL p (j+1)=!decide (aT p[j] p[j].2.2.2.2.toNat=(p[j+1].1,p[j+1].2.1)):=by
    unfold AL;have g1:p.getD (j+1 - 1) (0,0,false,false,0)=p[j]:=by simp [hj]
    have g2:p.getD (j+1) (0,0,false,false,0)=p[j+1]:=by simp [hk]
    rw [g1,g2];rfl
   rw [e];simp only [uX,aac,aae,aX hk,aO hk,aO hj,hm,a1,a2,b1,b2,b0,aad,aaf,cond_true,cond_false,beq_self_eq_true,e56,IZ hN,KP,KQ,decide_true,aab];cases decide (aT p[j] p[j].2.2.2.2.toNat=(p[j+1].1,p[j+1].2.1)) with
   |true=>simp only [abW,cond_false,aao,if_false,decide_true,KP,KQ,aab,cond_true,aaf,aad,bp (show j+1 < 9223372036854775807 by omega)]
   |false=>simp only [abU,cond_true,if_true,hb,IY hN,KP,KQ,decide_true,aag,aah,aab,aaf,aad,bp (show j+1 < 9223372036854775807 by omega)]) (by
  simp only [uX,aac,bL,cond_false,KP,KQ,aaf,cond_true,aab,decide_true]) N 0 (aap _) (by unfold eE at hN; omega)
 have oL:ay (uX N p) N ([],0)=_:=key;have z:((bif (allFit (fits p3) ([]:List AV)&&true) then some ((map gP ([]:List AV)),0) else none:Option (ma × Int)).bind fun zx=>bif (decide (0=(map p0 zx.1).length)&&true) then some zx else none)=some ([],0):=rfl;rw [X5,z,aab,oL,aab];simp only [KP,KQ,cond_true]
end
end Go.Proofs.YtldcljfjjoidhaaGreatDoor
namespace Go.Proofs.YtldcljfjjoidhaaGreatDoor
open Go Go.Am Go.Sort
open List (map)
open Int (toNat)
open Go.IntKind (wrap)
open Go.Am.aP (fits)
set_option maxRecDepth 100000
theorem lr {α:Type} (P:α→Prop) [DecidablePred P] (e:Int) (he:e≠0):∀ l:List α,aZ (l.map fun x=>if P x then e else 0)=if ∃ x∈l,P x then e else 0
 |[]=>by simp [aZ]
 |a :: l=>by
  rw [List.map_cons,aZ,lr P e he l];by_cases h:P a
  ·have:∃ x∈a :: l,P x:=⟨a,by simp,h⟩;rw [if_pos h,if_neg he,if_pos this]
  ·rw [if_neg h,if_pos rfl];by_cases h2:∃ x∈l,P x
   ·obtain ⟨x,hx,hp⟩:=h2;rw [if_pos ⟨x,hx,hp⟩,if_pos ⟨x,by simp [hx],hp⟩]
   ·rw [if_neg h2,if_neg];rintro ⟨x,hx,hp⟩;rcases List.mem_cons.1 hx with rfl|hx
    ·exact h hp
    ·exact h2 ⟨x,hx,hp⟩
def I0 (c:bQ):Int:=if c.2.2.2.1 then c.2.1 else c.2.1 - 1
def below (p:List bQ) (c:bQ):Bool:=match p.getLast? with
 |some q=>decide (I0 c < I0 q)
 |none=>false
def jN (p:List bQ) (c:bQ):Int:=if dz c=0 then (if below p c=true then 11 else if ∃ b∈bS c,b∈bH p then 9 else if (bH p).length+(bS c).length > 4096 then 4 else 0) else dz c
theorem mF {c:bQ} (h:dz c=0):cP c=0:=by
 unfold dz at h;by_cases h1:cP c=0
 ·exact h1
 ·rw [if_neg h1] at h; exact h
theorem kx {p:List bQ} {c:bQ} (h:jN p c=0):dz c=0∧below p c=false∧(∀ b∈bS c,b∉bH p)∧(bH p).length+(bS c).length≤4096:=by
 unfold jN at h;by_cases h1:dz c=0
 ·rw [if_pos h1] at h;by_cases h2:below p c=true
  ·rw [if_pos h2] at h; exact absurd h (by decide)
  ·rw [if_neg h2] at h;by_cases h3:∃ b∈bS c,b∈bH p
   ·rw [if_pos h3] at h; exact absurd h (by decide)
   ·rw [if_neg h3] at h;by_cases h4:(bH p).length+(bS c).length > 4096
    ·rw [if_pos h4] at h; exact absurd h (by decide)
    ·exact ⟨h1,by simpa using h2,fun b hb hq=>h3 ⟨b,hb,hq⟩,by omega⟩
 ·rw [if_neg h1] at h; exact absurd h h1
def C4 (p:List bQ):List Int:=(aa0 p.length).map fun k=>jN (p.take k) (p.getD k (0,0,false,false,0))
def gG (p:List bQ):Int:=if p.length > 256 then 5 else aZ (C4 p)
theorem ls (p:List bQ):(C4 p).length=p.length:=by simp [C4]
theorem C5 (p:List bQ) {k:Nat} (hk:k < p.length):(C4 p)[k]'(by rw [ls]; exact hk)=jN (p.take k) p[k]:=by simp [C4,hk]
theorem sF {V X:Type} {rd:V→Option (V ⊕ X)} (l:List Int) (E:Nat→V) (fin:X) (ex:Int→X) (P:Nat→Prop)
  (h:∀ k (hk:k < l.length),P k→rd (E k)=some (if l[k]=0 then .inl (E (k+1)) else .inr (ex l[k]))∧(l[k]=0→P (k+1))) (h0:P l.length→rd (E l.length)=some (.inr fin)) (n:Nat) (hn:l.length < n) (hP:P 0) :
  ay rd n (E 0)=some (if aZ l=0 then fin else ex (aZ l)):=by
 have key:=fh (rd:=rd) (S:=Unit) (Y:=Int) l (fun _ k=>E k) (fun _ x=>if x=0 then .inl () else .inr x) (fun _=>fin) ex (fun _ k=>P k)
  (fun s k hk hp=>by
   obtain ⟨h1,h2⟩:=h k hk hp;refine ⟨by rw [h1]; by_cases e:l[k]=0 <;> simp [e],fun s' hs=>?_⟩;by_cases e:l[k]=0
   ·exact h2 e
   ·rw [if_neg e] at hs; cases hs) (fun _ hp=>h0 hp) n () 0 (aap _) (by omega) hP
 rw [aa2] at key;refine key.trans (congrArg some ?_);clear key h h0 hn hP
 induction l with
 |nil=>rfl
 |cons x l ih=>
  simp only [foldI,aZ];by_cases e:x=0
  ·simp only [e,if_true,abI]; exact ih
  ·simp [e]
theorem I1 {p:List bQ} (h:aZ (C4 p)=0) {k:Nat} (hk:k < p.length):jN (p.take k) p[k]=0:=by
 rw [← C5 p hk];exact gq.1 h _ (aa4 _)
theorem oM {p:List bQ} (h:gG p=0):p.length≤256∧(∀ c∈p,cP c=0):=by
 unfold gG at h;by_cases h1:p.length > 256
 ·rw [if_pos h1] at h; exact absurd h (by decide)
 ·rw [if_neg h1] at h;refine ⟨by omega,fun c hc=>?_⟩;obtain ⟨k,hk,rfl⟩:=List.getElem_of_mem hc;exact mF (kx (I1 h hk)).1
theorem Kt (l:List bQ) (a b:Nat):bC a b (map ey l)=map ey ((l.take b).drop a):=by simp [bC,List.map_take,List.map_drop]
section
variable {N:Nat} (hN:eE N)
include hN
theorem I2 (c:bQ) (h:cP c=0):SU N c=some (I0 c):=by
 obtain ⟨h1,h2,h3⟩:=dj h;have Dt:=jm h1;simp only at Dt;rw [XH];unfold I0;rw [fA ⟨by omega,by omega⟩];cases c.2.2.2.1 <;> rfl
theorem TQ (A B:List dm) (j:Nat) (hj:j < B.length) (hA:A.length≤1000000000):ay (lf N A B (j:Int)) N 0=some (if B[j]∈A then .inl 9 else .inr ()):=by
 obtain ⟨b1,b2⟩:=qc B hj;have key:=jJ (rd:=lf N A B (j:Int)) (A.map fun x=>if x=B[j] then (9:Int) else 0) (fun k hk=>by
  have hk:k < A.length:=by simpa using hk
  obtain ⟨a1,a2⟩:=qc A hk;have e:(A.map fun x=>if x=B[j] then (9:Int) else 0)[k]'(by simpa using hk)=if A[k]=B[j] then (9:Int) else 0:=by simp
  rw [e];simp only [lf,aac,aae,aX hk,aO hk,aO hj,a1,a2,b1,b2,Oz,aad,cond_true,bp (show k < 9223372036854775807 by omega)];by_cases h:A[k]=B[j]
  ·rw [decide_eq_true h,if_pos h]; rfl
  ·rw [decide_eq_false h,if_neg h]; rfl) (by
  simp only [lf,aac,bL,cond_false]) N (by rw [aac]; unfold eE at hN; omega)
 rw [key,lr (fun x=>x=B[j]) 9 (by decide) A];have e:(∃ x,x∈A∧x=B[j])↔B[j]∈A:=⟨fun ⟨x,hx,e⟩=>e ▸ hx,fun h=>⟨_,h,rfl⟩⟩;by_cases h:B[j]∈A
 ·rw [if_pos h,if_pos (e.2 h)]; rfl
 ·rw [if_neg h,if_neg (fun q=>h (e.1 q))]; rfl
theorem OB (A B:List dm) (hA:A.length≤1000000000) (hB:B.length≤1000000000):ay (ql N A B) N 0=some (if ∃ b∈B,b∈A then .inl 9 else .inr ()):=by
 have key:=jJ (rd:=ql N A B) (B.map fun x=>if x∈A then (9:Int) else 0) (fun k hk=>by
  have hk:k < B.length:=by simpa using hk
  have e:(B.map fun x=>if x∈A then (9:Int) else 0)[k]'(by simpa using hk)=if B[k]∈A then (9:Int) else 0:=by simp
  rw [e];simp only [ql,aac,aX hk,cond_true,TQ hN A B k hk hA,aab,bp (show k < 9223372036854775807 by omega)];by_cases h:B[k]∈A
  ·simp only [h,if_true]; rfl
  ·simp only [h,if_false]; rfl) (by
  simp only [ql,aac,bL,cond_false]) N (by rw [aac]; unfold eE at hN; omega)
 rw [key,lr (fun x=>x∈A) 9 (by decide) B];by_cases h:∃ b∈B,b∈A
 ·rw [if_pos h,if_pos h]; rfl
 ·rw [if_neg h,if_neg h]; rfl
theorem E9 (p:List bQ) (c:bQ) (h:∀ q∈p,cP q=0) (hp:p.length≤1000000):Hq N (p,c)=some (jN p c):=by
 have q54:T54 N (c.1,c.2.1,c.2.2.1,c.2.2.2.1,c.2.2.2.2)=_:=TH hN c;rw [SX,q54,aab];unfold jN;by_cases hc:dz c=0
 ·have Cy:=mF hc;have q60:SU N (c.1,c.2.1,c.2.2.1,c.2.2.2.1,c.2.2.2.2)=_:=I2 hN c Cy;have ahr:Kl N (c.1,c.2.1,c.2.2.1,c.2.2.2.1,c.2.2.2.2)=_:=BN hN c Cy;have Uo:=nF p h;have Pj:=nE Cy;have q44:=IW hN p h hp;have qo:=OB hN (bH p) (bS c) (by omega) (by omega);rw [if_pos hc,hc];have acv:((bif (decide (((((map ey p)).length:Nat):Int) > 0)) then bif (decide ((0:Int)≤(wrap .i64 (((((map ey p)).length:Nat):Int) - 1))∧(wrap .i64 (((((map ey p)).length:Nat):Int) - 1)) < (((map ey p)).length:Int))&&fits dS (ah (map ey p) (toNat (wrap .i64 (((((map ey p)).length:Nat):Int) - 1))))) then (SU N (c.1,c.2.1,c.2.2.1,c.2.2.2.1,c.2.2.2.2)).bind fun y2=>(SU N ((cb (ah (map ey p) (toNat (wrap .i64 (((((map ey p)).length:Nat):Int) - 1))))).1,(cb (ah (map ey p) (toNat (wrap .i64 (((((map ey p)).length:Nat):Int) - 1))))).2.1,(cb (ah (map ey p) (toNat (wrap .i64 (((((map ey p)).length:Nat):Int) - 1))))).2.2.1,(cb (ah (map ey p) (toNat (wrap .i64 (((((map ey p)).length:Nat):Int) - 1))))).2.2.2.1,(cb (ah (map ey p) (toNat (wrap .i64 (((((map ey p)).length:Nat):Int) - 1))))).2.2.2.2)).bind fun y3=>(some (decide (y2 < y3))) else none else (some false)):Option Bool)=some (below p c):=by
   cases p with
   |nil=>rfl
   |cons a l=>
    have hk:l.length < (a :: l).length:=by simp
    obtain ⟨a1,a2⟩:=C3 hN (a :: l) hk;have hm:wrap .i64 (((((map ey (a :: l))).length:Nat):Int) - 1)=(l.length:Int):=by
     rw [aac,abD,fA ⟨by omega,by simp at hp; omega⟩]; omega
    have hg:decide (((((map ey (a :: l))).length:Nat):Int) > 0)=true:=by rw [aac,abD]; exact decide_eq_true (by omega)
    have hb:below (a :: l) c=decide (I0 c < I0 (a :: l)[l.length]):=by
     unfold below;rw [List.getLast?_eq_getElem?];simp
    have ahs:SU N ((a :: l)[l.length].1,(a :: l)[l.length].2.1,(a :: l)[l.length].2.2.1,(a :: l)[l.length].2.2.2.1,(a :: l)[l.length].2.2.2.2)=_:=I2 hN _ (h _ (aa4 hk));rw [hm,hg,aae,a1,a2,hb,q60,ahs];rw [aO (by rw [aac]; exact hk)];rfl
  simp only [beq_self_eq_true,aad,cond_true];rw [acv,aab];cases hb:below p c with
  |true=>rfl
  |false=>
   simp only [cond_false,aab,bne_self_eq_false,qd,qe,aaf,cond_true,q44,ahr,qo,aac,aao,if_false];by_cases h9:∃ b∈bS c,b∈bH p
   ·rw [if_pos h9,if_pos h9]; rfl
   ·rw [if_neg h9,if_neg h9,fA ⟨by omega,by omega⟩];by_cases h4:(bH p).length+(bS c).length > 4096
    ·rw [if_pos h4,decide_eq_true (by omega)]; rfl
    ·rw [if_neg h4,decide_eq_false (by omega)]; rfl
 ·have Zn:(dz c == 0)=false:=beq_false_of_ne hc;have Gy:(dz c != 0)=true:=bne_iff_ne.2 hc;rw [if_neg hc,Zn];simp only [cond_false,aab,Gy,cond_true]
theorem TS (p:List bQ):T31 N p=some (gG p):=by
 rw [XL];unfold gG;rw [aac];by_cases hp:p.length > 256
 ·rw [if_pos hp,decide_eq_true (by omega)]; rfl
 ·rw [if_neg hp,decide_eq_false (by omega),cond_false];have key:=sF (rd:=zQ N p) (X:=Int ⊕ Unit) (C4 p) (fun k=>(k:Int)) (.inr ()) (fun x=>.inl x) (fun k=>∀ q∈p.take k,cP q=0) (fun k hk hP=>by
   rw [ls] at hk;obtain ⟨a1,a2⟩:=C3 hN p hk;have q:=E9 hN (p.take k) p[k] hP (by rw [aa5]; omega);have c1:decide ((0:Int)≤(k:Int)∧(k:Int)≤(p.length:Int))=true:=decide_eq_true (by omega);rw [C5 p hk];refine ⟨?_,fun e q hq=>?_⟩
   ·simp only [zQ,aac,aae,aX hk,aO hk,c1,a1,a2,Kt,aa2,qd,qe,aad,aaf,cond_true,aab,bp (show k < 9223372036854775807 by omega)];rw [show Hq N (p.take k,p[k].1,p[k].2.1,p[k].2.2.1,p[k].2.2.2.1,p[k].2.2.2.2)=_ from q,aab,N3];split <;> rfl
   ·rw [aa6,aaZ hk] at hq;rcases abT.1 hq with hq|hq
    ·exact hP q hq
    ·have:q=p[k]:=by simpa using hq
     subst this;exact mF (kx e).1) (fun _=>by
   rw [ls];simp only [zQ,aac,bL,cond_false]) N (by rw [ls]; unfold eE at hN; omega) (fun q hq=>by simp at hq)
  rw [show ay (zQ N p) N 0=_ from key,aab];by_cases h:aZ (C4 p)=0
  ·rw [if_pos h,h]; rfl
  ·rw [if_neg h]; rfl
end
end Go.Proofs.YtldcljfjjoidhaaGreatDoor
namespace Go.Proofs.YtldcljfjjoidhaaGreatDoor
open Go Go.Am Go.Sort
open List (map)
open Int (toNat)
open Go.IntKind (wrap)
open Go.Am.aP (fits)
set_option maxRecDepth 100000
abbrev ekB:EK:=.st (.cons 0 1 false .int (.cons 1 1 false .int (.cons 2 1 false .int .nil)))
abbrev nkB (b:dm):AV:=.agg [.int .i64 b.1,.int .i64 b.2.1,.int .i64 b.2.2]
theorem TT (a b:dm):Fs ekB (nkB a) (nkB b)=some (decide (a=b)):=by
 obtain ⟨a1,a2,a3⟩:=a;obtain ⟨b1,b2,b3⟩:=b;have e:lA ekB (nkB (a1,a2,a3)) (nkB (b1,b2,b3))=some ((a1 == b1)&&((a2 == b2)&&((a3 == b3)&&true))):=rfl;unfold Fs;rw [e];by_cases h1:a1=b1 <;> by_cases h2:a2=b2 <;> by_cases h3:a3=b3
 ·subst h1; subst h2; subst h3;simp [EK.wide,lJ,mJ,ph]
 all_goals simp [h1,h2,h3]
theorem au:il ekB nkB AV.bool zO where
 key:=TT
 pair:=fun _=>rfl
 exact:=fun _=>rfl
def cB (l:List dm):List (dm × Bool):=l.map fun b=>(b,true)
theorem Fa (l:List dm) (b:dm):(getM b (cB l)).getD false=decide (b∈l):=by
 unfold cB;rw [By];by_cases h:b∈l <;> simp [h]
theorem Fb (l:List dm) (b:dm) (h:b∉l):sw b true (cB l)=cB (l++[b]):=by
 have:getM b (cB l)=none:=by unfold cB; rw [By,if_neg h]
 rw [EP this];unfold cB;rw [aai];rfl
theorem BO (a b:Int × Int):min (iV a b).1 ((iV a b).1+(iV a b).2.2)=min a.1 b.1:=by
 unfold iV;split <;> (simp only; omega)
theorem OC (c:bQ) (i j:Nat) (h:eK c i=eK c j):i=j:=by
 have h1:=BO (aT c i) (aT c (i+1));have h2:=BO (aT c j) (aT c (j+1));unfold eK at h;rw [h,h2] at h1;unfold aT sg at h1;simp only at h1;cases hr:c.2.2.1
 ·simp only [hr,aao,if_false] at h1; omega
 ·simp only [hr,if_true] at h1; omega
theorem z6 (c:bQ) (k:Nat):eK c k∉cQ c k:=by
 intro h;obtain ⟨j,hj,e⟩:=List.mem_map.1 h;have:=OC c j k e;have:=List.mem_range.1 hj;omega
section
variable {N:Nat} (hN:eE N)
include hN
theorem OD (p:List bQ) (i:Nat) (c:bQ) (a:bF (ah (map iq p) i)=c) (acc:List dm) (u:Unit) (wM:Int) (q:bQ) (hc:cP c=0) (ha:acc.length≤1000000000) :
  ay (ni N p ((i:Int),cB acc,u,wM,q)) N (0,cB acc,(),wM,q.1,q.2.1,q.2.2.1,q.2.2.2.1,q.2.2.2.2,(),0,c.1,c.2.1,c.2.2.1,c.2.2.2.1,c.2.2.2.2) =
   some (if ∃ b∈bS c,b∈acc then .inl (cB acc,(),wM,q.1,q.2.1,q.2.2.1,q.2.2.2.1,q.2.2.2.2,(),9,c.1,c.2.1,c.2.2.1,c.2.2.2.1,c.2.2.2.2) else .inr (cB acc,(),wM,q.1,q.2.1,q.2.2.1,q.2.2.2.1,q.2.2.2.2,(),0,c.1,c.2.1,c.2.2.1,c.2.2.2.1,c.2.2.2.2)):=by
 obtain ⟨h1,h2,h3⟩:=dj hc;have ml:(bS c).length=c.2.2.2.2.toNat:=fC c _;have key:=sF (rd:=ni N p ((i:Int),cB acc,u,wM,q)) ((bS c).map fun x=>if x∈acc then (9:Int) else 0) (fun k=>((k:Int),cB acc,(),wM,q.1,q.2.1,q.2.2.1,q.2.2.2.1,q.2.2.2.2,(),0,c.1,c.2.1,c.2.2.1,c.2.2.2.1,c.2.2.2.2))
  (.inr (cB acc,(),wM,q.1,q.2.1,q.2.2.1,q.2.2.2.1,q.2.2.2.2,(),0,c.1,c.2.1,c.2.2.1,c.2.2.2.1,c.2.2.2.2)) (fun x=>.inl (cB acc,(),wM,q.1,q.2.1,q.2.2.1,q.2.2.2.1,q.2.2.2.2,(),x,c.1,c.2.1,c.2.2.1,c.2.2.2.1,c.2.2.2.2)) (fun _=>True) (fun k hk _=>by
  refine ⟨?_,fun _=>trivial⟩;rw [aac,ml] at hk;have cm:decide ((k:Int) < c.2.2.2.2)=true:=decide_eq_true (by omega);have t1:=dY N c k h1 (by omega);have t2:=dY N c (k+1) h1 (by omega);have q1:=eJ c hc k (by omega);have q2:=eJ c hc (k+1) (by omega);have eb:eK c k=iV (aT c k) (aT c (k+1)):=rfl;have el:((bS c).map fun x=>if x∈acc then (9:Int) else 0)[k]'(by rw [aac,ml]; exact hk)=if eK c k∈acc then (9:Int) else 0:=by simp [bS,cQ]
  rw [el];simp only [ni,oC,aae,a,cm,cond_true,t1,bp (show k < 9223372036854775807 by omega),t2,aab,beq_self_eq_true,aad];unfold iV at eb;have kk:=au.keys (eK c k) (cB acc);have kg:=au.getD (eK c k) false (cB acc);rw [Fa] at kg;generalize aT c k=x at *;generalize aT c (k+1)=y at *;by_cases wg:x.2 > y.2
  ·rw [if_pos wg] at eb;have w:wrap .i64 (x.1 - y.1)=x.1 - y.1:=fA ⟨by omega,by omega⟩;generalize eK c k=bb at *;subst eb;simp only [wg,decide_true,cond_true,au.cells,au.bg,av,aw,aad,aaf,aab,w,kk,kg];by_cases hm:(y.1,y.2,x.1 - y.1)∈acc
   ·simp only [hm,decide_true,if_true]; rfl
   ·simp only [hm,decide_false,if_false]; rfl
  ·rw [if_neg wg] at eb;have w:wrap .i64 (y.1 - x.1)=y.1 - x.1:=fA ⟨by omega,by omega⟩;generalize eK c k=bb at *;subst eb;simp only [wg,decide_false,cond_true,cond_false,au.cells,au.bg,av,aw,aad,aaf,aab,w,kk,kg];by_cases hm:(x.1,x.2,y.1 - x.1)∈acc
   ·simp only [hm,decide_true,if_true]; rfl
   ·simp only [hm,decide_false,if_false]; rfl) (fun _=>by
  rw [aac,ml];have lM:decide (((c.2.2.2.2.toNat:Nat):Int) < c.2.2.2.2)=false:=decide_eq_false (by omega);simp only [ni,oC,aae,a,lM,cond_false,au.cells,au.bg,av,aw,aad,aaf,cond_true,aab]) N (by rw [aac,ml]; unfold eE at hN; omega) trivial
 refine Eq.trans key (congrArg some ?_);rw [lr (fun x=>x∈acc) 9 (by decide) (bS c)];by_cases h:∃ b∈bS c,b∈acc
 ·rw [if_pos h,if_pos h]; rfl
 ·rw [if_neg h,if_neg h]; rfl
theorem TU (p:List bQ) (i:Nat) (c:bQ) (a:bF (ah (map iq p) i)=c) (acc:List dm) (v1:Int × (List (dm × Bool)) × Unit × Int × bQ) (hv:v1.1=(i:Int)) (wM:Int) (q:bQ) (e0:Int) (hc:cP c=0) (hn:∀ b∈bS c,b∉acc) :
  ay (lh N p v1) N (0,cB acc,(),wM,q.1,q.2.1,q.2.2.1,q.2.2.2.1,q.2.2.2.2,(),e0,c.1,c.2.1,c.2.2.1,c.2.2.2.1,c.2.2.2.2,c.1,c.2.1,c.2.2.1,c.2.2.2.1,c.2.2.2.2) =
   some (cB (acc++bS c),(),wM,q.1,q.2.1,q.2.2.1,q.2.2.2.1,q.2.2.2.2,(),e0,c.1,c.2.1,c.2.2.1,c.2.2.2.1,c.2.2.2.2,c.1,c.2.1,c.2.2.1,c.2.2.2.1,c.2.2.2.2):=by
 obtain ⟨h1,h2,h3⟩:=dj hc;have key:=cE (rd:=lh N p v1) c.2.2.2.2.toNat (fun k=>((k:Int),cB (acc++cQ c k),(),wM,q.1,q.2.1,q.2.2.1,q.2.2.2.1,q.2.2.2.2,(),e0,c.1,c.2.1,c.2.2.1,c.2.2.2.1,c.2.2.2.2,c.1,c.2.1,c.2.2.1,c.2.2.2.1,c.2.2.2.2))
  (cB (acc++bS c),(),wM,q.1,q.2.1,q.2.2.1,q.2.2.2.1,q.2.2.2.2,(),e0,c.1,c.2.1,c.2.2.1,c.2.2.2.1,c.2.2.2.2,c.1,c.2.1,c.2.2.1,c.2.2.2.1,c.2.2.2.2) (fun k hk=>by
  have cm:decide ((k:Int) < c.2.2.2.2)=true:=decide_eq_true (by omega);have t1:=dY N c k h1 (by omega);have t2:=dY N c (k+1) h1 (by omega);have q1:=eJ c hc k (by omega);have q2:=eJ c hc (k+1) (by omega);have eb:eK c k=iV (aT c k) (aT c (k+1)):=rfl;have mU:eK c k∉acc++cQ c k:=by
   intro h;rcases abT.1 h with h|h
   ·exact hn (eK c k) (List.mem_map.2 ⟨k,List.mem_range.2 hk,rfl⟩) h
   ·exact z6 c k h
  have es:acc++cQ c (k+1)=(acc++cQ c k)++[eK c k]:=by rw [lq,List.append_assoc]
  have kk:=au.keys (eK c k) (cB (acc++cQ c k));have kp:=au.put (eK c k) true (cB (acc++cQ c k));rw [Fb _ _ mU,← es] at kp;simp only [lh,me,jL,hv,aae,a,cm,cond_true,t1,bp (show k < 9223372036854775807 by omega),t2,aab,beq_self_eq_true,aad];clear mU;unfold iV at eb;generalize cB (acc++cQ c (k+1))=S' at *;generalize cB (acc++cQ c k)=S at *;clear es;generalize aT c k=x at *;generalize aT c (k+1)=y at *;by_cases wg:x.2 > y.2
  ·rw [if_pos wg] at eb;have w:wrap .i64 (x.1 - y.1)=x.1 - y.1:=fA ⟨by omega,by omega⟩;generalize eK c k=bb at *;subst eb;simp only [wg,decide_true,cond_true,au.cells,au.bg,av,aw,aad,aab,w,kk,kp]
  ·rw [if_neg wg] at eb;have w:wrap .i64 (y.1 - x.1)=y.1 - x.1:=fA ⟨by omega,by omega⟩;generalize eK c k=bb at *;subst eb;simp only [wg,decide_false,cond_true,cond_false,au.cells,au.bg,av,aw,aad,aab,w,kk,kp]) (by
  have lM:decide (((c.2.2.2.2.toNat:Nat):Int) < c.2.2.2.2)=false:=decide_eq_false (by omega);simp only [lh,me,jL,hv,aae,a,lM,cond_false,au.cells,au.bg,av,aw,aad,cond_true,aab];rfl) N 0 (aap _) (by unfold eE at hN; omega)
 have e0':acc++cQ c 0=acc:=by simp [cQ]
 rw [e0'] at key;exact key
end
end Go.Proofs.YtldcljfjjoidhaaGreatDoor
namespace Go.Proofs.YtldcljfjjoidhaaGreatDoor
open Go Go.Am Go.Sort
open List (map)
open Int (toNat)
open Go.IntKind (wrap)
open Go.Am.aP (fits)
set_option maxRecDepth 100000
theorem wh {V X:Type} {rd:V→Option (V ⊕ X)} (l:List Int) (E:Nat→V) (g:X→Int) (P:Nat→Prop)
  (h:∀ k (hk:k < l.length),P k→(l[k]=0→rd (E k)=some (.inl (E (k+1)))∧P (k+1))∧(l[k]≠0→∃ x,rd (E k)=some (.inr x)∧g x=l[k])) (h0:P l.length→∃ x,rd (E l.length)=some (.inr x)∧g x=0) :
  ∀ n k,k≤l.length→l.length < n+k→P k→∃ x,ay rd n (E k)=some x∧g x=aZ (l.drop k)
 |0,k,hk,hn,_=>by omega
 |n+1,k,hk,hn,hP=>by
  rw [bE];by_cases cm:k < l.length
  ·obtain ⟨h1,h2⟩:=h k cm hP;rw [List.drop_eq_getElem_cons cm,aZ];by_cases e:l[k]=0
   ·obtain ⟨r,hp⟩:=h1 e;rw [if_pos e,r];exact wh l E g P h h0 n (k+1) (by omega) (by omega) hp
   ·obtain ⟨x,r,gx⟩:=h2 e;rw [if_neg e,r];exact ⟨x,rfl,gx⟩
  ·have:k=l.length:=by omega
   subst this;obtain ⟨x,r,gx⟩:=h0 hP;rw [r,List.drop_eq_nil_of_le (Nat.le_refl _)];exact ⟨x,rfl,gx⟩
def qy (p:List bQ) (k:Nat):bQ:=(p.take k).getLast?.getD (0,0,false,false,0)
section
variable {N:Nat} (hN:eE N)
include hN
theorem tV (c:bQ) (h:cP c=0):uT N c=some (I0 c):=by
 obtain ⟨h1,h2,h3⟩:=dj h;have t:=dY N c 1 h1 (by omega);rw [SY,show qf N ((c.1,c.2.1,c.2.2.1,c.2.2.2.1,c.2.2.2.2),1)=_ from t,aab,beq_self_eq_true];simp only [aad,cond_true];congr 1;unfold aT sg I0;cases c.2.2.2.1
 ·simp; omega
 ·simp; omega
theorem BP (p:List bQ) (k:Nat) (hk:k < p.length):(p.take (k+1)).getLast?=some p[k]:=by
 have:p.take (k+1)=p.take k++[p[k]]:=by rw [aa6,aaZ hk]; rfl
 rw [this,List.getLast?_concat]
theorem OE (p:List bQ) (k:Nat) (hk:k < p.length) (hp:p.length≤256) (hP:∀ q∈p.take k,cP q=0) :
  oD N p ((k:Int),cB (bH (p.take k)),(),(k:Int),qy p k)=some (if jN (p.take k) p[k]=0 then .inl (((k+1:Nat):Int),cB (bH (p.take (k+1))),(),((k+1:Nat):Int),qy p (k+1)) else .inr (.inl (jN (p.take k) p[k],cB (bH (p.take k)),(),(k:Int),qy p k))):=by
 obtain ⟨a1,a2⟩:=HA hN p hk;have hl:=nF (p.take k) hP;rw [aa5,abS (abX hk)] at hl;have YS:qy p (k+1)=p[k]:=by
  unfold qy;rw [BP hN p k hk];rfl
 have Pl:k≠0→cP (qy p k)=0∧below (p.take k) p[k]=decide (I0 p[k] < I0 (qy p k)):=by
  intro h0;obtain ⟨j,rfl⟩:∃ j,k=j+1:=⟨k - 1,by omega⟩;have hj:j < p.length:=by omega
  have e:(p.take (j+1)).getLast?=some p[j]:=BP hN p j hj;unfold qy below;rw [e];refine ⟨hP _ ?_,rfl⟩;exact List.mem_of_getLast? e
 have Zn:k=0→below (p.take k) p[k]=false:=fun h=>by subst h; rfl
 rw [qZ p hk,YS];unfold jN;generalize qy p k=q at *;generalize p[k]=c at *;generalize p.take k=pk at *;have t80:Pt N (decide ((k:Int)≥256),5)=some 0:=by rw [qw,decide_eq_false (by omega)]; rfl
 have t108:Hg N (c.1,c.2.1,c.2.2.1,c.2.2.2.1,c.2.2.2.2)=some (dz c):=E5 hN c;have t78:Ps N [0,dz c]=some (dz c):=by
  rw [nD hN [0,dz c] (by simp)];show some (if (0:Int)=0 then (if dz c=0 then aZ [] else dz c) else 0)=some (dz c);rw [if_pos rfl];by_cases e:dz c=0
  ·rw [if_pos e,e]; rfl
  ·rw [if_neg e]
 have z2:(bif allFit (fits xh) [AV.int .i64 0,AV.int .i64 (dz c)] then some (map kj [AV.int .i64 0,AV.int .i64 (dz c)]) else none:Option ma)=some [0,dz c]:=rfl;have H11:dz c=0→(bif decide ((k:Int) > 0) then (uT N (c.1,c.2.1,c.2.2.1,c.2.2.2.1,c.2.2.2.2)).bind fun y7=>(uT N (q.1,q.2.1,q.2.2.1,q.2.2.2.1,q.2.2.2.2)).bind fun y8=>some (decide (y7 < y8),cB (bH pk),(),(k:Int),q.1,q.2.1,q.2.2.1,q.2.2.2.1,q.2.2.2.2,(),(0:Int)) else some (false,cB (bH pk),(),(k:Int),q.1,q.2.1,q.2.2.1,q.2.2.2.1,q.2.2.2.2,(),(0:Int)):Option (Bool × (List (dm × Bool)) × Unit × Int × Int × Int × Bool × Bool × Int × Unit × Int))=some (below pk c,cB (bH pk),(),(k:Int),q.1,q.2.1,q.2.2.1,q.2.2.2.1,q.2.2.2.2,(),(0:Int)):=fun hc=>by
  by_cases h0:k=0
  ·rw [Zn h0,decide_eq_false (by omega)]; rfl
  ·obtain ⟨e1,e2⟩:=Pl h0;rw [e2,decide_eq_true (by omega),show uT N (c.1,c.2.1,c.2.2.1,c.2.2.2.1,c.2.2.2.2)=_ from tV hN c (mF hc),show uT N (q.1,q.2.1,q.2.2.1,q.2.2.2.1,q.2.2.2.2)=_ from tV hN q e1];rfl
 by_cases hc:dz c=0
 ·have Cy:=mF hc;have Pj:=nE Cy;have hcn:=dj Cy;have mln:(bS c).length=c.2.2.2.2.toNat:=fC c _;have r1:=OD hN p k c a1 (bH pk) () (k:Int) q Cy (by omega);have Gy:(dz c != 0)=false:=by rw [hc]; rfl
  have YC:(aK (map zO (cB (bH pk)))).length=(bH pk).length:=by rw [au.ent]; simp [cB]
  simp only [if_pos hc];simp only [oD,qn,aac,aX hk,aO hk,aae,a1,a2,aad,aaf,cond_true,beq_self_eq_true,t80,t108,z2,t78,Gy,cond_false,au.cells,au.bg,av,aw,aab];rw [H11 hc];cases hbw:below pk c with
  |true=>rfl
  |false=>
   simp only [aab,cond_false,au.cells,au.bg,av,aw,aad,cond_true,r1,aao,if_false];by_cases h9:∃ b∈bS c,b∈bH pk
   ·simp only [if_pos h9,aab,abI,Sum.elim_inr,au.cells,au.bg,av,aw,aad,cond_true];rfl
   ·simp only [if_neg h9,aab,abI,Sum.elim_inr,au.cells,au.bg,av,aw,aad,cond_true,YC];have w:wrap .i64 (((bH pk).length:Int)+c.2.2.2.2)=(((bH pk).length+(bS c).length:Nat):Int):=by rw [fA ⟨by omega,by omega⟩]; omega
    have r2:=TU hN p k c a1 (bH pk) ((k:Int),cB (bH pk),(),(k:Int),q) rfl (k:Int) q 0 Cy (fun b hb hq=>h9 ⟨b,hb,hq⟩);rw [w];by_cases h4:(bH pk).length+(bS c).length > 4096
    ·rw [decide_eq_true (show (((bH pk).length+(bS c).length:Nat):Int) > 4096 by omega)];simp only [if_pos h4,aab,au.cells,au.bg,av,aw,aad,cond_true];rfl
    ·rw [decide_eq_false (show ¬ (((bH pk).length+(bS c).length:Nat):Int) > 4096 by omega)];simp only [if_neg h4,if_true,aab,au.cells,au.bg,av,aw,aad,cond_true,cond_false,r2,bp (show k < 9223372036854775807 by omega)];rfl
 ·have Gy:(dz c != 0)=true:=bne_iff_ne.2 hc;simp only [if_neg hc];simp only [oD,qn,aac,aX hk,aO hk,aae,a1,a2,aad,aaf,cond_true,beq_self_eq_true,t80,t108,z2,t78,Gy,au.cells,au.bg,av,aw,aab]
theorem I3 (p:List bQ):T48 N p=some (gG p):=by
 rw [XW];unfold gG;rw [aac];by_cases hp:p.length > 256
 ·rw [if_pos hp,decide_eq_true (by omega)]; rfl
 ·rw [if_neg hp,decide_eq_false (by omega),cond_false];have key:=wh (rd:=oD N p) (C4 p) (fun k=>((k:Int),cB (bH (p.take k)),(),(k:Int),qy p k)) (Sum.elim (fun o66=>o66.1) (fun _=>0)) (fun k=>∀ q∈p.take k,cP q=0) (fun k hk hP=>by
   rw [ls] at hk;have st:=OE hN p k hk (by omega) hP;rw [C5 p hk];refine ⟨fun e=>⟨?_,fun q hq=>?_⟩,fun e=>?_⟩
   ·rw [st,if_pos e]
   ·rw [aa6,aaZ hk] at hq;rcases abT.1 hq with hq|hq
    ·exact hP q hq
    ·have:q=p[k]:=by simpa using hq
     subst this;exact mF (kx e).1
   ·rw [st,if_neg e];exact ⟨_,rfl,rfl⟩) (fun _=>by
   rw [ls];refine ⟨.inr (cB (bH (p.take p.length)),(),(p.length:Int),qy p p.length),?_,rfl⟩;simp only [oD,qn,aac,bL,cond_false,au.cells,au.bg,av,aw,aad,cond_true,aab]) N 0 (aap _) (by rw [ls]; unfold eE at hN; omega) (fun q hq=>by simp at hq)
  obtain ⟨x,r,gx⟩:=key;rw [aa2] at gx;have r':ay (oD N p) N (0,([]:List (dm × Bool)),(),0,0,0,false,false,0)=some x:=r;have z:((bif (allFit (fits ap) (ab ([]:List (AV × AV)))&&true) then some (0,(map aL (ab ([]:List (AV × AV)))),(),0,0,0,false,false,0) else none:Option (Int × (List (XB × Bool)) × Unit × Int × Int × Int × Bool × Bool × Int)).bind fun fA=>bif (bg ([]:List (AV × AV))&&true) then some fA else none)=some (0,([]:List (dm × Bool)),(),0,0,0,false,false,0):=rfl;rw [z,aab,r',aab,← gx];cases x <;> rfl
end
end Go.Proofs.YtldcljfjjoidhaaGreatDoor
namespace Go.Proofs.YtldcljfjjoidhaaGreatDoor
open Go Go.Am
open List (map)
open Int (toNat)
open Go.IntKind (wrap)
open Go.Am.aP (fits)
set_option maxRecDepth 100000
def z7 (b:dm):Int × Int:=(wrap .i64 (b.1+b.2.2),wrap .i64 (b.2.1+1))
def Ai (b:dm):Int × Int:=(b.1,b.2.1)
theorem BQ (N:Nat) (b:dm):EL N b=some (b.1,b.2.1,z7 b):=by rw [ID]; rfl
theorem TV (N:Nat) (b:dm):S1 N b=some (Ai b):=by rw [S3]; rfl
theorem TW (N:Nat) (b:dm):S4 N b=some (z7 b):=by rw [S6]; rfl
theorem Ku (N:Nat) (b:dm):Og N b=some (b.1,b.2.1,z7 b):=by
 rw [S8];simp only [TV,TW,beq_self_eq_true,aad,cond_true,aab];rfl
def u0 (b:dm):Int:=if bf (Ai b)≠0 then bf (Ai b) else if b.2.2≠-1∧b.2.2≠1 then 13 else bf (z7 b)
theorem HC {N:Nat} (hN:eE N) (p:Int × Int):J7 N p=some (aZ [ov p.1 (-100000) 100000,ov p.2 (-100000) 100000]):=by
 rw [IB];simp only [E3,aab,beq_self_eq_true,aad,cond_true];rw [BL];simp only [aab];rw [jl hN _ (by simp)];rfl
theorem OF (b:dm) (h0:bf (Ai b)=0) (h1:b.2.2=-1∨b.2.2=1):aZ [ov (z7 b).1 (-100000) 100000,ov (z7 b).2 (-100000) 100000]=bf (z7 b):=by
 unfold bf Ai at h0;simp only at h0;split at h0
 ·cases h0
 ·rename_i hr;split at h0
  ·rename_i hp;have e1:(z7 b).1=b.1+b.2.2:=fA (by omega);have e2:(z7 b).2=b.2.1+1:=fA (by omega);unfold bf;rw [e1,e2];have hp2:(b.1+b.2.2+(b.2.1+1)) % 2=0:=by omega
   rw [if_pos hp2];unfold ov;simp only [aZ];by_cases c1:b.1+b.2.2 < -100000∨b.1+b.2.2 > 100000
   ·have c:b.1+b.2.2 < -100000∨b.1+b.2.2 > 100000∨b.2.1+1 < -100000∨b.2.1+1 > 100000:=by omega
    rw [if_pos c,if_pos c1]; rfl
   ·rw [if_neg c1];by_cases c2:b.2.1+1 < -100000∨b.2.1+1 > 100000
    ·have c:b.1+b.2.2 < -100000∨b.1+b.2.2 > 100000∨b.2.1+1 < -100000∨b.2.1+1 > 100000:=by omega
     rw [if_pos c,if_pos c2]; rfl
    ·have c:¬ (b.1+b.2.2 < -100000∨b.1+b.2.2 > 100000∨b.2.1+1 < -100000∨b.2.1+1 > 100000):=by omega
     rw [if_neg c,if_neg c2]; rfl
  ·cases h0
theorem OG {N:Nat} (hN:eE N) (b:dm):Nq N b=some (u0 b):=by
 rw [RU];have q1:EJ N (b.1,b.2.1)=some (bf (Ai b)):=uZ hN _;simp only [q1,kw,aab,beq_self_eq_true,aad,cond_true,BQ];have q2:∀ s t:Bool,((bif s then ((bif allFit (fits xh) [AV.int .i64 (bf (Ai b)),AV.int .i64 (if t=true then 13 else 0)]&&true then some (map kj [AV.int .i64 (bf (Ai b)),AV.int .i64 (if t=true then 13 else 0)]) else none:Option ma).bind fun x=>(wJ N x).bind fun y=>some y) else ((bif allFit (fits xh) [AV.int .i64 (bf (Ai b)),AV.int .i64 (if false=true then 13 else 0)]&&true then some (map kj [AV.int .i64 (bf (Ai b)),AV.int .i64 (if false=true then 13 else 0)]) else none:Option ma).bind fun x=>(wJ N x).bind fun y=>some y)):Option Int)=some (aZ [bf (Ai b),if s&&t then 13 else 0]):=fun s t=>by
  rw [BL,BL];simp only [aab];rw [jl hN _ (by simp),jl hN _ (by simp)];cases s <;> cases t <;> rfl
 rw [q2,aab];have q3:J7 N ((z7 b).1,(z7 b).2)=_:=HC hN (z7 b);unfold u0;simp only [aZ];by_cases h0:bf (Ai b)=0
 ·by_cases h1:b.2.2=-1∨b.2.2=1
  ·have hb:(b.2.2 != -1&&b.2.2 != 1)=false:=by rcases h1 with h | h <;> rw [h] <;> rfl
   rw [hb];have hn:¬ (b.2.2≠-1∧b.2.2≠1):=by omega
   rw [if_pos h0,if_neg (show ¬ bf (Ai b)≠0 from fun c=>c h0),if_neg hn,← OF b h0 h1];simp only [aao,if_false,if_true,bne_self_eq_false,cond_false,q3,aab]
  ·have hb:(b.2.2 != -1&&b.2.2 != 1)=true:=by
    rw [Bool.and_eq_true]; exact ⟨bne_iff_ne.2 (by omega),bne_iff_ne.2 (by omega)⟩
   have hn:b.2.2≠-1∧b.2.2≠1:=by omega
   rw [hb,if_pos h0,if_neg (show ¬ bf (Ai b)≠0 from fun c=>c h0),if_pos hn];rfl
 ·have hb:(bf (Ai b) != 0)=true:=bne_iff_ne.2 h0;rw [if_neg h0,if_pos h0,hb];rfl
def less (a b:dm):Bool:=if a.2.1≠b.2.1 then decide (a.2.1 < b.2.1) else if a.1≠b.1 then decide (a.1 < b.1) else decide (a.2.2 < b.2.2)
theorem Kv (N:Nat) (a b:dm):Zj N (a,b)=some (less a b):=by
 rw [Oh];unfold less;by_cases h1:a.2.1=b.2.1
 ·by_cases h2:a.1=b.1
  ·simp [h1,h2]
  ·have hb:(a.1 != b.1)=true:=bne_iff_ne.2 h2;simp [h1,h2,hb]
 ·have hb:(a.2.1 != b.2.1)=true:=bne_iff_ne.2 h1;simp [h1,hb]
def Kw (a b:Int):Int:=if a < b then -1 else if a > b then 1 else 0
theorem TX (N:Nat) (a b:Int):J8 N (a,b)=some (Kw a b):=by
 rw [R6];simp only [R4,bne_self_eq_false,aab,cond_false];unfold Kw;by_cases h1:a < b
 ·simp [h1]
 ·by_cases h2:a > b <;> simp [h1,h2]
theorem HD {N:Nat} (hN:eE N) (l:List Int) (hl:l.length≤9223372036854775806):RV N l=some (aZ l):=by
 obtain ⟨o,h1,h2⟩:=ow (rd:=xm N l) l (fun k hk=>by
  have hd:=gO p0 l k hk;have e1:gP (ah (map p0 l) k)=l[k]:=by rw [hd]; rfl
  have e2:fits p3 (ah (map p0 l) k)=true:=by rw [hd]; rfl
  simp only [xm,aac,aae,e1,e2,bp (show k < 9223372036854775807 by omega),aX hk,aO hk,aad,cond_true];by_cases hz:l[k]=0
  ·simp [hz]
  ·simp [hz,aa3]) (by simp only [xm,aac,bL,cond_false]) N (by unfold eE at hN; omega)
 rw [RX,h1,aab];rcases o with o|o
 ·simpa using h2
 ·simpa using h2
def YD (a b:dm):Int:=aZ [Kw a.2.1 b.2.1,Kw a.1 b.1,Kw a.2.2 b.2.2]
theorem OH {N:Nat} (hN:eE N) (a b:dm):Nr N (a,b)=some (YD a b):=by
 rw [R8];simp only [TX,aab,beq_self_eq_true,aad,cond_true];have h3:∀ x y z:Int,((bif allFit (fits p3) [AV.int .i64 x,AV.int .i64 y,AV.int .i64 z]&&true then some (map gP [AV.int .i64 x,AV.int .i64 y,AV.int .i64 z]) else none:Option ma))=some [x,y,z]:=fun x y z=>rfl
 rw [h3];simp only [aab];rw [HD hN _ (by simp)];rfl
theorem Kx (a b:dm):decide (YD a b≥0)=!less a b:=by
 unfold YD less Kw;simp only [aZ];by_cases h1:a.2.1 < b.2.1
 ·have:a.2.1≠b.2.1:=by omega
  simp [h1,this]
 ·by_cases h2:a.2.1 > b.2.1
  ·have:a.2.1≠b.2.1:=by omega
   simp [h1,h2,this]
  ·have:a.2.1=b.2.1:=by omega
   simp only [h1,h2,this,if_false,if_true,ne_eq,not_true_eq_false];by_cases h3:a.1 < b.1
   ·have:a.1≠b.1:=by omega
    simp [h3,this]
   ·by_cases h4:a.1 > b.1
    ·have:a.1≠b.1:=by omega
     simp [h3,h4,this]
    ·have:a.1=b.1:=by omega
     simp only [this,if_false,if_true,not_true_eq_false,Int.lt_irrefl,gt_iff_lt];by_cases h5:a.2.2 < b.2.2
     ·simp [h5]
     ·by_cases h6:b.2.2 < a.2.2 <;> simp [h5,h6]
def TY (l:List dm) (k:Nat):Int:=if u0 (l.getD k (0,0,0))≠0 then u0 (l.getD k (0,0,0)) else if 0 < k∧less (l.getD (k - 1) (0,0,0)) (l.getD k (0,0,0))=false then 11 else 0
def OI (l:List dm):Int:=if l.length > 4096 then 5 else aZ ((aa0 l.length).map (TY l))
theorem TZ {N:Nat} (hN:eE N) (l:List dm):WR N l=some (OI l):=by
 rw [WS];simp only [aac];unfold OI;by_cases h:l.length > 4096
 ·have h':(l.length:Int) > 4096:=by omega
  simp [h,h']
 ·have h':¬ (l.length:Int) > 4096:=by omega
  have key:=jJ (rd:=zw N l) ((aa0 l.length).map (TY l)) (fun k hk=>by
   have hk:k < l.length:=by simpa using hk
   obtain ⟨a1,a2⟩:=qc l hk;rw [List.getElem_map,List.getElem_range];have e1:l.getD k (0,0,0)=l[k]:=by simp [hk]
   unfold TY;rw [e1];have q1:Nq N (l[k].1,l[k].2.1,l[k].2.2)=_:=OG hN l[k];have two:∀ x y:Int,((bif allFit (fits xh) [AV.int .i64 x,AV.int .i64 y]&&true then some (map kj [AV.int .i64 x,AV.int .i64 y]) else none:Option ma))=some [x,y]:=fun x y=>rfl
   have q5:∀ x y:Int,wJ N [x,y]=some (aZ [x,y]):=fun x y=>jl hN _ (by simp)
   by_cases Dt:k=0
   ·subst Dt;simp only [zw,aac,aae,a1,a2,aX hk,aO hk,aad,cond_true,q1,aab,two,q5,kw,bp (show 0 < 9223372036854775807 by omega),show decide (((0:Nat):Int) > 0)=false from rfl,cond_false];by_cases h0:u0 l[0]=0
    ·simp [h0,aZ]
    ·have hb:(u0 l[0] != 0)=true:=bne_iff_ne.2 h0;simp [h0,hb,aZ]
   ·have Oc:k - 1 < l.length:=by omega
    obtain ⟨b1,b2⟩:=qc l Oc;have e2:l.getD (k - 1) (0,0,0)=l[k - 1]:=by simp [Oc]
    rw [e2];have ew:wrap .i64 ((k:Int) - 1)=((k - 1:Nat):Int):=by rw [fA (by omega)]; omega
    have em:(if ((k - 1:Nat):Int) > 0 then ((k - 1:Nat):Int) else 0)=((k - 1:Nat):Int):=by split <;> omega
    have hp:decide ((k:Int) > 0)=true:=decide_eq_true (by omega);have q2:Nr N ((l[k - 1].1,l[k - 1].2.1,l[k - 1].2.2),(l[k].1,l[k].2.1,l[k].2.2))=_:=OH hN l[k - 1] l[k];simp only [zw,aac,aae,a1,a2,aX hk,aO hk,aad,cond_true,q1,aab,hp,ew,em,b1,b2,aO Oc,q2,kw,Kx,two,q5,bp (show k < 9223372036854775807 by omega)];by_cases h0:u0 l[k]=0
    ·cases less l[k - 1] l[k] with
     |true=>simp [h0,aZ]
     |false=>simp [h0,aZ,show 0 < k by omega]
    ·have hb:(u0 l[k] != 0)=true:=bne_iff_ne.2 h0;simp [h0,hb,aZ]) (by
   rw [aac,aa7];simp only [zw,aac,bL,cond_false]) N (by unfold eE at hN; rw [aac,aa7]; omega)
  rw [if_neg h];simp only [h',decide_false,cond_false,key,aab];split <;> simp_all
end Go.Proofs.YtldcljfjjoidhaaGreatDoor
