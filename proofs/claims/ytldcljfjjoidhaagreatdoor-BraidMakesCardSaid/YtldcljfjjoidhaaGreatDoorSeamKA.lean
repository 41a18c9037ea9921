/- Plain laws: knots,courses,their checks and walks. -/
import Derived.Test.YtldcljfjjoidhaaGreatDoorBraT
import Derived.Test.YtldcljfjjoidhaaGreatDoorAmKK
import Derived.Test.YtldcljfjjoidhaaGreatDoorAmKL
set_option linter.all false
open BitVec renaming ofInt→aaB, toNat_ofInt→abj
open Bool renaming and_self→aau, cond_eq_ite→abi
open Int renaming toNat_natCast→aaY
open List renaming length_map→aao
open Nat renaming mod_two_eq_zero_or_one→aaO
open Option renaming bind_some→aad
namespace Go.Proofs.YtldcljfjjoidhaaGreatDoor
open Go Go.Am
open List (map)
open Int (toNat)
open Go.IntKind (wrap)
open Go.Am.aO (fits)
set_option maxRecDepth 100000
theorem IZ (n:Nat) (h:n < 18446744073709551616):(aaB 64 (wrap .i64 (n:Int))).toNat=n:=by
 rw [abj,IntKind.wrap_i64];omega
theorem aid (a b:Nat):(a ^^^ b) % 2=(a+b) % 2:=by
 have h:=Nat.xor_mod_two_pow (a:=a) (b:=b) (n:=1);rw [Nat.pow_one] at h;rw [h];rcases aaO a with ha|ha <;> rcases aaO b with hb|hb <;> rw [ha,hb] <;> simp <;> omega
theorem Z2 (x y:Int):(BE .i64 (KR .i64 x y) 1 != 0)=decide ((x+y) % 2≠0):=by
 have h1:(aaB 64 x ^^^ aaB 64 y).toNat < 18446744073709551616:=(aaB 64 x ^^^ aaB 64 y).isLt;have h2:(aaB 64 1).toNat=1:=by decide
 have h3:BE .i64 (KR .i64 x y) 1=wrap .i64 ((((aaB 64 x ^^^ aaB 64 y).toNat % 2:Nat)):Int):=by
  show wrap .i64 (((aaB 64 (wrap .i64 (((aaB 64 x ^^^ aaB 64 y).toNat:Nat):Int)) &&& aaB 64 1).toNat:Nat):Int)=_;rw [BitVec.toNat_and,IZ _ h1,h2,Nat.and_one_is_mod]
 rw [h3,fT (by omega),BitVec.toNat_xor,aid,abj,abj];have e:((((x % ((2 ^ 64:Nat):Int)).toNat+(y % ((2 ^ 64:Nat):Int)).toNat) % 2:Nat):Int)=(x+y) % 2:=by omega
 rw [e];by_cases h:(x+y) % 2=0 <;> simp [h]
def aK (p:Int × Int):Int:=if p.1 < -100000∨p.1 > 100000∨p.2 < -100000∨p.2 > 100000 then 3 else if (p.1+p.2) % 2=0 then 0 else 14
theorem kl {N:Nat} (hN:fC N) (l:List Int) (hl:l.length≤9223372036854775806):xZ N l=some (aU l):=by
 obtain ⟨o,h1,h2⟩:=pI (rd:=yF N l) l (fun k hk=>by
  have hd:=gd IR l k hk;have e1:kN (ae (map IR l) k)=l[k]:=by rw [hd]; rfl
  have e2:fits xq (ae (map IR l) k)=true:=by rw [hd]; rfl
  simp only [yF,aao,aaY,e1,e2,bw (show k < 9223372036854775807 by omega),a7 hk,ay hk,aau,cond_true];by_cases hz:l[k]=0
  ·simp [hz]
  ·simp [hz,abi]) (by simp only [yF,aao,bO,cond_false]) N (by unfold fC at hN; omega)
 rw [Ud,h1,aad];rcases o with o|o
 ·simpa using h2
 ·simpa using h2
theorem oD {N:Nat} (hN:fC N) (l:List Int) (hl:l.length≤9223372036854775806):US N l=some (aU l):=by
 obtain ⟨o,h1,h2⟩:=pI (rd:=Es N l) l (fun k hk=>by
  have hd:=gd IR l k hk;have e1:kN (ae (map IR l) k)=l[k]:=by rw [hd]; rfl
  have e2:fits xq (ae (map IR l) k)=true:=by rw [hd]; rfl
  simp only [Es,aao,aaY,e1,e2,bw (show k < 9223372036854775807 by omega),a7 hk,ay hk,aau,cond_true];by_cases hz:l[k]=0
  ·simp [hz]
  ·simp [hz,abi]) (by simp only [Es,aao,bO,cond_false]) N (by unfold fC at hN; omega)
 rw [ZL,h1,aad];rcases o with o|o
 ·simpa using h2
 ·simpa using h2
theorem LU {N:Nat} (hN:fC N) (l:List Int) (hl:l.length≤9223372036854775806):T32 N l=some (aU l):=by
 obtain ⟨o,h1,h2⟩:=pI (rd:=Et N l) l (fun k hk=>by
  have hd:=gd lS l k hk;have e1:gD (ae (map lS l) k)=l[k]:=by rw [hd]; rfl
  have e2:fits p3 (ae (map lS l) k)=true:=by rw [hd]; rfl
  simp only [Et,aao,aaY,e1,e2,bw (show k < 9223372036854775807 by omega),a7 hk,ay hk,aau,cond_true];by_cases hz:l[k]=0
  ·simp [hz]
  ·simp [hz,abi]) (by simp only [Et,aao,bO,cond_false]) N (by unfold fC at hN; omega)
 rw [ZQ,h1,aad];rcases o with o|o
 ·simpa using h2
 ·simpa using h2
theorem CZ (x y:Int):((bif allFit (fits xq) [AV.int .i64 x,AV.int .i64 y]&&true then some (map kN [AV.int .i64 x,AV.int .i64 y]) else none:Option kM))=some [x,y]:=rfl
theorem aie (x y:Int):((bif allFit (fits p3) [AV.int .i64 x,AV.int .i64 y]&&true then some (map gD [AV.int .i64 x,AV.int .i64 y]) else none:Option kM))=some [x,y]:=rfl
theorem lT (N:Nat) (b:Bool) (e:Int):BZ N (b,e)=some (if b then e else 0):=by rw [Ue]; cases b <;> rfl
theorem mD (N:Nat) (b:Bool) (e:Int):Pq N (b,e)=some (if b then e else 0):=by rw [ZM]; cases b <;> rfl
theorem Gz (N:Nat) (n lo hi:Int):OZ N (n,lo,hi)=some (EU n lo hi):=by
 rw [Ug,lT,lT];unfold EU;by_cases h1:n < lo
 ·simp [h1]
 ·by_cases h2:n > hi <;> simp [h1,h2]
theorem U9 (N:Nat) (n lo hi:Int):T90 N (n,lo,hi)=some (EU n lo hi):=by
 rw [ZO,mD,mD];unfold EU;by_cases h1:n < lo
 ·simp [h1]
 ·by_cases h2:n > hi <;> simp [h1,h2]
theorem Va (N:Nat) (n lo hi:Int):T33 N (n,lo,hi)=some (EU n lo hi):=by
 rw [ZS];unfold EU;by_cases h1:n < lo
 ·simp [h1]
 ·by_cases h2:n > hi <;> simp [h1,h2]
theorem vS {N:Nat} (hN:fC N) (p:Int × Int):Gk N p=some (aK p):=by
 rw [Uh,J5];simp only [Gz,aad,beq_self_eq_true,aau,cond_true];rw [CZ];simp only [aad];rw [kl hN _ (by simp)];simp only [aad,lT,Z2];rw [CZ];simp only [aad];rw [kl hN _ (by simp)];simp only [aad];congr 1;unfold aK EU;simp only [aU];by_cases h1:p.1 < -100000∨p.1 > 100000
 ·have h:p.1 < -100000∨p.1 > 100000∨p.2 < -100000∨p.2 > 100000:=by omega
  simp [h,h1]
 ·by_cases h2:p.2 < -100000∨p.2 > 100000
  ·have h:p.1 < -100000∨p.1 > 100000∨p.2 < -100000∨p.2 > 100000:=by omega
   simp [h,h1,h2]
  ·have h:¬ (p.1 < -100000∨p.1 > 100000∨p.2 < -100000∨p.2 > 100000):=by omega
   by_cases h3:(p.1+p.2) % 2=0 <;> simp [h,h1,h2,h3]
theorem oE (N:Nat) (p:Int × Int):vQ N p=some (aK p):=by
 rw [U6,Kg,Kg,U4];unfold aK;by_cases h:p.1 < -100000∨p.1 > 100000∨p.2 < -100000∨p.2 > 100000
 ·rw [if_pos h];by_cases h1:p.1 < -100000 <;> by_cases h2:p.1 > 100000 <;> by_cases h3:p.2 < -100000 <;> by_cases h4:p.2 > 100000 <;> simp [h1,h2,h3,h4] <;> omega
 ·rw [if_neg h];have h1:¬ p.1 < -100000:=by omega
  have h2:¬ p.1 > 100000:=by omega
  have h3:¬ p.2 < -100000:=by omega
  have h4:¬ p.2 > 100000:=by omega
  rw [fT (x:=p.1+p.2) (by omega)];have e:((Int.tmod (p.1+p.2) 2) == 0)=decide ((p.1+p.2) % 2=0):=by
   by_cases h5:(p.1+p.2) % 2=0
   ·have:Int.tmod (p.1+p.2) 2=0:=Int.tmod_eq_zero_of_dvd (Int.dvd_of_emod_eq_zero h5);simp [h5,this]
   ·have:Int.tmod (p.1+p.2) 2≠0:=fun e=>h5 (Int.emod_eq_zero_of_dvd (Int.dvd_of_tmod_eq_zero e))
    simp [h5,this]
  rw [e];by_cases h5:(p.1+p.2) % 2=0 <;> simp [h1,h2,h3,h4,h5]
abbrev cQ:=Int × Int × Bool × Bool × Int
def sg (b:Bool):Int:=if b then 1 else -1
def au (c:cQ) (i:Nat):Int × Int:=(c.1+(i:Int) * sg c.2.2.1,c.2.1+((i % 2:Nat):Int) * sg c.2.2.2.1)
def b8 (c:cQ) (k:Nat):List XA:=(List.range k).map (au c)
theorem fy (c:cQ) (k:Nat):(b8 c k).length=k:=by simp [b8]
theorem GA (c:cQ) (k:Nat):b8 c (k+1)=b8 c k++[au c k]:=by unfold b8; rw [List.range_succ,List.map_append]; rfl
theorem eO {p:Int × Int} (h:aK p=0):-100000≤p.1∧p.1≤100000∧-100000≤p.2∧p.2≤100000:=by
 unfold aK at h;split at h
 ·cases h
 ·omega
theorem iC (N:Nat) (c:cQ) (i:Nat) (h:aK (c.1,c.2.1)=0) (hi:i≤100000):vP N ((c.1,c.2.1,c.2.2.1,c.2.2.2.1,c.2.2.2.2),(i:Int))=some (au c i):=by
 have hk:=eO h;simp only at hk;have t2:Int.tmod (i:Int) 2=((i % 2:Nat):Int):=rfl;rw [UW,Kd,Kd];obtain ⟨x,y,r,u,n⟩:=c;simp only at hk ⊢;have hm:0≤((i % 2:Nat):Int)∧((i % 2:Nat):Int) < 2:=by omega
 cases r <;> cases u
 all_goals simp only [cond_true,cond_false,aad,beq_self_eq_true,aau,t2,au,sg,if_true,Bool.false_eq_true,if_false,Int.mul_one,Int.mul_neg]
 all_goals (generalize ((i % 2:Nat):Int)=q at *)
 all_goals (have a1:wrap .i64 (i:Int)=i:=fT ⟨by omega,by omega⟩)
 all_goals (have a2:wrap .i64 (-(i:Int))=-i:=fT ⟨by omega,by omega⟩)
 all_goals (have a3:wrap .i64 q=q:=fT ⟨by omega,by omega⟩)
 all_goals (have a4:wrap .i64 (-q)=-q:=fT ⟨by omega,by omega⟩)
 all_goals (simp only [a1,a2,a3,a4])
 all_goals (rw [fT ⟨by omega,by omega⟩,fT ⟨by omega,by omega⟩])
def dJ (c:cQ):Int:=aU [aK (c.1,c.2.1),EU c.2.2.2.2 1 512]
def gU (c:cQ):Int:=if dJ c=0 then aU ((b8 c (c.2.2.2.2.toNat+1)).map aK) else dJ c
theorem fL {c:cQ} (h:dJ c=0):aK (c.1,c.2.1)=0∧1≤c.2.2.2.2∧c.2.2.2.2≤512:=by
 have h:=dz.1 h;refine ⟨h _ (by simp),?_⟩;have:=h (EU c.2.2.2.2 1 512) (by simp);unfold EU at this;split at this
 ·cases this
 ·omega
section
variable {N:Nat} (hN:fC N)
include hN
theorem Pz (c:cQ):Pr N c=some (gU c):=by
 rw [UY];simp only [vS hN,aad,beq_self_eq_true,aau,cond_true,U9];rw [CZ];simp only [aad];rw [oD hN _ (by simp)];simp only [aad];have e1:aU [aK (c.1,c.2.1),EU c.2.2.2.2 1 512]=dJ c:=rfl;rw [e1];unfold gU;by_cases h:dJ c=0
 ·obtain ⟨h1,h2,h3⟩:=fL h;have key:=jz (rd:=yJ N c) ((b8 c (c.2.2.2.2.toNat+1)).map aK) (fun k hk=>by
   rw [aao,fy] at hk;have bY:decide ((k:Int) < wrap .i64 (c.2.2.2.2+1))=true:=by rw [fT ⟨by omega,by omega⟩]; exact decide_eq_true (by omega)
   have q:=iC N c k h1 (by omega);have eg:((b8 c (c.2.2.2.2.toNat+1)).map aK)[k]'(by rw [aao,fy]; exact hk)=aK (au c k):=by simp [b8]
   rw [eg];have q2:Gk N ((au c k).1,(au c k).2)=some (aK (au c k)):=vS hN (au c k);simp only [yJ,bY,cond_true,q,aad,q2,bw (show k < 9223372036854775807 by omega)];by_cases hz:aK (au c k)=0
   ·simp [hz]
   ·simp [hz,abi]) (by
   rw [aao,fy];have oP:decide (((c.2.2.2.2.toNat+1:Nat):Int) < wrap .i64 (c.2.2.2.2+1))=false:=by rw [fT ⟨by omega,by omega⟩]; exact decide_eq_false (by omega)
   simp only [yJ,oP,cond_false]) N (by rw [aao,fy]; unfold fC at hN; omega)
  rw [h,key];simp only [bne_self_eq_false,cond_false,aad,if_true];by_cases hz:aU ((b8 c (c.2.2.2.2.toNat+1)).map aK)=0
  ·rw [if_pos hz,hz]; rfl
  ·rw [if_neg hz]; rfl
 ·have hb:(dJ c != 0)=true:=bne_iff_ne.2 h;rw [hb,cond_true,if_neg h]
theorem Z3 (l:List XA) (p:Int × Int):map oC l++[AV.agg [AV.int .i64 p.1,AV.int .i64 p.2]]=map oC (l++[p]):=by rw [List.map_append]; rfl
theorem Vb (l:List XA) {k:Nat} (hk:k < l.length):to (ae (map oC l) k)=l[k]∧fits gk (ae (map oC l) k)=true:=by
 rw [gd oC l k hk,ahy,ahx]; exact ⟨rfl,rfl⟩
theorem ra (c:cQ) (h:dJ c=0):su N c=some (au c c.2.2.2.2.toNat):=by
 obtain ⟨h1,h2,h3⟩:=fL h;have q:=iC N c c.2.2.2.2.toNat h1 (by omega);rw [show ((c.2.2.2.2.toNat:Nat):Int)=c.2.2.2.2 by omega] at q;rw [UZ,q];rfl
end
end Go.Proofs.YtldcljfjjoidhaaGreatDoor
namespace Go.Proofs.YtldcljfjjoidhaaGreatDoor
open Go Go.Am
open List (map)
open Int (toNat)
open Go.IntKind (wrap)
open Go.Am.aO (fits)
set_option maxRecDepth 100000
section
variable {N:Nat} (hN:fC N)
include hN
theorem AY (c:cQ) (h:dJ c=0):U0 N c=some (b8 c (c.2.2.2.2.toNat+1)):=by
 obtain ⟨h1,h2,h3⟩:=fL h;have Co:=eO h1;simp only at Co;have key:=cU (rd:=uK N c) c.2.2.2.2.toNat (fun k=>(b8 c (k+1),(if k % 2=0 then c.2.2.2.1 else !c.2.2.2.1),(k:Int),(au c k).1,(au c k).2)) (b8 c (c.2.2.2.2.toNat+1),(au c c.2.2.2.2.toNat).1,(au c c.2.2.2.2.toNat).2) (fun k hk=>by
  have bY:decide ((k:Int) < c.2.2.2.2)=true:=decide_eq_true (by omega);have hl:(b8 c (k+1)++[au c (k+1)]).length=k+1+1:=by rw [List.length_append,fy]; rfl
  have hb:decide ((k+1+1) * 16≤140737488355328)=true:=decide_eq_true (by omega);have ek:au c (k+1)=((if c.2.2.1=true then (au c k).1+1 else (au c k).1 - 1),(if (if k % 2=0 then c.2.2.2.1 else !c.2.2.2.1)=true then (au c k).2+1 else (au c k).2 - 1)):=by
   obtain ⟨x,y,r,u,n⟩:=c;unfold au sg;rcases aaO k with hm|hm
   ·have PA:(k+1) % 2=1:=by omega
    simp only [hm,PA,if_true];refine Prod.ext ?_ ?_
    ·cases r <;> simp <;> omega
    ·cases u <;> simp <;> omega
   ·have PA:(k+1) % 2=0:=by omega
    simp only [hm,PA,show ¬ (1=0) from by decide,if_false];refine Prod.ext ?_ ?_
    ·cases r <;> simp <;> omega
    ·cases u <;> simp <;> omega
  have hk5:(k:Int) < 512:=by omega
  have amd:-200000≤(au c k).1∧(au c k).1≤200000∧-200000≤(au c k).2∧(au c k).2≤200000:=by
   obtain ⟨x,y,r,u,n⟩:=c;simp only at Co h3;have hm:((k % 2:Nat):Int) < 2:=by omega
   unfold au sg;cases r <;> cases u <;> simp <;> omega
  have hup:(if (k+1) % 2=0 then c.2.2.2.1 else !c.2.2.2.1)=!(if k % 2=0 then c.2.2.2.1 else !c.2.2.2.1):=by
   rcases aaO k with hm|hm
   ·have PA:(k+1) % 2=1:=by omega
    simp [hm,PA]
   ·have PA:(k+1) % 2=0:=by omega
    simp [hm,PA]
  have e2:b8 c (k+1+1)=b8 c (k+1)++[au c (k+1)]:=GA c (k+1);rw [e2,hup];rw [ek] at hl ⊢;generalize (if k % 2=0 then c.2.2.2.1 else !c.2.2.2.1)=up at *;generalize au c k=q at *;have wa:wrap .i64 (q.1+1)=q.1+1:=fT ⟨by omega,by omega⟩;have wb:wrap .i64 (q.1 - 1)=q.1 - 1:=fT ⟨by omega,by omega⟩;have wc:wrap .i64 (q.2+1)=q.2+1:=fT ⟨by omega,by omega⟩;have wd:wrap .i64 (q.2 - 1)=q.2 - 1:=fT ⟨by omega,by omega⟩;have sn:=fun a b:Int=>Z3 hN (b8 c (k+1)) (a,b)
  simp only at sn;cases hr:c.2.2.1 <;> cases up
  all_goals simp only [hr,if_true,Bool.false_eq_true,if_false] at hl ⊢
  all_goals simp only [uK,bY,hr,cond_true,cond_false,Zg,Zh,aau,aao,decide_true,aad,wa,wb,wc,wd,fy,hb,sn,hl,Bool.not_true,Bool.not_false,bw (show k < 9223372036854775807 by omega)]) (by
  have oP:decide (((c.2.2.2.2.toNat:Nat):Int) < c.2.2.2.2)=false:=decide_eq_false (by omega);simp only [uK,oP,cond_false,Zg,Zh,aau,aao,decide_true,cond_true,aad]) N 0 (Nat.zero_le _) (by unfold fC at hN; omega)
 have k0:b8 c 1=[(c.1,c.2.1)]:=by
  unfold b8 au;simp
 have e0:au c 0=(c.1,c.2.1):=by unfold au; simp
 simp only [Nat.zero_add,k0,e0] at key;have z:((bif (allFit (fits gk) [(AV.agg [(AV.int .i64 c.1),(AV.int .i64 c.2.1)])]&&true) then some ((map to [(AV.agg [(AV.int .i64 c.1),(AV.int .i64 c.2.1)])]),c.2.2.2.1,0,c.1,c.2.1) else none:Option (iK × Bool × Int × Int × Int)).bind fun Pt=>bif (decide (1=(map oC Pt.1).length)&&true) then some Pt else none)=some ([(c.1,c.2.1)],c.2.2.2.1,0,c.1,c.2.1):=rfl;rw [ZT,z];have vT:az (uK N c) N ([(c.1,c.2.1)],c.2.2.2.1,0,c.1,c.2.1)=_:=key;simp only [beq_self_eq_true,aau,cond_true,aad,vT,Zg,Zh]
theorem Vc (c:cQ) (h:dJ c=0):T56 N c=some (au c c.2.2.2.2.toNat):=by
 obtain ⟨h1,h2,h3⟩:=fL h;have q:U0 N (c.1,c.2.1,c.2.2.1,c.2.2.2.1,c.2.2.2.2)=some (b8 c (c.2.2.2.2.toNat+1)):=AY hN c h;rw [ZY,q,aad];have hw:wrap .i64 (((c.2.2.2.2.toNat+1:Nat):Int) - 1)=((c.2.2.2.2.toNat:Nat):Int):=by rw [fT ⟨by omega,by omega⟩]; omega
 have hk:c.2.2.2.2.toNat < (b8 c (c.2.2.2.2.toNat+1)).length:=by rw [fy]; omega
 obtain ⟨a1,a2⟩:=Vb hN (b8 c (c.2.2.2.2.toNat+1)) hk;have eg:(b8 c (c.2.2.2.2.toNat+1))[c.2.2.2.2.toNat]=au c c.2.2.2.2.toNat:=by simp [b8]
 rw [eg] at a1;have ir:decide ((0:Int)≤((c.2.2.2.2.toNat:Nat):Int)∧((c.2.2.2.2.toNat:Nat):Int) < ((c.2.2.2.2.toNat+1:Nat):Int))=true:=decide_eq_true (by omega);simp only [aao,fy,hw,aaY,ir,a1,a2,aau,cond_true]
theorem Vd (c:cQ):T54 N c=some (gU c):=by
 rw [ZW];have aif:vQ N (c.1,c.2.1)=some (aK (c.1,c.2.1)):=oE N (c.1,c.2.1);simp only [aif,aad,beq_self_eq_true,aau,cond_true,Va];rw [aie];simp only [aad];rw [LU hN _ (by simp)];simp only [aad];have e1:aU [aK (c.1,c.2.1),EU c.2.2.2.2 1 512]=dJ c:=rfl;rw [e1];unfold gU;by_cases h:dJ c=0
 ·obtain ⟨h1,h2,h3⟩:=fL h;have q:U0 N (c.1,c.2.1,c.2.2.1,c.2.2.2.1,c.2.2.2.2)=some (b8 c (c.2.2.2.2.toNat+1)):=AY hN c h;have hlen:=fy c (c.2.2.2.2.toNat+1);rw [h];simp only [bne_self_eq_false,cond_false,q,aad,if_true];generalize b8 c (c.2.2.2.2.toNat+1)=l at *;have key:=jz (rd:=yK N l) (l.map aK) (fun k hk=>by
   rw [aao] at hk;obtain ⟨a1,a2⟩:=Vb hN l hk;have q2:vQ N (l[k].1,l[k].2)=some (aK l[k]):=oE N l[k];rw [List.getElem_map];simp only [yK,aao,aaY,a7 hk,ay hk,a1,a2,aau,cond_true,q2,aad,bw (show k < 9223372036854775807 by omega)];by_cases hz:aK l[k]=0
   ·simp [hz]
   ·simp [hz,abi]) (by
   rw [aao];simp only [yK,aao,bO,cond_false]) N (by rw [aao]; unfold fC at hN; omega)
  rw [key];simp only [aad];by_cases hz:aU (l.map aK)=0
  ·rw [if_pos hz,hz]; rfl
  ·rw [if_neg hz]; rfl
 ·have hb:(dJ c != 0)=true:=bne_iff_ne.2 h;rw [hb,cond_true,if_neg h]
end
end Go.Proofs.YtldcljfjjoidhaaGreatDoor
