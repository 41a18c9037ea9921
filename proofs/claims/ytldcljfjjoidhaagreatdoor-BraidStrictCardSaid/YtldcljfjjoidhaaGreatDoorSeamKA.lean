/- Plain laws: knots,courses,their checks and walks. -/
import Derived.Test.YtldcljfjjoidhaaGreatDoorBraT
import Derived.Test.YtldcljfjjoidhaaGreatDoorAmKK
import Derived.Test.YtldcljfjjoidhaaGreatDoorAmKL
import Derived.Test.YtldcljfjjoidhaaGreatDoorBraU
import Derived.Test.YtldcljfjjoidhaaGreatDoorBraV
import Derived.Test.YtldcljfjjoidhaaGreatDoorBraLp
set_option linter.all false
open BitVec renaming ofInt→aaM, toNat_ofInt→abK
open Bool renaming and_self→aac, and_true→aaB, false_eq_true→aaR, cond_eq_ite→aa5
open Int renaming toNat_natCast→aax
open List renaming length_map→aab, length_append→aaC, map_append→aaH, getElem?_eq_getElem→aaY, length_singleton→aaZ, range→aa4, take_add_one→aa6, getElem_mem→aa9, length_take→aba, length_range→abq, drop_zero→abJ, length_cons→abN, take_length→abO, range_succ→abQ, mem_append→abS, mem_of_mem_take→abT
open Nat renaming zero_le→aaX, mod_two_eq_zero_or_one→aa3, beq_refl→abu, min_eq_left→abR, le_of_lt→abU
open Option renaming bind_some→aaa
open Sum renaming elim_inl→abP
namespace Go.Proofs.YtldcljfjjoidhaaGreatDoor
open Go Go.Am
open List (map)
open Int (toNat)
open Go.IntKind (wrap)
open Go.Am.aM (fits)
set_option maxRecDepth 100000
theorem Hf (n:Nat) (h:n < 18446744073709551616):(aaM 64 (wrap .i64 (n:Int))).toNat=n:=by
 rw [abK,IntKind.wrap_i64];omega
theorem af4 (a b:Nat):(a ^^^ b) % 2=(a+b) % 2:=by
 have h:=Nat.xor_mod_two_pow (a:=a) (b:=b) (n:=1);rw [Nat.pow_one] at h;rw [h];rcases aa3 a with ha|ha <;> rcases aa3 b with hb|hb <;> rw [ha,hb] <;> simp <;> omega
theorem Xy (x y:Int):(IN .i64 (IP .i64 x y) 1 != 0)=decide ((x+y) % 2≠0):=by
 have h1:(aaM 64 x ^^^ aaM 64 y).toNat < 18446744073709551616:=(aaM 64 x ^^^ aaM 64 y).isLt;have h2:(aaM 64 1).toNat=1:=by decide
 have h3:IN .i64 (IP .i64 x y) 1=wrap .i64 ((((aaM 64 x ^^^ aaM 64 y).toNat % 2:Nat)):Int):=by
  show wrap .i64 (((aaM 64 (wrap .i64 (((aaM 64 x ^^^ aaM 64 y).toNat:Nat):Int)) &&& aaM 64 1).toNat:Nat):Int)=_;rw [BitVec.toNat_and,Hf _ h1,h2,Nat.and_one_is_mod]
 rw [h3,gF (by omega),BitVec.toNat_xor,af4,abK,abK];have e:((((x % ((2 ^ 64:Nat):Int)).toNat+(y % ((2 ^ 64:Nat):Int)).toNat) % 2:Nat):Int)=(x+y) % 2:=by omega
 rw [e];by_cases h:(x+y) % 2=0 <;> simp [h]
def a8 (p:Int × Int):Int:=if p.1 < -100000∨p.1 > 100000∨p.2 < -100000∨p.2 > 100000 then 3 else if (p.1+p.2) % 2=0 then 0 else 14
theorem jj {N:Nat} (hN:fD N) (l:List Int) (hl:l.length≤9223372036854775806):wx N l=some (aU l):=by
 obtain ⟨o,h1,h2⟩:=og (rd:=wU N l) l (fun k hk=>by
  have hd:=iN GM l k hk;have e1:kd (ah (map GM l) k)=l[k]:=by rw [hd]; rfl
  have e2:fits wS (ah (map GM l) k)=true:=by rw [hd]; rfl
  simp only [wU,aab,aax,e1,e2,bS (show k < 9223372036854775807 by omega),bP hk,bt hk,aac,cond_true];by_cases hz:l[k]=0
  ·simp [hz]
  ·simp [hz,aa5]) (by simp only [wU,aab,cw,cond_false]) N (by unfold fD at hN; omega)
 rw [Rp,h1,aaa];rcases o with o|o
 ·simpa using h2
 ·simpa using h2
theorem nu {N:Nat} (hN:fD N) (l:List Int) (hl:l.length≤9223372036854775806):O8 N l=some (aU l):=by
 obtain ⟨o,h1,h2⟩:=og (rd:=CI N l) l (fun k hk=>by
  have hd:=iN GM l k hk;have e1:kd (ah (map GM l) k)=l[k]:=by rw [hd]; rfl
  have e2:fits wS (ah (map GM l) k)=true:=by rw [hd]; rfl
  simp only [CI,aab,aax,e1,e2,bS (show k < 9223372036854775807 by omega),bP hk,bt hk,aac,cond_true];by_cases hz:l[k]=0
  ·simp [hz]
  ·simp [hz,aa5]) (by simp only [CI,aab,cw,cond_false]) N (by unfold fD at hN; omega)
 rw [WA,h1,aaa];rcases o with o|o
 ·simpa using h2
 ·simpa using h2
theorem J6 {N:Nat} (hN:fD N) (l:List Int) (hl:l.length≤9223372036854775806):T32 N l=some (aU l):=by
 obtain ⟨o,h1,h2⟩:=og (rd:=CJ N l) l (fun k hk=>by
  have hd:=iN tC l k hk;have e1:iD (ah (map tC l) k)=l[k]:=by rw [hd]; rfl
  have e2:fits p3 (ah (map tC l) k)=true:=by rw [hd]; rfl
  simp only [CJ,aab,aax,e1,e2,bS (show k < 9223372036854775807 by omega),bP hk,bt hk,aac,cond_true];by_cases hz:l[k]=0
  ·simp [hz]
  ·simp [hz,aa5]) (by simp only [CJ,aab,cw,cond_false]) N (by unfold fD at hN; omega)
 rw [WH,h1,aaa];rcases o with o|o
 ·simpa using h2
 ·simpa using h2
theorem BF (x y:Int):((bif allFit (fits wS) [AV.int .i64 x,AV.int .i64 y]&&true then some (map kd [AV.int .i64 x,AV.int .i64 y]) else none:Option oQ))=some [x,y]:=rfl
theorem af5 (x y:Int):((bif allFit (fits p3) [AV.int .i64 x,AV.int .i64 y]&&true then some (map iD [AV.int .i64 x,AV.int .i64 y]) else none:Option oQ))=some [x,y]:=rfl
theorem kr (N:Nat) (b:Bool) (e:Int):AI N (b,e)=some (if b then e else 0):=by rw [Rq]; cases b <;> rfl
theorem qf (N:Nat) (b:Bool) (e:Int):O9 N (b,e)=some (if b then e else 0):=by rw [WB]; cases b <;> rfl
theorem EN (N:Nat) (n lo hi:Int):M1 N (n,lo,hi)=some (tA n lo hi):=by
 rw [Rs,kr,kr];unfold tA;by_cases h1:n < lo
 ·simp [h1]
 ·by_cases h2:n > hi <;> simp [h1,h2]
theorem IA (N:Nat) (n lo hi:Int):Yl N (n,lo,hi)=some (tA n lo hi):=by
 rw [WC,qf,qf];unfold tA;by_cases h1:n < lo
 ·simp [h1]
 ·by_cases h2:n > hi <;> simp [h1,h2]
theorem S7 (N:Nat) (n lo hi:Int):T33 N (n,lo,hi)=some (tA n lo hi):=by
 rw [WJ];unfold tA;by_cases h1:n < lo
 ·simp [h1]
 ·by_cases h2:n > hi <;> simp [h1,h2]
theorem uS {N:Nat} (hN:fD N) (p:Int × Int):Ex N p=some (a8 p):=by
 rw [Rt,Ik];simp only [EN,aaa,beq_self_eq_true,aac,cond_true];rw [BF];simp only [aaa];rw [jj hN _ (by simp)];simp only [aaa,kr,Xy];rw [BF];simp only [aaa];rw [jj hN _ (by simp)];simp only [aaa];congr 1;unfold a8 tA;simp only [aU];by_cases h1:p.1 < -100000∨p.1 > 100000
 ·have h:p.1 < -100000∨p.1 > 100000∨p.2 < -100000∨p.2 > 100000:=by omega
  simp [h,h1]
 ·by_cases h2:p.2 < -100000∨p.2 > 100000
  ·have h:p.1 < -100000∨p.1 > 100000∨p.2 < -100000∨p.2 > 100000:=by omega
   simp [h,h1,h2]
  ·have h:¬ (p.1 < -100000∨p.1 > 100000∨p.2 < -100000∨p.2 > 100000):=by omega
   by_cases h3:(p.1+p.2) % 2=0 <;> simp [h,h1,h2,h3]
theorem BG (N:Nat) (p:Int × Int):GZ N p=some (a8 p):=by
 rw [Sq,Is,Is,Sn];unfold a8;by_cases h:p.1 < -100000∨p.1 > 100000∨p.2 < -100000∨p.2 > 100000
 ·rw [if_pos h];by_cases h1:p.1 < -100000 <;> by_cases h2:p.1 > 100000 <;> by_cases h3:p.2 < -100000 <;> by_cases h4:p.2 > 100000 <;> simp [h1,h2,h3,h4] <;> omega
 ·rw [if_neg h];have h1:¬ p.1 < -100000:=by omega
  have h2:¬ p.1 > 100000:=by omega
  have h3:¬ p.2 < -100000:=by omega
  have h4:¬ p.2 > 100000:=by omega
  rw [gF (x:=p.1+p.2) (by omega)];have e:((Int.tmod (p.1+p.2) 2) == 0)=decide ((p.1+p.2) % 2=0):=by
   by_cases h5:(p.1+p.2) % 2=0
   ·have:Int.tmod (p.1+p.2) 2=0:=Int.tmod_eq_zero_of_dvd (Int.dvd_of_emod_eq_zero h5);simp [h5,this]
   ·have:Int.tmod (p.1+p.2) 2≠0:=fun e=>h5 (Int.emod_eq_zero_of_dvd (Int.dvd_of_tmod_eq_zero e))
    simp [h5,this]
  rw [e];by_cases h5:(p.1+p.2) % 2=0 <;> simp [h1,h2,h3,h4,h5]
abbrev bD:=Int × Int × Bool × Bool × Int
def sg (b:Bool):Int:=if b then 1 else -1
def aS (c:bD) (i:Nat):Int × Int:=(c.1+(i:Int) * sg c.2.2.1,c.2.1+((i % 2:Nat):Int) * sg c.2.2.2.1)
def cC (c:bD) (k:Nat):List XA:=(aa4 k).map (aS c)
theorem fh (c:bD) (k:Nat):(cC c k).length=k:=by simp [cC]
theorem EO (c:bD) (k:Nat):cC c (k+1)=cC c k++[aS c k]:=by unfold cC; rw [abQ,aaH]; rfl
theorem jk {p:Int × Int} (h:a8 p=0):-100000≤p.1∧p.1≤100000∧-100000≤p.2∧p.2≤100000:=by
 unfold a8 at h;split at h
 ·cases h
 ·omega
theorem dU (N:Nat) (c:bD) (i:Nat) (h:a8 (c.1,c.2.1)=0) (hi:i≤100000):pV N ((c.1,c.2.1,c.2.2.1,c.2.2.2.1,c.2.2.2.2),(i:Int))=some (aS c i):=by
 have hk:=jk h;simp only at hk;have t2:Int.tmod (i:Int) 2=((i % 2:Nat):Int):=rfl;rw [Sd,Iq,Iq];obtain ⟨x,y,r,u,n⟩:=c;simp only at hk ⊢;have hm:0≤((i % 2:Nat):Int)∧((i % 2:Nat):Int) < 2:=by omega
 cases r <;> cases u
 all_goals simp only [cond_true,cond_false,aaa,beq_self_eq_true,aac,t2,aS,sg,if_true,aaR,if_false,Int.mul_one,Int.mul_neg]
 all_goals (generalize ((i % 2:Nat):Int)=q at *)
 all_goals (have a1:wrap .i64 (i:Int)=i:=gF ⟨by omega,by omega⟩)
 all_goals (have a2:wrap .i64 (-(i:Int))=-i:=gF ⟨by omega,by omega⟩)
 all_goals (have a3:wrap .i64 q=q:=gF ⟨by omega,by omega⟩)
 all_goals (have a4:wrap .i64 (-q)=-q:=gF ⟨by omega,by omega⟩)
 all_goals (simp only [a1,a2,a3,a4])
 all_goals (rw [gF ⟨by omega,by omega⟩,gF ⟨by omega,by omega⟩])
def cU (c:bD):Int:=aU [a8 (c.1,c.2.1),tA c.2.2.2.2 1 512]
def dJ (c:bD):Int:=if cU c=0 then aU ((cC c (c.2.2.2.2.toNat+1)).map a8) else cU c
theorem dx {c:bD} (h:cU c=0):a8 (c.1,c.2.1)=0∧1≤c.2.2.2.2∧c.2.2.2.2≤512:=by
 have h:=gu.1 h;refine ⟨h _ (by simp),?_⟩;have:=h (tA c.2.2.2.2 1 512) (by simp);unfold tA at this;split at this
 ·cases this
 ·omega
section
variable {N:Nat} (hN:fD N)
include hN
theorem EP (c:bD):GY N c=some (dJ c):=by
 rw [Se];simp only [uS hN,aaa,beq_self_eq_true,aac,cond_true,IA];rw [BF];simp only [aaa];rw [nu hN _ (by simp)];simp only [aaa];have e1:aU [a8 (c.1,c.2.1),tA c.2.2.2.2 1 512]=cU c:=rfl;rw [e1];unfold dJ;by_cases h:cU c=0
 ·obtain ⟨h1,h2,h3⟩:=dx h;have key:=jF (rd:=wY N c) ((cC c (c.2.2.2.2.toNat+1)).map a8) (fun k hk=>by
   rw [aab,fh] at hk;have bZ:decide ((k:Int) < wrap .i64 (c.2.2.2.2+1))=true:=by rw [gF ⟨by omega,by omega⟩]; exact decide_eq_true (by omega)
   have q:=dU N c k h1 (by omega);have eg:((cC c (c.2.2.2.2.toNat+1)).map a8)[k]'(by rw [aab,fh]; exact hk)=a8 (aS c k):=by simp [cC]
   rw [eg];have q2:Ex N ((aS c k).1,(aS c k).2)=some (a8 (aS c k)):=uS hN (aS c k);simp only [wY,bZ,cond_true,q,aaa,q2,bS (show k < 9223372036854775807 by omega)];by_cases hz:a8 (aS c k)=0
   ·simp [hz]
   ·simp [hz,aa5]) (by
   rw [aab,fh];have mz:decide (((c.2.2.2.2.toNat+1:Nat):Int) < wrap .i64 (c.2.2.2.2+1))=false:=by rw [gF ⟨by omega,by omega⟩]; exact decide_eq_false (by omega)
   simp only [wY,mz,cond_false]) N (by rw [aab,fh]; unfold fD at hN; omega)
  rw [h,key];simp only [bne_self_eq_false,cond_false,aaa,if_true];by_cases hz:aU ((cC c (c.2.2.2.2.toNat+1)).map a8)=0
  ·rw [if_pos hz,hz]; rfl
  ·rw [if_neg hz]; rfl
 ·have hb:(cU c != 0)=true:=bne_iff_ne.2 h;rw [hb,cond_true,if_neg h]
theorem Xz (l:List XA) (p:Int × Int):map dv l++[AV.agg [AV.int .i64 p.1,AV.int .i64 p.2]]=map dv (l++[p]):=by rw [aaH]; rfl
theorem XD (l:List XA) {k:Nat} (hk:k < l.length):ef (ah (map dv l) k)=l[k]∧fits da (ah (map dv l) k)=true:=by
 rw [iN dv l k hk,ZR,ZQ]; exact ⟨rfl,rfl⟩
theorem N5 (c:bD) (h:cU c=0):Sf N c=some (aS c c.2.2.2.2.toNat):=by
 obtain ⟨h1,h2,h3⟩:=dx h;have q:=dU N c c.2.2.2.2.toNat h1 (by omega);rw [show ((c.2.2.2.2.toNat:Nat):Int)=c.2.2.2.2 by omega] at q;rw [Si,q];rfl
end
end Go.Proofs.YtldcljfjjoidhaaGreatDoor
namespace Go.Proofs.YtldcljfjjoidhaaGreatDoor
open Go Go.Am
open List (map)
open Int (toNat)
open Go.IntKind (wrap)
open Go.Am.aM (fits)
set_option maxRecDepth 100000
section
variable {N:Nat} (hN:fD N)
include hN
theorem EQ (c:bD) (h:cU c=0):WK N c=some (cC c (c.2.2.2.2.toNat+1)):=by
 obtain ⟨h1,h2,h3⟩:=dx h;have De:=jk h1;simp only at De;have key:=cT (rd:=tD N c) c.2.2.2.2.toNat (fun k=>(cC c (k+1),(if k % 2=0 then c.2.2.2.1 else !c.2.2.2.1),(k:Int),(aS c k).1,(aS c k).2)) (cC c (c.2.2.2.2.toNat+1),(aS c c.2.2.2.2.toNat).1,(aS c c.2.2.2.2.toNat).2) (fun k hk=>by
  have bZ:decide ((k:Int) < c.2.2.2.2)=true:=decide_eq_true (by omega);have hl:(cC c (k+1)++[aS c (k+1)]).length=k+1+1:=by rw [aaC,fh]; rfl
  have hb:decide ((k+1+1) * 16≤140737488355328)=true:=decide_eq_true (by omega);have ek:aS c (k+1)=((if c.2.2.1=true then (aS c k).1+1 else (aS c k).1 - 1),(if (if k % 2=0 then c.2.2.2.1 else !c.2.2.2.1)=true then (aS c k).2+1 else (aS c k).2 - 1)):=by
   obtain ⟨x,y,r,u,n⟩:=c;unfold aS sg;rcases aa3 k with hm|hm
   ·have N6:(k+1) % 2=1:=by omega
    simp only [hm,N6,if_true];refine Prod.ext ?_ ?_
    ·cases r <;> simp <;> omega
    ·cases u <;> simp <;> omega
   ·have N6:(k+1) % 2=0:=by omega
    simp only [hm,N6,show ¬ (1=0) from by decide,if_false];refine Prod.ext ?_ ?_
    ·cases r <;> simp <;> omega
    ·cases u <;> simp <;> omega
  have hk5:(k:Int) < 512:=by omega
  have akp:-200000≤(aS c k).1∧(aS c k).1≤200000∧-200000≤(aS c k).2∧(aS c k).2≤200000:=by
   obtain ⟨x,y,r,u,n⟩:=c;simp only at De h3;have hm:((k % 2:Nat):Int) < 2:=by omega
   unfold aS sg;cases r <;> cases u <;> simp <;> omega
  have hup:(if (k+1) % 2=0 then c.2.2.2.1 else !c.2.2.2.1)=!(if k % 2=0 then c.2.2.2.1 else !c.2.2.2.1):=by
   rcases aa3 k with hm|hm
   ·have N6:(k+1) % 2=1:=by omega
    simp [hm,N6]
   ·have N6:(k+1) % 2=0:=by omega
    simp [hm,N6]
  have e2:cC c (k+1+1)=cC c (k+1)++[aS c (k+1)]:=EO c (k+1);rw [e2,hup];rw [ek] at hl ⊢;generalize (if k % 2=0 then c.2.2.2.1 else !c.2.2.2.1)=up at *;generalize aS c k=q at *;have wa:wrap .i64 (q.1+1)=q.1+1:=gF ⟨by omega,by omega⟩;have wb:wrap .i64 (q.1 - 1)=q.1 - 1:=gF ⟨by omega,by omega⟩;have wc:wrap .i64 (q.2+1)=q.2+1:=gF ⟨by omega,by omega⟩;have wd:wrap .i64 (q.2 - 1)=q.2 - 1:=gF ⟨by omega,by omega⟩;have sn:=fun a b:Int=>Xz hN (cC c (k+1)) (a,b)
  simp only at sn;cases hr:c.2.2.1 <;> cases up
  all_goals simp only [hr,if_true,aaR,if_false] at hl ⊢
  all_goals simp only [tD,bZ,hr,cond_true,cond_false,kS,kT,aac,aab,decide_true,aaa,wa,wb,wc,wd,fh,hb,sn,hl,Bool.not_true,Bool.not_false,bS (show k < 9223372036854775807 by omega)]) (by
  have mz:decide (((c.2.2.2.2.toNat:Nat):Int) < c.2.2.2.2)=false:=decide_eq_false (by omega);simp only [tD,mz,cond_false,kS,kT,aac,aab,decide_true,cond_true,aaa]) N 0 (aaX _) (by unfold fD at hN; omega)
 have k0:cC c 1=[(c.1,c.2.1)]:=by
  unfold cC aS;simp
 have e0:aS c 0=(c.1,c.2.1):=by unfold aS; simp
 simp only [Nat.zero_add,k0,e0] at key;have z:((bif (allFit (fits da) [(AV.agg [(AV.int .i64 c.1),(AV.int .i64 c.2.1)])]&&true) then some ((map ef [(AV.agg [(AV.int .i64 c.1),(AV.int .i64 c.2.1)])]),c.2.2.2.1,0,c.1,c.2.1) else none:Option (lS × Bool × Int × Int × Int)).bind fun Sj=>bif (decide (1=(map dv Sj.1).length)&&true) then some Sj else none)=some ([(c.1,c.2.1)],c.2.2.2.1,0,c.1,c.2.1):=rfl;rw [WL,z];have sq:aH (tD N c) N ([(c.1,c.2.1)],c.2.2.2.1,0,c.1,c.2.1)=_:=key;simp only [beq_self_eq_true,aac,cond_true,aaa,sq,kS,kT]
theorem S8 (c:bD):T54 N c=some (dJ c):=by
 rw [WO];have af6:GZ N (c.1,c.2.1)=some (a8 (c.1,c.2.1)):=BG N (c.1,c.2.1);simp only [af6,aaa,beq_self_eq_true,aac,cond_true,S7];rw [af5];simp only [aaa];rw [J6 hN _ (by simp)];simp only [aaa];have e1:aU [a8 (c.1,c.2.1),tA c.2.2.2.2 1 512]=cU c:=rfl;rw [e1];unfold dJ;by_cases h:cU c=0
 ·obtain ⟨h1,h2,h3⟩:=dx h;have q:WK N (c.1,c.2.1,c.2.2.1,c.2.2.2.1,c.2.2.2.2)=some (cC c (c.2.2.2.2.toNat+1)):=EQ hN c h;have hlen:=fh c (c.2.2.2.2.toNat+1);rw [h];simp only [bne_self_eq_false,cond_false,q,aaa,if_true];generalize cC c (c.2.2.2.2.toNat+1)=l at *;have key:=jF (rd:=wZ N l) (l.map a8) (fun k hk=>by
   rw [aab] at hk;obtain ⟨a1,a2⟩:=XD hN l hk;have q2:GZ N (l[k].1,l[k].2)=some (a8 l[k]):=BG N l[k];rw [List.getElem_map];simp only [wZ,aab,aax,bP hk,bt hk,a1,a2,aac,cond_true,q2,aaa,bS (show k < 9223372036854775807 by omega)];by_cases hz:a8 l[k]=0
   ·simp [hz]
   ·simp [hz,aa5]) (by
   rw [aab];simp only [wZ,aab,cw,cond_false]) N (by rw [aab]; unfold fD at hN; omega)
  rw [key];simp only [aaa];by_cases hz:aU (l.map a8)=0
  ·rw [if_pos hz,hz]; rfl
  ·rw [if_neg hz]; rfl
 ·have hb:(cU c != 0)=true:=bne_iff_ne.2 h;rw [hb,cond_true,if_neg h]
end
end Go.Proofs.YtldcljfjjoidhaaGreatDoor
namespace Go.Proofs.YtldcljfjjoidhaaGreatDoor
open Go Go.Am
open List (map)
open Int (toNat)
open Go.IntKind (wrap)
open Go.Am.aM (fits)
set_option maxRecDepth 100000
abbrev dK:=Int × Int × Int
def iT (a b:Int × Int):dK:=if a.2 > b.2 then (b.1,b.2,a.1 - b.1) else (a.1,a.2,b.1 - a.1)
theorem S9 (N:Nat) (a b:Int × Int) (h:-1000000≤a.1∧a.1≤1000000∧-1000000≤b.1∧b.1≤1000000):T64 N (a,b)=some (iT a b):=by
 rw [WW];unfold iT;by_cases h1:a.2 > b.2
 ·simp only [h1,decide_true,cond_true,if_true,aaa];rw [gF ⟨by omega,by omega⟩]
 ·simp only [h1,decide_false,cond_false,if_false,aaa];rw [gF ⟨by omega,by omega⟩]
theorem Ta (l:List dK) (p:dK):map e8 l++[AV.agg [AV.int .i64 p.1,AV.int .i64 p.2.1,AV.int .i64 p.2.2]]=map e8 (l++[p]):=by rw [aaH]; rfl
theorem eE (c:bD) (h:cU c=0) (i:Nat) (hi:i≤100000):-1000000≤(aS c i).1∧(aS c i).1≤1000000:=by
 obtain ⟨h1,h2,h3⟩:=dx h;have De:=jk h1;simp only at De;unfold aS sg;split <;> (simp only; omega)
def eF (c:bD) (i:Nat):dK:=iT (aS c i) (aS c (i+1))
def cK (c:bD) (k:Nat):List dK:=(aa4 k).map (eF c)
def bM (c:bD):List dK:=cK c c.2.2.2.2.toNat
theorem fF (c:bD) (k:Nat):(cK c k).length=k:=by simp [cK]
theorem li (c:bD) (k:Nat):cK c (k+1)=cK c k++[eF c k]:=by unfold cK; rw [abQ,aaH]; rfl
def bz (p:List bD):List dK:=p.flatMap bM
theorem nw {c:bD} (h:cU c=0):(bM c).length≤512:=by
 obtain ⟨h1,h2,h3⟩:=dx h;unfold bM;rw [fF];omega
theorem ny (p:List bD) (h:∀ c∈p,cU c=0):(bz p).length≤512 * p.length:=by
 induction p with
 |nil=>simp [bz]
 |cons c p ih=>
  have h1:=nw (h c (by simp));have h2:=ih (fun c hc=>h c (by simp [hc]));unfold bz at *;rw [List.flatMap_cons,aaC,abN];omega
theorem qI (p:List bD) {k:Nat} (hk:k < p.length):bz (p.take (k+1))=bz (p.take k)++bM p[k]:=by
 unfold bz;rw [aa6,aaY hk,List.flatMap_append];simp
section
variable {N:Nat} (hN:fD N)
include hN
theorem BH (c:bD) (h:cU c=0):JZ N c=some (bM c):=by
 obtain ⟨h1,h2,h3⟩:=dx h;have key:=cT (rd:=pY N (cC c (c.2.2.2.2.toNat+1))) c.2.2.2.2.toNat (fun k=>(cK c k,((k+1:Nat):Int))) (bM c) (fun k hk=>by
  have hl:=fh c (c.2.2.2.2.toNat+1);have hm:wrap .i64 (((k+1:Nat):Int) - 1)=(k:Int):=by rw [gF ⟨by omega,by omega⟩]; omega
  have a1:=XD hN (cC c (c.2.2.2.2.toNat+1)) (k:=k) (by omega);have a2:=XD hN (cC c (c.2.2.2.2.toNat+1)) (k:=k+1) (by omega);have g1:(cC c (c.2.2.2.2.toNat+1))[k]'(by omega)=aS c k:=by simp [cC]
  have g2:(cC c (c.2.2.2.2.toNat+1))[k+1]'(by omega)=aS c (k+1):=by simp [cC]
  rw [g1] at a1;rw [g2] at a2;have r1:decide ((0:Int)≤(k:Int)∧(k:Int) < ((cC c (c.2.2.2.2.toNat+1)).length:Int))=true:=bt (by omega);have r2:decide ((0:Int)≤((k+1:Nat):Int)∧((k+1:Nat):Int) < ((cC c (c.2.2.2.2.toNat+1)).length:Int))=true:=bt (by omega);have r3:decide (((k+1:Nat):Int) < ((cC c (c.2.2.2.2.toNat+1)).length:Int))=true:=bP (by omega);have b:=S9 N (aS c k) (aS c (k+1)) ⟨(eE c h k (by omega)).1,(eE c h k (by omega)).2,(eE c h (k+1) (by omega)).1,(eE c h (k+1) (by omega)).2⟩;have e:iT (aS c k) (aS c (k+1))=eF c k:=rfl;have hb:decide ((k+1) * 24≤140737488355328)=true:=decide_eq_true (by omega);have ll:(cK c k++[eF c k]).length=k+1:=by rw [aaC,fF]; rfl
  have sn:=Ta (cK c k) (eF c k);rw [li];simp only [pY,r3,hm,r1,r2,aax,a1.1,a1.2,a2.1,a2.2,aac,cond_true,b,e,aaa,aab,fF,decide_true,hb,sn,jG,iZ,ll,bS (show k+1 < 9223372036854775807 by omega)]) (by
  have hl:=fh c (c.2.2.2.2.toNat+1);have mz:decide (((c.2.2.2.2.toNat+1:Nat):Int) < ((cC c (c.2.2.2.2.toNat+1)).length:Int))=false:=by rw [hl]; exact cw _
  simp only [pY,mz,cond_false,jG,iZ,aac,cond_true,aaa,aab,decide_true];rfl) N 0 (aaX _) (by unfold fD at hN; omega)
 rw [Sy];have w:=EQ hN c h;have sq:aH (pY N (cC c (c.2.2.2.2.toNat+1))) N (([]:List dK),1)=some (bM c):=key;have z:((bif (allFit (fits ba) ([]:List AV)&&true) then some ((map cY ([]:List AV)),1) else none:Option (mY × Int)).bind fun w8=>bif (decide (0=(map e8 w8.1).length)&&true) then some w8 else none)=some (([]:List dK),1):=rfl;rw [show WK N (c.1,c.2.1,c.2.2.1,c.2.2.2.1,c.2.2.2.2)=some (cC c (c.2.2.2.2.toNat+1)) from w,aaa,z,aaa,sq,aaa];simp only [jG,iZ,cond_true]
theorem J7 (l:List bD) {k:Nat} (hk:k < l.length):df (ah (map fx l) k)=l[k]∧fits e7 (ah (map fx l) k)=true:=by
 rw [iN fx l k hk];exact ⟨aen _,aem _⟩
theorem Tb (p:List bD) (h:∀ c∈p,cU c=0) (hp:p.length≤1000000):T44 N p=some (bz p):=by
 have key:=cT (rd:=zF N p) p.length (fun k=>(bz (p.take k),(k:Int))) (bz p) (fun k hk=>by
  have a:=J7 hN p hk;have r1:decide ((0:Int)≤(k:Int)∧(k:Int) < (p.length:Int))=true:=bt hk;have r2:decide ((k:Int) < (p.length:Int))=true:=bP hk;have e0:=h p[k] (aa9 hk);have b:=BH hN p[k] e0;have hl:=ny (p.take k) (fun c hc=>h c (abT hc));have hm:=nw e0;rw [aba,abR (abU hk)] at hl;have hb:decide (((bz (p.take k)).length+(bM p[k]).length) * 24≤140737488355328)=true:=decide_eq_true (by omega);rw [qI p hk];simp only [zF,aab,r2,r1,aax,a.1,a.2,aac,cond_true,b,aaa,decide_true,hb,← aaH,jG,iZ,aaC,bS (show k < 9223372036854775807 by omega)]) (by
  have mz:decide ((p.length:Int) < (p.length:Int))=false:=cw _;simp only [zF,aab,mz,cond_false,jG,iZ,aac,cond_true,aaa,decide_true,abO]) N 0 (aaX _) (by unfold fD at hN; omega)
 rw [WZ];have sq:aH (zF N p) N (([]:List dK),0)=some (bz p):=key;have z:((bif (allFit (fits ba) ([]:List AV)&&true) then some ((map cY ([]:List AV)),0) else none:Option (mY × Int)).bind fun w8=>bif (decide (0=(map e8 w8.1).length)&&true) then some w8 else none)=some (([]:List dK),0):=rfl;rw [z,aaa,sq,aaa];simp only [jG,iZ,cond_true]
end
end Go.Proofs.YtldcljfjjoidhaaGreatDoor
namespace Go.Proofs.YtldcljfjjoidhaaGreatDoor
open Go Go.Am Go.Sort
open List (map)
open Int (toNat)
open Go.IntKind (wrap)
open Go.Am.aM (fits)
set_option maxRecDepth 100000
theorem ER {V X:Type} {rd:V→Option (V ⊕ X)} (m:Nat) (E:Nat→V) (b:Nat→Bool) (y:Nat→X) (x:X)
  (h:∀ k,k < m→rd (E k)=some (if b k then .inr (y k) else .inl (E (k+1)))) (h0:rd (E m)=some (.inr x)) (n:Nat) (hn:m < n) :
  aH rd n (E 0)=some (match (aa4 m).find? b with | some j=>y j | none=>x):=by
 have key:=fZ (rd:=rd) (S:=Unit) (Y:=Nat) (aa4 m) (fun _ k=>E k) (fun _ i=>if b i then .inr i else .inl ()) (fun _=>x) y (fun _ _=>True)
  (fun s k hk _=>by
   have hk:k < m:=by simpa using hk
   refine ⟨?_,fun _ _=>trivial⟩;rw [List.getElem_range,h k hk];cases b k <;> rfl) (fun _ _=>by rw [abq]; exact h0) n () 0 (aaX _) (by simpa using hn) trivial
 rw [abJ] at key;refine key.trans (congrArg some ?_);clear key h h0 hn;generalize aa4 m=l
 induction l with
 |nil=>rfl
 |cons a l ih=>
  simp only [foldI,List.find?_cons];cases b a with
  |true=>rfl
  |false=>simp only [aaR,if_false,abP]; exact ih
theorem XE (a b:dK):(a.1 == b.1&&(a.2.1 == b.2.1&&(a.2.2 == b.2.2&&true)))=decide (a=b):=by
 rw [Bool.eq_iff_iff];simp [Prod.ext_iff]
theorem N7 (N:Nat) (a b:dK):T86 N (a,b)=some ((ltOf qF) a b):=by
 rw [NU,zy];by_cases h1:a.2.1=b.2.1
 ·by_cases h2:a.1=b.1
  ·simp [h1,h2]
  ·have hb:(a.1 != b.1)=true:=bne_iff_ne.2 h2;simp [h1,h2,hb]
 ·have hb:(a.2.1 != b.2.1)=true:=bne_iff_ne.2 h1;simp [h1,hb]
section
variable {N:Nat} (hN:fD N)
include hN
end
end Go.Proofs.YtldcljfjjoidhaaGreatDoor
namespace Go.Proofs.YtldcljfjjoidhaaGreatDoor
open Go Go.Am Go.Sort
open List (map)
open Int (toNat)
open Go.IntKind (wrap)
open Go.Am.aM (fits)
set_option maxRecDepth 100000
theorem ES (l:List dK) (p:dK) (x y z:Int) (h:p=(x,y,z)):map e8 l++[AV.agg [AV.int .i64 x,AV.int .i64 y,AV.int .i64 z]]=map e8 (l++[p]):=by subst h; rw [aaH]; rfl
section
variable {N:Nat} (hN:fD N)
include hN
theorem Hg (l:List bD) {k:Nat} (hk:k < l.length):bj (ah (map eV l) k)=l[k]∧fits sf (ah (map eV l) k)=true:=by
 rw [iN eV l k hk];exact ⟨aey _,aex _⟩
theorem XF (p:List bD) (i:Nat) (hi:i < p.length) (acc:List dK) (u:Unit) (hc:cU p[i]=0) (ha:acc.length≤1000000000) :
  aH (nf N p (u,(i:Int),acc)) N (0,acc,p[i].1,p[i].2.1,p[i].2.2.1,p[i].2.2.2.1,p[i].2.2.2.2,())=some (acc++bM p[i],p[i].1,p[i].2.1,p[i].2.2.1,p[i].2.2.2.1,p[i].2.2.2.2,()):=by
 have a:=Hg hN p hi;generalize p[i]=c at *;obtain ⟨h1,h2,h3⟩:=dx hc;have key:=cT (rd:=nf N p (u,(i:Int),acc)) c.2.2.2.2.toNat (fun k=>((k:Int),acc++cK c k,c.1,c.2.1,c.2.2.1,c.2.2.2.1,c.2.2.2.2,())) (acc++bM c,c.1,c.2.1,c.2.2.1,c.2.2.2.1,c.2.2.2.2,()) (fun k hk=>by
  have bZ:decide ((k:Int) < c.2.2.2.2)=true:=decide_eq_true (by omega);have t1:=dU N c k h1 (by omega);have t2:=dU N c (k+1) h1 (by omega);have q1:=eE c hc k (by omega);have q2:=eE c hc (k+1) (by omega);have hl:(acc++cK c k).length=acc.length+k:=by rw [aaC,fF]
  have hb:decide ((acc.length+k+1) * 24≤140737488355328)=true:=decide_eq_true (by omega);have eb:eF c k=iT (aS c k) (aS c (k+1)):=rfl;have es:acc++cK c (k+1)=(acc++cK c k)++[eF c k]:=by rw [li,List.append_assoc]
  rw [es];simp only [nf,ou,aax,a.1,bZ,cond_true,t1,bS (show k < 9223372036854775807 by omega),t2,aaa,beq_self_eq_true,aac];unfold iT at eb;generalize aS c k=x at *;generalize aS c (k+1)=y at *;by_cases vP:x.2 > y.2
  ·rw [if_pos vP] at eb;have w:wrap .i64 (x.1 - y.1)=x.1 - y.1:=gF ⟨by omega,by omega⟩;have sn:=ES (acc++cK c k) (eF c k) y.1 y.2 (x.1 - y.1) eb;simp only [vP,decide_true,cond_true,jG,iZ,aab,hl,abu,aac,aaB,aaa,w,hb,sn,aaC,aaZ,fF]
  ·rw [if_neg vP] at eb;have w:wrap .i64 (y.1 - x.1)=y.1 - x.1:=gF ⟨by omega,by omega⟩;have sn:=ES (acc++cK c k) (eF c k) x.1 x.2 (y.1 - x.1) eb;simp only [vP,decide_true,decide_false,cond_true,cond_false,jG,iZ,aab,hl,abu,aac,aaB,aaa,w,hb,sn,aaC,aaZ,fF]) (by
  have mz:decide (((c.2.2.2.2.toNat:Nat):Int) < c.2.2.2.2)=false:=decide_eq_false (by omega);simp only [nf,ou,aax,a.1,mz,cond_false,jG,iZ,aab,abu,aac,aaB,cond_true,aaa];rfl) N 0 (aaX _) (by unfold fD at hN; omega)
 have e0:acc++cK c 0=acc:=by simp [cK]
 rw [e0] at key;exact key
theorem Tc (p:List bD) (h:∀ c∈p,cU c=0) (hp:p.length≤1000000):aH (k9 N p) N ((),0,[])=some ((),bz p):=by
 refine cT (rd:=k9 N p) p.length (fun k=>((),(k:Int),bz (p.take k))) ((),bz p) (fun k hk=>?_) ?_ N 0 (aaX _) (by unfold fD at hN; omega)
 ·have a:=Hg hN p hk;have e0:=h p[k] (aa9 hk);have hl:=ny (p.take k) (fun c hc=>h c (abT hc));rw [aba,abR (abU hk)] at hl;have b:=XF hN p k hk (bz (p.take k)) () e0 (by omega);rw [qI p hk];simp only [k9,aab,bP hk,bt hk,aax,a.1,a.2,jG,iZ,abu,aac,aaB,cond_true,aaa,b,bS (show k < 9223372036854775807 by omega)]
 ·simp only [k9,aab,cw,cond_false,jG,iZ,abu,aac,aaB,cond_true,aaa,abO]
theorem J8 (l:List dK):aB (map e8 l)=true:=by
 induction l with
 |nil=>rfl
 |cons x l ih=>exact ih
theorem IB (p:List bD) (h:∀ c∈p,cU c=0) (hp:p.length≤1000000):T91 N p=some ((bz p).mergeSort fun x y=>!(ltOf qF) y x):=by
 have z2:((bif ((Nat.beq 0 (([]:List AV)).length&&Nat.beq 0 (([]:List AV)).length)&&(allFit (fits ba) ([]:List AV)&&true)) then some ((),0,(map cY ([]:List AV))) else none:Option (Unit × Int × mY)).bind fun w23=>some w23)=some ((),0,[]):=rfl;have hl:=ny p h;have es:gD ba qF (map e8 (bz p))=map e8 ((bz p).mergeSort fun x y=>!(ltOf qF) y x):=by
  unfold gD;rw [show map ba.bA (map e8 (bz p))=bz p from iZ _];rfl
 have hb:decide ((bz p).length≤140737488355328)=true:=decide_eq_true (by omega);rw [Xi,z2,aaa,Tc hN p h hp,aaa];simp only [es,aab,List.length_mergeSort,decide_true,hb,J8 hN,jG,iZ,aac,cond_true]
theorem Td (p:List bD) (y:Int) (hy:SF N p=some y) (h:y=0→∀ c∈p,cU c=0) (hp:p.length≤1000000):T39 N p=some (if y=0 then ((bz p).mergeSort fun x y=>!(ltOf qF) y x,0) else ([],y)):=by
 have z:((bif (allFit (fits sf) (map eV p)&&true) then some (map bj (map eV p)) else none:Option (ey)))=some p:=by simp only [mZ,na,aaB,cond_true]
 rw [Xk,z,aaa,hy,aaa,JX];by_cases h0:y=0
 ·rw [if_pos h0,if_pos h0,aaa,IB hN p (h h0) hp,aaa];simp only [jG,iZ,aac,cond_true]
 ·rw [if_neg h0,if_neg h0];rfl
end
end Go.Proofs.YtldcljfjjoidhaaGreatDoor
namespace Go.Proofs.YtldcljfjjoidhaaGreatDoor
open Go Go.Am Go.Sort
open List (map)
open Int (toNat)
open Go.IntKind (wrap)
open Go.Am.aM (fits)
set_option maxRecDepth 100000
section
variable {N:Nat} (hN:fD N)
include hN
theorem XG (l:List bD) (c:bD):map eV l++[AV.agg [AV.int .i64 c.1,AV.int .i64 c.2.1,AV.bool c.2.2.1,AV.bool c.2.2.2.1,AV.int .i64 c.2.2.2.2]]=map eV (l++[c]):=by rw [aaH]; rfl
theorem N8 (p:List bD) (hp:p.length≤1000000):Ux N p=some p:=by
 have key:=cT (rd:=zH N p) p.length (fun k=>(p.take k,(k:Int))) p (fun k hk=>by
  obtain ⟨a1,a2⟩:=J7 hN p hk;have hl:(p.take k).length=k:=by rw [aba]; omega
  have hb:decide ((k+1) * 32≤140737488355328)=true:=decide_eq_true (by omega);have sn:=XG hN (p.take k) p[k];have es:p.take (k+1)=p.take k++[p[k]]:=by rw [aa6,aaY hk]; rfl
  rw [es];simp only [zH,xd,aab,aax,bP hk,bt hk,a1,a2,aac,aaB,cond_true,decide_true,hl,hb,sn,mZ,na,aaa,aaC,aaZ,bS (show k < 9223372036854775807 by omega)]) (by
  simp only [zH,xd,aab,cw,cond_false,mZ,na,aaB,cond_true,aaa,decide_true,abO]) N 0 (aaX _) (by unfold fD at hN; omega)
 have sq:aH (zH N p) N ([],0)=some p:=key;have z:((bif (allFit (fits sf) ([]:List AV)&&true) then some ((map bj ([]:List AV)),0) else none:Option (ey × Int)).bind fun w6=>bif (decide (0=(map eV w6.1).length)&&true) then some w6 else none)=some ([],0):=rfl;rw [W5,z,aaa,sq,aaa];simp only [mZ,na,cond_true]
def Hh (p:List bD) (i:Nat):Bool:=i == 0 || !decide (aS (p.getD (i - 1) (0,0,false,false,0)) (p.getD (i - 1) (0,0,false,false,0)).2.2.2.2.toNat=((p.getD i (0,0,false,false,0)).1,(p.getD i (0,0,false,false,0)).2.1))
def Ky (p:List bD) (k:Nat):List Int:=((aa4 k).filter (Hh p)).map fun i:Nat=>(i:Int)
theorem N9 (p:List bD) (k:Nat):Ky p (k+1)=if Hh p k then Ky p k++[(k:Int)] else Ky p k:=by
 unfold Ky;rw [abQ,List.filter_append,aaH];cases h:Hh p k <;> simp [h]
theorem Te (p:List bD) (k:Nat):(Ky p k).length≤k:=by
 unfold Ky;rw [aab];have:=List.length_filter_le (Hh p) (aa4 k);rwa [abq] at this
theorem Uz (l:List Int) (x:Int):map tC l++[AV.int .i64 x]=map tC (l++[x]):=by rw [aaH]; rfl
theorem Tf (q:Int × Int) (x y:Int):(!((q.1 == x)&&(q.2 == y)))=!decide (q=(x,y)):=by
 congr 1;rw [Bool.eq_iff_iff];simp [Prod.ext_iff]
theorem Oa (p:List bD) (h:∀ c∈p,cU c=0) (hp:p.length≤1000000):T93 N p=some (Ky p p.length):=by
 have key:=cT (rd:=uQ N p) p.length (fun k=>(Ky p k,(k:Int))) (Ky p p.length) (fun k hk=>by
  obtain ⟨a1,a2⟩:=Hg hN p hk;have hl:=Te hN p k;have hb:decide (((Ky p k).length+1) * 8≤140737488355328)=true:=decide_eq_true (by omega);rw [N9 hN];by_cases h0:k=0
  ·subst h0;have e:Hh p 0=true:=rfl;have b0:((0:Int) == 0)=true:=rfl;have w1:wrap .i64 (0+1)=1:=rfl;have i0:decide ((0:Int)≤0∧(0:Int) < (p.length:Int))=true:=decide_eq_true (by omega);have l0:decide ((0:Int) < (p.length:Int))=true:=decide_eq_true (by omega);rw [e,if_pos rfl];simp only [uQ,aab,Int.natCast_zero,Int.toNat_zero,l0,i0,a1,a2,b0,aac,aaB,cond_true,decide_true,hb,Uz hN,V5,V6,aaa,aaC,aaZ,w1];rfl
  ·obtain ⟨j,rfl⟩:∃ j,k=j+1:=⟨k - 1,by omega⟩;have hj:j < p.length:=by omega
   obtain ⟨b1,b2⟩:=Hg hN p hj;have hm:wrap .i64 (((j+1:Nat):Int) - 1)=(j:Int):=by rw [gF ⟨by omega,by omega⟩]; omega
   have b0:(((j+1:Nat):Int) == 0)=false:=beq_false_of_ne (by omega);have Sg:=N5 hN p[j] (h p[j] (aa9 hj));have e:Hh p (j+1)=!decide (aS p[j] p[j].2.2.2.2.toNat=(p[j+1].1,p[j+1].2.1)):=by
    unfold Hh;have g1:p.getD (j+1 - 1) (0,0,false,false,0)=p[j]:=by simp [hj]
    have g2:p.getD (j+1) (0,0,false,false,0)=p[j+1]:=by simp [hk]
    rw [g1,g2];rfl
   rw [e];simp only [uQ,aab,aax,bP hk,bt hk,bt hj,hm,a1,a2,b1,b2,b0,aac,aaB,cond_true,cond_false,beq_self_eq_true,Sg,Tf hN,V5,V6,decide_true,aaa];cases decide (aS p[j] p[j].2.2.2.2.toNat=(p[j+1].1,p[j+1].2.1)) with
   |true=>simp only [Bool.not_true,cond_false,aaR,if_false,decide_true,V5,V6,aaa,cond_true,aaB,aac,bS (show j+1 < 9223372036854775807 by omega)]
   |false=>simp only [Bool.not_false,cond_true,if_true,hb,Uz hN,V5,V6,decide_true,aaC,aaZ,aaa,aaB,aac,bS (show j+1 < 9223372036854775807 by omega)]) (by
  simp only [uQ,aab,cw,cond_false,V5,V6,aaB,cond_true,aaa,decide_true]) N 0 (aaX _) (by unfold fD at hN; omega)
 have sq:aH (uQ N p) N ([],0)=_:=key;have z:((bif (allFit (fits p3) ([]:List AV)&&true) then some ((map iD ([]:List AV)),0) else none:Option (oQ × Int)).bind fun Ez=>bif (decide (0=(map tC Ez.1).length)&&true) then some Ez else none)=some ([],0):=rfl;rw [Xf,z,aaa,sq,aaa];simp only [V5,V6,cond_true]
theorem XH (p:List bD) (y:Int) (hy:SF N p=some y) (h:y=0→∀ c∈p,cU c=0) (hp:p.length≤1000000):T40 N p=some (if y=0 then (Ky p p.length,0) else ([],y)):=by
 have z:((bif (allFit (fits sf) (map eV p)&&true) then some (map bj (map eV p)) else none:Option (ey)))=some p:=by simp only [mZ,na,aaB,cond_true]
 rw [Xh,z,aaa,hy,aaa,JX];by_cases h0:y=0
 ·rw [if_pos h0,if_pos h0,aaa,Oa hN p (h h0) hp,aaa];simp only [V5,V6,aac,cond_true]
 ·rw [if_neg h0,if_neg h0];rfl
end
end Go.Proofs.YtldcljfjjoidhaaGreatDoor
namespace Go.Proofs.YtldcljfjjoidhaaGreatDoor
open Go Go.Am Go.Sort
open List (map)
open Int (toNat)
open Go.IntKind (wrap)
open Go.Am.aM (fits)
set_option maxRecDepth 100000
theorem lj {α:Type} (P:α→Prop) [DecidablePred P] (e:Int) (he:e≠0):∀ l:List α,aU (l.map fun x=>if P x then e else 0)=if ∃ x∈l,P x then e else 0
 |[]=>by simp [aU]
 |a :: l=>by
  rw [List.map_cons,aU,lj P e he l];by_cases h:P a
  ·have:∃ x∈a :: l,P x:=⟨a,by simp,h⟩;rw [if_pos h,if_neg he,if_pos this]
  ·rw [if_neg h,if_pos rfl];by_cases h2:∃ x∈l,P x
   ·obtain ⟨x,hx,hp⟩:=h2;rw [if_pos ⟨x,hx,hp⟩,if_pos ⟨x,by simp [hx],hp⟩]
   ·rw [if_neg h2,if_neg];rintro ⟨x,hx,hp⟩;rcases List.mem_cons.1 hx with rfl|hx
    ·exact h hp
    ·exact h2 ⟨x,hx,hp⟩
def IC (c:bD):Int:=if c.2.2.2.1 then c.2.1 else c.2.1 - 1
def below (p:List bD) (c:bD):Bool:=match p.getLast? with
 |some q=>decide (IC c < IC q)
 |none=>false
def ki (p:List bD) (c:bD):Int:=if dJ c=0 then (if below p c=true then 11 else if ∃ b∈bM c,b∈bz p then 9 else if (bz p).length+(bM c).length > 4096 then 4 else 0) else dJ c
theorem mu {c:bD} (h:dJ c=0):cU c=0:=by
 unfold dJ at h;by_cases h1:cU c=0
 ·exact h1
 ·rw [if_neg h1] at h; exact h
theorem ks {p:List bD} {c:bD} (h:ki p c=0):dJ c=0∧below p c=false∧(∀ b∈bM c,b∉bz p)∧(bz p).length+(bM c).length≤4096:=by
 unfold ki at h;by_cases h1:dJ c=0
 ·rw [if_pos h1] at h;by_cases h2:below p c=true
  ·rw [if_pos h2] at h; exact absurd h (by decide)
  ·rw [if_neg h2] at h;by_cases h3:∃ b∈bM c,b∈bz p
   ·rw [if_pos h3] at h; exact absurd h (by decide)
   ·rw [if_neg h3] at h;by_cases h4:(bz p).length+(bM c).length > 4096
    ·rw [if_pos h4] at h; exact absurd h (by decide)
    ·exact ⟨h1,by simpa using h2,fun b hb hq=>h3 ⟨b,hb,hq⟩,by omega⟩
 ·rw [if_neg h1] at h; exact absurd h h1
def AN (p:List bD):List Int:=(aa4 p.length).map fun k=>ki (p.take k) (p.getD k (0,0,false,false,0))
def gA (p:List bD):Int:=if p.length > 256 then 5 else aU (AN p)
theorem jK (p:List bD):(AN p).length=p.length:=by simp [AN]
theorem xf (p:List bD) {k:Nat} (hk:k < p.length):(AN p)[k]'(by rw [jK]; exact hk)=ki (p.take k) p[k]:=by simp [AN,hk]
theorem sr {V X:Type} {rd:V→Option (V ⊕ X)} (l:List Int) (E:Nat→V) (fin:X) (ex:Int→X) (P:Nat→Prop)
  (h:∀ k (hk:k < l.length),P k→rd (E k)=some (if l[k]=0 then .inl (E (k+1)) else .inr (ex l[k]))∧(l[k]=0→P (k+1))) (h0:P l.length→rd (E l.length)=some (.inr fin)) (n:Nat) (hn:l.length < n) (hP:P 0) :
  aH rd n (E 0)=some (if aU l=0 then fin else ex (aU l)):=by
 have key:=fZ (rd:=rd) (S:=Unit) (Y:=Int) l (fun _ k=>E k) (fun _ x=>if x=0 then .inl () else .inr x) (fun _=>fin) ex (fun _ k=>P k)
  (fun s k hk hp=>by
   obtain ⟨h1,h2⟩:=h k hk hp;refine ⟨by rw [h1]; by_cases e:l[k]=0 <;> simp [e],fun s' hs=>?_⟩;by_cases e:l[k]=0
   ·exact h2 e
   ·rw [if_neg e] at hs; cases hs) (fun _ hp=>h0 hp) n () 0 (aaX _) (by omega) hP
 rw [abJ] at key;refine key.trans (congrArg some ?_);clear key h h0 hn hP
 induction l with
 |nil=>rfl
 |cons x l ih=>
  simp only [foldI,aU];by_cases e:x=0
  ·simp only [e,if_true,abP]; exact ih
  ·simp [e]
theorem CT {p:List bD} (h:aU (AN p)=0) {k:Nat} (hk:k < p.length):ki (p.take k) p[k]=0:=by
 rw [← xf p hk];exact gu.1 h _ (aa9 _)
theorem qJ {p:List bD} (h:gA p=0):p.length≤256∧(∀ c∈p,cU c=0):=by
 unfold gA at h;by_cases h1:p.length > 256
 ·rw [if_pos h1] at h; exact absurd h (by decide)
 ·rw [if_neg h1] at h;refine ⟨by omega,fun c hc=>?_⟩;obtain ⟨k,hk,rfl⟩:=List.getElem_of_mem hc;exact mu (ks (CT h hk)).1
theorem J9 (l:List bD) (a b:Nat):di a b (map fx l)=map fx ((l.take b).drop a):=by simp [di,List.map_take,List.map_drop]
section
variable {N:Nat} (hN:fD N)
include hN
theorem ID (c:bD) (h:cU c=0):Sz N c=some (IC c):=by
 obtain ⟨h1,h2,h3⟩:=dx h;have De:=jk h1;simp only at De;rw [W1];unfold IC;rw [gF ⟨by omega,by omega⟩];cases c.2.2.2.1 <;> rfl
theorem Tg (A B:List dK) (j:Nat) (hj:j < B.length) (hA:A.length≤1000000000):aH (kY N A B (j:Int)) N 0=some (if B[j]∈A then .inl 9 else .inr ()):=by
 obtain ⟨b1,b2⟩:=zn B hj;have key:=jF (rd:=kY N A B (j:Int)) (A.map fun x=>if x=B[j] then (9:Int) else 0) (fun k hk=>by
  have hk:k < A.length:=by simpa using hk
  obtain ⟨a1,a2⟩:=zn A hk;have e:(A.map fun x=>if x=B[j] then (9:Int) else 0)[k]'(by simpa using hk)=if A[k]=B[j] then (9:Int) else 0:=by simp
  rw [e];simp only [kY,aab,aax,bP hk,bt hk,bt hj,a1,a2,b1,b2,XE,aac,cond_true,bS (show k < 9223372036854775807 by omega)];by_cases h:A[k]=B[j]
  ·rw [decide_eq_true h,if_pos h]; rfl
  ·rw [decide_eq_false h,if_neg h]; rfl) (by
  simp only [kY,aab,cw,cond_false]) N (by rw [aab]; unfold fD at hN; omega)
 rw [key,lj (fun x=>x=B[j]) 9 (by decide) A];have e:(∃ x,x∈A∧x=B[j])↔B[j]∈A:=⟨fun ⟨x,hx,e⟩=>e ▸ hx,fun h=>⟨_,h,rfl⟩⟩;by_cases h:B[j]∈A
 ·rw [if_pos h,if_pos (e.2 h)]; rfl
 ·rw [if_neg h,if_neg (fun q=>h (e.1 q))]; rfl
theorem Ob (A B:List dK) (hA:A.length≤1000000000) (hB:B.length≤1000000000):aH (pZ N A B) N 0=some (if ∃ b∈B,b∈A then .inl 9 else .inr ()):=by
 have key:=jF (rd:=pZ N A B) (B.map fun x=>if x∈A then (9:Int) else 0) (fun k hk=>by
  have hk:k < B.length:=by simpa using hk
  have e:(B.map fun x=>if x∈A then (9:Int) else 0)[k]'(by simpa using hk)=if B[k]∈A then (9:Int) else 0:=by simp
  rw [e];simp only [pZ,aab,bP hk,cond_true,Tg hN A B k hk hA,aaa,bS (show k < 9223372036854775807 by omega)];by_cases h:B[k]∈A
  ·simp only [h,if_true]; rfl
  ·simp only [h,if_false]; rfl) (by
  simp only [pZ,aab,cw,cond_false]) N (by rw [aab]; unfold fD at hN; omega)
 rw [key,lj (fun x=>x∈A) 9 (by decide) B];by_cases h:∃ b∈B,b∈A
 ·rw [if_pos h,if_pos h]; rfl
 ·rw [if_neg h,if_neg h]; rfl
theorem Oc (p:List bD) (c:bD) (h:∀ q∈p,cU q=0) (hp:p.length≤1000000):NS N (p,c)=some (ki p c):=by
 have q54:T54 N (c.1,c.2.1,c.2.2.1,c.2.2.2.1,c.2.2.2.2)=_:=S8 hN c;rw [SB,q54,aaa];unfold ki;by_cases hc:dJ c=0
 ·have D6:=mu hc;have q60:Sz N (c.1,c.2.1,c.2.2.1,c.2.2.2.1,c.2.2.2.2)=_:=ID hN c D6;have af7:JZ N (c.1,c.2.1,c.2.2.1,c.2.2.2.1,c.2.2.2.2)=_:=BH hN c D6;have TJ:=ny p h;have OY:=nw D6;have q44:=Tb hN p h hp;have qo:=Ob hN (bz p) (bM c) (by omega) (by omega);rw [if_pos hc,hc];have abp:((bif (decide (((((map fx p)).length:Nat):Int) > 0)) then bif (decide ((0:Int)≤(wrap .i64 (((((map fx p)).length:Nat):Int) - 1))∧(wrap .i64 (((((map fx p)).length:Nat):Int) - 1)) < (((map fx p)).length:Int))&&fits e7 (ah (map fx p) (toNat (wrap .i64 (((((map fx p)).length:Nat):Int) - 1))))) then (Sz N (c.1,c.2.1,c.2.2.1,c.2.2.2.1,c.2.2.2.2)).bind fun y2=>(Sz N ((df (ah (map fx p) (toNat (wrap .i64 (((((map fx p)).length:Nat):Int) - 1))))).1,(df (ah (map fx p) (toNat (wrap .i64 (((((map fx p)).length:Nat):Int) - 1))))).2.1,(df (ah (map fx p) (toNat (wrap .i64 (((((map fx p)).length:Nat):Int) - 1))))).2.2.1,(df (ah (map fx p) (toNat (wrap .i64 (((((map fx p)).length:Nat):Int) - 1))))).2.2.2.1,(df (ah (map fx p) (toNat (wrap .i64 (((((map fx p)).length:Nat):Int) - 1))))).2.2.2.2)).bind fun y3=>(some (decide (y2 < y3))) else none else (some false)):Option Bool)=some (below p c):=by
   cases p with
   |nil=>rfl
   |cons a l=>
    have hk:l.length < (a :: l).length:=by simp
    obtain ⟨a1,a2⟩:=J7 hN (a :: l) hk;have hm:wrap .i64 (((((map fx (a :: l))).length:Nat):Int) - 1)=(l.length:Int):=by
     rw [aab,abN,gF ⟨by omega,by simp at hp; omega⟩]; omega
    have hg:decide (((((map fx (a :: l))).length:Nat):Int) > 0)=true:=by rw [aab,abN]; exact decide_eq_true (by omega)
    have hb:below (a :: l) c=decide (IC c < IC (a :: l)[l.length]):=by
     unfold below;rw [List.getLast?_eq_getElem?];simp
    have af8:Sz N ((a :: l)[l.length].1,(a :: l)[l.length].2.1,(a :: l)[l.length].2.2.1,(a :: l)[l.length].2.2.2.1,(a :: l)[l.length].2.2.2.2)=_:=ID hN _ (h _ (aa9 hk));rw [hm,hg,aax,a1,a2,hb,q60,af8];rw [bt (by rw [aab]; exact hk)];rfl
  simp only [beq_self_eq_true,aac,cond_true];rw [abp,aaa];cases hb:below p c with
  |true=>rfl
  |false=>
   simp only [cond_false,aaa,bne_self_eq_false,GU,GV,aaB,cond_true,q44,af7,qo,aab,aaR,if_false];by_cases h9:∃ b∈bM c,b∈bz p
   ·rw [if_pos h9,if_pos h9]; rfl
   ·rw [if_neg h9,if_neg h9,gF ⟨by omega,by omega⟩];by_cases h4:(bz p).length+(bM c).length > 4096
    ·rw [if_pos h4,decide_eq_true (by omega)]; rfl
    ·rw [if_neg h4,decide_eq_false (by omega)]; rfl
 ·have Yq:(dJ c == 0)=false:=beq_false_of_ne hc;have Gf:(dJ c != 0)=true:=bne_iff_ne.2 hc;rw [if_neg hc,Yq];simp only [cond_false,aaa,Gf,cond_true]
theorem Th (p:List bD):T31 N p=some (gA p):=by
 rw [W3];unfold gA;rw [aab];by_cases hp:p.length > 256
 ·rw [if_pos hp,decide_eq_true (by omega)]; rfl
 ·rw [if_neg hp,decide_eq_false (by omega),cond_false];have key:=sr (rd:=zG N p) (X:=Int ⊕ Unit) (AN p) (fun k=>(k:Int)) (.inr ()) (fun x=>.inl x) (fun k=>∀ q∈p.take k,cU q=0) (fun k hk hP=>by
   rw [jK] at hk;obtain ⟨a1,a2⟩:=J7 hN p hk;have q:=Oc hN (p.take k) p[k] hP (by rw [aba]; omega);have c1:decide ((0:Int)≤(k:Int)∧(k:Int)≤(p.length:Int))=true:=decide_eq_true (by omega);rw [xf p hk];refine ⟨?_,fun e q hq=>?_⟩
   ·simp only [zG,aab,aax,bP hk,bt hk,c1,a1,a2,J9,abJ,GU,GV,aac,aaB,cond_true,aaa,bS (show k < 9223372036854775807 by omega)];rw [show NS N (p.take k,p[k].1,p[k].2.1,p[k].2.2.1,p[k].2.2.2.1,p[k].2.2.2.2)=_ from q,aaa,JX];split <;> rfl
   ·rw [aa6,aaY hk] at hq;rcases abS.1 hq with hq|hq
    ·exact hP q hq
    ·have:q=p[k]:=by simpa using hq
     subst this;exact mu (ks e).1) (fun _=>by
   rw [jK];simp only [zG,aab,cw,cond_false]) N (by rw [jK]; unfold fD at hN; omega) (fun q hq=>by simp at hq)
  rw [show aH (zG N p) N 0=_ from key,aaa];by_cases h:aU (AN p)=0
  ·rw [if_pos h,h]; rfl
  ·rw [if_neg h]; rfl
end
end Go.Proofs.YtldcljfjjoidhaaGreatDoor
namespace Go.Proofs.YtldcljfjjoidhaaGreatDoor
open Go Go.Am Go.Sort
open List (map)
open Int (toNat)
open Go.IntKind (wrap)
open Go.Am.aM (fits)
set_option maxRecDepth 100000
abbrev ekB:EK:=.st (.cons 0 1 false .int (.cons 1 1 false .int (.cons 2 1 false .int .nil)))
abbrev nkB (b:dK):AV:=.agg [.int .i64 b.1,.int .i64 b.2.1,.int .i64 b.2.2]
theorem Ti (a b:dK):E7 ekB (nkB a) (nkB b)=some (decide (a=b)):=by
 obtain ⟨a1,a2,a3⟩:=a;obtain ⟨b1,b2,b3⟩:=b;have e:ls ekB (nkB (a1,a2,a3)) (nkB (b1,b2,b3))=some ((a1 == b1)&&((a2 == b2)&&((a3 == b3)&&true))):=rfl;unfold E7;rw [e];by_cases h1:a1=b1 <;> by_cases h2:a2=b2 <;> by_cases h3:a3=b3
 ·subst h1; subst h2; subst h3;simp [EK.wide,lD,mD,oU]
 all_goals simp [h1,h2,h3]
theorem au:ic ekB nkB AV.bool zD where
 key:=Ti
 pair:=fun _=>rfl
 exact:=fun _=>rfl
def cq (l:List dK):List (dK × Bool):=l.map fun b=>(b,true)
theorem ET (l:List dK) (b:dK):(getM b (cq l)).getD false=decide (b∈l):=by
 unfold cq;rw [Bu];by_cases h:b∈l <;> simp [h]
theorem EU (l:List dK) (b:dK) (h:b∉l):sa b true (cq l)=cq (l++[b]):=by
 have:getM b (cq l)=none:=by unfold cq; rw [Bu,if_neg h]
 rw [EB this];unfold cq;rw [aaH];rfl
theorem BI (a b:Int × Int):min (iT a b).1 ((iT a b).1+(iT a b).2.2)=min a.1 b.1:=by
 unfold iT;split <;> (simp only; omega)
theorem Od (c:bD) (i j:Nat) (h:eF c i=eF c j):i=j:=by
 have h1:=BI (aS c i) (aS c (i+1));have h2:=BI (aS c j) (aS c (j+1));unfold eF at h;rw [h,h2] at h1;unfold aS sg at h1;simp only at h1;cases hr:c.2.2.1
 ·simp only [hr,aaR,if_false] at h1; omega
 ·simp only [hr,if_true] at h1; omega
theorem zM (c:bD) (k:Nat):eF c k∉cK c k:=by
 intro h;obtain ⟨j,hj,e⟩:=List.mem_map.1 h;have:=Od c j k e;have:=List.mem_range.1 hj;omega
section
variable {N:Nat} (hN:fD N)
include hN
theorem Oe (p:List bD) (i:Nat) (c:bD) (a:bj (ah (map eV p) i)=c) (acc:List dK) (u:Unit) (wC:Int) (q:bD) (hc:cU c=0) (ha:acc.length≤1000000000) :
  aH (nb N p ((i:Int),cq acc,u,wC,q)) N (0,cq acc,(),wC,q.1,q.2.1,q.2.2.1,q.2.2.2.1,q.2.2.2.2,(),0,c.1,c.2.1,c.2.2.1,c.2.2.2.1,c.2.2.2.2) =
   some (if ∃ b∈bM c,b∈acc then .inl (cq acc,(),wC,q.1,q.2.1,q.2.2.1,q.2.2.2.1,q.2.2.2.2,(),9,c.1,c.2.1,c.2.2.1,c.2.2.2.1,c.2.2.2.2) else .inr (cq acc,(),wC,q.1,q.2.1,q.2.2.1,q.2.2.2.1,q.2.2.2.2,(),0,c.1,c.2.1,c.2.2.1,c.2.2.2.1,c.2.2.2.2)):=by
 obtain ⟨h1,h2,h3⟩:=dx hc;have ml:(bM c).length=c.2.2.2.2.toNat:=fF c _;have key:=sr (rd:=nb N p ((i:Int),cq acc,u,wC,q)) ((bM c).map fun x=>if x∈acc then (9:Int) else 0) (fun k=>((k:Int),cq acc,(),wC,q.1,q.2.1,q.2.2.1,q.2.2.2.1,q.2.2.2.2,(),0,c.1,c.2.1,c.2.2.1,c.2.2.2.1,c.2.2.2.2))
  (.inr (cq acc,(),wC,q.1,q.2.1,q.2.2.1,q.2.2.2.1,q.2.2.2.2,(),0,c.1,c.2.1,c.2.2.1,c.2.2.2.1,c.2.2.2.2)) (fun x=>.inl (cq acc,(),wC,q.1,q.2.1,q.2.2.1,q.2.2.2.1,q.2.2.2.2,(),x,c.1,c.2.1,c.2.2.1,c.2.2.2.1,c.2.2.2.2)) (fun _=>True) (fun k hk _=>by
  refine ⟨?_,fun _=>trivial⟩;rw [aab,ml] at hk;have bZ:decide ((k:Int) < c.2.2.2.2)=true:=decide_eq_true (by omega);have t1:=dU N c k h1 (by omega);have t2:=dU N c (k+1) h1 (by omega);have q1:=eE c hc k (by omega);have q2:=eE c hc (k+1) (by omega);have eb:eF c k=iT (aS c k) (aS c (k+1)):=rfl;have el:((bM c).map fun x=>if x∈acc then (9:Int) else 0)[k]'(by rw [aab,ml]; exact hk)=if eF c k∈acc then (9:Int) else 0:=by simp [bM,cK]
  rw [el];simp only [nb,oq,aax,a,bZ,cond_true,t1,bS (show k < 9223372036854775807 by omega),t2,aaa,beq_self_eq_true,aac];unfold iT at eb;have kk:=au.keys (eF c k) (cq acc);have kg:=au.getD (eF c k) false (cq acc);rw [ET] at kg;generalize aS c k=x at *;generalize aS c (k+1)=y at *;by_cases vP:x.2 > y.2
  ·rw [if_pos vP] at eb;have w:wrap .i64 (x.1 - y.1)=x.1 - y.1:=gF ⟨by omega,by omega⟩;generalize eF c k=bb at *;subst eb;simp only [vP,decide_true,cond_true,au.cells,au.bc,av,aw,aac,aaB,aaa,w,kk,kg];by_cases hm:(y.1,y.2,x.1 - y.1)∈acc
   ·simp only [hm,decide_true,if_true]; rfl
   ·simp only [hm,decide_false,if_false]; rfl
  ·rw [if_neg vP] at eb;have w:wrap .i64 (y.1 - x.1)=y.1 - x.1:=gF ⟨by omega,by omega⟩;generalize eF c k=bb at *;subst eb;simp only [vP,decide_false,cond_true,cond_false,au.cells,au.bc,av,aw,aac,aaB,aaa,w,kk,kg];by_cases hm:(x.1,x.2,y.1 - x.1)∈acc
   ·simp only [hm,decide_true,if_true]; rfl
   ·simp only [hm,decide_false,if_false]; rfl) (fun _=>by
  rw [aab,ml];have mz:decide (((c.2.2.2.2.toNat:Nat):Int) < c.2.2.2.2)=false:=decide_eq_false (by omega);simp only [nb,oq,aax,a,mz,cond_false,au.cells,au.bc,av,aw,aac,aaB,cond_true,aaa]) N (by rw [aab,ml]; unfold fD at hN; omega) trivial
 refine Eq.trans key (congrArg some ?_);rw [lj (fun x=>x∈acc) 9 (by decide) (bM c)];by_cases h:∃ b∈bM c,b∈acc
 ·rw [if_pos h,if_pos h]; rfl
 ·rw [if_neg h,if_neg h]; rfl
theorem Tj (p:List bD) (i:Nat) (c:bD) (a:bj (ah (map eV p) i)=c) (acc:List dK) (v1:Int × (List (dK × Bool)) × Unit × Int × bD) (hv:v1.1=(i:Int)) (wC:Int) (q:bD) (e0:Int) (hc:cU c=0) (hn:∀ b∈bM c,b∉acc) :
  aH (kZ N p v1) N (0,cq acc,(),wC,q.1,q.2.1,q.2.2.1,q.2.2.2.1,q.2.2.2.2,(),e0,c.1,c.2.1,c.2.2.1,c.2.2.2.1,c.2.2.2.2,c.1,c.2.1,c.2.2.1,c.2.2.2.1,c.2.2.2.2) =
   some (cq (acc++bM c),(),wC,q.1,q.2.1,q.2.2.1,q.2.2.2.1,q.2.2.2.2,(),e0,c.1,c.2.1,c.2.2.1,c.2.2.2.1,c.2.2.2.2,c.1,c.2.1,c.2.2.1,c.2.2.2.1,c.2.2.2.2):=by
 obtain ⟨h1,h2,h3⟩:=dx hc;have key:=cT (rd:=kZ N p v1) c.2.2.2.2.toNat (fun k=>((k:Int),cq (acc++cK c k),(),wC,q.1,q.2.1,q.2.2.1,q.2.2.2.1,q.2.2.2.2,(),e0,c.1,c.2.1,c.2.2.1,c.2.2.2.1,c.2.2.2.2,c.1,c.2.1,c.2.2.1,c.2.2.2.1,c.2.2.2.2))
  (cq (acc++bM c),(),wC,q.1,q.2.1,q.2.2.1,q.2.2.2.1,q.2.2.2.2,(),e0,c.1,c.2.1,c.2.2.1,c.2.2.2.1,c.2.2.2.2,c.1,c.2.1,c.2.2.1,c.2.2.2.1,c.2.2.2.2) (fun k hk=>by
  have bZ:decide ((k:Int) < c.2.2.2.2)=true:=decide_eq_true (by omega);have t1:=dU N c k h1 (by omega);have t2:=dU N c (k+1) h1 (by omega);have q1:=eE c hc k (by omega);have q2:=eE c hc (k+1) (by omega);have eb:eF c k=iT (aS c k) (aS c (k+1)):=rfl;have mO:eF c k∉acc++cK c k:=by
   intro h;rcases abS.1 h with h|h
   ·exact hn (eF c k) (List.mem_map.2 ⟨k,List.mem_range.2 hk,rfl⟩) h
   ·exact zM c k h
  have es:acc++cK c (k+1)=(acc++cK c k)++[eF c k]:=by rw [li,List.append_assoc]
  have kk:=au.keys (eF c k) (cq (acc++cK c k));have kp:=au.put (eF c k) true (cq (acc++cK c k));rw [EU _ _ mO,← es] at kp;simp only [kZ,lU,jI,hv,aax,a,bZ,cond_true,t1,bS (show k < 9223372036854775807 by omega),t2,aaa,beq_self_eq_true,aac];clear mO;unfold iT at eb;generalize cq (acc++cK c (k+1))=S' at *;generalize cq (acc++cK c k)=S at *;clear es;generalize aS c k=x at *;generalize aS c (k+1)=y at *;by_cases vP:x.2 > y.2
  ·rw [if_pos vP] at eb;have w:wrap .i64 (x.1 - y.1)=x.1 - y.1:=gF ⟨by omega,by omega⟩;generalize eF c k=bb at *;subst eb;simp only [vP,decide_true,cond_true,au.cells,au.bc,av,aw,aac,aaa,w,kk,kp]
  ·rw [if_neg vP] at eb;have w:wrap .i64 (y.1 - x.1)=y.1 - x.1:=gF ⟨by omega,by omega⟩;generalize eF c k=bb at *;subst eb;simp only [vP,decide_false,cond_true,cond_false,au.cells,au.bc,av,aw,aac,aaa,w,kk,kp]) (by
  have mz:decide (((c.2.2.2.2.toNat:Nat):Int) < c.2.2.2.2)=false:=decide_eq_false (by omega);simp only [kZ,lU,jI,hv,aax,a,mz,cond_false,au.cells,au.bc,av,aw,aac,cond_true,aaa];rfl) N 0 (aaX _) (by unfold fD at hN; omega)
 have e0':acc++cK c 0=acc:=by simp [cK]
 rw [e0'] at key;exact key
end
end Go.Proofs.YtldcljfjjoidhaaGreatDoor
namespace Go.Proofs.YtldcljfjjoidhaaGreatDoor
open Go Go.Am Go.Sort
open List (map)
open Int (toNat)
open Go.IntKind (wrap)
open Go.Am.aM (fits)
set_option maxRecDepth 100000
theorem vQ {V X:Type} {rd:V→Option (V ⊕ X)} (l:List Int) (E:Nat→V) (g:X→Int) (P:Nat→Prop)
  (h:∀ k (hk:k < l.length),P k→(l[k]=0→rd (E k)=some (.inl (E (k+1)))∧P (k+1))∧(l[k]≠0→∃ x,rd (E k)=some (.inr x)∧g x=l[k])) (h0:P l.length→∃ x,rd (E l.length)=some (.inr x)∧g x=0) :
  ∀ n k,k≤l.length→l.length < n+k→P k→∃ x,aH rd n (E k)=some x∧g x=aU (l.drop k)
 |0,k,hk,hn,_=>by omega
 |n+1,k,hk,hn,hP=>by
  rw [bF];by_cases bZ:k < l.length
  ·obtain ⟨h1,h2⟩:=h k bZ hP;rw [List.drop_eq_getElem_cons bZ,aU];by_cases e:l[k]=0
   ·obtain ⟨r,hp⟩:=h1 e;rw [if_pos e,r];exact vQ l E g P h h0 n (k+1) (by omega) (by omega) hp
   ·obtain ⟨x,r,gx⟩:=h2 e;rw [if_neg e,r];exact ⟨x,rfl,gx⟩
  ·have:k=l.length:=by omega
   subst this;obtain ⟨x,r,gx⟩:=h0 hP;rw [r,List.drop_eq_nil_of_le (Nat.le_refl _)];exact ⟨x,rfl,gx⟩
def qg (p:List bD) (k:Nat):bD:=(p.take k).getLast?.getD (0,0,false,false,0)
section
variable {N:Nat} (hN:fD N)
include hN
theorem tL (c:bD) (h:cU c=0):uN N c=some (IC c):=by
 obtain ⟨h1,h2,h3⟩:=dx h;have t:=dU N c 1 h1 (by omega);rw [SC,show pV N ((c.1,c.2.1,c.2.2.1,c.2.2.2.1,c.2.2.2.2),1)=_ from t,aaa,beq_self_eq_true];simp only [aac,cond_true];congr 1;unfold aS sg IC;cases c.2.2.2.1
 ·simp; omega
 ·simp; omega
theorem BJ (p:List bD) (k:Nat) (hk:k < p.length):(p.take (k+1)).getLast?=some p[k]:=by
 have:p.take (k+1)=p.take k++[p[k]]:=by rw [aa6,aaY hk]; rfl
 rw [this,List.getLast?_concat]
theorem Of (p:List bD) (k:Nat) (hk:k < p.length) (hp:p.length≤256) (hP:∀ q∈p.take k,cU q=0) :
  ot N p ((k:Int),cq (bz (p.take k)),(),(k:Int),qg p k)=some (if ki (p.take k) p[k]=0 then .inl (((k+1:Nat):Int),cq (bz (p.take (k+1))),(),((k+1:Nat):Int),qg p (k+1)) else .inr (.inl (ki (p.take k) p[k],cq (bz (p.take k)),(),(k:Int),qg p k))):=by
 obtain ⟨a1,a2⟩:=Hg hN p hk;have hl:=ny (p.take k) hP;rw [aba,abR (abU hk)] at hl;have XY:qg p (k+1)=p[k]:=by
  unfold qg;rw [BJ hN p k hk];rfl
 have O0:k≠0→cU (qg p k)=0∧below (p.take k) p[k]=decide (IC p[k] < IC (qg p k)):=by
  intro h0;obtain ⟨j,rfl⟩:∃ j,k=j+1:=⟨k - 1,by omega⟩;have hj:j < p.length:=by omega
  have e:(p.take (j+1)).getLast?=some p[j]:=BJ hN p j hj;unfold qg below;rw [e];refine ⟨hP _ ?_,rfl⟩;exact List.mem_of_getLast? e
 have Yq:k=0→below (p.take k) p[k]=false:=fun h=>by subst h; rfl
 rw [qI p hk,XY];unfold ki;generalize qg p k=q at *;generalize p[k]=c at *;generalize p.take k=pk at *;have t80:O9 N (decide ((k:Int)≥256),5)=some 0:=by rw [qf,decide_eq_false (by omega)]; rfl
 have t108:GY N (c.1,c.2.1,c.2.2.1,c.2.2.2.1,c.2.2.2.2)=some (dJ c):=EP hN c;have t78:O8 N [0,dJ c]=some (dJ c):=by
  rw [nu hN [0,dJ c] (by simp)];show some (if (0:Int)=0 then (if dJ c=0 then aU [] else dJ c) else 0)=some (dJ c);rw [if_pos rfl];by_cases e:dJ c=0
  ·rw [if_pos e,e]; rfl
  ·rw [if_neg e]
 have z2:(bif allFit (fits wS) [AV.int .i64 0,AV.int .i64 (dJ c)] then some (map kd [AV.int .i64 0,AV.int .i64 (dJ c)]) else none:Option oQ)=some [0,dJ c]:=rfl;have H11:dJ c=0→(bif decide ((k:Int) > 0) then (uN N (c.1,c.2.1,c.2.2.1,c.2.2.2.1,c.2.2.2.2)).bind fun y7=>(uN N (q.1,q.2.1,q.2.2.1,q.2.2.2.1,q.2.2.2.2)).bind fun y8=>some (decide (y7 < y8),cq (bz pk),(),(k:Int),q.1,q.2.1,q.2.2.1,q.2.2.2.1,q.2.2.2.2,(),(0:Int)) else some (false,cq (bz pk),(),(k:Int),q.1,q.2.1,q.2.2.1,q.2.2.2.1,q.2.2.2.2,(),(0:Int)):Option (Bool × (List (dK × Bool)) × Unit × Int × Int × Int × Bool × Bool × Int × Unit × Int))=some (below pk c,cq (bz pk),(),(k:Int),q.1,q.2.1,q.2.2.1,q.2.2.2.1,q.2.2.2.2,(),(0:Int)):=fun hc=>by
  by_cases h0:k=0
  ·rw [Yq h0,decide_eq_false (by omega)]; rfl
  ·obtain ⟨e1,e2⟩:=O0 h0;rw [e2,decide_eq_true (by omega),show uN N (c.1,c.2.1,c.2.2.1,c.2.2.2.1,c.2.2.2.2)=_ from tL hN c (mu hc),show uN N (q.1,q.2.1,q.2.2.1,q.2.2.2.1,q.2.2.2.2)=_ from tL hN q e1];rfl
 by_cases hc:dJ c=0
 ·have D6:=mu hc;have OY:=nw D6;have hcn:=dx D6;have mln:(bM c).length=c.2.2.2.2.toNat:=fF c _;have r1:=Oe hN p k c a1 (bz pk) () (k:Int) q D6 (by omega);have Gf:(dJ c != 0)=false:=by rw [hc]; rfl
  have XI:(aG (map zD (cq (bz pk)))).length=(bz pk).length:=by rw [au.ent]; simp [cq]
  simp only [if_pos hc];simp only [ot,qa,aab,bP hk,bt hk,aax,a1,a2,aac,aaB,cond_true,beq_self_eq_true,t80,t108,z2,t78,Gf,cond_false,au.cells,au.bc,av,aw,aaa];rw [H11 hc];cases hbw:below pk c with
  |true=>rfl
  |false=>
   simp only [aaa,cond_false,au.cells,au.bc,av,aw,aac,cond_true,r1,aaR,if_false];by_cases h9:∃ b∈bM c,b∈bz pk
   ·simp only [if_pos h9,aaa,abP,Sum.elim_inr,au.cells,au.bc,av,aw,aac,cond_true];rfl
   ·simp only [if_neg h9,aaa,abP,Sum.elim_inr,au.cells,au.bc,av,aw,aac,cond_true,XI];have w:wrap .i64 (((bz pk).length:Int)+c.2.2.2.2)=(((bz pk).length+(bM c).length:Nat):Int):=by rw [gF ⟨by omega,by omega⟩]; omega
    have r2:=Tj hN p k c a1 (bz pk) ((k:Int),cq (bz pk),(),(k:Int),q) rfl (k:Int) q 0 D6 (fun b hb hq=>h9 ⟨b,hb,hq⟩);rw [w];by_cases h4:(bz pk).length+(bM c).length > 4096
    ·rw [decide_eq_true (show (((bz pk).length+(bM c).length:Nat):Int) > 4096 by omega)];simp only [if_pos h4,aaa,au.cells,au.bc,av,aw,aac,cond_true];rfl
    ·rw [decide_eq_false (show ¬ (((bz pk).length+(bM c).length:Nat):Int) > 4096 by omega)];simp only [if_neg h4,if_true,aaa,au.cells,au.bc,av,aw,aac,cond_true,cond_false,r2,bS (show k < 9223372036854775807 by omega)];rfl
 ·have Gf:(dJ c != 0)=true:=bne_iff_ne.2 hc;simp only [if_neg hc];simp only [ot,qa,aab,bP hk,bt hk,aax,a1,a2,aac,aaB,cond_true,beq_self_eq_true,t80,t108,z2,t78,Gf,au.cells,au.bc,av,aw,aaa]
theorem CU (p:List bD):SF N p=some (gA p):=by
 rw [Xc];unfold gA;rw [aab];by_cases hp:p.length > 256
 ·rw [if_pos hp,decide_eq_true (by omega)]; rfl
 ·rw [if_neg hp,decide_eq_false (by omega),cond_false];have key:=vQ (rd:=ot N p) (AN p) (fun k=>((k:Int),cq (bz (p.take k)),(),(k:Int),qg p k)) (Sum.elim (fun o66=>o66.1) (fun _=>0)) (fun k=>∀ q∈p.take k,cU q=0) (fun k hk hP=>by
   rw [jK] at hk;have st:=Of hN p k hk (by omega) hP;rw [xf p hk];refine ⟨fun e=>⟨?_,fun q hq=>?_⟩,fun e=>?_⟩
   ·rw [st,if_pos e]
   ·rw [aa6,aaY hk] at hq;rcases abS.1 hq with hq|hq
    ·exact hP q hq
    ·have:q=p[k]:=by simpa using hq
     subst this;exact mu (ks e).1
   ·rw [st,if_neg e];exact ⟨_,rfl,rfl⟩) (fun _=>by
   rw [jK];refine ⟨.inr (cq (bz (p.take p.length)),(),(p.length:Int),qg p p.length),?_,rfl⟩;simp only [ot,qa,aab,cw,cond_false,au.cells,au.bc,av,aw,aac,cond_true,aaa]) N 0 (aaX _) (by rw [jK]; unfold fD at hN; omega) (fun q hq=>by simp at hq)
  obtain ⟨x,r,gx⟩:=key;rw [abJ] at gx;have r':aH (ot N p) N (0,([]:List (dK × Bool)),(),0,0,0,false,false,0)=some x:=r;have z:((bif (allFit (fits ap) (ab ([]:List (AV × AV)))&&true) then some (0,(map aI (ab ([]:List (AV × AV)))),(),0,0,0,false,false,0) else none:Option (Int × (List (XB × Bool)) × Unit × Int × Int × Int × Bool × Bool × Int)).bind fun gF=>bif (bc ([]:List (AV × AV))&&true) then some gF else none)=some (0,([]:List (dK × Bool)),(),0,0,0,false,false,0):=rfl;rw [z,aaa,r',aaa,← gx];cases x <;> rfl
end
end Go.Proofs.YtldcljfjjoidhaaGreatDoor
namespace Go.Proofs.YtldcljfjjoidhaaGreatDoor
open Go Go.Am
open List (map)
open Int (toNat)
open Go.IntKind (wrap)
open Go.Am.aM (fits)
set_option maxRecDepth 100000
def zN (b:dK):Int × Int:=(wrap .i64 (b.1+b.2.2),wrap .i64 (b.2.1+1))
def Ak (b:dK):Int × Int:=(b.1,b.2.1)
theorem BK (N:Nat) (b:dK):Ey N b=some (b.1,b.2.1,zN b):=by rw [Im]; rfl
theorem Tk (N:Nat) (b:dK):SG N b=some (Ak b):=by rw [SI]; rfl
theorem Tl (N:Nat) (b:dK):SJ N b=some (zN b):=by rw [SL]; rfl
theorem Ka (N:Nat) (b:dK):NT N b=some (b.1,b.2.1,zN b):=by
 rw [SN];simp only [Tk,Tl,beq_self_eq_true,aac,cond_true,aaa];rfl
def uT (b:dK):Int:=if a8 (Ak b)≠0 then a8 (Ak b) else if b.2.2≠-1∧b.2.2≠1 then 13 else a8 (zN b)
theorem Hi {N:Nat} (hN:fD N) (p:Int × Int):JL N p=some (aU [tA p.1 (-100000) 100000,tA p.2 (-100000) 100000]):=by
 rw [Ik];simp only [EN,aaa,beq_self_eq_true,aac,cond_true];rw [BF];simp only [aaa];rw [jj hN _ (by simp)];rfl
theorem Og (b:dK) (h0:a8 (Ak b)=0) (h1:b.2.2=-1∨b.2.2=1):aU [tA (zN b).1 (-100000) 100000,tA (zN b).2 (-100000) 100000]=a8 (zN b):=by
 unfold a8 Ak at h0;simp only at h0;split at h0
 ·cases h0
 ·rename_i hr;split at h0
  ·rename_i hp;have e1:(zN b).1=b.1+b.2.2:=gF (by omega);have e2:(zN b).2=b.2.1+1:=gF (by omega);unfold a8;rw [e1,e2];have hp2:(b.1+b.2.2+(b.2.1+1)) % 2=0:=by omega
   rw [if_pos hp2];unfold tA;simp only [aU];by_cases c1:b.1+b.2.2 < -100000∨b.1+b.2.2 > 100000
   ·have c:b.1+b.2.2 < -100000∨b.1+b.2.2 > 100000∨b.2.1+1 < -100000∨b.2.1+1 > 100000:=by omega
    rw [if_pos c,if_pos c1]; rfl
   ·rw [if_neg c1];by_cases c2:b.2.1+1 < -100000∨b.2.1+1 > 100000
    ·have c:b.1+b.2.2 < -100000∨b.1+b.2.2 > 100000∨b.2.1+1 < -100000∨b.2.1+1 > 100000:=by omega
     rw [if_pos c,if_pos c2]; rfl
    ·have c:¬ (b.1+b.2.2 < -100000∨b.1+b.2.2 > 100000∨b.2.1+1 < -100000∨b.2.1+1 > 100000):=by omega
     rw [if_neg c,if_neg c2]; rfl
  ·cases h0
theorem Oh {N:Nat} (hN:fD N) (b:dK):M2 N b=some (uT b):=by
 rw [Rw];have q1:Ex N (b.1,b.2.1)=some (a8 (Ak b)):=uS hN _;simp only [q1,kr,aaa,beq_self_eq_true,aac,cond_true,BK];have q2:∀ s t:Bool,((bif s then ((bif allFit (fits wS) [AV.int .i64 (a8 (Ak b)),AV.int .i64 (if t=true then 13 else 0)]&&true then some (map kd [AV.int .i64 (a8 (Ak b)),AV.int .i64 (if t=true then 13 else 0)]) else none:Option oQ).bind fun x=>(wx N x).bind fun y=>some y) else ((bif allFit (fits wS) [AV.int .i64 (a8 (Ak b)),AV.int .i64 (if false=true then 13 else 0)]&&true then some (map kd [AV.int .i64 (a8 (Ak b)),AV.int .i64 (if false=true then 13 else 0)]) else none:Option oQ).bind fun x=>(wx N x).bind fun y=>some y)):Option Int)=some (aU [a8 (Ak b),if s&&t then 13 else 0]):=fun s t=>by
  rw [BF,BF];simp only [aaa];rw [jj hN _ (by simp),jj hN _ (by simp)];cases s <;> cases t <;> rfl
 rw [q2,aaa];have q3:JL N ((zN b).1,(zN b).2)=_:=Hi hN (zN b);unfold uT;simp only [aU];by_cases h0:a8 (Ak b)=0
 ·by_cases h1:b.2.2=-1∨b.2.2=1
  ·have hb:(b.2.2 != -1&&b.2.2 != 1)=false:=by rcases h1 with h | h <;> rw [h] <;> rfl
   rw [hb];have hn:¬ (b.2.2≠-1∧b.2.2≠1):=by omega
   rw [if_pos h0,if_neg (show ¬ a8 (Ak b)≠0 from fun c=>c h0),if_neg hn,← Og b h0 h1];simp only [aaR,if_false,if_true,bne_self_eq_false,cond_false,q3,aaa]
  ·have hb:(b.2.2 != -1&&b.2.2 != 1)=true:=by
    rw [Bool.and_eq_true]; exact ⟨bne_iff_ne.2 (by omega),bne_iff_ne.2 (by omega)⟩
   have hn:b.2.2≠-1∧b.2.2≠1:=by omega
   rw [hb,if_pos h0,if_neg (show ¬ a8 (Ak b)≠0 from fun c=>c h0),if_pos hn];rfl
 ·have hb:(a8 (Ak b) != 0)=true:=bne_iff_ne.2 h0;rw [if_neg h0,if_pos h0,hb];rfl
def less (a b:dK):Bool:=if a.2.1≠b.2.1 then decide (a.2.1 < b.2.1) else if a.1≠b.1 then decide (a.1 < b.1) else decide (a.2.2 < b.2.2)
theorem Kb (N:Nat) (a b:dK):T86 N (a,b)=some (less a b):=by
 rw [NU];unfold less;by_cases h1:a.2.1=b.2.1
 ·by_cases h2:a.1=b.1
  ·simp [h1,h2]
  ·have hb:(a.1 != b.1)=true:=bne_iff_ne.2 h2;simp [h1,h2,hb]
 ·have hb:(a.2.1 != b.2.1)=true:=bne_iff_ne.2 h1;simp [h1,hb]
def Kc (a b:Int):Int:=if a < b then -1 else if a > b then 1 else 0
theorem Tm (N:Nat) (a b:Int):JM N (a,b)=some (Kc a b):=by
 rw [RE];simp only [RC,bne_self_eq_false,aaa,cond_false];unfold Kc;by_cases h1:a < b
 ·simp [h1]
 ·by_cases h2:a > b <;> simp [h1,h2]
theorem Hj {N:Nat} (hN:fD N) (l:List Int) (hl:l.length≤9223372036854775806):Rx N l=some (aU l):=by
 obtain ⟨o,h1,h2⟩:=og (rd:=wW N l) l (fun k hk=>by
  have hd:=iN tC l k hk;have e1:iD (ah (map tC l) k)=l[k]:=by rw [hd]; rfl
  have e2:fits p3 (ah (map tC l) k)=true:=by rw [hd]; rfl
  simp only [wW,aab,aax,e1,e2,bS (show k < 9223372036854775807 by omega),bP hk,bt hk,aac,cond_true];by_cases hz:l[k]=0
  ·simp [hz]
  ·simp [hz,aa5]) (by simp only [wW,aab,cw,cond_false]) N (by unfold fD at hN; omega)
 rw [Rz,h1,aaa];rcases o with o|o
 ·simpa using h2
 ·simpa using h2
def XJ (a b:dK):Int:=aU [Kc a.2.1 b.2.1,Kc a.1 b.1,Kc a.2.2 b.2.2]
theorem Oi {N:Nat} (hN:fD N) (a b:dK):M3 N (a,b)=some (XJ a b):=by
 rw [RH];simp only [Tm,aaa,beq_self_eq_true,aac,cond_true];have h3:∀ x y z:Int,((bif allFit (fits p3) [AV.int .i64 x,AV.int .i64 y,AV.int .i64 z]&&true then some (map iD [AV.int .i64 x,AV.int .i64 y,AV.int .i64 z]) else none:Option oQ))=some [x,y,z]:=fun x y z=>rfl
 rw [h3];simp only [aaa];rw [Hj hN _ (by simp)];rfl
theorem Kd (a b:dK):decide (XJ a b≥0)=!less a b:=by
 unfold XJ less Kc;simp only [aU];by_cases h1:a.2.1 < b.2.1
 ·have:a.2.1≠b.2.1:=by omega
  simp [h1,this]
 ·by_cases h2:a.2.1 > b.2.1
  ·have:a.2.1≠b.2.1:=by omega
   simp [h1,h2,this]
  ·have:a.2.1=b.2.1:=by omega
   simp only [h1,h2,this,if_false,if_true,ne_eq,not_true_eq_false];by_cases h3:a.1 < b.1
   ·have:a.1≠b.1:=by omega
    simp [h3,this]
   ·by_cases h4:a.1 > b.1
    ·have:a.1≠b.1:=by omega
     simp [h3,h4,this]
    ·have:a.1=b.1:=by omega
     simp only [this,if_false,if_true,not_true_eq_false,Int.lt_irrefl,gt_iff_lt];by_cases h5:a.2.2 < b.2.2
     ·simp [h5]
     ·by_cases h6:b.2.2 < a.2.2 <;> simp [h5,h6]
def Tn (l:List dK) (k:Nat):Int:=if uT (l.getD k (0,0,0))≠0 then uT (l.getD k (0,0,0)) else if 0 < k∧less (l.getD (k - 1) (0,0,0)) (l.getD k (0,0,0))=false then 11 else 0
def Oj (l:List dK):Int:=if l.length > 4096 then 5 else aU ((aa4 l.length).map (Tn l))
theorem To {N:Nat} (hN:fD N) (l:List dK):Wa N l=some (Oj l):=by
 rw [Wb];simp only [aab];unfold Oj;by_cases h:l.length > 4096
 ·have h':(l.length:Int) > 4096:=by omega
  simp [h,h']
 ·have h':¬ (l.length:Int) > 4096:=by omega
  have key:=jF (rd:=zk N l) ((aa4 l.length).map (Tn l)) (fun k hk=>by
   have hk:k < l.length:=by simpa using hk
   obtain ⟨a1,a2⟩:=zn l hk;rw [List.getElem_map,List.getElem_range];have e1:l.getD k (0,0,0)=l[k]:=by simp [hk]
   unfold Tn;rw [e1];have q1:M2 N (l[k].1,l[k].2.1,l[k].2.2)=_:=Oh hN l[k];have two:∀ x y:Int,((bif allFit (fits wS) [AV.int .i64 x,AV.int .i64 y]&&true then some (map kd [AV.int .i64 x,AV.int .i64 y]) else none:Option oQ))=some [x,y]:=fun x y=>rfl
   have q5:∀ x y:Int,wx N [x,y]=some (aU [x,y]):=fun x y=>jj hN _ (by simp)
   by_cases De:k=0
   ·subst De;simp only [zk,aab,aax,a1,a2,bP hk,bt hk,aac,cond_true,q1,aaa,two,q5,kr,bS (show 0 < 9223372036854775807 by omega),show decide (((0:Nat):Int) > 0)=false from rfl,cond_false];by_cases h0:uT l[0]=0
    ·simp [h0,aU]
    ·have hb:(uT l[0] != 0)=true:=bne_iff_ne.2 h0;simp [h0,hb,aU]
   ·have NR:k - 1 < l.length:=by omega
    obtain ⟨b1,b2⟩:=zn l NR;have e2:l.getD (k - 1) (0,0,0)=l[k - 1]:=by simp [NR]
    rw [e2];have ew:wrap .i64 ((k:Int) - 1)=((k - 1:Nat):Int):=by rw [gF (by omega)]; omega
    have em:(if ((k - 1:Nat):Int) > 0 then ((k - 1:Nat):Int) else 0)=((k - 1:Nat):Int):=by split <;> omega
    have hp:decide ((k:Int) > 0)=true:=decide_eq_true (by omega);have q2:M3 N ((l[k - 1].1,l[k - 1].2.1,l[k - 1].2.2),(l[k].1,l[k].2.1,l[k].2.2))=_:=Oi hN l[k - 1] l[k];simp only [zk,aab,aax,a1,a2,bP hk,bt hk,aac,cond_true,q1,aaa,hp,ew,em,b1,b2,bt NR,q2,kr,Kd,two,q5,bS (show k < 9223372036854775807 by omega)];by_cases h0:uT l[k]=0
    ·cases less l[k - 1] l[k] with
     |true=>simp [h0,aU]
     |false=>simp [h0,aU,show 0 < k by omega]
    ·have hb:(uT l[k] != 0)=true:=bne_iff_ne.2 h0;simp [h0,hb,aU]) (by
   rw [aab,abq];simp only [zk,aab,cw,cond_false]) N (by unfold fD at hN; rw [aab,abq]; omega)
  rw [if_neg h];simp only [h',decide_false,cond_false,key,aaa];split <;> simp_all
end Go.Proofs.YtldcljfjjoidhaaGreatDoor
