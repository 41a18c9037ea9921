/- Plain laws: knots,steps and walks. -/
import Derived.Test.YtophnjjjmikmeaaGreatOttPe
set_option linter.all false
namespace Go.Proofs.YtophnjjjmikmeaaGreat
open Go Go.Am
set_option maxRecDepth 100000
theorem DC (n:Nat) (h:n < 18446744073709551616):(BitVec.ofInt 64 (IntKind.wrap .i64 (n:Int))).toNat=n:=by
 rw [BitVec.toNat_ofInt,IntKind.wrap_i64]
 omega
theorem VS (a b:Nat):(a ^^^ b) % 2=(a+b) % 2:=by
 have h:=Nat.xor_mod_two_pow (a:=a) (b:=b) (n:=1)
 rw [Nat.pow_one] at h
 rw [h]
 rcases Nat.mod_two_eq_zero_or_one a with ha | ha <;> rcases Nat.mod_two_eq_zero_or_one b with hb | hb <;> rw [ha,hb] <;> simp <;> omega
theorem Pb (x y:Int):(EH .i64 (EI .i64 x y) 1 != 0)=decide ((x+y) % 2≠0):=by
 have h1:(BitVec.ofInt 64 x ^^^ BitVec.ofInt 64 y).toNat < 18446744073709551616:=(BitVec.ofInt 64 x ^^^ BitVec.ofInt 64 y).isLt
 have h2:(BitVec.ofInt 64 1).toNat=1:=by decide
 have h3:EH .i64 (EI .i64 x y) 1=IntKind.wrap .i64 ((((BitVec.ofInt 64 x ^^^ BitVec.ofInt 64 y).toNat % 2:Nat)):Int):=by
  show IntKind.wrap .i64 (((BitVec.ofInt 64 (IntKind.wrap .i64 (((BitVec.ofInt 64 x ^^^ BitVec.ofInt 64 y).toNat:Nat):Int)) &&& BitVec.ofInt 64 1).toNat:Nat):Int)=_
  rw [BitVec.toNat_and,DC _ h1,h2,Nat.and_one_is_mod]
 rw [h3,gf (by omega),BitVec.toNat_xor,VS,BitVec.toNat_ofInt,BitVec.toNat_ofInt]
 have e:((((x % ((2 ^ 64:Nat):Int)).toNat+(y % ((2 ^ 64:Nat):Int)).toNat) % 2:Nat):Int)=(x+y) % 2:=by omega
 rw [e]
 by_cases h:(x+y) % 2=0 <;> simp [h]
def aP (p:Int × Int):Int:=if p.1 < -100000∨p.1 > 100000∨p.2 < -100000∨p.2 > 100000 then 3 else if (p.1+p.2) % 2=0 then 0 else 14
theorem lQ {p:Int × Int} (h:aP p=0):-100000≤p.1∧p.1≤100000∧-100000≤p.2∧p.2≤100000∧(p.1+p.2) % 2=0:=by
 unfold aP at h
 split at h
 ·cases h
 ·split at h
  ·rename_i h1 h2; exact ⟨by omega,by omega,by omega,by omega,h2⟩
  ·cases h
theorem zZ (N:Nat) (n lo hi:Int):Ou N (n,lo,hi)=some (qv n lo hi):=by
 rw [Ov,zS,zS]
 unfold qv
 by_cases h1:n < lo
 ·simp [h1]
 ·by_cases h2:n > hi <;> simp [h1,h2]
theorem di {N:Nat} (hN:gQ N) (l:List Int) (hl:l.length≤9223372036854775806):wN N l=some (aX l):=by
 obtain ⟨o,h1,h2⟩:=oY (rd:=zR N l) l (fun k hk=>by
  simp only [zR,List.length_map,Int.toNat_natCast,dv n30 l k hk,VA,VB,ea (show k < 9223372036854775807 by omega),ck hk,bV hk,Bool.and_self,cond_true]
  by_cases hz:l[k]=0
  ·simp [hz]
  ·simp [hz,Bool.cond_eq_ite]) (by simp only [zR,List.length_map,cT,cond_false]) N (by unfold gQ at hN; omega)
 rw [Oq,h1,Option.bind_some]
 rcases o with o | o
 ·simpa using h2
 ·simpa using h2
theorem qC {N:Nat} (hN:gQ N) (p:Int × Int):MB N p=some (aP p):=by
 rw [Ow,It]
 simp only [zZ,Option.bind_some,beq_self_eq_true,Bool.and_self,cond_true,allFit,FQ,FR,List.map_cons,List.map_nil,di hN _ (show [_,_].length≤9223372036854775806 by simp),Pb,zS]
 unfold aP qv
 by_cases h1:p.1 < -100000∨p.1 > 100000
 ·have h:p.1 < -100000∨p.1 > 100000∨p.2 < -100000∨p.2 > 100000:=by omega
  rw [if_pos h,if_pos h1]
  cases decide ((p.1+p.2) % 2≠0) <;> simp [aX,allFit,FQ,FR,di hN _ (show [_,_].length≤9223372036854775806 by simp)]
 ·rw [if_neg h1]
  by_cases h2:p.2 < -100000∨p.2 > 100000
  ·have h:p.1 < -100000∨p.1 > 100000∨p.2 < -100000∨p.2 > 100000:=by omega
   rw [if_pos h,if_pos h2]
   cases decide ((p.1+p.2) % 2≠0) <;> simp [aX,allFit,FQ,FR,di hN _ (show [_,_].length≤9223372036854775806 by simp)]
  ·have h:¬ (p.1 < -100000∨p.1 > 100000∨p.2 < -100000∨p.2 > 100000):=by omega
   rw [if_neg h,if_neg h2]
   by_cases h3:(p.1+p.2) % 2=0 <;> simp [h3,aX,allFit,FQ,FR,di hN _ (show [_,_].length≤9223372036854775806 by simp)]
theorem wv (N:Nat) (p:Int × Int):Lf N p=some (aP p):=by
 rw [OM,Iw,Iw,OL]
 unfold aP
 by_cases h:p.1 < -100000∨p.1 > 100000∨p.2 < -100000∨p.2 > 100000
 ·rw [if_pos h]
  by_cases h1:p.1 < -100000 <;> by_cases h2:p.1 > 100000 <;> by_cases h3:p.2 < -100000 <;> by_cases h4:p.2 > 100000 <;> simp [h1,h2,h3,h4] <;> omega
 ·rw [if_neg h]
  have h1:¬ p.1 < -100000:=by omega
  have h2:¬ p.1 > 100000:=by omega
  have h3:¬ p.2 < -100000:=by omega
  have h4:¬ p.2 > 100000:=by omega
  rw [gf (x:=p.1+p.2) (by omega)]
  have e:((Int.tmod (p.1+p.2) 2) == 0)=decide ((p.1+p.2) % 2=0):=by
   by_cases h5:(p.1+p.2) % 2=0
   ·have:Int.tmod (p.1+p.2) 2=0:=Int.tmod_eq_zero_of_dvd (Int.dvd_of_emod_eq_zero h5)
    simp [h5,this]
   ·have:Int.tmod (p.1+p.2) 2≠0:=fun e=>h5 (Int.emod_eq_zero_of_dvd (Int.dvd_of_tmod_eq_zero e))
    simp [h5,this]
  rw [e]
  by_cases h5:(p.1+p.2) % 2=0 <;> simp [h1,h2,h3,h4,h5]
def mv (out:Bool) (p:Int × Int) (c:UInt8):Int × Int:=(p.1+(if out then (bg c).1 else -(bg c).1),p.2+(bg c).2)
abbrev yA:=Int × Int × Int × Int × Int
def yB (out:Bool) (p:Int × Int) (c:UInt8):yA:=((c.toNat:Int),p.1,p.2,(mv out p c).1,(mv out p c).2)
def cz (out:Bool):Int × Int→List UInt8→List yA
 | _,[]=>[]
 | p,c :: l=>yB out p c :: cz out (mv out p c) l
def IF (out:Bool) (p:Int × Int) (l:List UInt8):Int × Int:=l.foldl (mv out) p
def SC (s:yA):Int × Int:=(s.2.2.2.1,s.2.2.2.2)
def z6 (out:Bool) (p:Int × Int) (l:List UInt8):List (Int × Int):=p :: (cz out p l).map SC
theorem kv (out:Bool):∀ (l:List UInt8) (p:Int × Int),(cz out p l).length=l.length
 | [],_=>rfl
 | c :: l,p=>by simp [cz,kv out l]
theorem yC (w:List UInt8):∀ n:Nat,cD w (n+1)=cD w n++w
 | 0=>by simp [cD]
 | n+1=>by
  show w++cD w (n+1)=w++cD w n++w
  rw [yC w n,List.append_assoc]
theorem eh (w:List UInt8):∀ n:Nat,(cD w n).length=n * w.length
 | 0=>by simp [cD]
 | n+1=>by
  show (w++cD w n).length=_
  rw [List.length_append,eh w n,Nat.succ_mul]
  omega
theorem qD {w:List UInt8}:∀ {n:Nat} {c:UInt8},c∈cD w n→c∈w
 | 0,c,h=>by simp [cD] at h
 | n+1,c,h=>by
  rcases List.mem_append.1 (show c∈w++cD w n from h) with h | h
  ·exact h
  ·exact qD h
def xr (p0 p:Int × Int) (m:Nat):Prop:=p0.1 - 2 * m≤p.1∧p.1≤p0.1+2 * m∧p0.2≤p.2∧p.2≤p0.2+2 * m
theorem xr.mv {p0 p:Int × Int} {m:Nat} (h:xr p0 p m) (out:Bool) (c:UInt8):xr p0 (mv out p c) (m+1):=by
 obtain ⟨h1,h2,h3,h4⟩:=h
 obtain ⟨s1,s2,s3⟩:=fI c
 cases out <;> simp only [xr,YtophnjjjmikmeaaGreat.mv,Bool.false_eq_true,if_false,if_true] <;> omega
theorem xr.zero (p:Int × Int):xr p p 0:=⟨by omega,by omega,by omega,by omega⟩
section walk
variable {N:Nat} (hN:gQ N) (dT:Int × Int) (lf:-100000≤dT.1∧dT.1≤100000∧-100000≤dT.2∧dT.2≤100000) (w:List UInt8) (out:Bool)
include hN lf
end walk
def DD (p:Int × Int):Bool:=decide (p.1 < -100000) || (decide (p.1 > 100000) || decide (p.2 > 100000))
def eL (dT:Int × Int) (w:List UInt8) (times:Int):Int:=aX [aP dT,dS w,qv times 1 256,if (w.length:Int) * times > 256 then 26 else 0]
def walkErr (dT:Int × Int) (w:List UInt8) (times:Int) (out:Bool):Int:=if eL dT w times=0 then (if (z6 out dT (cD w times.toNat)).any DD then 32 else 0) else eL dT w times
theorem DE (dT:Int × Int) (w:List UInt8) (times:Int):eL dT w times=if aX [aP dT,dS w,qv times 1 256]=0 then (if (w.length:Int) * times > 256 then 26 else 0) else aX [aP dT,dS w,qv times 1 256]:=by
 unfold eL
 rw [show [aP dT,dS w,qv times 1 256,if (w.length:Int) * times > 256 then (26:Int) else 0]=[aP dT,dS w,qv times 1 256]++[if (w.length:Int) * times > 256 then (26:Int) else 0] from rfl,vY]
 by_cases h:aX [aP dT,dS w,qv times 1 256]=0
 ·rw [if_pos h,if_pos h]
  by_cases h2:(w.length:Int) * times > 256 <;> simp [h2,aX]
 ·rw [if_neg h,if_neg h]
structure wx (dT:Int × Int) (w:List UInt8) (times:Int):Prop where
 hk:-100000≤dT.1∧dT.1≤100000∧-100000≤dT.2∧dT.2≤100000∧(dT.1+dT.2) % 2=0
 hw:w≠[]∧w.length≤64∧w.all xq=true
 ht:1≤times∧times≤256
 hl:w.length * times.toNat≤256
theorem Ln {n:Nat} {t:Int} (h:0≤t):(n:Int) * t=((n * t.toNat:Nat):Int):=by
 rw [Int.natCast_mul,Int.toNat_of_nonneg h]
theorem pc {dT:Int × Int} {w:List UInt8} {times:Int} (h:eL dT w times=0):wx dT w times:=by
 have hz:=gz.1 h
 simp only [List.mem_cons,List.not_mem_nil,or_false,forall_eq_or_imp,forall_eq] at hz
 obtain ⟨z1,z2,z3,z4⟩:=hz
 have r:=ID z3
 refine ⟨lQ z1,wo z2,r,?_⟩
 split at z4
 ·cases z4
 ·rename_i h4
  rw [Ln (by omega)] at h4
  omega
def Pc (s:yA):Bool:=aP (SC s) == 0
def Good (out:Bool) (s:yA):Prop:=∃ p c,s=yB out p c∧xq c=true∧-110000≤p.1∧p.1≤110000∧-110000≤p.2∧p.2≤110000
theorem wy {p0:Int × Int} (h0:-100000≤p0.1∧p0.1≤100000∧-100000≤p0.2∧p0.2≤100000) (out:Bool):∀ (l:List UInt8) (p:Int × Int) (m:Nat),xr p0 p m→m+l.length≤1000→(∀ c∈l,xq c=true)→∀ s∈cz out p l,Good out s
 | [],p,m,_,_,_,s,hs=>by simp [cz] at hs
 | c :: l,p,m,hn,hm,hl,s,hs=>by
  simp only [cz,List.mem_cons] at hs
  rcases hs with rfl | hs
  ·obtain ⟨n1,n2,n3,n4⟩:=hn
   simp only [List.length_cons] at hm
   exact ⟨p,c,rfl,hl c (by simp),by omega,by omega,by omega,by omega⟩
  ·exact wy h0 out l (mv out p c) (m+1) (hn.mv out c) (by simp only [List.length_cons] at hm; omega) (fun x hx=>hl x (by simp [hx])) s hs
theorem IG (out:Bool):∀ (l:List UInt8) (p:Int × Int),(p.1+p.2) % 2=0→-100000≤p.2→(∀ c∈l,xq c=true)→(cz out p l).all Pc=!((cz out p l).map SC).any DD
 | [],p,_,_,_=>rfl
 | c :: l,p,h1,h2,hl=>by
  have hs:(bg c).1+(bg c).2=2∧0≤(bg c).1∧0≤(bg c).2:=by have:=fI c; omega
  have m1:((mv out p c).1+(mv out p c).2) % 2=0:=by cases out <;> simp only [mv,Bool.false_eq_true,if_false,if_true] <;> omega
  have m2:-100000≤(mv out p c).2:=by simp only [mv]; omega
  have ih:=IG out l (mv out p c) m1 m2 (fun x hx=>hl x (by simp [hx]))
  simp only [cz,List.all_cons,List.map_cons,List.any_cons,ih,Bool.not_or]
  congr 1
  have e:SC (yB out p c)=mv out p c:=rfl
  simp only [Pc,e]
  generalize mv out p c=q at m1 m2
  unfold aP DD
  by_cases b1:q.1 < -100000
  ·simp [b1]
  ·by_cases b2:q.1 > 100000
   ·simp [b2]
   ·by_cases b3:q.2 > 100000
    ·simp [b3]
    ·have b4:¬ q.2 < -100000:=by omega
     simp [b1,b2,b3,b4,m1]
def MF (out:Bool) (s:List yA × (Int × Int)) (c:UInt8):(List yA × (Int × Int)) ⊕ (Int × Int × Nat):=
 if aP (mv out s.2 c)=0 then .inl (s.1++[yB out s.2 c],mv out s.2 c) else .inr (s.2.1,s.2.2,s.1.length+1)
theorem BG (out:Bool):∀ (l:List UInt8) (a:List yA) (p:Int × Int),
  ((cz out p l).all Pc=true→foldI (MF out) (a,p) l=.inl (a++cz out p l,IF out p l))∧((cz out p l).all Pc=false→∃ y,foldI (MF out) (a,p) l=.inr y)
 | [],a,p=>⟨fun _=>by simp [foldI,cz,IF],fun h=>by simp [cz] at h⟩
 | c :: l,a,p=>by
  obtain ⟨i1,i2⟩:=BG out l (a++[yB out p c]) (mv out p c)
  have e:Pc (yB out p c)=(aP (mv out p c) == 0):=rfl
  simp only [cz,List.all_cons,e,foldI]
  by_cases hk:aP (mv out p c)=0
  ·simp only [MF,hk,if_true,Sum.elim_inl,beq_self_eq_true,Bool.true_and]
   refine ⟨fun h=>?_,i2⟩
   have:=i1 h
   rw [show foldI (MF out) (a++[yB out p c],mv out p c) l=_ from this]
   simp [IF]
  ·simp only [MF,hk,if_false,Sum.elim_inr]
   refine ⟨fun h=>?_,fun _=>⟨_,rfl⟩⟩
   simp [hk] at h
theorem Lo {dT:Int × Int} {w:List UInt8} {times:Int} {out:Bool} (h:wx dT w times):walkErr dT w times out=if eL dT w times=0 then (if (cz out dT (cD w times.toNat)).all Pc=true then 0 else 32) else eL dT w times:=by
 unfold walkErr
 obtain ⟨k1,k2,k3,k4,k5⟩:=h.hk
 have hb:DD dT=false:=by
  unfold DD
  have b1:¬ dT.1 < -100000:=by omega
  have b2:¬ dT.1 > 100000:=by omega
  have b3:¬ dT.2 > 100000:=by omega
  simp [b1,b2,b3]
 have:=IG out (cD w times.toNat) dT k5 k3 (fun c hc=>List.all_eq_true.1 h.hw.2.2 c (qD hc))
 rw [this]
 simp only [z6,List.any_cons,hb,Bool.false_or]
 cases ((cz out dT (cD w times.toNat)).map SC).any DD <;> simp
section
variable {N:Nat} (hN:gQ N) (dT:Int × Int) (w:List UInt8) (times:Int) (out:Bool)
include hN
theorem IH:TC N (dT,w,times)=some (eL dT w times):=by
 rw [OG]
 simp only [qC hN,IC hN,Ll,Option.bind_some,allFit,FQ,FR,List.map_cons,List.map_nil,Bool.and_self,cond_true,yw hN _ (show [_,_,_].length≤9223372036854775806 by simp),qB]
 rw [DE]
 by_cases h:aX [aP dT,dS w,qv times 1 256]=0
 ·have hz:=gz.1 h
  simp only [List.mem_cons,List.not_mem_nil,or_false,forall_eq_or_imp,forall_eq] at hz
  obtain ⟨z1,z2,z3⟩:=hz
  have r:=ID z3
  have hw:=wo z2
  have hm:(w.length:Int) * times≤64 * 256:=Int.le_trans (Int.mul_le_mul_of_nonneg_right (by omega) (by omega)) (Int.mul_le_mul_of_nonneg_left r.2 (by omega))
  have Wt:0≤(w.length:Int) * times:=Int.mul_nonneg (by omega) (by omega)
  simp only [h,bne_self_eq_false,cond_false,if_true]
  rw [gf (x:=(w.length:Int) * times) (by omega)]
  by_cases h2:(w.length:Int) * times > 256 <;> simp [h2]
 ·simp [h,HV h]
omit hN in
theorem II (l:List yA) (s:yA):List.map iT l++[AV.agg [AV.int .i32 s.1,AV.int .i64 s.2.1,AV.int .i64 s.2.2.1,AV.int .i64 s.2.2.2.1,AV.int .i64 s.2.2.2.2]]=List.map iT (l++[s]):=by simp [iT,aq.enc,aG.enc]
theorem yD:Se N (dT,w,times,out)=some (if walkErr dT w times out=0 then (cz out dT (cD w times.toNat),0) else ([],walkErr dT w times out)):=by
 rw [OI,IH hN]
 simp only [Option.bind_some]
 by_cases h:eL dT w times=0
 ·have ok:=pc h
  obtain ⟨k1,k2,k3,k4,k5⟩:=ok.hk
  obtain ⟨w1,w2,w3⟩:=ok.hw
  have bM:=ok.hl
  rw [Lo ok]
  obtain ⟨n,rfl⟩:∃ n:Nat,times=(n:Int):=⟨times.toNat,by have:=ok.ht; omega⟩
  have ht:=ok.ht
  rw [Int.toNat_natCast] at bM ⊢
  simp only [h,bne_self_eq_false,cond_false,if_true]
  have e1:dc .int (AV.int .i32 78) ([]:List (AV × AV))=true:=rfl
  have e2:dc .int (AV.int .i32 66) (bz .int (AV.int .i32 78) (AV.agg [(AV.int .i64 0),(AV.int .i64 2)]) ([]:List (AV × AV)))=true:=rfl
  have e3:dc .int (AV.int .i32 84) (bz .int (AV.int .i32 66) (AV.agg [(AV.int .i64 1),(AV.int .i64 1)]) (bz .int (AV.int .i32 78) (AV.agg [(AV.int .i64 0),(AV.int .i64 2)]) ([]:List (AV × AV))))=true:=rfl
  rw [e1,e2,e3]
  simp only [cond_true]
  have e4:∀ (sd:Int),(((bif (allFit (aq.fits nh) (ao (bz .int (AV.int .i32 84) (AV.agg [(AV.int .i64 2),(AV.int .i64 0)]) (bz .int (AV.int .i32 66) (AV.agg [(AV.int .i64 1),(AV.int .i64 1)]) (bz .int (AV.int .i32 78) (AV.agg [(AV.int .i64 0),(AV.int .i64 2)]) ([]:List (AV × AV))))))&&true) then some (sd,(List.map qy (ao (bz .int (AV.int .i32 84) (AV.agg [(AV.int .i64 2),(AV.int .i64 0)]) (bz .int (AV.int .i32 66) (AV.agg [(AV.int .i64 1),(AV.int .i64 1)]) (bz .int (AV.int .i32 78) (AV.agg [(AV.int .i64 0),(AV.int .i64 2)]) ([]:List (AV × AV)))))))) else none:Option (Int × (List (Int × (Int × Int))))).bind fun w2=>bif (bZ (bz .int (AV.int .i32 84) (AV.agg [(AV.int .i64 2),(AV.int .i64 0)]) (bz .int (AV.int .i32 66) (AV.agg [(AV.int .i64 1),(AV.int .i64 1)]) (bz .int (AV.int .i32 78) (AV.agg [(AV.int .i64 0),(AV.int .i64 2)]) ([]:List (AV × AV)))))&&true) then some w2 else none))=some (sd,dL):=fun _=>rfl
  simp only [e4]
  have e5:((bif !out then some (-1,dL) else some (1,dL):Option (Int × (List (Int × (Int × Int))))))=some ((if out then 1 else -1:Int),dL):=by cases out <;> rfl
  rw [e5]
  simp only [Option.bind_some]
  have Zo:(cD w n).length≤256:=by rw [eh,Nat.mul_comm]; exact bM
  have e6:VG N (w,(n:Int))=some (cD w n):=by
   show tQ (w,(n:Int))=_
   have q1:decide ((0:Int)≤(n:Int))=true:=by simp
   have q2:decide ((n:Int)≤9223372036854775807)=true:=by simp only [decide_eq_true_eq]; omega
   have q3:decide (w.length * n≤140737488355328)=true:=by simp only [decide_eq_true_eq]; omega
   simp only [tQ,q1,q2,Int.toNat_natCast,q3,Bool.and_self,cond_true]
  obtain ⟨m1,m2,m3⟩:=FV
  simp only [e6,Option.bind_some]
  generalize hL:cD w n=L at Zo
  have Zp:∀ c∈L,xq c=true:=fun c hc=>List.all_eq_true.1 w3 c (qD (by rw [hL]; exact hc))
  rw [Bool.and_true] at m1 m3
  have e7:((bif (allFit (aq.fits BD) ([]:List AV)&&(allFit (aq.fits nh) (ao (ae (List.map da dL)))&&true)) then some ((List.map d80 ([]:List AV)),dT.1,dT.2,(List.map qy (ao (ae (List.map da dL)))),L,((0:Nat):Int)) else none:Option ((List (Int × Int × Int × Int × Int)) × Int × Int × (List (Int × (Int × Int))) × (List UInt8) × Int)).bind fun Jr=>bif (bZ (ae (List.map da dL))&&(decide (0=(List.map iT Jr.1).length)&&true)) then some Jr else none)=some ([],dT.1,dT.2,dL,L,((0:Nat):Int)):=rfl
  rw [e7,Option.bind_some]
  have key:=jJ (rd:=nj N ((if out then 1 else -1:Int),dL)) L (fun (s:List yA × (Int × Int)) k=>(s.1,s.2.1,s.2.2,dL,L,(k:Int))) (MF out)
   (fun s=>.inl (s.1,s.2.1,s.2.2,dL,L,(L.length:Int))) (fun y=>.inr ((),32,y.1,y.2.1,dL,L,(y.2.2:Int)))
   (fun s k=>s.1.length=k∧xr dT s.2 k)
   (fun s k hk hP=>by
    obtain ⟨hl,hn⟩:=hP
    have hc:xq L[k]=true:=Zp _ (List.getElem_mem hk)
    refine ⟨?_,fun s' F8=>?_⟩
    ·have JS:=hn.mv out L[k]
     obtain ⟨n1,n2,n3,n4⟩:=hn
     obtain ⟨q1,q2,q3,q4⟩:=JS
     obtain ⟨s1,s2,s3⟩:=fI L[k]
     obtain ⟨g1,g2⟩:=DB hc
     obtain ⟨_,_,r3⟩:=FU L k hk
     have r:=r3 (.inl hc)
     have a1:IntKind.wrap .i64 (s.2.1+IntKind.wrap .i64 ((if out then 1 else -1:Int) * (bg L[k]).1))=(mv out s.2 L[k]).1:=by
      have:(if out then 1 else -1:Int) * (bg L[k]).1=if out then (bg L[k]).1 else -(bg L[k]).1:=by cases out <;> simp
      rw [this,gf (x:=if out then (bg L[k]).1 else -(bg L[k]).1) (by split <;> omega)]
      exact gf (by simp only [mv] at q1 q2; omega)
     have a2:IntKind.wrap .i64 (s.2.2+(bg L[k]).2)=(mv out s.2 L[k]).2:=gf (by simp only [mv] at q3 q4; omega)
     have e8:decide ((s.1.length+1) * 40≤140737488355328)=true:=by simp only [decide_eq_true_eq]; omega
     have e9:=II s.1 (yB out s.2 L[k])
     simp only [nj,Int.toNat_natCast,BF hk,cond_true,r,g1,g2,a1,a2,qC hN,Option.bind_some,MF]
     by_cases Ag:aP (mv out s.2 L[k])=0
     ·have TM:List.map iT s.1++[AV.agg [AV.int .i32 (((L[k].toNat:Nat):Int)),AV.int .i64 s.2.1,AV.int .i64 s.2.2,AV.int .i64 (mv out s.2 L[k]).1,AV.int .i64 (mv out s.2 L[k]).2]]=List.map iT (s.1++[yB out s.2 L[k]]):=e9
      simp only [Ag,bne_self_eq_false,cond_false,if_true,TM,Om,On,m1,m2,m3,List.length_map,decide_true,Bool.true_and,Bool.and_true,e8,cond_true,Option.bind_some,List.length_append,List.length_cons,List.length_nil,Sum.map_inl]
     ·simp only [Ag,HV Ag,cond_true,if_false,m1,m2,m3,allFit,Bool.true_and,Bool.and_true,Option.bind_some,Sum.map_inr,hl,List.map_nil]
    ·unfold MF at F8
     split at F8
     ·cases F8
      exact ⟨by simp [hl],hn.mv out _⟩
     ·cases F8)
   (fun s _=>by
    simp only [nj,Int.toNat_natCast,yy (Nat.lt_irrefl _),cond_false,Om,On,m1,m2,m3,List.length_map,decide_true,Bool.and_true,cond_true,Option.bind_some])
   N ([],dT) 0 (Nat.zero_le _) (by unfold gQ at hN; omega) ⟨rfl,xr.zero dT⟩
  rw [List.drop_zero] at key
  have wq:a6 (V:=(List (Int × Int × Int × Int × Int)) × Int × Int × (List (Int × (Int × Int))) × (List UInt8) × Int) (X:=((List (Int × Int × Int × Int × Int)) × Int × Int × (List (Int × (Int × Int))) × (List UInt8) × Int) ⊕ (Unit × Int × Int × Int × (List (Int × (Int × Int))) × (List UInt8) × Int)) (nj N ((if out then 1 else -1:Int),dL)) N ([],dT.1,dT.2,dL,L,((0:Nat):Int))=_:=key
  rw [wq]
  obtain ⟨f1,f2⟩:=BG out L [] dT
  cases mL:(cz out dT L).all Pc with
  | true=>
   rw [f1 mL]
   simp only [Sum.elim_inl,Option.bind_some,Om,On,Bool.and_self,cond_true,if_true,List.nil_append]
  | false=>
   obtain ⟨y,hy⟩:=f2 mL
   rw [hy]
   simp only [Sum.elim_inr,Option.bind_some,Bool.false_eq_true,if_false]
   rfl
 ·have hw:walkErr dT w times out=eL dT w times:=by unfold walkErr; rw [if_neg h]
  rw [hw]
  simp only [HV h,cond_true,h,if_false]
  rfl
end
end Go.Proofs.YtophnjjjmikmeaaGreat
