/- Plain laws: knots,steps and walks. -/
import Derived.Test.YtophnjjjmikmeaaGreatOttPe
set_option linter.all false
namespace Go.Proofs.YtophnjjjmikmeaaGreat
open Go Go.Am
set_option maxRecDepth 100000
theorem FE (n:Nat) (h:n < 18446744073709551616):(BitVec.ofInt 64 (IntKind.wrap .i64 (n:Int))).toNat=n:=by
 rw [BitVec.toNat_ofInt,IntKind.wrap_i64]
 omega
theorem Zj (a b:Nat):(a ^^^ b) % 2=(a+b) % 2:=by
 have h:=Nat.xor_mod_two_pow (a:=a) (b:=b) (n:=1)
 rw [Nat.pow_one] at h
 rw [h]
 rcases Nat.mod_two_eq_zero_or_one a with ha | ha <;> rcases Nat.mod_two_eq_zero_or_one b with hb | hb <;> rw [ha,hb] <;> simp <;> omega
theorem Sq (x y:Int):(Hg .i64 (Hh .i64 x y) 1 != 0)=decide ((x+y) % 2≠0):=by
 have h1:(BitVec.ofInt 64 x ^^^ BitVec.ofInt 64 y).toNat < 18446744073709551616:=(BitVec.ofInt 64 x ^^^ BitVec.ofInt 64 y).isLt
 have h2:(BitVec.ofInt 64 1).toNat=1:=by decide
 have h3:Hg .i64 (Hh .i64 x y) 1=IntKind.wrap .i64 ((((BitVec.ofInt 64 x ^^^ BitVec.ofInt 64 y).toNat % 2:Nat)):Int):=by
  show IntKind.wrap .i64 (((BitVec.ofInt 64 (IntKind.wrap .i64 (((BitVec.ofInt 64 x ^^^ BitVec.ofInt 64 y).toNat:Nat):Int)) &&& BitVec.ofInt 64 1).toNat:Nat):Int)=_
  rw [BitVec.toNat_and,FE _ h1,h2,Nat.and_one_is_mod]
 rw [h3,jA (by omega),BitVec.toNat_xor,Zj,BitVec.toNat_ofInt,BitVec.toNat_ofInt]
 have e:((((x % ((2 ^ 64:Nat):Int)).toNat+(y % ((2 ^ 64:Nat):Int)).toNat) % 2:Nat):Int)=(x+y) % 2:=by omega
 rw [e]
 by_cases h:(x+y) % 2=0 <;> simp [h]
def aP (p:Int × Int):Int:=if p.1 < -100000∨p.1 > 100000∨p.2 < -100000∨p.2 > 100000 then 3 else if (p.1+p.2) % 2=0 then 0 else 14
theorem mJ {p:Int × Int} (h:aP p=0):-100000≤p.1∧p.1≤100000∧-100000≤p.2∧p.2≤100000∧(p.1+p.2) % 2=0:=by
 unfold aP at h
 split at h
 ·cases h
 ·split at h
  ·rename_i h1 h2; exact ⟨by omega,by omega,by omega,by omega,h2⟩
  ·cases h
theorem GN (N:Nat) (n lo hi:Int):Vp N (n,lo,hi)=some (uz n lo hi):=by
 rw [RA,Bq,Bq]
 unfold uz
 by_cases h1:n < lo
 ·simp [h1]
 ·by_cases h2:n > hi <;> simp [h1,h2]
theorem fc {N:Nat} (hN:gU N) (l:List Int) (hl:l.length≤9223372036854775806):DJ N l=some (bg l):=by
 obtain ⟨o,h1,h2⟩:=pS (rd:=Bo N l) l (fun k hk=>by
  simp only [Bo,List.length_map,Int.toNat_natCast,gB n30 l k hk,Y2,Y3,dy (show k < 9223372036854775807 by omega),cu hk,bP hk,Bool.and_self,cond_true]
  by_cases hz:l[k]=0
  ·simp [hz]
  ·simp [hz,Bool.cond_eq_ite]) (by simp only [Bo,List.length_map,du,cond_false]) N (by unfold gU at hN; omega)
 rw [Rx,h1,Option.bind_some]
 rcases o with o | o
 ·simpa using h2
 ·simpa using h2
theorem rN {N:Nat} (hN:gU N) (p:Int × Int):N3 N p=some (aP p):=by
 rw [RB,KY]
 simp only [GN,Option.bind_some,beq_self_eq_true,Bool.and_self,cond_true,allFit,Ip,Iq,List.map_cons,List.map_nil,fc hN _ (show [_,_].length≤9223372036854775806 by simp),Sq,Bq]
 unfold aP uz
 by_cases h1:p.1 < -100000∨p.1 > 100000
 ·have h:p.1 < -100000∨p.1 > 100000∨p.2 < -100000∨p.2 > 100000:=by omega
  rw [if_pos h,if_pos h1]
  cases decide ((p.1+p.2) % 2≠0) <;> simp [bg,allFit,Ip,Iq,fc hN _ (show [_,_].length≤9223372036854775806 by simp)]
 ·rw [if_neg h1]
  by_cases h2:p.2 < -100000∨p.2 > 100000
  ·have h:p.1 < -100000∨p.1 > 100000∨p.2 < -100000∨p.2 > 100000:=by omega
   rw [if_pos h,if_pos h2]
   cases decide ((p.1+p.2) % 2≠0) <;> simp [bg,allFit,Ip,Iq,fc hN _ (show [_,_].length≤9223372036854775806 by simp)]
  ·have h:¬ (p.1 < -100000∨p.1 > 100000∨p.2 < -100000∨p.2 > 100000):=by omega
   rw [if_neg h,if_neg h2]
   by_cases h3:(p.1+p.2) % 2=0 <;> simp [h3,bg,allFit,Ip,Iq,fc hN _ (show [_,_].length≤9223372036854775806 by simp)]
theorem xG (N:Nat) (p:Int × Int):N4 N p=some (aP p):=by
 rw [RU,K1,K1,RT]
 unfold aP
 by_cases h:p.1 < -100000∨p.1 > 100000∨p.2 < -100000∨p.2 > 100000
 ·rw [if_pos h]
  by_cases h1:p.1 < -100000 <;> by_cases h2:p.1 > 100000 <;> by_cases h3:p.2 < -100000 <;> by_cases h4:p.2 > 100000 <;> simp [h1,h2,h3,h4] <;> omega
 ·rw [if_neg h]
  have h1:¬ p.1 < -100000:=by omega
  have h2:¬ p.1 > 100000:=by omega
  have h3:¬ p.2 < -100000:=by omega
  have h4:¬ p.2 > 100000:=by omega
  rw [jA (x:=p.1+p.2) (by omega)]
  have e:((Int.tmod (p.1+p.2) 2) == 0)=decide ((p.1+p.2) % 2=0):=by
   by_cases h5:(p.1+p.2) % 2=0
   ·have:Int.tmod (p.1+p.2) 2=0:=Int.tmod_eq_zero_of_dvd (Int.dvd_of_emod_eq_zero h5)
    simp [h5,this]
   ·have:Int.tmod (p.1+p.2) 2≠0:=fun e=>h5 (Int.emod_eq_zero_of_dvd (Int.dvd_of_tmod_eq_zero e))
    simp [h5,this]
  rw [e]
  by_cases h5:(p.1+p.2) % 2=0 <;> simp [h1,h2,h3,h4,h5]
def mv (out:Bool) (p:Int × Int) (c:UInt8):Int × Int:=(p.1+(if out then (cR c).1 else -(cR c).1),p.2+(cR c).2)
abbrev DK:=Int × Int × Int × Int × Int
def DL (out:Bool) (p:Int × Int) (c:UInt8):DK:=((c.toNat:Int),p.1,p.2,(mv out p c).1,(mv out p c).2)
def dp (out:Bool):Int × Int→List UInt8→List DK
 | _,[]=>[]
 | p,c :: l=>DL out p c :: dp out (mv out p c) l
def GP (out:Bool) (p:Int × Int) (l:List UInt8):Int × Int:=l.foldl (mv out) p
def VO (s:DK):Int × Int:=(s.2.2.2.1,s.2.2.2.2)
def Bx (out:Bool) (p:Int × Int) (l:List UInt8):List (Int × Int):=p :: (dp out p l).map VO
theorem ph (out:Bool):∀ (l:List UInt8) (p:Int × Int),(dp out p l).length=l.length
 | [],_=>rfl
 | c :: l,p=>by simp [dp,ph out l]
theorem zZ (w:List UInt8):∀ n:Nat,dQ w (n+1)=dQ w n++w
 | 0=>by simp [dQ]
 | n+1=>by
  show w++dQ w (n+1)=w++dQ w n++w
  rw [zZ w n,List.append_assoc]
theorem fI (w:List UInt8):∀ n:Nat,(dQ w n).length=n * w.length
 | 0=>by simp [dQ]
 | n+1=>by
  show (w++dQ w n).length=_
  rw [List.length_append,fI w n,Nat.succ_mul]
  omega
theorem rO {w:List UInt8}:∀ {n:Nat} {c:UInt8},c∈dQ w n→c∈w
 | 0,c,h=>by simp [dQ] at h
 | n+1,c,h=>by
  rcases List.mem_append.1 (show c∈w++dQ w n from h) with h | h
  ·exact h
  ·exact rO h
def rP (p0 p:Int × Int) (m:Nat):Prop:=p0.1 - 2 * m≤p.1∧p.1≤p0.1+2 * m∧p0.2≤p.2∧p.2≤p0.2+2 * m
theorem rP.mv {p0 p:Int × Int} {m:Nat} (h:rP p0 p m) (out:Bool) (c:UInt8):rP p0 (mv out p c) (m+1):=by
 obtain ⟨h1,h2,h3,h4⟩:=h
 obtain ⟨s1,s2,s3⟩:=kz c
 cases out <;> simp only [rP,YtophnjjjmikmeaaGreat.mv,Bool.false_eq_true,if_false,if_true] <;> omega
theorem rP.zero (p:Int × Int):rP p p 0:=⟨by omega,by omega,by omega,by omega⟩
theorem rP.last {p0:Int × Int} (out:Bool):∀ (l:List UInt8) (p:Int × Int) (m:Nat),rP p0 p m→rP p0 (GP out p l) (m+l.length)
 | [],p,m,h=>h
 | c :: l,p,m,h=>by
  have:=rP.last out l (YtophnjjjmikmeaaGreat.mv out p c) (m+1) (h.mv out c)
  rw [show m+1+l.length=m+(c :: l).length by simp; omega] at this
  exact this
section walk
variable {N:Nat} (hN:gU N) (fg:Int × Int) (mR:-100000≤fg.1∧fg.1≤100000∧-100000≤fg.2∧fg.2≤100000) (w:List UInt8) (out:Bool)
include hN mR
end walk
def FF (p:Int × Int):Bool:=decide (p.1 < -100000) || (decide (p.1 > 100000) || decide (p.2 > 100000))
def fZ (fg:Int × Int) (w:List UInt8) (times:Int):Int:=bg [aP fg,eo w,uz times 1 256,if (w.length:Int) * times > 256 then 26 else 0]
def walkErr (fg:Int × Int) (w:List UInt8) (times:Int) (out:Bool):Int:=if fZ fg w times=0 then (if (Bx out fg (dQ w times.toNat)).any FF then 32 else 0) else fZ fg w times
theorem FG (fg:Int × Int) (w:List UInt8) (times:Int):fZ fg w times=if bg [aP fg,eo w,uz times 1 256]=0 then (if (w.length:Int) * times > 256 then 26 else 0) else bg [aP fg,eo w,uz times 1 256]:=by
 unfold fZ
 rw [show [aP fg,eo w,uz times 1 256,if (w.length:Int) * times > 256 then (26:Int) else 0]=[aP fg,eo w,uz times 1 256]++[if (w.length:Int) * times > 256 then (26:Int) else 0] from rfl,xz]
 by_cases h:bg [aP fg,eo w,uz times 1 256]=0
 ·rw [if_pos h,if_pos h]
  by_cases h2:(w.length:Int) * times > 256 <;> simp [h2,bg]
 ·rw [if_neg h,if_neg h]
structure By (fg:Int × Int) (w:List UInt8) (times:Int):Prop where
 hk:-100000≤fg.1∧fg.1≤100000∧-100000≤fg.2∧fg.2≤100000∧(fg.1+fg.2) % 2=0
 hw:w≠[]∧w.length≤64∧w.all yU=true
 ht:1≤times∧times≤256
 hl:w.length * times.toNat≤256
theorem Oc {n:Nat} {t:Int} (h:0≤t):(n:Int) * t=((n * t.toNat:Nat):Int):=by
 rw [Int.natCast_mul,Int.toNat_of_nonneg h]
theorem xH {fg:Int × Int} {w:List UInt8} {times:Int} (h:fZ fg w times=0):By fg w times:=by
 have hz:=iq.1 h
 simp only [List.mem_cons,List.not_mem_nil,or_false,forall_eq_or_imp,forall_eq] at hz
 obtain ⟨z1,z2,z3,z4⟩:=hz
 have r:=K9 z3
 refine ⟨mJ z1,xF z2,r,?_⟩
 split at z4
 ·cases z4
 ·rename_i h4
  rw [Oc (by omega)] at h4
  omega
def Sr (s:DK):Bool:=aP (VO s) == 0
def Good (out:Bool) (s:DK):Prop:=∃ p c,s=DL out p c∧yU c=true∧-110000≤p.1∧p.1≤110000∧-110000≤p.2∧p.2≤110000
theorem xI {p0:Int × Int} (h0:-100000≤p0.1∧p0.1≤100000∧-100000≤p0.2∧p0.2≤100000) (out:Bool):∀ (l:List UInt8) (p:Int × Int) (m:Nat),rP p0 p m→m+l.length≤1000→(∀ c∈l,yU c=true)→∀ s∈dp out p l,Good out s
 | [],p,m,_,_,_,s,hs=>by simp [dp] at hs
 | c :: l,p,m,hn,hm,hl,s,hs=>by
  simp only [dp,List.mem_cons] at hs
  rcases hs with rfl | hs
  ·obtain ⟨n1,n2,n3,n4⟩:=hn
   simp only [List.length_cons] at hm
   exact ⟨p,c,rfl,hl c (by simp),by omega,by omega,by omega,by omega⟩
  ·exact xI h0 out l (mv out p c) (m+1) (hn.mv out c) (by simp only [List.length_cons] at hm; omega) (fun x hx=>hl x (by simp [hx])) s hs
theorem La (out:Bool):∀ (l:List UInt8) (p:Int × Int),(p.1+p.2) % 2=0→-100000≤p.2→(∀ c∈l,yU c=true)→(dp out p l).all Sr=!((dp out p l).map VO).any FF
 | [],p,_,_,_=>rfl
 | c :: l,p,h1,h2,hl=>by
  have hs:(cR c).1+(cR c).2=2∧0≤(cR c).1∧0≤(cR c).2:=by have:=kz c; omega
  have m1:((mv out p c).1+(mv out p c).2) % 2=0:=by cases out <;> simp only [mv,Bool.false_eq_true,if_false,if_true] <;> omega
  have m2:-100000≤(mv out p c).2:=by simp only [mv]; omega
  have ih:=La out l (mv out p c) m1 m2 (fun x hx=>hl x (by simp [hx]))
  simp only [dp,List.all_cons,List.map_cons,List.any_cons,ih,Bool.not_or]
  congr 1
  have e:VO (DL out p c)=mv out p c:=rfl
  simp only [Sr,e]
  generalize mv out p c=q at m1 m2
  unfold aP FF
  by_cases b1:q.1 < -100000
  ·simp [b1]
  ·by_cases b2:q.1 > 100000
   ·simp [b2]
   ·by_cases b3:q.2 > 100000
    ·simp [b3]
    ·have b4:¬ q.2 < -100000:=by omega
     simp [b1,b2,b3,b4,m1]
def PE (out:Bool) (s:List DK × (Int × Int)) (c:UInt8):(List DK × (Int × Int)) ⊕ (Int × Int × Nat):=
 if aP (mv out s.2 c)=0 then .inl (s.1++[DL out s.2 c],mv out s.2 c) else .inr (s.2.1,s.2.2,s.1.length+1)
theorem Db (out:Bool):∀ (l:List UInt8) (a:List DK) (p:Int × Int),
  ((dp out p l).all Sr=true→foldI (PE out) (a,p) l=.inl (a++dp out p l,GP out p l))∧((dp out p l).all Sr=false→∃ y,foldI (PE out) (a,p) l=.inr y)
 | [],a,p=>⟨fun _=>by simp [foldI,dp,GP],fun h=>by simp [dp] at h⟩
 | c :: l,a,p=>by
  obtain ⟨i1,i2⟩:=Db out l (a++[DL out p c]) (mv out p c)
  have e:Sr (DL out p c)=(aP (mv out p c) == 0):=rfl
  simp only [dp,List.all_cons,e,foldI]
  by_cases hk:aP (mv out p c)=0
  ·simp only [PE,hk,if_true,Sum.elim_inl,beq_self_eq_true,Bool.true_and]
   refine ⟨fun h=>?_,i2⟩
   have:=i1 h
   rw [show foldI (PE out) (a++[DL out p c],mv out p c) l=_ from this]
   simp [GP]
  ·simp only [PE,hk,if_false,Sum.elim_inr]
   refine ⟨fun h=>?_,fun _=>⟨_,rfl⟩⟩
   simp [hk] at h
theorem Od {fg:Int × Int} {w:List UInt8} {times:Int} {out:Bool} (h:By fg w times):walkErr fg w times out=if fZ fg w times=0 then (if (dp out fg (dQ w times.toNat)).all Sr=true then 0 else 32) else fZ fg w times:=by
 unfold walkErr
 obtain ⟨k1,k2,k3,k4,k5⟩:=h.hk
 have hb:FF fg=false:=by
  unfold FF
  have b1:¬ fg.1 < -100000:=by omega
  have b2:¬ fg.1 > 100000:=by omega
  have b3:¬ fg.2 > 100000:=by omega
  simp [b1,b2,b3]
 have:=La out (dQ w times.toNat) fg k5 k3 (fun c hc=>List.all_eq_true.1 h.hw.2.2 c (rO hc))
 rw [this]
 simp only [Bx,List.any_cons,hb,Bool.false_or]
 cases ((dp out fg (dQ w times.toNat)).map VO).any FF <;> simp
section
variable {N:Nat} (hN:gU N) (fg:Int × Int) (w:List UInt8) (times:Int) (out:Bool)
include hN
theorem Lb:W5 N (fg,w,times)=some (fZ fg w times):=by
 rw [RM]
 simp only [rN hN,K8 hN,Ob,Option.bind_some,allFit,Ip,Iq,List.map_cons,List.map_nil,Bool.and_self,cond_true,zV hN _ (show [_,_,_].length≤9223372036854775806 by simp),rM]
 rw [FG]
 by_cases h:bg [aP fg,eo w,uz times 1 256]=0
 ·have hz:=iq.1 h
  simp only [List.mem_cons,List.not_mem_nil,or_false,forall_eq_or_imp,forall_eq] at hz
  obtain ⟨z1,z2,z3⟩:=hz
  have r:=K9 z3
  have hw:=xF z2
  have hm:(w.length:Int) * times≤64 * 256:=Int.le_trans (Int.mul_le_mul_of_nonneg_right (by omega) (by omega)) (Int.mul_le_mul_of_nonneg_left r.2 (by omega))
  have Z1:0≤(w.length:Int) * times:=Int.mul_nonneg (by omega) (by omega)
  simp only [h,bne_self_eq_false,cond_false,if_true]
  rw [jA (x:=(w.length:Int) * times) (by omega)]
  by_cases h2:(w.length:Int) * times > 256 <;> simp [h2]
 ·simp [h,Nh h]
omit hN in
theorem Lc (l:List DK) (s:DK):List.map nf l++[AV.agg [AV.int .i32 s.1,AV.int .i64 s.2.1,AV.int .i64 s.2.2.1,AV.int .i64 s.2.2.2.1,AV.int .i64 s.2.2.2.2]]=List.map nf (l++[s]):=by simp [nf,aj.enc,aK.enc]
theorem Iu:W6 N (fg,w,times,out)=some (if walkErr fg w times out=0 then (dp out fg (dQ w times.toNat),0) else ([],walkErr fg w times out)):=by
 rw [RQ,Lb hN]
 simp only [Option.bind_some]
 by_cases h:fZ fg w times=0
 ·have ok:=xH h
  obtain ⟨k1,k2,k3,k4,k5⟩:=ok.hk
  obtain ⟨w1,w2,w3⟩:=ok.hw
  have bK:=ok.hl
  rw [Od ok]
  obtain ⟨n,rfl⟩:∃ n:Nat,times=(n:Int):=⟨times.toNat,by have:=ok.ht; omega⟩
  have ht:=ok.ht
  rw [Int.toNat_natCast] at bK ⊢
  simp only [h,bne_self_eq_false,cond_false,if_true]
  have e1:cH .int (AV.int .i32 78) ([]:List (AV × AV))=true:=rfl
  have e2:cH .int (AV.int .i32 66) (bi .int (AV.int .i32 78) (AV.agg [(AV.int .i64 0),(AV.int .i64 2)]) ([]:List (AV × AV)))=true:=rfl
  have e3:cH .int (AV.int .i32 84) (bi .int (AV.int .i32 66) (AV.agg [(AV.int .i64 1),(AV.int .i64 1)]) (bi .int (AV.int .i32 78) (AV.agg [(AV.int .i64 0),(AV.int .i64 2)]) ([]:List (AV × AV))))=true:=rfl
  rw [e1,e2,e3]
  simp only [cond_true]
  have e4:∀ (sd:Int),(((bif (allFit (aj.fits n9) (ah (bi .int (AV.int .i32 84) (AV.agg [(AV.int .i64 2),(AV.int .i64 0)]) (bi .int (AV.int .i32 66) (AV.agg [(AV.int .i64 1),(AV.int .i64 1)]) (bi .int (AV.int .i32 78) (AV.agg [(AV.int .i64 0),(AV.int .i64 2)]) ([]:List (AV × AV))))))&&true) then some (sd,(List.map rK (ah (bi .int (AV.int .i32 84) (AV.agg [(AV.int .i64 2),(AV.int .i64 0)]) (bi .int (AV.int .i32 66) (AV.agg [(AV.int .i64 1),(AV.int .i64 1)]) (bi .int (AV.int .i32 78) (AV.agg [(AV.int .i64 0),(AV.int .i64 2)]) ([]:List (AV × AV)))))))) else none:Option (Int × (List (Int × (Int × Int))))).bind fun w2=>bif (bo (bi .int (AV.int .i32 84) (AV.agg [(AV.int .i64 2),(AV.int .i64 0)]) (bi .int (AV.int .i32 66) (AV.agg [(AV.int .i64 1),(AV.int .i64 1)]) (bi .int (AV.int .i32 78) (AV.agg [(AV.int .i64 0),(AV.int .i64 2)]) ([]:List (AV × AV)))))&&true) then some w2 else none))=some (sd,dW):=fun _=>rfl
  simp only [e4]
  have e5:((bif !out then some (-1,dW) else some (1,dW):Option (Int × (List (Int × (Int × Int))))))=some ((if out then 1 else -1:Int),dW):=by cases out <;> rfl
  rw [e5]
  simp only [Option.bind_some]
  have hrl:(dQ w n).length≤256:=by rw [fI,Nat.mul_comm]; exact bK
  have e6:Y8 N (w,(n:Int))=some (dQ w n):=by
   show uZ (w,(n:Int))=_
   have q1:decide ((0:Int)≤(n:Int))=true:=by simp
   have q2:decide ((n:Int)≤9223372036854775807)=true:=by simp only [decide_eq_true_eq]; omega
   have q3:decide (w.length * n≤140737488355328)=true:=by simp only [decide_eq_true_eq]; omega
   simp only [uZ,q1,q2,Int.toNat_natCast,q3,Bool.and_self,cond_true]
  obtain ⟨m1,m2,m3⟩:=It
  simp only [e6,Option.bind_some]
  generalize hL:dQ w n=L at hrl
  have hLl:∀ c∈L,yU c=true:=fun c hc=>List.all_eq_true.1 w3 c (rO (by rw [hL]; exact hc))
  rw [Bool.and_true] at m1 m3
  have e7:((bif (allFit (aj.fits DI) ([]:List AV)&&(allFit (aj.fits n9) (ah (ab (List.map dv dW)))&&true)) then some ((List.map d80 ([]:List AV)),fg.1,fg.2,(List.map rK (ah (ab (List.map dv dW)))),L,((0:Nat):Int)) else none:Option ((List (Int × Int × Int × Int × Int)) × Int × Int × (List (Int × (Int × Int))) × (List UInt8) × Int)).bind fun K0=>bif (bo (ab (List.map dv dW))&&(decide (0=(List.map nf K0.1).length)&&true)) then some K0 else none)=some ([],fg.1,fg.2,dW,L,((0:Nat):Int)):=rfl
  rw [e7,Option.bind_some]
  have key:=ky (rd:=oa N ((if out then 1 else -1:Int),dW)) L (fun (s:List DK × (Int × Int)) k=>(s.1,s.2.1,s.2.2,dW,L,(k:Int))) (PE out)
   (fun s=>.inl (s.1,s.2.1,s.2.2,dW,L,(L.length:Int))) (fun y=>.inr ((),32,y.1,y.2.1,dW,L,(y.2.2:Int)))
   (fun s k=>s.1.length=k∧rP fg s.2 k)
   (fun s k hk hP=>by
    obtain ⟨hl,hn⟩:=hP
    have hc:yU L[k]=true:=hLl _ (List.getElem_mem hk)
    refine ⟨?_,fun s' IP=>?_⟩
    ·have MF:=hn.mv out L[k]
     obtain ⟨n1,n2,n3,n4⟩:=hn
     obtain ⟨q1,q2,q3,q4⟩:=MF
     obtain ⟨s1,s2,s3⟩:=kz L[k]
     obtain ⟨g1,g2⟩:=FD hc
     obtain ⟨_,_,r3⟩:=Is L k hk
     have r:=r3 (.inl hc)
     have a1:IntKind.wrap .i64 (s.2.1+IntKind.wrap .i64 ((if out then 1 else -1:Int) * (cR L[k]).1))=(mv out s.2 L[k]).1:=by
      have:(if out then 1 else -1:Int) * (cR L[k]).1=if out then (cR L[k]).1 else -(cR L[k]).1:=by cases out <;> simp
      rw [this,jA (x:=if out then (cR L[k]).1 else -(cR L[k]).1) (by split <;> omega)]
      exact jA (by simp only [mv] at q1 q2; omega)
     have a2:IntKind.wrap .i64 (s.2.2+(cR L[k]).2)=(mv out s.2 L[k]).2:=jA (by simp only [mv] at q3 q4; omega)
     have e8:decide ((s.1.length+1) * 40≤140737488355328)=true:=by simp only [decide_eq_true_eq]; omega
     have e9:=Lc s.1 (DL out s.2 L[k])
     simp only [oa,Int.toNat_natCast,Da hk,cond_true,r,g1,g2,a1,a2,rN hN,Option.bind_some,PE]
     by_cases yx:aP (mv out s.2 L[k])=0
     ·have Xd:List.map nf s.1++[AV.agg [AV.int .i32 (((L[k].toNat:Nat):Int)),AV.int .i64 s.2.1,AV.int .i64 s.2.2,AV.int .i64 (mv out s.2 L[k]).1,AV.int .i64 (mv out s.2 L[k]).2]]=List.map nf (s.1++[DL out s.2 L[k]]):=e9
      simp only [yx,bne_self_eq_false,cond_false,if_true,Xd,Rt,Ru,m1,m2,m3,List.length_map,decide_true,Bool.true_and,Bool.and_true,e8,cond_true,Option.bind_some,List.length_append,List.length_cons,List.length_nil,Sum.map_inl]
     ·simp only [yx,Nh yx,cond_true,if_false,m1,m2,m3,allFit,Bool.true_and,Bool.and_true,Option.bind_some,Sum.map_inr,hl,List.map_nil]
    ·unfold PE at IP
     split at IP
     ·cases IP
      exact ⟨by simp [hl],hn.mv out _⟩
     ·cases IP)
   (fun s _=>by
    simp only [oa,Int.toNat_natCast,zX (Nat.lt_irrefl _),cond_false,Rt,Ru,m1,m2,m3,List.length_map,decide_true,Bool.and_true,cond_true,Option.bind_some])
   N ([],fg) 0 (Nat.zero_le _) (by unfold gU at hN; omega) ⟨rfl,rP.zero fg⟩
  rw [List.drop_zero] at key
  have pU:aZ (V:=(List (Int × Int × Int × Int × Int)) × Int × Int × (List (Int × (Int × Int))) × (List UInt8) × Int) (X:=((List (Int × Int × Int × Int × Int)) × Int × Int × (List (Int × (Int × Int))) × (List UInt8) × Int) ⊕ (Unit × Int × Int × Int × (List (Int × (Int × Int))) × (List UInt8) × Int)) (oa N ((if out then 1 else -1:Int),dW)) N ([],fg.1,fg.2,dW,L,((0:Nat):Int))=_:=key
  rw [pU]
  obtain ⟨f1,f2⟩:=Db out L [] fg
  cases nI:(dp out fg L).all Sr with
  | true=>
   rw [f1 nI]
   simp only [Sum.elim_inl,Option.bind_some,Rt,Ru,Bool.and_self,cond_true,if_true,List.nil_append]
  | false=>
   obtain ⟨y,hy⟩:=f2 nI
   rw [hy]
   simp only [Sum.elim_inr,Option.bind_some,Bool.false_eq_true,if_false]
   rfl
 ·have hw:walkErr fg w times out=fZ fg w times:=by unfold walkErr; rw [if_neg h]
  rw [hw]
  simp only [Nh h,cond_true,h,if_false]
  rfl
end
end Go.Proofs.YtophnjjjmikmeaaGreat
