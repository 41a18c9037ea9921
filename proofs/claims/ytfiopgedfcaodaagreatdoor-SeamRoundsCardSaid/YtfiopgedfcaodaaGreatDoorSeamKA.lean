/- Plain laws: joins of meshes. -/
import Derived.Test.YtfiopgedfcaodaaGreatDoorSeamT
import Derived.Test.YtfiopgedfcaodaaGreatDoorAmKK
import Derived.Test.YtfiopgedfcaodaaGreatDoorSeamTe
import Derived.Test.YtfiopgedfcaodaaGreatDoorSeamTr
set_option linter.all false
namespace Go.Proofs.YtfiopgedfcaodaaGreatDoor
open Go Go.Am
set_option maxRecDepth 100000
theorem T91_when (N:Nat) (b:Bool) (e:Int):T91 N (b,e)=some (if b then e else 0):=by rw [T91_eq]; cases b <;> rfl
theorem T93_rng (N:Nat) (n lo hi:Int):T93 N (n,lo,hi)=some (rng n lo hi):=by
 rw [T93_eq,T91_when,T91_when]
 unfold rng
 by_cases h1:n < lo
 ·simp [h1]
 ·by_cases h2:n > hi <;> simp [h1,h2]
theorem T90_first {N:Nat} (hN:Big N) (l:List Int) (hl:l.length≤9223372036854775806):T90 N l=some (firstNZ l):=by
 obtain ⟨o,h1,h2⟩:=first_loop (rd:=R90x26 N l) l (fun k hk=>by
  have hd:=nthD_map n24 l k hk
  have e1:d24 (nthD (List.map n24 l) k)=l[k]:=by rw [hd]; rfl
  have e2:Pat.fits p24 (nthD (List.map n24 l) k)=true:=by rw [hd]; rfl
  simp only [R90x26,List.length_map,Int.toNat_natCast,e1,e2,w_succ (show k < 9223372036854775807 by omega),lt_range hk,in_range hk,Bool.and_self,cond_true]
  by_cases hz:l[k]=0
  ·simp [hz]
  ·simp [hz,Bool.cond_eq_ite]) (by simp only [R90x26,List.length_map,ge_range,cond_false]) N (by unfold Big at hN; omega)
 rw [T90_eq,h1,Option.bind_some]
 rcases o with o | o
 ·simpa using h2
 ·simpa using h2
theorem two24 (x y:Int):((bif (allFit (Pat.fits p24) [(AV.int .i64 x),(AV.int .i64 y)]&&true) then some (List.map d24 [(AV.int .i64 x),(AV.int .i64 y)]) else none:Option ((List Int))))=some [x,y]:=rfl
theorem three24 (x y z:Int):((bif (allFit (Pat.fits p24) [(AV.int .i64 x),(AV.int .i64 y),(AV.int .i64 z)]&&true) then some (List.map d24 [(AV.int .i64 x),(AV.int .i64 y),(AV.int .i64 z)]) else none:Option ((List Int))))=some [x,y,z]:=rfl
def chkM (m n:Int):Int:=firstNZ [rng m 1 256,rng n 1 256]
theorem chkM_ok {m n:Int} (h:chkM m n=0):1≤m∧m≤256∧1≤n∧n≤256:=by
 have:=firstNZ_zero.1 h
 have h1:=this (rng m 1 256) (by simp)
 have h2:=this (rng n 1 256) (by simp)
 unfold rng at h1 h2
 split at h1
 ·cases h1
 ·split at h2
  ·cases h2
  ·omega
theorem T86_chk {N:Nat} (hN:Big N) (m n:Int):T86 N (m,n)=some (chkM m n):=by
 rw [T86_eq,T93_rng,T93_rng]
 simp only [Option.bind_some]
 rw [two24,Option.bind_some,T90_first hN _ (by simp)]
 rfl
def fol (m n:Int) (a b:Int × Int):Bool:=
 (IntKind.wrap .i64 (b.1 - a.1) == 1 || (IntKind.wrap .i64 (b.1 - a.1) == 0&&decide (m < n)))&&(IntKind.wrap .i64 (b.2 - a.2) == 1 || (IntKind.wrap .i64 (b.2 - a.2) == 0&&decide (n < m)))
theorem T92_fol (N:Nat) (m n:Int) (a b:Int × Int):T92 N (m,n,a,b)=some (fol m n a b):=by
 rw [T92_eq]
 unfold fol
 generalize IntKind.wrap .i64 (b.1 - a.1)=x
 generalize IntKind.wrap .i64 (b.2 - a.2)=y
 cases (x == 1) <;> cases (x == 0) <;> cases (y == 1) <;> cases (y == 0) <;> by_cases h:m < n <;> simp [h]
def lng (m n:Int):Int:=if n > m then n else m
def jnA (m n:Int) (k:Nat):Int × Int:=((k:Int) * m / lng m n,(k:Int) * n / lng m n)
def jns (m n:Int):List (Int × Int):=(List.range (lng m n).toNat).map (jnA m n)
theorem snoc46 (l:List (Int × Int)) (a b:Int):List.map n46 l++[AV.agg [AV.int .i64 a,AV.int .i64 b]]=List.map n46 (l++[(a,b)]):=by
 rw [List.map_append]; rfl
section joins
variable {m n:Int} (hm:1≤m) (hm':m≤256) (hn:1≤n) (hn':n≤256)
include hm hm' hn hn'
theorem lng_in:1≤lng m n∧lng m n≤256:=by unfold lng; split <;> omega
theorem jn_div {k:Nat} (hk:(k:Int) < lng m n):IntKind.wrap .i64 (Int.tdiv (IntKind.wrap .i64 ((k:Int) * m)) (lng m n))=(k:Int) * m / lng m n∧IntKind.wrap .i64 (Int.tdiv (IntKind.wrap .i64 ((k:Int) * n)) (lng m n))=(k:Int) * n / lng m n:=by
 have hl:=lng_in hm hm' hn hn'
 have b1:0≤(k:Int) * m:=Int.mul_nonneg (by omega) (by omega)
 have b2:(k:Int) * m≤256 * 256:=Int.mul_le_mul (by omega) hm' (by omega) (by omega)
 have b3:0≤(k:Int) * n:=Int.mul_nonneg (by omega) (by omega)
 have b4:(k:Int) * n≤256 * 256:=Int.mul_le_mul (by omega) hn' (by omega) (by omega)
 rw [w64 (x:=(k:Int) * m) (by omega),w64 (x:=(k:Int) * n) (by omega)]
 exact ⟨div_in b1 (by omega) (by omega),div_in b3 (by omega) (by omega)⟩
theorem T17_jns {N:Nat} (hN:Big N) (hc:chkM m n=0):T17 N (m,n)=some (jns m n,0):=by
 have hl:=lng_in hm hm' hn hn'
 have hz:¬ lng m n=0:=by omega
 rw [T17_eq,T86_chk hN,Option.bind_some,hc]
 have key:=loopR_count (rd:=R17x158x14 N m n) (lng m n).toNat (fun k=>((k:Int),m,n,(List.range k).map (jnA m n))) (m,n,jns m n) (fun k hk=>by
  have hk':(k:Int) < lng m n:=by omega
  have hb:(k+1) * 16≤140737488355328:=by omega
  obtain ⟨e1,e2⟩:=jn_div hm hm' hn hn' hk'
  have hlg:(if n > m then n else m)=lng m n:=rfl
  simp only [R17x158x14,hlg,hk',hz,decide_true,decide_false,Bool.not_false,cond_true,e1,e2,snoc46,fa46,md46,List.length_map,List.length_range,List.length_append,List.length_singleton,hb,Bool.and_true,Option.bind_some,w_succ (show k < 9223372036854775807 by omega)]
  rw [List.range_succ,List.map_append]
  rfl) (by
  have hk':¬ (((lng m n).toNat:Nat):Int) < lng m n:=by omega
  have hlg:(if n > m then n else m)=lng m n:=rfl
  simp only [R17x158x14,hlg,hk',decide_false,cond_false,fa46,md46,List.length_map,decide_true,Bool.and_true,cond_true,Option.bind_some]
  rfl)
 have:=key N 0 (Nat.zero_le _) (by unfold Big at hN; omega)
 simp only [List.range_zero,List.map_nil] at this
 show ((loopR (R17x158x14 N m n) N (0,m,n,[])).bind fun o8=>_)=_
 rw [show ((0:Int),m,n,([]:List (Int × Int)))=(((0:Nat):Int),m,n,[]) from rfl,this,Option.bind_some]
 simp only [fa46,md46,cond_true,Bool.and_true]
end joins
section take
variable {m n:Int} (hm:1≤m) (hm':m≤256) (hn:1≤n) (hn':n≤256)
include hm hm' hn hn'
end take
def errJ (m n:Int) (l:List (Int × Int)) (k:Nat):Int:=
 let p:=l.getD k (0,0)
 if p.1 < 0∨p.1 > m - 1∨p.2 < 0∨p.2 > n - 1 then 3
 else if (if k=0 then !(p == (0,0)) else !(fol m n (l.getD (k - 1) (0,0)) p)) then 11 else 0
def chkJ (m n:Int) (l:List (Int × Int)):Int:=
 if chkM m n≠0 then chkM m n
 else if (l.length:Int)≠lng m n then 2
 else if firstNZ ((List.range l.length).map (errJ m n l))≠0 then firstNZ ((List.range l.length).map (errJ m n l))
 else if l.getD (l.length - 1) (0,0) == (m - 1,n - 1) then 0 else 15
theorem at46 (l:List (Int × Int)) {k:Nat} (hk:k < l.length):d46 (nthD (List.map n46 l) k)=l.getD k (0,0)∧Pat.fits p46 (nthD (List.map n46 l) k)=true:=by
 rw [nthD_map n46 l k hk,dn46,fn46]
 simp [hk]
theorem pair_beq (p:Int × Int) (a b:Int):(p == (a,b))=(p.1 == a&&(p.2 == b&&true)):=by
 rw [Bool.and_true]; rfl
theorem errs_get (m n:Int) (l:List (Int × Int)) {k:Nat} (hk:k < l.length):((List.range l.length).map (errJ m n l))[k]'(by simpa using hk)=errJ m n l k:=by simp
section chk
variable {N:Nat} (hN:Big N) {m n:Int} (l:List (Int × Int)) (hl:l.length≤1000000)
include hN hl
theorem T19_chk:T19 N (m,n,l)=some (chkJ m n l):=by
 rw [T19_eq,T86_chk hN,T91_when]
 simp only [Option.bind_some,List.length_map]
 rw [two24,Option.bind_some,T90_first hN _ (by simp),Option.bind_some]
 unfold chkJ
 have hlg:(if n > m then n else m)=lng m n:=rfl
 rw [hlg]
 by_cases h0:chkM m n=0
 ·obtain ⟨hm,hm',hn,hn'⟩:=chkM_ok h0
  have hl':=lng_in hm hm' hn hn'
  simp only [h0,ne_eq,not_true_eq_false,if_false]
  by_cases h1:(l.length:Int)=lng m n
  ·have e1:firstNZ [(0:Int),if ((l.length:Int) != lng m n)=true then 2 else 0]=0:=by simp [firstNZ,h1]
   rw [e1]
   simp only [bne_self_eq_false,cond_false,h1,not_true_eq_false,if_false]
   rw [← h1]
   have hlen:0 < l.length:=by omega
   have hm1:IntKind.wrap .i64 (m - 1)=m - 1:=w64 (by omega)
   have hn1:IntKind.wrap .i64 (n - 1)=n - 1:=w64 (by omega)
   have hlast:IntKind.wrap .i64 ((l.length:Int) - 1)=((l.length - 1:Nat):Int):=by rw [w64 (by omega)]; omega
   have q1:=first_loop2 (rd:=R19x58 N m n l) ((List.range l.length).map (errJ m n l)) (fun k hk=>by
    have hk:k < l.length:=by simpa using hk
    rw [errs_get m n l hk]
    obtain ⟨a1,a2⟩:=at46 l hk
    simp only [R19x58,List.length_map,Int.toNat_natCast,a1,a2,lt_range hk,in_range hk,Bool.and_self,cond_true,beq_self_eq_true,T93_rng,T91_when,hm1,hn1,Option.bind_some,w_succ (show k < 9223372036854775807 by omega)]
    have late:((bif (decide ((k:Int) > 0)) then bif (decide ((0:Int)≤(IntKind.wrap .i64 ((k:Int) - 1))∧(IntKind.wrap .i64 ((k:Int) - 1)) < (l.length:Int))&&Pat.fits p46 (nthD (List.map n46 l) (Int.toNat (IntKind.wrap .i64 ((k:Int) - 1))))) then (T92 N (m,n,((d46 (nthD (List.map n46 l) (Int.toNat (IntKind.wrap .i64 ((k:Int) - 1))))).1,(d46 (nthD (List.map n46 l) (Int.toNat (IntKind.wrap .i64 ((k:Int) - 1))))).2),((l.getD k (0,0)).1,(l.getD k (0,0)).2))).bind fun y6=>(some (!y6)) else none else (some (!((l.getD k (0,0)).1 == 0&&((l.getD k (0,0)).2 == 0&&true)))):Option Bool))=some (if k=0 then !(l.getD k (0,0) == (0,0)) else !(fol m n (l.getD (k - 1) (0,0)) (l.getD k (0,0)))):=by
     by_cases hk0:k=0
     ·subst hk0
      simp [pair_beq]
     ·have hk1:k - 1 < l.length:=by omega
      have hw:IntKind.wrap .i64 ((k:Int) - 1)=((k - 1:Nat):Int):=by rw [w64 (by omega)]; omega
      obtain ⟨b1,b2⟩:=at46 l hk1
      have hgt:decide ((k:Int) > 0)=true:=by simp; omega
      simp only [hw,hgt,Int.toNat_natCast,b1,b2,in_range hk1,Bool.and_self,cond_true,T92_fol,Option.bind_some,hk0,if_false]
    simp only [Bool.and_true] at late ⊢
    rw [late]
    simp only [Option.bind_some]
    have h3:=three24 (rng (l.getD k (0,0)).1 0 (m - 1)) (rng (l.getD k (0,0)).2 0 (n - 1)) (if (if k=0 then !(l.getD k (0,0) == (0,0)) else !(fol m n (l.getD (k - 1) (0,0)) (l.getD k (0,0))))=true then 11 else 0)
    simp only [Bool.and_true] at h3
    rw [h3,Option.bind_some,T90_first hN _ (by simp),Option.bind_some]
    have e:firstNZ [rng (l.getD k (0,0)).1 0 (m - 1),rng (l.getD k (0,0)).2 0 (n - 1),if (if k=0 then !(l.getD k (0,0) == (0,0)) else !(fol m n (l.getD (k - 1) (0,0)) (l.getD k (0,0))))=true then 11 else 0]=errJ m n l k:=by
     unfold errJ rng
     simp only [firstNZ]
     generalize (if k=0 then !(l.getD k (0,0) == (0,0)) else !(fol m n (l.getD (k - 1) (0,0)) (l.getD k (0,0))))=b
     generalize l.getD k (0,0)=p
     by_cases c1:p.1 < 0∨p.1 > m - 1
     ·have c2:p.1 < 0∨p.1 > m - 1∨p.2 < 0∨p.2 > n - 1:=by omega
      simp [c1,c2]
     ·by_cases c3:p.2 < 0∨p.2 > n - 1
      ·have c2:p.1 < 0∨p.1 > m - 1∨p.2 < 0∨p.2 > n - 1:=by omega
       simp [c1,c3,c2]
      ·have c2:¬ (p.1 < 0∨p.1 > m - 1∨p.2 < 0∨p.2 > n - 1):=by omega
       cases b <;> simp [c1,c3,c2]
    rw [e]
    by_cases hz:errJ m n l k=0
    ·simp [hz]
    ·simp [hz,Bool.cond_eq_ite]) (by simp only [R19x58,List.length_map,List.length_range,ge_range,cond_false]) N (by unfold Big at hN; simp; omega)
   rw [q1,Option.bind_some]
   obtain ⟨b1,b2⟩:=at46 l (k:=l.length - 1) (by omega)
   by_cases hf:firstNZ ((List.range l.length).map (errJ m n l))=0
   ·simp only [hf,if_true,Sum.elim_inr,not_true_eq_false,if_false]
    rw [hlast,Int.toNat_natCast,b1,b2,in_range (show l.length - 1 < l.length by omega)]
    simp only [Bool.and_self,cond_true,T91_when,Option.bind_some,hm1,hn1,pair_beq]
    cases ((l.getD (l.length - 1) (0,0)).1 == m - 1&&((l.getD (l.length - 1) (0,0)).2 == n - 1&&true)) <;> rfl
   ·simp only [hf,if_false,Sum.elim_inl,not_false_eq_true,if_true]
  ·have e1:firstNZ [(0:Int),if ((l.length:Int) != lng m n)=true then 2 else 0]=2:=by
    have:((l.length:Int) != lng m n)=true:=by simpa using h1
    simp [firstNZ,h1]
   rw [e1,if_pos h1]
   rfl
 ·have e1:firstNZ [chkM m n,if ((l.length:Int) != lng m n)=true then 2 else 0]=chkM m n:=by simp [firstNZ,h0]
  rw [e1,if_pos h0]
  have hb:(chkM m n != 0)=true:=by simpa using h0
  rw [hb]
  rfl
end chk
theorem T20_same (N:Nat) (l:List (Int × Int)) (hl:l.length≤1000000):T20 N l=some l:=by
 rw [T20_eq]
 cases l with
 | nil=>rfl
 | cons p l=>
  have h1:List.isEmpty (List.map n46 (p :: l))=false:=rfl
  have h2:decide ((0+List.length (List.map n46 (p :: l))) * 16≤140737488355328)=true:=by
   rw [List.length_map]
   exact decide_eq_true (by omega)
  simp only [h1,h2,cond_false,cond_true,List.nil_append,fa46,md46,Bool.and_true,Option.bind_some]
theorem T24_same {N:Nat} (hN:Big N) (l:List (Int × Int)) (hl:l.length≤1000000):T24 N (l,l)=some true:=by
 rw [T24_eq]
 simp only [bne_self_eq_false,cond_false,List.length_map]
 have key:=loopR_count (rd:=R24x58 N l l) l.length (fun k=>(k:Int)) (.inr ()) (fun k hk=>by
  obtain ⟨a1,a2⟩:=at46 l hk
  simp only [R24x58,List.length_map,Int.toNat_natCast,a1,a2,lt_range hk,in_range hk,Bool.and_self,cond_true,beq_self_eq_true,Bool.not_true,cond_false,w_succ (show k < 9223372036854775807 by omega)]) (by
  simp only [R24x58,List.length_map,ge_range,cond_false]) N 0 (Nat.zero_le _) (by unfold Big at hN; omega)
 have key':loopR (R24x58 N l l) N 0=some (.inr ()):=key
 rw [key',Option.bind_some]
 rfl
end Go.Proofs.YtfiopgedfcaodaaGreatDoor
namespace Go.Proofs.YtfiopgedfcaodaaGreatDoor
open Go Go.Am
set_option maxRecDepth 100000
def knotErr (p:Int × Int):Int:=if p.1 < -100000∨p.1 > 100000∨p.2 < -100000∨p.2 > 100000 then 3 else if (p.1+p.2) % 2=0 then 0 else 14
end Go.Proofs.YtfiopgedfcaodaaGreatDoor
namespace Go.Proofs.YtfiopgedfcaodaaGreatDoor
open Go Go.Am
set_option maxRecDepth 100000
theorem at3 (l:List Int) {k:Nat} (hk:k < l.length):d3 (nthD (List.map n3 l) k)=l[k]∧Pat.fits p3 (nthD (List.map n3 l) k)=true:=by
 rw [nthD_map n3 l k hk,dn3,fn3]
 exact ⟨rfl,rfl⟩
theorem snoc3 (l:List Int) (a:Int):List.map n3 l++[AV.int .i64 a]=List.map n3 (l++[a]):=by
 rw [List.map_append]; rfl
def stR (s:Int) (x:Int):Int ⊕ Int:=if rng x 1 256=0 then .inl (s+x) else .inr (rng x 1 256)
def chkR (l:List Int):Int:=
 if l.length=0 then 12 else if l.length > 256 then 5 else Sum.elim (fun s=>if s > 256 then 4 else 0) (fun e=>e) (foldI stR 0 l)
theorem rng_ok {x:Int} (h:rng x 1 256=0):1≤x∧x≤256:=by
 unfold rng at h
 split at h
 ·cases h
 ·omega
section
variable {N:Nat} (hN:Big N) (l:List Int) (hl:l.length≤1000000)
include hN hl
theorem T136_chk:T136 N l=some (chkR l):=by
 rw [T136_eq,T91_when,T91_when]
 simp only [Option.bind_some,List.length_map]
 rw [two24,Option.bind_some,T90_first hN _ (by simp),Option.bind_some]
 unfold chkR
 by_cases h0:l.length=0
 ·have hb:((l.length:Int) == 0)=true:=by simp [h0]
  rw [if_pos h0]
  simp [firstNZ,hb]
 ·have hb:((l.length:Int) == 0)=false:=beq_false_of_ne (by omega)
  rw [if_neg h0]
  by_cases h1:l.length > 256
  ·have h1':(l.length:Int) > 256:=by omega
   rw [if_pos h1]
   simp [firstNZ,hb,h1']
  ·have h1':¬ (l.length:Int) > 256:=by omega
   rw [if_neg h1]
   have e0:firstNZ [if ((l.length:Int) == 0)=true then (12:Int) else 0,if decide ((l.length:Int) > 256)=true then 5 else 0]=0:=by simp [firstNZ,hb,h1']
   rw [e0]
   simp only [bne_self_eq_false,cond_false]
   have key:=loopR_fold (rd:=R136x122 N l) (S:=Int) (Y:=Int) l (fun s k=>(s,(k:Int))) stR (fun s=>.inr s) (fun e=>.inl e) (fun s k=>0≤s∧s≤256 * (k:Int)) (fun s k hk hs=>by
    obtain ⟨a1,a2⟩:=at3 l hk
    refine ⟨?_,fun s' h=>?_⟩
    ·simp only [R136x122,List.length_map,Int.toNat_natCast,a1,a2,lt_range hk,in_range hk,Bool.and_self,cond_true,T93_rng,Option.bind_some,w_succ (show k < 9223372036854775807 by omega)]
     unfold stR
     by_cases hz:rng l[k] 1 256=0
     ·have:=rng_ok hz
      have hw:IntKind.wrap .i64 (s+l[k])=s+l[k]:=w64 (by omega)
      simp only [hz,bne_self_eq_false,cond_false,if_true,hw,Sum.map_inl]
     ·have hz':(rng l[k] 1 256 != 0)=true:=bne_iff_ne.2 hz
      simp only [hz,hz',cond_true,if_false,Sum.map_inr]
    ·unfold stR at h
     split at h
     ·rename_i hz
      have:=rng_ok hz
      injection h with h
      rw [← h]
      omega
     ·cases h) (fun s hs=>by simp only [R136x122,List.length_map,ge_range,cond_false]) N 0 0 (Nat.zero_le _) (by unfold Big at hN; omega) ⟨Int.le_refl _,by simp⟩
   have key':loopR (R136x122 N l) N (0,0)=_:=key
   rw [key',Option.bind_some,List.drop_zero]
   cases foldI stR 0 l with
   | inl s=>
    simp only [Sum.elim_inl,Sum.elim_inr,T91_when,Option.bind_some]
    by_cases h:s > 256 <;> simp [h]
   | inr e=>rfl
theorem T63_chk:T63 N l=some (chkR l):=by
 rw [T63_eq]
 simp only [List.length_map]
 unfold chkR
 by_cases h0:l.length=0
 ·have hb:((l.length:Int) == 0)=true:=by simp [h0]
  rw [if_pos h0,hb]
  rfl
 ·have hb:((l.length:Int) == 0)=false:=beq_false_of_ne (by omega)
  rw [if_neg h0,hb]
  by_cases h1:l.length > 256
  ·have h1':(l.length:Int) > 256:=by omega
   rw [if_pos h1]
   simp only [cond_false,h1',decide_true,cond_true]
  ·have h1':¬ (l.length:Int) > 256:=by omega
   rw [if_neg h1]
   simp only [cond_false,h1',decide_false]
   have key:=loopR_fold (rd:=R63x250 N l) (S:=Int) (Y:=Int) l (fun s k=>(s,(k:Int))) stR (fun s=>.inr s) (fun e=>.inl e) (fun s k=>0≤s∧s≤256 * (k:Int)) (fun s k hk hs=>by
    obtain ⟨a1,a2⟩:=at3 l hk
    refine ⟨?_,fun s' h=>?_⟩
    ·simp only [R63x250,List.length_map,Int.toNat_natCast,a1,a2,lt_range hk,in_range hk,Bool.and_self,cond_true,w_succ (show k < 9223372036854775807 by omega)]
     unfold stR
     by_cases hz:rng l[k] 1 256=0
     ·have:=rng_ok hz
      have hw:IntKind.wrap .i64 (s+l[k])=s+l[k]:=w64 (by omega)
      have c1:¬ l[k] < 1:=by omega
      have c2:¬ l[k] > 256:=by omega
      simp only [c1,c2,decide_false,cond_false,Option.bind_some,hz,if_true,hw,Sum.map_inl]
     ·have h3:rng l[k] 1 256=3:=by unfold rng at hz ⊢; split <;> simp_all
      have hc:l[k] < 1∨l[k] > 256:=by
       unfold rng at h3; split at h3
       ·assumption
       ·cases h3
      rw [h3]
      by_cases c1:l[k] < 1
      ·simp [c1]
      ·have c2:l[k] > 256:=by omega
       simp [c1,c2]
    ·unfold stR at h
     split at h
     ·rename_i hz
      have:=rng_ok hz
      injection h with h
      rw [← h]
      omega
     ·cases h) (fun s hs=>by simp only [R63x250,List.length_map,ge_range,cond_false]) N 0 0 (Nat.zero_le _) (by unfold Big at hN; omega) ⟨Int.le_refl _,by simp⟩
   have key':loopR (R63x250 N l) N (0,0)=_:=key
   rw [key',Option.bind_some,List.drop_zero]
   cases foldI stR 0 l with
   | inl s=>
    simp only [Sum.elim_inl,Sum.elim_inr]
    by_cases h:s > 256 <;> simp [h]
   | inr e=>rfl
end
theorem foldR_ok:∀ (l:List Int) (s s':Int),foldI stR s l=.inl s'→(∀ x∈l,1≤x∧x≤256)∧s'=s+l.sum
 | [],s,s',h=>by cases h; simp
 | x :: l,s,s',h=>by
  unfold foldI at h
  by_cases hz:rng x 1 256=0
  ·have e:stR s x=.inl (s+x):=by unfold stR; rw [if_pos hz]
   rw [e,Sum.elim_inl] at h
   obtain ⟨h1,h2⟩:=foldR_ok l _ _ h
   refine ⟨fun y hy=>?_,by rw [h2,List.sum_cons]; omega⟩
   rcases List.mem_cons.1 hy with rfl | hy
   ·exact rng_ok hz
   ·exact h1 y hy
  ·have e:stR s x=.inr (rng x 1 256):=by unfold stR; rw [if_neg hz]
   rw [e,Sum.elim_inr] at h
   cases h
theorem foldR_err:∀ (l:List Int) (s e:Int),foldI stR s l=.inr e→e≠0
 | [],s,e,h=>by cases h
 | x :: l,s,e,h=>by
  unfold foldI at h
  by_cases hz:rng x 1 256=0
  ·have e1:stR s x=.inl (s+x):=by unfold stR; rw [if_pos hz]
   rw [e1,Sum.elim_inl] at h
   exact foldR_err l _ _ h
  ·have e1:stR s x=.inr (rng x 1 256):=by unfold stR; rw [if_neg hz]
   rw [e1,Sum.elim_inr] at h
   injection h with h
   rw [← h]; exact hz
theorem chkR_ok {l:List Int} (h:chkR l=0):1≤l.length∧l.length≤256∧(∀ x∈l,1≤x∧x≤256)∧l.sum≤256:=by
 unfold chkR at h
 split at h
 ·cases h
 ·split at h
  ·cases h
  ·cases hf:foldI stR 0 l with
   | inl s=>
    rw [hf,Sum.elim_inl] at h
    obtain ⟨h1,h2⟩:=foldR_ok l _ _ hf
    refine ⟨by omega,by omega,h1,?_⟩
    split at h
    ·cases h
    ·omega
   | inr e=>rw [hf,Sum.elim_inr] at h; exact absurd h (foldR_err l _ _ hf)
theorem T60_same {N:Nat} (hN:Big N) (l:List Int) (hl:l.length≤1000000):T60 N (l,l)=some true:=by
 rw [T60_eq]
 simp only [bne_self_eq_false,cond_false,List.length_map]
 have key:=loopR_count (rd:=R60x58 N l l) l.length (fun k=>(k:Int)) (.inr ()) (fun k hk=>by
  obtain ⟨a1,a2⟩:=at3 l hk
  simp only [R60x58,List.length_map,Int.toNat_natCast,a1,a2,lt_range hk,in_range hk,Bool.and_self,cond_true,bne_self_eq_false,cond_false,w_succ (show k < 9223372036854775807 by omega)]) (by
  simp only [R60x58,List.length_map,ge_range,cond_false]) N 0 (Nat.zero_le _) (by unfold Big at hN; omega)
 have key':loopR (R60x58 N l l) N 0=some (.inr ()):=key
 rw [key',Option.bind_some]
 rfl
def addJ (i:Nat) (acc:List (Int × Int)) (j:Nat):List (Int × Int):=acc++(List.range j).map fun k=>((i:Int),((acc.length+k:Nat):Int))
def fromR (l:List Int):List (Int × Int):=(List.range l.length).foldl (fun acc i=>addJ i acc (l.getD i 0).toNat) []
theorem addJ_len (i:Nat) (acc:List (Int × Int)) (j:Nat):(addJ i acc j).length=acc.length+j:=by simp [addJ]
theorem addJ_succ (i:Nat) (acc:List (Int × Int)) (j:Nat):addJ i acc j++[((i:Int),(((addJ i acc j).length:Nat):Int))]=addJ i acc (j+1):=by
 rw [addJ_len]
 unfold addJ
 rw [List.range_succ,List.map_append,← List.append_assoc]
 rfl
section
variable {N:Nat} (hN:Big N) (l:List Int) (hl:l.length≤256) (hx:∀ x∈l,1≤x∧x≤256)
include hN hl hx
theorem R75_in (acc:List (Int × Int)) {i:Nat} (hi:i < l.length) (ha:acc.length≤256 * i):loopR (R75x31334 N l (acc,(i:Int))) N (acc,0)=some (addJ i acc (l.getD i 0).toNat):=by
 obtain ⟨a1,a2⟩:=at3 l hi
 have hxi:=hx _ (List.getElem_mem hi)
 have eg:l.getD i 0=l[i]:=by simp [hi]
 have key:=loopR_count (rd:=R75x31334 N l (acc,(i:Int))) (l.getD i 0).toNat (fun j=>(addJ i acc j,(j:Int))) (addJ i acc (l.getD i 0).toNat) (fun j hj=>by
  have hj':(j:Int) < l[i]:=by rw [eg] at hj; omega
  have hb:(acc.length+j+1) * 16≤140737488355328:=by rw [eg] at hj; omega
  simp only [R75x31334,Int.toNat_natCast,a1,hj',decide_true,cond_true,snoc46,fa46,md46,List.length_map,List.length_append,List.length_singleton,addJ_len,hb,Bool.and_true,Option.bind_some,w_succ (show j < 9223372036854775807 by rw [eg] at hj; omega)]
  rw [← addJ_len i acc j,addJ_succ]) (by
  have hge:¬ (((l.getD i 0).toNat:Nat):Int) < l[i]:=by rw [eg]; omega
  simp only [R75x31334,Int.toNat_natCast,a1,hge,decide_false,cond_false,fa46,md46,decide_true,Bool.and_true,cond_true,Option.bind_some]) N 0 (Nat.zero_le _) (by unfold Big at hN; rw [eg]; omega)
 simpa [addJ] using key
theorem R75_out:loopR (R75x122 N l) N ([],0)=some (fromR l):=by
 have key:=loopR_foldl (rd:=R75x122 N l) (List.range l.length) (fun acc k=>(acc,(k:Int))) (fun acc i=>addJ i acc (l.getD i 0).toNat) (fun acc=>acc) (fun acc k=>acc.length≤256 * k) (fun acc k hk hs=>by
  have hk:k < l.length:=by simpa using hk
  rw [List.getElem_range]
  obtain ⟨a1,a2⟩:=at3 l hk
  have hxi:=hx _ (List.getElem_mem hk)
  have eg:l.getD k 0=l[k]:=by simp [hk]
  refine ⟨?_,by rw [addJ_len,eg]; omega⟩
  simp only [R75x122,List.length_map,Int.toNat_natCast,a2,lt_range hk,in_range hk,Bool.and_self,cond_true,fa46,md46,Bool.and_true,decide_true,Option.bind_some,R75_in hN l hl hx acc hk hs,w_succ (show k < 9223372036854775807 by omega)]) (fun acc hs=>by
  rw [List.length_range]
  simp only [R75x122,List.length_map,ge_range,cond_false,fa46,md46,decide_true,Bool.and_true,cond_true,Option.bind_some]) N [] 0 (Nat.zero_le _) (by unfold Big at hN; simp; omega) (Nat.zero_le _)
 rw [List.drop_zero] at key
 exact key
end
theorem setN3 (s:List Int) (i:Nat) (v:Int):setN (List.map n3 s) i (AV.int .i64 v)=List.map n3 (s.set i v):=by
 rw [setN_eq]
 show (List.map n3 s).set i (n3 v)=_
 rw [List.map_set]
def bump (s:List Int) (x:Int):List Int:=s.set x.toNat (IntKind.wrap .i64 (s.getD x.toNat 0+1))
theorem bump_len (s:List Int) (x:Int):(bump s x).length=s.length:=by simp [bump]
def shN (m n:Int):Nat:=Int.toNat (if n < m then n else m)
def runsF (m n:Int) (l:List (Int × Int)):List Int:=l.foldl (fun s p=>bump s (if m > n then p.2 else p.1)) (List.replicate (shN m n) 0)
section
variable {N:Nat} (hN:Big N) (m n:Int) (l:List (Int × Int)) (hl:l.length≤1000000)
include hN hl
theorem R135_two (hx:∀ p∈l,0≤p.2∧p.2 < (shN m n:Int)) (s0:List Int) (h0:s0.length=shN m n):loopR (R135x250 N m n l) N (0,s0)=some (l.foldl (fun s p=>bump s p.2) s0):=by
 have hsh:Int.toNat (if n < m then n else m)=shN m n:=rfl
 have key:=loopR_foldl (rd:=R135x250 N m n l) l (fun s k=>((k:Int),s)) (fun s p=>bump s p.2) (fun s=>s) (fun s _=>s.length=shN m n) (fun s k hk hs=>by
  obtain ⟨a1,a2⟩:=at46 l hk
  have eg:l.getD k (0,0)=l[k]:=by simp [hk]
  rw [eg] at a1
  obtain ⟨p1,p2⟩:=hx _ (List.getElem_mem hk)
  have hq:l[k].2.toNat < s.length:=by omega
  obtain ⟨b1,b2⟩:=at3 s hq
  have c1:decide ((0:Int)≤l[k].2∧l[k].2 < ((shN m n:Nat):Int))=true:=decide_eq_true ⟨p1,p2⟩
  have c2:decide (shN m n=s.length)=true:=decide_eq_true hs.symm
  have c3:decide (l[k].2.toNat < s.length)=true:=decide_eq_true hq
  refine ⟨?_,by rw [bump_len]; exact hs⟩
  simp only [R135x250,hsh,List.length_map,Int.toNat_natCast,a1,a2,lt_range hk,in_range hk,Bool.and_self,cond_true,Nat.zero_add,c1,c2,c3,b1,b2,setN3,fa3,md3,Bool.and_true,Option.bind_some,w_succ (show k < 9223372036854775807 by omega)]
  unfold bump
  rw [show s.getD l[k].2.toNat 0=s[l[k].2.toNat] from by simp [hq]]) (fun s hs=>by
  simp only [R135x250,List.length_map,ge_range,cond_false,fa3,md3,Bool.and_true,cond_true,Option.bind_some]) N s0 0 (Nat.zero_le _) (by unfold Big at hN; omega) h0
 rw [List.drop_zero] at key
 exact key
theorem R135_one (hx:∀ p∈l,0≤p.1∧p.1 < (shN m n:Int)) (s0:List Int) (h0:s0.length=shN m n):loopR (R135x250b N m n l) N (0,s0)=some (l.foldl (fun s p=>bump s p.1) s0):=by
 have hsh:Int.toNat (if n < m then n else m)=shN m n:=rfl
 have key:=loopR_foldl (rd:=R135x250b N m n l) l (fun s k=>((k:Int),s)) (fun s p=>bump s p.1) (fun s=>s) (fun s _=>s.length=shN m n) (fun s k hk hs=>by
  obtain ⟨a1,a2⟩:=at46 l hk
  have eg:l.getD k (0,0)=l[k]:=by simp [hk]
  rw [eg] at a1
  obtain ⟨p1,p2⟩:=hx _ (List.getElem_mem hk)
  have hq:l[k].1.toNat < s.length:=by omega
  obtain ⟨b1,b2⟩:=at3 s hq
  have c1:decide ((0:Int)≤l[k].1∧l[k].1 < ((shN m n:Nat):Int))=true:=decide_eq_true ⟨p1,p2⟩
  have c2:decide (shN m n=s.length)=true:=decide_eq_true hs.symm
  have c3:decide (l[k].1.toNat < s.length)=true:=decide_eq_true hq
  refine ⟨?_,by rw [bump_len]; exact hs⟩
  simp only [R135x250b,hsh,List.length_map,Int.toNat_natCast,a1,a2,lt_range hk,in_range hk,Bool.and_self,cond_true,Nat.zero_add,c1,c2,c3,b1,b2,setN3,fa3,md3,Bool.and_true,Option.bind_some,w_succ (show k < 9223372036854775807 by omega)]
  unfold bump
  rw [show s.getD l[k].1.toNat 0=s[l[k].1.toNat] from by simp [hq]]) (fun s hs=>by
  simp only [R135x250b,List.length_map,ge_range,cond_false,fa3,md3,Bool.and_true,cond_true,Option.bind_some]) N s0 0 (Nat.zero_le _) (by unfold Big at hN; omega) h0
 rw [List.drop_zero] at key
 exact key
theorem runs_len (f:Int × Int→Int) (s0:List Int):(l.foldl (fun s p=>bump s (f p)) s0).length=s0.length:=by
 clear hl
 induction l generalizing s0 with
 | nil=>rfl
 | cons p l ih=>rw [List.foldl_cons,ih,bump_len]
theorem T135_runs (hm:1≤m) (hm':m≤256) (hn:1≤n) (hn':n≤256) (hx:∀ p∈l,(0≤p.1∧p.1 < m)∧(0≤p.2∧p.2 < n)):T135 N (m,n,l)=some (runsF m n l):=by
 rw [T135_eq]
 have hz:((bif (allFit (Pat.fits p3) (List.replicate (Int.toNat (if n < m then n else m)) (AV.int .i64 0))&&true) then some (0,(List.map d3 (List.replicate (Int.toNat (if n < m then n else m)) (AV.int .i64 0)))) else none:Option (Int × (List Int))))=some (0,List.replicate (shN m n) 0):=by
  have e:List.replicate (Int.toNat (if n < m then n else m)) (AV.int .i64 0)=List.map n3 (List.replicate (shN m n) 0):=by rw [List.map_replicate]; rfl
  rw [e,fa3,md3]; rfl
 have hsh:Int.toNat (if n < m then n else m)=shN m n:=rfl
 have hc:decide ((0:Int)≤(if n < m then n else m)∧(if n < m then n else m)≤(if n < m then n else m)∧(if n < m then n else m)≤140737488355328∧(if n < m then n else m) * 8≤140737488355328)=true:=decide_eq_true (by split <;> omega)
 have cl:∀ s:List Int,closedL (List.map n3 s)=true:=fun s=>closedL_map (fun _=>rfl) s
 rw [hz,hc]
 unfold runsF
 by_cases h:m > n
 ·have hs:shN m n=n.toNat:=by unfold shN; rw [if_pos (by omega)]
  simp only [h,decide_true,cond_true,Option.bind_some,if_true]
  rw [R135_two hN m n l hl (fun p hp=>by have:=(hx p hp).2; rw [hs]; omega) _ (by simp)]
  simp only [decide_true,cond_true,Option.bind_some,hsh,fa3,md3,cl,List.length_map,runs_len hN l hl,List.length_replicate,Bool.and_self]
  rw [decide_eq_true hs.symm]
  rfl
 ·have hs:shN m n=m.toNat:=by unfold shN; split <;> omega
  simp only [h,decide_false,cond_false,cond_true,Option.bind_some,if_false]
  rw [R135_one hN m n l hl (fun p hp=>by have:=(hx p hp).1; rw [hs]; omega) _ (by simp)]
  simp only [Option.bind_some,hsh,fa3,md3,cl,List.length_map,runs_len hN l hl,List.length_replicate,decide_true,Bool.and_self,cond_true]
  rw [decide_eq_true hs.symm]
  rfl
end
end Go.Proofs.YtfiopgedfcaodaaGreatDoor
namespace Go.Proofs.YtfiopgedfcaodaaGreatDoor
open Go Go.Am
set_option maxRecDepth 100000
def psum (l:List Int) (k:Nat):Int:=(l.take k).sum
theorem psum_succ (l:List Int) {k:Nat} (hk:k < l.length):psum l (k+1)=psum l k+l[k]:=by
 unfold psum
 rw [List.take_succ,List.sum_append,List.getElem?_eq_getElem hk]
 simp
section
variable {N:Nat} (hN:Big N) (l:List Int) (hl:l.length≤256) (hx:∀ x∈l,1≤x∧x≤256) (hs:l.sum≤256)
include hN hl hx hs
end
theorem foldl_sum:∀ (l:List Int) (s:Int),l.foldl (fun s x=>s+x) s=s+l.sum
 | [],s=>by simp
 | x :: l,s=>by rw [List.foldl_cons,foldl_sum l,List.sum_cons]; omega
theorem sub_map3 (l:List Int) (a b:Nat):subA a b (List.map n3 l)=List.map n3 ((l.take b).drop a):=by simp [subA,List.map_take,List.map_drop]
section
variable {N:Nat} (hN:Big N) (l:List Int) (hl:l.length≤256) (hx:∀ x∈l,1≤x∧x≤256) (hs:l.sum≤256)
include hN hl hx hs
end
theorem T75_from {N:Nat} (hN:Big N) (l:List Int) (hl:l.length≤1000000):T75 N l=some (if chkR l=0 then (fromR l,0) else ([],chkR l)):=by
 rw [T75_eq]
 simp only [fa3,md3,Bool.and_true,cond_true,Option.bind_some,T136_chk hN l hl]
 by_cases h:chkR l=0
 ·obtain ⟨_,h2,h3,h4⟩:=chkR_ok h
  have z:((bif (allFit (Pat.fits p46) ([]:List AV)) then some ((List.map d46 ([]:List AV)),0) else none:Option ((List (Int × Int)) × Int)))=some ([],0):=rfl
  rw [h,z]
  simp only [bne_self_eq_false,cond_false,Option.bind_some,List.map_nil,List.length_nil,decide_true,cond_true,R75_out hN l h2 h3,fa46,md46,if_true]
 ·have hb:(chkR l != 0)=true:=bne_iff_ne.2 h
  rw [hb,if_neg h]
  rfl
theorem chkJ_ok {m n:Int} {l:List (Int × Int)} (h:chkJ m n l=0):chkM m n=0∧∀ p∈l,(0≤p.1∧p.1 < m)∧(0≤p.2∧p.2 < n):=by
 unfold chkJ at h
 split at h
 ·rename_i h0; exact absurd h h0
 ·rename_i h0
  have h0:chkM m n=0:=Decidable.not_not.1 h0
  refine ⟨h0,?_⟩
  split at h
  ·cases h
  ·split at h
   ·rename_i h2; exact absurd h h2
   ·rename_i h2
    have h2:firstNZ ((List.range l.length).map (errJ m n l))=0:=Decidable.not_not.1 h2
    intro p hp
    obtain ⟨k,hk,rfl⟩:=List.getElem_of_mem hp
    have e:=firstNZ_zero.1 h2 (errJ m n l k) (List.mem_map.2 ⟨k,List.mem_range.2 hk,rfl⟩)
    have eg:l.getD k (0,0)=l[k]:=by simp [hk]
    unfold errJ at e
    simp only [eg] at e
    split at e
    ·cases e
    ·omega
theorem T61_runs {N:Nat} (hN:Big N) (m n:Int) (l:List (Int × Int)) (hl:l.length≤1000000):T61 N (m,n,l)=some (if chkJ m n l=0 then (runsF m n l,0) else ([],chkJ m n l)):=by
 rw [T61_eq]
 simp only [fa46,md46,Bool.and_true,cond_true,Option.bind_some,T19_chk hN l hl]
 by_cases h:chkJ m n l=0
 ·obtain ⟨h0,hx⟩:=chkJ_ok h
  obtain ⟨hm,hm',hn,hn'⟩:=chkM_ok h0
  simp only [h,bne_self_eq_false,cond_false,T135_runs hN m n l hl hm hm' hn hn' hx,Option.bind_some,fa3,md3,cond_true,if_true]
 ·have hb:(chkJ m n l != 0)=true:=bne_iff_ne.2 h
  rw [hb,if_neg h]
  rfl
end Go.Proofs.YtfiopgedfcaodaaGreatDoor
