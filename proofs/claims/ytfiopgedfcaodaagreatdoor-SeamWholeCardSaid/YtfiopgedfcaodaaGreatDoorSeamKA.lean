/- Plain laws: joins of meshes. -/
import Derived.Test.YtfiopgedfcaodaaGreatDoorSeamT
import Derived.Test.YtfiopgedfcaodaaGreatDoorAmKJ
import Derived.Test.YtfiopgedfcaodaaGreatDoorSeamTe
import Derived.Test.YtfiopgedfcaodaaGreatDoorSeamTs
import Derived.Test.YtfiopgedfcaodaaGreatDoorSeamTr
import Derived.Test.YtfiopgedfcaodaaGreatDoorSeamTc
import Derived.Test.YtfiopgedfcaodaaGreatDoorAmKK
import Derived.Test.YtfiopgedfcaodaaGreatDoorSeamTg
set_option linter.all false
namespace Go.Proofs.YtfiopgedfcaodaaGreatDoor
open Go Go.Am
set_option maxRecDepth 100000
theorem kF (N:Nat) (b:Bool) (e:Int):BG N (b,e)=some (if b then e else 0):=by rw [Uh]; cases b <;> rfl
theorem Hw (N:Nat) (n lo hi:Int):Wj N (n,lo,hi)=some (oU n lo hi):=by
 rw [Ui,kF,kF]
 unfold oU
 by_cases h1:n < lo
 ·simp [h1]
 ·by_cases h2:n > hi <;> simp [h1,h2]
theorem Ra (N:Nat) (n lo hi:Int):Z4 N (n,lo,hi)=some (oU n lo hi):=by
 rw [Um]
 unfold oU
 by_cases h1:n < lo
 ·simp [h1]
 ·by_cases h2:n > hi <;> simp [h1,h2]
theorem gb {N:Nat} (hN:cU N) (l:List Int) (hl:l.length≤9223372036854775806):Cd N l=some (ay l):=by
 obtain ⟨o,h1,h2⟩:=nw (rd:=qP N l) l (fun k hk=>by
  have hd:=dx n24 l k hk
  have e1:d24 (ab (List.map n24 l) k)=l[k]:=by rw [hd]; rfl
  have e2:aA.fits nL (ab (List.map n24 l) k)=true:=by rw [hd]; rfl
  simp only [qP,List.length_map,Int.toNat_natCast,e1,e2,aN (show k < 9223372036854775807 by omega),ax hk,an hk,Bool.and_self,cond_true]
  by_cases hz:l[k]=0
  ·simp [hz]
  ·simp [hz,Bool.cond_eq_ite]) (by simp only [qP,List.length_map,aJ,cond_false]) N (by unfold cU at hN; omega)
 rw [Uf,h1,Option.bind_some]
 rcases o with o | o
 ·simpa using h2
 ·simpa using h2
theorem I2 {N:Nat} (hN:cU N) (l:List Int) (hl:l.length≤9223372036854775806):Z3 N l=some (ay l):=by
 obtain ⟨o,h1,h2⟩:=nw (rd:=BI N l) l (fun k hk=>by
  have hd:=dx n3 l k hk
  have e1:d3 (ab (List.map n3 l) k)=l[k]:=by rw [hd]; rfl
  have e2:aA.fits p3 (ab (List.map n3 l) k)=true:=by rw [hd]; rfl
  simp only [BI,List.length_map,Int.toNat_natCast,e1,e2,aN (show k < 9223372036854775807 by omega),ax hk,an hk,Bool.and_self,cond_true]
  by_cases hz:l[k]=0
  ·simp [hz]
  ·simp [hz,Bool.cond_eq_ite]) (by simp only [BI,List.length_map,aJ,cond_false]) N (by unfold cU at hN; omega)
 rw [Uk,h1,Option.bind_some]
 rcases o with o | o
 ·simpa using h2
 ·simpa using h2
theorem Ax (x y:Int):((bif (allFit (aA.fits nL) [(AV.int .i64 x),(AV.int .i64 y)]&&true) then some (List.map d24 [(AV.int .i64 x),(AV.int .i64 y)]) else none:Option ((List Int))))=some [x,y]:=rfl
theorem BR (x y z:Int):((bif (allFit (aA.fits nL) [(AV.int .i64 x),(AV.int .i64 y),(AV.int .i64 z)]&&true) then some (List.map d24 [(AV.int .i64 x),(AV.int .i64 y),(AV.int .i64 z)]) else none:Option ((List Int))))=some [x,y,z]:=rfl
theorem Vw (l:List (Int × Int)) (a b:Int):List.map n46 l++[AV.agg [AV.int .i64 a,AV.int .i64 b]]=List.map n46 (l++[(a,b)]):=by
 rw [List.map_append]; rfl
section joins
variable {m n:Int} (hm:1≤m) (JK:m≤256) (hn:1≤n) (NG:n≤256)
include hm JK hn NG
end joins
section take
variable {m n:Int} (hm:1≤m) (JK:m≤256) (hn:1≤n) (NG:n≤256)
include hm JK hn NG
end take
section Jr
variable {N:Nat} (hN:cU N) {m n:Int} (l:List (Int × Int)) (hl:l.length≤1000000)
include hN hl
end Jr
end Go.Proofs.YtfiopgedfcaodaaGreatDoor
namespace Go.Proofs.YtfiopgedfcaodaaGreatDoor
open Go Go.Am
set_option maxRecDepth 100000
theorem F5 (n:Nat) (h:n < 18446744073709551616):(BitVec.ofInt 64 (IntKind.wrap .i64 (n:Int))).toNat=n:=by
 rw [BitVec.toNat_ofInt,IntKind.wrap_i64]
 omega
theorem adJ (a b:Nat):(a ^^^ b) % 2=(a+b) % 2:=by
 have h:=Nat.xor_mod_two_pow (a:=a) (b:=b) (n:=1)
 rw [Nat.pow_one] at h
 rw [h]
 rcases Nat.mod_two_eq_zero_or_one a with ha | ha <;> rcases Nat.mod_two_eq_zero_or_one b with hb | hb <;> rw [ha,hb] <;> simp <;> omega
theorem Vx (x y:Int):(pN .i64 (HU .i64 x y) 1 != 0)=decide ((x+y) % 2≠0):=by
 have h1:(BitVec.ofInt 64 x ^^^ BitVec.ofInt 64 y).toNat < 18446744073709551616:=(BitVec.ofInt 64 x ^^^ BitVec.ofInt 64 y).isLt
 have h2:(BitVec.ofInt 64 1).toNat=1:=by decide
 have h3:pN .i64 (HU .i64 x y) 1=IntKind.wrap .i64 ((((BitVec.ofInt 64 x ^^^ BitVec.ofInt 64 y).toNat % 2:Nat)):Int):=by
  show IntKind.wrap .i64 (((BitVec.ofInt 64 (IntKind.wrap .i64 (((BitVec.ofInt 64 x ^^^ BitVec.ofInt 64 y).toNat:Nat):Int)) &&& BitVec.ofInt 64 1).toNat:Nat):Int)=_
  rw [BitVec.toNat_and,F5 _ h1,h2,Nat.and_one_is_mod]
 rw [h3,DA (by omega),BitVec.toNat_xor,adJ,BitVec.toNat_ofInt,BitVec.toNat_ofInt]
 have e:((((x % ((2 ^ 64:Nat):Int)).toNat+(y % ((2 ^ 64:Nat):Int)).toNat) % 2:Nat):Int)=(x+y) % 2:=by omega
 rw [e]
 by_cases h:(x+y) % 2=0 <;> simp [h]
def bu (p:Int × Int):Int:=if p.1 < -100000∨p.1 > 100000∨p.2 < -100000∨p.2 > 100000 then 3 else if (p.1+p.2) % 2=0 then 0 else 14
theorem kb (N:Nat) (b:Bool) (e:Int):zy N (b,e)=some (if b then e else 0):=by rw [PN]; cases b <;> rfl
theorem DL (N:Nat) (n lo hi:Int):LS N (n,lo,hi)=some (oU n lo hi):=by
 rw [PP,kb,kb]
 unfold oU
 by_cases h1:n < lo
 ·simp [h1]
 ·by_cases h2:n > hi <;> simp [h1,h2]
theorem jd {N:Nat} (hN:cU N) (l:List Int) (hl:l.length≤9223372036854775806):vg N l=some (ay l):=by
 obtain ⟨o,h1,h2⟩:=nw (rd:=vK N l) l (fun k hk=>by
  have hd:=dx n24 l k hk
  have e1:d24 (ab (List.map n24 l) k)=l[k]:=by rw [hd]; rfl
  have e2:aA.fits nL (ab (List.map n24 l) k)=true:=by rw [hd]; rfl
  simp only [vK,qP,List.length_map,Int.toNat_natCast,e1,e2,aN (show k < 9223372036854775807 by omega),ax hk,an hk,Bool.and_self,cond_true]
  by_cases hz:l[k]=0
  ·simp [hz]
  ·simp [hz,Bool.cond_eq_ite]) (by simp only [vK,qP,List.length_map,aJ,cond_false]) N (by unfold cU at hN; omega)
 rw [PM,h1,Option.bind_some]
 rcases o with o | o
 ·simpa using h2
 ·simpa using h2
theorem Ay {N:Nat} (hN:cU N) (p:Int × Int):IW N p=some (bu p):=by
 rw [PR,Hi]
 simp only [DL,Option.bind_some,beq_self_eq_true,Bool.and_self,cond_true]
 rw [Ax]
 simp only [Option.bind_some]
 rw [jd hN _ (by simp)]
 simp only [Option.bind_some,kb,Vx]
 rw [Ax]
 simp only [Option.bind_some]
 rw [jd hN _ (by simp)]
 simp only [Option.bind_some]
 congr 1
 unfold bu oU
 simp only [ay]
 by_cases h1:p.1 < -100000∨p.1 > 100000
 ·have h:p.1 < -100000∨p.1 > 100000∨p.2 < -100000∨p.2 > 100000:=by omega
  simp [h,h1]
 ·by_cases h2:p.2 < -100000∨p.2 > 100000
  ·have h:p.1 < -100000∨p.1 > 100000∨p.2 < -100000∨p.2 > 100000:=by omega
   simp [h,h1,h2]
  ·have h:¬ (p.1 < -100000∨p.1 > 100000∨p.2 < -100000∨p.2 > 100000):=by omega
   by_cases h3:(p.1+p.2) % 2=0 <;> simp [h,h1,h2,h3]
theorem tN (N:Nat) (p:Int × Int):DJ N p=some (bu p):=by
 rw [PW,Hk,Hk,PV]
 unfold bu
 by_cases h:p.1 < -100000∨p.1 > 100000∨p.2 < -100000∨p.2 > 100000
 ·rw [if_pos h]
  by_cases h1:p.1 < -100000 <;> by_cases h2:p.1 > 100000 <;> by_cases h3:p.2 < -100000 <;> by_cases h4:p.2 > 100000 <;> simp [h1,h2,h3,h4] <;> omega
 ·rw [if_neg h]
  have h1:¬ p.1 < -100000:=by omega
  have h2:¬ p.1 > 100000:=by omega
  have h3:¬ p.2 < -100000:=by omega
  have h4:¬ p.2 > 100000:=by omega
  rw [DA (x:=p.1+p.2) (by omega)]
  have e:((Int.tmod (p.1+p.2) 2) == 0)=decide ((p.1+p.2) % 2=0):=by
   by_cases h5:(p.1+p.2) % 2=0
   ·have:Int.tmod (p.1+p.2) 2=0:=Int.tmod_eq_zero_of_dvd (Int.dvd_of_emod_eq_zero h5)
    simp [h5,this]
   ·have:Int.tmod (p.1+p.2) 2≠0:=fun e=>h5 (Int.emod_eq_zero_of_dvd (Int.dvd_of_tmod_eq_zero e))
    simp [h5,this]
  rw [e]
  by_cases h5:(p.1+p.2) % 2=0 <;> simp [h1,h2,h3,h4,h5]
theorem Az {Y:Type} {rd:Int→Option (Int ⊕ (Y ⊕ Unit))} (m:Nat) (b:Nat→Bool) (y:Nat→Y)
  (h:∀ k,k < m→rd (k:Int)=some (if b k then .inr (.inl (y k)) else .inl ((k+1:Nat):Int))) (h0:rd (m:Int)=some (.inr (.inr ()))) :
  ∀ (n k:Nat),k≤m→m < n+k→(∃ j,k≤j∧j < m∧b j=true∧ak rd n (k:Int)=some (.inl (y j)))∨((∀ j,k≤j→j < m→b j=false)∧ak rd n (k:Int)=some (.inr ()))
 | 0,k,hk,hn=>by omega
 | n+1,k,hk,hn=>by
  rw [bt]
  by_cases bP:k < m
  ·rw [h k bP]
   cases hb:b k with
   | true=>exact .inl ⟨k,Nat.le_refl _,bP,hb,rfl⟩
   | false=>
    simp only [Bool.false_eq_true,if_false,Option.bind_some,Sum.elim_inl]
    rcases Az m b y h h0 n (k+1) bP (by omega) with ⟨j,h1,h2,h3,h4⟩ | ⟨h1,h2⟩
    ·exact .inl ⟨j,by omega,h2,h3,h4⟩
    ·refine .inr ⟨fun j hj hjm=>?_,h2⟩
     by_cases RY:j=k
     ·rw [RY]; exact hb
     ·exact h1 j (by omega) hjm
  ·obtain rfl:k=m:=by omega
   rw [h0]
   exact .inr ⟨fun j h1 h2=>by omega,rfl⟩
end Go.Proofs.YtfiopgedfcaodaaGreatDoor
namespace Go.Proofs.YtfiopgedfcaodaaGreatDoor
open Go Go.Am
set_option maxRecDepth 100000
abbrev qW:=Int × Int × Int × Int × Int × Int
theorem Mj (N:Nat) (x:Int):PX N x=some (oU x 0 15):=by rw [PZ,Hw]; rfl
theorem Rb (N:Nat) (x:Int):Z6 N x=some (oU x 0 15):=by rw [UG,Ra]; rfl
section seam
variable {N:Nat} (hN:cU N) (a b:Int) (e1 e2:List (Int × Int))
def lgN (e1 e2:List (Int × Int)):Nat:=max e1.length e2.length
def kA (k:Nat):Int × Int:=e1.getD (k * e1.length / lgN e1 e2) (0,0)
def kB (k:Nat):Int × Int:=e2.getD (k * e2.length / lgN e1 e2) (0,0)
def six (k:Nat):qW:=(a,(kA e1 e2 k).1,(kA e1 e2 k).2,b,(kB e1 e2 k).1,(kB e1 e2 k).2)
def YU (k:Nat):Bool:=(a == b)&&((((kA e1 e2 k).1 == (kB e1 e2 k).1)&&(((kA e1 e2 k).2 == (kB e1 e2 k).2)&&true))&&true)
def stS (s:List qW) (k:Nat):List qW ⊕ List qW:=if YU a b e1 e2 k then .inr s else .inl (s++[six a b e1 e2 k])
variable (h1:1≤e1.length) (mO:e1.length≤256) (h2:1≤e2.length) (NO:e2.length≤256)
include h1 mO h2 NO
include hN
end seam
end Go.Proofs.YtfiopgedfcaodaaGreatDoor
namespace Go.Proofs.YtfiopgedfcaodaaGreatDoor
open Go Go.Am
set_option maxRecDepth 100000
theorem at3 (l:List Int) {k:Nat} (hk:k < l.length):d3 (ab (List.map n3 l) k)=l[k]∧aA.fits p3 (ab (List.map n3 l) k)=true:=by
 rw [dx n3 l k hk,ZZ,Ub]
 exact ⟨rfl,rfl⟩
theorem SB (l:List Int) (a:Int):List.map n3 l++[AV.int .i64 a]=List.map n3 (l++[a]):=by
 rw [List.map_append]; rfl
section
variable {N:Nat} (hN:cU N) (l:List Int) (hl:l.length≤1000000)
include hN hl
end
section
variable {N:Nat} (hN:cU N) (l:List Int) (hl:l.length≤256) (hx:∀ x∈l,1≤x∧x≤256)
include hN hl hx
end
theorem SC (s:List Int) (i:Nat) (v:Int):ap (List.map n3 s) i (AV.int .i64 v)=List.map n3 (s.set i v):=by
 rw [eh]
 show (List.map n3 s).set i (n3 v)=_
 rw [List.map_set]
section
variable {N:Nat} (hN:cU N) (m n:Int) (l:List (Int × Int)) (hl:l.length≤1000000)
include hN hl
end
end Go.Proofs.YtfiopgedfcaodaaGreatDoor
namespace Go.Proofs.YtfiopgedfcaodaaGreatDoor
open Go Go.Am
set_option maxRecDepth 100000
section
variable {N:Nat} (hN:cU N) (l:List Int) (hl:l.length≤256) (hx:∀ x∈l,1≤x∧x≤256) (hs:l.sum≤256)
include hN hl hx hs
end
section
variable {N:Nat} (hN:cU N) (l:List Int) (hl:l.length≤256) (hx:∀ x∈l,1≤x∧x≤256) (hs:l.sum≤256)
include hN hl hx hs
end
end Go.Proofs.YtfiopgedfcaodaaGreatDoor
namespace Go.Proofs.YtfiopgedfcaodaaGreatDoor
open Go Go.Am
set_option maxRecDepth 100000
abbrev P3:=Int × Int × Int
theorem Mn (C:List (List P3)) {k:Nat} (hk:k < C.length):d53 (ab (List.map dI C) k)=C[k]∧aA.fits bl (ab (List.map dI C) k)=true:=by
 rw [dx dI C k hk,acd,acb]; exact ⟨rfl,rfl⟩
theorem YV (C:List (List P3)) {k:Nat} (hk:k < C.length):d63 (ab (List.map mm C) k)=C[k]∧aA.fits Es (ab (List.map mm C) k)=true:=by
 rw [dx mm C k hk,ach,acg]; exact ⟨rfl,rfl⟩
theorem vi (C:List P3) {k:Nat} (hk:k < C.length):d94 (ab (List.map qk C) k)=C[k]∧aA.fits nO (ab (List.map qk C) k)=true:=by
 rw [dx qk C k hk,acm,ack]; exact ⟨rfl,rfl⟩
theorem YW (C:List P3) {k:Nat} (hk:k < C.length):d89 (ab (List.map nN C) k)=C[k]∧aA.fits dW (ab (List.map nN C) k)=true:=by
 rw [dx nN C k hk,acj,aci]; exact ⟨rfl,rfl⟩
theorem Hx (l:List (Int × Int)) {k:Nat} (hk:k < l.length):d46 (ab (List.map n46 l) k)=l[k]∧aA.fits aW (ab (List.map n46 l) k)=true:=by
 rw [dx n46 l k hk,abQ,abP]; exact ⟨rfl,rfl⟩
theorem DQ:iy (.st (.cons 0 1 false .int (.cons 1 2 true (.st (.cons 0 1 false .int (.cons 1 1 false .int .nil))) .nil))) qk n4 nP:=⟨fun a b=>AB a b,fun _=>rfl,fun _=>rfl⟩
theorem YX (p:P3) (m:List (P3 × Bool)):cH (.st (.cons 0 1 false .int (.cons 1 2 true (.st (.cons 0 1 false .int (.cons 1 1 false .int .nil))) .nil))) (AV.agg [AV.int .i64 p.1,AV.int .i64 p.2.1,AV.int .i64 p.2.2]) (aB (List.map nP m))=true:=DQ.keys p m
theorem YY (p:P3) (m:List (P3 × Bool)):bf (.st (.cons 0 1 false .int (.cons 1 2 true (.st (.cons 0 1 false .int (.cons 1 1 false .int .nil))) .nil))) (AV.agg [AV.int .i64 p.1,AV.int .i64 p.2.1,AV.int .i64 p.2.2]) (AV.bool false) (aB (List.map nP m))=n4 ((getM p m).getD false):=DQ.getD p false m
theorem YZ (p:P3) (m:List (P3 × Bool)):er (.st (.cons 0 1 false .int (.cons 1 2 true (.st (.cons 0 1 false .int (.cons 1 1 false .int .nil))) .nil))) (AV.agg [AV.int .i64 p.1,AV.int .i64 p.2.1,AV.int .i64 p.2.2]) (AV.bool true) (aB (List.map nP m))=aB (List.map nP (sJ p true m)):=DQ.put p true m
theorem yy (m:List (P3 × Bool)):ah (aB (List.map nP m))=List.map nP m:=DQ.cells m
theorem yz (m:List (P3 × Bool)):jw (aB (List.map nP m))=true:=DQ.jw m
theorem yA {V X:Type} {rd:V→Option (V ⊕ X)} (m:Nat) (E:Nat→V) (b:Nat→Bool) (y:Nat→X) (x:X)
  (h:∀ k,k < m→rd (E k)=some (if b k then .inr (y k) else .inl (E (k+1)))) (h0:rd (E m)=some (.inr x)) (n:Nat) (hn:m < n) :
  ak rd n (E 0)=some (match (List.range m).find? b with | some j=>y j | none=>x):=by
 have key:=eQ (rd:=rd) (S:=Unit) (Y:=Nat) (List.range m) (fun _ k=>E k) (fun _ i=>if b i then .inr i else .inl ()) (fun _=>x) y (fun _ _=>True)
  (fun s k hk _=>by
   have hk:k < m:=by simpa using hk
   refine ⟨?_,fun _ _=>trivial⟩
   rw [List.getElem_range,h k hk]
   cases b k <;> rfl) (fun _ _=>by rw [List.length_range]; exact h0) n () 0 (Nat.zero_le _) (by simpa using hn) trivial
 rw [List.drop_zero] at key
 refine key.trans (congrArg some ?_)
 clear key h h0 hn
 generalize List.range m=l
 induction l with
 | nil=>rfl
 | cons a l ih=>
  simp only [foldI,List.find?_cons]
  cases b a with
  | true=>rfl
  | false=>simp only [Bool.false_eq_true,if_false,Sum.elim_inl]; exact ih
theorem Mo {α:Type} (l:List α) (f:α→Bool) (d:α):((List.range l.length).find? fun j=>f (l.getD j d)).isSome=l.any f:=by
 rw [Bool.eq_iff_iff,List.find?_isSome,List.any_eq_true]
 constructor
 ·rintro ⟨j,hj,hf⟩
  have hj:=List.mem_range.1 hj
  have e:l.getD j d=l[j]:=by simp [hj]
  rw [e] at hf
  exact ⟨l[j],List.getElem_mem hj,hf⟩
 ·rintro ⟨x,hx,hf⟩
  obtain ⟨j,hj,rfl⟩:=List.getElem_of_mem hx
  exact ⟨j,List.mem_range.2 hj,by
   have e:l.getD j d=l[j]:=by simp [hj]
   rw [e]; exact hf⟩
theorem Mp (x p:P3):(x.1 == p.1&&((x.2.1 == p.2.1&&(x.2.2 == p.2.2&&true))&&true))=decide (x=p):=by
 obtain ⟨x1,x2,x3⟩:=x
 obtain ⟨y1,y2,y3⟩:=p
 simp only [Prod.mk.injEq,Bool.and_true]
 by_cases h1:x1=y1 <;> by_cases h2:x2=y2 <;> by_cases h3:x3=y3 <;> simp [h1,h2,h3]
theorem adK (n:Nat):List.replicate n (AV.int .i64 0)=List.map n3 (List.replicate n 0):=by rw [List.map_replicate]; rfl
theorem cl3 (s:List Int):aC (List.map n3 s)=true:=jx (fun _=>rfl) s
def mT (l:List P3):List (P3 × Bool):=l.map fun x=>(x,true)
theorem Vz (p:P3) (l:List P3):(getM p (mT l)).getD false=decide (p∈l):=by
 unfold mT
 rw [AA]
 by_cases h:p∈l <;> simp [h]
theorem VA (p:P3) (l:List P3) (h:p∉l):sJ p true (mT l)=mT (l++[p]):=by
 rw [DP (by unfold mT; rw [AA,if_neg h])]
 simp [mT]
def BS (sn:List P3) (p:P3):Int:=ay [oU p.1 0 15,bu (p.2.1,p.2.2),if decide (p∈sn)=true then 9 else 0]
def Cf (sn:List P3) (p:P3):List P3 ⊕ (Int × List P3):=if BS sn p=0 then .inl (sn++[p]) else .inr (BS sn p,sn)
def DR (sn:List P3) (c:List P3):List P3 ⊕ (Int × List P3):=if c.length=0 then .inr (12,sn) else foldI Cf sn c
def q7 (n:Int) (b:Int × Int):Int:=ay [oU b.1 0 (n - 1),oU b.2 0 (n - 1),if decide (b.1 > b.2)=true then 11 else 0]
def sL (C:List (List P3)) (B:List (Int × Int)):Int:=
 if C.length > 8192∨B.length > 8192 then 5 else match foldI DR [] C with
  | .inr e=>e.1
  | .inl _=>ay (B.map (q7 C.length))
theorem I3 {sn:List P3} {p:P3} (h:BS sn p=0):p∉sn:=fun hp=>by
 have:=bN.1 h (if decide (p∈sn)=true then 9 else 0) (by simp)
 rw [if_pos (decide_eq_true hp)] at this
 cases this
def Y0 (l:List P3) (p:P3):Int:=match (List.range l.length).find? fun j=>decide (l.getD j (0,0,0)=p) with | some j=>(j:Int) | none=>-1
theorem VB (l:List P3) (p:P3):decide (Y0 l p≥0)=decide (p∈l):=by
 have h:=Mo l (fun x=>decide (x=p)) (0,0,0)
 have e:l.any (fun x=>decide (x=p))=decide (p∈l):=by
  rw [Bool.eq_iff_iff,List.any_eq_true]
  simp
 rw [e] at h
 rw [← h]
 unfold Y0
 cases (List.range l.length).find? fun j=>decide (l.getD j (0,0,0)=p) with
 | none=>rfl
 | some j=>simp
theorem Y1 (x y:Int):((bif (allFit (aA.fits p3) [(AV.int .i64 x),(AV.int .i64 y)]&&true) then some (List.map d3 [(AV.int .i64 x),(AV.int .i64 y)]) else none:Option ((List Int))))=some [x,y]:=rfl
theorem Mq (sn:List P3) (p:P3):BS sn p=if ay [oU p.1 0 15,bu (p.2.1,p.2.2)]=0 then (if decide (p∈sn)=true then 9 else 0) else ay [oU p.1 0 15,bu (p.2.1,p.2.2)]:=by
 unfold BS
 have:=yg [oU p.1 0 15,bu (p.2.1,p.2.2)] [if decide (p∈sn)=true then 9 else 0]
 simp only [List.cons_append,List.nil_append] at this
 rw [this]
 have e:ay [if decide (p∈sn)=true then (9:Int) else 0]=if decide (p∈sn)=true then 9 else 0:=by
  by_cases h:decide (p∈sn)=true <;> simp [h,ay]
 rw [e]
theorem VC (l:List P3) (p:P3):List.map nN l++[AV.agg [AV.int .i64 p.1,AV.int .i64 p.2.1,AV.int .i64 p.2.2]]=List.map nN (l++[p]):=by rw [List.map_append]; rfl
section
variable {N:Nat} (hN:cU N) (C:List (List P3)) (B:List (Int × Int)) (hC:C.length≤10000) (hB:B.length≤10000) (hc:∀ c∈C,c.length≤10000)
include hN hC hB hc
theorem Rf (k:Nat) (hk:k < C.length) (m0:List (P3 × Bool)) (sn:List P3):ak (kz N (C,B) ((k:Int),m0)) N (0,mT sn)=some (Sum.elim (fun s=>.inr (mT s)) (fun y=>.inl (y.1,mT y.2)) (foldI Cf sn C[k])):=by
 obtain ⟨a1,a2⟩:=Mn C hk
 have jh:=hc _ (List.getElem_mem hk)
 have key:=eQ (rd:=kz N (C,B) ((k:Int),m0)) C[k] (fun s j=>((j:Int),mT s)) Cf (fun s=>.inr (mT s)) (fun y=>.inl (y.1,mT y.2)) (fun _ _=>True) (fun s j hj _=>by
  obtain ⟨b1,b2⟩:=vi C[k] hj
  refine ⟨?_,fun _ _=>trivial⟩
  simp only [kz,List.length_map,Int.toNat_natCast,a1,b1,b2,ax hj,an hj,Bool.and_self,cond_true,YX,YY,YZ,yy,yz,Vz,dn4,fn4,beq_self_eq_true,Mj,Ay hN,kF,BR,gb hN,Option.bind_some,qR,qS,aN (show j < 9223372036854775807 by omega)]
  rw [gb hN _ (by simp),Option.bind_some]
  unfold Cf
  have he:ay [oU C[k][j].1 0 15,bu (C[k][j].2.1,C[k][j].2.2),if decide (C[k][j]∈s)=true then 9 else 0]=BS s C[k][j]:=rfl
  rw [he]
  by_cases hz:BS s C[k][j]=0
  ·simp only [hz,bne_self_eq_false,cond_false,if_true,Sum.map_inl,VA _ _ (I3 hz),Option.bind_some]
  ·simp only [hz,KV hz,cond_true,if_false,Sum.map_inr,Option.bind_some]) (fun s _=>by
  simp only [kz,List.length_map,Int.toNat_natCast,a1,aJ,cond_false,yy,yz,qR,qS,Bool.and_self,cond_true,Option.bind_some]) N sn 0 (Nat.zero_le _) (by unfold cU at hN; omega) trivial
 rw [List.drop_zero] at key
 exact key
theorem Mr:∃ o,ak (oZ N (C,B)) N (0,mT [])=some o∧o=Sum.elim (fun s=>.inr (mT s)) (fun y=>.inl (y.1,mT y.2)) (foldI DR [] C):=by
 have key:=eQ (rd:=oZ N (C,B)) C (fun s j=>((j:Int),mT s)) DR (fun s=>.inr (mT s)) (fun y=>.inl (y.1,mT y.2)) (fun _ _=>True) (fun s k hk _=>by
  obtain ⟨a1,a2⟩:=Mn C hk
  refine ⟨?_,fun _ _=>trivial⟩
  have hi:=Rf hN C B hC hB hc k hk (mT s) s
  simp only [oZ,List.length_map,Int.toNat_natCast,a1,a2,ax hk,an hk,Bool.and_self,cond_true,yy,yz,qR,qS,Option.bind_some,hi,aN (show k < 9223372036854775807 by omega)]
  unfold DR
  by_cases hz:C[k].length=0
  ·simp only [hz,if_true,Sum.map_inr]
   rfl
  ·have hb:((C[k].length:Int) == 0)=false:=beq_false_of_ne (by omega)
   simp only [hb,cond_false,hz,if_false]
   cases foldI Cf s C[k] <;> simp only [Sum.elim_inl,Sum.elim_inr,Sum.map_inl,Sum.map_inr]) (fun s _=>by
  simp only [oZ,List.length_map,aJ,cond_false,yy,yz,qR,qS,Bool.and_self,cond_true,Option.bind_some]) N [] 0 (Nat.zero_le _) (by unfold cU at hN; omega) trivial
 rw [List.drop_zero] at key
 exact ⟨_,key,rfl⟩
theorem I4 (m:List (P3 × Bool)):ak (pc N (C,B)) N (0,m)=some (if ay (B.map (q7 C.length))=0 then .inr m else .inl (ay (B.map (q7 C.length)),m)):=by
 have key:=eQ (rd:=pc N (C,B)) (S:=Unit) (Y:=Int) (B.map (q7 C.length)) (fun _ j=>((j:Int),m)) (fun _ x=>if x=0 then .inl () else .inr x) (fun _=>.inr m) (fun x=>.inl (x,m)) (fun _ _=>True) (fun s k hk _=>by
  have hk:k < B.length:=by simpa using hk
  obtain ⟨a1,a2⟩:=Hx B hk
  have hm1:IntKind.wrap .i64 ((C.length:Int) - 1)=(C.length:Int) - 1:=DA (by omega)
  refine ⟨?_,fun _ _=>trivial⟩
  rw [List.getElem_map]
  simp only [pc,List.length_map,Int.toNat_natCast,a1,a2,ax hk,an hk,Bool.and_self,cond_true,yy,yz,qR,qS,beq_self_eq_true,hm1,Hw,kF,Option.bind_some,aN (show k < 9223372036854775807 by omega)]
  have h3:=BR (oU B[k].1 0 ((C.length:Int) - 1)) (oU B[k].2 0 ((C.length:Int) - 1)) (if decide (B[k].1 > B[k].2)=true then 11 else 0)
  simp only [h3,Option.bind_some]
  rw [gb hN _ (by simp),Option.bind_some]
  have he:ay [oU B[k].1 0 ((C.length:Int) - 1),oU B[k].2 0 ((C.length:Int) - 1),if decide (B[k].1 > B[k].2)=true then 11 else 0]=q7 C.length B[k]:=rfl
  rw [he]
  by_cases hz:q7 C.length B[k]=0
  ·simp only [hz,bne_self_eq_false,cond_false,if_true,Sum.map_inl,Option.bind_some]
  ·simp only [hz,KV hz,cond_true,if_false,Sum.map_inr,Option.bind_some]) (fun s _=>by
  rw [List.length_map]
  simp only [pc,List.length_map,aJ,cond_false,yy,yz,qR,qS,Bool.and_self,cond_true,Option.bind_some]) N () 0 (Nat.zero_le _) (by unfold cU at hN; rw [List.length_map]; omega) trivial
 rw [List.drop_zero] at key
 refine key.trans (congrArg some ?_)
 clear key
 generalize B.map (q7 C.length)=l
 induction l with
 | nil=>rfl
 | cons x l ih=>
  simp only [foldI,ay]
  by_cases e:x=0
  ·simp only [e,if_true,Sum.elim_inl]; exact ih
  ·simp [e]
theorem DS:LY N (C,B)=some (sL C B):=by
 rw [P1]
 unfold sL
 by_cases h0:C.length > 8192∨B.length > 8192
 ·rw [if_pos h0]
  have:((bif (decide ((C.length:Int) > 8192)) then (some true) else (some (decide ((B.length:Int) > 8192)))):Option Bool)=some true:=by
   by_cases h1:(C.length:Int) > 8192
   ·simp [h1]
   ·have h2:(B.length:Int) > 8192:=by omega
    simp [h2]
  simp only [List.length_map,this,Option.bind_some,cond_true]
 ·rw [if_neg h0]
  have:((bif (decide ((C.length:Int) > 8192)) then (some true) else (some (decide ((B.length:Int) > 8192)))):Option Bool)=some false:=by
   have h1:¬ (C.length:Int) > 8192:=by omega
   have h2:¬ (B.length:Int) > 8192:=by omega
   simp [h1,h2]
  simp only [List.length_map,this,Option.bind_some,cond_false]
  have z:((bif allFit (aA.fits cA) (ah [])&&true then some (0,List.map ky (ah [])) else none:Option (Int × (List (P3 × Bool)))).bind fun w33=>bif jw []&&true then some w33 else none)=some (0,mT []):=rfl
  obtain ⟨o,r1,r2⟩:=Mr hN C B hC hB hc
  rw [z,Option.bind_some,r1,Option.bind_some,r2]
  cases foldI DR [] C with
  | inr e=>rfl
  | inl s=>
   simp only [Sum.elim_inl,Sum.elim_inr,yy,yz,qR,qS,Bool.and_self,cond_true,Option.bind_some,I4 hN C B hC hB hc]
   by_cases hz:ay (B.map (q7 C.length))=0
   ·simp only [hz,if_true,Sum.elim_inr]
   ·simp only [hz,if_false,Sum.elim_inl]
omit hC hB hc in
theorem Rg (l:List P3) (p:P3) (hl:l.length≤1000000000000):L4 N (l,p)=some (Y0 l p):=by
 rw [P9]
 have q:=yA (rd:=sA N l p) l.length (fun j=>(j:Int)) (fun j=>decide (l.getD j (0,0,0)=p)) (fun j=>.inl (j:Int)) (.inr ()) (fun j hj=>by
  obtain ⟨a1,a2⟩:=YW l hj
  have e:l.getD j (0,0,0)=l[j]:=by simp [hj]
  simp only [sA,List.length_map,Int.toNat_natCast,a1,a2,ax hj,an hj,Bool.and_self,cond_true,e,Mp,aN (show j < 9223372036854775807 by omega)]
  by_cases h:l[j]=p <;> simp [h]) (by simp only [sA,List.length_map,aJ,cond_false]) N (by unfold cU at hN; omega)
 have q':ak (sA N l p) N 0=_:=q
 rw [q',Option.bind_some]
 unfold Y0
 cases (List.range l.length).find? fun j=>decide (l.getD j (0,0,0)=p) <;> rfl
theorem VD (k:Nat) (hk:k < C.length) (l0:List P3) (sn:List P3) (hsn:sn.length≤100000000):ak (mo N (C,B) (l0,(k:Int))) N (sn,0)=some (Sum.elim (fun s=>.inr s) (fun y=>.inl y.1) (foldI Cf sn C[k])):=by
 obtain ⟨a1,a2⟩:=YV C hk
 have jh:=hc _ (List.getElem_mem hk)
 have key:=eQ (rd:=mo N (C,B) (l0,(k:Int))) C[k] (fun s j=>(s,(j:Int))) Cf (fun s=>.inr s) (fun y=>.inl y.1) (fun s j=>s.length≤sn.length+j) (fun s j hj hs=>by
  obtain ⟨b1,b2⟩:=YW C[k] hj
  have hb:(s.length+1) * 24≤140737488355328:=by omega
  refine ⟨?_,fun s' h=>?_⟩
  ·have adL:=Rg hN s C[k][j] (by omega)
   simp only [mo,List.length_map,Int.toNat_natCast,a1,a2,b1,b2,ax hj,an hj,an hk,Bool.and_self,Bool.and_true,cond_true,beq_self_eq_true,Rb,tN,Option.bind_some,zz,zA]
   have h3:=Y1 (oU C[k][j].1 0 15) (bu (C[k][j].2.1,C[k][j].2.2))
   rw [Bool.and_true] at h3
   rw [h3,Option.bind_some,I2 hN _ (by simp),Option.bind_some]
   unfold Cf
   rw [Mq]
   have Y2:L4 N (s,C[k][j].1,C[k][j].2.1,C[k][j].2.2)=some (Y0 s C[k][j]):=adL
   simp only [Y2,Option.bind_some,VB]
   generalize ay [oU C[k][j].1 0 15,bu (C[k][j].2.1,C[k][j].2.2)]=e
   by_cases he:e=0
   ·by_cases hp:C[k][j]∈s
    ·simp [he,hp,zz,zA]
    ·simp only [he,hp,decide_false,Bool.false_eq_true,if_true,if_false,beq_self_eq_true,bne_self_eq_false,cond_true,cond_false,Option.bind_some,List.length_map,zz,zA,decide_true,hb,Bool.and_self,Bool.and_true,VC,List.length_append,List.length_singleton,Sum.map_inl,aN (show j < 9223372036854775807 by omega)]
   ·simp [he,abJ he,KV he,zz,zA]
  ·unfold Cf at h
   split at h
   ·injection h with h; subst h; simp; omega
   ·cases h) (fun s hs=>by
  simp only [mo,List.length_map,Int.toNat_natCast,a1,a2,an hk,aJ,Bool.and_self,Bool.and_true,cond_true,cond_false,zz,zA,decide_true,Option.bind_some]) N sn 0 (Nat.zero_le _) (by unfold cU at hN; omega) (Nat.le_refl _)
 rw [List.drop_zero] at key
 exact key
end
end Go.Proofs.YtfiopgedfcaodaaGreatDoor
namespace Go.Proofs.YtfiopgedfcaodaaGreatDoor
open Go Go.Am
set_option maxRecDepth 100000
def cY (b:P3):Int × Int:=(IntKind.wrap .i64 (b.1+b.2.2),IntKind.wrap .i64 (b.2.1+1))
def dO (b:P3):Int × Int:=(b.1,b.2.1)
theorem AE (N:Nat) (b:P3):IZ N b=some (b.1,b.2.1,cY b):=by rw [Qd]; rfl
theorem sO (N:Nat) (b:P3):sE N b=some (dO b):=by rw [QJ]; rfl
theorem sP (N:Nat) (b:P3):sF N b=some (cY b):=by rw [QK]; rfl
theorem I5 (N:Nat) (b:P3):Mg N b=some (b.1,b.2.1,cY b):=by
 rw [QP]
 simp only [sO,sP,beq_self_eq_true,Bool.and_self,cond_true,Option.bind_some]
 rfl
def mz (b:P3):Int:=if bu (dO b)≠0 then bu (dO b) else if b.2.2≠-1∧b.2.2≠1 then 13 else bu (cY b)
theorem F7 {N:Nat} (hN:cU N) (p:Int × Int):IV N p=some (ay [oU p.1 (-100000) 100000,oU p.2 (-100000) 100000]):=by
 rw [Hi]
 simp only [DL,Option.bind_some,beq_self_eq_true,Bool.and_self,cond_true]
 rw [Ax]
 simp only [Option.bind_some]
 rw [jd hN _ (by simp)]
 rfl
theorem Mw (b:P3) (h0:bu (dO b)=0) (h1:b.2.2=-1∨b.2.2=1):ay [oU (cY b).1 (-100000) 100000,oU (cY b).2 (-100000) 100000]=bu (cY b):=by
 unfold bu dO at h0
 simp only at h0
 split at h0
 ·cases h0
 ·rename_i hr
  split at h0
  ·rename_i hp
   have e1:(cY b).1=b.1+b.2.2:=DA (by omega)
   have e2:(cY b).2=b.2.1+1:=DA (by omega)
   unfold bu
   rw [e1,e2]
   have hp2:(b.1+b.2.2+(b.2.1+1)) % 2=0:=by omega
   rw [if_pos hp2]
   unfold oU
   simp only [ay]
   by_cases c1:b.1+b.2.2 < -100000∨b.1+b.2.2 > 100000
   ·have c:b.1+b.2.2 < -100000∨b.1+b.2.2 > 100000∨b.2.1+1 < -100000∨b.2.1+1 > 100000:=by omega
    rw [if_pos c,if_pos c1]; rfl
   ·rw [if_neg c1]
    by_cases c2:b.2.1+1 < -100000∨b.2.1+1 > 100000
    ·have c:b.1+b.2.2 < -100000∨b.1+b.2.2 > 100000∨b.2.1+1 < -100000∨b.2.1+1 > 100000:=by omega
     rw [if_pos c,if_pos c2]; rfl
    ·have c:¬ (b.1+b.2.2 < -100000∨b.1+b.2.2 > 100000∨b.2.1+1 < -100000∨b.2.1+1 > 100000):=by omega
     rw [if_neg c,if_neg c2]; rfl
  ·cases h0
theorem Mx {N:Nat} (hN:cU N) (b:P3):L5 N b=some (mz b):=by
 rw [Qf]
 have q1:IW N (b.1,b.2.1)=some (bu (dO b)):=Ay hN _
 simp only [q1,kb,Option.bind_some,beq_self_eq_true,Bool.and_self,cond_true,AE]
 have q2:∀ s t:Bool,((bif s then ((bif allFit (aA.fits nL) [AV.int .i64 (bu (dO b)),AV.int .i64 (if t=true then 13 else 0)]&&true then some (List.map d24 [AV.int .i64 (bu (dO b)),AV.int .i64 (if t=true then 13 else 0)]) else none:Option (List Int)).bind fun x=>(vg N x).bind fun y=>some y) else ((bif allFit (aA.fits nL) [AV.int .i64 (bu (dO b)),AV.int .i64 (if false=true then 13 else 0)]&&true then some (List.map d24 [AV.int .i64 (bu (dO b)),AV.int .i64 (if false=true then 13 else 0)]) else none:Option (List Int)).bind fun x=>(vg N x).bind fun y=>some y)):Option Int)=some (ay [bu (dO b),if s&&t then 13 else 0]):=fun s t=>by
  rw [Ax,Ax]
  simp only [Option.bind_some]
  rw [jd hN _ (by simp),jd hN _ (by simp)]
  cases s <;> cases t <;> rfl
 rw [q2,Option.bind_some]
 have q3:IV N ((cY b).1,(cY b).2)=_:=F7 hN (cY b)
 unfold mz
 simp only [ay]
 by_cases h0:bu (dO b)=0
 ·by_cases h1:b.2.2=-1∨b.2.2=1
  ·have hb:(b.2.2 != -1&&b.2.2 != 1)=false:=by rcases h1 with h | h <;> rw [h] <;> rfl
   rw [hb]
   have hn:¬ (b.2.2≠-1∧b.2.2≠1):=by omega
   rw [if_pos h0,if_neg (show ¬ bu (dO b)≠0 from fun c=>c h0),if_neg hn,← Mw b h0 h1]
   simp only [Bool.false_eq_true,if_false,if_true,bne_self_eq_false,cond_false,q3,Option.bind_some]
  ·have hb:(b.2.2 != -1&&b.2.2 != 1)=true:=by
    rw [Bool.and_eq_true]; exact ⟨bne_iff_ne.2 (by omega),bne_iff_ne.2 (by omega)⟩
   have hn:b.2.2≠-1∧b.2.2≠1:=by omega
   rw [hb,if_pos h0,if_neg (show ¬ bu (dO b)≠0 from fun c=>c h0),if_pos hn]
   rfl
 ·have hb:(bu (dO b) != 0)=true:=bne_iff_ne.2 h0
  rw [if_neg h0,if_pos h0,hb]
  rfl
theorem My (N:Nat) (b:P3):Me N b=some (mz b):=by
 rw [QM]
 have q1:DJ N ((dO b).1,(dO b).2)=_:=tN N (dO b)
 have q2:DJ N ((cY b).1,(cY b).2)=_:=tN N (cY b)
 have q0:sE N (b.1,b.2.1,b.2.2)=_:=sO N b
 have q3:sF N (b.1,b.2.1,b.2.2)=_:=sP N b
 simp only [q0,q1,q3,q2,Option.bind_some]
 unfold mz
 by_cases h0:bu (dO b)=0
 ·rw [h0]
  by_cases h1:b.2.2=1
  ·rw [h1]; rfl
  ·have hb:(b.2.2 != 1)=true:=bne_iff_ne.2 h1
   by_cases h2:b.2.2=-1
   ·rw [h2]; rfl
   ·have Jq:(b.2.2 != -1)=true:=bne_iff_ne.2 h2
    rw [hb,Jq,if_neg (show ¬ (0:Int)≠0 from fun c=>c rfl),if_pos ⟨h2,h1⟩]
    rfl
 ·have hb:(bu (dO b) == 0)=false:=beq_false_of_ne h0
  rw [if_pos h0,hb]
  simp only [cond_false,Option.bind_some,hb]
def less (a b:P3):Bool:=if a.2.1≠b.2.1 then decide (a.2.1 < b.2.1) else if a.1≠b.1 then decide (a.1 < b.1) else decide (a.2.2 < b.2.2)
theorem AF (N:Nat) (a b:P3):F1 N (a,b)=some (less a b):=by
 rw [QN]
 unfold less
 by_cases h1:a.2.1=b.2.1
 ·by_cases h2:a.1=b.1
  ·simp [h1,h2]
  ·have hb:(a.1 != b.1)=true:=bne_iff_ne.2 h2
   simp [h1,h2,hb]
 ·have hb:(a.2.1 != b.2.1)=true:=bne_iff_ne.2 h1
  simp [h1,hb]
def q8 (a b:Int):Int:=if a < b then -1 else if a > b then 1 else 0
theorem HB (N:Nat) (a b:Int):BM N (a,b)=some (q8 a b):=by
 rw [Qj]
 simp only [Qi,bne_self_eq_false,Option.bind_some,cond_false]
 unfold q8
 by_cases h1:a < b
 ·simp [h1]
 ·by_cases h2:a > b <;> simp [h1,h2]
theorem yD {N:Nat} (hN:cU N) (l:List Int) (hl:l.length≤9223372036854775806):L6 N l=some (ay l):=by
 obtain ⟨o,h1,h2⟩:=nw (rd:=vM N l) l (fun k hk=>by
  have hd:=dx n3 l k hk
  have e1:d3 (ab (List.map n3 l) k)=l[k]:=by rw [hd]; rfl
  have e2:aA.fits p3 (ab (List.map n3 l) k)=true:=by rw [hd]; rfl
  simp only [vM,List.length_map,Int.toNat_natCast,e1,e2,aN (show k < 9223372036854775807 by omega),ax hk,an hk,Bool.and_self,cond_true]
  by_cases hz:l[k]=0
  ·simp [hz]
  ·simp [hz,Bool.cond_eq_ite]) (by simp only [vM,List.length_map,aJ,cond_false]) N (by unfold cU at hN; omega)
 rw [Qk,h1,Option.bind_some]
 rcases o with o | o
 ·simpa using h2
 ·simpa using h2
def VG (a b:P3):Int:=ay [q8 a.2.1 b.2.1,q8 a.1 b.1,q8 a.2.2 b.2.2]
theorem Mz {N:Nat} (hN:cU N) (a b:P3):L7 N (a,b)=some (VG a b):=by
 rw [Qm]
 simp only [HB,Option.bind_some,beq_self_eq_true,Bool.and_self,cond_true]
 have h3:∀ x y z:Int,((bif allFit (aA.fits p3) [AV.int .i64 x,AV.int .i64 y,AV.int .i64 z]&&true then some (List.map d3 [AV.int .i64 x,AV.int .i64 y,AV.int .i64 z]) else none:Option (List Int)))=some [x,y,z]:=fun x y z=>rfl
 rw [h3]
 simp only [Option.bind_some]
 rw [yD hN _ (by simp)]
 rfl
theorem I6 (a b:P3):decide (VG a b≥0)=!less a b:=by
 unfold VG less q8
 simp only [ay]
 by_cases h1:a.2.1 < b.2.1
 ·have:a.2.1≠b.2.1:=by omega
  simp [h1,this]
 ·by_cases h2:a.2.1 > b.2.1
  ·have:a.2.1≠b.2.1:=by omega
   simp [h1,h2,this]
  ·have:a.2.1=b.2.1:=by omega
   simp only [h1,h2,this,if_false,if_true,ne_eq,not_true_eq_false]
   by_cases h3:a.1 < b.1
   ·have:a.1≠b.1:=by omega
    simp [h3,this]
   ·by_cases h4:a.1 > b.1
    ·have:a.1≠b.1:=by omega
     simp [h3,h4,this]
    ·have:a.1=b.1:=by omega
     simp only [this,if_false,if_true,not_true_eq_false,Int.lt_irrefl,gt_iff_lt]
     by_cases h5:a.2.2 < b.2.2
     ·simp [h5]
     ·by_cases h6:b.2.2 < a.2.2 <;> simp [h5,h6]
def yF (l:List P3) (k:Nat):Int:=if mz (l.getD k (0,0,0))≠0 then mz (l.getD k (0,0,0)) else if 0 < k∧less (l.getD (k - 1) (0,0,0)) (l.getD k (0,0,0))=false then 11 else 0
def eR (l:List P3):Int:=if l.length > 4096 then 5 else ay ((List.range l.length).map (yF l))
theorem iH (C:List P3) {k:Nat} (hk:k < C.length):d120 (ab (List.map n120 C) k)=C[k]∧aA.fits dH (ab (List.map n120 C) k)=true:=by
 rw [dx n120 C k hk,Yk,Yj]; exact ⟨rfl,rfl⟩
theorem HC {N:Nat} (hN:cU N) (l:List P3):T65 N l=some (eR l):=by
 rw [Ve]
 simp only [List.length_map]
 unfold eR
 by_cases h:l.length > 4096
 ·have h':(l.length:Int) > 4096:=by omega
  simp [h,h']
 ·have h':¬ (l.length:Int) > 4096:=by omega
  have key:=oV (rd:=BP N l) ((List.range l.length).map (yF l)) (fun k hk=>by
   have hk:k < l.length:=by simpa using hk
   obtain ⟨a1,a2⟩:=iH l hk
   rw [List.getElem_map,List.getElem_range]
   have e1:l.getD k (0,0,0)=l[k]:=by simp [hk]
   unfold yF
   rw [e1]
   have q1:Me N (l[k].1,l[k].2.1,l[k].2.2)=_:=My N l[k]
   simp only [BP,List.length_map,Int.toNat_natCast,a1,a2,ax hk,an hk,Bool.and_self,cond_true,q1,Option.bind_some,aN (show k < 9223372036854775807 by omega)]
   by_cases h0:mz l[k]=0
   ·rw [h0]
    by_cases H9:k=0
    ·subst H9; rfl
    ·have Ri:k - 1 < l.length:=by omega
     obtain ⟨b1,b2⟩:=iH l Ri
     have e2:l.getD (k - 1) (0,0,0)=l[k - 1]:=by simp [Ri]
     rw [e2]
     have ew:IntKind.wrap .i64 ((k:Int) - 1)=((k - 1:Nat):Int):=by rw [DA (by omega)]; omega
     have hp:decide ((k:Int) > 0)=true:=decide_eq_true (by omega)
     have q2:F1 N ((l[k - 1].1,l[k - 1].2.1,l[k - 1].2.2),(l[k].1,l[k].2.1,l[k].2.2))=_:=AF N l[k - 1] l[k]
     simp only [hp,ew,Int.toNat_natCast,b1,b2,an Ri,Bool.and_self,cond_true,q2,Option.bind_some,bne_self_eq_false,cond_false]
     cases less l[k - 1] l[k] with
     | true=>simp
     | false=>simp [show 0 < k by omega]
   ·have hb:(mz l[k] != 0)=true:=bne_iff_ne.2 h0
    simp [hb,h0]) (by
   rw [List.length_map,List.length_range]
   simp only [BP,List.length_map,aJ,cond_false]) N (by unfold cU at hN; rw [List.length_map,List.length_range]; omega)
  rw [if_neg h]
  simp only [h',decide_false,cond_false,key,Option.bind_some]
  split <;> simp_all
theorem DU {N:Nat} (hN:cU N) (l:List P3):L8 N l=some (eR l):=by
 rw [Qn]
 simp only [List.length_map]
 unfold eR
 by_cases h:l.length > 4096
 ·have h':(l.length:Int) > 4096:=by omega
  simp [h,h']
 ·have h':¬ (l.length:Int) > 4096:=by omega
  have key:=oV (rd:=sD N l) ((List.range l.length).map (yF l)) (fun k hk=>by
   have hk:k < l.length:=by simpa using hk
   obtain ⟨a1,a2⟩:=iH l hk
   rw [List.getElem_map,List.getElem_range]
   have e1:l.getD k (0,0,0)=l[k]:=by simp [hk]
   unfold yF
   rw [e1]
   have q1:L5 N (l[k].1,l[k].2.1,l[k].2.2)=_:=Mx hN l[k]
   have two:∀ x y:Int,((bif allFit (aA.fits nL) [AV.int .i64 x,AV.int .i64 y]&&true then some (List.map d24 [AV.int .i64 x,AV.int .i64 y]) else none:Option (List Int)))=some [x,y]:=fun x y=>rfl
   have q5:∀ x y:Int,vg N [x,y]=some (ay [x,y]):=fun x y=>jd hN _ (by simp)
   by_cases H9:k=0
   ·subst H9
    simp only [sD,List.length_map,Int.toNat_natCast,a1,a2,ax hk,an hk,Bool.and_self,cond_true,q1,Option.bind_some,two,q5,kb,aN (show 0 < 9223372036854775807 by omega),show decide (((0:Nat):Int) > 0)=false from rfl,cond_false]
    by_cases h0:mz l[0]=0
    ·simp [h0,ay]
    ·have hb:(mz l[0] != 0)=true:=bne_iff_ne.2 h0
     simp [h0,hb,ay]
   ·have Ri:k - 1 < l.length:=by omega
    obtain ⟨b1,b2⟩:=iH l Ri
    have e2:l.getD (k - 1) (0,0,0)=l[k - 1]:=by simp [Ri]
    rw [e2]
    have ew:IntKind.wrap .i64 ((k:Int) - 1)=((k - 1:Nat):Int):=by rw [DA (by omega)]; omega
    have em:(if ((k - 1:Nat):Int) > 0 then ((k - 1:Nat):Int) else 0)=((k - 1:Nat):Int):=by split <;> omega
    have hp:decide ((k:Int) > 0)=true:=decide_eq_true (by omega)
    have q2:L7 N ((l[k - 1].1,l[k - 1].2.1,l[k - 1].2.2),(l[k].1,l[k].2.1,l[k].2.2))=_:=Mz hN l[k - 1] l[k]
    simp only [sD,List.length_map,Int.toNat_natCast,a1,a2,ax hk,an hk,Bool.and_self,cond_true,q1,Option.bind_some,hp,ew,em,b1,b2,an Ri,q2,kb,I6,two,q5,aN (show k < 9223372036854775807 by omega)]
    by_cases h0:mz l[k]=0
    ·cases less l[k - 1] l[k] with
     | true=>simp [h0,ay]
     | false=>simp [h0,ay,show 0 < k by omega]
    ·have hb:(mz l[k] != 0)=true:=bne_iff_ne.2 h0
     simp [h0,hb,ay]) (by
   rw [List.length_map,List.length_range]
   simp only [sD,List.length_map,aJ,cond_false]) N (by unfold cU at hN; rw [List.length_map,List.length_range]; omega)
  rw [if_neg h]
  simp only [h',decide_false,cond_false,key,Option.bind_some]
  split <;> simp_all
end Go.Proofs.YtfiopgedfcaodaaGreatDoor
namespace Go.Proofs.YtfiopgedfcaodaaGreatDoor
open Go Go.Am Go.Sort
set_option maxRecDepth 100000
def vQ:Int × Int→Int × Int→Bool:=ltOf zx
theorem VH (x y:Int × Int):vQ x y=decide (x.2 < y.2∨x.2=y.2∧x.1 < y.1):=tK x y
def bn:List P3→List (Int × Int)
 | []=>[]
 | b :: l=>dO b :: cY b :: bn l
theorem gA:∀ l:List P3,(bn l).length=2 * l.length
 | []=>rfl
 | b :: l=>by rw [bn,List.length_cons,List.length_cons,gA l,List.length_cons]; omega
theorem oW:∀ (l:List P3) (k:Nat) (h:k / 2 < l.length) (h2:k < (bn l).length),(bn l)[k]=if k % 2=0 then dO l[k / 2] else cY l[k / 2]
 | [],k,h,_=>absurd h (Nat.not_lt_zero _)
 | b :: l,0,_,_=>rfl
 | b :: l,1,_,_=>rfl
 | b :: l,k+2,h,h2=>by
  have e:(k+2) / 2=k / 2+1:=by omega
  have e2:(k+2) % 2=k % 2:=by omega
  have hl:k / 2 < l.length:=by rw [e,List.length_cons] at h; omega
  have Iv:k < (bn l).length:=by rw [gA]; omega
  have ih:=oW l k hl Iv
  simp only [e2]
  have g1:(bn (b :: l))[k+2]=(bn l)[k]:=rfl
  have g2:(b :: l)[(k+2) / 2]=l[k / 2]:=by
   have:∀ i (hi:i < (b :: l).length) (GJ:i=k / 2+1),(b :: l)[i]=l[k / 2]:=by
    intro i hi GJ; subst GJ; rfl
   exact this _ h e
  rw [g1,g2,ih]
def aT (l:List P3):List (Int × Int):=yC vQ (0,0) (bn l)
theorem uN (l:List (Int × Int)) {k:Nat} (hk:k < l.length):d87 (ab (List.map mE l) k)=l[k]∧aA.fits oX (ab (List.map mE l) k)=true:=by
 rw [dx mE l k hk,ab4,ab3]; exact ⟨rfl,rfl⟩
theorem F8 (l:List (Int × Int)) (a b:Nat):df a b (List.map mE l)=List.map mE ((l.take b).drop a):=by simp [df,List.map_take,List.map_drop]
theorem MA (x o:Int × Int):(bif decide (x.2 < o.2) then some true else bif (x.2 == o.2) then some (decide (x.1 < o.1)) else some false)=some (vQ x o):=by
 rw [VH]
 by_cases h1:x.2 < o.2
 ·simp [h1]
 ·by_cases h2:x.2=o.2
  ·simp [h2]
  ·have hb:(x.2 == o.2)=false:=beq_false_of_ne h2
   simp [h1,h2,hb]
section
variable {N:Nat} (hN:cU N)
include hN
theorem VI (s:List (Int × Int)) (i:Int) (o:Int × Int) (hs:s.length≤2000000):ak (iZ N (s,i) o) N 0=some ((s.takeWhile fun x=>vQ x o).length:Int):=by
 have q:=yA (rd:=iZ N (s,i) o) s.length (fun k=>(k:Int)) (fun k=>!vQ (s.getD k (0,0)) o) (fun k=>(k:Int)) (s.length:Int) (fun k hk=>by
  obtain ⟨a1,a2⟩:=uN s hk
  have e:s.getD k (0,0)=s[k]:=by simp [hk]
  rw [e]
  have hb:=MA s[k] o
  simp only [iZ,List.length_map,Int.toNat_natCast,a1,a2,ax hk,an hk,Bool.and_self,cond_true,aN (show k < 9223372036854775807 by omega),hb,Option.bind_some]
  cases vQ s[k] o <;> rfl) (by
  simp only [iZ,List.length_map,aJ,cond_false,Option.bind_some]) N (by unfold cU at hN; omega)
 have q':ak (iZ N (s,i) o) N 0=_:=q
 rw [q']
 have:=HA s (fun x=>vQ x o) (0,0)
 rw [← this]
 cases (List.range s.length).find? fun j=>!vQ (s.getD j (0,0)) o <;> rfl
theorem MB (l:List P3) (s:List (Int × Int)) (k:Nat) (hl:l.length≤1000000) (hs:s.length≤2000000) (hk:k < 2 * l.length) (hk2:k < (bn l).length):tM N l (s,(k:Int))=some (.inl (mw vQ (0,0) (bn l)[k] s,((k+1:Nat):Int))):=by
 have hk3:k / 2 < l.length:=by omega
 have hw:IntKind.wrap .i64 (2 * (l.length:Int))=((2 * l.length:Nat):Int):=by rw [DA (by omega)]; omega
 have hd:IntKind.wrap .i64 (Int.tdiv (k:Int) 2)=((k / 2:Nat):Int):=by
  rw [Int.tdiv_eq_ediv_of_nonneg (by omega),DA (by omega)]; omega
 have hm:Int.tmod (k:Int) 2=((k % 2:Nat):Int):=by
  rw [Int.tmod_eq_emod_of_nonneg (by omega)]; omega
 obtain ⟨a1,a2⟩:=iH l hk3
 have adQ:Mg N (l[k / 2].1,l[k / 2].2.1,l[k / 2].2.2)=_:=I5 N l[k / 2]
 have ho:((bif decide (((k % 2:Nat):Int)=0) then some (l[k / 2].1,l[k / 2].2.1) else bif decide (((k % 2:Nat):Int)=1) then some ((cY l[k / 2]).1,(cY l[k / 2]).2) else none):Option (Int × Int))=some (bn l)[k]:=by
  rw [oW l k hk3 hk2]
  by_cases h:k % 2=0
  ·rw [h]; rfl
  ·have h1:k % 2=1:=by omega
   rw [h1]; rfl
 generalize (bn l)[k]=o at *
 obtain ⟨t1,t2⟩:=gI (fun x=>vQ x o) s
 have hle:(s.takeWhile fun x=>vQ x o).length≤s.length:=(List.takeWhile_sublist _).length_le
 have mD:∀ i,ak (iZ N (s,i) o) N 0=some ((s.takeWhile fun x=>vQ x o).length:Int):=fun i=>VI hN s i o (by omega)
 unfold mw
 simp only
 generalize (s.takeWhile fun x=>vQ x o).length=a at *
 have hc:((bif ((a:Int) == (s.length:Int)) then some true else bif (decide ((0:Int)≤(a:Int)∧(a:Int) < (s.length:Int))&&aA.fits oX (ab (List.map mE s) a)) then some (!(((d87 (ab (List.map mE s) a)).1 == o.1)&&(((d87 (ab (List.map mE s) a)).2 == o.2)&&true))) else none):Option Bool)=some (decide (a=s.length∨s.getD a (0,0)≠o)):=by
  by_cases h:a=s.length
  ·have hb:((a:Int) == (s.length:Int))=true:=by simp [h]
   rw [hb]; simp [h]
  ·have GQ:a < s.length:=by omega
   obtain ⟨b1,b2⟩:=uN s GQ
   have hb:((a:Int) == (s.length:Int))=false:=beq_false_of_ne (by omega)
   have e:s.getD a (0,0)=s[a]:=by simp [GQ]
   rw [hb,b1,b2,an GQ,e]
   simp only [Bool.and_self,cond_true,cond_false]
   congr 1
   rw [Bool.eq_iff_iff]
   simp only [h,false_or,Bool.not_eq_true',Bool.and_true,decide_eq_true_eq,Bool.and_eq_false_iff,beq_eq_false_iff_ne,ne_eq]
   constructor
   ·rintro h2 rfl
    rcases h2 with h2 | h2 <;> exact h2 rfl
   ·intro h2
    by_cases h3:s[a].1=o.1
    ·right; intro h4; exact h2 (Prod.ext h3 h4)
    ·exact .inl h3
 have c1:decide ((0:Int)≤(a:Int)∧(a:Int)≤(s.length:Int))=true:=decide_eq_true (by omega)
 have ht:(List.take a s).length=a:=by rw [List.length_take]; omega
 have SD:decide (1=([AV.agg [AV.int .i64 o.1,AV.int .i64 o.2]]:List AV).length)=true:=rfl
 have Rj:∀ x:Nat,x≤4000000→decide (x * 16≤140737488355328)=true:=fun x hx=>decide_eq_true (by omega)
 have z0:∀ x:List (Int × Int),[AV.agg [AV.int .i64 o.1,AV.int .i64 o.2]]++List.map mE x=List.map mE ([o]++x):=fun x=>rfl
 have z1:∀ x y:List (Int × Int),(List.map mE x++[AV.agg [AV.int .i64 o.1,AV.int .i64 o.2]])++List.map mE y=List.map mE (x++[o]++y):=fun x y=>by rw [List.map_append,List.map_append]; rfl
 simp only [tM,List.length_map,hw,ax hk,hd,Int.toNat_natCast,a1,a2,an hk3,Bool.and_self,cond_true,adQ,Option.bind_some,hm,ho,mD,hc]
 by_cases hi:a=s.length∨s.getD a (0,0)≠o
 ·rw [if_pos hi]
  simp only [hi,decide_true,cond_true,c1,Bool.and_self,Bool.and_true,F8,List.drop_zero,List.take_length,beq_self_eq_true]
  by_cases h0:a=0
  ·subst h0
   simp only [List.take_zero,List.map_nil,List.isEmpty_nil,cond_true,List.nil_append,List.length_singleton,List.length_map,List.length_drop,decide_true,Rj (1+s.length) (by omega),Bool.and_self,z0,mj,ml,Option.bind_some,List.drop_zero,Bool.and_true,aN (show k < 9223372036854775807 by omega)]
  ·have cL:List.isEmpty (List.map mE (List.take a s))=false:=by
    cases hd:List.take a s with
    | nil=>rw [hd] at ht; simp at ht; omega
    | cons x y=>rfl
   simp only [cL,cond_false,List.nil_append,List.length_append,List.length_singleton,List.length_map,List.length_drop,ht,Nat.zero_add,Rj a (by omega),Rj (a+1) (by omega),Rj (a+1+(s.length - a)) (by omega),decide_true,cond_true,Bool.and_self,z1,mj,ml,Option.bind_some,Bool.and_true,aN (show k < 9223372036854775807 by omega)]
 ·rw [if_neg hi]
  simp only [hi,decide_false,cond_false,mj,ml,Bool.and_true,cond_true,Option.bind_some,aN (show k < 9223372036854775807 by omega)]
theorem I7 (l:List P3) (hl:l.length≤1000000):T66 N l=some (aT l):=by
 rw [Vh]
 have key:=bD (rd:=tM N l) (bn l) (fun s k=>(s,(k:Int))) (fun s k=>mw vQ (0,0) k s) (fun s=>s) (fun s k=>s.length≤k) (fun s k hk hs=>by
  have gl:k < 2 * l.length:=by rw [gA] at hk; exact hk
  refine ⟨MB hN l s k hl (by omega) gl hk,?_⟩
  have:=sN (lt:=vQ) (0,0) (bn l)[k] s
  omega) (fun s _=>by
  have hw:IntKind.wrap .i64 (2 * (l.length:Int))=((2 * l.length:Nat):Int):=by rw [DA (by omega)]; omega
  rw [gA]
  simp only [tM,List.length_map,hw,aJ,cond_false,mj,ml,Bool.and_true,cond_true,Option.bind_some]) N [] 0 (Nat.zero_le _) (by unfold cU at hN; rw [gA]; omega) (Nat.le_refl _)
 have gR:ak (tM N l) N ([],0)=_:=key
 have z:((bif (allFit (aA.fits oX) ([]:List AV)&&true) then some ((List.map d87 ([]:List AV)),0) else none:Option ((List (Int × Int)) × Int)).bind fun Np=>some Np)=some ([],0):=rfl
 rw [z,Option.bind_some,gR,List.drop_zero,Option.bind_some]
 simp only [mj,ml,Bool.and_true,cond_true] <;> rfl
omit hN in
theorem DV (N:Nat) (x y:Int × Int):F0 N (x,y)=some (decide (x=y)):=by
 rw [Qq]
 congr 1
 rw [Bool.eq_iff_iff]
 simp only [Bool.and_true,Bool.and_eq_true,beq_iff_eq,decide_eq_true_eq]
 constructor
 ·rintro ⟨h1,h2⟩; exact Prod.ext h1 h2
 ·rintro rfl; exact ⟨rfl,rfl⟩
omit hN in
theorem Y3 (l:List (Int × Int)):aC (List.map mE l)=true:=jx (fun _=>rfl) l
omit hN in
theorem Y4 (s:List (Int × Int)) (i:Nat) (a b:Int):ap (List.map mE s) i (AV.agg [AV.int .i64 a,AV.int .i64 b])=List.map mE (s.set i (a,b)):=by
 rw [eh]
 show (List.map mE s).set i (mE (a,b))=_
 rw [List.map_set]
omit hN in
theorem Rk (s:List (Int × Int)) (a b c d:Int):List.map mE s++[AV.agg [AV.int .i64 a,AV.int .i64 b],AV.agg [AV.int .i64 c,AV.int .i64 d]]=List.map mE (s++[(a,b),(c,d)]):=by
 rw [List.map_append]; rfl
theorem I8 (l:List P3) (hl:l.length≤1000000):ak (pF N l) N ((),0,[])=some ((),bn l):=by
 have key:=bD (rd:=pF N l) l (fun s k=>((),(k:Int),s)) (fun s b=>s++[dO b,cY b]) (fun s=>((),s)) (fun s k=>s.length=2 * k) (fun s k hk hs=>by
  obtain ⟨a1,a2⟩:=iH l hk
  have q:IZ N (l[k].1,l[k].2.1,l[k].2.2)=_:=AE N l[k]
  have jh:∀ a b c d:Int,aC [AV.int .i64 a,AV.int .i64 b,AV.int .i64 c,AV.int .i64 d]=true:=fun _ _ _ _=>rfl
  have hlen:(s++[(l[k].1,l[k].2.1),((cY l[k]).1,(cY l[k]).2)]).length=s.length+2:=by simp
  have hb:decide ((s.length+2) * 16≤140737488355328)=true:=decide_eq_true (by omega)
  refine ⟨?_,by rw [List.length_append,hs]; simp; omega⟩
  simp only [pF,List.length_map,Int.toNat_natCast,a1,a2,ax hk,an hk,Bool.and_self,Bool.and_true,cond_true,q,Option.bind_some,jh,Rk,hlen,hb,decide_true,Nat.beq_refl,mj,ml,aN (show k < 9223372036854775807 by omega)]
  rfl) (fun s _=>by
  simp only [pF,List.length_map,aJ,cond_false,Nat.beq_refl,mj,ml,Bool.and_self,Bool.and_true,cond_true,Option.bind_some]) N [] 0 (Nat.zero_le _) (by unfold cU at hN; omega) rfl
 have gR:ak (pF N l) N ((),0,[])=_:=key
 rw [gR,List.drop_zero]
 congr 2
 have gen:∀ (l:List P3) (s:List (Int × Int)),l.foldl (fun s b=>s++[dO b,cY b]) s=s++bn l:=by
  intro l
  induction l with
  | nil=>intro s; simp [bn]
  | cons b l ih=>intro s; rw [List.foldl_cons,ih,bn,List.append_assoc]; rfl
 rw [gen]; rfl
section
variable (F st:List (Int × Int)) (hn:st.length=F.length) (hF:F.length≤2000000)
include hn hF
theorem Rl (m:Nat) (h1:1≤m) (hm:m < F.length) (hu:yB (0,0) st (m+1)=st.take m) :
  ∃ x,ak (eI N ((),F) ((m:Int),st)) N ((m:Int),1,st)=some x∧∃ (t:Nat) (c:List (Int × Int)),x=((t:Int),c)∧c.length=F.length∧t≤F.length∧c.take t=yB (0,0) st F.length:=by
 refine hX (rd:=eI N ((),F) ((m:Int),st)) (S:=Nat × List (Int × Int)) (F.length - m - 1) (fun s i=>((s.1:Int),((i+1:Nat):Int),s.2))
  (fun s i=>s.1≤m+i∧s.2.length=F.length∧s.2.take s.1=yB (0,0) st (m+1+i)∧∀ t,m+i≤t→s.2[t]?=st[t]?) _ ?_ ?_ N (m,st) 0 (Nat.zero_le _) (by unfold cU at hN; omega) ⟨by omega,hn,hu.symm,fun _ _=>rfl⟩
 ·rintro ⟨t,c⟩ i hi ⟨i1,i2,i3,i4⟩
  simp only at i1 i2 i3 i4
  have hj:m+(i+1) < c.length:=by omega
  have hj0:m+i < c.length:=by omega
  have Gv:m+(i+1) < st.length:=by omega
  have Uv:m+i < st.length:=by omega
  have e1:c[m+(i+1)]=st[m+(i+1)]:=by
   have:=i4 (m+(i+1)) (by omega)
   rw [List.getElem?_eq_getElem hj,List.getElem?_eq_getElem Gv] at this
   exact Option.some.inj this
  have e0:c[m+i]=st[m+i]:=by
   have:=i4 (m+i) (by omega)
   rw [List.getElem?_eq_getElem hj0,List.getElem?_eq_getElem Uv] at this
   exact Option.some.inj this
  obtain ⟨a1,a2⟩:=uN c hj
  obtain ⟨b1,b2⟩:=uN c hj0
  rw [e1] at a1
  rw [e0] at b1
  have g1:st.getD (m+(i+1)) (0,0)=st[m+(i+1)]:=by simp [Gv]
  have g0:st.getD (m+i) (0,0)=st[m+i]:=by simp [Uv]
  have vF:yB (0,0) st (m+1+(i+1))=if st[m+(i+1)]=st[m+i] then yB (0,0) st (m+1+i) else yB (0,0) st (m+1+i)++[st[m+(i+1)]]:=by
   rw [show m+1+(i+1)=m+1+i+1 by omega]
   conv=>lhs; unfold yB
   rw [show m+1+i=m+(i+1) by omega,g1,show m+(i+1) - 1=m+i by omega,g0]
   by_cases h:st[m+(i+1)]=st[m+i]
   ·rw [if_pos h,if_pos ⟨by omega,h⟩]
   ·rw [if_neg h,if_neg fun c=>h c.2]
  have hw:IntKind.wrap .i64 (((i+1:Nat):Int) - 1)=(i:Int):=by rw [DA (by omega)]; omega
  have bP:decide (((i+1:Nat):Int) < ((F.length - m:Nat):Int))=true:=decide_eq_true (by omega)
  have Bb:decide ((0:Int)≤((i+1:Nat):Int)∧((i+1:Nat):Int) < ((F.length - m:Nat):Int))=true:=decide_eq_true (by omega)
  have Sm:decide ((0:Int)≤(i:Int)∧(i:Int) < ((F.length - m:Nat):Int))=true:=decide_eq_true (by omega)
  have Kf:decide (m+(i+1) < F.length)=true:=decide_eq_true (by omega)
  have Y5:decide (m+i < F.length)=true:=decide_eq_true (by omega)
  have hrt:decide ((0:Int)≤(t:Int)∧(t:Int) < (F.length:Int))=true:=decide_eq_true (by omega)
  have hdt:decide (t < F.length)=true:=decide_eq_true (by omega)
  have q:F0 N ((st[m+(i+1)].1,st[m+(i+1)].2),(st[m+i].1,st[m+i].2))=_:=DV N st[m+(i+1)] st[m+i]
  by_cases h:st[m+(i+1)]=st[m+i]
  ·rw [decide_eq_true h] at q
   refine ⟨(t,c),?_,by omega,i2,?_,fun t' C1=>i4 t' (by omega)⟩
   ·simp only [eI,List.length_map,Int.toNat_natCast,Nat.zero_add,hw,bP,Bb,Sm,i2,Kf,Y5,a1,a2,b1,b2,decide_true,Bool.and_self,Bool.and_true,cond_true,q,Option.bind_some,Bool.not_true,cond_false,mj,ml,aN (show i+1 < 9223372036854775807 by omega)]
   ·rw [vF,if_pos h]; exact i3
  ·refine ⟨(t+1,c.set t st[m+(i+1)]),?_,by simp only; omega,by simp only [List.length_set]; exact i2,?_,fun t' C1=>?_⟩
   ·simp only [eI,List.length_map,Int.toNat_natCast,Nat.zero_add,hw,bP,Bb,Sm,i2,Kf,Y5,hrt,hdt,a1,a2,b1,b2,decide_true,Bool.and_self,Bool.and_true,cond_true,q,h,decide_false,Option.bind_some,Bool.not_false,Y4,mj,ml,aN (show i+1 < 9223372036854775807 by omega),aN (show t < 9223372036854775807 by omega)]
   ·rw [vF,if_neg h,← i3]
    simp only
    rw [List.take_succ,List.take_set_of_le (Nat.le_refl _),List.getElem?_set_self (by omega)]
    rfl
   ·simp only
    rw [List.getElem?_set_ne (by omega)]
    exact i4 t' (by omega)
 ·rintro ⟨t,c⟩ ⟨i1,i2,i3,i4⟩
  simp only at i1 i2 i3 i4
  have we:decide (((F.length - m - 1+1:Nat):Int) < ((F.length - m:Nat):Int))=false:=decide_eq_false (by omega)
  refine ⟨((t:Int),c),?_,t,c,rfl,i2,by omega,?_⟩
  ·simp only [eI,List.length_map,Int.toNat_natCast,we,cond_false,mj,ml,Bool.and_true,cond_true,Option.bind_some]
  ·rw [i3]; congr 1; omega
omit hN hn hF in
theorem DW (s:List AV):∀ (t:Nat) (z:List AV),t+z.length=s.length→(bc s t z).length=s.length∧(bc s t z).take t=s.take t:=by
 induction s with
 | nil=>intro t z h; cases z with
  | nil=>simp [bc]
  | cons y z=>simp at h
 | cons a s ih=>
  intro t z h
  cases z with
  | nil=>simp [bc]
  | cons y z=>
   cases t with
   | zero=>
    simp only [bc,List.length_cons,List.take_zero,and_true]
    have:=ih 0 z (by simp at h ⊢; omega)
    omega
   | succ t=>
    simp only [bc,List.length_cons,List.take_succ_cons]
    have:=ih t (y :: z) (by simp at h ⊢; omega)
    exact ⟨by omega,by rw [this.2]⟩
omit hN hn hF in
theorem tP:∀ (s:List AV) (t:Nat) (z:List AV),aC s=true→aC z=true→aC (bc s t z)=true
 | [],t,[],h1,h2=>by simpa [bc] using h1
 | [],t,y :: z,h1,h2=>rfl
 | a :: s,t,[],h1,h2=>by cases t <;> simpa [bc] using h1
 | a :: s,0,y :: z,h1,h2=>by
  simp only [aC,Bool.and_eq_true] at h1 h2
  simp only [bc,aC,Bool.and_eq_true]
  exact ⟨h2.1,tP s 0 z h1.2 h2.2⟩
 | a :: s,t+1,y :: z,h1,h2=>by
  simp only [aC,Bool.and_eq_true] at h1
  simp only [bc,aC,Bool.and_eq_true]
  exact ⟨h1.1,tP s t (y :: z) h1.2 h2⟩
theorem MC:∃ o,ak (fK N ((),F)) N (1,st)=some o∧Sum.elim (fun l=>l) (fun l=>l) o=yB (0,0) st F.length∧∀ l,o=.inr l→l.length=F.length:=by
 have hN0:1≤F.length→F.length - 1 < N:=fun _=>by unfold cU at hN; omega
 by_cases hF0:F.length=0
 ·refine ⟨.inr st,?_,?_,fun l h=>by cases h; exact hn⟩
  ·obtain ⟨n,rfl⟩:∃ n,N=n+1:=⟨N - 1,by unfold cU at hN; omega⟩
   rw [bt]
   have we:decide ((1:Int) < (F.length:Int))=false:=decide_eq_false (by omega)
   simp only [fK,List.length_map,we,cond_false,mj,ml,Bool.and_true,cond_true,Option.bind_some,Sum.elim_inr]
  ·rw [hF0]
   have:st=[]:=List.length_eq_zero_iff.1 (by omega)
   rw [this]; rfl
 refine AD (rd:=fK N ((),F)) (S:=Unit) (F.length - 1) (fun _ k=>(((k+1:Nat):Int),st)) (fun _ k=>∀ j,0 < j→j < k+1→st.getD j (0,0)≠st.getD (j - 1) (0,0)) _ ?_ ?_ N () 0 (Nat.zero_le _) (by unfold cU at hN; omega) (fun j h1 h2=>by omega)
 ·rintro _ k hk hP
  have Gv:k+1 < st.length:=by omega
  have Uv:k < st.length:=by omega
  obtain ⟨a1,a2⟩:=uN st Gv
  obtain ⟨b1,b2⟩:=uN st Uv
  have g1:st.getD (k+1) (0,0)=st[k+1]:=by simp [Gv]
  have g0:st.getD k (0,0)=st[k]:=by simp [Uv]
  have hw:IntKind.wrap .i64 (((k+1:Nat):Int) - 1)=(k:Int):=by rw [DA (by omega)]; omega
  have En:k+1 < F.length:=by omega
  have vu:k < F.length:=by omega
  have Kf:decide (k+1 < F.length)=true:=decide_eq_true En
  have Y5:decide (k < F.length)=true:=decide_eq_true vu
  have q:F0 N ((st[k+1].1,st[k+1].2),(st[k].1,st[k].2))=_:=DV N st[k+1] st[k]
  by_cases h:st[k+1]=st[k]
  ·right
   rw [decide_eq_true h] at q
   have ht:=sM (0,0) st (k+1) (by omega) hP
   have hu:yB (0,0) st (k+1+1)=st.take (k+1):=by
    rw [← ht]
    conv=>lhs; unfold yB
    rw [if_pos ⟨by omega,by rw [g1,show k+1 - 1=k by omega,g0]; exact h⟩]
   obtain ⟨x,r,t,c,rfl,c1,c2,c3'⟩:=Rl hN F st hn hF (k+1) (by omega) En hu
   have hle:decide ((0:Int)≤((k+1:Nat):Int)∧((k+1:Nat):Int)≤(F.length:Int))=true:=decide_eq_true (by omega)
   have adR:decide ((0:Int)≤(t:Int)∧(t:Int)≤(F.length:Int))=true:=decide_eq_true (by omega)
   obtain ⟨z1,z2⟩:=DW (List.map mE c) t (List.replicate (F.length - t) (AV.agg [AV.int .i64 0,AV.int .i64 0])) (by rw [List.length_replicate,List.length_map]; omega)
   have z3:aC (bc (List.map mE c) t (List.replicate (F.length - t) (AV.agg [AV.int .i64 0,AV.int .i64 0])))=true:=tP _ _ _ (Y3 c) (by
    have:∀ n,aC (List.replicate n (AV.agg [AV.int .i64 0,AV.int .i64 0]))=true:=by
     intro n
     induction n with
     | zero=>rfl
     | succ n ih=>rw [List.replicate_succ,aC,ih]; rfl
    exact this _)
   have hs:decide (t+(F.length - t)≤F.length)=true:=decide_eq_true (by omega)
   have ht2:decide (t≤F.length)=true:=decide_eq_true c2
   rw [List.length_map] at z1
   refine ⟨.inl (yB (0,0) st F.length),?_,rfl,fun l h=>by cases h⟩
   have hmt:List.take t (List.map mE c)=List.map mE (List.take t c):=by rw [List.map_take]
   simp only [fK,List.length_map,Int.toNat_natCast,Nat.zero_add,hw,ax En,an En,an vu,hn,Kf,Y5,a1,a2,b1,b2,decide_true,Bool.and_self,Bool.and_true,cond_true,q,hle,mj,ml,Option.bind_some,r,adR,c1,hs,z1,ht2,z3,z2,hmt,c3']
  ·left
   rw [decide_eq_false h] at q
   refine ⟨(),?_,fun j h1 h2=>?_⟩
   ·simp only [fK,List.length_map,Int.toNat_natCast,Nat.zero_add,hw,ax En,an En,an vu,hn,Kf,Y5,a1,a2,b1,b2,decide_true,Bool.and_self,Bool.and_true,cond_true,q,cond_false,mj,ml,Option.bind_some,aN (show k+1 < 9223372036854775807 by omega)]
   ·by_cases hj:j=k+1
    ·subst hj
     rw [g1,show k+1 - 1=k by omega,g0]; exact h
    ·exact hP j h1 (by omega)
 ·intro _ hP
  have we:decide (((F.length - 1+1:Nat):Int) < (F.length:Int))=false:=decide_eq_false (by omega)
  refine ⟨.inr st,?_,?_,fun l h=>by cases h; exact hn⟩
  ·simp only [fK,List.length_map,we,cond_false,mj,ml,Bool.and_true,cond_true,Option.bind_some]
  ·have:=sM (0,0) st F.length (by omega) (fun j h1 h2=>hP j h1 (by omega))
   rw [this,← hn,List.take_length]
   rfl
end
theorem F9 (l:List P3) (hl:l.length≤1000000):Qr N l=some (aT l):=by
 have hs:kw jZ zx (List.map mE (bn l))=List.map mE ((bn l).mergeSort fun x y=>!vQ y x):=by
  unfold kw
  rw [show List.map (aA.bh jZ) (List.map mE (bn l))=bn l from ml _]
  rfl
 have hfp:allFit (aA.fits jZ) (List.map mE (bn l))=true:=mj _
 have hlen:((bn l).mergeSort fun x y=>!vQ y x).length=(bn l).length:=List.length_mergeSort _
 have hb:decide ((bn l).length≤140737488355328)=true:=decide_eq_true (by rw [gA]; omega)
 have ub:(bn l).length≤2000000:=by rw [gA]; omega
 have huq:=VE IU LP (0,0) (bn l)
 have huq:yB (0,0) ((bn l).mergeSort fun x y=>!vQ y x) (bn l).length=aT l:=huq
 have z:((bif ((Nat.beq 0 (([]:List AV)).length&&Nat.beq 0 (([]:List AV)).length)&&(allFit (aA.fits oX) ([]:List AV)&&true)) then some ((),0,(List.map d87 ([]:List AV))) else none:Option (Unit × Int × (List (Int × Int)))).bind fun w7=>some w7)=some ((),0,[]):=rfl
 rw [Qt,z,Option.bind_some,I8 hN l hl,Option.bind_some]
 simp only [hs,hfp,List.length_map,hb,hlen,decide_true,Bool.and_self,Bool.and_true,cond_true,Nat.le_refl,Y3,mj,ml,Option.bind_some]
 by_cases h2:((bn l).length:Int) < 2
 ·have ht:List.take (bn l).length (List.map mE ((bn l).mergeSort fun x y=>!vQ y x))=List.map mE ((bn l).mergeSort fun x y=>!vQ y x):=List.take_of_length_le (by rw [List.length_map,hlen]; exact Nat.le_refl _)
  simp only [h2,decide_true,cond_true,ht,mj,ml,Option.bind_some]
  congr 1
  rw [← huq,sM (0,0) _ _ (by rw [hlen]; exact Nat.le_refl _) (fun j a b=>by omega),List.take_of_length_le (by rw [hlen]; exact Nat.le_refl _)]
 ·obtain ⟨o,r,e,Iv⟩:=MC hN (bn l) ((bn l).mergeSort fun x y=>!vQ y x) hlen ub
  simp only [h2,decide_false,cond_false,r,Option.bind_some]
  rw [huq] at e
  cases o with
  | inl x=>
   simp only [Sum.elim_inl] at e ⊢
   rw [e]
   simp only [mj,ml,cond_true,Option.bind_some]
  | inr x=>
   have hx:=Iv x rfl
   simp only [Sum.elim_inr] at e ⊢
   subst e
   have ht:List.take (bn l).length (List.map mE (aT l))=List.map mE (aT l):=List.take_of_length_le (by rw [List.length_map,hx]; exact Nat.le_refl _)
   simp only [hx,decide_true,Nat.le_refl,Bool.and_self,cond_true,ht,mj,ml,Option.bind_some]
end
end Go.Proofs.YtfiopgedfcaodaaGreatDoor
