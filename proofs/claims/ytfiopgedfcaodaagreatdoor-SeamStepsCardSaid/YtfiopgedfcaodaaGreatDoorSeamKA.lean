/- Plain laws: joins of meshes. -/
import Derived.Test.YtfiopgedfcaodaaGreatDoorSeamT
import Derived.Test.YtfiopgedfcaodaaGreatDoorAmKK
import Derived.Test.YtfiopgedfcaodaaGreatDoorSeamTe
import Derived.Test.YtfiopgedfcaodaaGreatDoorSeamTs
import Derived.Test.YtfiopgedfcaodaaGreatDoorSeamTr
import Derived.Test.YtfiopgedfcaodaaGreatDoorSeamTc
import Derived.Test.YtfiopgedfcaodaaGreatDoorSeamTg
import Derived.Test.YtfiopgedfcaodaaGreatDoorAmKL
set_option linter.all false
namespace Go.Proofs.YtfiopgedfcaodaaGreatDoor
open Go Go.Am
set_option maxRecDepth 100000
theorem T91_when (N:Nat) (b:Bool) (e:Int):T91 N (b,e)=some (if b then e else 0):=by rw [T91_eq]; cases b <;> rfl
theorem T93_rng (N:Nat) (n lo hi:Int):T93 N (n,lo,hi)=some (rng n lo hi):=by
 rw [T93_eq,T91_when,T91_when]
 unfold rng
 by_cases h1:n < lo
 ·simp [h1]
 ·by_cases h2:n > hi <;> simp [h1,h2]
theorem T94_rng (N:Nat) (n lo hi:Int):T94 N (n,lo,hi)=some (rng n lo hi):=by
 rw [T94_eq]
 unfold rng
 by_cases h1:n < lo
 ·simp [h1]
 ·by_cases h2:n > hi <;> simp [h1,h2]
theorem T90_first {N:Nat} (hN:Big N) (l:List Int) (hl:l.length≤9223372036854775806):T90 N l=some (firstNZ l):=by
 obtain ⟨o,h1,h2⟩:=first_loop (rd:=R90x26 N l) l (fun k hk=>by
  have hd:=nthD_map n24 l k hk
  have e1:d24 (nthD (List.map n24 l) k)=l[k]:=by rw [hd]; rfl
  have e2:Pat.fits p24 (nthD (List.map n24 l) k)=true:=by rw [hd]; rfl
  simp only [R90x26,List.length_map,Int.toNat_natCast,e1,e2,w_succ (show k < 9223372036854775807 by omega),lt_range hk,in_range hk,Bool.and_self,cond_true]
  by_cases hz:l[k]=0
  ·simp [hz]
  ·simp [hz,Bool.cond_eq_ite]) (by simp only [R90x26,List.length_map,ge_range,cond_false]) N (by unfold Big at hN; omega)
 rw [T90_eq,h1,Option.bind_some]
 rcases o with o | o
 ·simpa using h2
 ·simpa using h2
theorem T28_first {N:Nat} (hN:Big N) (l:List Int) (hl:l.length≤9223372036854775806):T28 N l=some (firstNZ l):=by
 obtain ⟨o,h1,h2⟩:=first_loop (rd:=R28x26 N l) l (fun k hk=>by
  have hd:=nthD_map n3 l k hk
  have e1:d3 (nthD (List.map n3 l) k)=l[k]:=by rw [hd]; rfl
  have e2:Pat.fits p3 (nthD (List.map n3 l) k)=true:=by rw [hd]; rfl
  simp only [R28x26,List.length_map,Int.toNat_natCast,e1,e2,w_succ (show k < 9223372036854775807 by omega),lt_range hk,in_range hk,Bool.and_self,cond_true]
  by_cases hz:l[k]=0
  ·simp [hz]
  ·simp [hz,Bool.cond_eq_ite]) (by simp only [R28x26,List.length_map,ge_range,cond_false]) N (by unfold Big at hN; omega)
 rw [T28_eq,h1,Option.bind_some]
 rcases o with o | o
 ·simpa using h2
 ·simpa using h2
theorem two24 (x y:Int):((bif (allFit (Pat.fits p24) [(AV.int .i64 x),(AV.int .i64 y)]&&true) then some (List.map d24 [(AV.int .i64 x),(AV.int .i64 y)]) else none:Option ((List Int))))=some [x,y]:=rfl
theorem three24 (x y z:Int):((bif (allFit (Pat.fits p24) [(AV.int .i64 x),(AV.int .i64 y),(AV.int .i64 z)]&&true) then some (List.map d24 [(AV.int .i64 x),(AV.int .i64 y),(AV.int .i64 z)]) else none:Option ((List Int))))=some [x,y,z]:=rfl
theorem snoc46 (l:List (Int × Int)) (a b:Int):List.map n46 l++[AV.agg [AV.int .i64 a,AV.int .i64 b]]=List.map n46 (l++[(a,b)]):=by
 rw [List.map_append]; rfl
section joins
variable {m n:Int} (hm:1≤m) (hm':m≤256) (hn:1≤n) (hn':n≤256)
include hm hm' hn hn'
end joins
section take
variable {m n:Int} (hm:1≤m) (hm':m≤256) (hn:1≤n) (hn':n≤256)
include hm hm' hn hn'
end take
theorem at46 (l:List (Int × Int)) {k:Nat} (hk:k < l.length):d46 (nthD (List.map n46 l) k)=l.getD k (0,0)∧Pat.fits p46 (nthD (List.map n46 l) k)=true:=by
 rw [nthD_map n46 l k hk,dn46,fn46]
 simp [hk]
section chk
variable {N:Nat} (hN:Big N) {m n:Int} (l:List (Int × Int)) (hl:l.length≤1000000)
include hN hl
end chk
theorem T24_same {N:Nat} (hN:Big N) (l:List (Int × Int)) (hl:l.length≤1000000):T24 N (l,l)=some true:=by
 rw [T24_eq]
 simp only [bne_self_eq_false,cond_false,List.length_map]
 have key:=loopR_count (rd:=R24x58 N l l) l.length (fun k=>(k:Int)) (.inr ()) (fun k hk=>by
  obtain ⟨a1,a2⟩:=at46 l hk
  simp only [R24x58,List.length_map,Int.toNat_natCast,a1,a2,lt_range hk,in_range hk,Bool.and_self,cond_true,beq_self_eq_true,Bool.not_true,cond_false,w_succ (show k < 9223372036854775807 by omega)]) (by
  simp only [R24x58,List.length_map,ge_range,cond_false]) N 0 (Nat.zero_le _) (by unfold Big at hN; omega)
 have key':loopR (R24x58 N l l) N 0=some (.inr ()):=key
 rw [key',Option.bind_some]
 rfl
end Go.Proofs.YtfiopgedfcaodaaGreatDoor
namespace Go.Proofs.YtfiopgedfcaodaaGreatDoor
open Go Go.Am
set_option maxRecDepth 100000
theorem ofInt_wrap (n:Nat) (h:n < 18446744073709551616):(BitVec.ofInt 64 (IntKind.wrap .i64 (n:Int))).toNat=n:=by
 rw [BitVec.toNat_ofInt,IntKind.wrap_i64]
 omega
theorem xor2 (a b:Nat):(a ^^^ b) % 2=(a+b) % 2:=by
 have h:=Nat.xor_mod_two_pow (a:=a) (b:=b) (n:=1)
 rw [Nat.pow_one] at h
 rw [h]
 rcases Nat.mod_two_eq_zero_or_one a with ha | ha <;> rcases Nat.mod_two_eq_zero_or_one b with hb | hb <;> rw [ha,hb] <;> simp <;> omega
theorem odd_eq (x y:Int):(andI .i64 (xorI .i64 x y) 1 != 0)=decide ((x+y) % 2≠0):=by
 have h1:(BitVec.ofInt 64 x ^^^ BitVec.ofInt 64 y).toNat < 18446744073709551616:=(BitVec.ofInt 64 x ^^^ BitVec.ofInt 64 y).isLt
 have h2:(BitVec.ofInt 64 1).toNat=1:=by decide
 have h3:andI .i64 (xorI .i64 x y) 1=IntKind.wrap .i64 ((((BitVec.ofInt 64 x ^^^ BitVec.ofInt 64 y).toNat % 2:Nat)):Int):=by
  show IntKind.wrap .i64 (((BitVec.ofInt 64 (IntKind.wrap .i64 (((BitVec.ofInt 64 x ^^^ BitVec.ofInt 64 y).toNat:Nat):Int)) &&& BitVec.ofInt 64 1).toNat:Nat):Int)=_
  rw [BitVec.toNat_and,ofInt_wrap _ h1,h2,Nat.and_one_is_mod]
 rw [h3,w64 (by omega),BitVec.toNat_xor,xor2,BitVec.toNat_ofInt,BitVec.toNat_ofInt]
 have e:((((x % ((2 ^ 64:Nat):Int)).toNat+(y % ((2 ^ 64:Nat):Int)).toNat) % 2:Nat):Int)=(x+y) % 2:=by omega
 rw [e]
 by_cases h:(x+y) % 2=0 <;> simp [h]
def knotErr (p:Int × Int):Int:=if p.1 < -100000∨p.1 > 100000∨p.2 < -100000∨p.2 > 100000 then 3 else if (p.1+p.2) % 2=0 then 0 else 14
theorem T169_when (N:Nat) (b:Bool) (e:Int):T169 N (b,e)=some (if b then e else 0):=by rw [T169_eq]; cases b <;> rfl
theorem T198_rng (N:Nat) (n lo hi:Int):T198 N (n,lo,hi)=some (rng n lo hi):=by
 rw [T198_eq,T169_when,T169_when]
 unfold rng
 by_cases h1:n < lo
 ·simp [h1]
 ·by_cases h2:n > hi <;> simp [h1,h2]
theorem T167_first {N:Nat} (hN:Big N) (l:List Int) (hl:l.length≤9223372036854775806):T167 N l=some (firstNZ l):=by
 obtain ⟨o,h1,h2⟩:=first_loop (rd:=R167x26 N l) l (fun k hk=>by
  have hd:=nthD_map n24 l k hk
  have e1:d24 (nthD (List.map n24 l) k)=l[k]:=by rw [hd]; rfl
  have e2:Pat.fits p24 (nthD (List.map n24 l) k)=true:=by rw [hd]; rfl
  simp only [R167x26,R90x26,List.length_map,Int.toNat_natCast,e1,e2,w_succ (show k < 9223372036854775807 by omega),lt_range hk,in_range hk,Bool.and_self,cond_true]
  by_cases hz:l[k]=0
  ·simp [hz]
  ·simp [hz,Bool.cond_eq_ite]) (by simp only [R167x26,R90x26,List.length_map,ge_range,cond_false]) N (by unfold Big at hN; omega)
 rw [T167_eq,h1,Option.bind_some]
 rcases o with o | o
 ·simpa using h2
 ·simpa using h2
theorem T130_knot {N:Nat} (hN:Big N) (p:Int × Int):T130 N p=some (knotErr p):=by
 rw [T130_eq,T171_eq]
 simp only [T198_rng,Option.bind_some,beq_self_eq_true,Bool.and_self,cond_true]
 rw [two24]
 simp only [Option.bind_some]
 rw [T167_first hN _ (by simp)]
 simp only [Option.bind_some,T169_when,odd_eq]
 rw [two24]
 simp only [Option.bind_some]
 rw [T167_first hN _ (by simp)]
 simp only [Option.bind_some]
 congr 1
 unfold knotErr rng
 simp only [firstNZ]
 by_cases h1:p.1 < -100000∨p.1 > 100000
 ·have h:p.1 < -100000∨p.1 > 100000∨p.2 < -100000∨p.2 > 100000:=by omega
  simp [h,h1]
 ·by_cases h2:p.2 < -100000∨p.2 > 100000
  ·have h:p.1 < -100000∨p.1 > 100000∨p.2 < -100000∨p.2 > 100000:=by omega
   simp [h,h1,h2]
  ·have h:¬ (p.1 < -100000∨p.1 > 100000∨p.2 < -100000∨p.2 > 100000):=by omega
   by_cases h3:(p.1+p.2) % 2=0 <;> simp [h,h1,h2,h3]
theorem T134_knot (N:Nat) (p:Int × Int):T134 N p=some (knotErr p):=by
 rw [T134_eq,T173_eq,T173_eq,T174_eq]
 unfold knotErr
 by_cases h:p.1 < -100000∨p.1 > 100000∨p.2 < -100000∨p.2 > 100000
 ·rw [if_pos h]
  by_cases h1:p.1 < -100000 <;> by_cases h2:p.1 > 100000 <;> by_cases h3:p.2 < -100000 <;> by_cases h4:p.2 > 100000 <;> simp [h1,h2,h3,h4] <;> omega
 ·rw [if_neg h]
  have h1:¬ p.1 < -100000:=by omega
  have h2:¬ p.1 > 100000:=by omega
  have h3:¬ p.2 < -100000:=by omega
  have h4:¬ p.2 > 100000:=by omega
  rw [w64 (x:=p.1+p.2) (by omega)]
  have e:((Int.tmod (p.1+p.2) 2) == 0)=decide ((p.1+p.2) % 2=0):=by
   by_cases h5:(p.1+p.2) % 2=0
   ·have:Int.tmod (p.1+p.2) 2=0:=Int.tmod_eq_zero_of_dvd (Int.dvd_of_emod_eq_zero h5)
    simp [h5,this]
   ·have:Int.tmod (p.1+p.2) 2≠0:=fun e=>h5 (Int.emod_eq_zero_of_dvd (Int.dvd_of_tmod_eq_zero e))
    simp [h5,this]
  rw [e]
  by_cases h5:(p.1+p.2) % 2=0 <;> simp [h1,h2,h3,h4,h5]
theorem find_loop {Y:Type} {rd:Int→Option (Int ⊕ (Y ⊕ Unit))} (m:Nat) (b:Nat→Bool) (y:Nat→Y)
  (h:∀ k,k < m→rd (k:Int)=some (if b k then .inr (.inl (y k)) else .inl ((k+1:Nat):Int))) (h0:rd (m:Int)=some (.inr (.inr ()))) :
  ∀ (n k:Nat),k≤m→m < n+k→(∃ j,k≤j∧j < m∧b j=true∧loopR rd n (k:Int)=some (.inl (y j)))∨((∀ j,k≤j→j < m→b j=false)∧loopR rd n (k:Int)=some (.inr ()))
 | 0,k,hk,hn=>by omega
 | n+1,k,hk,hn=>by
  rw [loopR_succ]
  by_cases hlt:k < m
  ·rw [h k hlt]
   cases hb:b k with
   | true=>exact .inl ⟨k,Nat.le_refl _,hlt,hb,rfl⟩
   | false=>
    simp only [Bool.false_eq_true,if_false,Option.bind_some,Sum.elim_inl]
    rcases find_loop m b y h h0 n (k+1) hlt (by omega) with ⟨j,h1,h2,h3,h4⟩ | ⟨h1,h2⟩
    ·exact .inl ⟨j,by omega,h2,h3,h4⟩
    ·refine .inr ⟨fun j hj hjm=>?_,h2⟩
     by_cases hjk:j=k
     ·rw [hjk]; exact hb
     ·exact h1 j (by omega) hjm
  ·obtain rfl:k=m:=by omega
   rw [h0]
   exact .inr ⟨fun j h1 h2=>by omega,rfl⟩
def hasK (l:List (Int × Int)) (p:Int × Int):Bool:=l.any fun q=>p.1 == q.1&&(p.2 == q.2&&true)
theorem any_get {α:Type} {l:List α} {f:α→Bool} {j:Nat} (h:j < l.length) (hf:f l[j]=true):l.any f=true:=List.any_eq_true.2 ⟨l[j],List.getElem_mem h,hf⟩
theorem any_none {α:Type} {l:List α} {f:α→Bool} (h:∀ j (hj:j < l.length),f l[j]=false):l.any f=false:=by
 rw [List.any_eq_false]
 intro x hx
 obtain ⟨j,hj,rfl⟩:=List.getElem_of_mem hx
 rw [h j hj]; decide
theorem T115_has {N:Nat} (hN:Big N) (l:List (Int × Int)) (p:Int × Int) (hl:l.length≤1000000):T115 N (l,p)=some (hasK l p):=by
 rw [T115_eq]
 have sym:∀ q:Int × Int,(q.1 == p.1&&(q.2 == p.2&&true))=(p.1 == q.1&&(p.2 == q.2&&true)):=fun q=>by
  have h1:(q.1 == p.1)=(p.1 == q.1):=decide_eq_decide.2 eq_comm
  have h2:(q.2 == p.2)=(p.2 == q.2):=decide_eq_decide.2 eq_comm
  rw [h1,h2]
 have key:=find_loop (rd:=R115x26 N l p) l.length (fun k=>if h:k < l.length then p.1 == l[k].1&&(p.2 == l[k].2&&true) else false) (fun _=>true) (fun k hk=>by
  simp only [R115x26,List.length_map,Int.toNat_natCast,nthD_map n87 l k hk,fn87,dn87,lt_range hk,in_range hk,Bool.and_self,cond_true,w_succ (show k < 9223372036854775807 by omega),hk,dif_pos]
  rw [sym]
  cases (p.1 == l[k].1&&(p.2 == l[k].2&&true)) <;> rfl) (by simp only [R115x26,List.length_map,ge_range,cond_false]) N 0 (Nat.zero_le _) (by unfold Big at hN; omega)
 rcases key with ⟨j,_,hj,hb,hr⟩ | ⟨hb,hr⟩
 ·have hr':loopR (R115x26 N l p) N 0=some (.inl true):=hr
  rw [dif_pos hj] at hb
  rw [hr']
  simp only [Option.bind_some,Sum.elim_inl]
  rw [show hasK l p=true from any_get hj hb]
 ·have hr':loopR (R115x26 N l p) N 0=some (.inr ()):=hr
  rw [hr']
  simp only [Option.bind_some,Sum.elim_inr]
  rw [show hasK l p=false from any_none fun j hj=>by have:=hb j (Nat.zero_le _) hj; rwa [dif_pos hj] at this]
end Go.Proofs.YtfiopgedfcaodaaGreatDoor
namespace Go.Proofs.YtfiopgedfcaodaaGreatDoor
open Go Go.Am
set_option maxRecDepth 100000
abbrev Six:=Int × Int × Int × Int × Int × Int
theorem sl46 (l:List (Int × Int)):sameL (List.map n46 l) (List.map n46 l)=true:=by
 induction l with
 | nil=>rfl
 | cons s l ih=>
  rw [List.map_cons,sameL,ih]
  rw [show sameA (n46 s) (n46 s)=((true&&s.1 == s.1)&&((true&&s.2 == s.2)&&true)) from rfl]
  simp
theorem T129_rng (N:Nat) (x:Int):T129 N x=some (rng x 0 15):=by rw [T129_eq,T93_rng]; rfl
theorem T80_rng (N:Nat) (x:Int):T80 N x=some (rng x 0 15):=by rw [T80_eq,T94_rng]; rfl
section seam
variable {N:Nat} (hN:Big N) (a b:Int) (e1 e2:List (Int × Int))
def lgN (e1 e2:List (Int × Int)):Nat:=max e1.length e2.length
def kA (k:Nat):Int × Int:=e1.getD (k * e1.length / lgN e1 e2) (0,0)
def kB (k:Nat):Int × Int:=e2.getD (k * e2.length / lgN e1 e2) (0,0)
def six (k:Nat):Six:=(a,(kA e1 e2 k).1,(kA e1 e2 k).2,b,(kB e1 e2 k).1,(kB e1 e2 k).2)
def samek (k:Nat):Bool:=(a == b)&&((((kA e1 e2 k).1 == (kB e1 e2 k).1)&&(((kA e1 e2 k).2 == (kB e1 e2 k).2)&&true))&&true)
def stS (s:List Six) (k:Nat):List Six ⊕ List Six:=if samek a b e1 e2 k then .inr s else .inl (s++[six a b e1 e2 k])
variable (h1:1≤e1.length) (h1':e1.length≤256) (h2:1≤e2.length) (h2':e2.length≤256)
include h1 h1' h2 h2'
include hN
end seam
end Go.Proofs.YtfiopgedfcaodaaGreatDoor
namespace Go.Proofs.YtfiopgedfcaodaaGreatDoor
open Go Go.Am
set_option maxRecDepth 100000
theorem at3 (l:List Int) {k:Nat} (hk:k < l.length):d3 (nthD (List.map n3 l) k)=l[k]∧Pat.fits p3 (nthD (List.map n3 l) k)=true:=by
 rw [nthD_map n3 l k hk,dn3,fn3]
 exact ⟨rfl,rfl⟩
theorem snoc3 (l:List Int) (a:Int):List.map n3 l++[AV.int .i64 a]=List.map n3 (l++[a]):=by
 rw [List.map_append]; rfl
section
variable {N:Nat} (hN:Big N) (l:List Int) (hl:l.length≤1000000)
include hN hl
end
section
variable {N:Nat} (hN:Big N) (l:List Int) (hl:l.length≤256) (hx:∀ x∈l,1≤x∧x≤256)
include hN hl hx
end
theorem setN3 (s:List Int) (i:Nat) (v:Int):setN (List.map n3 s) i (AV.int .i64 v)=List.map n3 (s.set i v):=by
 rw [setN_eq]
 show (List.map n3 s).set i (n3 v)=_
 rw [List.map_set]
section
variable {N:Nat} (hN:Big N) (m n:Int) (l:List (Int × Int)) (hl:l.length≤1000000)
include hN hl
end
end Go.Proofs.YtfiopgedfcaodaaGreatDoor
namespace Go.Proofs.YtfiopgedfcaodaaGreatDoor
open Go Go.Am
set_option maxRecDepth 100000
section
variable {N:Nat} (hN:Big N) (l:List Int) (hl:l.length≤256) (hx:∀ x∈l,1≤x∧x≤256) (hs:l.sum≤256)
include hN hl hx hs
end
section
variable {N:Nat} (hN:Big N) (l:List Int) (hl:l.length≤256) (hx:∀ x∈l,1≤x∧x≤256) (hs:l.sum≤256)
include hN hl hx hs
end
end Go.Proofs.YtfiopgedfcaodaaGreatDoor
namespace Go.Proofs.YtfiopgedfcaodaaGreatDoor
open Go Go.Am
set_option maxRecDepth 100000
abbrev P3:=Int × Int × Int
theorem at53 (C:List (List P3)) {k:Nat} (hk:k < C.length):d53 (nthD (List.map n53 C) k)=C[k]∧Pat.fits p53 (nthD (List.map n53 C) k)=true:=by
 rw [nthD_map n53 C k hk,dn53,fn53]; exact ⟨rfl,rfl⟩
theorem at63 (C:List (List P3)) {k:Nat} (hk:k < C.length):d63 (nthD (List.map n63 C) k)=C[k]∧Pat.fits p63 (nthD (List.map n63 C) k)=true:=by
 rw [nthD_map n63 C k hk,dn63,fn63]; exact ⟨rfl,rfl⟩
theorem at94 (C:List P3) {k:Nat} (hk:k < C.length):d94 (nthD (List.map n94 C) k)=C[k]∧Pat.fits p94 (nthD (List.map n94 C) k)=true:=by
 rw [nthD_map n94 C k hk,dn94,fn94]; exact ⟨rfl,rfl⟩
theorem at89 (C:List P3) {k:Nat} (hk:k < C.length):d89 (nthD (List.map n89 C) k)=C[k]∧Pat.fits p89 (nthD (List.map n89 C) k)=true:=by
 rw [nthD_map n89 C k hk,dn89,fn89]; exact ⟨rfl,rfl⟩
theorem at46g (l:List (Int × Int)) {k:Nat} (hk:k < l.length):d46 (nthD (List.map n46 l) k)=l[k]∧Pat.fits p46 (nthD (List.map n46 l) k)=true:=by
 rw [nthD_map n46 l k hk,dn46,fn46]; exact ⟨rfl,rfl⟩
theorem ME177:MapEnc (.st (.cons 0 1 false .int (.cons 1 2 true (.st (.cons 0 1 false .int (.cons 1 1 false .int .nil))) .nil))) n94 n4 nM177:=⟨fun a b=>eqK_three a b,fun _=>rfl,fun _=>rfl⟩
theorem mk177 (p:P3) (m:List (P3 × Bool)):mkeys (.st (.cons 0 1 false .int (.cons 1 2 true (.st (.cons 0 1 false .int (.cons 1 1 false .int .nil))) .nil))) (AV.agg [AV.int .i64 p.1,AV.int .i64 p.2.1,AV.int .i64 p.2.2]) (entriesL (List.map nM177 m))=true:=ME177.keys p m
theorem mg177 (p:P3) (m:List (P3 × Bool)):mgetD (.st (.cons 0 1 false .int (.cons 1 2 true (.st (.cons 0 1 false .int (.cons 1 1 false .int .nil))) .nil))) (AV.agg [AV.int .i64 p.1,AV.int .i64 p.2.1,AV.int .i64 p.2.2]) (AV.bool false) (entriesL (List.map nM177 m))=n4 ((getM p m).getD false):=ME177.getD p false m
theorem mp177 (p:P3) (m:List (P3 × Bool)):mputT (.st (.cons 0 1 false .int (.cons 1 2 true (.st (.cons 0 1 false .int (.cons 1 1 false .int .nil))) .nil))) (AV.agg [AV.int .i64 p.1,AV.int .i64 p.2.1,AV.int .i64 p.2.2]) (AV.bool true) (entriesL (List.map nM177 m))=entriesL (List.map nM177 (putM p true m)):=ME177.put p true m
theorem mc177 (m:List (P3 × Bool)):mcells (entriesL (List.map nM177 m))=List.map nM177 m:=ME177.cells m
theorem ax177 (m:List (P3 × Bool)):allX (entriesL (List.map nM177 m))=true:=ME177.allX m
theorem find_gen {V X:Type} {rd:V→Option (V ⊕ X)} (m:Nat) (E:Nat→V) (b:Nat→Bool) (y:Nat→X) (x:X)
  (h:∀ k,k < m→rd (E k)=some (if b k then .inr (y k) else .inl (E (k+1)))) (h0:rd (E m)=some (.inr x)) (n:Nat) (hn:m < n) :
  loopR rd n (E 0)=some (match (List.range m).find? b with | some j=>y j | none=>x):=by
 have key:=loopR_fold (rd:=rd) (S:=Unit) (Y:=Nat) (List.range m) (fun _ k=>E k) (fun _ i=>if b i then .inr i else .inl ()) (fun _=>x) y (fun _ _=>True)
  (fun s k hk _=>by
   have hk:k < m:=by simpa using hk
   refine ⟨?_,fun _ _=>trivial⟩
   rw [List.getElem_range,h k hk]
   cases b k <;> rfl) (fun _ _=>by rw [List.length_range]; exact h0) n () 0 (Nat.zero_le _) (by simpa using hn) trivial
 rw [List.drop_zero] at key
 refine key.trans (congrArg some ?_)
 clear key h h0 hn
 generalize List.range m=l
 induction l with
 | nil=>rfl
 | cons a l ih=>
  simp only [foldI,List.find?_cons]
  cases b a with
  | true=>rfl
  | false=>simp only [Bool.false_eq_true,if_false,Sum.elim_inl]; exact ih
theorem find_any {α:Type} (l:List α) (f:α→Bool) (d:α):((List.range l.length).find? fun j=>f (l.getD j d)).isSome=l.any f:=by
 rw [Bool.eq_iff_iff,List.find?_isSome,List.any_eq_true]
 constructor
 ·rintro ⟨j,hj,hf⟩
  have hj:=List.mem_range.1 hj
  have e:l.getD j d=l[j]:=by simp [hj]
  rw [e] at hf
  exact ⟨l[j],List.getElem_mem hj,hf⟩
 ·rintro ⟨x,hx,hf⟩
  obtain ⟨j,hj,rfl⟩:=List.getElem_of_mem hx
  exact ⟨j,List.mem_range.2 hj,by
   have e:l.getD j d=l[j]:=by simp [hj]
   rw [e]; exact hf⟩
theorem eq_three (x p:P3):(x.1 == p.1&&((x.2.1 == p.2.1&&(x.2.2 == p.2.2&&true))&&true))=decide (x=p):=by
 obtain ⟨x1,x2,x3⟩:=x
 obtain ⟨y1,y2,y3⟩:=p
 simp only [Prod.mk.injEq,Bool.and_true]
 by_cases h1:x1=y1 <;> by_cases h2:x2=y2 <;> by_cases h3:x3=y3 <;> simp [h1,h2,h3]
theorem rep3 (n:Nat):List.replicate n (AV.int .i64 0)=List.map n3 (List.replicate n 0):=by rw [List.map_replicate]; rfl
theorem cl3 (s:List Int):closedL (List.map n3 s)=true:=closedL_map (fun _=>rfl) s
def mT (l:List P3):List (P3 × Bool):=l.map fun x=>(x,true)
theorem mT_get (p:P3) (l:List P3):(getM p (mT l)).getD false=decide (p∈l):=by
 unfold mT
 rw [getM_true]
 by_cases h:p∈l <;> simp [h]
theorem mT_put (p:P3) (l:List P3) (h:p∉l):putM p true (mT l)=mT (l++[p]):=by
 rw [putM_new (by unfold mT; rw [getM_true,if_neg h])]
 simp [mT]
def errP (sn:List P3) (p:P3):Int:=firstNZ [rng p.1 0 15,knotErr (p.2.1,p.2.2),if decide (p∈sn)=true then 9 else 0]
def stP (sn:List P3) (p:P3):List P3 ⊕ (Int × List P3):=if errP sn p=0 then .inl (sn++[p]) else .inr (errP sn p,sn)
def stC (sn:List P3) (c:List P3):List P3 ⊕ (Int × List P3):=if c.length=0 then .inr (12,sn) else foldI stP sn c
def errB (n:Int) (b:Int × Int):Int:=firstNZ [rng b.1 0 (n - 1),rng b.2 0 (n - 1),if decide (b.1 > b.2)=true then 11 else 0]
def chkS (C:List (List P3)) (B:List (Int × Int)):Int:=
 if C.length > 8192∨B.length > 8192 then 5 else match foldI stC [] C with
  | .inr e=>e.1
  | .inl _=>firstNZ (B.map (errB C.length))
theorem errP_seen {sn:List P3} {p:P3} (h:errP sn p=0):p∉sn:=fun hp=>by
 have:=firstNZ_zero.1 h (if decide (p∈sn)=true then 9 else 0) (by simp)
 rw [if_pos (decide_eq_true hp)] at this
 cases this
def atI (l:List P3) (p:P3):Int:=match (List.range l.length).find? fun j=>decide (l.getD j (0,0,0)=p) with | some j=>(j:Int) | none=>-1
theorem atI_ge (l:List P3) (p:P3):decide (atI l p≥0)=decide (p∈l):=by
 have h:=find_any l (fun x=>decide (x=p)) (0,0,0)
 have e:l.any (fun x=>decide (x=p))=decide (p∈l):=by
  rw [Bool.eq_iff_iff,List.any_eq_true]
  simp
 rw [e] at h
 rw [← h]
 unfold atI
 cases (List.range l.length).find? fun j=>decide (l.getD j (0,0,0)=p) with
 | none=>rfl
 | some j=>simp
theorem two3' (x y:Int):((bif (allFit (Pat.fits p3) [(AV.int .i64 x),(AV.int .i64 y)]&&true) then some (List.map d3 [(AV.int .i64 x),(AV.int .i64 y)]) else none:Option ((List Int))))=some [x,y]:=rfl
theorem errP_ref (sn:List P3) (p:P3):errP sn p=if firstNZ [rng p.1 0 15,knotErr (p.2.1,p.2.2)]=0 then (if decide (p∈sn)=true then 9 else 0) else firstNZ [rng p.1 0 15,knotErr (p.2.1,p.2.2)]:=by
 unfold errP
 have:=firstNZ_append [rng p.1 0 15,knotErr (p.2.1,p.2.2)] [if decide (p∈sn)=true then 9 else 0]
 simp only [List.cons_append,List.nil_append] at this
 rw [this]
 have e:firstNZ [if decide (p∈sn)=true then (9:Int) else 0]=if decide (p∈sn)=true then 9 else 0:=by
  by_cases h:decide (p∈sn)=true <;> simp [h,firstNZ]
 rw [e]
theorem snoc89 (l:List P3) (p:P3):List.map n89 l++[AV.agg [AV.int .i64 p.1,AV.int .i64 p.2.1,AV.int .i64 p.2.2]]=List.map n89 (l++[p]):=by rw [List.map_append]; rfl
section
variable {N:Nat} (hN:Big N) (C:List (List P3)) (B:List (Int × Int)) (hC:C.length≤10000) (hB:B.length≤10000) (hc:∀ c∈C,c.length≤10000)
include hN hC hB hc
theorem R128_in (k:Nat) (hk:k < C.length) (m0:List (P3 × Bool)) (sn:List P3):loopR (R128x62670 N (C,B) ((k:Int),m0)) N (0,mT sn)=some (Sum.elim (fun s=>.inr (mT s)) (fun y=>.inl (y.1,mT y.2)) (foldI stP sn C[k])):=by
 obtain ⟨a1,a2⟩:=at53 C hk
 have hcl:=hc _ (List.getElem_mem hk)
 have key:=loopR_fold (rd:=R128x62670 N (C,B) ((k:Int),m0)) C[k] (fun s j=>((j:Int),mT s)) stP (fun s=>.inr (mT s)) (fun y=>.inl (y.1,mT y.2)) (fun _ _=>True) (fun s j hj _=>by
  obtain ⟨b1,b2⟩:=at94 C[k] hj
  refine ⟨?_,fun _ _=>trivial⟩
  simp only [R128x62670,List.length_map,Int.toNat_natCast,a1,b1,b2,lt_range hj,in_range hj,Bool.and_self,cond_true,mk177,mg177,mp177,mc177,ax177,mT_get,dn4,fn4,beq_self_eq_true,T129_rng,T130_knot hN,T91_when,three24,T90_first hN,Option.bind_some,faM177,mdM177,w_succ (show j < 9223372036854775807 by omega)]
  rw [T90_first hN _ (by simp),Option.bind_some]
  unfold stP
  have he:firstNZ [rng C[k][j].1 0 15,knotErr (C[k][j].2.1,C[k][j].2.2),if decide (C[k][j]∈s)=true then 9 else 0]=errP s C[k][j]:=rfl
  rw [he]
  by_cases hz:errP s C[k][j]=0
  ·simp only [hz,bne_self_eq_false,cond_false,if_true,Sum.map_inl,mT_put _ _ (errP_seen hz),Option.bind_some]
  ·simp only [hz,bne0 hz,cond_true,if_false,Sum.map_inr,Option.bind_some]) (fun s _=>by
  simp only [R128x62670,List.length_map,Int.toNat_natCast,a1,ge_range,cond_false,mc177,ax177,faM177,mdM177,Bool.and_self,cond_true,Option.bind_some]) N sn 0 (Nat.zero_le _) (by unfold Big at hN; omega) trivial
 rw [List.drop_zero] at key
 exact key
theorem R128_out:∃ o,loopR (R128x122 N (C,B)) N (0,mT [])=some o∧o=Sum.elim (fun s=>.inr (mT s)) (fun y=>.inl (y.1,mT y.2)) (foldI stC [] C):=by
 have key:=loopR_fold (rd:=R128x122 N (C,B)) C (fun s j=>((j:Int),mT s)) stC (fun s=>.inr (mT s)) (fun y=>.inl (y.1,mT y.2)) (fun _ _=>True) (fun s k hk _=>by
  obtain ⟨a1,a2⟩:=at53 C hk
  refine ⟨?_,fun _ _=>trivial⟩
  have hi:=R128_in hN C B hC hB hc k hk (mT s) s
  simp only [R128x122,List.length_map,Int.toNat_natCast,a1,a2,lt_range hk,in_range hk,Bool.and_self,cond_true,mc177,ax177,faM177,mdM177,Option.bind_some,hi,w_succ (show k < 9223372036854775807 by omega)]
  unfold stC
  by_cases hz:C[k].length=0
  ·simp only [hz,if_true,Sum.map_inr]
   rfl
  ·have hb:((C[k].length:Int) == 0)=false:=beq_false_of_ne (by omega)
   simp only [hb,cond_false,hz,if_false]
   cases foldI stP s C[k] <;> simp only [Sum.elim_inl,Sum.elim_inr,Sum.map_inl,Sum.map_inr]) (fun s _=>by
  simp only [R128x122,List.length_map,ge_range,cond_false,mc177,ax177,faM177,mdM177,Bool.and_self,cond_true,Option.bind_some]) N [] 0 (Nat.zero_le _) (by unfold Big at hN; omega) trivial
 rw [List.drop_zero] at key
 exact ⟨_,key,rfl⟩
theorem R128_bars (m:List (P3 × Bool)):loopR (R128x506 N (C,B)) N (0,m)=some (if firstNZ (B.map (errB C.length))=0 then .inr m else .inl (firstNZ (B.map (errB C.length)),m)):=by
 have key:=loopR_fold (rd:=R128x506 N (C,B)) (S:=Unit) (Y:=Int) (B.map (errB C.length)) (fun _ j=>((j:Int),m)) (fun _ x=>if x=0 then .inl () else .inr x) (fun _=>.inr m) (fun x=>.inl (x,m)) (fun _ _=>True) (fun s k hk _=>by
  have hk:k < B.length:=by simpa using hk
  obtain ⟨a1,a2⟩:=at46g B hk
  have hm1:IntKind.wrap .i64 ((C.length:Int) - 1)=(C.length:Int) - 1:=w64 (by omega)
  refine ⟨?_,fun _ _=>trivial⟩
  rw [List.getElem_map]
  simp only [R128x506,List.length_map,Int.toNat_natCast,a1,a2,lt_range hk,in_range hk,Bool.and_self,cond_true,mc177,ax177,faM177,mdM177,beq_self_eq_true,hm1,T93_rng,T91_when,Option.bind_some,w_succ (show k < 9223372036854775807 by omega)]
  have h3:=three24 (rng B[k].1 0 ((C.length:Int) - 1)) (rng B[k].2 0 ((C.length:Int) - 1)) (if decide (B[k].1 > B[k].2)=true then 11 else 0)
  simp only [h3,Option.bind_some]
  rw [T90_first hN _ (by simp),Option.bind_some]
  have he:firstNZ [rng B[k].1 0 ((C.length:Int) - 1),rng B[k].2 0 ((C.length:Int) - 1),if decide (B[k].1 > B[k].2)=true then 11 else 0]=errB C.length B[k]:=rfl
  rw [he]
  by_cases hz:errB C.length B[k]=0
  ·simp only [hz,bne_self_eq_false,cond_false,if_true,Sum.map_inl,Option.bind_some]
  ·simp only [hz,bne0 hz,cond_true,if_false,Sum.map_inr,Option.bind_some]) (fun s _=>by
  rw [List.length_map]
  simp only [R128x506,List.length_map,ge_range,cond_false,mc177,ax177,faM177,mdM177,Bool.and_self,cond_true,Option.bind_some]) N () 0 (Nat.zero_le _) (by unfold Big at hN; rw [List.length_map]; omega) trivial
 rw [List.drop_zero] at key
 refine key.trans (congrArg some ?_)
 clear key
 generalize B.map (errB C.length)=l
 induction l with
 | nil=>rfl
 | cons x l ih=>
  simp only [foldI,firstNZ]
  by_cases e:x=0
  ·simp only [e,if_true,Sum.elim_inl]; exact ih
  ·simp [e]
theorem T128_chk:T128 N (C,B)=some (chkS C B):=by
 rw [T128_eq]
 unfold chkS
 by_cases h0:C.length > 8192∨B.length > 8192
 ·rw [if_pos h0]
  have:((bif (decide ((C.length:Int) > 8192)) then (some true) else (some (decide ((B.length:Int) > 8192)))):Option Bool)=some true:=by
   by_cases h1:(C.length:Int) > 8192
   ·simp [h1]
   ·have h2:(B.length:Int) > 8192:=by omega
    simp [h2]
  simp only [List.length_map,this,Option.bind_some,cond_true]
 ·rw [if_neg h0]
  have:((bif (decide ((C.length:Int) > 8192)) then (some true) else (some (decide ((B.length:Int) > 8192)))):Option Bool)=some false:=by
   have h1:¬ (C.length:Int) > 8192:=by omega
   have h2:¬ (B.length:Int) > 8192:=by omega
   simp [h1,h2]
  simp only [List.length_map,this,Option.bind_some,cond_false]
  have z:((bif allFit (Pat.fits pM177) (mcells [])&&true then some (0,List.map dM177 (mcells [])) else none:Option (Int × (List (P3 × Bool)))).bind fun w33=>bif allX []&&true then some w33 else none)=some (0,mT []):=rfl
  obtain ⟨o,r1,r2⟩:=R128_out hN C B hC hB hc
  rw [z,Option.bind_some,r1,Option.bind_some,r2]
  cases foldI stC [] C with
  | inr e=>rfl
  | inl s=>
   simp only [Sum.elim_inl,Sum.elim_inr,mc177,ax177,faM177,mdM177,Bool.and_self,cond_true,Option.bind_some,R128_bars hN C B hC hB hc]
   by_cases hz:firstNZ (B.map (errB C.length))=0
   ·simp only [hz,if_true,Sum.elim_inr]
   ·simp only [hz,if_false,Sum.elim_inl]
omit hC hB hc in
theorem T126_at (l:List P3) (p:P3) (hl:l.length≤1000000000000):T126 N (l,p)=some (atI l p):=by
 rw [T126_eq]
 have q:=find_gen (rd:=R126x26 N l p) l.length (fun j=>(j:Int)) (fun j=>decide (l.getD j (0,0,0)=p)) (fun j=>.inl (j:Int)) (.inr ()) (fun j hj=>by
  obtain ⟨a1,a2⟩:=at89 l hj
  have e:l.getD j (0,0,0)=l[j]:=by simp [hj]
  simp only [R126x26,List.length_map,Int.toNat_natCast,a1,a2,lt_range hj,in_range hj,Bool.and_self,cond_true,e,eq_three,w_succ (show j < 9223372036854775807 by omega)]
  by_cases h:l[j]=p <;> simp [h]) (by simp only [R126x26,List.length_map,ge_range,cond_false]) N (by unfold Big at hN; omega)
 have q':loopR (R126x26 N l p) N 0=_:=q
 rw [q',Option.bind_some]
 unfold atI
 cases (List.range l.length).find? fun j=>decide (l.getD j (0,0,0)=p) <;> rfl
theorem R56_in (k:Nat) (hk:k < C.length) (l0:List P3) (sn:List P3) (hsn:sn.length≤100000000):loopR (R56x15654 N (C,B) (l0,(k:Int))) N (sn,0)=some (Sum.elim (fun s=>.inr s) (fun y=>.inl y.1) (foldI stP sn C[k])):=by
 obtain ⟨a1,a2⟩:=at63 C hk
 have hcl:=hc _ (List.getElem_mem hk)
 have key:=loopR_fold (rd:=R56x15654 N (C,B) (l0,(k:Int))) C[k] (fun s j=>(s,(j:Int))) stP (fun s=>.inr s) (fun y=>.inl y.1) (fun s j=>s.length≤sn.length+j) (fun s j hj hs=>by
  obtain ⟨b1,b2⟩:=at89 C[k] hj
  have hb:(s.length+1) * 24≤140737488355328:=by omega
  refine ⟨?_,fun s' h=>?_⟩
  ·have h126:=T126_at hN s C[k][j] (by omega)
   simp only [R56x15654,List.length_map,Int.toNat_natCast,a1,a2,b1,b2,lt_range hj,in_range hj,in_range hk,Bool.and_self,Bool.and_true,cond_true,beq_self_eq_true,T80_rng,T134_knot,Option.bind_some,fa89,md89]
   have h3:=two3' (rng C[k][j].1 0 15) (knotErr (C[k][j].2.1,C[k][j].2.2))
   rw [Bool.and_true] at h3
   rw [h3,Option.bind_some,T28_first hN _ (by simp),Option.bind_some]
   unfold stP
   rw [errP_ref]
   have h126':T126 N (s,C[k][j].1,C[k][j].2.1,C[k][j].2.2)=some (atI s C[k][j]):=h126
   simp only [h126',Option.bind_some,atI_ge]
   generalize firstNZ [rng C[k][j].1 0 15,knotErr (C[k][j].2.1,C[k][j].2.2)]=e
   by_cases he:e=0
   ·by_cases hp:C[k][j]∈s
    ·simp [he,hp,fa89,md89]
    ·simp only [he,hp,decide_false,Bool.false_eq_true,if_true,if_false,beq_self_eq_true,bne_self_eq_false,cond_true,cond_false,Option.bind_some,List.length_map,fa89,md89,decide_true,hb,Bool.and_self,Bool.and_true,snoc89,List.length_append,List.length_singleton,Sum.map_inl,w_succ (show j < 9223372036854775807 by omega)]
   ·simp [he,beq0 he,bne0 he,fa89,md89]
  ·unfold stP at h
   split at h
   ·injection h with h; subst h; simp; omega
   ·cases h) (fun s hs=>by
  simp only [R56x15654,List.length_map,Int.toNat_natCast,a1,a2,in_range hk,ge_range,Bool.and_self,Bool.and_true,cond_true,cond_false,fa89,md89,decide_true,Option.bind_some]) N sn 0 (Nat.zero_le _) (by unfold Big at hN; omega) (Nat.le_refl _)
 rw [List.drop_zero] at key
 exact key
end
end Go.Proofs.YtfiopgedfcaodaaGreatDoor
namespace Go.Proofs.YtfiopgedfcaodaaGreatDoor
open Go Go.Am
set_option maxRecDepth 100000
def upK (b:P3):Int × Int:=(IntKind.wrap .i64 (b.1+b.2.2),IntKind.wrap .i64 (b.2.1+1))
def loK (b:P3):Int × Int:=(b.1,b.2.1)
theorem T197_ends (N:Nat) (b:P3):T197 N b=some (b.1,b.2.1,upK b):=by rw [T197_eq]; rfl
theorem T141_lo (N:Nat) (b:P3):T141 N b=some (loK b):=by rw [T141_eq]; rfl
theorem T142_up (N:Nat) (b:P3):T142 N b=some (upK b):=by rw [T142_eq]; rfl
theorem T127_ends (N:Nat) (b:P3):T127 N b=some (b.1,b.2.1,upK b):=by
 rw [T127_eq]
 simp only [T141_lo,T142_up,beq_self_eq_true,Bool.and_self,cond_true,Option.bind_some]
 rfl
def chkB (b:P3):Int:=if knotErr (loK b)≠0 then knotErr (loK b) else if b.2.2≠-1∧b.2.2≠1 then 13 else knotErr (upK b)
theorem T171_reach {N:Nat} (hN:Big N) (p:Int × Int):T171 N p=some (firstNZ [rng p.1 (-100000) 100000,rng p.2 (-100000) 100000]):=by
 rw [T171_eq]
 simp only [T198_rng,Option.bind_some,beq_self_eq_true,Bool.and_self,cond_true]
 rw [two24]
 simp only [Option.bind_some]
 rw [T167_first hN _ (by simp)]
 rfl
theorem up_reach (b:P3) (h0:knotErr (loK b)=0) (h1:b.2.2=-1∨b.2.2=1):firstNZ [rng (upK b).1 (-100000) 100000,rng (upK b).2 (-100000) 100000]=knotErr (upK b):=by
 unfold knotErr loK at h0
 simp only at h0
 split at h0
 ·cases h0
 ·rename_i hr
  split at h0
  ·rename_i hp
   have e1:(upK b).1=b.1+b.2.2:=w64 (by omega)
   have e2:(upK b).2=b.2.1+1:=w64 (by omega)
   unfold knotErr
   rw [e1,e2]
   have hp2:(b.1+b.2.2+(b.2.1+1)) % 2=0:=by omega
   rw [if_pos hp2]
   unfold rng
   simp only [firstNZ]
   by_cases c1:b.1+b.2.2 < -100000∨b.1+b.2.2 > 100000
   ·have c:b.1+b.2.2 < -100000∨b.1+b.2.2 > 100000∨b.2.1+1 < -100000∨b.2.1+1 > 100000:=by omega
    rw [if_pos c,if_pos c1]; rfl
   ·rw [if_neg c1]
    by_cases c2:b.2.1+1 < -100000∨b.2.1+1 > 100000
    ·have c:b.1+b.2.2 < -100000∨b.1+b.2.2 > 100000∨b.2.1+1 < -100000∨b.2.1+1 > 100000:=by omega
     rw [if_pos c,if_pos c2]; rfl
    ·have c:¬ (b.1+b.2.2 < -100000∨b.1+b.2.2 > 100000∨b.2.1+1 < -100000∨b.2.1+1 > 100000):=by omega
     rw [if_neg c,if_neg c2]; rfl
  ·cases h0
theorem T168_chk {N:Nat} (hN:Big N) (b:P3):T168 N b=some (chkB b):=by
 rw [T168_eq]
 have q1:T130 N (b.1,b.2.1)=some (knotErr (loK b)):=T130_knot hN _
 simp only [q1,T169_when,Option.bind_some,beq_self_eq_true,Bool.and_self,cond_true,T197_ends]
 have q2:∀ s t:Bool,((bif s then ((bif allFit (Pat.fits p24) [AV.int .i64 (knotErr (loK b)),AV.int .i64 (if t=true then 13 else 0)]&&true then some (List.map d24 [AV.int .i64 (knotErr (loK b)),AV.int .i64 (if t=true then 13 else 0)]) else none:Option (List Int)).bind fun x=>(T167 N x).bind fun y=>some y) else ((bif allFit (Pat.fits p24) [AV.int .i64 (knotErr (loK b)),AV.int .i64 (if false=true then 13 else 0)]&&true then some (List.map d24 [AV.int .i64 (knotErr (loK b)),AV.int .i64 (if false=true then 13 else 0)]) else none:Option (List Int)).bind fun x=>(T167 N x).bind fun y=>some y)):Option Int)=some (firstNZ [knotErr (loK b),if s&&t then 13 else 0]):=fun s t=>by
  rw [two24,two24]
  simp only [Option.bind_some]
  rw [T167_first hN _ (by simp),T167_first hN _ (by simp)]
  cases s <;> cases t <;> rfl
 rw [q2,Option.bind_some]
 have q3:T171 N ((upK b).1,(upK b).2)=_:=T171_reach hN (upK b)
 unfold chkB
 simp only [firstNZ]
 by_cases h0:knotErr (loK b)=0
 ·by_cases h1:b.2.2=-1∨b.2.2=1
  ·have hb:(b.2.2 != -1&&b.2.2 != 1)=false:=by rcases h1 with h | h <;> rw [h] <;> rfl
   rw [hb]
   have hn:¬ (b.2.2≠-1∧b.2.2≠1):=by omega
   rw [if_pos h0,if_neg (show ¬ knotErr (loK b)≠0 from fun c=>c h0),if_neg hn,← up_reach b h0 h1]
   simp only [Bool.false_eq_true,if_false,if_true,bne_self_eq_false,cond_false,q3,Option.bind_some]
  ·have hb:(b.2.2 != -1&&b.2.2 != 1)=true:=by
    rw [Bool.and_eq_true]; exact ⟨bne_iff_ne.2 (by omega),bne_iff_ne.2 (by omega)⟩
   have hn:b.2.2≠-1∧b.2.2≠1:=by omega
   rw [hb,if_pos h0,if_neg (show ¬ knotErr (loK b)≠0 from fun c=>c h0),if_pos hn]
   rfl
 ·have hb:(knotErr (loK b) != 0)=true:=bne_iff_ne.2 h0
  rw [if_neg h0,if_pos h0,hb]
  rfl
theorem T137_chk (N:Nat) (b:P3):T137 N b=some (chkB b):=by
 rw [T137_eq]
 have q1:T134 N ((loK b).1,(loK b).2)=_:=T134_knot N (loK b)
 have q2:T134 N ((upK b).1,(upK b).2)=_:=T134_knot N (upK b)
 have q0:T141 N (b.1,b.2.1,b.2.2)=_:=T141_lo N b
 have q3:T142 N (b.1,b.2.1,b.2.2)=_:=T142_up N b
 simp only [q0,q1,q3,q2,Option.bind_some]
 unfold chkB
 by_cases h0:knotErr (loK b)=0
 ·rw [h0]
  by_cases h1:b.2.2=1
  ·rw [h1]; rfl
  ·have hb:(b.2.2 != 1)=true:=bne_iff_ne.2 h1
   by_cases h2:b.2.2=-1
   ·rw [h2]; rfl
   ·have hb2:(b.2.2 != -1)=true:=bne_iff_ne.2 h2
    rw [hb,hb2,if_neg (show ¬ (0:Int)≠0 from fun c=>c rfl),if_pos ⟨h2,h1⟩]
    rfl
 ·have hb:(knotErr (loK b) == 0)=false:=beq_false_of_ne h0
  rw [if_pos h0,hb]
  simp only [cond_false,Option.bind_some,hb]
def less (a b:P3):Bool:=if a.2.1≠b.2.1 then decide (a.2.1 < b.2.1) else if a.1≠b.1 then decide (a.1 < b.1) else decide (a.2.2 < b.2.2)
theorem T138_less (N:Nat) (a b:P3):T138 N (a,b)=some (less a b):=by
 rw [T138_eq]
 unfold less
 by_cases h1:a.2.1=b.2.1
 ·by_cases h2:a.1=b.1
  ·simp [h1,h2]
  ·have hb:(a.1 != b.1)=true:=bne_iff_ne.2 h2
   simp [h1,h2,hb]
 ·have hb:(a.2.1 != b.2.1)=true:=bne_iff_ne.2 h1
  simp [h1,hb]
def cmp3 (a b:Int):Int:=if a < b then -1 else if a > b then 1 else 0
theorem T161_c3 (N:Nat) (a b:Int):T161 N (a,b)=some (cmp3 a b):=by
 rw [T161_eq]
 simp only [T195_eq,bne_self_eq_false,Option.bind_some,cond_false]
 unfold cmp3
 by_cases h1:a < b
 ·simp [h1]
 ·by_cases h2:a > b <;> simp [h1,h2]
theorem T166_first {N:Nat} (hN:Big N) (l:List Int) (hl:l.length≤9223372036854775806):T166 N l=some (firstNZ l):=by
 obtain ⟨o,h1,h2⟩:=first_loop (rd:=R166x58 N l) l (fun k hk=>by
  have hd:=nthD_map n3 l k hk
  have e1:d3 (nthD (List.map n3 l) k)=l[k]:=by rw [hd]; rfl
  have e2:Pat.fits p3 (nthD (List.map n3 l) k)=true:=by rw [hd]; rfl
  simp only [R166x58,List.length_map,Int.toNat_natCast,e1,e2,w_succ (show k < 9223372036854775807 by omega),lt_range hk,in_range hk,Bool.and_self,cond_true]
  by_cases hz:l[k]=0
  ·simp [hz]
  ·simp [hz,Bool.cond_eq_ite]) (by simp only [R166x58,List.length_map,ge_range,cond_false]) N (by unfold Big at hN; omega)
 rw [T166_eq,h1,Option.bind_some]
 rcases o with o | o
 ·simpa using h2
 ·simpa using h2
def cmpB (a b:P3):Int:=firstNZ [cmp3 a.2.1 b.2.1,cmp3 a.1 b.1,cmp3 a.2.2 b.2.2]
theorem T170_cmp {N:Nat} (hN:Big N) (a b:P3):T170 N (a,b)=some (cmpB a b):=by
 rw [T170_eq]
 simp only [T161_c3,Option.bind_some,beq_self_eq_true,Bool.and_self,cond_true]
 have h3:∀ x y z:Int,((bif allFit (Pat.fits p3) [AV.int .i64 x,AV.int .i64 y,AV.int .i64 z]&&true then some (List.map d3 [AV.int .i64 x,AV.int .i64 y,AV.int .i64 z]) else none:Option (List Int)))=some [x,y,z]:=fun x y z=>rfl
 rw [h3]
 simp only [Option.bind_some]
 rw [T166_first hN _ (by simp)]
 rfl
theorem cmpB_less (a b:P3):decide (cmpB a b≥0)=!less a b:=by
 unfold cmpB less cmp3
 simp only [firstNZ]
 by_cases h1:a.2.1 < b.2.1
 ·have:a.2.1≠b.2.1:=by omega
  simp [h1,this]
 ·by_cases h2:a.2.1 > b.2.1
  ·have:a.2.1≠b.2.1:=by omega
   simp [h1,h2,this]
  ·have:a.2.1=b.2.1:=by omega
   simp only [h1,h2,this,if_false,if_true,ne_eq,not_true_eq_false]
   by_cases h3:a.1 < b.1
   ·have:a.1≠b.1:=by omega
    simp [h3,this]
   ·by_cases h4:a.1 > b.1
    ·have:a.1≠b.1:=by omega
     simp [h3,h4,this]
    ·have:a.1=b.1:=by omega
     simp only [this,if_false,if_true,not_true_eq_false,Int.lt_irrefl,gt_iff_lt]
     by_cases h5:a.2.2 < b.2.2
     ·simp [h5]
     ·by_cases h6:b.2.2 < a.2.2 <;> simp [h5,h6]
def errN (l:List P3) (k:Nat):Int:=if chkB (l.getD k (0,0,0))≠0 then chkB (l.getD k (0,0,0)) else if 0 < k∧less (l.getD (k - 1) (0,0,0)) (l.getD k (0,0,0))=false then 11 else 0
def chkN (l:List P3):Int:=if l.length > 4096 then 5 else firstNZ ((List.range l.length).map (errN l))
theorem at120 (C:List P3) {k:Nat} (hk:k < C.length):d120 (nthD (List.map n120 C) k)=C[k]∧Pat.fits p120 (nthD (List.map n120 C) k)=true:=by
 rw [nthD_map n120 C k hk,dn120,fn120]; exact ⟨rfl,rfl⟩
theorem T65_chk {N:Nat} (hN:Big N) (l:List P3):T65 N l=some (chkN l):=by
 rw [T65_eq]
 simp only [List.length_map]
 unfold chkN
 by_cases h:l.length > 4096
 ·have h':(l.length:Int) > 4096:=by omega
  simp [h,h']
 ·have h':¬ (l.length:Int) > 4096:=by omega
  have key:=first_loop2 (rd:=R65x58 N l) ((List.range l.length).map (errN l)) (fun k hk=>by
   have hk:k < l.length:=by simpa using hk
   obtain ⟨a1,a2⟩:=at120 l hk
   rw [List.getElem_map,List.getElem_range]
   have e1:l.getD k (0,0,0)=l[k]:=by simp [hk]
   unfold errN
   rw [e1]
   have q1:T137 N (l[k].1,l[k].2.1,l[k].2.2)=_:=T137_chk N l[k]
   simp only [R65x58,List.length_map,Int.toNat_natCast,a1,a2,lt_range hk,in_range hk,Bool.and_self,cond_true,q1,Option.bind_some,w_succ (show k < 9223372036854775807 by omega)]
   by_cases h0:chkB l[k]=0
   ·rw [h0]
    by_cases hk0:k=0
    ·subst hk0; rfl
    ·have hk1:k - 1 < l.length:=by omega
     obtain ⟨b1,b2⟩:=at120 l hk1
     have e2:l.getD (k - 1) (0,0,0)=l[k - 1]:=by simp [hk1]
     rw [e2]
     have ew:IntKind.wrap .i64 ((k:Int) - 1)=((k - 1:Nat):Int):=by rw [w64 (by omega)]; omega
     have hp:decide ((k:Int) > 0)=true:=decide_eq_true (by omega)
     have q2:T138 N ((l[k - 1].1,l[k - 1].2.1,l[k - 1].2.2),(l[k].1,l[k].2.1,l[k].2.2))=_:=T138_less N l[k - 1] l[k]
     simp only [hp,ew,Int.toNat_natCast,b1,b2,in_range hk1,Bool.and_self,cond_true,q2,Option.bind_some,bne_self_eq_false,cond_false]
     cases less l[k - 1] l[k] with
     | true=>simp
     | false=>simp [show 0 < k by omega]
   ·have hb:(chkB l[k] != 0)=true:=bne_iff_ne.2 h0
    simp [hb,h0]) (by
   rw [List.length_map,List.length_range]
   simp only [R65x58,List.length_map,ge_range,cond_false]) N (by unfold Big at hN; rw [List.length_map,List.length_range]; omega)
  rw [if_neg h]
  simp only [h',decide_false,cond_false,key,Option.bind_some]
  split <;> simp_all
theorem T117_chk {N:Nat} (hN:Big N) (l:List P3):T117 N l=some (chkN l):=by
 rw [T117_eq]
 simp only [List.length_map]
 unfold chkN
 by_cases h:l.length > 4096
 ·have h':(l.length:Int) > 4096:=by omega
  simp [h,h']
 ·have h':¬ (l.length:Int) > 4096:=by omega
  have key:=first_loop2 (rd:=R117x58 N l) ((List.range l.length).map (errN l)) (fun k hk=>by
   have hk:k < l.length:=by simpa using hk
   obtain ⟨a1,a2⟩:=at120 l hk
   rw [List.getElem_map,List.getElem_range]
   have e1:l.getD k (0,0,0)=l[k]:=by simp [hk]
   unfold errN
   rw [e1]
   have q1:T168 N (l[k].1,l[k].2.1,l[k].2.2)=_:=T168_chk hN l[k]
   have two:∀ x y:Int,((bif allFit (Pat.fits p24) [AV.int .i64 x,AV.int .i64 y]&&true then some (List.map d24 [AV.int .i64 x,AV.int .i64 y]) else none:Option (List Int)))=some [x,y]:=fun x y=>rfl
   have q5:∀ x y:Int,T167 N [x,y]=some (firstNZ [x,y]):=fun x y=>T167_first hN _ (by simp)
   by_cases hk0:k=0
   ·subst hk0
    simp only [R117x58,List.length_map,Int.toNat_natCast,a1,a2,lt_range hk,in_range hk,Bool.and_self,cond_true,q1,Option.bind_some,two,q5,T169_when,w_succ (show 0 < 9223372036854775807 by omega),show decide (((0:Nat):Int) > 0)=false from rfl,cond_false]
    by_cases h0:chkB l[0]=0
    ·simp [h0,firstNZ]
    ·have hb:(chkB l[0] != 0)=true:=bne_iff_ne.2 h0
     simp [h0,hb,firstNZ]
   ·have hk1:k - 1 < l.length:=by omega
    obtain ⟨b1,b2⟩:=at120 l hk1
    have e2:l.getD (k - 1) (0,0,0)=l[k - 1]:=by simp [hk1]
    rw [e2]
    have ew:IntKind.wrap .i64 ((k:Int) - 1)=((k - 1:Nat):Int):=by rw [w64 (by omega)]; omega
    have em:(if ((k - 1:Nat):Int) > 0 then ((k - 1:Nat):Int) else 0)=((k - 1:Nat):Int):=by split <;> omega
    have hp:decide ((k:Int) > 0)=true:=decide_eq_true (by omega)
    have q2:T170 N ((l[k - 1].1,l[k - 1].2.1,l[k - 1].2.2),(l[k].1,l[k].2.1,l[k].2.2))=_:=T170_cmp hN l[k - 1] l[k]
    simp only [R117x58,List.length_map,Int.toNat_natCast,a1,a2,lt_range hk,in_range hk,Bool.and_self,cond_true,q1,Option.bind_some,hp,ew,em,b1,b2,in_range hk1,q2,T169_when,cmpB_less,two,q5,w_succ (show k < 9223372036854775807 by omega)]
    by_cases h0:chkB l[k]=0
    ·cases less l[k - 1] l[k] with
     | true=>simp [h0,firstNZ]
     | false=>simp [h0,firstNZ,show 0 < k by omega]
    ·have hb:(chkB l[k] != 0)=true:=bne_iff_ne.2 h0
     simp [h0,hb,firstNZ]) (by
   rw [List.length_map,List.length_range]
   simp only [R117x58,List.length_map,ge_range,cond_false]) N (by unfold Big at hN; rw [List.length_map,List.length_range]; omega)
  rw [if_neg h]
  simp only [h',decide_false,cond_false,key,Option.bind_some]
  split <;> simp_all
end Go.Proofs.YtfiopgedfcaodaaGreatDoor
namespace Go.Proofs.YtfiopgedfcaodaaGreatDoor
open Go Go.Am Go.Sort
set_option maxRecDepth 100000
def ltK:Int × Int→Int × Int→Bool:=ltOf cfK
theorem ltK_eq (x y:Int × Int):ltK x y=decide (x.2 < y.2∨x.2=y.2∧x.1 < y.1):=cfK_lt x y
def flatK2:List P3→List (Int × Int)
 | []=>[]
 | b :: l=>loK b :: upK b :: flatK2 l
theorem flat_len:∀ l:List P3,(flatK2 l).length=2 * l.length
 | []=>rfl
 | b :: l=>by rw [flatK2,List.length_cons,List.length_cons,flat_len l,List.length_cons]; omega
theorem flat_get:∀ (l:List P3) (k:Nat) (h:k / 2 < l.length) (h2:k < (flatK2 l).length),(flatK2 l)[k]=if k % 2=0 then loK l[k / 2] else upK l[k / 2]
 | [],k,h,_=>absurd h (Nat.not_lt_zero _)
 | b :: l,0,_,_=>rfl
 | b :: l,1,_,_=>rfl
 | b :: l,k+2,h,h2=>by
  have e:(k+2) / 2=k / 2+1:=by omega
  have e2:(k+2) % 2=k % 2:=by omega
  have hl:k / 2 < l.length:=by rw [e,List.length_cons] at h; omega
  have hl2:k < (flatK2 l).length:=by rw [flat_len]; omega
  have ih:=flat_get l k hl hl2
  simp only [e2]
  have g1:(flatK2 (b :: l))[k+2]=(flatK2 l)[k]:=rfl
  have g2:(b :: l)[(k+2) / 2]=l[k / 2]:=by
   have:∀ i (hi:i < (b :: l).length) (hik:i=k / 2+1),(b :: l)[i]=l[k / 2]:=by
    intro i hi hik; subst hik; rfl
   exact this _ h e
  rw [g1,g2,ih]
def knotsL (l:List P3):List (Int × Int):=insL ltK (0,0) (flatK2 l)
theorem at87k (l:List (Int × Int)) {k:Nat} (hk:k < l.length):d87 (nthD (List.map n87 l) k)=l[k]∧Pat.fits p87 (nthD (List.map n87 l) k)=true:=by
 rw [nthD_map n87 l k hk,dn87,fn87]; exact ⟨rfl,rfl⟩
theorem sub_map87g (l:List (Int × Int)) (a b:Nat):subA a b (List.map n87 l)=List.map n87 ((l.take b).drop a):=by simp [subA,List.map_take,List.map_drop]
theorem ltK_bool (x o:Int × Int):(bif decide (x.2 < o.2) then some true else bif (x.2 == o.2) then some (decide (x.1 < o.1)) else some false)=some (ltK x o):=by
 rw [ltK_eq]
 by_cases h1:x.2 < o.2
 ·simp [h1]
 ·by_cases h2:x.2=o.2
  ·simp [h2]
  ·have hb:(x.2 == o.2)=false:=beq_false_of_ne h2
   simp [h1,h2,hb]
section
variable {N:Nat} (hN:Big N)
include hN
theorem R66_at (s:List (Int × Int)) (i:Int) (o:Int × Int) (hs:s.length≤2000000):loopR (R66x14924 N (s,i) o) N 0=some ((s.takeWhile fun x=>ltK x o).length:Int):=by
 have q:=find_gen (rd:=R66x14924 N (s,i) o) s.length (fun k=>(k:Int)) (fun k=>!ltK (s.getD k (0,0)) o) (fun k=>(k:Int)) (s.length:Int) (fun k hk=>by
  obtain ⟨a1,a2⟩:=at87k s hk
  have e:s.getD k (0,0)=s[k]:=by simp [hk]
  rw [e]
  have hb:=ltK_bool s[k] o
  simp only [R66x14924,List.length_map,Int.toNat_natCast,a1,a2,lt_range hk,in_range hk,Bool.and_self,cond_true,w_succ (show k < 9223372036854775807 by omega),hb,Option.bind_some]
  cases ltK s[k] o <;> rfl) (by
  simp only [R66x14924,List.length_map,ge_range,cond_false,Option.bind_some]) N (by unfold Big at hN; omega)
 have q':loopR (R66x14924 N (s,i) o) N 0=_:=q
 rw [q']
 have:=find_tw s (fun x=>ltK x o) (0,0)
 rw [← this]
 cases (List.range s.length).find? fun j=>!ltK (s.getD j (0,0)) o <;> rfl
theorem R66_step (l:List P3) (s:List (Int × Int)) (k:Nat) (hl:l.length≤1000000) (hs:s.length≤2000000) (hk:k < 2 * l.length) (hk2:k < (flatK2 l).length):R66x58 N l (s,(k:Int))=some (.inl (ins1 ltK (0,0) (flatK2 l)[k] s,((k+1:Nat):Int))):=by
 have hk3:k / 2 < l.length:=by omega
 have hw:IntKind.wrap .i64 (2 * (l.length:Int))=((2 * l.length:Nat):Int):=by rw [w64 (by omega)]; omega
 have hd:IntKind.wrap .i64 (Int.tdiv (k:Int) 2)=((k / 2:Nat):Int):=by
  rw [Int.tdiv_eq_ediv_of_nonneg (by omega),w64 (by omega)]; omega
 have hm:Int.tmod (k:Int) 2=((k % 2:Nat):Int):=by
  rw [Int.tmod_eq_emod_of_nonneg (by omega)]; omega
 obtain ⟨a1,a2⟩:=at120 l hk3
 have q127:T127 N (l[k / 2].1,l[k / 2].2.1,l[k / 2].2.2)=_:=T127_ends N l[k / 2]
 have ho:((bif decide (((k % 2:Nat):Int)=0) then some (l[k / 2].1,l[k / 2].2.1) else bif decide (((k % 2:Nat):Int)=1) then some ((upK l[k / 2]).1,(upK l[k / 2]).2) else none):Option (Int × Int))=some (flatK2 l)[k]:=by
  rw [flat_get l k hk3 hk2]
  by_cases h:k % 2=0
  ·rw [h]; rfl
  ·have h1:k % 2=1:=by omega
   rw [h1]; rfl
 generalize (flatK2 l)[k]=o at *
 obtain ⟨t1,t2⟩:=takeWhile_split (fun x=>ltK x o) s
 have hle:(s.takeWhile fun x=>ltK x o).length≤s.length:=(List.takeWhile_sublist _).length_le
 have hat:∀ i,loopR (R66x14924 N (s,i) o) N 0=some ((s.takeWhile fun x=>ltK x o).length:Int):=fun i=>R66_at hN s i o (by omega)
 unfold ins1
 simp only
 generalize (s.takeWhile fun x=>ltK x o).length=a at *
 have hc:((bif ((a:Int) == (s.length:Int)) then some true else bif (decide ((0:Int)≤(a:Int)∧(a:Int) < (s.length:Int))&&Pat.fits p87 (nthD (List.map n87 s) a)) then some (!(((d87 (nthD (List.map n87 s) a)).1 == o.1)&&(((d87 (nthD (List.map n87 s) a)).2 == o.2)&&true))) else none):Option Bool)=some (decide (a=s.length∨s.getD a (0,0)≠o)):=by
  by_cases h:a=s.length
  ·have hb:((a:Int) == (s.length:Int))=true:=by simp [h]
   rw [hb]; simp [h]
  ·have hal:a < s.length:=by omega
   obtain ⟨b1,b2⟩:=at87k s hal
   have hb:((a:Int) == (s.length:Int))=false:=beq_false_of_ne (by omega)
   have e:s.getD a (0,0)=s[a]:=by simp [hal]
   rw [hb,b1,b2,in_range hal,e]
   simp only [Bool.and_self,cond_true,cond_false]
   congr 1
   rw [Bool.eq_iff_iff]
   simp only [h,false_or,Bool.not_eq_true',Bool.and_true,decide_eq_true_eq,Bool.and_eq_false_iff,beq_eq_false_iff_ne,ne_eq]
   constructor
   ·rintro h2 rfl
    rcases h2 with h2 | h2 <;> exact h2 rfl
   ·intro h2
    by_cases h3:s[a].1=o.1
    ·right; intro h4; exact h2 (Prod.ext h3 h4)
    ·exact .inl h3
 have c1:decide ((0:Int)≤(a:Int)∧(a:Int)≤(s.length:Int))=true:=decide_eq_true (by omega)
 have ht:(List.take a s).length=a:=by rw [List.length_take]; omega
 have hb0:decide (1=([AV.agg [AV.int .i64 o.1,AV.int .i64 o.2]]:List AV).length)=true:=rfl
 have hbn:∀ x:Nat,x≤4000000→decide (x * 16≤140737488355328)=true:=fun x hx=>decide_eq_true (by omega)
 have z0:∀ x:List (Int × Int),[AV.agg [AV.int .i64 o.1,AV.int .i64 o.2]]++List.map n87 x=List.map n87 ([o]++x):=fun x=>rfl
 have z1:∀ x y:List (Int × Int),(List.map n87 x++[AV.agg [AV.int .i64 o.1,AV.int .i64 o.2]])++List.map n87 y=List.map n87 (x++[o]++y):=fun x y=>by rw [List.map_append,List.map_append]; rfl
 simp only [R66x58,List.length_map,hw,lt_range hk,hd,Int.toNat_natCast,a1,a2,in_range hk3,Bool.and_self,cond_true,q127,Option.bind_some,hm,ho,hat,hc]
 by_cases hi:a=s.length∨s.getD a (0,0)≠o
 ·rw [if_pos hi]
  simp only [hi,decide_true,cond_true,c1,Bool.and_self,Bool.and_true,sub_map87g,List.drop_zero,List.take_length,beq_self_eq_true]
  by_cases h0:a=0
  ·subst h0
   simp only [List.take_zero,List.map_nil,List.isEmpty_nil,cond_true,List.nil_append,List.length_singleton,List.length_map,List.length_drop,decide_true,hbn (1+s.length) (by omega),Bool.and_self,z0,fa87,md87,Option.bind_some,List.drop_zero,Bool.and_true,w_succ (show k < 9223372036854775807 by omega)]
  ·have hne:List.isEmpty (List.map n87 (List.take a s))=false:=by
    cases hd:List.take a s with
    | nil=>rw [hd] at ht; simp at ht; omega
    | cons x y=>rfl
   simp only [hne,cond_false,List.nil_append,List.length_append,List.length_singleton,List.length_map,List.length_drop,ht,Nat.zero_add,hbn a (by omega),hbn (a+1) (by omega),hbn (a+1+(s.length - a)) (by omega),decide_true,cond_true,Bool.and_self,z1,fa87,md87,Option.bind_some,Bool.and_true,w_succ (show k < 9223372036854775807 by omega)]
 ·rw [if_neg hi]
  simp only [hi,decide_false,cond_false,fa87,md87,Bool.and_true,cond_true,Option.bind_some,w_succ (show k < 9223372036854775807 by omega)]
theorem T66_knots (l:List P3) (hl:l.length≤1000000):T66 N l=some (knotsL l):=by
 rw [T66_eq]
 have key:=loopR_foldl (rd:=R66x58 N l) (flatK2 l) (fun s k=>(s,(k:Int))) (fun s k=>ins1 ltK (0,0) k s) (fun s=>s) (fun s k=>s.length≤k) (fun s k hk hs=>by
  have hk':k < 2 * l.length:=by rw [flat_len] at hk; exact hk
  refine ⟨R66_step hN l s k hl (by omega) hk' hk,?_⟩
  have:=ins1_len (lt:=ltK) (0,0) (flatK2 l)[k] s
  omega) (fun s _=>by
  have hw:IntKind.wrap .i64 (2 * (l.length:Int))=((2 * l.length:Nat):Int):=by rw [w64 (by omega)]; omega
  rw [flat_len]
  simp only [R66x58,List.length_map,hw,ge_range,cond_false,fa87,md87,Bool.and_true,cond_true,Option.bind_some]) N [] 0 (Nat.zero_le _) (by unfold Big at hN; rw [flat_len]; omega) (Nat.le_refl _)
 have key':loopR (R66x58 N l) N ([],0)=_:=key
 have z:((bif (allFit (Pat.fits p87) ([]:List AV)&&true) then some ((List.map d87 ([]:List AV)),0) else none:Option ((List (Int × Int)) × Int)).bind fun w17=>some w17)=some ([],0):=rfl
 rw [z,Option.bind_some,key',List.drop_zero,Option.bind_some]
 simp only [fa87,md87,Bool.and_true,cond_true] <;> rfl
omit hN in
theorem T214_eqb (N:Nat) (x y:Int × Int):T214 N (x,y)=some (decide (x=y)):=by
 rw [T214_eq]
 congr 1
 rw [Bool.eq_iff_iff]
 simp only [Bool.and_true,Bool.and_eq_true,beq_iff_eq,decide_eq_true_eq]
 constructor
 ·rintro ⟨h1,h2⟩; exact Prod.ext h1 h2
 ·rintro rfl; exact ⟨rfl,rfl⟩
omit hN in
theorem cl87 (l:List (Int × Int)):closedL (List.map n87 l)=true:=closedL_map (fun _=>rfl) l
omit hN in
theorem set87 (s:List (Int × Int)) (i:Nat) (a b:Int):setN (List.map n87 s) i (AV.agg [AV.int .i64 a,AV.int .i64 b])=List.map n87 (s.set i (a,b)):=by
 rw [setN_eq]
 show (List.map n87 s).set i (n87 (a,b))=_
 rw [List.map_set]
omit hN in
theorem snoc87b (s:List (Int × Int)) (a b c d:Int):List.map n87 s++[AV.agg [AV.int .i64 a,AV.int .i64 b],AV.agg [AV.int .i64 c,AV.int .i64 d]]=List.map n87 (s++[(a,b),(c,d)]):=by
 rw [List.map_append]; rfl
theorem R196_flat (l:List P3) (hl:l.length≤1000000):loopR (R196x58 N l) N ((),0,[])=some ((),flatK2 l):=by
 have key:=loopR_foldl (rd:=R196x58 N l) l (fun s k=>((),(k:Int),s)) (fun s b=>s++[loK b,upK b]) (fun s=>((),s)) (fun s k=>s.length=2 * k) (fun s k hk hs=>by
  obtain ⟨a1,a2⟩:=at120 l hk
  have q:T197 N (l[k].1,l[k].2.1,l[k].2.2)=_:=T197_ends N l[k]
  have hcl:∀ a b c d:Int,closedL [AV.int .i64 a,AV.int .i64 b,AV.int .i64 c,AV.int .i64 d]=true:=fun _ _ _ _=>rfl
  have hlen:(s++[(l[k].1,l[k].2.1),((upK l[k]).1,(upK l[k]).2)]).length=s.length+2:=by simp
  have hb:decide ((s.length+2) * 16≤140737488355328)=true:=decide_eq_true (by omega)
  refine ⟨?_,by rw [List.length_append,hs]; simp; omega⟩
  simp only [R196x58,List.length_map,Int.toNat_natCast,a1,a2,lt_range hk,in_range hk,Bool.and_self,Bool.and_true,cond_true,q,Option.bind_some,hcl,snoc87b,hlen,hb,decide_true,Nat.beq_refl,fa87,md87,w_succ (show k < 9223372036854775807 by omega)]
  rfl) (fun s _=>by
  simp only [R196x58,List.length_map,ge_range,cond_false,Nat.beq_refl,fa87,md87,Bool.and_self,Bool.and_true,cond_true,Option.bind_some]) N [] 0 (Nat.zero_le _) (by unfold Big at hN; omega) rfl
 have key':loopR (R196x58 N l) N ((),0,[])=_:=key
 rw [key',List.drop_zero]
 congr 2
 have gen:∀ (l:List P3) (s:List (Int × Int)),l.foldl (fun s b=>s++[loK b,upK b]) s=s++flatK2 l:=by
  intro l
  induction l with
  | nil=>intro s; simp [flatK2]
  | cons b l ih=>intro s; rw [List.foldl_cons,ih,flatK2,List.append_assoc]; rfl
 rw [gen]; rfl
section
variable (F st:List (Int × Int)) (hn:st.length=F.length) (hF:F.length≤2000000)
include hn hF
theorem R196_in (m:Nat) (h1:1≤m) (hm:m < F.length) (hu:uqN (0,0) st (m+1)=st.take m) :
  ∃ x,loopR (R196x213x59690 N ((),F) ((m:Int),st)) N ((m:Int),1,st)=some x∧∃ (t:Nat) (c:List (Int × Int)),x=((t:Int),c)∧c.length=F.length∧t≤F.length∧c.take t=uqN (0,0) st F.length:=by
 refine loopR_cnt (rd:=R196x213x59690 N ((),F) ((m:Int),st)) (S:=Nat × List (Int × Int)) (F.length - m - 1) (fun s i=>((s.1:Int),((i+1:Nat):Int),s.2))
  (fun s i=>s.1≤m+i∧s.2.length=F.length∧s.2.take s.1=uqN (0,0) st (m+1+i)∧∀ t,m+i≤t→s.2[t]?=st[t]?) _ ?_ ?_ N (m,st) 0 (Nat.zero_le _) (by unfold Big at hN; omega) ⟨by omega,hn,hu.symm,fun _ _=>rfl⟩
 ·rintro ⟨t,c⟩ i hi ⟨i1,i2,i3,i4⟩
  simp only at i1 i2 i3 i4
  have hj:m+(i+1) < c.length:=by omega
  have hj0:m+i < c.length:=by omega
  have hs1:m+(i+1) < st.length:=by omega
  have hs0:m+i < st.length:=by omega
  have e1:c[m+(i+1)]=st[m+(i+1)]:=by
   have:=i4 (m+(i+1)) (by omega)
   rw [List.getElem?_eq_getElem hj,List.getElem?_eq_getElem hs1] at this
   exact Option.some.inj this
  have e0:c[m+i]=st[m+i]:=by
   have:=i4 (m+i) (by omega)
   rw [List.getElem?_eq_getElem hj0,List.getElem?_eq_getElem hs0] at this
   exact Option.some.inj this
  obtain ⟨a1,a2⟩:=at87k c hj
  obtain ⟨b1,b2⟩:=at87k c hj0
  rw [e1] at a1
  rw [e0] at b1
  have g1:st.getD (m+(i+1)) (0,0)=st[m+(i+1)]:=by simp [hs1]
  have g0:st.getD (m+i) (0,0)=st[m+i]:=by simp [hs0]
  have hu2:uqN (0,0) st (m+1+(i+1))=if st[m+(i+1)]=st[m+i] then uqN (0,0) st (m+1+i) else uqN (0,0) st (m+1+i)++[st[m+(i+1)]]:=by
   rw [show m+1+(i+1)=m+1+i+1 by omega]
   conv=>lhs; unfold uqN
   rw [show m+1+i=m+(i+1) by omega,g1,show m+(i+1) - 1=m+i by omega,g0]
   by_cases h:st[m+(i+1)]=st[m+i]
   ·rw [if_pos h,if_pos ⟨by omega,h⟩]
   ·rw [if_neg h,if_neg fun c=>h c.2]
  have hw:IntKind.wrap .i64 (((i+1:Nat):Int) - 1)=(i:Int):=by rw [w64 (by omega)]; omega
  have hlt:decide (((i+1:Nat):Int) < ((F.length - m:Nat):Int))=true:=decide_eq_true (by omega)
  have hr1:decide ((0:Int)≤((i+1:Nat):Int)∧((i+1:Nat):Int) < ((F.length - m:Nat):Int))=true:=decide_eq_true (by omega)
  have hr0:decide ((0:Int)≤(i:Int)∧(i:Int) < ((F.length - m:Nat):Int))=true:=decide_eq_true (by omega)
  have hd1:decide (m+(i+1) < F.length)=true:=decide_eq_true (by omega)
  have hd0:decide (m+i < F.length)=true:=decide_eq_true (by omega)
  have hrt:decide ((0:Int)≤(t:Int)∧(t:Int) < (F.length:Int))=true:=decide_eq_true (by omega)
  have hdt:decide (t < F.length)=true:=decide_eq_true (by omega)
  have q:T214 N ((st[m+(i+1)].1,st[m+(i+1)].2),(st[m+i].1,st[m+i].2))=_:=T214_eqb N st[m+(i+1)] st[m+i]
  by_cases h:st[m+(i+1)]=st[m+i]
  ·rw [decide_eq_true h] at q
   refine ⟨(t,c),?_,by omega,i2,?_,fun t' ht'=>i4 t' (by omega)⟩
   ·simp only [R196x213x59690,List.length_map,Int.toNat_natCast,Nat.zero_add,hw,hlt,hr1,hr0,i2,hd1,hd0,a1,a2,b1,b2,decide_true,Bool.and_self,Bool.and_true,cond_true,q,Option.bind_some,Bool.not_true,cond_false,fa87,md87,w_succ (show i+1 < 9223372036854775807 by omega)]
   ·rw [hu2,if_pos h]; exact i3
  ·refine ⟨(t+1,c.set t st[m+(i+1)]),?_,by simp only; omega,by simp only [List.length_set]; exact i2,?_,fun t' ht'=>?_⟩
   ·simp only [R196x213x59690,List.length_map,Int.toNat_natCast,Nat.zero_add,hw,hlt,hr1,hr0,i2,hd1,hd0,hrt,hdt,a1,a2,b1,b2,decide_true,Bool.and_self,Bool.and_true,cond_true,q,h,decide_false,Option.bind_some,Bool.not_false,set87,fa87,md87,w_succ (show i+1 < 9223372036854775807 by omega),w_succ (show t < 9223372036854775807 by omega)]
   ·rw [hu2,if_neg h,← i3]
    simp only
    rw [List.take_succ,List.take_set_of_le (Nat.le_refl _),List.getElem?_set_self (by omega)]
    rfl
   ·simp only
    rw [List.getElem?_set_ne (by omega)]
    exact i4 t' (by omega)
 ·rintro ⟨t,c⟩ ⟨i1,i2,i3,i4⟩
  simp only at i1 i2 i3 i4
  have hge:decide (((F.length - m - 1+1:Nat):Int) < ((F.length - m:Nat):Int))=false:=decide_eq_false (by omega)
  refine ⟨((t:Int),c),?_,t,c,rfl,i2,by omega,?_⟩
  ·simp only [R196x213x59690,List.length_map,Int.toNat_natCast,hge,cond_false,fa87,md87,Bool.and_true,cond_true,Option.bind_some]
  ·rw [i3]; congr 1; omega
omit hN hn hF in
theorem splice_take (s:List AV):∀ (t:Nat) (z:List AV),t+z.length=s.length→(splice s t z).length=s.length∧(splice s t z).take t=s.take t:=by
 induction s with
 | nil=>intro t z h; cases z with
  | nil=>simp [splice]
  | cons y z=>simp at h
 | cons a s ih=>
  intro t z h
  cases z with
  | nil=>simp [splice]
  | cons y z=>
   cases t with
   | zero=>
    simp only [splice,List.length_cons,List.take_zero,and_true]
    have:=ih 0 z (by simp at h ⊢; omega)
    omega
   | succ t=>
    simp only [splice,List.length_cons,List.take_succ_cons]
    have:=ih t (y :: z) (by simp at h ⊢; omega)
    exact ⟨by omega,by rw [this.2]⟩
omit hN hn hF in
theorem splice_cl:∀ (s:List AV) (t:Nat) (z:List AV),closedL s=true→closedL z=true→closedL (splice s t z)=true
 | [],t,[],h1,h2=>by simpa [splice] using h1
 | [],t,y :: z,h1,h2=>rfl
 | a :: s,t,[],h1,h2=>by cases t <;> simpa [splice] using h1
 | a :: s,0,y :: z,h1,h2=>by
  simp only [closedL,Bool.and_eq_true] at h1 h2
  simp only [splice,closedL,Bool.and_eq_true]
  exact ⟨h2.1,splice_cl s 0 z h1.2 h2.2⟩
 | a :: s,t+1,y :: z,h1,h2=>by
  simp only [closedL,Bool.and_eq_true] at h1
  simp only [splice,closedL,Bool.and_eq_true]
  exact ⟨h1.1,splice_cl s t (y :: z) h1.2 h2⟩
theorem R196_out:∃ o,loopR (R196x213x58 N ((),F)) N (1,st)=some o∧Sum.elim (fun l=>l) (fun l=>l) o=uqN (0,0) st F.length∧∀ l,o=.inr l→l.length=F.length:=by
 have hN0:1≤F.length→F.length - 1 < N:=fun _=>by unfold Big at hN; omega
 by_cases hF0:F.length=0
 ·refine ⟨.inr st,?_,?_,fun l h=>by cases h; exact hn⟩
  ·obtain ⟨n,rfl⟩:∃ n,N=n+1:=⟨N - 1,by unfold Big at hN; omega⟩
   rw [loopR_succ]
   have hge:decide ((1:Int) < (F.length:Int))=false:=decide_eq_false (by omega)
   simp only [R196x213x58,List.length_map,hge,cond_false,fa87,md87,Bool.and_true,cond_true,Option.bind_some,Sum.elim_inr]
  ·rw [hF0]
   have:st=[]:=List.length_eq_zero_iff.1 (by omega)
   rw [this]; rfl
 refine loopR_cne (rd:=R196x213x58 N ((),F)) (S:=Unit) (F.length - 1) (fun _ k=>(((k+1:Nat):Int),st)) (fun _ k=>∀ j,0 < j→j < k+1→st.getD j (0,0)≠st.getD (j - 1) (0,0)) _ ?_ ?_ N () 0 (Nat.zero_le _) (by unfold Big at hN; omega) (fun j h1 h2=>by omega)
 ·rintro _ k hk hP
  have hs1:k+1 < st.length:=by omega
  have hs0:k < st.length:=by omega
  obtain ⟨a1,a2⟩:=at87k st hs1
  obtain ⟨b1,b2⟩:=at87k st hs0
  have g1:st.getD (k+1) (0,0)=st[k+1]:=by simp [hs1]
  have g0:st.getD k (0,0)=st[k]:=by simp [hs0]
  have hw:IntKind.wrap .i64 (((k+1:Nat):Int) - 1)=(k:Int):=by rw [w64 (by omega)]; omega
  have hl1:k+1 < F.length:=by omega
  have hl0:k < F.length:=by omega
  have hd1:decide (k+1 < F.length)=true:=decide_eq_true hl1
  have hd0:decide (k < F.length)=true:=decide_eq_true hl0
  have q:T214 N ((st[k+1].1,st[k+1].2),(st[k].1,st[k].2))=_:=T214_eqb N st[k+1] st[k]
  by_cases h:st[k+1]=st[k]
  ·right
   rw [decide_eq_true h] at q
   have ht:=uqN_take (0,0) st (k+1) (by omega) hP
   have hu:uqN (0,0) st (k+1+1)=st.take (k+1):=by
    rw [← ht]
    conv=>lhs; unfold uqN
    rw [if_pos ⟨by omega,by rw [g1,show k+1 - 1=k by omega,g0]; exact h⟩]
   obtain ⟨x,r,t,c,rfl,c1,c2,c3'⟩:=R196_in hN F st hn hF (k+1) (by omega) hl1 hu
   have hle:decide ((0:Int)≤((k+1:Nat):Int)∧((k+1:Nat):Int)≤(F.length:Int))=true:=decide_eq_true (by omega)
   have hle2:decide ((0:Int)≤(t:Int)∧(t:Int)≤(F.length:Int))=true:=decide_eq_true (by omega)
   obtain ⟨z1,z2⟩:=splice_take (List.map n87 c) t (List.replicate (F.length - t) (AV.agg [AV.int .i64 0,AV.int .i64 0])) (by rw [List.length_replicate,List.length_map]; omega)
   have z3:closedL (splice (List.map n87 c) t (List.replicate (F.length - t) (AV.agg [AV.int .i64 0,AV.int .i64 0])))=true:=splice_cl _ _ _ (cl87 c) (by
    have:∀ n,closedL (List.replicate n (AV.agg [AV.int .i64 0,AV.int .i64 0]))=true:=by
     intro n
     induction n with
     | zero=>rfl
     | succ n ih=>rw [List.replicate_succ,closedL,ih]; rfl
    exact this _)
   have hs:decide (t+(F.length - t)≤F.length)=true:=decide_eq_true (by omega)
   have ht2:decide (t≤F.length)=true:=decide_eq_true c2
   rw [List.length_map] at z1
   refine ⟨.inl (uqN (0,0) st F.length),?_,rfl,fun l h=>by cases h⟩
   have hmt:List.take t (List.map n87 c)=List.map n87 (List.take t c):=by rw [List.map_take]
   simp only [R196x213x58,List.length_map,Int.toNat_natCast,Nat.zero_add,hw,lt_range hl1,in_range hl1,in_range hl0,hn,hd1,hd0,a1,a2,b1,b2,decide_true,Bool.and_self,Bool.and_true,cond_true,q,hle,fa87,md87,Option.bind_some,r,hle2,c1,hs,z1,ht2,z3,z2,hmt,c3']
  ·left
   rw [decide_eq_false h] at q
   refine ⟨(),?_,fun j h1 h2=>?_⟩
   ·simp only [R196x213x58,List.length_map,Int.toNat_natCast,Nat.zero_add,hw,lt_range hl1,in_range hl1,in_range hl0,hn,hd1,hd0,a1,a2,b1,b2,decide_true,Bool.and_self,Bool.and_true,cond_true,q,cond_false,fa87,md87,Option.bind_some,w_succ (show k+1 < 9223372036854775807 by omega)]
   ·by_cases hj:j=k+1
    ·subst hj
     rw [g1,show k+1 - 1=k by omega,g0]; exact h
    ·exact hP j h1 (by omega)
 ·intro _ hP
  have hge:decide (((F.length - 1+1:Nat):Int) < (F.length:Int))=false:=decide_eq_false (by omega)
  refine ⟨.inr st,?_,?_,fun l h=>by cases h; exact hn⟩
  ·simp only [R196x213x58,List.length_map,hge,cond_false,fa87,md87,Bool.and_true,cond_true,Option.bind_some]
  ·have:=uqN_take (0,0) st F.length (by omega) (fun j h1 h2=>hP j h1 (by omega))
   rw [this,← hn,List.take_length]
   rfl
end
theorem T196_knots (l:List P3) (hl:l.length≤1000000):T196 N l=some (knotsL l):=by
 have hs:sortL pTwo cfK (List.map n87 (flatK2 l))=List.map n87 ((flatK2 l).mergeSort fun x y=>!ltK y x):=by
  unfold sortL
  rw [show List.map (Pat.decD pTwo) (List.map n87 (flatK2 l))=flatK2 l from md87 _]
  rfl
 have hfp:allFit (Pat.fits pTwo) (List.map n87 (flatK2 l))=true:=fa87 _
 have hlen:((flatK2 l).mergeSort fun x y=>!ltK y x).length=(flatK2 l).length:=List.length_mergeSort _
 have hb:decide ((flatK2 l).length≤140737488355328)=true:=decide_eq_true (by rw [flat_len]; omega)
 have hfl:(flatK2 l).length≤2000000:=by rw [flat_len]; omega
 have huq:=uq_srt swoK totK (0,0) (flatK2 l)
 have huq:uqN (0,0) ((flatK2 l).mergeSort fun x y=>!ltK y x) (flatK2 l).length=knotsL l:=huq
 have z:((bif ((Nat.beq 0 (([]:List AV)).length&&Nat.beq 0 (([]:List AV)).length)&&(allFit (Pat.fits p87) ([]:List AV)&&true)) then some ((),0,(List.map d87 ([]:List AV))) else none:Option (Unit × Int × (List (Int × Int)))).bind fun w7=>some w7)=some ((),0,[]):=rfl
 rw [T196_eq,z,Option.bind_some,R196_flat hN l hl,Option.bind_some]
 simp only [hs,hfp,List.length_map,hb,hlen,decide_true,Bool.and_self,Bool.and_true,cond_true,Nat.le_refl,cl87,fa87,md87,Option.bind_some]
 by_cases h2:((flatK2 l).length:Int) < 2
 ·have ht:List.take (flatK2 l).length (List.map n87 ((flatK2 l).mergeSort fun x y=>!ltK y x))=List.map n87 ((flatK2 l).mergeSort fun x y=>!ltK y x):=List.take_of_length_le (by rw [List.length_map,hlen]; exact Nat.le_refl _)
  simp only [h2,decide_true,cond_true,ht,fa87,md87,Option.bind_some]
  congr 1
  rw [← huq,uqN_take (0,0) _ _ (by rw [hlen]; exact Nat.le_refl _) (fun j a b=>by omega),List.take_of_length_le (by rw [hlen]; exact Nat.le_refl _)]
 ·obtain ⟨o,r,e,hl2⟩:=R196_out hN (flatK2 l) ((flatK2 l).mergeSort fun x y=>!ltK y x) hlen hfl
  simp only [h2,decide_false,cond_false,r,Option.bind_some]
  rw [huq] at e
  cases o with
  | inl x=>
   simp only [Sum.elim_inl] at e ⊢
   rw [e]
   simp only [fa87,md87,cond_true,Option.bind_some]
  | inr x=>
   have hx:=hl2 x rfl
   simp only [Sum.elim_inr] at e ⊢
   subst e
   have ht:List.take (flatK2 l).length (List.map n87 (knotsL l))=List.map n87 (knotsL l):=List.take_of_length_le (by rw [List.length_map,hx]; exact Nat.le_refl _)
   simp only [hx,decide_true,Nat.le_refl,Bool.and_self,cond_true,ht,fa87,md87,Option.bind_some]
end
end Go.Proofs.YtfiopgedfcaodaaGreatDoor
namespace Go.Proofs.YtfiopgedfcaodaaGreatDoor
open Go Go.Am Go.Sort
set_option maxRecDepth 100000
theorem at115 (C:List (List P3)) {k:Nat} (hk:k < C.length):d115 (nthD (List.map n115 C) k)=C[k]∧Pat.fits p115 (nthD (List.map n115 C) k)=true:=by
 rw [nthD_map n115 C k hk,dn115,fn115]; exact ⟨rfl,rfl⟩
def chkP (C:List (List P3)):Int:=if C.length > 16 then 5 else firstNZ (C.map chkN)
theorem chkN_ok {l:List P3} (h:chkN l=0):l.length≤4096:=by
 unfold chkN at h
 split at h
 ·cases h
 ·omega
theorem chkP_ok {C:List (List P3)} (h:chkP C=0):C.length≤16∧∀ l∈C,chkN l=0:=by
 unfold chkP at h
 split at h
 ·cases h
 ·exact ⟨by omega,fun l hl=>firstNZ_zero.1 h _ (List.mem_map.2 ⟨l,hl,rfl⟩)⟩
def errQ (C:List (List P3)) (p:P3):Int:=if p.1 < 0∨p.1≥(C.length:Int) then 10 else if (p.2.1,p.2.2)∈knotsL (C.getD p.1.toNat []) then 0 else 7
def plc (C:List (List P3)) (i:Nat):List P3:=(knotsL (C.getD i [])).map fun k=>((i:Int),k.1,k.2)
def plcs (C:List (List P3)):List P3:=(List.range C.length).flatMap (plc C)
theorem flatMap_foldl {α β:Type} (f:α→List β):∀ (l:List α) (s:List β),l.foldl (fun s i=>s++f i) s=s++l.flatMap f
 | [],s=>by simp
 | a :: l,s=>by rw [List.foldl_cons,flatMap_foldl f l,List.flatMap_cons,List.append_assoc]
theorem insL_len {α:Type} [DecidableEq α] (lt:α→α→Bool) (d:α) (l:List α):(insL lt d l).length≤l.length:=by
 have gen:∀ (l s:List α),(l.foldl (fun s k=>ins1 lt d k s) s).length≤s.length+l.length:=by
  intro l
  induction l with
  | nil=>intro s; simp
  | cons k l ih=>
   intro s
   rw [List.foldl_cons,List.length_cons]
   have h1:=ih (ins1 lt d k s)
   have h2:=ins1_len (lt:=lt) d k s
   omega
 have:=gen l []
 unfold insL
 simpa using this
theorem knots_len {l:List P3} (h:chkN l=0):(knotsL l).length≤8192:=by
 have h1:=insL_len ltK (0,0) (flatK2 l)
 have h2:=chkN_ok h
 rw [flat_len] at h1
 unfold knotsL
 omega
section
variable {N:Nat} (hN:Big N)
include hN
theorem T163_knots (l:List P3):T163 N l=some (if chkN l=0 then (knotsL l,0) else ([],chkN l)):=by
 rw [T163_eq]
 simp only [fa120,md120,Bool.and_true,cond_true,Option.bind_some,T117_chk hN l]
 by_cases h:chkN l=0
 ·have:=chkN_ok h
  simp only [h,bne_self_eq_false,cond_false,T196_knots hN l (by omega),Option.bind_some,fa87,md87,cond_true,if_true]
 ·have hb:(chkN l != 0)=true:=bne_iff_ne.2 h
  rw [hb,if_neg h]
  rfl
theorem T37_chk (C:List (List P3)):T37 N C=some (chkP C):=by
 rw [T37_eq]
 simp only [List.length_map]
 unfold chkP
 by_cases h:C.length > 16
 ·have h':(C.length:Int) > 16:=by omega
  simp [h,h']
 ·have h':¬ (C.length:Int) > 16:=by omega
  have key:=first_loop2 (rd:=R37x58 N C) (C.map chkN) (fun k hk=>by
   have hk:k < C.length:=by simpa using hk
   obtain ⟨a1,a2⟩:=at115 C hk
   rw [List.getElem_map]
   simp only [R37x58,List.length_map,Int.toNat_natCast,a1,a2,lt_range hk,in_range hk,Bool.and_self,Bool.and_true,cond_true,fa120,md120,T65_chk hN C[k],Option.bind_some,w_succ (show k < 9223372036854775807 by omega)]
   by_cases hz:chkN C[k]=0
   ·simp [hz]
   ·have hb:(chkN C[k] != 0)=true:=bne_iff_ne.2 hz
    simp [hz,hb]) (by
   rw [List.length_map]
   simp only [R37x58,List.length_map,ge_range,cond_false]) N (by unfold Big at hN; rw [List.length_map]; omega)
  rw [if_neg h]
  simp only [h',decide_false,cond_false,key,Option.bind_some]
  split <;> simp_all
theorem T41_chk (C:List (List P3)):T41 N C=some (chkP C):=by
 rw [T41_eq]
 simp only [List.length_map]
 unfold chkP
 by_cases h:C.length > 16
 ·have h':(C.length:Int) > 16:=by omega
  simp [h,h']
 ·have h':¬ (C.length:Int) > 16:=by omega
  have sn:∀ (l:List Int) (a:Int),List.map n24 l++[AV.int .i64 a]=List.map n24 (l++[a]):=fun l a=>by rw [List.map_append]; rfl
  have key:=loopR_foldl (rd:=R41x116x58 N C) C (fun s k=>(s,(k:Int))) (fun s l=>s++[chkN l]) (fun s=>s) (fun s k=>s.length=k) (fun s k hk hs=>by
   obtain ⟨a1,a2⟩:=at115 C hk
   have hb:decide ((s.length+1) * 8≤140737488355328)=true:=decide_eq_true (by omega)
   have hl:(s++[chkN C[k]]).length=s.length+1:=by simp
   refine ⟨?_,by rw [hl,hs]⟩
   simp only [R41x116x58,List.length_map,Int.toNat_natCast,a1,a2,lt_range hk,in_range hk,Bool.and_self,Bool.and_true,cond_true,fa120,md120,T117_chk hN C[k],Option.bind_some,decide_true,hb,sn,fa24,md24,hl,w_succ (show k < 9223372036854775807 by omega)]) (fun s hs=>by
   simp only [R41x116x58,List.length_map,ge_range,cond_false,fa24,md24,Bool.and_true,cond_true,Option.bind_some,decide_true]) N [] 0 (Nat.zero_le _) (by unfold Big at hN; omega) rfl
  have key':loopR (R41x116x58 N C) N ([],0)=_:=key
  have z:((bif (allFit (Pat.fits p24) ([]:List AV)&&true) then some ((List.map d24 ([]:List AV)),0) else none:Option ((List Int) × Int)).bind fun w8=>bif (decide (0=(List.map n24 w8.1).length)&&true) then some w8 else none)=some ([],0):=rfl
  have z':((bif (allFit (Pat.fits p24) ([]:List AV)&&true) then some ((List.map d24 ([]:List AV)),0) else none:Option ((List Int) × Int)).bind fun w8=>bif (decide (0=w8.1.length)&&true) then some w8 else none)=some ([],0):=rfl
  have hf:∀ (l:List (List P3)) (s:List Int),l.foldl (fun s l=>s++[chkN l]) s=s++l.map chkN:=by
   intro l
   induction l with
   | nil=>intro s; simp
   | cons a l ih=>intro s; rw [List.foldl_cons,ih]; simp
  rw [if_neg h]
  simp only [h',decide_false,cond_false]
  rw [z',Option.bind_some,key',List.drop_zero,Option.bind_some,hf,List.nil_append]
  simp only [fa24,md24,Bool.and_true,cond_true,Option.bind_some]
  rw [T90_first hN _ (by rw [List.length_map]; omega)]
  rfl
omit hN in
theorem hasK_mem (l:List (Int × Int)) (p:Int × Int):hasK l p=decide (p∈l):=by
 unfold hasK
 rw [Bool.eq_iff_iff,List.any_eq_true,decide_eq_true_iff]
 constructor
 ·rintro ⟨q,hq,h⟩
  simp only [Bool.and_true,Bool.and_eq_true,beq_iff_eq] at h
  have:p=q:=Prod.ext h.1 h.2
  rw [this]; exact hq
 ·intro h
  exact ⟨p,h,by simp⟩
theorem T113_err (C:List (List P3)) (p:P3) (hC:∀ l∈C,chkN l=0):T113 N (C,p)=some (errQ C p):=by
 rw [T113_eq]
 simp only [List.length_map]
 unfold errQ
 by_cases h:p.1 < 0∨p.1≥(C.length:Int)
 ·rw [if_pos h]
  by_cases h1:p.1 < 0
  ·simp [h1]
  ·have h2:p.1≥(C.length:Int):=by omega
   simp [h1,h2]
 ·rw [if_neg h]
  have h1:¬ p.1 < 0:=by omega
  have h2:¬ p.1≥(C.length:Int):=by omega
  obtain ⟨k,hk⟩:∃ k:Nat,p.1=(k:Int):=⟨p.1.toNat,by omega⟩
  have hkl:k < C.length:=by omega
  rw [hk] at h1 h2
  obtain ⟨a1,a2⟩:=at115 C hkl
  have e:C.getD k []=C[k]:=by simp [hkl]
  have hn:=hC _ (List.getElem_mem hkl)
  have hl:=chkN_ok hn
  have hkn:=knots_len hn
  have q1:=T66_knots hN C[k] (by omega)
  have q2:T115 N (knotsL C[k],p.2.1,p.2.2)=some (hasK (knotsL C[k]) (p.2.1,p.2.2)):=T115_has hN _ _ (by omega)
  simp only [h1,h2,decide_false,cond_false,Option.bind_some,hk,Int.toNat_natCast,in_range hkl,a1,a2,Bool.and_self,Bool.and_true,cond_true,fa120,md120,q1,beq_self_eq_true,fa87,md87,q2,hasK_mem,e]
  by_cases hm:(p.2.1,p.2.2)∈knotsL C[k] <;> simp [hm]
end
end Go.Proofs.YtfiopgedfcaodaaGreatDoor
namespace Go.Proofs.YtfiopgedfcaodaaGreatDoor
open Go Go.Am Go.Sort
set_option maxRecDepth 100000
theorem ME191:MapEnc (.st (.cons 0 1 false .int (.cons 1 2 true (.st (.cons 0 1 false .int (.cons 1 1 false .int .nil))) .nil))) n94 n3 nM191:=⟨fun a b=>eqK_three a b,fun _=>rfl,fun _=>rfl⟩
theorem mk191 (p:P3) (m:List (P3 × Int)):mkeys (.st (.cons 0 1 false .int (.cons 1 2 true (.st (.cons 0 1 false .int (.cons 1 1 false .int .nil))) .nil))) (AV.agg [AV.int .i64 p.1,AV.int .i64 p.2.1,AV.int .i64 p.2.2]) (entriesL (List.map nM191 m))=true:=ME191.keys p m
theorem mt191 (p:P3) (m:List (P3 × Int)):mgetT (.st (.cons 0 1 false .int (.cons 1 2 true (.st (.cons 0 1 false .int (.cons 1 1 false .int .nil))) .nil))) (AV.agg [AV.int .i64 p.1,AV.int .i64 p.2.1,AV.int .i64 p.2.2]) (entriesL (List.map nM191 m))=(getM p m).map n3:=ME191.get p m
theorem mg191 (p:P3) (m:List (P3 × Int)):mgetD (.st (.cons 0 1 false .int (.cons 1 2 true (.st (.cons 0 1 false .int (.cons 1 1 false .int .nil))) .nil))) (AV.agg [AV.int .i64 p.1,AV.int .i64 p.2.1,AV.int .i64 p.2.2]) (AV.int .i64 0) (entriesL (List.map nM191 m))=n3 ((getM p m).getD 0):=ME191.getD p 0 m
theorem mp191 (p:P3) (v:Int) (m:List (P3 × Int)):mputT (.st (.cons 0 1 false .int (.cons 1 2 true (.st (.cons 0 1 false .int (.cons 1 1 false .int .nil))) .nil))) (AV.agg [AV.int .i64 p.1,AV.int .i64 p.2.1,AV.int .i64 p.2.2]) (AV.int .i64 v) (entriesL (List.map nM191 m))=entriesL (List.map nM191 (putM p v m)):=ME191.put p v m
theorem mc191 (m:List (P3 × Int)):mcells (entriesL (List.map nM191 m))=List.map nM191 m:=ME191.cells m
theorem ax191 (m:List (P3 × Int)):allX (entriesL (List.map nM191 m))=true:=ME191.allX m
theorem snoc94 (s:List P3) (a b c:Int):List.map n94 s++[AV.agg [AV.int .i64 a,AV.int .i64 b,AV.int .i64 c]]=List.map n94 (s++[(a,b,c)]):=by
 rw [List.map_append]; rfl
theorem foldl_snocg {α β:Type} (g:α→β):∀ (l:List α) (s:List β),l.foldl (fun s x=>s++[g x]) s=s++l.map g
 | [],s=>by simp
 | a :: l,s=>by rw [List.foldl_cons,foldl_snocg g l]; simp
theorem plc_len {C:List (List P3)} (hC:∀ l∈C,chkN l=0) (i:Nat):(plc C i).length≤8192:=by
 unfold plc
 rw [List.length_map]
 by_cases h:i < C.length
 ·have e:C.getD i []=C[i]:=by simp [h]
  rw [e]
  exact knots_len (hC _ (List.getElem_mem h))
 ·have e:C.getD i []=[]:=by simp [h]
  rw [e]
  exact knots_len rfl
theorem mem_plcs {C:List (List P3)} (p:P3):p∈plcs C↔∃ i:Nat,i < C.length∧p.1=(i:Int)∧(p.2.1,p.2.2)∈knotsL (C.getD i []):=by
 unfold plcs plc
 simp only [List.mem_flatMap,List.mem_range,List.mem_map]
 constructor
 ·rintro ⟨i,hi,k,hk,rfl⟩
  exact ⟨i,hi,rfl,hk⟩
 ·rintro ⟨i,hi,h1,h2⟩
  exact ⟨i,hi,_,h2,by rw [← h1]⟩
section
variable {N:Nat} (hN:Big N)
include hN
theorem R42_in (K:List (Int × Int)) (e:Int) (C:List (List P3)) (s:List P3) (i:Int) (hK:K.length≤8192):loopR (R42x164x58 N (K,e)) N ([],0,C,s,i)=some (K.map fun k=>(i,k.1,k.2),C,s,i):=by
 have key:=loopR_foldl (rd:=R42x164x58 N (K,e)) K (fun acc k=>(acc,(k:Int),C,s,i)) (fun acc k=>acc++[(i,k.1,k.2)]) (fun acc=>(acc,C,s,i)) (fun acc k=>acc.length=k) (fun acc k hk hs=>by
  obtain ⟨a1,a2⟩:=at87k K hk
  have hb:decide ((acc.length+1) * 24≤140737488355328)=true:=decide_eq_true (by omega)
  have hl:(acc++[(i,K[k].1,K[k].2)]).length=acc.length+1:=by simp
  refine ⟨?_,by rw [hl,hs]⟩
  simp only [R42x164x58,List.length_map,Int.toNat_natCast,a1,a2,lt_range hk,in_range hk,Bool.and_self,Bool.and_true,cond_true,decide_true,hb,snoc94,fa94,md94,fa115,md115,Option.bind_some,hl,w_succ (show k < 9223372036854775807 by omega)]) (fun acc _=>by
  simp only [R42x164x58,List.length_map,ge_range,cond_false,fa94,md94,fa115,md115,Bool.and_self,Bool.and_true,cond_true,Option.bind_some,decide_true]) N [] 0 (Nat.zero_le _) (by unfold Big at hN; omega) rfl
 have key':loopR (R42x164x58 N (K,e)) N ([],0,C,s,i)=_:=key
 rw [key',List.drop_zero,foldl_snocg,List.nil_append]
section
variable (C:List (List P3)) (hC:∀ l∈C,chkN l=0) (hl:C.length≤16)
include hC hl
theorem R42_places:loopR (R42x109x58 N C) N ((),0,C,[])=some ((),C,plcs C):=by
 have key:=loopR_foldl (rd:=R42x109x58 N C) (List.range C.length) (fun s k=>((),(k:Int),C,s)) (fun s i=>s++plc C i) (fun s=>((),C,s)) (fun s k=>s.length≤8192 * k) (fun s k hk hs=>by
  have hk:k < C.length:=by simpa using hk
  rw [List.getElem_range]
  obtain ⟨a1,a2⟩:=at115 C hk
  have hn:=hC _ (List.getElem_mem hk)
  have e:C.getD k []=C[k]:=by simp [hk]
  have hkl:=knots_len hn
  have q:=T163_knots hN C[k]
  rw [if_pos hn] at q
  have hpl:=plc_len hC k
  have hb:decide ((s.length+(plc C k).length) * 24≤140737488355328)=true:=decide_eq_true (by omega)
  have hi:=R42_in hN (knotsL C[k]) 0 C s (k:Int) hkl
  have he:(knotsL C[k]).map (fun x=>((k:Int),x.1,x.2))=plc C k:=by unfold plc; rw [e]
  rw [he] at hi
  have z:∀ a b:List P3,List.map n94 a++List.map n94 b=List.map n94 (a++b):=fun a b=>by rw [List.map_append]
  have zn:allFit (Pat.fits p94) ([]:List AV)=true:=rfl
  have hla:(s++plc C k).length=s.length+(plc C k).length:=List.length_append
  refine ⟨?_,by rw [hla]; omega⟩
  simp only [R42x109x58,List.length_map,Int.toNat_natCast,a1,a2,lt_range hk,in_range hk,Bool.and_self,Bool.and_true,cond_true,fa120,md120,q,Option.bind_some,zn,fa115,md115,fa94,md94,List.map_nil,List.length_nil,decide_true,hi,hb,z,hla,Nat.beq_refl,w_succ (show k < 9223372036854775807 by omega)]) (fun s _=>by
  rw [List.length_range]
  simp only [R42x109x58,List.length_map,ge_range,cond_false,Nat.beq_refl,fa94,md94,fa115,md115,Bool.and_self,Bool.and_true,cond_true,Option.bind_some]) N [] 0 (Nat.zero_le _) (by unfold Big at hN; simp; omega) (Nat.zero_le _)
 have key':loopR (R42x109x58 N C) N ((),0,C,[])=_:=key
 rw [key',List.drop_zero,flatMap_foldl,List.nil_append]
 rfl
omit hC hl in
theorem R42_index (S:List P3) (hS:S.length≤1000000):∃ x,loopR (R42x118x58 N ((),C,S)) N (0,C,S,[])=some x∧∃ m:List (P3 × Int),x=(C,S,m)∧∀ p,(getM p m).isSome=decide (p∈S):=by
 refine loopR_cnt (rd:=R42x118x58 N ((),C,S)) (S:=List (P3 × Int)) S.length (fun m k=>((k:Int),C,S,m)) (fun m k=>∀ p,(getM p m).isSome=decide (p∈S.take k)) _ ?_ ?_ N [] 0 (Nat.zero_le _) (by unfold Big at hN; omega) (fun p=>by simp [getM])
 ·intro m k hk hP
  obtain ⟨a1,a2⟩:=at94 S hk
  have hd:decide (k < S.length)=true:=decide_eq_true hk
  refine ⟨putM S[k] (k:Int) m,?_,fun p=>?_⟩
  ·simp only [R42x118x58,List.length_map,Int.toNat_natCast,Nat.zero_add,a1,a2,lt_range hk,in_range hk,hd,decide_true,Bool.and_self,Bool.and_true,cond_true,mk191,mp191,mc191,ax191,faM191,mdM191,fa115,md115,fa94,md94,Option.bind_some,w_succ (show k < 9223372036854775807 by omega)]
  ·have et:S.take (k+1)=S.take k++[S[k]]:=by rw [List.take_succ,List.getElem?_eq_getElem hk]; rfl
   rw [getM_put,et]
   by_cases h:p=S[k]
   ·rw [if_pos h]
    exact (decide_eq_true (by rw [List.mem_append,List.mem_singleton]; exact .inr h)).symm
   ·rw [if_neg h,hP,decide_eq_decide,List.mem_append,List.mem_singleton]
    exact ⟨.inl,fun c=>c.resolve_right h⟩
 ·intro m hP
  refine ⟨(C,S,m),?_,m,rfl,fun p=>by rw [hP,List.take_length]⟩
  simp only [R42x118x58,List.length_map,ge_range,cond_false,mc191,ax191,faM191,mdM191,fa115,md115,fa94,md94,Bool.and_self,Bool.and_true,cond_true,Option.bind_some]
def errS (C:List (List P3)) (j:Six):Int:=firstNZ [errQ C (j.1,j.2.1,j.2.2.1),errQ C (j.2.2.2.1,j.2.2.2.2.1,j.2.2.2.2.2),if (j.1,j.2.1,j.2.2.1)=(j.2.2.2.1,j.2.2.2.2.1,j.2.2.2.2.2) then 9 else 0]
def chkQ (C:List (List P3)) (J:List Six):Int:=if chkP C≠0 then chkP C else if J.length > 1024 then 5 else firstNZ (J.map (errS C))
omit hN hC hl in
theorem errQ_map (m:List (P3 × Int)) (hm:∀ p,(getM p m).isSome=decide (p∈plcs C)) (p:P3):firstNZ [if p.1 < 0∨p.1≥(C.length:Int) then 10 else 0,if (!(Option.isSome ((getM p m).map n3)))=true then 7 else 0]=errQ C p:=by
 have h1:Option.isSome ((getM p m).map n3)=decide (p∈plcs C):=by rw [Option.isSome_map,hm]
 rw [h1]
 unfold errQ
 simp only [firstNZ]
 by_cases h:p.1 < 0∨p.1≥(C.length:Int)
 ·rw [if_pos h,if_pos h]; rfl
 ·rw [if_neg h,if_neg h]
  have hmem:p∈plcs C↔(p.2.1,p.2.2)∈knotsL (C.getD p.1.toNat []):=by
   rw [mem_plcs]
   constructor
   ·rintro ⟨i,hi,h2,h3⟩
    rw [h2,Int.toNat_natCast]; exact h3
   ·intro h3
    exact ⟨p.1.toNat,by omega,by omega,h3⟩
  by_cases hk:(p.2.1,p.2.2)∈knotsL (C.getD p.1.toNat [])
  ·rw [if_pos hk,decide_eq_true (hmem.2 hk)]; rfl
  ·rw [if_neg hk,decide_eq_false fun c=>hk (hmem.1 c)]; rfl
omit hC hl in
theorem R42_errs (J:List Six) (hJ:J.length≤1024) (S:List P3) (m:List (P3 × Int)) (hm:∀ p,(getM p m).isSome=decide (p∈plcs C)):loopR (R42x120x58 N J) N ([],0,C,S,m,(),())=some (J.map (errS C),C,S,m,(),()):=by
 have key:=loopR_foldl (rd:=R42x120x58 N J) J (fun acc k=>(acc,(k:Int),C,S,m,(),())) (fun acc j=>acc++[errS C j]) (fun acc=>(acc,C,S,m,(),())) (fun acc k=>acc.length=k) (fun acc k hk hs=>by
  have hd:=nthD_map n127 J k hk
  have a1:d127 (nthD (List.map n127 J) k)=J[k]:=by rw [hd,dn127]
  have a2:Pat.fits p127 (nthD (List.map n127 J) k)=true:=by rw [hd,fn127]
  have hb:decide ((acc.length+1) * 8≤140737488355328)=true:=decide_eq_true (by omega)
  have hl:(acc++[errS C J[k]]).length=acc.length+1:=by simp
  have sn:∀ (l:List Int) (a:Int),List.map n24 l++[AV.int .i64 a]=List.map n24 (l++[a]):=fun l a=>by rw [List.map_append]; rfl
  refine ⟨?_,by rw [hl,hs]⟩
  have k1:=mk191 (J[k].1,J[k].2.1,J[k].2.2.1) m
  have k2:=mk191 (J[k].2.2.2.1,J[k].2.2.2.2.1,J[k].2.2.2.2.2) m
  have g1:=mg191 (J[k].1,J[k].2.1,J[k].2.2.1) m
  have g2:=mg191 (J[k].2.2.2.1,J[k].2.2.2.2.1,J[k].2.2.2.2.2) m
  have t1:=mt191 (J[k].1,J[k].2.1,J[k].2.2.1) m
  have t2:=mt191 (J[k].2.2.2.1,J[k].2.2.2.2.1,J[k].2.2.2.2.2) m
  have e1:=errQ_map C m hm (J[k].1,J[k].2.1,J[k].2.2.1)
  have e2:=errQ_map C m hm (J[k].2.2.2.1,J[k].2.2.2.2.1,J[k].2.2.2.2.2)
  have es:errS C J[k]=firstNZ [errQ C (J[k].1,J[k].2.1,J[k].2.2.1),errQ C (J[k].2.2.2.1,J[k].2.2.2.2.1,J[k].2.2.2.2.2),if (J[k].1,J[k].2.1,J[k].2.2.1)=(J[k].2.2.2.1,J[k].2.2.2.2.1,J[k].2.2.2.2.2) then 9 else 0]:=rfl
  have q2:∀ x y:Int,T90 N [x,y]=some (firstNZ [x,y]):=fun x y=>T90_first hN _ (by simp)
  have q3:∀ x y z:Int,T90 N [x,y,z]=some (firstNZ [x,y,z]):=fun x y z=>T90_first hN _ (by simp)
  simp only at k1 k2 g1 g2 t1 t2 e1 e2
  generalize J[k]=j at *
  have hbeq:(j.1 == j.2.2.2.1&&(j.2.1 == j.2.2.2.2.1&&j.2.2.1 == j.2.2.2.2.2))=decide ((j.1,j.2.1,j.2.2.1)=(j.2.2.2.1,j.2.2.2.2.1,j.2.2.2.2.2)):=by
   rw [Bool.eq_iff_iff]
   simp only [Bool.and_eq_true,beq_iff_eq,decide_eq_true_eq,Prod.mk.injEq]
  have cb:∀ (x n X:Int) (R:List (List P3) × List P3 × List (P3 × Int) × Unit × Unit),((bif decide (x < 0) then some (firstNZ [if True then 10 else 0,X],R) else some (firstNZ [if decide (x≥n)=true then 10 else 0,X],R)):Option (Int × List (List P3) × List P3 × List (P3 × Int) × Unit × Unit))=some (firstNZ [if x < 0∨x≥n then 10 else 0,X],R):=fun x n X R=>by
   by_cases h1:x < 0
   ·simp [h1]
   ·simp [h1]
  simp only [R42x120x58,List.length_map,Int.toNat_natCast,a1,a2,lt_range hk,in_range hk,Bool.and_self,cond_true,k1,k2,g1,g2,fn3,t1,t2,T91_when,Option.bind_some,two24,three24,q2,q3,fa115,md115,fa94,md94,faM191,mdM191,mc191,ax191,beq_self_eq_true,decide_true]
  rw [cb,e1,Option.bind_some]
  simp only [k2,g2,fn3,t2,Bool.and_self,cond_true]
  rw [cb,e2,Option.bind_some]
  simp only [hb,Bool.and_self,cond_true,sn,fa24,md24,Bool.and_true,hbeq,decide_eq_true_eq,Option.bind_some,w_succ (show k < 9223372036854775807 by omega)]
  rw [← es]
  simp only [hl,decide_true,Bool.and_self,cond_true,Option.bind_some]) (fun acc _=>by
  simp only [R42x120x58,List.length_map,ge_range,cond_false,fa24,md24,mc191,ax191,faM191,mdM191,fa115,md115,fa94,md94,Bool.and_self,Bool.and_true,cond_true,Option.bind_some,decide_true]) N [] 0 (Nat.zero_le _) (by unfold Big at hN; omega) rfl
 have key':loopR (R42x120x58 N J) N ([],0,C,S,m,(),())=_:=key
 rw [key',List.drop_zero,foldl_snocg,List.nil_append]
end
end
end Go.Proofs.YtfiopgedfcaodaaGreatDoor
