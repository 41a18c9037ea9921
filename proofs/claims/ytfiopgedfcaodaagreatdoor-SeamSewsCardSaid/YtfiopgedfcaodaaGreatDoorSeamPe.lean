/- Plain laws: edges. -/
import Derived.Test.YtfiopgedfcaodaaGreatDoorSeamTe
import Derived.Test.YtfiopgedfcaodaaGreatDoorSeamP
set_option linter.all false
namespace Go.Proofs.YtfiopgedfcaodaaGreatDoor
open Go Go.Am
set_option maxRecDepth 100000
theorem ofInt_wrap (n:Nat) (h:n < 18446744073709551616):(BitVec.ofInt 64 (IntKind.wrap .i64 (n:Int))).toNat = n:=by
 rw [BitVec.toNat_ofInt,IntKind.wrap_i64]
 omega
theorem xor2 (a b:Nat):(a ^^^ b) % 2 = (a + b) % 2:=by
 have h:=Nat.xor_mod_two_pow (a:=a) (b:=b) (n:=1)
 rw [Nat.pow_one] at h
 rw [h]
 rcases Nat.mod_two_eq_zero_or_one a with ha | ha <;> rcases Nat.mod_two_eq_zero_or_one b with hb | hb <;> rw [ha,hb] <;> simp <;> omega
theorem odd_eq (x y:Int):(andI .i64 (xorI .i64 x y) 1 != 0) = decide ((x + y) % 2 ≠ 0):=by
 have h1:(BitVec.ofInt 64 x ^^^ BitVec.ofInt 64 y).toNat < 18446744073709551616:=(BitVec.ofInt 64 x ^^^ BitVec.ofInt 64 y).isLt
 have h2:(BitVec.ofInt 64 1).toNat = 1:=by decide
 have h3:andI .i64 (xorI .i64 x y) 1 = IntKind.wrap .i64 ((((BitVec.ofInt 64 x ^^^ BitVec.ofInt 64 y).toNat % 2:Nat)):Int):=by
  show IntKind.wrap .i64 (((BitVec.ofInt 64 (IntKind.wrap .i64 (((BitVec.ofInt 64 x ^^^ BitVec.ofInt 64 y).toNat:Nat):Int)) &&& BitVec.ofInt 64 1).toNat:Nat):Int) = _
  rw [BitVec.toNat_and,ofInt_wrap _ h1,h2,Nat.and_one_is_mod]
 rw [h3,w64 (by omega),BitVec.toNat_xor,xor2,BitVec.toNat_ofInt,BitVec.toNat_ofInt]
 have e:((((x % ((2 ^ 64:Nat):Int)).toNat + (y % ((2 ^ 64:Nat):Int)).toNat) % 2:Nat):Int) = (x + y) % 2:=by omega
 rw [e]
 by_cases h:(x + y) % 2 = 0 <;> simp [h]
def knotErr (p:Int × Int):Int:=if p.1 < -100000 ∨ p.1 > 100000 ∨ p.2 < -100000 ∨ p.2 > 100000 then 3 else if (p.1 + p.2) % 2 = 0 then 0 else 14
theorem T169_when (N:Nat) (b:Bool) (e:Int):T169 N (b,e) = some (if b then e else 0):=by rw [T169_eq]; cases b <;> rfl
theorem T198_rng (N:Nat) (n lo hi:Int):T198 N (n,lo,hi) = some (rng n lo hi):=by
 rw [T198_eq,T169_when,T169_when]
 unfold rng
 by_cases h1:n < lo
 ·simp [h1]
 ·by_cases h2:n > hi <;> simp [h1,h2]
theorem T167_first {N:Nat} (hN:Big N) (l:List Int) (hl:l.length ≤ 9223372036854775806):T167 N l = some (firstNZ l):=by
 obtain ⟨o,h1,h2⟩:=first_loop (rd:=R167x26 N l) l (fun k hk=>by
  have hd:=nthD_map n24 l k hk
  have e1:d24 (nthD (List.map n24 l) k) = l[k]:=by rw [hd]; rfl
  have e2:Pat.fits p24 (nthD (List.map n24 l) k) = true:=by rw [hd]; rfl
  simp only [R167x26,R90x26,List.length_map,Int.toNat_natCast,e1,e2,w_succ (show k < 9223372036854775807 by omega),lt_range hk,in_range hk,Bool.and_self,cond_true]
  by_cases hz:l[k] = 0
  ·simp [hz]
  ·simp [hz,Bool.cond_eq_ite]) (by simp only [R167x26,R90x26,List.length_map,ge_range,cond_false]) N (by unfold Big at hN; omega)
 rw [T167_eq,h1,Option.bind_some]
 rcases o with o | o
 ·simpa using h2
 ·simpa using h2
theorem T130_knot {N:Nat} (hN:Big N) (p:Int × Int):T130 N p = some (knotErr p):=by
 rw [T130_eq,T171_eq]
 simp only [T198_rng,Option.bind_some,beq_self_eq_true,Bool.and_self,cond_true]
 rw [two24]
 simp only [Option.bind_some]
 rw [T167_first hN _ (by simp)]
 simp only [Option.bind_some,T169_when,odd_eq]
 rw [two24]
 simp only [Option.bind_some]
 rw [T167_first hN _ (by simp)]
 simp only [Option.bind_some]
 congr 1
 unfold knotErr rng
 simp only [firstNZ]
 by_cases h1:p.1 < -100000 ∨ p.1 > 100000
 ·have h:p.1 < -100000 ∨ p.1 > 100000 ∨ p.2 < -100000 ∨ p.2 > 100000:=by omega
  simp [h,h1]
 ·by_cases h2:p.2 < -100000 ∨ p.2 > 100000
  ·have h:p.1 < -100000 ∨ p.1 > 100000 ∨ p.2 < -100000 ∨ p.2 > 100000:=by omega
   simp [h,h1,h2]
  ·have h:¬ (p.1 < -100000 ∨ p.1 > 100000 ∨ p.2 < -100000 ∨ p.2 > 100000):=by omega
   by_cases h3:(p.1 + p.2) % 2 = 0 <;> simp [h,h1,h2,h3]
theorem T134_knot (N:Nat) (p:Int × Int):T134 N p = some (knotErr p):=by
 rw [T134_eq,T173_eq,T173_eq,T174_eq]
 unfold knotErr
 by_cases h:p.1 < -100000 ∨ p.1 > 100000 ∨ p.2 < -100000 ∨ p.2 > 100000
 ·rw [if_pos h]
  by_cases h1:p.1 < -100000 <;> by_cases h2:p.1 > 100000 <;> by_cases h3:p.2 < -100000 <;> by_cases h4:p.2 > 100000 <;> simp [h1,h2,h3,h4] <;> omega
 ·rw [if_neg h]
  have h1:¬ p.1 < -100000:=by omega
  have h2:¬ p.1 > 100000:=by omega
  have h3:¬ p.2 < -100000:=by omega
  have h4:¬ p.2 > 100000:=by omega
  rw [w64 (x:=p.1 + p.2) (by omega)]
  have e:((Int.tmod (p.1 + p.2) 2) == 0) = decide ((p.1 + p.2) % 2 = 0):=by
   by_cases h5:(p.1 + p.2) % 2 = 0
   ·have:Int.tmod (p.1 + p.2) 2 = 0:=Int.tmod_eq_zero_of_dvd (Int.dvd_of_emod_eq_zero h5)
    simp [h5,this]
   ·have:Int.tmod (p.1 + p.2) 2 ≠ 0:=fun e=>h5 (Int.emod_eq_zero_of_dvd (Int.dvd_of_tmod_eq_zero e))
    simp [h5,this]
  rw [e]
  by_cases h5:(p.1 + p.2) % 2 = 0 <;> simp [h1,h2,h3,h4,h5]
theorem find_loop {Y:Type} {rd:Int → Option (Int ⊕ (Y ⊕ Unit))} (m:Nat) (b:Nat → Bool) (y:Nat → Y)
  (h:∀ k,k < m → rd (k:Int) = some (if b k then .inr (.inl (y k)) else .inl ((k + 1:Nat):Int))) (h0:rd (m:Int) = some (.inr (.inr ()))) :
  ∀ (n k:Nat),k ≤ m → m < n + k → (∃ j,k ≤ j ∧ j < m ∧ b j = true ∧ loopR rd n (k:Int) = some (.inl (y j))) ∨ ((∀ j,k ≤ j → j < m → b j = false) ∧ loopR rd n (k:Int) = some (.inr ()))
 | 0,k,hk,hn=>by omega
 | n + 1,k,hk,hn=>by
  rw [loopR_succ]
  by_cases hlt:k < m
  ·rw [h k hlt]
   cases hb:b k with
   | true=>exact .inl ⟨k,Nat.le_refl _,hlt,hb,rfl⟩
   | false=>
    simp only [Bool.false_eq_true,if_false,Option.bind_some,Sum.elim_inl]
    rcases find_loop m b y h h0 n (k + 1) hlt (by omega) with ⟨j,h1,h2,h3,h4⟩ | ⟨h1,h2⟩
    ·exact .inl ⟨j,by omega,h2,h3,h4⟩
    ·refine .inr ⟨fun j hj hjm=>?_,h2⟩
     by_cases hjk:j = k
     ·rw [hjk]; exact hb
     ·exact h1 j (by omega) hjm
  ·obtain rfl:k = m:=by omega
   rw [h0]
   exact .inr ⟨fun j h1 h2=>by omega,rfl⟩
def hasK (l:List (Int × Int)) (p:Int × Int):Bool:=l.any fun q=>p.1 == q.1 && (p.2 == q.2 && true)
theorem any_get {α:Type} {l:List α} {f:α → Bool} {j:Nat} (h:j < l.length) (hf:f l[j] = true):l.any f = true:=List.any_eq_true.2 ⟨l[j],List.getElem_mem h,hf⟩
theorem any_none {α:Type} {l:List α} {f:α → Bool} (h:∀ j (hj:j < l.length),f l[j] = false):l.any f = false:=by
 rw [List.any_eq_false]
 intro x hx
 obtain ⟨j,hj,rfl⟩:=List.getElem_of_mem hx
 rw [h j hj]; decide
theorem T115_has {N:Nat} (hN:Big N) (l:List (Int × Int)) (p:Int × Int) (hl:l.length ≤ 1000000):T115 N (l,p) = some (hasK l p):=by
 rw [T115_eq]
 have sym:∀ q:Int × Int,(q.1 == p.1 && (q.2 == p.2 && true)) = (p.1 == q.1 && (p.2 == q.2 && true)):=fun q=>by
  have h1:(q.1 == p.1) = (p.1 == q.1):=decide_eq_decide.2 eq_comm
  have h2:(q.2 == p.2) = (p.2 == q.2):=decide_eq_decide.2 eq_comm
  rw [h1,h2]
 have key:=find_loop (rd:=R115x26 N l p) l.length (fun k=>if h:k < l.length then p.1 == l[k].1 && (p.2 == l[k].2 && true) else false) (fun _=>true) (fun k hk=>by
  simp only [R115x26,List.length_map,Int.toNat_natCast,nthD_map n87 l k hk,fn87,dn87,lt_range hk,in_range hk,Bool.and_self,cond_true,w_succ (show k < 9223372036854775807 by omega),hk,dif_pos]
  rw [sym]
  cases (p.1 == l[k].1 && (p.2 == l[k].2 && true)) <;> rfl) (by simp only [R115x26,List.length_map,ge_range,cond_false]) N 0 (Nat.zero_le _) (by unfold Big at hN; omega)
 rcases key with ⟨j,_,hj,hb,hr⟩ | ⟨hb,hr⟩
 ·have hr':loopR (R115x26 N l p) N 0 = some (.inl true):=hr
  rw [dif_pos hj] at hb
  rw [hr']
  simp only [Option.bind_some,Sum.elim_inl]
  rw [show hasK l p = true from any_get hj hb]
 ·have hr':loopR (R115x26 N l p) N 0 = some (.inr ()):=hr
  rw [hr']
  simp only [Option.bind_some,Sum.elim_inr]
  rw [show hasK l p = false from any_none fun j hj=>by have:=hb j (Nat.zero_le _) hj; rwa [dif_pos hj] at this]
end Go.Proofs.YtfiopgedfcaodaaGreatDoor
