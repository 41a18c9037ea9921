/- Plain laws: names. -/
import Derived.Test.YtegoimldbgdeiaaTrwD
import Derived.Test.YtegoimldbgdeiaaSeamKB
set_option linter.all false
namespace Go.Proofs.Ytegoimldbgdeiaa
open Go Go.Am
set_option maxRecDepth 100000
def nO (first:Bool) (c:Int):Bool:=
 !(decide (c≥65)&&decide (c≤90) || decide (c≥97)&&decide (c≤122))&&(first || (c != 95&&(decide (c < 48) || decide (c > 57))))
def iP (first:Bool):List UInt8→Bool
 | []=>true
 | c :: l=>!nO first (c.toNat:Int)&&iP false l
def Az (s:List UInt8):Bool:=decide (s.length≠0∧s.length≤24)
def iy (s:List UInt8):Bool:=Az s&&iP true s
theorem G8 (s:List UInt8):(((bif ((((s).length:Nat):Int) == 0) then (some true) else (some (decide ((((s).length:Nat):Int) > 24)))):Option Bool))=some (!Az s):=by
 unfold Az
 by_cases h0:s.length=0
 ·simp [h0]
 ·rw [LX (by omega)]
  by_cases h1:s.length≤24
  ·have:decide (((s.length:Nat):Int) > 24)=false:=by simp; omega
   rw [this]; simp [h0,h1]
  ·have:decide (((s.length:Nat):Int) > 24)=true:=by simp; omega
   rw [this]; simp [h1]
theorem EF (l:List UInt8):∀ (first:Bool),foldI (fun (b:Bool) (c:UInt8)=>if nO b (c.toNat:Int) then (.inr ():Bool ⊕ Unit) else .inl false) first l=if iP first l then .inl (if l.isEmpty then first else false) else .inr ():=by
 induction l with
 | nil=>intro b; rfl
 | cons c l ih=>
  intro b
  simp only [foldI,iP]
  by_cases h:nO b (c.toNat:Int)=true
  ·simp [h]
  ·have h':nO b (c.toNat:Int)=false:=by simpa using h
   simp only [h',Bool.false_eq_true,if_false,Sum.elim_inl,Bool.not_false,Bool.true_and,ih false]
   by_cases h2:iP false l=true <;> simp [h2]
theorem G9 {N:Nat} (hN:hH N) (s:List UInt8):Re N s=some (iy s):=by
 rw [Nx,G8]
 simp only [Option.bind_some]
 unfold iy
 cases tN:Az s with
 | false=>rfl
 | true=>
  have hl:=of_decide_eq_true (show decide (s.length≠0∧s.length≤24)=true from tN)
  simp only [Bool.not_true,cond_false,Bool.true_and]
  have key:=ir (rd:=vt N s) s (fun (b:Bool) k=>(k:Int)) (fun b (c:UInt8)=>if nO b (c.toNat:Int) then (.inr ():Bool ⊕ Unit) else .inl false) (fun _=>.inr ()) (fun _=>.inl false) (fun b k=>b=(k == 0))
   (fun b k hk hb=>by
    refine ⟨?_,fun s' h'=>?_⟩
    ·subst hb
     have e1:s.getD k 0=s[k]:=by simp [hk]
     have e2:((k:Int) == 0)=(k == 0):=by cases k <;> simp; omega
     unfold vt
     simp only [Int.toNat_natCast,aX hk,aK hk,cond_true,bS (by omega:k < 9223372036854775807),e1,e2]
     unfold nO
     generalize ((s[k].toNat:Nat):Int)=c
     generalize decide (c≥97)=b1
     generalize decide (c≤122)=b2
     generalize decide (c≥65)=b3
     generalize decide (c≤90)=b4
     generalize (c != 95)=b5
     generalize decide (c < 48)=b6
     generalize decide (c > 57)=b7
     generalize (k == 0)=b0
     cases b0 <;> cases b1 <;> cases b2 <;> cases b3 <;> cases b4 <;> cases b5 <;> cases b6 <;> cases b7 <;> rfl
    ·split at h'
     ·cases h'
     ·cases h'; simp)
   (fun b _=>by
    unfold vt
    simp only [bN,cond_false]) N true 0 (Nat.zero_le _) (by unfold hH at hN; omega) rfl
  have Cq:a6 (V:=Int) (X:=Bool ⊕ Unit) (vt N s) N 0=_:=key
  simp only [Cq,Option.bind_some,List.drop_zero,EF]
  cases iP true s <;> rfl
theorem AA {b:Bool} {c:Int} (h:128≤c):nO b c=true:=by
 unfold nO
 have h1:decide (c≤90)=false:=by simp; omega
 have h2:decide (c≤122)=false:=by simp; omega
 have h3:(c != 95)=true:=by simp; omega
 have h4:decide (c > 57)=true:=by simp; omega
 rw [h1,h2,h3,h4]
 cases b <;> simp
theorem Ha {N:Nat} (hN:hH N) (s:List UInt8):Q5 N s=some (iy s):=by
 rw [MU,G8]
 simp only [Option.bind_some]
 unfold iy
 cases tN:Az s with
 | false=>rfl
 | true=>
  have hl:=of_decide_eq_true (show decide (s.length≠0∧s.length≤24)=true from tN)
  simp only [Bool.not_true,cond_false,Bool.true_and]
  have key:=ir (rd:=vq N) s (fun (p:Nat) k=>(s,(k:Int))) (fun p (c:UInt8)=>if nO (p == 0) (c.toNat:Int) then (.inr (p+(bQ s p).2):Nat ⊕ Nat) else .inl (p+1)) (fun p=>.inl (s,(p:Int))) (fun p=>.inr (false,s,(p:Int))) (fun p k=>p=k)
   (fun p k hk hp=>by
    subst hp
    refine ⟨?_,fun s' h'=>?_⟩
    ·have e2:((p:Int) == 0)=(p == 0):=by cases p <;> simp; omega
     have e3:Nat.blt p s.length=true:=Nat.ble_eq_true_of_le hk
     obtain ⟨r1,r2⟩:=Ik s p hk
     unfold vq
     simp only [Int.toNat_natCast,e3,cond_true,e2]
     have main:∀ (n:Nat) (c:Int),(((bif (decide (c≥65)) then (bif (decide (c≤90)) then (some (true,s,(((p+n):Nat):Int))) else (bif (decide (c≥97)) then (some ((decide (c≤122)),s,(((p+n):Nat):Int))) else (some (false,s,(((p+n):Nat):Int))))) else (bif (decide (c≥97)) then (some ((decide (c≤122)),s,(((p+n):Nat):Int))) else (some (false,s,(((p+n):Nat):Int))))):Option ((Bool × (List UInt8) × Int))).bind fun o3=>(((bif (!o3.1) then (bif (p == 0) then (some (true,o3.2.1,(((Int.toNat o3.2.2):Nat):Int))) else (bif (c != 95) then (bif (decide (c < 48)) then (some (true,o3.2.1,(((Int.toNat o3.2.2):Nat):Int))) else (some ((decide (c > 57)),o3.2.1,(((Int.toNat o3.2.2):Nat):Int)))) else (some (false,o3.2.1,(((Int.toNat o3.2.2):Nat):Int))))) else (some (false,o3.2.1,(((Int.toNat o3.2.2):Nat):Int)))):Option ((Bool × (List UInt8) × Int))).bind fun o4=>(bif o4.1 then (some (Sum.inr (Sum.inr (false,o4.2.1,(((Int.toNat o4.2.2):Nat):Int)))):Option (((List UInt8) × Int) ⊕ (((List UInt8) × Int) ⊕ (Bool × (List UInt8) × Int)))) else (some (Sum.inl (o4.2.1,(((Int.toNat o4.2.2):Nat):Int))))))) =
       some (bif nO (p == 0) c then Sum.inr (Sum.inr (false,s,((p+n:Nat):Int))) else Sum.inl (s,((p+n:Nat):Int))):=by
      intro n c
      unfold nO
      generalize decide (c≥97)=b1
      generalize decide (c≤122)=b2
      generalize decide (c≥65)=b3
      generalize decide (c≤90)=b4
      generalize (c != 95)=b5
      generalize decide (c < 48)=b6
      generalize decide (c > 57)=b7
      generalize (p == 0)=b0
      cases b0 <;> cases b1 <;> cases b2 <;> cases b3 <;> cases b4 <;> cases b5 <;> cases b6 <;> cases b7 <;> rfl
     rw [main]
     by_cases TA:s[p].toNat < 128
     ·rw [r1 TA]
      by_cases hb:nO (p == 0) (s[p].toNat:Int)=true
      ·simp [hb]
      ·have kD:nO (p == 0) (s[p].toNat:Int)=false:=by simpa using hb
       simp [kD]
     ·have h1:=AA (b:=p == 0) (c:=((bQ s p).1:Int)) (by have:=r2 (by omega); omega)
      have h2:=AA (b:=p == 0) (c:=(s[p].toNat:Int)) (by omega)
      rw [h1,if_pos h2]
      rfl
    ·split at h'
     ·cases h'
     ·cases h'; rfl)
   (fun p hp=>by
    subst hp
    unfold vq
    have e3:Nat.blt s.length s.length=false:=by
     cases hb:Nat.blt s.length s.length with
     | false=>rfl
     | true=>have:=Nat.le_of_ble_eq_true hb; omega
    simp only [Int.toNat_natCast,e3,cond_false]) N 0 0 (Nat.zero_le _) (by unfold hH at hN; omega) rfl
  have Cq:a6 (V:=(List UInt8) × Int) (X:=((List UInt8) × Int) ⊕ (Bool × (List UInt8) × Int)) (vq N) N (s,((0:Nat):Int))=_:=key
  rw [Cq]
  simp only [Option.bind_some,List.drop_zero]
  have gen:∀ (l:List UInt8) (p:Nat) (first:Bool),first=(p == 0)→Sum.elim (fun _=>true) (fun _=>false) (foldI (fun (p:Nat) (c:UInt8)=>if nO (p == 0) (c.toNat:Int) then (.inr (p+(bQ s p).2):Nat ⊕ Nat) else .inl (p+1)) p l)=iP first l:=by
   intro l
   induction l with
   | nil=>intro p first _; rfl
   | cons c l ih=>
    intro p first hf
    subst hf
    simp only [foldI,iP]
    by_cases h:nO (p == 0) (c.toNat:Int)=true
    ·simp [h]
    ·have h':nO (p == 0) (c.toNat:Int)=false:=by simpa using h
     simp only [h',Bool.false_eq_true,if_false,Sum.elim_inl,Bool.not_false,Bool.true_and]
     exact ih (p+1) false (by simp)
  have g:=gen s 0 true rfl
  revert g
  cases foldI (fun (p:Nat) (c:UInt8)=>if nO (p == 0) (c.toNat:Int) then (.inr (p+(bQ s p).2):Nat ⊕ Nat) else .inl (p+1)) 0 s with
  | inl p=>intro g; simp only [Sum.elim_inl] at g ⊢; rw [← g]
  | inr p=>intro g; simp only [Sum.elim_inr] at g ⊢; rw [← g]
end Go.Proofs.Ytegoimldbgdeiaa
namespace Go.Proofs.Ytegoimldbgdeiaa
open Go Go.Am
set_option maxRecDepth 100000
abbrev Ld:=(List UInt8) × Int × Int
def nP (x:Ld):Int:=bt [if iy x.1 then 0 else 8,gV x.2.1 (-1000000) 1000000,gV x.2.2 (-10000) 10000]
def bO (l:List Ld):Int:=if l.length > 64 then 5 else bt (l.map nP)
def fS (l:List Ld):Int:=(l.map fun x=>x.2.1).sum
def fT (l:List Ld):Int:=(l.map fun x=>x.2.1 * x.2.2).sum
theorem NI (l:List Ld) {k:Nat} (hk:k < l.length):d27 (an (List.map iS l) k)=l[k]∧ah.fits Ay (an (List.map iS l) k)=true:=by
 rw [gk iS l k hk]; exact ⟨rfl,rfl⟩
theorem Qw (l:List Ld) {k:Nat} (hk:k < l.length):d28 (an (List.map cq l) k)=l[k]∧ah.fits og (an (List.map cq l) k)=true:=by
 rw [gk cq l k hk]; exact ⟨rfl,rfl⟩
theorem TB (l:List Int) {k:Nat} (hk:k < l.length):d29 (an (List.map Kb l) k)=l[k]∧ah.fits Ka (an (List.map Kb l) k)=true:=by
 rw [gk Kb l k hk]; exact ⟨rfl,rfl⟩
theorem xm {N:Nat} (hN:hH N) (l:List Int) (hl:l.length≤9223372036854775806):PM N l=some (bt l):=by
 obtain ⟨o,h1,h2⟩:=vi (rd:=yy N l) l (fun k hk=>by
  obtain ⟨e1,e2⟩:=TB l hk
  simp only [yy,List.length_map,Int.toNat_natCast,e1,e2,bS (show k < 9223372036854775807 by omega),aX hk,aK hk,Bool.and_self,cond_true]
  by_cases hz:l[k]=0
  ·simp [hz]
  ·simp [hz,Bool.cond_eq_ite]) (by simp only [yy,List.length_map,bN,cond_false]) N (by unfold hH at hN; omega)
 rw [Mp,h1,Option.bind_some]
 rcases o with o | o
 ·simpa using h2
 ·simpa using h2
theorem EG {N:Nat} (hN:hH N) (l:List Int) (hl:l.length≤9223372036854775806):Rf N l=some (bt l):=by
 obtain ⟨o,h1,h2⟩:=vi (rd:=yG N l) l (fun k hk=>by
  obtain ⟨e1,e2⟩:=IR l hk
  simp only [yG,List.length_map,Int.toNat_natCast,e1,e2,bS (show k < 9223372036854775807 by omega),aX hk,aK hk,Bool.and_self,cond_true]
  by_cases hz:l[k]=0
  ·simp [hz]
  ·simp [hz,Bool.cond_eq_ite]) (by simp only [yG,List.length_map,bN,cond_false]) N (by unfold hH at hN; omega)
 rw [Nz,h1,Option.bind_some]
 rcases o with o | o
 ·simpa using h2
 ·simpa using h2
theorem AB (N:Nat) (b:Bool) (e:Int):N9 N (b,e)=some (if b then e else 0):=by
 rw [Mq]; cases b <;> rfl
theorem Dp (N:Nat) (n lo hi:Int):Mr N (n,lo,hi)=some (gV n lo hi):=by
 rw [Ms]
 simp only [AB]
 unfold gV
 by_cases h1:n < lo
 ·simp [h1]
 ·by_cases h2:n > hi <;> simp [h1,h2]
theorem Jq (N:Nat) (n lo hi:Int):Qu N (n,lo,hi)=some (gV n lo hi):=by
 rw [NB]
 unfold gV
 by_cases h1:n < lo
 ·simp [h1]
 ·by_cases h2:n > hi <;> simp [h1,h2]
section
variable {N:Nat} (hN:hH N)
include hN
theorem Jr (l:List Ld):Q6 N l=some (bO l):=by
 rw [MW]
 unfold bO
 by_cases h:l.length > 64
 ·have d:decide ((((List.map cq l).length:Nat):Int) > 64)=true:=by simp; omega
  rw [d,if_pos h]; rfl
 ·have d:decide ((((List.map cq l).length:Nat):Int) > 64)=false:=by simp; omega
  rw [d,if_neg h]
  have key:=si (rd:=yB N l) (l.map nP) (fun k hk=>by
   rw [List.length_map] at hk
   obtain ⟨e1,e2⟩:=Qw l hk
   have ex:∀ x y z:Int,(bif (allFit (ah.fits Ka) [(AV.int .i64 x),(AV.int .i64 y),(AV.int .i64 z)]) then some (List.map d29 [(AV.int .i64 x),(AV.int .i64 y),(AV.int .i64 z)]) else none:Option (List Int))=some [x,y,z]:=fun x y z=>rfl
   have ew:(if (!iy l[k].1)=true then (8:Int) else 0)=if iy l[k].1=true then 0 else 8:=by cases iy l[k].1 <;> rfl
   simp only [yB,List.length_map,Int.toNat_natCast,e1,e2,bS (show k < 9223372036854775807 by omega),aX hk,aK hk,Bool.and_self,cond_true,Ha hN,Option.bind_some,beq_self_eq_true,Bool.and_true,AB,Dp,ew,ex,xm hN _ (show [if iy l[k].1=true then (0:Int) else 8,gV l[k].2.1 (-1000000) 1000000,gV l[k].2.2 (-10000) 10000].length≤9223372036854775806 by simp),List.getElem_map]
   show (bif nP l[k] != 0 then _ else _)=_
   by_cases hz:nP l[k]=0
   ·have:(nP l[k] != 0)=false:=by simp [hz]
    rw [this,if_pos hz]; rfl
   ·rw [Cb hz,if_neg hz]; rfl) (by simp only [yB,List.length_map,bN,cond_false]) N (by rw [List.length_map]; unfold hH at hN; omega)
  rw [key]
  by_cases hz:bt (l.map nP)=0
  ·simp [hz]
  ·simp [hz]
theorem Dq (l:List Ld):Rg N l=some (bO l):=by
 rw [NE]
 unfold bO
 by_cases h:l.length > 64
 ·have d:decide ((((List.map iS l).length:Nat):Int) > 64)=true:=by simp; omega
  rw [d,if_pos h]; rfl
 ·have d:decide ((((List.map iS l).length:Nat):Int) > 64)=false:=by simp; omega
  rw [d,if_neg h]
  have key:=si (rd:=yH N l) (l.map nP) (fun k hk=>by
   rw [List.length_map] at hk
   obtain ⟨e1,e2⟩:=NI l hk
   have ex:∀ x y:Int,(bif (allFit (ah.fits p3) [(AV.int .i64 x),(AV.int .i64 y)]) then some (List.map d3 [(AV.int .i64 x),(AV.int .i64 y)]) else none:Option (List Int))=some [x,y]:=fun x y=>rfl
   simp only [yH,List.length_map,Int.toNat_natCast,e1,e2,bS (show k < 9223372036854775807 by omega),aX hk,aK hk,Bool.and_self,cond_true,G9 hN,Option.bind_some,beq_self_eq_true,Bool.and_true,Jq,ex,EG hN _ (show [gV l[k].2.1 (-1000000) 1000000,gV l[k].2.2 (-10000) 10000].length≤9223372036854775806 by simp),List.getElem_map]
   unfold nP
   cases hn:iy l[k].1 with
   | false=>rfl
   | true=>
    have e0:bt [if true=true then (0:Int) else 8,gV l[k].2.1 (-1000000) 1000000,gV l[k].2.2 (-10000) 10000]=bt [gV l[k].2.1 (-1000000) 1000000,gV l[k].2.2 (-10000) 10000]:=rfl
    rw [e0]
    by_cases hz:bt [gV l[k].2.1 (-1000000) 1000000,gV l[k].2.2 (-10000) 10000]=0
    ·rw [hz]; rfl
    ·simp only [Bool.not_true,cond_false,Cb hz,cond_true,if_neg hz]) (by simp only [yH,List.length_map,bN,cond_false]) N (by rw [List.length_map]; unfold hH at hN; omega)
  rw [key]
  by_cases hz:bt (l.map nP)=0
  ·simp [hz]
  ·simp [hz]
omit hN in
theorem vv {l:List Ld} (h:bO l=0):l.length≤64∧∀ x∈l,iy x.1=true∧(-1000000≤x.2.1∧x.2.1≤1000000)∧(-10000≤x.2.2∧x.2.2≤10000):=by
 unfold bO at h
 split at h
 ·cases h
 ·refine ⟨by omega,fun x hx=>?_⟩
  have h1:=gW.1 h (nP x) (List.mem_map_of_mem hx)
  unfold nP at h1
  have h2:=gW.1 h1
  have a:=h2 _ (List.mem_cons_self ..)
  have b:=h2 (gV x.2.1 (-1000000) 1000000) (by simp)
  have c:=h2 (gV x.2.2 (-10000) 10000) (by simp)
  unfold gV at b c
  refine ⟨?_,?_,?_⟩
  ·cases hn:iy x.1 with
   | true=>rfl
   | false=>rw [hn] at a; cases a
  ·split at b
   ·cases b
   ·omega
  ·split at c
   ·cases c
   ·omega
omit hN in
theorem qG {a b:Int} (ha:-1000000≤a∧a≤1000000) (hb:-10000≤b∧b≤10000):-10000000000≤a * b∧a * b≤10000000000:=by
 have h1:(1000000 - a) * (10000 - b)≥0:=Int.mul_nonneg (by omega) (by omega)
 have h2:(1000000+a) * (10000+b)≥0:=Int.mul_nonneg (by omega) (by omega)
 have h3:(1000000 - a) * (10000+b)≥0:=Int.mul_nonneg (by omega) (by omega)
 have h4:(1000000+a) * (10000 - b)≥0:=Int.mul_nonneg (by omega) (by omega)
 have e1:(1000000 - a) * (10000 - b)=10000000000 - 1000000 * b - 10000 * a+a * b:=by rw [Int.sub_mul,Int.mul_sub,Int.mul_sub]; omega
 have e2:(1000000+a) * (10000+b)=10000000000+1000000 * b+10000 * a+a * b:=by rw [Int.add_mul,Int.mul_add,Int.mul_add]; omega
 have e3:(1000000 - a) * (10000+b)=10000000000+1000000 * b - 10000 * a - a * b:=by rw [Int.sub_mul,Int.mul_add,Int.mul_add]; omega
 have e4:(1000000+a) * (10000 - b)=10000000000 - 1000000 * b+10000 * a - a * b:=by rw [Int.add_mul,Int.mul_sub,Int.mul_sub]; omega
 omega
omit hN in
theorem Hb:∀ {l:List Ld},(∀ x∈l,iy x.1=true∧(-1000000≤x.2.1∧x.2.1≤1000000)∧(-10000≤x.2.2∧x.2.2≤10000))→(-1000000 * (l.length:Int)≤fS l∧fS l≤1000000 * (l.length:Int))∧(-10000000000 * (l.length:Int)≤fT l∧fT l≤10000000000 * (l.length:Int))
 | [],_=>by simp [fS,fT]
 | x :: l,h=>by
  obtain ⟨⟨a1,a2⟩,a3,a4⟩:=Hb (l:=l) (fun y hy=>h y (by simp [hy]))
  obtain ⟨_,b,c⟩:=h x (by simp)
  have d:=qG b c
  have e1:fS (x :: l)=x.2.1+fS l:=rfl
  have e2:fT (x :: l)=x.2.1 * x.2.2+fT l:=rfl
  rw [e1,e2,List.length_cons]
  omega
omit hN in
theorem oh {l:List Ld} {k:Nat} (hk:k < l.length):fS (l.take (k+1))=fS (l.take k)+l[k].2.1:=by
 unfold fS; rw [List.take_add_one,List.getElem?_eq_getElem hk,List.map_append,List.sum_append]; simp
omit hN in
theorem ol {l:List Ld} {k:Nat} (hk:k < l.length):fT (l.take (k+1))=fT (l.take k)+l[k].2.1 * l[k].2.2:=by
 unfold fT; rw [List.take_add_one,List.getElem?_eq_getElem hk,List.map_append,List.sum_append]; simp
omit hN in
theorem om {l:List Ld} (h:bO l=0) (k:Nat):(-64000000≤fS (l.take k)∧fS (l.take k)≤64000000)∧(-640000000000≤fT (l.take k)∧fT (l.take k)≤640000000000):=by
 obtain ⟨h1,h2⟩:=vv h
 have:=Hb (l:=l.take k) (fun x hx=>h2 x (List.mem_of_mem_take hx))
 have hl:(l.take k).length≤64:=by rw [List.length_take]; omega
 omega
theorem Js (l:List Ld) (h:bO l=0):a6 (qB N l) N (0,0,0)=some (fS l,fT l):=by
 obtain ⟨h1,h2⟩:=vv h
 exact cS (rd:=qB N l) l.length (fun k=>(fS (l.take k),fT (l.take k),(k:Int))) (fS l,fT l) (fun k hk=>by
  obtain ⟨e1,e2⟩:=Qw l hk
  have b1:=om h k
  have b2:=om h (k+1)
  rw [oh hk,ol hk] at b2
  obtain ⟨_,c1,c2⟩:=h2 l[k] (List.getElem_mem hk)
  have d:=qG c1 c2
  simp only [qB,List.length_map,Int.toNat_natCast,e1,e2,bS (show k < 9223372036854775807 by omega),aX hk,aK hk,Bool.and_self,cond_true,oh hk,ol hk]
  rw [pw (x:=fS (l.take k)+l[k].2.1) (by omega),pw (x:=l[k].2.1 * l[k].2.2) (by omega),pw (x:=fT (l.take k)+l[k].2.1 * l[k].2.2) (by omega)]) (by
  simp only [qB,List.length_map,bN,cond_false,List.take_length]) N 0 (Nat.zero_le _) (by unfold hH at hN; omega)
theorem Jt (l:List Ld) (h:bO l=0):a6 (vu N l) N (0,0,0)=some (fS l,fT l):=by
 obtain ⟨h1,h2⟩:=vv h
 exact cS (rd:=vu N l) l.length (fun k=>(fS (l.take k),fT (l.take k),(k:Int))) (fS l,fT l) (fun k hk=>by
  obtain ⟨e1,e2⟩:=NI l hk
  have b1:=om h k
  have b2:=om h (k+1)
  rw [oh hk,ol hk] at b2
  obtain ⟨_,c1,c2⟩:=h2 l[k] (List.getElem_mem hk)
  have d:=qG c1 c2
  simp only [vu,List.length_map,Int.toNat_natCast,e1,e2,bS (show k < 9223372036854775807 by omega),aX hk,aK hk,Bool.and_self,cond_true,oh hk,ol hk]
  rw [pw (x:=fS (l.take k)+l[k].2.1) (by omega),pw (x:=l[k].2.1 * l[k].2.2) (by omega),pw (x:=fT (l.take k)+l[k].2.1 * l[k].2.2) (by omega)]) (by
  simp only [vu,List.length_map,bN,cond_false,List.take_length]) N 0 (Nat.zero_le _) (by unfold hH at hN; omega)
theorem yI (l:List Ld):Oi N l=some (if bO l=0 then (fS l,fT l,0) else (0,0,bO l)):=by
 rw [MX]
 simp only [Ew,Ex,Bool.and_true,cond_true,Option.bind_some,Jr hN]
 by_cases h:bO l=0
 ·have:(bO l != 0)=false:=by simp [h]
  rw [this,if_pos h,Js hN l h]; rfl
 ·rw [Cb h,if_neg h]; rfl
theorem Dr (l:List Ld) (h:bO l=0):On N l=some (fS l,fT l):=by
 rw [NF,Jt hN l h]; rfl
end
end Go.Proofs.Ytegoimldbgdeiaa
namespace Go.Proofs.Ytegoimldbgdeiaa
open Go Go.Am
set_option maxRecDepth 100000
def sq (P a:Int):Int:=Int.tdiv (a - 1 - P) a
def vw (D:Int):Int:=if -D > D then -D else D
def dX (D P a:Int):Int:=if P < 0 then (if sq P a > vw D then sq P a else vw D) else vw D
def gn (n D:Int):Int:=if Int.tmod (n - D) 2=0 then n else n+1
def Cr (M P a b:Int):(Int × Int) × Int:=
 if Int.tmod M (a * b)≠0 then ((0,0),23) else
  if gn (dX (M / (a * b)) P a) (M / (a * b)) > 10000 then ((0,0),5) else
   ((Int.tdiv (gn (dX (M / (a * b)) P a) (M / (a * b))+M / (a * b)) 2,Int.tdiv (gn (dX (M / (a * b)) P a) (M / (a * b)) - M / (a * b)) 2),0)
theorem rG {P a:Int} (ha:1≤a) (hP:P < 0):0≤sq P a∧sq P a≤a - 1 - P∧∀ s:Int,0≤P+a * s↔sq P a≤s:=by
 unfold sq
 have e:Int.tdiv (a - 1 - P) a=(a - 1 - P) / a:=Int.tdiv_eq_ediv_of_nonneg (by omega)
 rw [e]
 have h1:=Int.mul_ediv_add_emod (a - 1 - P) a
 have h2:=Int.emod_nonneg (a - 1 - P) (by omega:a≠0)
 have h3:=Int.emod_lt_of_pos (a - 1 - P) (by omega:0 < a)
 generalize (a - 1 - P) / a=c at *
 generalize (a - 1 - P) % a=r at *
 have hc:0≤c:=by
  by_cases h:0≤c
  ·exact h
  ·have:a * c≤a * (-1):=Int.mul_le_mul_of_nonneg_left (by omega) (by omega)
   omega
 refine ⟨hc,?_,fun s=>⟨fun h=>?_,fun h=>?_⟩⟩
 ·have:1 * c≤a * c:=Int.mul_le_mul_of_nonneg_right ha hc
  omega
 ·by_cases h':c≤s
  ·exact h'
  ·have:a * s≤a * (c - 1):=Int.mul_le_mul_of_nonneg_left (by omega) (by omega)
   rw [Int.mul_sub] at this
   omega
 ·have:a * c≤a * s:=Int.mul_le_mul_of_nonneg_left h (by omega)
  omega
theorem Hc {D P a:Int} (ha:1≤a) (s:Int) (hs:0≤s):(D≤s∧-D≤s∧Int.tmod (s - D) 2=0∧0≤P+a * s)↔(gn (dX D P a) D≤s∧Int.tmod (s - D) 2=0):=by
 have key:(D≤s∧-D≤s∧0≤P+a * s)↔dX D P a≤s:=by
  unfold dX vw
  by_cases hP:P < 0
  ·rw [if_pos hP]
   have:=(rG ha hP).2.2 s
   rw [this]
   split <;> split <;> omega
  ·rw [if_neg hP]
   have:0≤a * s:=Int.mul_nonneg (by omega) hs
   split <;> omega
 constructor
 ·rintro ⟨h1,h2,h3,h4⟩
  have h5:=key.1 ⟨h1,h2,h4⟩
  refine ⟨?_,h3⟩
  unfold gn
  split
  ·exact h5
  ·rename_i h6
   have:dX D P a≠s:=fun e=>h6 (by rw [e]; exact h3)
   omega
 ·rintro ⟨h1,h2⟩
  have h5:dX D P a≤s:=by
   unfold gn at h1
   split at h1 <;> omega
  obtain ⟨a1,a2,a3⟩:=key.2 h5
  exact ⟨a1,a2,h2,a3⟩
theorem Hd (x:Int):Int.tmod x 2=0∨Int.tmod x 2=1∨Int.tmod x 2=-1:=by
 have h1:=Int.tmod_lt_of_pos x (by omega:(0:Int) < 2)
 have h2:-2 < Int.tmod x 2:=Int.lt_tmod_of_pos x (by omega)
 omega
theorem Ju (n D:Int):Int.tmod (gn n D - D) 2=0:=by
 unfold gn
 split
 ·assumption
 ·rename_i h
  have h1:=Int.mul_tdiv_add_tmod (n - D) 2
  rcases Hd (n - D) with h2 | h2 | h2
  ·exact absurd h2 h
  ·have e:n+1 - D=2 * (Int.tdiv (n - D) 2+1):=by omega
   rw [e,Int.mul_tmod_right]
  ·have e:n+1 - D=2 * (Int.tdiv (n - D) 2):=by omega
   rw [e,Int.mul_tmod_right]
theorem Ds (n D:Int):n≤gn n D∧gn n D≤n+1:=by
 unfold gn; split <;> omega
theorem He {D P a:Int}:0≤dX D P a:=by
 unfold dX vw
 by_cases hP:P < 0
 ·rw [if_pos hP]; split <;> split <;> omega
 ·rw [if_neg hP]; split <;> omega
structure KD (M P a b:Int):Prop where
 m:-640000000000≤M∧M≤640000000000
 p:-64000000≤P∧P≤64000000
 a:1≤a∧a≤1000000
 b:1≤b∧b≤10000
theorem KD.L {M P a b:Int} (h:KD M P a b):1≤a * b∧a * b≤10000000000:=by
 have h1:=qG (a:=a) (b:=b) ⟨by have:=h.a; omega,h.a.2⟩ ⟨by have:=h.b; omega,h.b.2⟩
 have h2:1 * 1≤a * b:=Int.mul_le_mul h.a.1 h.b.1 (by omega) (by have:=h.a; omega)
 omega
theorem Cs {M L:Int} (hL:1≤L) (h:Int.tmod M L=0):M=L * (M / L)∧Int.tdiv M L=M / L∧Int.tdiv (-M) L=-(M / L):=by
 obtain ⟨q,hq⟩:=Int.dvd_of_tmod_eq_zero h
 subst hq
 have cr:L≠0:=by omega
 rw [Int.mul_ediv_cancel_left q cr]
 refine ⟨rfl,Int.mul_tdiv_cancel_left q cr,?_⟩
 rw [show -(L * q)=L * (-q) by rw [Int.mul_neg]]
 exact Int.mul_tdiv_cancel_left (-q) cr
theorem KD.D {M P a b:Int} (h:KD M P a b) (hd:Int.tmod M (a * b)=0):-640000000000≤M / (a * b)∧M / (a * b)≤640000000000:=by
 obtain ⟨h1,h2⟩:=h.L
 obtain ⟨e,_,_⟩:=Cs h1 hd
 have m:=h.m
 generalize M / (a * b)=D at *
 generalize a * b=L at *
 constructor
 ·by_cases hh:D < -640000000000
  ·have:L * D≤1 * D:=by
    have:=Int.mul_le_mul_of_nonneg_right (a:=1) (b:=L) (c:=-D) h1 (by omega)
    rw [Int.mul_neg,Int.mul_neg] at this; omega
   omega
  ·omega
 ·by_cases hh:D > 640000000000
  ·have:=Int.mul_le_mul_of_nonneg_right (a:=1) (b:=L) (c:=D) h1 (by omega)
   omega
  ·omega
theorem KD.n {M P a b:Int} (h:KD M P a b) (hd:Int.tmod M (a * b)=0):0≤dX (M / (a * b)) P a∧dX (M / (a * b)) P a≤640000000000:=by
 refine ⟨He,?_⟩
 have h1:=h.D hd
 have h2:=h.a
 have h3:=h.p
 unfold dX vw
 by_cases hP:P < 0
 ·obtain ⟨n1,n2,_⟩:=rG h2.1 hP
  rw [if_pos hP]
  split <;> split <;> omega
 ·rw [if_neg hP]
  split <;> omega
section
variable {N:Nat} (hN:hH N)
include hN
theorem Dt (l:List Ld) (a b:Int):P7 N (l,a,b)=some (if bt [bO l,gV a 1 1000000,gV b 1 10000]=0 then Cr (fT l) (fS l) a b else ((0,0),bt [bO l,gV a 1 1000000,gV b 1 10000])):=by
 have ex:∀ x y z:Int,(bif (allFit (ah.fits Ka) [(AV.int .i64 x),(AV.int .i64 y),(AV.int .i64 z)]) then some (List.map d29 [(AV.int .i64 x),(AV.int .i64 y),(AV.int .i64 z)]) else none:Option (List Int))=some [x,y,z]:=fun x y z=>rfl
 rw [MZ]
 simp only [Ew,Ex,Bool.and_true,cond_true,Option.bind_some,yI hN,Dp,ex,xm hN _ (show [(if bO l=0 then (fS l,fT l,(0:Int)) else (0,0,bO l)).2.2,gV a 1 1000000,gV b 1 10000].length≤9223372036854775806 by simp)]
 have e0:(if bO l=0 then (fS l,fT l,(0:Int)) else (0,0,bO l)).2.2=bO l:=by
  by_cases h:bO l=0
  ·rw [if_pos h,h]
  ·rw [if_neg h]
 rw [e0]
 by_cases hz:bt [bO l,gV a 1 1000000,gV b 1 10000]=0
 ·have hf:(bt [bO l,gV a 1 1000000,gV b 1 10000] != 0)=false:=by simp [hz]
  have g1:bO l=0:=gW.1 hz _ (by simp)
  have g2:gV a 1 1000000=0:=gW.1 hz _ (by simp)
  have g3:gV b 1 10000=0:=gW.1 hz _ (by simp)
  have ha:1≤a∧a≤1000000:=by unfold gV at g2; split at g2 <;> omega
  have hb:1≤b∧b≤10000:=by unfold gV at g3; split at g3 <;> omega
  have tk:=om g1 l.length
  rw [List.take_length] at tk
  have ok:KD (fT l) (fS l) a b:=⟨tk.2,tk.1,ha,hb⟩
  rw [hf,if_pos hz,if_pos g1]
  simp only [cond_false]
  generalize fT l=M at *
  generalize fS l=P at *
  have hL:=ok.L
  have wL:IntKind.wrap .i64 (a * b)=a * b:=pw (by omega)
  rw [wL]
  have nz:decide (a * b=0)=false:=by simp; omega
  have na:decide (a=0)=false:=by simp; omega
  have hm:=ok.m
  have hp:=ok.p
  unfold Cr
  rw [nz]
  simp only [Bool.not_false,cond_true]
  by_cases hd:Int.tmod M (a * b)=0
  ·have q:(Int.tmod M (a * b) != 0)=false:=by simp [hd]
   rw [q,if_neg (show ¬ (Int.tmod M (a * b)≠0) from fun h=>h hd)]
   simp only [cond_false]
   obtain ⟨d1,d2,d3⟩:=Cs hL.1 hd
   have hD:=ok.D hd
   have hn:=ok.n hd
   have w1:IntKind.wrap .i64 (0 - M)=-M:=by rw [pw (by omega)]; omega
   rw [w1,d3]
   generalize M / (a * b)=D at *
   have w2:IntKind.wrap .i64 (-D)=-D:=pw (by omega)
   have w3:IntKind.wrap .i64 (0 - -D)=D:=by rw [pw (by omega)]; omega
   have TC:(if D > -D then D else -D)=vw D:=by unfold vw; split <;> split <;> omega
   have Xs:IntKind.wrap .i64 (a - 1)=a - 1:=pw (by omega)
   have kD:IntKind.wrap .i64 (a - 1 - P)=a - 1 - P:=pw (by omega)
   rw [w2,w3,Xs,kD,na,TC]
   simp only [Bool.not_false,cond_true]
   have e1:(bif (decide (P < 0)) then (some (if (IntKind.wrap .i64 (Int.tdiv (a - 1 - P) a)) > vw D then (IntKind.wrap .i64 (Int.tdiv (a - 1 - P) a)) else vw D)) else (some (vw D)):Option Int)=some (dX D P a):=by
    unfold dX
    by_cases hP:P < 0
    ·obtain ⟨n1,n2,_⟩:=rG ha.1 hP
     have:IntKind.wrap .i64 (Int.tdiv (a - 1 - P) a)=sq P a:=pw (by unfold sq at n1 n2; omega)
     simp only [hP,decide_true,cond_true,this,if_true]
    ·simp only [hP,decide_false,cond_false,if_false]
   rw [e1]
   simp only [Option.bind_some]
   generalize wv:dX D P a=n at *
   have w4:IntKind.wrap .i64 (n - -D)=n+D:=by rw [pw (by omega)]; omega
   have w5:IntKind.wrap .i64 (n+1)=n+1:=pw (by omega)
   have et:Int.tmod (n+D) 2=0↔Int.tmod (n - D) 2=0:=⟨fun h=>Int.tmod_eq_zero_of_dvd (by have:=Int.dvd_of_tmod_eq_zero h; omega),fun h=>Int.tmod_eq_zero_of_dvd (by have:=Int.dvd_of_tmod_eq_zero h; omega)⟩
   have e2:(bif (Int.tmod (n+D) 2 != 0) then (some (n+1)) else (some n):Option Int)=some (gn n D):=by
    unfold gn
    by_cases h:Int.tmod (n - D) 2=0
    ·have:(Int.tmod (n+D) 2 != 0)=false:=by simp [et.2 h]
     rw [this,if_pos h]; rfl
    ·have:(Int.tmod (n+D) 2 != 0)=true:=Cb fun e=>h (et.1 e)
     rw [this,if_neg h]; rfl
   rw [w4,w5,e2]
   simp only [Option.bind_some]
   have eb:=Ds n D
   have w6:IntKind.wrap .i64 (gn n D - -D)=gn n D+D:=by rw [pw (by omega)]; omega
   have w7:IntKind.wrap .i64 (gn n D+-D)=gn n D - D:=by rw [pw (by omega)]; omega
   have t1:∀ x:Int,-9000000000000≤x∧x≤9000000000000→IntKind.wrap .i64 (Int.tdiv x 2)=Int.tdiv x 2:=fun x hx=>by
    have h1:=Int.mul_tdiv_add_tmod x 2
    have h2:=Hd x
    exact pw (by omega)
   rw [w6,w7,t1 _ (by omega),t1 _ (by omega)]
   by_cases hg:gn n D > 10000
   ·simp only [hg,decide_true,cond_true,if_true]
   ·simp only [hg,decide_false,cond_false,if_false]
  ·rw [Cb hd,if_pos hd]; rfl
 ·rw [Cb hz,if_neg hz]; rfl
theorem Jv (l:List Ld) (a b:Int) (g1:bO l=0) (ha:1≤a∧a≤1000000) (hb:1≤b∧b≤10000):Qv N (l,a,b)=some (Cr (fT l) (fS l) a b):=by
 rw [NH]
 simp only [Nu,Nv,Bool.and_true,cond_true,Option.bind_some,Dr hN l g1]
 have tk:=om g1 l.length
 rw [List.take_length] at tk
 have ok:KD (fT l) (fS l) a b:=⟨tk.2,tk.1,ha,hb⟩
 generalize fT l=M at *
 generalize fS l=P at *
 have hL:=ok.L
 have wL:IntKind.wrap .i64 (a * b)=a * b:=pw (by omega)
 have nz:decide (a * b=0)=false:=by simp; omega
 have hm:=ok.m
 have hp:=ok.p
 unfold Cr
 rw [wL,nz]
 simp only [Bool.not_false,cond_true]
 by_cases hd:Int.tmod M (a * b)=0
 ·have q:(Int.tmod M (a * b) != 0)=false:=by simp [hd]
  rw [q,if_neg (show ¬ (Int.tmod M (a * b)≠0) from fun h=>h hd)]
  simp only [cond_false]
  obtain ⟨d1,d2,d3⟩:=Cs hL.1 hd
  have hD:=ok.D hd
  have hn:=ok.n hd
  have eb:=Ds (dX (M / (a * b)) P a) (M / (a * b))
  have ee:=Ju (dX (M / (a * b)) P a) (M / (a * b))
  have sp:=fun s hs=>Hc (D:=M / (a * b)) (P:=P) ha.1 s hs
  have rd:∀ k:Nat,k≤10000→kO N a b (P,M) ((k:Int),0,0)=if gn (dX (M / (a * b)) P a) (M / (a * b))≤k∧Int.tmod (k - M / (a * b)) 2=0 then some (.inr (.inl (0,Int.tdiv (k+M / (a * b)) 2,Int.tdiv (k - M / (a * b)) 2))) else some (.inl (((k+1:Nat):Int),0,0)):=fun k hk=>by
   have sk:=sp (k:Int) (by omega)
   have Rd:decide ((k:Int)≤10000)=true:=by simp; omega
   have XS:-9000000000000≤a * (k:Int)∧a * (k:Int)≤9000000000000:=by
    have:=qG (a:=a) (b:=(k:Int)) ⟨by omega,ha.2⟩ ⟨by omega,by omega⟩
    omega
   simp only [kO,wL,d2,Rd,cond_true,bS (show k < 9223372036854775807 by omega)]
   generalize M / (a * b)=D at *
   have w1:IntKind.wrap .i64 D=D:=pw (by omega)
   have w2:IntKind.wrap .i64 (0 - D)=-D:=by rw [pw (by omega)]; omega
   have w3:IntKind.wrap .i64 ((k:Int) - D)=k - D:=pw (by omega)
   have w4:IntKind.wrap .i64 ((k:Int)+D)=k+D:=pw (by omega)
   have w5:IntKind.wrap .i64 (a * (k:Int))=a * k:=pw (by omega)
   have w6:IntKind.wrap .i64 (P+a * (k:Int))=P+a * k:=pw (by omega)
   have t1:∀ x:Int,-9000000000000≤x∧x≤9000000000000→IntKind.wrap .i64 (Int.tdiv x 2)=Int.tdiv x 2:=fun x hx=>by
    have h1:=Int.mul_tdiv_add_tmod x 2
    have h2:=Hd x
    exact pw (by omega)
   rw [w1,w2,w3,w4,w5,w6,t1 _ (by omega),t1 _ (by omega)]
   have ec:(bif (decide ((k:Int)≥D)) then (bif (decide ((k:Int)≥-D)) then (bif (Int.tmod ((k:Int) - D) 2 == 0) then (some (decide (P+a * (k:Int)≥0))) else (some false)) else (some false)) else (some false):Option Bool)=some (decide (D≤(k:Int)∧-D≤(k:Int)∧Int.tmod ((k:Int) - D) 2=0∧0≤P+a * (k:Int))):=by
    by_cases c1:(k:Int)≥D
    ·by_cases c2:(k:Int)≥-D
     ·by_cases c3:Int.tmod ((k:Int) - D) 2=0
      ·simp [c1,c2,c3]
      ·rw [LX c3]; simp [c1,c2,c3]
     ·simp [c1,c2]
    ·simp [c1]
   rw [ec]
   simp only [Option.bind_some]
   by_cases hc:gn (dX D P a) D≤k∧Int.tmod (k - D) 2=0
   ·rw [if_pos hc,decide_eq_true (sk.2 hc)]; rfl
   ·rw [if_neg hc,decide_eq_false (fun h=>hc (sk.1 h))]; rfl
  generalize hE:gn (dX (M / (a * b)) P a) (M / (a * b))=e at *
  generalize M / (a * b)=D at *
  by_cases hg:e > 10000
  ·rw [if_pos hg]
   have key:=cS (rd:=kO N a b (P,M)) 10001 (fun k=>((k:Int),0,0)) (.inr (0,0)) (fun k hk=>by
    rw [rd k (by omega),if_neg (by omega)]) (by simp only [kO]; rfl) N 0 (Nat.zero_le _) (by unfold hH at hN; omega)
   have Cq:a6 (kO N a b (P,M)) N (0,0,0)=some (.inr (0,0)):=key
   rw [Cq]; rfl
  ·rw [if_neg hg]
   obtain ⟨m,rfl⟩:∃ m:Nat,e=(m:Int):=⟨e.toNat,by omega⟩
   have key:=cS (rd:=kO N a b (P,M)) m (fun k=>((k:Int),0,0)) (.inl (0,Int.tdiv (m+D) 2,Int.tdiv (m - D) 2)) (fun k hk=>by
    rw [rd k (by omega),if_neg (by omega)]) (by rw [rd m (by omega),if_pos ⟨Int.le_refl _,ee⟩]) N 0 (Nat.zero_le _) (by unfold hH at hN; omega)
   have Cq:a6 (kO N a b (P,M)) N (0,0,0)=some (.inl (0,Int.tdiv (m+D) 2,Int.tdiv (m - D) 2)):=key
   rw [Cq]; rfl
 ·rw [Cb hd,if_pos hd]; rfl
end
end Go.Proofs.Ytegoimldbgdeiaa
