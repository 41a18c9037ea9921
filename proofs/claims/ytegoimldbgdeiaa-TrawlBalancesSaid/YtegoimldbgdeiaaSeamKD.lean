/- Plain laws: names. -/
import Derived.Test.YtegoimldbgdeiaaTrwD
import Derived.Test.YtegoimldbgdeiaaSeamKB
set_option linter.all false
namespace Go.Proofs.Ytegoimldbgdeiaa
open Go Go.Am
set_option maxRecDepth 100000
def nS (first:Bool) (c:Int):Bool:=
 !(decide (c≥65)&&decide (c≤90) || decide (c≥97)&&decide (c≤122))&&(first || (c != 95&&(decide (c < 48) || decide (c > 57))))
def iQ (first:Bool):List UInt8→Bool
 | []=>true
 | c :: l=>!nS first (c.toNat:Int)&&iQ false l
def AD (s:List UInt8):Bool:=decide (s.length≠0∧s.length≤24)
def hJ (s:List UInt8):Bool:=AD s&&iQ true s
theorem G7 (s:List UInt8):(((bif ((((s).length:Nat):Int) == 0) then (some true) else (some (decide ((((s).length:Nat):Int) > 24)))):Option Bool))=some (!AD s):=by
 unfold AD
 by_cases h0:s.length=0
 ·simp [h0]
 ·rw [It (by omega)]
  by_cases h1:s.length≤24
  ·have:decide (((s.length:Nat):Int) > 24)=false:=by simp; omega
   rw [this]; simp [h0,h1]
  ·have:decide (((s.length:Nat):Int) > 24)=true:=by simp; omega
   rw [this]; simp [h1]
theorem Ez (l:List UInt8):∀ (first:Bool),foldI (fun (b:Bool) (c:UInt8)=>if nS b (c.toNat:Int) then (.inr ():Bool ⊕ Unit) else .inl false) first l=if iQ first l then .inl (if l.isEmpty then first else false) else .inr ():=by
 induction l with
 | nil=>intro b; rfl
 | cons c l ih=>
  intro b
  simp only [foldI,iQ]
  by_cases h:nS b (c.toNat:Int)=true
  ·simp [h]
  ·have h':nS b (c.toNat:Int)=false:=by simpa using h
   simp only [h',Bool.false_eq_true,if_false,Sum.elim_inl,Bool.not_false,Bool.true_and,ih false]
   by_cases h2:iQ false l=true <;> simp [h2]
theorem G8 {N:Nat} (hN:hZ N) (s:List UInt8):Q7 N s=some (hJ s):=by
 rw [Nv,G7]
 simp only [Option.bind_some]
 unfold hJ
 cases tU:AD s with
 | false=>rfl
 | true=>
  have hl:=of_decide_eq_true (show decide (s.length≠0∧s.length≤24)=true from tU)
  simp only [Bool.not_true,cond_false,Bool.true_and]
  have key:=kf (rd:=vz N s) s (fun (b:Bool) k=>(k:Int)) (fun b (c:UInt8)=>if nS b (c.toNat:Int) then (.inr ():Bool ⊕ Unit) else .inl false) (fun _=>.inr ()) (fun _=>.inl false) (fun b k=>b=(k == 0))
   (fun b k hk hb=>by
    refine ⟨?_,fun s' h'=>?_⟩
    ·subst hb
     have e1:s.getD k 0=s[k]:=by simp [hk]
     have e2:((k:Int) == 0)=(k == 0):=by cases k <;> simp; omega
     unfold vz
     simp only [Int.toNat_natCast,aZ hk,aK hk,cond_true,bW (by omega:k < 9223372036854775807),e1,e2]
     unfold nS
     generalize ((s[k].toNat:Nat):Int)=c
     generalize decide (c≥97)=b1
     generalize decide (c≤122)=b2
     generalize decide (c≥65)=b3
     generalize decide (c≤90)=b4
     generalize (c != 95)=b5
     generalize decide (c < 48)=b6
     generalize decide (c > 57)=b7
     generalize (k == 0)=b0
     cases b0 <;> cases b1 <;> cases b2 <;> cases b3 <;> cases b4 <;> cases b5 <;> cases b6 <;> cases b7 <;> rfl
    ·split at h'
     ·cases h'
     ·cases h'; simp)
   (fun b _=>by
    unfold vz
    simp only [bP,cond_false]) N true 0 (Nat.zero_le _) (by unfold hZ at hN; omega) rfl
  have ND:a8 (V:=Int) (X:=Bool ⊕ Unit) (vz N s) N 0=_:=key
  simp only [ND,Option.bind_some,List.drop_zero,Ez]
  cases iQ true s <;> rfl
theorem AE {b:Bool} {c:Int} (h:128≤c):nS b c=true:=by
 unfold nS
 have h1:decide (c≤90)=false:=by simp; omega
 have h2:decide (c≤122)=false:=by simp; omega
 have h3:(c != 95)=true:=by simp; omega
 have h4:decide (c > 57)=true:=by simp; omega
 rw [h1,h2,h3,h4]
 cases b <;> simp
theorem G9 {N:Nat} (hN:hZ N) (s:List UInt8):Q3 N s=some (hJ s):=by
 rw [MU,G7]
 simp only [Option.bind_some]
 unfold hJ
 cases tU:AD s with
 | false=>rfl
 | true=>
  have hl:=of_decide_eq_true (show decide (s.length≠0∧s.length≤24)=true from tU)
  simp only [Bool.not_true,cond_false,Bool.true_and]
  have key:=kf (rd:=vx N) s (fun (p:Nat) k=>(s,(k:Int))) (fun p (c:UInt8)=>if nS (p == 0) (c.toNat:Int) then (.inr (p+(bO s p).2):Nat ⊕ Nat) else .inl (p+1)) (fun p=>.inl (s,(p:Int))) (fun p=>.inr (false,s,(p:Int))) (fun p k=>p=k)
   (fun p k hk hp=>by
    subst hp
    refine ⟨?_,fun s' h'=>?_⟩
    ·have e2:((p:Int) == 0)=(p == 0):=by cases p <;> simp; omega
     have e3:Nat.blt p s.length=true:=Nat.ble_eq_true_of_le hk
     obtain ⟨r1,r2⟩:=Is s p hk
     unfold vx
     simp only [Int.toNat_natCast,e3,cond_true,e2]
     have main:∀ (n:Nat) (c:Int),(((bif (decide (c≥65)) then (bif (decide (c≤90)) then (some (true,s,(((p+n):Nat):Int))) else (bif (decide (c≥97)) then (some ((decide (c≤122)),s,(((p+n):Nat):Int))) else (some (false,s,(((p+n):Nat):Int))))) else (bif (decide (c≥97)) then (some ((decide (c≤122)),s,(((p+n):Nat):Int))) else (some (false,s,(((p+n):Nat):Int))))):Option ((Bool × (List UInt8) × Int))).bind fun o3=>(((bif (!o3.1) then (bif (p == 0) then (some (true,o3.2.1,(((Int.toNat o3.2.2):Nat):Int))) else (bif (c != 95) then (bif (decide (c < 48)) then (some (true,o3.2.1,(((Int.toNat o3.2.2):Nat):Int))) else (some ((decide (c > 57)),o3.2.1,(((Int.toNat o3.2.2):Nat):Int)))) else (some (false,o3.2.1,(((Int.toNat o3.2.2):Nat):Int))))) else (some (false,o3.2.1,(((Int.toNat o3.2.2):Nat):Int)))):Option ((Bool × (List UInt8) × Int))).bind fun o4=>(bif o4.1 then (some (Sum.inr (Sum.inr (false,o4.2.1,(((Int.toNat o4.2.2):Nat):Int)))):Option (((List UInt8) × Int) ⊕ (((List UInt8) × Int) ⊕ (Bool × (List UInt8) × Int)))) else (some (Sum.inl (o4.2.1,(((Int.toNat o4.2.2):Nat):Int))))))) =
       some (bif nS (p == 0) c then Sum.inr (Sum.inr (false,s,((p+n:Nat):Int))) else Sum.inl (s,((p+n:Nat):Int))):=by
      intro n c
      unfold nS
      generalize decide (c≥97)=b1
      generalize decide (c≤122)=b2
      generalize decide (c≥65)=b3
      generalize decide (c≤90)=b4
      generalize (c != 95)=b5
      generalize decide (c < 48)=b6
      generalize decide (c > 57)=b7
      generalize (p == 0)=b0
      cases b0 <;> cases b1 <;> cases b2 <;> cases b3 <;> cases b4 <;> cases b5 <;> cases b6 <;> cases b7 <;> rfl
     rw [main]
     by_cases TB:s[p].toNat < 128
     ·rw [r1 TB]
      by_cases hb:nS (p == 0) (s[p].toNat:Int)=true
      ·simp [hb]
      ·have kF:nS (p == 0) (s[p].toNat:Int)=false:=by simpa using hb
       simp [kF]
     ·have h1:=AE (b:=p == 0) (c:=((bO s p).1:Int)) (by have:=r2 (by omega); omega)
      have h2:=AE (b:=p == 0) (c:=(s[p].toNat:Int)) (by omega)
      rw [h1,if_pos h2]
      rfl
    ·split at h'
     ·cases h'
     ·cases h'; rfl)
   (fun p hp=>by
    subst hp
    unfold vx
    have e3:Nat.blt s.length s.length=false:=by
     cases hb:Nat.blt s.length s.length with
     | false=>rfl
     | true=>have:=Nat.le_of_ble_eq_true hb; omega
    simp only [Int.toNat_natCast,e3,cond_false]) N 0 0 (Nat.zero_le _) (by unfold hZ at hN; omega) rfl
  have ND:a8 (V:=(List UInt8) × Int) (X:=((List UInt8) × Int) ⊕ (Bool × (List UInt8) × Int)) (vx N) N (s,((0:Nat):Int))=_:=key
  rw [ND]
  simp only [Option.bind_some,List.drop_zero]
  have gen:∀ (l:List UInt8) (p:Nat) (first:Bool),first=(p == 0)→Sum.elim (fun _=>true) (fun _=>false) (foldI (fun (p:Nat) (c:UInt8)=>if nS (p == 0) (c.toNat:Int) then (.inr (p+(bO s p).2):Nat ⊕ Nat) else .inl (p+1)) p l)=iQ first l:=by
   intro l
   induction l with
   | nil=>intro p first _; rfl
   | cons c l ih=>
    intro p first hf
    subst hf
    simp only [foldI,iQ]
    by_cases h:nS (p == 0) (c.toNat:Int)=true
    ·simp [h]
    ·have h':nS (p == 0) (c.toNat:Int)=false:=by simpa using h
     simp only [h',Bool.false_eq_true,if_false,Sum.elim_inl,Bool.not_false,Bool.true_and]
     exact ih (p+1) false (by simp)
  have g:=gen s 0 true rfl
  revert g
  cases foldI (fun (p:Nat) (c:UInt8)=>if nS (p == 0) (c.toNat:Int) then (.inr (p+(bO s p).2):Nat ⊕ Nat) else .inl (p+1)) 0 s with
  | inl p=>intro g; simp only [Sum.elim_inl] at g ⊢; rw [← g]
  | inr p=>intro g; simp only [Sum.elim_inr] at g ⊢; rw [← g]
end Go.Proofs.Ytegoimldbgdeiaa
namespace Go.Proofs.Ytegoimldbgdeiaa
open Go Go.Am
set_option maxRecDepth 100000
abbrev Ld:=(List UInt8) × Int × Int
def lK (x:Ld):Int:=cn [if hJ x.1 then 0 else 8,kB x.2.1 (-1000000) 1000000,kB x.2.2 (-10000) 10000]
def dy (l:List Ld):Int:=if l.length > 64 then 5 else cn (l.map lK)
def hU (l:List Ld):Int:=(l.map fun x=>x.2.1).sum
def gu (l:List Ld):Int:=(l.map fun x=>x.2.1 * x.2.2).sum
theorem NE (l:List Ld) {k:Nat} (hk:k < l.length):d27 (ak (List.map fC l) k)=l[k]∧ah.fits EO (ak (List.map fC l) k)=true:=by
 rw [gn fC l k hk]; exact ⟨rfl,rfl⟩
theorem Qp (l:List Ld) {k:Nat} (hk:k < l.length):d28 (ak (List.map bh l) k)=l[k]∧ah.fits tg (ak (List.map bh l) k)=true:=by
 rw [gn bh l k hk]; exact ⟨rfl,rfl⟩
theorem TC (l:List Int) {k:Nat} (hk:k < l.length):d29 (ak (List.map Kf l) k)=l[k]∧ah.fits Ke (ak (List.map Kf l) k)=true:=by
 rw [gn Kf l k hk]; exact ⟨rfl,rfl⟩
theorem xm {N:Nat} (hN:hZ N) (l:List Int) (hl:l.length≤9223372036854775806):PG N l=some (cn l):=by
 obtain ⟨o,h1,h2⟩:=vo (rd:=yA N l) l (fun k hk=>by
  obtain ⟨e1,e2⟩:=TC l hk
  simp only [yA,List.length_map,Int.toNat_natCast,e1,e2,bW (show k < 9223372036854775807 by omega),aZ hk,aK hk,Bool.and_self,cond_true]
  by_cases hz:l[k]=0
  ·simp [hz]
  ·simp [hz,Bool.cond_eq_ite]) (by simp only [yA,List.length_map,bP,cond_false]) N (by unfold hZ at hN; omega)
 rw [Mp,h1,Option.bind_some]
 rcases o with o | o
 ·simpa using h2
 ·simpa using h2
theorem EA {N:Nat} (hN:hZ N) (l:List Int) (hl:l.length≤9223372036854775806):Q8 N l=some (cn l):=by
 obtain ⟨o,h1,h2⟩:=vo (rd:=yI N l) l (fun k hk=>by
  obtain ⟨e1,e2⟩:=IW l hk
  simp only [yI,List.length_map,Int.toNat_natCast,e1,e2,bW (show k < 9223372036854775807 by omega),aZ hk,aK hk,Bool.and_self,cond_true]
  by_cases hz:l[k]=0
  ·simp [hz]
  ·simp [hz,Bool.cond_eq_ite]) (by simp only [yI,List.length_map,bP,cond_false]) N (by unfold hZ at hN; omega)
 rw [Nx,h1,Option.bind_some]
 rcases o with o | o
 ·simpa using h2
 ·simpa using h2
theorem AF (N:Nat) (b:Bool) (e:Int):N3 N (b,e)=some (if b then e else 0):=by
 rw [Mq]; cases b <;> rfl
theorem Dn (N:Nat) (n lo hi:Int):Mr N (n,lo,hi)=some (kB n lo hi):=by
 rw [Ms]
 simp only [AF]
 unfold kB
 by_cases h1:n < lo
 ·simp [h1]
 ·by_cases h2:n > hi <;> simp [h1,h2]
theorem Jv (N:Nat) (n lo hi:Int):Qo N (n,lo,hi)=some (kB n lo hi):=by
 rw [Nz]
 unfold kB
 by_cases h1:n < lo
 ·simp [h1]
 ·by_cases h2:n > hi <;> simp [h1,h2]
section
variable {N:Nat} (hN:hZ N)
include hN
theorem Jw (l:List Ld):Q4 N l=some (dy l):=by
 rw [MW]
 unfold dy
 by_cases h:l.length > 64
 ·have d:decide ((((List.map bh l).length:Nat):Int) > 64)=true:=by simp; omega
  rw [d,if_pos h]; rfl
 ·have d:decide ((((List.map bh l).length:Nat):Int) > 64)=false:=by simp; omega
  rw [d,if_neg h]
  have key:=sr (rd:=yD N l) (l.map lK) (fun k hk=>by
   rw [List.length_map] at hk
   obtain ⟨e1,e2⟩:=Qp l hk
   have ex:∀ x y z:Int,(bif (allFit (ah.fits Ke) [(AV.int .i64 x),(AV.int .i64 y),(AV.int .i64 z)]) then some (List.map d29 [(AV.int .i64 x),(AV.int .i64 y),(AV.int .i64 z)]) else none:Option (List Int))=some [x,y,z]:=fun x y z=>rfl
   have ew:(if (!hJ l[k].1)=true then (8:Int) else 0)=if hJ l[k].1=true then 0 else 8:=by cases hJ l[k].1 <;> rfl
   simp only [yD,List.length_map,Int.toNat_natCast,e1,e2,bW (show k < 9223372036854775807 by omega),aZ hk,aK hk,Bool.and_self,cond_true,G9 hN,Option.bind_some,beq_self_eq_true,Bool.and_true,AF,Dn,ew,ex,xm hN _ (show [if hJ l[k].1=true then (0:Int) else 8,kB l[k].2.1 (-1000000) 1000000,kB l[k].2.2 (-10000) 10000].length≤9223372036854775806 by simp),List.getElem_map]
   show (bif lK l[k] != 0 then _ else _)=_
   by_cases hz:lK l[k]=0
   ·have:(lK l[k] != 0)=false:=by simp [hz]
    rw [this,if_pos hz]; rfl
   ·rw [Ao hz,if_neg hz]; rfl) (by simp only [yD,List.length_map,bP,cond_false]) N (by rw [List.length_map]; unfold hZ at hN; omega)
  rw [key]
  by_cases hz:cn (l.map lK)=0
  ·simp [hz]
  ·simp [hz]
theorem Jx (l:List Ld):Q9 N l=some (dy l):=by
 rw [NB]
 unfold dy
 by_cases h:l.length > 64
 ·have d:decide ((((List.map fC l).length:Nat):Int) > 64)=true:=by simp; omega
  rw [d,if_pos h]; rfl
 ·have d:decide ((((List.map fC l).length:Nat):Int) > 64)=false:=by simp; omega
  rw [d,if_neg h]
  have key:=sr (rd:=yJ N l) (l.map lK) (fun k hk=>by
   rw [List.length_map] at hk
   obtain ⟨e1,e2⟩:=NE l hk
   have ex:∀ x y:Int,(bif (allFit (ah.fits p3) [(AV.int .i64 x),(AV.int .i64 y)]) then some (List.map d3 [(AV.int .i64 x),(AV.int .i64 y)]) else none:Option (List Int))=some [x,y]:=fun x y=>rfl
   simp only [yJ,List.length_map,Int.toNat_natCast,e1,e2,bW (show k < 9223372036854775807 by omega),aZ hk,aK hk,Bool.and_self,cond_true,G8 hN,Option.bind_some,beq_self_eq_true,Bool.and_true,Jv,ex,EA hN _ (show [kB l[k].2.1 (-1000000) 1000000,kB l[k].2.2 (-10000) 10000].length≤9223372036854775806 by simp),List.getElem_map]
   unfold lK
   cases hn:hJ l[k].1 with
   | false=>rfl
   | true=>
    have e0:cn [if true=true then (0:Int) else 8,kB l[k].2.1 (-1000000) 1000000,kB l[k].2.2 (-10000) 10000]=cn [kB l[k].2.1 (-1000000) 1000000,kB l[k].2.2 (-10000) 10000]:=rfl
    rw [e0]
    by_cases hz:cn [kB l[k].2.1 (-1000000) 1000000,kB l[k].2.2 (-10000) 10000]=0
    ·rw [hz]; rfl
    ·simp only [Bool.not_true,cond_false,Ao hz,cond_true,if_neg hz]) (by simp only [yJ,List.length_map,bP,cond_false]) N (by rw [List.length_map]; unfold hZ at hN; omega)
  rw [key]
  by_cases hz:cn (l.map lK)=0
  ·simp [hz]
  ·simp [hz]
omit hN in
theorem qG {l:List Ld} (h:dy l=0):l.length≤64∧∀ x∈l,hJ x.1=true∧(-1000000≤x.2.1∧x.2.1≤1000000)∧(-10000≤x.2.2∧x.2.2≤10000):=by
 unfold dy at h
 split at h
 ·cases h
 ·refine ⟨by omega,fun x hx=>?_⟩
  have h1:=dS.1 h (lK x) (List.mem_map_of_mem hx)
  unfold lK at h1
  have h2:=dS.1 h1
  have a:=h2 _ (List.mem_cons_self ..)
  have b:=h2 (kB x.2.1 (-1000000) 1000000) (by simp)
  have c:=h2 (kB x.2.2 (-10000) 10000) (by simp)
  unfold kB at b c
  refine ⟨?_,?_,?_⟩
  ·cases hn:hJ x.1 with
   | true=>rfl
   | false=>rw [hn] at a; cases a
  ·split at b
   ·cases b
   ·omega
  ·split at c
   ·cases c
   ·omega
omit hN in
theorem qH {a b:Int} (ha:-1000000≤a∧a≤1000000) (hb:-10000≤b∧b≤10000):-10000000000≤a * b∧a * b≤10000000000:=by
 have h1:(1000000 - a) * (10000 - b)≥0:=Int.mul_nonneg (by omega) (by omega)
 have h2:(1000000+a) * (10000+b)≥0:=Int.mul_nonneg (by omega) (by omega)
 have h3:(1000000 - a) * (10000+b)≥0:=Int.mul_nonneg (by omega) (by omega)
 have h4:(1000000+a) * (10000 - b)≥0:=Int.mul_nonneg (by omega) (by omega)
 have e1:(1000000 - a) * (10000 - b)=10000000000 - 1000000 * b - 10000 * a+a * b:=by rw [Int.sub_mul,Int.mul_sub,Int.mul_sub]; omega
 have e2:(1000000+a) * (10000+b)=10000000000+1000000 * b+10000 * a+a * b:=by rw [Int.add_mul,Int.mul_add,Int.mul_add]; omega
 have e3:(1000000 - a) * (10000+b)=10000000000+1000000 * b - 10000 * a - a * b:=by rw [Int.sub_mul,Int.mul_add,Int.mul_add]; omega
 have e4:(1000000+a) * (10000 - b)=10000000000 - 1000000 * b+10000 * a - a * b:=by rw [Int.add_mul,Int.mul_sub,Int.mul_sub]; omega
 omega
omit hN in
theorem Ha:∀ {l:List Ld},(∀ x∈l,hJ x.1=true∧(-1000000≤x.2.1∧x.2.1≤1000000)∧(-10000≤x.2.2∧x.2.2≤10000))→(-1000000 * (l.length:Int)≤hU l∧hU l≤1000000 * (l.length:Int))∧(-10000000000 * (l.length:Int)≤gu l∧gu l≤10000000000 * (l.length:Int))
 | [],_=>by simp [hU,gu]
 | x :: l,h=>by
  obtain ⟨⟨a1,a2⟩,a3,a4⟩:=Ha (l:=l) (fun y hy=>h y (by simp [hy]))
  obtain ⟨_,b,c⟩:=h x (by simp)
  have d:=qH b c
  have e1:hU (x :: l)=x.2.1+hU l:=rfl
  have e2:gu (x :: l)=x.2.1 * x.2.2+gu l:=rfl
  rw [e1,e2,List.length_cons]
  omega
omit hN in
theorem xn {l:List Ld} {k:Nat} (hk:k < l.length):hU (l.take (k+1))=hU (l.take k)+l[k].2.1:=by
 unfold hU; rw [List.take_add_one,List.getElem?_eq_getElem hk,List.map_append,List.sum_append]; simp
omit hN in
theorem xo {l:List Ld} {k:Nat} (hk:k < l.length):gu (l.take (k+1))=gu (l.take k)+l[k].2.1 * l[k].2.2:=by
 unfold gu; rw [List.take_add_one,List.getElem?_eq_getElem hk,List.map_append,List.sum_append]; simp
omit hN in
theorem tj {l:List Ld} (h:dy l=0) (k:Nat):(-64000000≤hU (l.take k)∧hU (l.take k)≤64000000)∧(-640000000000≤gu (l.take k)∧gu (l.take k)≤640000000000):=by
 obtain ⟨h1,h2⟩:=qG h
 have:=Ha (l:=l.take k) (fun x hx=>h2 x (List.mem_of_mem_take hx))
 have hl:(l.take k).length≤64:=by rw [List.length_take]; omega
 omega
theorem Jy (l:List Ld) (h:dy l=0):a8 (qB N l) N (0,0,0)=some (hU l,gu l):=by
 obtain ⟨h1,h2⟩:=qG h
 exact dR (rd:=qB N l) l.length (fun k=>(hU (l.take k),gu (l.take k),(k:Int))) (hU l,gu l) (fun k hk=>by
  obtain ⟨e1,e2⟩:=Qp l hk
  have b1:=tj h k
  have b2:=tj h (k+1)
  rw [xn hk,xo hk] at b2
  obtain ⟨_,c1,c2⟩:=h2 l[k] (List.getElem_mem hk)
  have d:=qH c1 c2
  simp only [qB,List.length_map,Int.toNat_natCast,e1,e2,bW (show k < 9223372036854775807 by omega),aZ hk,aK hk,Bool.and_self,cond_true,xn hk,xo hk]
  rw [mJ (x:=hU (l.take k)+l[k].2.1) (by omega),mJ (x:=l[k].2.1 * l[k].2.2) (by omega),mJ (x:=gu (l.take k)+l[k].2.1 * l[k].2.2) (by omega)]) (by
  simp only [qB,List.length_map,bP,cond_false,List.take_length]) N 0 (Nat.zero_le _) (by unfold hZ at hN; omega)
theorem Dp (l:List Ld):Od N l=some (if dy l=0 then (hU l,gu l,0) else (0,0,dy l)):=by
 rw [MX]
 simp only [GD,GF,Bool.and_true,cond_true,Option.bind_some,Jw hN]
 by_cases h:dy l=0
 ·have:(dy l != 0)=false:=by simp [h]
  rw [this,if_pos h,Jy hN l h]; rfl
 ·rw [Ao h,if_neg h]; rfl
end
end Go.Proofs.Ytegoimldbgdeiaa
namespace Go.Proofs.Ytegoimldbgdeiaa
open Go Go.Am
set_option maxRecDepth 100000
def qI (P a:Int):Int:=Int.tdiv (a - 1 - P) a
def nT (D:Int):Int:=if -D > D then -D else D
def cI (D P a:Int):Int:=if P < 0 then (if qI P a > nT D then qI P a else nT D) else nT D
def fa (n D:Int):Int:=if Int.tmod (n - D) 2=0 then n else n+1
def mD (M P a b:Int):(Int × Int) × Int:=
 if Int.tmod M (a * b)≠0 then ((0,0),23) else
  if fa (cI (M / (a * b)) P a) (M / (a * b)) > 10000 then ((0,0),5) else
   ((Int.tdiv (fa (cI (M / (a * b)) P a) (M / (a * b))+M / (a * b)) 2,Int.tdiv (fa (cI (M / (a * b)) P a) (M / (a * b)) - M / (a * b)) 2),0)
theorem oq {P a:Int} (ha:1≤a) (hP:P < 0):0≤qI P a∧qI P a≤a - 1 - P∧∀ s:Int,0≤P+a * s↔qI P a≤s:=by
 unfold qI
 have e:Int.tdiv (a - 1 - P) a=(a - 1 - P) / a:=Int.tdiv_eq_ediv_of_nonneg (by omega)
 rw [e]
 have h1:=Int.mul_ediv_add_emod (a - 1 - P) a
 have h2:=Int.emod_nonneg (a - 1 - P) (by omega:a≠0)
 have h3:=Int.emod_lt_of_pos (a - 1 - P) (by omega:0 < a)
 generalize (a - 1 - P) / a=c at *
 generalize (a - 1 - P) % a=r at *
 have hc:0≤c:=by
  by_cases h:0≤c
  ·exact h
  ·have:a * c≤a * (-1):=Int.mul_le_mul_of_nonneg_left (by omega) (by omega)
   omega
 refine ⟨hc,?_,fun s=>⟨fun h=>?_,fun h=>?_⟩⟩
 ·have:1 * c≤a * c:=Int.mul_le_mul_of_nonneg_right ha hc
  omega
 ·by_cases h':c≤s
  ·exact h'
  ·have:a * s≤a * (c - 1):=Int.mul_le_mul_of_nonneg_left (by omega) (by omega)
   rw [Int.mul_sub] at this
   omega
 ·have:a * c≤a * s:=Int.mul_le_mul_of_nonneg_left h (by omega)
  omega
theorem Hb {D P a:Int} (ha:1≤a) (s:Int) (hs:0≤s):(D≤s∧-D≤s∧Int.tmod (s - D) 2=0∧0≤P+a * s)↔(fa (cI D P a) D≤s∧Int.tmod (s - D) 2=0):=by
 have key:(D≤s∧-D≤s∧0≤P+a * s)↔cI D P a≤s:=by
  unfold cI nT
  by_cases hP:P < 0
  ·rw [if_pos hP]
   have:=(oq ha hP).2.2 s
   rw [this]
   split <;> split <;> omega
  ·rw [if_neg hP]
   have:0≤a * s:=Int.mul_nonneg (by omega) hs
   split <;> omega
 constructor
 ·rintro ⟨h1,h2,h3,h4⟩
  have h5:=key.1 ⟨h1,h2,h4⟩
  refine ⟨?_,h3⟩
  unfold fa
  split
  ·exact h5
  ·rename_i h6
   have:cI D P a≠s:=fun e=>h6 (by rw [e]; exact h3)
   omega
 ·rintro ⟨h1,h2⟩
  have h5:cI D P a≤s:=by
   unfold fa at h1
   split at h1 <;> omega
  obtain ⟨a1,a2,a3⟩:=key.2 h5
  exact ⟨a1,a2,h2,a3⟩
theorem KH (x:Int):Int.tmod x 2=0∨Int.tmod x 2=1∨Int.tmod x 2=-1:=by
 have h1:=Int.tmod_lt_of_pos x (by omega:(0:Int) < 2)
 have h2:-2 < Int.tmod x 2:=Int.lt_tmod_of_pos x (by omega)
 omega
theorem Jz (n D:Int):Int.tmod (fa n D - D) 2=0:=by
 unfold fa
 split
 ·assumption
 ·rename_i h
  have h1:=Int.mul_tdiv_add_tmod (n - D) 2
  rcases KH (n - D) with h2 | h2 | h2
  ·exact absurd h2 h
  ·have e:n+1 - D=2 * (Int.tdiv (n - D) 2+1):=by omega
   rw [e,Int.mul_tmod_right]
  ·have e:n+1 - D=2 * (Int.tdiv (n - D) 2):=by omega
   rw [e,Int.mul_tmod_right]
theorem yK (n D:Int):n≤fa n D∧fa n D≤n+1:=by
 unfold fa; split <;> omega
theorem Hc {D P a:Int}:0≤cI D P a:=by
 unfold cI nT
 by_cases hP:P < 0
 ·rw [if_pos hP]; split <;> split <;> omega
 ·rw [if_neg hP]; split <;> omega
structure HF (M P a b:Int):Prop where
 m:-640000000000≤M∧M≤640000000000
 p:-64000000≤P∧P≤64000000
 a:1≤a∧a≤1000000
 b:1≤b∧b≤10000
theorem HF.L {M P a b:Int} (h:HF M P a b):1≤a * b∧a * b≤10000000000:=by
 have h1:=qH (a:=a) (b:=b) ⟨by have:=h.a; omega,h.a.2⟩ ⟨by have:=h.b; omega,h.b.2⟩
 have h2:1 * 1≤a * b:=Int.mul_le_mul h.a.1 h.b.1 (by omega) (by have:=h.a; omega)
 omega
theorem rH {M L:Int} (hL:1≤L) (h:Int.tmod M L=0):M=L * (M / L)∧Int.tdiv M L=M / L∧Int.tdiv (-M) L=-(M / L):=by
 obtain ⟨q,hq⟩:=Int.dvd_of_tmod_eq_zero h
 subst hq
 have cq:L≠0:=by omega
 rw [Int.mul_ediv_cancel_left q cq]
 refine ⟨rfl,Int.mul_tdiv_cancel_left q cq,?_⟩
 rw [show -(L * q)=L * (-q) by rw [Int.mul_neg]]
 exact Int.mul_tdiv_cancel_left (-q) cq
theorem HF.D {M P a b:Int} (h:HF M P a b) (hd:Int.tmod M (a * b)=0):-640000000000≤M / (a * b)∧M / (a * b)≤640000000000:=by
 obtain ⟨h1,h2⟩:=h.L
 obtain ⟨e,_,_⟩:=rH h1 hd
 have m:=h.m
 generalize M / (a * b)=D at *
 generalize a * b=L at *
 constructor
 ·by_cases hh:D < -640000000000
  ·have:L * D≤1 * D:=by
    have:=Int.mul_le_mul_of_nonneg_right (a:=1) (b:=L) (c:=-D) h1 (by omega)
    rw [Int.mul_neg,Int.mul_neg] at this; omega
   omega
  ·omega
 ·by_cases hh:D > 640000000000
  ·have:=Int.mul_le_mul_of_nonneg_right (a:=1) (b:=L) (c:=D) h1 (by omega)
   omega
  ·omega
theorem HF.n {M P a b:Int} (h:HF M P a b) (hd:Int.tmod M (a * b)=0):0≤cI (M / (a * b)) P a∧cI (M / (a * b)) P a≤640000000000:=by
 refine ⟨Hc,?_⟩
 have h1:=h.D hd
 have h2:=h.a
 have h3:=h.p
 unfold cI nT
 by_cases hP:P < 0
 ·obtain ⟨n1,n2,_⟩:=oq h2.1 hP
  rw [if_pos hP]
  split <;> split <;> omega
 ·rw [if_neg hP]
  split <;> omega
section
variable {N:Nat} (hN:hZ N)
include hN
theorem JA (l:List Ld) (a b:Int):P1 N (l,a,b)=some (if cn [dy l,kB a 1 1000000,kB b 1 10000]=0 then mD (gu l) (hU l) a b else ((0,0),cn [dy l,kB a 1 1000000,kB b 1 10000])):=by
 have ex:∀ x y z:Int,(bif (allFit (ah.fits Ke) [(AV.int .i64 x),(AV.int .i64 y),(AV.int .i64 z)]) then some (List.map d29 [(AV.int .i64 x),(AV.int .i64 y),(AV.int .i64 z)]) else none:Option (List Int))=some [x,y,z]:=fun x y z=>rfl
 rw [MZ]
 simp only [GD,GF,Bool.and_true,cond_true,Option.bind_some,Dp hN,Dn,ex,xm hN _ (show [(if dy l=0 then (hU l,gu l,(0:Int)) else (0,0,dy l)).2.2,kB a 1 1000000,kB b 1 10000].length≤9223372036854775806 by simp)]
 have e0:(if dy l=0 then (hU l,gu l,(0:Int)) else (0,0,dy l)).2.2=dy l:=by
  by_cases h:dy l=0
  ·rw [if_pos h,h]
  ·rw [if_neg h]
 rw [e0]
 by_cases hz:cn [dy l,kB a 1 1000000,kB b 1 10000]=0
 ·have hf:(cn [dy l,kB a 1 1000000,kB b 1 10000] != 0)=false:=by simp [hz]
  have g1:dy l=0:=dS.1 hz _ (by simp)
  have g2:kB a 1 1000000=0:=dS.1 hz _ (by simp)
  have g3:kB b 1 10000=0:=dS.1 hz _ (by simp)
  have ha:1≤a∧a≤1000000:=by unfold kB at g2; split at g2 <;> omega
  have hb:1≤b∧b≤10000:=by unfold kB at g3; split at g3 <;> omega
  have tk:=tj g1 l.length
  rw [List.take_length] at tk
  have ok:HF (gu l) (hU l) a b:=⟨tk.2,tk.1,ha,hb⟩
  rw [hf,if_pos hz,if_pos g1]
  simp only [cond_false]
  generalize gu l=M at *
  generalize hU l=P at *
  have hL:=ok.L
  have wL:IntKind.wrap .i64 (a * b)=a * b:=mJ (by omega)
  rw [wL]
  have nz:decide (a * b=0)=false:=by simp; omega
  have na:decide (a=0)=false:=by simp; omega
  have hm:=ok.m
  have hp:=ok.p
  unfold mD
  rw [nz]
  simp only [Bool.not_false,cond_true]
  by_cases hd:Int.tmod M (a * b)=0
  ·have q:(Int.tmod M (a * b) != 0)=false:=by simp [hd]
   rw [q,if_neg (show ¬ (Int.tmod M (a * b)≠0) from fun h=>h hd)]
   simp only [cond_false]
   obtain ⟨d1,d2,d3⟩:=rH hL.1 hd
   have hD:=ok.D hd
   have hn:=ok.n hd
   have w1:IntKind.wrap .i64 (0 - M)=-M:=by rw [mJ (by omega)]; omega
   rw [w1,d3]
   generalize M / (a * b)=D at *
   have w2:IntKind.wrap .i64 (-D)=-D:=mJ (by omega)
   have w3:IntKind.wrap .i64 (0 - -D)=D:=by rw [mJ (by omega)]; omega
   have TD:(if D > -D then D else -D)=nT D:=by unfold nT; split <;> split <;> omega
   have Xm:IntKind.wrap .i64 (a - 1)=a - 1:=mJ (by omega)
   have kF:IntKind.wrap .i64 (a - 1 - P)=a - 1 - P:=mJ (by omega)
   rw [w2,w3,Xm,kF,na,TD]
   simp only [Bool.not_false,cond_true]
   have e1:(bif (decide (P < 0)) then (some (if (IntKind.wrap .i64 (Int.tdiv (a - 1 - P) a)) > nT D then (IntKind.wrap .i64 (Int.tdiv (a - 1 - P) a)) else nT D)) else (some (nT D)):Option Int)=some (cI D P a):=by
    unfold cI
    by_cases hP:P < 0
    ·obtain ⟨n1,n2,_⟩:=oq ha.1 hP
     have:IntKind.wrap .i64 (Int.tdiv (a - 1 - P) a)=qI P a:=mJ (by unfold qI at n1 n2; omega)
     simp only [hP,decide_true,cond_true,this,if_true]
    ·simp only [hP,decide_false,cond_false,if_false]
   rw [e1]
   simp only [Option.bind_some]
   generalize wu:cI D P a=n at *
   have w4:IntKind.wrap .i64 (n - -D)=n+D:=by rw [mJ (by omega)]; omega
   have w5:IntKind.wrap .i64 (n+1)=n+1:=mJ (by omega)
   have et:Int.tmod (n+D) 2=0↔Int.tmod (n - D) 2=0:=⟨fun h=>Int.tmod_eq_zero_of_dvd (by have:=Int.dvd_of_tmod_eq_zero h; omega),fun h=>Int.tmod_eq_zero_of_dvd (by have:=Int.dvd_of_tmod_eq_zero h; omega)⟩
   have e2:(bif (Int.tmod (n+D) 2 != 0) then (some (n+1)) else (some n):Option Int)=some (fa n D):=by
    unfold fa
    by_cases h:Int.tmod (n - D) 2=0
    ·have:(Int.tmod (n+D) 2 != 0)=false:=by simp [et.2 h]
     rw [this,if_pos h]; rfl
    ·have:(Int.tmod (n+D) 2 != 0)=true:=Ao fun e=>h (et.1 e)
     rw [this,if_neg h]; rfl
   rw [w4,w5,e2]
   simp only [Option.bind_some]
   have eb:=yK n D
   have w6:IntKind.wrap .i64 (fa n D - -D)=fa n D+D:=by rw [mJ (by omega)]; omega
   have w7:IntKind.wrap .i64 (fa n D+-D)=fa n D - D:=by rw [mJ (by omega)]; omega
   have t1:∀ x:Int,-9000000000000≤x∧x≤9000000000000→IntKind.wrap .i64 (Int.tdiv x 2)=Int.tdiv x 2:=fun x hx=>by
    have h1:=Int.mul_tdiv_add_tmod x 2
    have h2:=KH x
    exact mJ (by omega)
   rw [w6,w7,t1 _ (by omega),t1 _ (by omega)]
   by_cases hg:fa n D > 10000
   ·simp only [hg,decide_true,cond_true,if_true]
   ·simp only [hg,decide_false,cond_false,if_false]
  ·rw [Ao hd,if_pos hd]; rfl
 ·rw [Ao hz,if_neg hz]; rfl
end
end Go.Proofs.Ytegoimldbgdeiaa
