/- Plain laws: names. -/
import Derived.Test.YtegoimldbgdeiaaTrwD
import Derived.Test.YtegoimldbgdeiaaSeamKB
set_option linter.all false
namespace Go.Proofs.Ytegoimldbgdeiaa
open Go Go.Am
set_option maxRecDepth 100000
def nZ (first:Bool) (c:Int):Bool:=
 !(decide (c≥65)&&decide (c≤90) || decide (c≥97)&&decide (c≤122))&&(first || (c != 95&&(decide (c < 48) || decide (c > 57))))
def iQ (first:Bool):List UInt8→Bool
 | []=>true
 | c :: l=>!nZ first (c.toNat:Int)&&iQ false l
def Bi (s:List UInt8):Bool:=decide (s.length≠0∧s.length≤24)
def iz (s:List UInt8):Bool:=Bi s&&iQ true s
theorem Ij (s:List UInt8):(((bif ((((s).length:Nat):Int) == 0) then (some true) else (some (decide ((((s).length:Nat):Int) > 24)))):Option Bool))=some (!Bi s):=by
 unfold Bi
 by_cases h0:s.length=0
 ·simp [h0]
 ·rw [RG (by omega)]
  by_cases h1:s.length≤24
  ·have:decide (((s.length:Nat):Int) > 24)=false:=by simp; omega
   rw [this]; simp [h0,h1]
  ·have:decide (((s.length:Nat):Int) > 24)=true:=by simp; omega
   rw [this]; simp [h1]
theorem FI (l:List UInt8):∀ (first:Bool),foldI (fun (b:Bool) (c:UInt8)=>if nZ b (c.toNat:Int) then (.inr ():Bool ⊕ Unit) else .inl false) first l=if iQ first l then .inl (if l.isEmpty then first else false) else .inr ():=by
 induction l with
 | nil=>intro b; rfl
 | cons c l ih=>
  intro b
  simp only [foldI,iQ]
  by_cases h:nZ b (c.toNat:Int)=true
  ·simp [h]
  ·have h':nZ b (c.toNat:Int)=false:=by simpa using h
   simp only [h',Bool.false_eq_true,if_false,Sum.elim_inl,Bool.not_false,Bool.true_and,ih false]
   by_cases h2:iQ false l=true <;> simp [h2]
theorem Ik {N:Nat} (hN:fA N) (s:List UInt8):Tx N s=some (iz s):=by
 rw [O8,Ij]
 simp only [Option.bind_some]
 unfold iz
 cases uo:Bi s with
 | false=>rfl
 | true=>
  have hl:=of_decide_eq_true (show decide (s.length≠0∧s.length≤24)=true from uo)
  simp only [Bool.not_true,cond_false,Bool.true_and]
  have key:=gD (rd:=vY N s) s (fun (b:Bool) k=>(k:Int)) (fun b (c:UInt8)=>if nZ b (c.toNat:Int) then (.inr ():Bool ⊕ Unit) else .inl false) (fun _=>.inr ()) (fun _=>.inl false) (fun b k=>b=(k == 0))
   (fun b k hk hb=>by
    refine ⟨?_,fun s' h'=>?_⟩
    ·subst hb
     have e1:s.getD k 0=s[k]:=by simp [hk]
     have e2:((k:Int) == 0)=(k == 0):=by cases k <;> simp; omega
     unfold vY
     simp only [Int.toNat_natCast,aB hk,ar hk,cond_true,a6 (by omega:k < 9223372036854775807),e1,e2]
     unfold nZ
     generalize ((s[k].toNat:Nat):Int)=c
     generalize decide (c≥97)=b1
     generalize decide (c≤122)=b2
     generalize decide (c≥65)=b3
     generalize decide (c≤90)=b4
     generalize (c != 95)=b5
     generalize decide (c < 48)=b6
     generalize decide (c > 57)=b7
     generalize (k == 0)=b0
     cases b0 <;> cases b1 <;> cases b2 <;> cases b3 <;> cases b4 <;> cases b5 <;> cases b6 <;> cases b7 <;> rfl
    ·split at h'
     ·cases h'
     ·cases h'; simp)
   (fun b _=>by
    unfold vY
    simp only [aQ,cond_false]) N true 0 (Nat.zero_le _) (by unfold fA at hN; omega) rfl
  have Py:aF (V:=Int) (X:=Bool ⊕ Unit) (vY N s) N 0=_:=key
  simp only [Py,Option.bind_some,List.drop_zero,FI]
  cases iQ true s <;> rfl
theorem Bj {b:Bool} {c:Int} (h:128≤c):nZ b c=true:=by
 unfold nZ
 have h1:decide (c≤90)=false:=by simp; omega
 have h2:decide (c≤122)=false:=by simp; omega
 have h3:(c != 95)=true:=by simp; omega
 have h4:decide (c > 57)=true:=by simp; omega
 rw [h1,h2,h3,h4]
 cases b <;> simp
theorem Il {N:Nat} (hN:fA N) (s:List UInt8):Tp N s=some (iz s):=by
 rw [Ol,Ij]
 simp only [Option.bind_some]
 unfold iz
 cases uo:Bi s with
 | false=>rfl
 | true=>
  have hl:=of_decide_eq_true (show decide (s.length≠0∧s.length≤24)=true from uo)
  simp only [Bool.not_true,cond_false,Bool.true_and]
  have key:=gD (rd:=vT N) s (fun (p:Nat) k=>(s,(k:Int))) (fun p (c:UInt8)=>if nZ (p == 0) (c.toNat:Int) then (.inr (p+(bZ s p).2):Nat ⊕ Nat) else .inl (p+1)) (fun p=>.inl (s,(p:Int))) (fun p=>.inr (false,s,(p:Int))) (fun p k=>p=k)
   (fun p k hk hp=>by
    subst hp
    refine ⟨?_,fun s' h'=>?_⟩
    ·have e2:((p:Int) == 0)=(p == 0):=by cases p <;> simp; omega
     have e3:Nat.blt p s.length=true:=Nat.ble_eq_true_of_le hk
     obtain ⟨r1,r2⟩:=JE s p hk
     unfold vT
     simp only [Int.toNat_natCast,e3,cond_true,e2]
     have main:∀ (n:Nat) (c:Int),(((bif (decide (c≥65)) then (bif (decide (c≤90)) then (some (true,s,(((p+n):Nat):Int))) else (bif (decide (c≥97)) then (some ((decide (c≤122)),s,(((p+n):Nat):Int))) else (some (false,s,(((p+n):Nat):Int))))) else (bif (decide (c≥97)) then (some ((decide (c≤122)),s,(((p+n):Nat):Int))) else (some (false,s,(((p+n):Nat):Int))))):Option ((Bool × (List UInt8) × Int))).bind fun o3=>(((bif (!o3.1) then (bif (p == 0) then (some (true,o3.2.1,(((Int.toNat o3.2.2):Nat):Int))) else (bif (c != 95) then (bif (decide (c < 48)) then (some (true,o3.2.1,(((Int.toNat o3.2.2):Nat):Int))) else (some ((decide (c > 57)),o3.2.1,(((Int.toNat o3.2.2):Nat):Int)))) else (some (false,o3.2.1,(((Int.toNat o3.2.2):Nat):Int))))) else (some (false,o3.2.1,(((Int.toNat o3.2.2):Nat):Int)))):Option ((Bool × (List UInt8) × Int))).bind fun o4=>(bif o4.1 then (some (Sum.inr (Sum.inr (false,o4.2.1,(((Int.toNat o4.2.2):Nat):Int)))):Option (((List UInt8) × Int) ⊕ (((List UInt8) × Int) ⊕ (Bool × (List UInt8) × Int)))) else (some (Sum.inl (o4.2.1,(((Int.toNat o4.2.2):Nat):Int))))))) =
       some (bif nZ (p == 0) c then Sum.inr (Sum.inr (false,s,((p+n:Nat):Int))) else Sum.inl (s,((p+n:Nat):Int))):=by
      intro n c
      unfold nZ
      generalize decide (c≥97)=b1
      generalize decide (c≤122)=b2
      generalize decide (c≥65)=b3
      generalize decide (c≤90)=b4
      generalize (c != 95)=b5
      generalize decide (c < 48)=b6
      generalize decide (c > 57)=b7
      generalize (p == 0)=b0
      cases b0 <;> cases b1 <;> cases b2 <;> cases b3 <;> cases b4 <;> cases b5 <;> cases b6 <;> cases b7 <;> rfl
     rw [main]
     by_cases Wa:s[p].toNat < 128
     ·rw [r1 Wa]
      by_cases hb:nZ (p == 0) (s[p].toNat:Int)=true
      ·simp [hb]
      ·have li:nZ (p == 0) (s[p].toNat:Int)=false:=by simpa using hb
       simp [li]
     ·have h1:=Bj (b:=p == 0) (c:=((bZ s p).1:Int)) (by have:=r2 (by omega); omega)
      have h2:=Bj (b:=p == 0) (c:=(s[p].toNat:Int)) (by omega)
      rw [h1,if_pos h2]
      rfl
    ·split at h'
     ·cases h'
     ·cases h'; rfl)
   (fun p hp=>by
    subst hp
    unfold vT
    have e3:Nat.blt s.length s.length=false:=by
     cases hb:Nat.blt s.length s.length with
     | false=>rfl
     | true=>have:=Nat.le_of_ble_eq_true hb; omega
    simp only [Int.toNat_natCast,e3,cond_false]) N 0 0 (Nat.zero_le _) (by unfold fA at hN; omega) rfl
  have Py:aF (V:=(List UInt8) × Int) (X:=((List UInt8) × Int) ⊕ (Bool × (List UInt8) × Int)) (vT N) N (s,((0:Nat):Int))=_:=key
  rw [Py]
  simp only [Option.bind_some,List.drop_zero]
  have gen:∀ (l:List UInt8) (p:Nat) (first:Bool),first=(p == 0)→Sum.elim (fun _=>true) (fun _=>false) (foldI (fun (p:Nat) (c:UInt8)=>if nZ (p == 0) (c.toNat:Int) then (.inr (p+(bZ s p).2):Nat ⊕ Nat) else .inl (p+1)) p l)=iQ first l:=by
   intro l
   induction l with
   | nil=>intro p first _; rfl
   | cons c l ih=>
    intro p first hf
    subst hf
    simp only [foldI,iQ]
    by_cases h:nZ (p == 0) (c.toNat:Int)=true
    ·simp [h]
    ·have h':nZ (p == 0) (c.toNat:Int)=false:=by simpa using h
     simp only [h',Bool.false_eq_true,if_false,Sum.elim_inl,Bool.not_false,Bool.true_and]
     exact ih (p+1) false (by simp)
  have g:=gen s 0 true rfl
  revert g
  cases foldI (fun (p:Nat) (c:UInt8)=>if nZ (p == 0) (c.toNat:Int) then (.inr (p+(bZ s p).2):Nat ⊕ Nat) else .inl (p+1)) 0 s with
  | inl p=>intro g; simp only [Sum.elim_inl] at g ⊢; rw [← g]
  | inr p=>intro g; simp only [Sum.elim_inr] at g ⊢; rw [← g]
end Go.Proofs.Ytegoimldbgdeiaa
namespace Go.Proofs.Ytegoimldbgdeiaa
open Go Go.Am
set_option maxRecDepth 100000
theorem Wb (l:List Int) {k:Nat} (hk:k < l.length):d29 (ai (List.map Lu l) k)=l[k]∧ah.fits D5 (ai (List.map Lu l) k)=true:=by
 rw [eF Lu l k hk]; exact ⟨rfl,rfl⟩
theorem oz {N:Nat} (hN:fA N) (l:List Int) (hl:l.length≤9223372036854775806):IT N l=some (bE l):=by
 obtain ⟨o,h1,h2⟩:=vJ (rd:=zo N l) l (fun k hk=>by
  obtain ⟨e1,e2⟩:=Wb l hk
  simp only [zo,List.length_map,Int.toNat_natCast,e1,e2,a6 (show k < 9223372036854775807 by omega),aB hk,ar hk,Bool.and_self,cond_true]
  by_cases hz:l[k]=0
  ·simp [hz]
  ·simp [hz,Bool.cond_eq_ite]) (by simp only [zo,List.length_map,aQ,cond_false]) N (by unfold fA at hN; omega)
 rw [NP,h1,Option.bind_some]
 rcases o with o | o
 ·simpa using h2
 ·simpa using h2
theorem FJ {N:Nat} (hN:fA N) (l:List Int) (hl:l.length≤9223372036854775806):Ty N l=some (bE l):=by
 obtain ⟨o,h1,h2⟩:=vJ (rd:=zy N l) l (fun k hk=>by
  obtain ⟨e1,e2⟩:=Ka l hk
  simp only [zy,List.length_map,Int.toNat_natCast,e1,e2,a6 (show k < 9223372036854775807 by omega),aB hk,ar hk,Bool.and_self,cond_true]
  by_cases hz:l[k]=0
  ·simp [hz]
  ·simp [hz,Bool.cond_eq_ite]) (by simp only [zy,List.length_map,aQ,cond_false]) N (by unfold fA at hN; omega)
 rw [Pa,h1,Option.bind_some]
 rcases o with o | o
 ·simpa using h2
 ·simpa using h2
theorem qV (N:Nat) (b:Bool) (e:Int):C3 N (b,e)=some (if b then e else 0):=by
 rw [NQ]; cases b <;> rfl
theorem KM (N:Nat) (n lo hi:Int):RT N (n,lo,hi)=some (IS n lo hi):=by
 rw [NS]
 simp only [qV]
 unfold IS
 by_cases h1:n < lo
 ·simp [h1]
 ·by_cases h2:n > hi <;> simp [h1,h2]
theorem KN (N:Nat) (n lo hi:Int):SJ N (n,lo,hi)=some (IS n lo hi):=by
 rw [Pc]
 unfold IS
 by_cases h1:n < lo
 ·simp [h1]
 ·by_cases h2:n > hi <;> simp [h1,h2]
section
variable {N:Nat} (hN:fA N)
include hN
end
end Go.Proofs.Ytegoimldbgdeiaa
namespace Go.Proofs.Ytegoimldbgdeiaa
open Go Go.Am
set_option maxRecDepth 100000
theorem wj (l:List wZ) {k:Nat} (hk:k < l.length):d74 (ai (List.map dh l) k)=l[k]∧ah.fits mP (ai (List.map dh l) k)=true:=by
 rw [eF dh l k hk,V1,V0]; exact ⟨rfl,rfl⟩
theorem Ep (l:List td) {k:Nat} (hk:k < l.length):d113 (ai (List.map n113 l) k)=l[k]∧ah.fits jm (ai (List.map n113 l) k)=true:=by
 rw [eF n113 l k hk]; exact ⟨rfl,rfl⟩
theorem Pz (l:List (Int × Int)) {k:Nat} (hk:k < l.length):d71 (ai (List.map o0 l) k)=l[k]∧ah.fits Qn (ai (List.map o0 l) k)=true:=by
 rw [eF o0 l k hk]; exact ⟨rfl,rfl⟩
theorem L3 (l:List (Int × Int)) {k:Nat} (hk:k < l.length):d132 (ai (List.map n132 l) k)=l[k]∧ah.fits jE (ai (List.map n132 l) k)=true:=by
 rw [eF n132 l k hk]; exact ⟨rfl,rfl⟩
theorem Wc (l:List (Int × Int)) {k:Nat} (hk:k < l.length):d69 (ai (List.map eZ l) k)=l[k]∧ah.fits rn (ai (List.map eZ l) k)=true:=by
 rw [eF eZ l k hk]; exact ⟨rfl,rfl⟩
theorem SM:∀ l:List (Int × Int),bo (List.map o0 l) (List.map o0 l)=true
 | []=>rfl
 | x :: l=>by
  rw [List.map_cons,bo,SM l]
  show (bo [AV.int .i64 x.1,AV.int .i64 x.2] [AV.int .i64 x.1,AV.int .i64 x.2]&&true)=true
  simp [bo,cX,pP]
theorem SN:∀ l:List wZ,bo (List.map dh l) (List.map dh l)=true
 | []=>rfl
 | x :: l=>by
  rw [List.map_cons,bo,SN l]
  have e:bo (List.map o0 x.2) (List.map o0 x.2)=true:=SM x.2
  show (bo [AV.str x.1,AV.list .iU 2 (List.map o0 x.2)] [AV.str x.1,AV.list .iU 2 (List.map o0 x.2)]&&true)=true
  simp only [bo,cX,pP,e,beq_self_eq_true,Nat.beq_refl,Bool.and_self]
theorem L4:∀ l:List td,bo (List.map n113 l) (List.map n113 l)=true
 | []=>rfl
 | x :: l=>by
  rw [List.map_cons,bo,L4 l]
  show (bo [AV.int .i64 x.1,AV.int .i64 x.2.1,AV.int .i64 x.2.2.1,AV.int .i64 x.2.2.2.1,AV.bool x.2.2.2.2] [AV.int .i64 x.1,AV.int .i64 x.2.1,AV.int .i64 x.2.2.1,AV.int .i64 x.2.2.2.1,AV.bool x.2.2.2.2]&&true)=true
  simp [bo,cX,pP]
theorem qW {α:Type} (f:α→AV) (l:List α) (k:Nat):hZ 0 k (List.map f l)=List.map f (l.take k):=by simp [hZ,List.map_take]
theorem qX {k n:Nat} (h:k≤n):decide ((0:Int)≤(k:Int)∧(k:Int)≤(n:Int))=true:=by simp; omega
def n5 (t:fS) (e:Int × Int):Bool:=decide (0≤e.1)&&(decide (e.1 < (t.1.length:Int))&&(decide (0≤e.2)&&decide (e.2 < (Kk t e.1:Int))))
def Er (t:fS) (e:Int × Int):Int × Int:=((t.1.getD e.1.toNat ([],[])).2).getD e.2.toNat (0,0)
theorem Dj (t:fS) {k:Nat} (hk:k < t.1.length):Kk t (k:Int)=t.1[k].2.length:=by
 unfold Kk
 rw [Int.toNat_natCast,List.getD_eq_getElem?_getD,List.getElem?_eq_getElem hk]; rfl
theorem Im (t:fS) {k:Nat} (hk:k < t.1.length) {i:Nat} (hi:i < t.1[k].2.length):Er t ((k:Int),(i:Int))=t.1[k].2[i]:=by
 unfold Er
 rw [Int.toNat_natCast,Int.toNat_natCast,List.getD_eq_getElem?_getD,List.getD_eq_getElem?_getD,List.getElem?_eq_getElem hk]
 show (t.1[k].2[i]?).getD (0,0)=_
 rw [List.getElem?_eq_getElem hi]; rfl
theorem Es {t:fS} {e:Int × Int} (h:n5 t e=true):∃ k i:Nat,e=((k:Int),(i:Int))∧∃ hk:k < t.1.length,i < t.1[k].2.length:=by
 unfold n5 at h
 simp only [Bool.and_eq_true,decide_eq_true_eq] at h
 obtain ⟨h1,h2,h3,h4⟩:=h
 refine ⟨e.1.toNat,e.2.toNat,Prod.ext (by omega) (by omega),by omega,?_⟩
 have hk:e.1.toNat < t.1.length:=by omega
 have:=Dj t hk
 rw [show ((e.1.toNat:Nat):Int)=e.1 by omega] at this
 omega
theorem zz (N:Nat) (t:fS) (e:Int × Int):Qo N (t,e)=some (n5 t e):=by
 obtain ⟨p,s⟩:=e
 rw [Pd]
 unfold n5
 dsimp only
 by_cases h1:0≤p
 ·obtain ⟨k,rfl⟩:∃ k:Nat,p=(k:Int):=⟨p.toNat,by omega⟩
  by_cases h2:k < t.1.length
  ·obtain ⟨a1,a2⟩:=wj t.1 h2
   rw [Dj t h2]
   simp only [List.length_map,Int.toNat_natCast,a1,a2,ar h2,aB h2,Bool.and_self,cond_true,ge_iff_le,decide_eq_true h1,Bool.true_and]
   by_cases h3:0≤s
   ·rw [decide_eq_true h3]; rfl
   ·rw [decide_eq_false h3]; rfl
  ·have d:decide ((k:Int) < (t.1.length:Int))=false:=by simp; omega
   simp only [List.length_map,d,ge_iff_le,decide_eq_true h1,cond_true,cond_false,Bool.true_and,Bool.false_and,Option.bind_some]
 ·simp only [ge_iff_le,decide_eq_false h1,cond_false,Bool.false_and,Option.bind_some]
theorem zA (N:Nat) (t:fS) (e:Int × Int):P8 N (t,e)=some (n5 t e):=by
 obtain ⟨p,s⟩:=e
 rw [NT]
 unfold n5
 dsimp only
 by_cases h1:0≤p
 ·obtain ⟨k,rfl⟩:∃ k:Nat,p=(k:Int):=⟨p.toNat,by omega⟩
  by_cases h2:k < t.1.length
  ·obtain ⟨a1,a2⟩:=qM t.1 h2
   rw [Dj t h2]
   simp only [List.length_map,Int.toNat_natCast,a1,a2,ar h2,aB h2,Bool.and_self,cond_true,ge_iff_le,decide_eq_true h1,Bool.true_and]
   by_cases h3:0≤s
   ·rw [decide_eq_true h3]; rfl
   ·rw [decide_eq_false h3]; rfl
  ·have d:decide ((k:Int) < (t.1.length:Int))=false:=by simp; omega
   simp only [List.length_map,d,ge_iff_le,decide_eq_true h1,cond_true,cond_false,Bool.true_and,Bool.false_and,Option.bind_some]
 ·simp only [ge_iff_le,decide_eq_false h1,cond_false,Bool.false_and,Option.bind_some]
theorem Bk (N:Nat) (t:fS) (e:Int × Int) (h:n5 t e=true):SK N (t,e)=some (Er t e):=by
 obtain ⟨k,i,rfl,hk,hi⟩:=Es h
 obtain ⟨a1,a2⟩:=wj t.1 hk
 obtain ⟨b1,b2⟩:=Pz t.1[k].2 hi
 rw [Ph,Im t hk hi]
 simp only [List.length_map,Int.toNat_natCast,a1,a2,b1,b2,ar hk,ar hi,Bool.and_self,cond_true]
theorem Bl (N:Nat) (t:fS) (e:Int × Int) (h:n5 t e=true):RU N (t,e)=some (Er t e):=by
 obtain ⟨k,i,rfl,hk,hi⟩:=Es h
 obtain ⟨a1,a2⟩:=qM t.1 hk
 obtain ⟨b1,b2⟩:=L3 t.1[k].2 hi
 rw [NV,Im t hk hi]
 simp only [List.length_map,Int.toNat_natCast,a1,a2,b1,b2,ar hk,ar hi,Bool.and_self,cond_true]
def qY (a b:Int × Int):Bool:=(a.1 == b.1)&&(a.2 == b.2)
theorem Bm (a b c d:Int):((a == c)&&(b == d))=qY (a,b) (c,d):=rfl
theorem oA (a b c d:Int):((a == c)&&((b == d)&&true))=qY (a,b) (c,d):=by rw [Bool.and_true]; rfl
theorem tH {a b:Int × Int}:qY a b=true↔a=b:=by
 unfold qY
 rw [Bool.and_eq_true,beq_iff_eq,beq_iff_eq]
 exact ⟨fun h=>Prod.ext h.1 h.2,fun h=>by rw [h]; exact ⟨rfl,rfl⟩⟩
theorem lM (a b:Int × Int):qY a b=qY b a:=by
 apply Bool.eq_iff_iff.2
 rw [tH,tH]
 exact ⟨fun h=>h.symm,fun h=>h.symm⟩
def lN (s:Int × Int):Int:=bE [IS s.1 1 10000,IS s.2 (-100000) 100000]
def sL (b:List wZ) (x:wZ):Int:=
 if iz x.1=false then 8 else if (b.any fun y=>y.1 == x.1)=true then 9 else if x.2.length < 3∨x.2.length > 8 then 2 else bE (x.2.map lN)
def Dk (s x:td):Bool:=qY (x.1,x.2.1) (s.1,s.2.1) || (qY (x.1,x.2.1) (s.2.2.1,s.2.2.2.1) || (qY (x.2.2.1,x.2.2.2.1) (s.1,s.2.1) || qY (x.2.2.1,x.2.2.2.1) (s.2.2.1,s.2.2.2.1)))
def Io (a b:Int):Bool:=decide (a > IntKind.wrap .i64 (2 * b)) || decide (b > IntKind.wrap .i64 (2 * a))
def n6 (t:fS) (b:List td) (s:td):Int:=
 if (n5 t (s.1,s.2.1)&&n5 t (s.2.2.1,s.2.2.2.1))=false then 10 else
  if qY (s.1,s.2.1) (s.2.2.1,s.2.2.2.1)=true then 9 else if (b.any (Dk s))=true then 9 else
   if Io (Er t (s.1,s.2.1)).1 (Er t (s.2.2.1,s.2.2.2.1)).1=true then 24 else 0
def lO (l:List wZ):Int:=bE (l.mapIdx fun k x=>sL (l.take k) x)
def wo (t:fS):Int:=bE (t.2.mapIdx fun k s=>n6 t (t.2.take k) s)
def lP (t:fS):Int:=
 if t.1.length=0 then 12 else if t.1.length > 16 then 5 else if lO t.1≠0 then lO t.1 else if t.2.length > 64 then 5 else wo t
theorem kR {α:Type} (q:α→Bool) (c:Int) (hc:c≠0):∀ l:List α,bE (l.map fun y=>if q y=true then c else 0)=if l.any q=true then c else 0
 | []=>rfl
 | y :: l=>by
  rw [List.map_cons,List.any_cons]
  unfold bE
  rw [kR q c hc l]
  cases q y with
  | true=>simp [hc]
  | false=>simp
theorem Et {c:Int} (hc:c≠0) (b:Bool):(if (if b=true then c else 0)=0 then .inr () else .inl (if b=true then c else 0):Int ⊕ Unit)=if b=true then .inl c else .inr ():=by
 cases b with
 | true=>rw [if_pos rfl,if_neg hc]; rfl
 | false=>rfl
section
variable {N:Nat} (hN:fA N)
include hN
theorem FK (l:List wZ) (k:Nat) (hk:k < l.length) (hl:l.length≤1000000):aF (v7 N l (k:Int)) N 0=some (if ((l.take k).any fun y=>y.1 == l[k].1)=true then .inl 9 else .inr ()):=by
 have key:=eO (rd:=v7 N l (k:Int)) ((l.take k).map fun y=>if (y.1 == l[k].1)=true then (9:Int) else 0) (fun j hj=>by
  rw [List.length_map,List.length_take] at hj
  have hj1:j < k:=by omega
  have XQ:j < l.length:=by omega
  obtain ⟨a1,a2⟩:=wj l XQ
  obtain ⟨b1,b2⟩:=wj l hk
  simp only [v7,List.length_map,Int.toNat_natCast,a1,a2,b1,b2,aB hj1,ar XQ,ar hk,Bool.and_self,cond_true,a6 (show j < 9223372036854775807 by omega),List.getElem_map,List.getElem_take]
  cases l[j].1 == l[k].1 <;> rfl) (by
   have e:((l.take k).map fun y=>if (y.1 == l[k].1)=true then (9:Int) else 0).length=k:=by rw [List.length_map,List.length_take]; omega
   rw [e]
   simp only [v7,aQ,cond_false]) N (by rw [List.length_map,List.length_take]; unfold fA at hN; omega)
 rw [key,kR _ 9 (by decide)]
 cases (l.take k).any fun y=>y.1 == l[k].1 <;> rfl
theorem FL (l:List wZ) (k:Nat) (hk:k < l.length) (hl:l[k].2.length≤1000000):aF (qS N l (k:Int)) N 0=some (if bE (l[k].2.map lN)=0 then .inr () else .inl (bE (l[k].2.map lN))):=by
 obtain ⟨b1,b2⟩:=wj l hk
 exact eO (rd:=qS N l (k:Int)) (l[k].2.map lN) (fun j hj=>by
  rw [List.length_map] at hj
  obtain ⟨a1,a2⟩:=Pz l[k].2 hj
  have ex:∀ x y:Int,(bif (allFit (ah.fits p3) [(AV.int .i64 x),(AV.int .i64 y)]&&true) then some (List.map d3 [(AV.int .i64 x),(AV.int .i64 y)]) else none:Option (List Int))=some [x,y]:=fun x y=>rfl
  simp only [qS,List.length_map,Int.toNat_natCast,a1,a2,b1,b2,aB hj,ar hj,ar hk,Bool.and_self,cond_true,a6 (show j < 9223372036854775807 by omega),List.getElem_map,KN,Option.bind_some,beq_self_eq_true,ex,FJ hN _ (show [IS l[k].2[j].1 1 10000,IS l[k].2[j].2 (-100000) 100000].length≤9223372036854775806 by simp)]
  show (bif lN l[k].2[j] != 0 then _ else _)=_
  by_cases hz:lN l[k].2[j]=0
  ·rw [hz]; rfl
  ·rw [A6 hz,if_neg hz]; rfl) (by
   simp only [qS,List.length_map,Int.toNat_natCast,b1,b2,ar hk,Bool.and_self,cond_true,aQ,cond_false]) N (by rw [List.length_map]; unfold fA at hN; omega)
theorem PA (l:List wZ) (k:Nat) (hk:k < l.length) (hl:l.length≤1000000):TA N (l,(k:Int))=some (sL (l.take k) l[k]):=by
 obtain ⟨b1,b2⟩:=wj l hk
 rw [Po]
 unfold sL
 simp only [List.length_map,Int.toNat_natCast,b1,b2,ar hk,Bool.and_self,cond_true,Ik hN,Option.bind_some,FK hN l k hk hl]
 cases hn:iz l[k].1 with
 | false=>rfl
 | true=>
  cases ha:(l.take k).any fun y=>y.1 == l[k].1 with
  | true=>rfl
  | false=>
   rw [if_neg (by decide),if_neg (by decide),if_neg (by decide)]
   by_cases h3:l[k].2.length < 3
   ·have d:decide (((l[k].2.length:Nat):Int) < 3)=true:=by simp; omega
    rw [d,if_pos (.inl h3)]; rfl
   ·have d:decide (((l[k].2.length:Nat):Int) < 3)=false:=by simp; omega
    by_cases h8:l[k].2.length > 8
    ·have d':decide (((l[k].2.length:Nat):Int) > 8)=true:=by simp; omega
     rw [d,d',if_pos (.inr h8)]; rfl
    ·have d':decide (((l[k].2.length:Nat):Int) > 8)=false:=by simp; omega
     rw [d,d',if_neg (by omega),FL hN l k hk (by omega)]
     by_cases hz:bE (l[k].2.map lN)=0
     ·rw [if_pos hz,hz]; rfl
     ·rw [if_neg hz]; rfl
theorem PB (t:fS) (b:List td) (s:td) (hb:b.length≤1000000):Pj N (t,b,s)=some (n6 t b s):=by
 have key:=eO (rd:=qR N b s) (b.map fun y=>if Dk s y=true then (9:Int) else 0) (fun j hj=>by
  rw [List.length_map] at hj
  obtain ⟨a1,a2⟩:=Ep b hj
  simp only [qR,List.length_map,Int.toNat_natCast,a1,a2,aB hj,ar hj,Bool.and_self,cond_true,a6 (show j < 9223372036854775807 by omega),List.getElem_map,oA]
  unfold Dk
  cases qY (b[j].1,b[j].2.1) (s.1,s.2.1) <;> cases qY (b[j].1,b[j].2.1) (s.2.2.1,s.2.2.2.1) <;> cases qY (b[j].2.2.1,b[j].2.2.2.1) (s.1,s.2.1) <;> cases qY (b[j].2.2.1,b[j].2.2.2.1) (s.2.2.1,s.2.2.2.1) <;> rfl) (by
   rw [List.length_map]; simp only [qR,List.length_map,aQ,cond_false]) N (by rw [List.length_map]; unfold fA at hN; omega)
 rw [kR _ 9 (by decide),Et (by decide)] at key
 have key:aF (qR N b (s.1,s.2.1,s.2.2.1,s.2.2.2.1,s.2.2.2.2)) N 0=_:=key
 rw [show Pj N (t,b,s)=Pj N ((t.1,t.2),b,(s.1,s.2.1,s.2.2.1,s.2.2.2.1,s.2.2.2.2)) from rfl,Pl]
 unfold n6
 simp only [Ie,Ig,En,Eo,Bool.and_true,cond_true,Option.bind_some,Bm,beq_self_eq_true,Bool.and_self,SN,L4,key]
 rw [show (t.1,t.2)=t from rfl,zz,zz]
 simp only [Option.bind_some]
 cases h1:n5 t (s.1,s.2.1) with
 | false=>rfl
 | true=>
  cases h2:n5 t (s.2.2.1,s.2.2.2.1) with
  | false=>rfl
  | true=>
   simp only [Bool.not_true,cond_false,Option.bind_some,Bool.and_self,reduceCtorEq,if_false]
   rw [Bk N t _ h1,Bk N t _ h2]
   cases h3:qY (s.1,s.2.1) (s.2.2.1,s.2.2.2.1) with
   | true=>rfl
   | false=>
    cases h4:b.any (Dk s) with
    | true=>rfl
    | false=>
     unfold Io
     simp only [Option.bind_some,Sum.elim_inr,tH.2 rfl,cond_true,cond_false,reduceCtorEq,if_false]
     cases decide ((Er t (s.1,s.2.1)).1 > IntKind.wrap .i64 (2 * (Er t (s.2.2.1,s.2.2.2.1)).1)) with
     | true=>rfl
     | false=>cases decide ((Er t (s.2.2.1,s.2.2.2.1)).1 > IntKind.wrap .i64 (2 * (Er t (s.1,s.2.1)).1)) <;> rfl
theorem PC (t:fS) (b:List td) (s:td) (hb:b.length≤1000000):Oq N (t,s,b)=some (n6 t b s):=by
 have key:=eO (rd:=vU N s b) (b.map fun y=>if Dk s y=true then (9:Int) else 0) (fun j hj=>by
  rw [List.length_map] at hj
  obtain ⟨a1,a2⟩:=vQ b hj
  simp only [vU,List.length_map,Int.toNat_natCast,a1,a2,aB hj,ar hj,Bool.and_self,cond_true,a6 (show j < 9223372036854775807 by omega),List.getElem_map,oA]
  unfold Dk
  rw [lM (s.1,s.2.1) (b[j].1,b[j].2.1),lM (s.1,s.2.1) (b[j].2.2.1,b[j].2.2.2.1),lM (s.2.2.1,s.2.2.2.1) (b[j].1,b[j].2.1),lM (s.2.2.1,s.2.2.2.1) (b[j].2.2.1,b[j].2.2.2.1)]
  cases qY (b[j].1,b[j].2.1) (s.1,s.2.1) <;> cases qY (b[j].1,b[j].2.1) (s.2.2.1,s.2.2.2.1) <;> cases qY (b[j].2.2.1,b[j].2.2.2.1) (s.1,s.2.1) <;> cases qY (b[j].2.2.1,b[j].2.2.2.1) (s.2.2.1,s.2.2.2.1) <;> rfl) (by
   rw [List.length_map]; simp only [vU,List.length_map,aQ,cond_false]) N (by rw [List.length_map]; unfold fA at hN; omega)
 rw [kR _ 9 (by decide),Et (by decide)] at key
 have key:aF (vU N (s.1,s.2.1,s.2.2.1,s.2.2.2.1,s.2.2.2.2) b) N 0=_:=key
 have ex:∀ x y:Int,(bif (allFit (ah.fits D5) [(AV.int .i64 x),(AV.int .i64 y)]) then some (List.map d29 [(AV.int .i64 x),(AV.int .i64 y)]) else none:Option (List Int))=some [x,y]:=fun x y=>rfl
 rw [show Oq N (t,s,b)=Oq N ((t.1,t.2),(s.1,s.2.1,s.2.2.1,s.2.2.2.1,s.2.2.2.2),b) from rfl,Ou]
 unfold n6
 simp only [bW,bX,ca,cb,Bool.and_true,cond_true,Option.bind_some,Bm,beq_self_eq_true,Bool.and_self,Ef,Bc,key,qV,ex]
 rw [show (t.1,t.2)=t from rfl,zA,zA]
 simp only [Option.bind_some]
 cases h1:n5 t (s.1,s.2.1) with
 | false=>rfl
 | true=>
  cases h2:n5 t (s.2.2.1,s.2.2.2.1) with
  | false=>rfl
  | true=>
   simp only [Bool.not_true,cond_false,Option.bind_some,Bool.and_self,reduceCtorEq,if_false]
   rw [Bl N t _ h1,Bl N t _ h2]
   cases h4:b.any (Dk s) with
   | true=>
    cases h3:qY (s.1,s.2.1) (s.2.2.1,s.2.2.2.1) <;> rfl
   | false=>
    unfold Io
    simp only [Option.bind_some,Sum.elim_inr,tH.2 rfl,cond_true,cond_false,reduceCtorEq,if_false,oz hN [_,_] (show 2≤9223372036854775806 by omega)]
    cases qY (s.1,s.2.1) (s.2.2.1,s.2.2.2.1) <;> cases decide ((Er t (s.1,s.2.1)).1 > IntKind.wrap .i64 (2 * (Er t (s.2.2.1,s.2.2.2.1)).1)) <;> cases decide ((Er t (s.2.2.1,s.2.2.2.1)).1 > IntKind.wrap .i64 (2 * (Er t (s.1,s.2.1)).1)) <;> rfl
end
end Go.Proofs.Ytegoimldbgdeiaa
namespace Go.Proofs.Ytegoimldbgdeiaa
open Go Go.Am
set_option maxRecDepth 100000
theorem Bn {V X:Type} {rd:V→Option (V ⊕ X)} (l:List Int) (E:Nat→V) (ex:Int→X) (fin:X)
  (h:∀ k (hk:k < l.length),rd (E k)=some (if l[k]=0 then .inl (E (k+1)) else .inr (ex l[k]))) (h0:rd (E l.length)=some (.inr fin)) (n:Nat) (hn:l.length < n) :
  aF rd n (E 0)=some (if bE l=0 then fin else ex (bE l)):=by
 have key:=gD (rd:=rd) (S:=Unit) (Y:=Int) l (fun _ k=>E k) (fun _ x=>if x=0 then .inl () else .inr x) (fun _=>fin) ex (fun _ _=>True)
  (fun s k hk _=>⟨by rw [h k hk]; by_cases e:l[k]=0 <;> simp [e],fun _ _=>trivial⟩) (fun _ _=>h0) n () 0 (Nat.zero_le _) (by omega) trivial
 rw [List.drop_zero] at key
 refine key.trans (congrArg some ?_)
 clear key h h0 hn
 induction l with
 | nil=>rfl
 | cons x l ih=>
  simp only [foldI,bE]
  by_cases e:x=0
  ·simp only [e,if_true,Sum.elim_inl]; exact ih
  ·simp [e]
theorem yf {α:Type} (q:α→Bool):∀ (l:List α) (s:Nat),(l.any q=true∧∃ i:Nat,foldI (fun (s:Nat) x=>if q x=true then .inr s else .inl (s+1)) s l=(.inr i:Nat ⊕ Nat))∨(l.any q=false∧∃ i:Nat,foldI (fun (s:Nat) x=>if q x=true then .inr s else .inl (s+1)) s l=(.inl i:Nat ⊕ Nat))
 | [],s=>.inr ⟨rfl,s,rfl⟩
 | x :: l,s=>by
  rw [List.any_cons]
  unfold foldI
  cases h:q x with
  | true=>exact .inl ⟨rfl,s,rfl⟩
  | false=>
   simp only [Bool.false_or,reduceCtorEq,if_false,Sum.elim_inl]
   exact yf q l (s+1)
section
variable {N:Nat} (hN:fA N)
include hN
theorem PD (t:fS):TB N t=some (lP t):=by
 rw [Pq]
 unfold lP
 simp only [List.length_map]
 by_cases h0:t.1.length=0
 ·rw [show (((t.1.length:Nat):Int) == 0)=true by simp [h0],if_pos h0]; rfl
 ·rw [show (((t.1.length:Nat):Int) == 0)=false by simp; exact fun h=>h0 (by rw [h]; rfl),if_neg h0]
  by_cases h1:t.1.length > 16
  ·have d:decide (((t.1.length:Nat):Int) > 16)=true:=by simp; omega
   rw [d,if_pos h1]; rfl
  ·have d:decide (((t.1.length:Nat):Int) > 16)=false:=by simp; omega
   rw [d,if_neg h1]
   have k1:=eO (rd:=qT N t) (t.1.mapIdx fun k x=>sL (t.1.take k) x) (fun j hj=>by
    rw [List.length_mapIdx] at hj
    simp only [qT,List.length_map,Ie,Ig,Bool.and_true,cond_true,Option.bind_some,aB hj,PA hN t.1 j hj (by omega),a6 (show j < 9223372036854775807 by omega),List.getElem_mapIdx]
    by_cases hz:sL (t.1.take j) t.1[j]=0
    ·rw [hz]; rfl
    ·rw [A6 hz,if_neg hz]; rfl) (by
     rw [List.length_mapIdx]; simp only [qT,List.length_map,aQ,cond_false]) N (by rw [List.length_mapIdx]; unfold fA at hN; omega)
   have k1:aF (qT N t) N 0=some (if lO t.1=0 then .inr () else .inl (lO t.1)):=k1
   rw [k1]
   by_cases h2:lO t.1=0
   ·rw [if_pos h2,if_neg (show ¬ lO t.1≠0 from fun h=>h h2)]
    simp only [cond_false,Option.bind_some,Sum.elim_inr]
    by_cases h3:t.2.length > 64
    ·have d:decide (((t.2.length:Nat):Int) > 64)=true:=by simp; omega
     rw [d,if_pos h3]; rfl
    ·have d:decide (((t.2.length:Nat):Int) > 64)=false:=by simp; omega
     rw [d,if_neg h3]
     have k2:=eO (rd:=qU N t) (t.2.mapIdx fun k s=>n6 t (t.2.take k) s) (fun j hj=>by
      rw [List.length_mapIdx] at hj
      obtain ⟨a1,a2⟩:=Ep t.2 hj
      have q:Pj N ((t.1,t.2),t.2.take j,(t.2[j].1,t.2[j].2.1,t.2[j].2.2.1,t.2[j].2.2.2.1,t.2[j].2.2.2.2))=some (n6 t (t.2.take j) t.2[j]):=PB hN t (t.2.take j) t.2[j] (by rw [List.length_take]; omega)
      simp only [qU,List.length_map,Int.toNat_natCast,qW,a1,a2,Ie,Ig,En,Eo,Bool.and_true,Bool.and_self,cond_true,Option.bind_some,aB hj,ar hj,qX (Nat.le_of_lt hj),q,a6 (show j < 9223372036854775807 by omega),List.getElem_mapIdx]
      by_cases hz:n6 t (t.2.take j) t.2[j]=0
      ·rw [hz]; rfl
      ·rw [A6 hz,if_neg hz]; rfl) (by
       rw [List.length_mapIdx]; simp only [qU,List.length_map,aQ,cond_false]) N (by rw [List.length_mapIdx]; unfold fA at hN; omega)
     have k2:aF (qU N t) N 0=some (if wo t=0 then .inr () else .inl (wo t)):=k2
     rw [k2]
     by_cases h4:wo t=0
     ·rw [if_pos h4,h4]; rfl
     ·rw [if_neg h4]; rfl
   ·rw [if_neg h2,if_pos h2]; rfl
theorem FM (l:List wZ) (k:Nat) (hk:k < l.length) (hl:l.length≤1000000) (nm:List UInt8) (sd:List (Int × Int)) :
  ∃ o,aF (ks N l (k:Int)) N (0,nm,sd)=some o∧((((l.take k).any fun y=>y.1 == nm)=true∧∃ i:Nat,o=.inl ((i:Int),nm,sd))∨(((l.take k).any fun y=>y.1 == nm)=false∧o=.inr (nm,sd))):=by
 have ht:(l.take k).length=k:=by rw [List.length_take]; omega
 have key:=gD (rd:=ks N l (k:Int)) (S:=Nat) (Y:=Nat) (l.take k) (fun _ j=>((j:Int),nm,sd)) (fun s x=>if (x.1 == nm)=true then .inr s else .inl (s+1)) (fun _=>.inr (nm,sd)) (fun i=>.inl ((i:Int),nm,sd)) (fun s j=>s=j)
  (fun s j hj hs=>by
   subst hs
   refine ⟨?_,fun s' I4=>by split at I4 <;> simp_all⟩
   obtain ⟨a1,a2⟩:=qM (l.take k) hj
   rw [ht] at hj
   simp only [ks,List.length_map,Int.toNat_natCast,qW,a1,a2,ht,aB hj,ar hj,Bool.and_self,Bool.and_true,cond_true,vK,vL,Option.bind_some,a6 (show s < 9223372036854775807 by omega)]
   cases (l.take k)[s].1 == nm <;> rfl)
  (fun s hs=>by
   rw [ht]
   simp only [ks,List.length_map,Int.toNat_natCast,qW,ht,aQ,cond_false,Bool.and_true,cond_true,vK,vL,Option.bind_some]) N 0 0 (Nat.zero_le _) (by rw [ht]; unfold fA at hN; omega) rfl
 refine ⟨_,key,?_⟩
 rw [List.drop_zero]
 rcases yf (fun y:wZ=>y.1 == nm) (l.take k) 0 with ⟨h,i,e⟩ | ⟨h,i,e⟩
 ·exact .inl ⟨h,i,by rw [e]; rfl⟩
 ·exact .inr ⟨h,by rw [e]; rfl⟩
theorem FN (y:Int) (nm:List UInt8) (sd:List (Int × Int)) (hl:sd.length≤1000000):aF (lK N (y,nm,sd)) N (0,nm,sd)=some (if bE (sd.map lN)=0 then .inr (nm,sd) else .inl (bE (sd.map lN),nm,sd)):=by
 exact Bn (rd:=lK N (y,nm,sd)) (sd.map lN) (fun j=>((j:Int),nm,sd)) (fun e=>.inl (e,nm,sd)) (.inr (nm,sd)) (fun j hj=>by
  rw [List.length_map] at hj
  obtain ⟨a1,a2⟩:=L3 sd hj
  have ex:∀ x y:Int,(bif (allFit (ah.fits D5) [(AV.int .i64 x),(AV.int .i64 y)]) then some (List.map d29 [(AV.int .i64 x),(AV.int .i64 y)]) else none:Option (List Int))=some [x,y]:=fun x y=>rfl
  simp only [lK,List.length_map,Int.toNat_natCast,a1,a2,aB hj,ar hj,Bool.and_self,Bool.and_true,cond_true,vK,vL,a6 (show j < 9223372036854775807 by omega),List.getElem_map,KM,Option.bind_some,beq_self_eq_true,ex,oz hN _ (show [IS sd[j].1 1 10000,IS sd[j].2 (-100000) 100000].length≤9223372036854775806 by simp)]
  show (bif lN sd[j] != 0 then _ else _)=_
  by_cases hz:lN sd[j]=0
  ·rw [hz]; rfl
  ·rw [A6 hz,if_neg hz]; rfl) (by
   simp only [lK,List.length_map,aQ,cond_false,vK,vL,Bool.and_true,cond_true,Option.bind_some]) N (by rw [List.length_map]; unfold fA at hN; omega)
theorem KO (l:List wZ) (hl:l.length≤1000000):Tq N l=some (lO l):=by
 rw [Oo]
 have key:=eO (rd:=zs N l) (l.mapIdx fun k x=>sL (l.take k) x) (fun k hk=>by
  rw [List.length_mapIdx] at hk
  obtain ⟨a1,a2⟩:=qM l hk
  obtain ⟨o,ho,hc⟩:=FM hN l k hk hl l[k].1 l[k].2
  have ex:∀ x y z:Int,(bif (allFit (ah.fits D5) [(AV.int .i64 x),(AV.int .i64 y),(AV.int .i64 z)]) then some (List.map d29 [(AV.int .i64 x),(AV.int .i64 y),(AV.int .i64 z)]) else none:Option (List Int))=some [x,y,z]:=fun x y z=>rfl
  have hm:∃ c:Int,(decide (c≥0))=((l.take k).any fun y=>y.1 == l[k].1)∧∀ (F:(Int × List UInt8 × List (Int × Int))→Option (Int ⊕ (Int ⊕ Unit))),((Sum.elim (fun rm=>(some (rm.1,rm.2.1,rm.2.2):Option (Int × List UInt8 × List (Int × Int)))) (fun nV=>some ((-1:Int),nV.1,nV.2)) o).bind F)=F (c,l[k].1,l[k].2):=by
   rcases hc with ⟨h,i,rfl⟩ | ⟨h,rfl⟩
   ·exact ⟨(i:Int),by rw [h]; simp,fun F=>rfl⟩
   ·exact ⟨-1,by rw [h]; simp,fun F=>rfl⟩
  obtain ⟨c,Rp,E4⟩:=hm
  simp only [zs,List.length_map,Int.toNat_natCast,a1,a2,aB hk,ar hk,qX (Nat.le_of_lt hk),Bool.and_self,Bool.and_true,cond_true,vK,vL,Option.bind_some,ho,E4,Il hN,HN,beq_self_eq_true,qV,Rp,ex,a6 (show k < 9223372036854775807 by omega),List.getElem_mapIdx]
  have e1:∀ z:Int,IT N [if (!iz l[k].1)=true then 8 else 0,if ((l.take k).any fun y=>y.1 == l[k].1)=true then 9 else 0,z]=some (if iz l[k].1=false then 8 else if ((l.take k).any fun y=>y.1 == l[k].1)=true then 9 else z):=fun z=>by
   rw [oz hN [_,_,_] (show 3≤9223372036854775806 by omega)]
   cases iz l[k].1 <;> cases (l.take k).any fun y=>y.1 == l[k].1
   ·rfl
   ·rfl
   ·show some (bE [0,0,z])=some z
    unfold bE bE bE bE
    by_cases hz:z=0
    ·rw [hz]; rfl
    ·simp [hz]
   ·rfl
  simp only [e1,Option.bind_some,if_true]
  unfold sL
  have e2:∀ F:(Int × List UInt8 × List (Int × Int))→Option (Int ⊕ (Int ⊕ Unit)),((bif decide (((l[k].2.length:Nat):Int) < 3) then (some ((if iz l[k].1=false then 8 else if ((l.take k).any fun y=>y.1 == l[k].1)=true then 9 else 2),l[k].1,l[k].2)) else some ((if iz l[k].1=false then 8 else if ((l.take k).any fun y=>y.1 == l[k].1)=true then 9 else if decide (((l[k].2.length:Nat):Int) > 8)=true then 2 else 0),l[k].1,l[k].2):Option (Int × List UInt8 × List (Int × Int))).bind F)=F ((if iz l[k].1=false then 8 else if ((l.take k).any fun y=>y.1 == l[k].1)=true then 9 else if l[k].2.length < 3∨l[k].2.length > 8 then 2 else 0),l[k].1,l[k].2):=fun F=>by
   by_cases h3:l[k].2.length < 3
   ·have d:decide (((l[k].2.length:Nat):Int) < 3)=true:=by simp; omega
    rw [d,if_pos (show l[k].2.length < 3∨l[k].2.length > 8 from .inl h3)]; rfl
   ·have d:decide (((l[k].2.length:Nat):Int) < 3)=false:=by simp; omega
    rw [d]
    by_cases h8:l[k].2.length > 8
    ·have d':decide (((l[k].2.length:Nat):Int) > 8)=true:=by simp; omega
     rw [d',if_pos (show l[k].2.length < 3∨l[k].2.length > 8 from .inr h8)]; rfl
    ·have d':decide (((l[k].2.length:Nat):Int) > 8)=false:=by simp; omega
     rw [d',if_neg (show ¬ (l[k].2.length < 3∨l[k].2.length > 8) by omega)]; rfl
  rw [e2]
  cases iz l[k].1 with
  | false=>rfl
  | true=>
   cases (l.take k).any fun y=>y.1 == l[k].1 with
   | true=>rfl
   | false=>
    simp only [reduceCtorEq,if_false]
    by_cases h3:l[k].2.length < 3∨l[k].2.length > 8
    ·rw [if_pos h3,if_pos h3]; rfl
    ·rw [if_neg h3,if_neg h3,FN hN 0 l[k].1 l[k].2 (by omega)]
     by_cases hz:bE (l[k].2.map lN)=0
     ·rw [if_pos hz,hz]; rfl
     ·rw [if_neg hz,if_neg hz]; rfl) (by
   rw [List.length_mapIdx]; simp only [zs,List.length_map,aQ,cond_false]) N (by rw [List.length_mapIdx]; unfold fA at hN; omega)
 rw [key]
 unfold lO
 by_cases hz:bE (l.mapIdx fun k x=>sL (l.take k) x)=0
 ·rw [if_pos hz,hz]; rfl
 ·rw [if_neg hz]; rfl
theorem Dl (t:fS):LG N t=some (lP t):=by
 rw [show LG N t=LG N (t.1,t.2) from rfl,Ow]
 unfold lP
 obtain ⟨m,hm,hm1,hm2⟩:∃ m:Nat,(if (16:Int) < ((t.1.length:Nat):Int) then (16:Int) else ((t.1.length:Nat):Int))=(m:Int)∧m≤t.1.length∧(t.1.length≤16→m=t.1.length):=by
  by_cases h:t.1.length > 16
  ·exact ⟨16,if_pos (by omega),by omega,by omega⟩
  ·exact ⟨t.1.length,if_neg (by omega),Nat.le_refl _,fun _=>rfl⟩
 have hm3:m≤16:=by
  by_cases h:t.1.length > 16
  ·rw [if_pos (by omega)] at hm; omega
  ·omega
 have ht:(t.1.take m).length≤1000000:=by rw [List.length_take]; omega
 have ex:∀ x y z u:Int,(bif (allFit (ah.fits D5) [(AV.int .i64 x),(AV.int .i64 y),(AV.int .i64 z),(AV.int .i64 u)]) then some (List.map d29 [(AV.int .i64 x),(AV.int .i64 y),(AV.int .i64 z),(AV.int .i64 u)]) else none:Option (List Int))=some [x,y,z,u]:=fun x y z u=>rfl
 simp only [List.length_map,hm,Int.toNat_natCast,qX hm1,qW,qV,beq_self_eq_true,Ef,Bc,Bool.and_true,Bool.and_self,cond_true,Option.bind_some,bW,bX,KO hN _ ht,ex,oz hN [_,_,_,_] (show 4≤9223372036854775806 by omega)]
 by_cases h0:t.1.length=0
 ·rw [show (((t.1.length:Nat):Int) == 0)=true by simp [h0],if_pos h0]; rfl
 ·rw [show (((t.1.length:Nat):Int) == 0)=false by simp; exact fun h=>h0 (by rw [h]; rfl),if_neg h0]
  by_cases h1:t.1.length > 16
  ·have d:decide (((t.1.length:Nat):Int) > 16)=true:=by simp; omega
   rw [d,if_pos h1]; rfl
  ·have d:decide (((t.1.length:Nat):Int) > 16)=false:=by simp; omega
   rw [d,if_neg h1,hm2 (by omega),List.take_length]
   by_cases h2:lO t.1=0
   ·rw [h2,if_neg (show ¬ ((0:Int)≠0) by decide)]
    by_cases h3:t.2.length > 64
    ·have d:decide (((t.2.length:Nat):Int) > 64)=true:=by simp; omega
     rw [d,if_pos h3]; rfl
    ·have d:decide (((t.2.length:Nat):Int) > 64)=false:=by simp; omega
     rw [d,if_neg h3]
     have k2:=eO (rd:=vV N t) (t.2.mapIdx fun k s=>n6 t (t.2.take k) s) (fun j hj=>by
      rw [List.length_mapIdx] at hj
      obtain ⟨a1,a2⟩:=vQ t.2 hj
      have q:Oq N ((t.1,t.2),(t.2[j].1,t.2[j].2.1,t.2[j].2.2.1,t.2[j].2.2.2.1,t.2[j].2.2.2.2),t.2.take j)=some (n6 t (t.2.take j) t.2[j]):=PC hN t (t.2.take j) t.2[j] (by rw [List.length_take]; omega)
      simp only [vV,List.length_map,Int.toNat_natCast,qW,a1,a2,bW,bX,ca,cb,Bool.and_true,Bool.and_self,cond_true,Option.bind_some,aB hj,ar hj,qX (Nat.le_of_lt hj),q,a6 (show j < 9223372036854775807 by omega),List.getElem_mapIdx]
      by_cases hz:n6 t (t.2.take j) t.2[j]=0
      ·rw [hz]; rfl
      ·rw [A6 hz,if_neg hz]; rfl) (by
       rw [List.length_mapIdx]; simp only [vV,List.length_map,aQ,cond_false]) N (by rw [List.length_mapIdx]; unfold fA at hN; omega)
     have k2:aF (vV N (t.1,t.2)) N 0=some (if wo t=0 then .inr () else .inl (wo t)):=k2
     rw [k2]
     by_cases h4:wo t=0
     ·rw [if_pos h4,h4]; rfl
     ·rw [if_neg h4]; rfl
   ·rw [if_pos (show lO t.1≠0 from h2)]
    have ef:∀ z:Int,bE [if false=true then 12 else 0,if false=true then 5 else 0,lO t.1,z]=lO t.1:=fun z=>by
     show bE [0,0,lO t.1,z]=_
     simp [bE,h2]
    rw [ef,A6 h2]; rfl
end
end Go.Proofs.Ytegoimldbgdeiaa
