/- Plain laws: names. -/
import Derived.Test.YtegoimldbgdeiaaTrwD
import Derived.Test.YtegoimldbgdeiaaSeamKB
set_option linter.all false
namespace Go.Proofs.Ytegoimldbgdeiaa
open Go Go.Am
open List (map)
open Int (toNat)
open Go.IntKind (wrap)
open Go.Am.aM (fits)
set_option maxRecDepth 100000
def qF (first:Bool) (c:Int):Bool:=
 !(decide (c≥65)&&decide (c≤90) || decide (c≥97)&&decide (c≤122))&&(first || (c != 95&&(decide (c < 48) || decide (c > 57))))
def ko (first:Bool):List UInt8→Bool
 |[]=>true
 |c :: l=>!qF first (c.toNat:Int)&&ko false l
def ER (s:List UInt8):Bool:=decide (s.length≠0∧s.length≤24)
def jS (s:List UInt8):Bool:=ER s&&ko true s
theorem M0 (s:List UInt8):(((bif ((((s).length:Nat):Int) == 0) then (some true) else (some (decide ((((s).length:Nat):Int) > 24)))):Option Bool))=some (!ER s):=by
 unfold ER;by_cases h0:s.length=0
 ·simp [h0]
 ·rw [abw (by omega)];by_cases h1:s.length≤24
  ·have:decide (((s.length:Nat):Int) > 24)=false:=by simp; omega
   rw [this]; simp [h0,h1]
  ·have:decide (((s.length:Nat):Int) > 24)=true:=by simp; omega
   rw [this]; simp [h1]
theorem J4 (l:List UInt8):∀ (first:Bool),foldI (fun (b:Bool) (c:UInt8)=>if qF b (c.toNat:Int) then (.inr ():Bool ⊕ Unit) else .inl false) first l=if ko first l then .inl (if l.isEmpty then first else false) else .inr ():=by
 induction l with
 |nil=>intro b; rfl
 |cons c l ih=>
  intro b;simp only [foldI,ko];by_cases h:qF b (c.toNat:Int)=true
  ·simp [h]
  ·have h':qF b (c.toNat:Int)=false:=by simpa using h
   simp only [h',Bool.false_eq_true,if_false,Sum.elim_inl,Bool.not_false,Bool.true_and,ih false];by_cases h2:ko false l=true <;> simp [h2]
theorem M1 {N:Nat} (hN:ey N) (s:List UInt8):Z2 N s=some (jS s):=by
 rw [U2,M0];simp only [Option.bind_some];unfold jS;cases wQ:ER s with
 |false=>rfl
 |true=>
  have hl:=of_decide_eq_true (show decide (s.length≠0∧s.length≤24)=true from wQ);simp only [Bool.not_true,cond_false,Bool.true_and];have key:=fQ (rd:=zW N s) s (fun (b:Bool) k=>(k:Int)) (fun b (c:UInt8)=>if qF b (c.toNat:Int) then (.inr ():Bool ⊕ Unit) else .inl false) (fun _=>.inr ()) (fun _=>.inl false) (fun b k=>b=(k == 0))
   (fun b k hk hb=>by
    refine ⟨?_,fun s' h'=>?_⟩
    ·subst hb;have e1:s.getD k 0=s[k]:=by simp [hk]
     have e2:((k:Int) == 0)=(k == 0):=by cases k <;> simp; omega
     unfold zW;simp only [Int.toNat_natCast,ap hk,ah hk,cond_true,aR (by omega:k < 9223372036854775807),e1,e2];unfold qF;generalize ((s[k].toNat:Nat):Int)=c;generalize decide (c≥97)=b1;generalize decide (c≤122)=b2;generalize decide (c≥65)=b3;generalize decide (c≤90)=b4;generalize (c != 95)=b5;generalize decide (c < 48)=b6;generalize decide (c > 57)=b7;generalize (k == 0)=b0;cases b0 <;> cases b1 <;> cases b2 <;> cases b3 <;> cases b4 <;> cases b5 <;> cases b6 <;> cases b7 <;> rfl
    ·split at h'
     ·cases h'
     ·cases h'; simp)
   (fun b _=>by
    unfold zW;simp only [aJ,cond_false]) N true 0 (Nat.zero_le _) (by unfold ey at hN; omega) rfl
  have Vk:ar (V:=Int) (X:=Bool ⊕ Unit) (zW N s) N 0=_:=key;simp only [Vk,Option.bind_some,List.drop_zero,J4];cases ko true s <;> rfl
theorem ES {b:Bool} {c:Int} (h:128≤c):qF b c=true:=by
 unfold qF;have h1:decide (c≤90)=false:=by simp; omega
 have h2:decide (c≤122)=false:=by simp; omega
 have h3:(c != 95)=true:=by simp; omega
 have h4:decide (c > 57)=true:=by simp; omega
 rw [h1,h2,h3,h4];cases b <;> simp
theorem M2 {N:Nat} (hN:ey N) (s:List UInt8):ZV N s=some (jS s):=by
 rw [Uh,M0];simp only [Option.bind_some];unfold jS;cases wQ:ER s with
 |false=>rfl
 |true=>
  have hl:=of_decide_eq_true (show decide (s.length≠0∧s.length≤24)=true from wQ);simp only [Bool.not_true,cond_false,Bool.true_and];have key:=fQ (rd:=zP N) s (fun (p:Nat) k=>(s,(k:Int))) (fun p (c:UInt8)=>if qF (p == 0) (c.toNat:Int) then (.inr (p+(cq s p).2):Nat ⊕ Nat) else .inl (p+1)) (fun p=>.inl (s,(p:Int))) (fun p=>.inr (false,s,(p:Int))) (fun p k=>p=k)
   (fun p k hk hp=>by
    subst hp;refine ⟨?_,fun s' h'=>?_⟩
    ·have e2:((p:Int) == 0)=(p == 0):=by cases p <;> simp; omega
     have e3:Nat.blt p s.length=true:=Nat.ble_eq_true_of_le hk;obtain ⟨r1,r2⟩:=OP s p hk;unfold zP;simp only [Int.toNat_natCast,e3,cond_true,e2];have main:∀ (n:Nat) (c:Int),(((bif (decide (c≥65)) then (bif (decide (c≤90)) then (some (true,s,(((p+n):Nat):Int))) else (bif (decide (c≥97)) then (some ((decide (c≤122)),s,(((p+n):Nat):Int))) else (some (false,s,(((p+n):Nat):Int))))) else (bif (decide (c≥97)) then (some ((decide (c≤122)),s,(((p+n):Nat):Int))) else (some (false,s,(((p+n):Nat):Int))))):Option ((Bool × (List UInt8) × Int))).bind fun o3=>(((bif (!o3.1) then (bif (p == 0) then (some (true,o3.2.1,(((toNat o3.2.2):Nat):Int))) else (bif (c != 95) then (bif (decide (c < 48)) then (some (true,o3.2.1,(((toNat o3.2.2):Nat):Int))) else (some ((decide (c > 57)),o3.2.1,(((toNat o3.2.2):Nat):Int)))) else (some (false,o3.2.1,(((toNat o3.2.2):Nat):Int))))) else (some (false,o3.2.1,(((toNat o3.2.2):Nat):Int)))):Option ((Bool × (List UInt8) × Int))).bind fun o4=>(bif o4.1 then (some (Sum.inr (Sum.inr (false,o4.2.1,(((toNat o4.2.2):Nat):Int)))):Option (((List UInt8) × Int) ⊕ (((List UInt8) × Int) ⊕ (Bool × (List UInt8) × Int)))) else (some (Sum.inl (o4.2.1,(((toNat o4.2.2):Nat):Int))))))) =
       some (bif qF (p == 0) c then Sum.inr (Sum.inr (false,s,((p+n:Nat):Int))) else Sum.inl (s,((p+n:Nat):Int))):=by
      intro n c;unfold qF;generalize decide (c≥97)=b1;generalize decide (c≤122)=b2;generalize decide (c≥65)=b3;generalize decide (c≤90)=b4;generalize (c != 95)=b5;generalize decide (c < 48)=b6;generalize decide (c > 57)=b7;generalize (p == 0)=b0;cases b0 <;> cases b1 <;> cases b2 <;> cases b3 <;> cases b4 <;> cases b5 <;> cases b6 <;> cases b7 <;> rfl
     rw [main];by_cases acJ:s[p].toNat < 128
     ·rw [r1 acJ];by_cases hb:qF (p == 0) (s[p].toNat:Int)=true
      ·simp [hb]
      ·have kM:qF (p == 0) (s[p].toNat:Int)=false:=by simpa using hb
       simp [kM]
     ·have h1:=ES (b:=p == 0) (c:=((cq s p).1:Int)) (by have:=r2 (by omega); omega);have h2:=ES (b:=p == 0) (c:=(s[p].toNat:Int)) (by omega);rw [h1,if_pos h2];rfl
    ·split at h'
     ·cases h'
     ·cases h'; rfl)
   (fun p hp=>by
    subst hp;unfold zP;have e3:Nat.blt s.length s.length=false:=by
     cases hb:Nat.blt s.length s.length with
     |false=>rfl
     |true=>have:=Nat.le_of_ble_eq_true hb; omega
    simp only [Int.toNat_natCast,e3,cond_false]) N 0 0 (Nat.zero_le _) (by unfold ey at hN; omega) rfl
  have Vk:ar (V:=(List UInt8) × Int) (X:=((List UInt8) × Int) ⊕ (Bool × (List UInt8) × Int)) (zP N) N (s,((0:Nat):Int))=_:=key;rw [Vk];simp only [Option.bind_some,List.drop_zero];have gen:∀ (l:List UInt8) (p:Nat) (first:Bool),first=(p == 0)→Sum.elim (fun _=>true) (fun _=>false) (foldI (fun (p:Nat) (c:UInt8)=>if qF (p == 0) (c.toNat:Int) then (.inr (p+(cq s p).2):Nat ⊕ Nat) else .inl (p+1)) p l)=ko first l:=by
   intro l
   induction l with
   |nil=>intro p first _; rfl
   |cons c l ih=>
    intro p first hf
    subst hf;simp only [foldI,ko];by_cases h:qF (p == 0) (c.toNat:Int)=true
    ·simp [h]
    ·have h':qF (p == 0) (c.toNat:Int)=false:=by simpa using h
     simp only [h',Bool.false_eq_true,if_false,Sum.elim_inl,Bool.not_false,Bool.true_and];exact ih (p+1) false (by simp)
  have g:=gen s 0 true rfl;revert g;cases foldI (fun (p:Nat) (c:UInt8)=>if qF (p == 0) (c.toNat:Int) then (.inr (p+(cq s p).2):Nat ⊕ Nat) else .inl (p+1)) 0 s with
  |inl p=>intro g; simp only [Sum.elim_inl] at g ⊢; rw [← g]
  |inr p=>intro g; simp only [Sum.elim_inr] at g ⊢; rw [← g]
end Go.Proofs.Ytegoimldbgdeiaa
namespace Go.Proofs.Ytegoimldbgdeiaa
open Go Go.Am
open List (map)
open Int (toNat)
open Go.IntKind (wrap)
open Go.Am.aM (fits)
set_option maxRecDepth 100000
theorem acK (l:List Int) {k:Nat} (hk:k < l.length):d29 (ab (map n29 l) k)=l[k]∧fits EC (ab (map n29 l) k)=true:=by
 rw [fu n29 l k hk]; exact ⟨rfl,rfl⟩
theorem oe {N:Nat} (hN:ey N) (l:List Int) (hl:l.length≤9223372036854775806):G3 N l=some (bq l):=by
 obtain ⟨o,h1,h2⟩:=zD (rd:=C4 N l) l (fun k hk=>by
  obtain ⟨e1,e2⟩:=acK l hk;simp only [C4,List.length_map,Int.toNat_natCast,e1,e2,aR (show k < 9223372036854775807 by omega),ap hk,ah hk,Bool.and_self,cond_true];by_cases hz:l[k]=0
  ·simp [hz]
  ·simp [hz,Bool.cond_eq_ite]) (by simp only [C4,List.length_map,aJ,cond_false]) N (by unfold ey at hN; omega)
 rw [Tx,h1,Option.bind_some];rcases o with o|o
 ·simpa using h2
 ·simpa using h2
theorem J5 {N:Nat} (hN:ey N) (l:List Int) (hl:l.length≤9223372036854775806):Z3 N l=some (bq l):=by
 obtain ⟨o,h1,h2⟩:=zD (rd:=Dc N l) l (fun k hk=>by
  obtain ⟨e1,e2⟩:=EG l hk;simp only [Dc,List.length_map,Int.toNat_natCast,e1,e2,aR (show k < 9223372036854775807 by omega),ap hk,ah hk,Bool.and_self,cond_true];by_cases hz:l[k]=0
  ·simp [hz]
  ·simp [hz,Bool.cond_eq_ite]) (by simp only [Dc,List.length_map,aJ,cond_false]) N (by unfold ey at hN; omega)
 rw [U4,h1,Option.bind_some];rcases o with o|o
 ·simpa using h2
 ·simpa using h2
theorem mr (N:Nat) (b:Bool) (e:Int):Ao N (b,e)=some (if b then e else 0):=by
 rw [Tz]; cases b <;> rfl
theorem P4 (N:Nat) (n lo hi:Int):Ye N (n,lo,hi)=some (NG n lo hi):=by
 rw [TB];simp only [mr];unfold NG;by_cases h1:n < lo
 ·simp [h1]
 ·by_cases h2:n > hi <;> simp [h1,h2]
theorem P5 (N:Nat) (n lo hi:Int):Y8 N (n,lo,hi)=some (NG n lo hi):=by
 rw [U6];unfold NG;by_cases h1:n < lo
 ·simp [h1]
 ·by_cases h2:n > hi <;> simp [h1,h2]
section
variable {N:Nat} (hN:ey N)
include hN
end
end Go.Proofs.Ytegoimldbgdeiaa
namespace Go.Proofs.Ytegoimldbgdeiaa
open Go Go.Am
open List (map)
open Int (toNat)
open Go.IntKind (wrap)
open Go.Am.aM (fits)
set_option maxRecDepth 100000
theorem Dd (l:List AS) {k:Nat} (hk:k < l.length):d74 (ab (map rm l) k)=l[k]∧fits Au (ab (map rm l) k)=true:=by
 rw [fu rm l k hk,acC,acB]; exact ⟨rfl,rfl⟩
theorem ur (l:List pH) {k:Nat} (hk:k < l.length):d113 (ab (map n113 l) k)=l[k]∧fits pq (ab (map n113 l) k)=true:=by
 rw [fu n113 l k hk]; exact ⟨rfl,rfl⟩
theorem Vl (l:List (Int × Int)) {k:Nat} (hk:k < l.length):d71 (ab (map NS l) k)=l[k]∧fits Wy (ab (map NS l) k)=true:=by
 rw [fu NS l k hk]; exact ⟨rfl,rfl⟩
theorem Rr (l:List (Int × Int)) {k:Nat} (hk:k < l.length):d132 (ab (map n132 l) k)=l[k]∧fits wY (ab (map n132 l) k)=true:=by
 rw [fu n132 l k hk]; exact ⟨rfl,rfl⟩
theorem Zc:∀ l:List (Int × Int),bk (map NS l) (map NS l)=true
 |[]=>rfl
 |x :: l=>by
  rw [List.map_cons,bk,Zc l];show (bk [AV.int .i64 x.1,AV.int .i64 x.2] [AV.int .i64 x.1,AV.int .i64 x.2]&&true)=true;simp [bk,dv,sS]
theorem Vm:∀ l:List AS,bk (map rm l) (map rm l)=true
 |[]=>rfl
 |x :: l=>by
  rw [List.map_cons,bk,Vm l];have e:bk (map NS x.2) (map NS x.2)=true:=Zc x.2;show (bk [AV.str x.1,AV.list .ea 2 (map NS x.2)] [AV.str x.1,AV.list .ea 2 (map NS x.2)]&&true)=true;simp only [bk,dv,sS,e,beq_self_eq_true,Nat.beq_refl,Bool.and_self]
theorem ET:∀ l:List pH,bk (map n113 l) (map n113 l)=true
 |[]=>rfl
 |x :: l=>by
  rw [List.map_cons,bk,ET l];show (bk [AV.int .i64 x.1,AV.int .i64 x.2.1,AV.int .i64 x.2.2.1,AV.int .i64 x.2.2.2.1,AV.bool x.2.2.2.2] [AV.int .i64 x.1,AV.int .i64 x.2.1,AV.int .i64 x.2.2.1,AV.int .i64 x.2.2.2.1,AV.bool x.2.2.2.2]&&true)=true;simp [bk,dv,sS]
theorem uu {α:Type} (f:α→AV) (l:List α) (k:Nat):jC 0 k (map f l)=map f (l.take k):=by simp [jC,List.map_take]
theorem uv {k n:Nat} (h:k≤n):decide ((0:Int)≤(k:Int)∧(k:Int)≤(n:Int))=true:=by simp; omega
def rK (t:cu) (e:Int × Int):Bool:=decide (0≤e.1)&&(decide (e.1 < (t.1.length:Int))&&(decide (0≤e.2)&&decide (e.2 < (Pz t e.1:Int))))
def Iw (t:cu) (e:Int × Int):Int × Int:=((t.1.getD e.1.toNat ([],[])).2).getD e.2.toNat (0,0)
theorem Hh (t:cu) {k:Nat} (hk:k < t.1.length):Pz t (k:Int)=t.1[k].2.length:=by
 unfold Pz;rw [Int.toNat_natCast,List.getD_eq_getElem?_getD,List.getElem?_eq_getElem hk]; rfl
theorem M3 (t:cu) {k:Nat} (hk:k < t.1.length) {i:Nat} (hi:i < t.1[k].2.length):Iw t ((k:Int),(i:Int))=t.1[k].2[i]:=by
 unfold Iw;rw [Int.toNat_natCast,Int.toNat_natCast,List.getD_eq_getElem?_getD,List.getD_eq_getElem?_getD,List.getElem?_eq_getElem hk];show (t.1[k].2[i]?).getD (0,0)=_;rw [List.getElem?_eq_getElem hi]; rfl
theorem xD {t:cu} {e:Int × Int} (h:rK t e=true):∃ k i:Nat,e=((k:Int),(i:Int))∧∃ hk:k < t.1.length,i < t.1[k].2.length:=by
 unfold rK at h;simp only [Bool.and_eq_true,decide_eq_true_eq] at h;obtain ⟨h1,h2,h3,h4⟩:=h;refine ⟨e.1.toNat,e.2.toNat,Prod.ext (by omega) (by omega),by omega,?_⟩;have hk:e.1.toNat < t.1.length:=by omega
 have:=Hh t hk;rw [show ((e.1.toNat:Nat):Int)=e.1 by omega] at this;omega
theorem Ix (N:Nat) (t:cu) (e:Int × Int):Y9 N (t,e)=some (rK t e):=by
 obtain ⟨p,s⟩:=e;rw [U8];unfold rK;dsimp only;by_cases h1:0≤p
 ·obtain ⟨k,rfl⟩:∃ k:Nat,p=(k:Int):=⟨p.toNat,by omega⟩;by_cases h2:k < t.1.length
  ·obtain ⟨a1,a2⟩:=Dd t.1 h2;rw [Hh t h2];simp only [List.length_map,Int.toNat_natCast,a1,a2,ah h2,ap h2,Bool.and_self,cond_true,ge_iff_le,decide_eq_true h1,Bool.true_and];by_cases h3:0≤s
   ·rw [decide_eq_true h3]; rfl
   ·rw [decide_eq_false h3]; rfl
  ·have d:decide ((k:Int) < (t.1.length:Int))=false:=by simp; omega
   simp only [List.length_map,d,ge_iff_le,decide_eq_true h1,cond_true,cond_false,Bool.true_and,Bool.false_and,Option.bind_some]
 ·simp only [ge_iff_le,decide_eq_false h1,cond_false,Bool.false_and,Option.bind_some]
theorem Iy (N:Nat) (t:cu) (e:Int × Int):Yf N (t,e)=some (rK t e):=by
 obtain ⟨p,s⟩:=e;rw [TD];unfold rK;dsimp only;by_cases h1:0≤p
 ·obtain ⟨k,rfl⟩:∃ k:Nat,p=(k:Int):=⟨p.toNat,by omega⟩;by_cases h2:k < t.1.length
  ·obtain ⟨a1,a2⟩:=zL t.1 h2;rw [Hh t h2];simp only [List.length_map,Int.toNat_natCast,a1,a2,ah h2,ap h2,Bool.and_self,cond_true,ge_iff_le,decide_eq_true h1,Bool.true_and];by_cases h3:0≤s
   ·rw [decide_eq_true h3]; rfl
   ·rw [decide_eq_false h3]; rfl
  ·have d:decide ((k:Int) < (t.1.length:Int))=false:=by simp; omega
   simp only [List.length_map,d,ge_iff_le,decide_eq_true h1,cond_true,cond_false,Bool.true_and,Bool.false_and,Option.bind_some]
 ·simp only [ge_iff_le,decide_eq_false h1,cond_false,Bool.false_and,Option.bind_some]
theorem EU (N:Nat) (t:cu) (e:Int × Int) (h:rK t e=true):Za N (t,e)=some (Iw t e):=by
 obtain ⟨k,i,rfl,hk,hi⟩:=xD h;obtain ⟨a1,a2⟩:=Dd t.1 hk;obtain ⟨b1,b2⟩:=Vl t.1[k].2 hi;rw [Vc,M3 t hk hi];simp only [List.length_map,Int.toNat_natCast,a1,a2,b1,b2,ah hk,ah hi,Bool.and_self,cond_true]
theorem EV (N:Nat) (t:cu) (e:Int × Int) (h:rK t e=true):Yg N (t,e)=some (Iw t e):=by
 obtain ⟨k,i,rfl,hk,hi⟩:=xD h;obtain ⟨a1,a2⟩:=zL t.1 hk;obtain ⟨b1,b2⟩:=Rr t.1[k].2 hi;rw [TF,M3 t hk hi];simp only [List.length_map,Int.toNat_natCast,a1,a2,b1,b2,ah hk,ah hi,Bool.and_self,cond_true]
def Av (a b:Int × Int):Bool:=(a.1 == b.1)&&(a.2 == b.2)
theorem EW (a b c d:Int):((a == c)&&(b == d))=Av (a,b) (c,d):=rfl
theorem BW (a b c d:Int):((a == c)&&((b == d)&&true))=Av (a,b) (c,d):=by rw [Bool.and_true]; rfl
theorem xF {a b:Int × Int}:Av a b=true↔a=b:=by
 unfold Av;rw [Bool.and_eq_true,beq_iff_eq,beq_iff_eq];exact ⟨fun h=>Prod.ext h.1 h.2,fun h=>by rw [h]; exact ⟨rfl,rfl⟩⟩
theorem uw (a b:Int × Int):Av a b=Av b a:=by
 apply Bool.eq_iff_iff.2;rw [xF,xF];exact ⟨fun h=>h.symm,fun h=>h.symm⟩
def og (s:Int × Int):Int:=bq [NG s.1 1 10000,NG s.2 (-100000) 100000]
def wz (b:List AS) (x:AS):Int:=
 if jS x.1=false then 8 else if (b.any fun y=>y.1 == x.1)=true then 9 else if x.2.length < 3∨x.2.length > 8 then 2 else bq (x.2.map og)
def Hi (s x:pH):Bool:=Av (x.1,x.2.1) (s.1,s.2.1) || (Av (x.1,x.2.1) (s.2.2.1,s.2.2.2.1) || (Av (x.2.2.1,x.2.2.2.1) (s.1,s.2.1) || Av (x.2.2.1,x.2.2.2.1) (s.2.2.1,s.2.2.2.1)))
def M4 (a b:Int):Bool:=decide (a > wrap .i64 (2 * b)) || decide (b > wrap .i64 (2 * a))
def oh (t:cu) (b:List pH) (s:pH):Int:=
 if (rK t (s.1,s.2.1)&&rK t (s.2.2.1,s.2.2.2.1))=false then 10 else
  if Av (s.1,s.2.1) (s.2.2.1,s.2.2.2.1)=true then 9 else if (b.any (Hi s))=true then 9 else
   if M4 (Iw t (s.1,s.2.1)).1 (Iw t (s.2.2.1,s.2.2.2.1)).1=true then 24 else 0
def mW (l:List AS):Int:=bq (l.mapIdx fun k x=>wz (l.take k) x)
def ux (t:cu):Int:=bq (t.2.mapIdx fun k s=>oh t (t.2.take k) s)
def dD (t:cu):Int:=
 if t.1.length=0 then 12 else if t.1.length > 16 then 5 else if mW t.1≠0 then mW t.1 else if t.2.length > 64 then 5 else ux t
theorem mX {α:Type} (q:α→Bool) (c:Int) (hc:c≠0):∀ l:List α,bq (l.map fun y=>if q y=true then c else 0)=if l.any q=true then c else 0
 |[]=>rfl
 |y :: l=>by
  rw [List.map_cons,List.any_cons];unfold bq;rw [mX q c hc l];cases q y with
  |true=>simp [hc]
  |false=>simp
theorem Iz {c:Int} (hc:c≠0) (b:Bool):(if (if b=true then c else 0)=0 then .inr () else .inl (if b=true then c else 0):Int ⊕ Unit)=if b=true then .inl c else .inr ():=by
 cases b with
 |true=>rw [if_pos rfl,if_neg hc]; rfl
 |false=>rfl
section
variable {N:Nat} (hN:ey N)
include hN
theorem J6 (l:List AS) (k:Nat) (hk:k < l.length) (hl:l.length≤1000000):ar (zY N l (k:Int)) N 0=some (if ((l.take k).any fun y=>y.1 == l[k].1)=true then .inl 9 else .inr ()):=by
 have key:=fG (rd:=zY N l (k:Int)) ((l.take k).map fun y=>if (y.1 == l[k].1)=true then (9:Int) else 0) (fun j hj=>by
  rw [List.length_map,List.length_take] at hj;have hj1:j < k:=by omega
  have hj2:j < l.length:=by omega
  obtain ⟨a1,a2⟩:=Dd l hj2;obtain ⟨b1,b2⟩:=Dd l hk;simp only [zY,List.length_map,Int.toNat_natCast,a1,a2,b1,b2,ap hj1,ah hj2,ah hk,Bool.and_self,cond_true,aR (show j < 9223372036854775807 by omega),List.getElem_map,List.getElem_take];cases l[j].1 == l[k].1 <;> rfl) (by
   have e:((l.take k).map fun y=>if (y.1 == l[k].1)=true then (9:Int) else 0).length=k:=by rw [List.length_map,List.length_take]; omega
   rw [e];simp only [zY,aJ,cond_false]) N (by rw [List.length_map,List.length_take]; unfold ey at hN; omega)
 rw [key,mX _ 9 (by decide)];cases (l.take k).any fun y=>y.1 == l[k].1 <;> rfl
theorem J7 (l:List AS) (k:Nat) (hk:k < l.length) (hl:l[k].2.length≤1000000):ar (um N l (k:Int)) N 0=some (if bq (l[k].2.map og)=0 then .inr () else .inl (bq (l[k].2.map og))):=by
 obtain ⟨b1,b2⟩:=Dd l hk;exact fG (rd:=um N l (k:Int)) (l[k].2.map og) (fun j hj=>by
  rw [List.length_map] at hj;obtain ⟨a1,a2⟩:=Vl l[k].2 hj;have ex:∀ x y:Int,(bif (allFit (fits p3) [(AV.int .i64 x),(AV.int .i64 y)]&&true) then some (map d3 [(AV.int .i64 x),(AV.int .i64 y)]) else none:Option (List Int))=some [x,y]:=fun x y=>rfl
  simp only [um,List.length_map,Int.toNat_natCast,a1,a2,b1,b2,ap hj,ah hj,ah hk,Bool.and_self,cond_true,aR (show j < 9223372036854775807 by omega),List.getElem_map,P5,Option.bind_some,beq_self_eq_true,ex,J5 hN _ (show [NG l[k].2[j].1 1 10000,NG l[k].2[j].2 (-100000) 100000].length≤9223372036854775806 by simp)];show (bif og l[k].2[j] != 0 then _ else _)=_;by_cases hz:og l[k].2[j]=0
  ·rw [hz]; rfl
  ·rw [JO hz,if_neg hz]; rfl) (by
   simp only [um,List.length_map,Int.toNat_natCast,b1,b2,ah hk,Bool.and_self,cond_true,aJ,cond_false]) N (by rw [List.length_map]; unfold ey at hN; omega)
theorem Vn (l:List AS) (k:Nat) (hk:k < l.length) (hl:l.length≤1000000):Z5 N (l,(k:Int))=some (wz (l.take k) l[k]):=by
 obtain ⟨b1,b2⟩:=Dd l hk;rw [Vh];unfold wz;simp only [List.length_map,Int.toNat_natCast,b1,b2,ah hk,Bool.and_self,cond_true,M1 hN,Option.bind_some,J6 hN l k hk hl];cases hn:jS l[k].1 with
 |false=>rfl
 |true=>
  cases ha:(l.take k).any fun y=>y.1 == l[k].1 with
  |true=>rfl
  |false=>
   rw [if_neg (by decide),if_neg (by decide),if_neg (by decide)];by_cases h3:l[k].2.length < 3
   ·have d:decide (((l[k].2.length:Nat):Int) < 3)=true:=by simp; omega
    rw [d,if_pos (.inl h3)]; rfl
   ·have d:decide (((l[k].2.length:Nat):Int) < 3)=false:=by simp; omega
    by_cases h8:l[k].2.length > 8
    ·have d':decide (((l[k].2.length:Nat):Int) > 8)=true:=by simp; omega
     rw [d,d',if_pos (.inr h8)]; rfl
    ·have d':decide (((l[k].2.length:Nat):Int) > 8)=false:=by simp; omega
     rw [d,d',if_neg (by omega),J7 hN l k hk (by omega)];by_cases hz:bq (l[k].2.map og)=0
     ·rw [if_pos hz,hz]; rfl
     ·rw [if_neg hz]; rfl
theorem Vo (t:cu) (b:List pH) (s:pH) (hb:b.length≤1000000):Vd N (t,b,s)=some (oh t b s):=by
 have key:=fG (rd:=uk N b s) (b.map fun y=>if Hi s y=true then (9:Int) else 0) (fun j hj=>by
  rw [List.length_map] at hj;obtain ⟨a1,a2⟩:=ur b hj;simp only [uk,List.length_map,Int.toNat_natCast,a1,a2,ap hj,ah hj,Bool.and_self,cond_true,aR (show j < 9223372036854775807 by omega),List.getElem_map,BW];unfold Hi;cases Av (b[j].1,b[j].2.1) (s.1,s.2.1) <;> cases Av (b[j].1,b[j].2.1) (s.2.2.1,s.2.2.2.1) <;> cases Av (b[j].2.2.1,b[j].2.2.2.1) (s.1,s.2.1) <;> cases Av (b[j].2.2.1,b[j].2.2.2.1) (s.2.2.1,s.2.2.2.1) <;> rfl) (by
   rw [List.length_map]; simp only [uk,List.length_map,aJ,cond_false]) N (by rw [List.length_map]; unfold ey at hN; omega)
 rw [mX _ 9 (by decide),Iz (by decide)] at key;have key:ar (uk N b (s.1,s.2.1,s.2.2.1,s.2.2.2.1,s.2.2.2.2)) N 0=_:=key;rw [show Vd N (t,b,s)=Vd N ((t.1,t.2),b,(s.1,s.2.1,s.2.2.1,s.2.2.2.1,s.2.2.2.2)) from rfl,Vf];unfold oh;simp only [J2,J3,EP,EQ,Bool.and_true,cond_true,Option.bind_some,EW,beq_self_eq_true,Bool.and_self,Vm,ET,key];rw [show (t.1,t.2)=t from rfl,Ix,Ix];simp only [Option.bind_some];cases h1:rK t (s.1,s.2.1) with
 |false=>rfl
 |true=>
  cases h2:rK t (s.2.2.1,s.2.2.2.1) with
  |false=>rfl
  |true=>
   simp only [Bool.not_true,cond_false,Option.bind_some,Bool.and_self,reduceCtorEq,if_false];rw [EU N t _ h1,EU N t _ h2];cases h3:Av (s.1,s.2.1) (s.2.2.1,s.2.2.2.1) with
   |true=>rfl
   |false=>
    cases h4:b.any (Hi s) with
    |true=>rfl
    |false=>
     unfold M4;simp only [Option.bind_some,Sum.elim_inr,xF.2 rfl,cond_true,cond_false,reduceCtorEq,if_false];cases decide ((Iw t (s.1,s.2.1)).1 > wrap .i64 (2 * (Iw t (s.2.2.1,s.2.2.2.1)).1)) with
     |true=>rfl
     |false=>cases decide ((Iw t (s.2.2.1,s.2.2.2.1)).1 > wrap .i64 (2 * (Iw t (s.1,s.2.1)).1)) <;> rfl
theorem Vp (t:cu) (b:List pH) (s:pH) (hb:b.length≤1000000):Ul N (t,s,b)=some (oh t b s):=by
 have key:=fG (rd:=zQ N s b) (b.map fun y=>if Hi s y=true then (9:Int) else 0) (fun j hj=>by
  rw [List.length_map] at hj;obtain ⟨a1,a2⟩:=wv b hj;simp only [zQ,List.length_map,Int.toNat_natCast,a1,a2,ap hj,ah hj,Bool.and_self,cond_true,aR (show j < 9223372036854775807 by omega),List.getElem_map,BW];unfold Hi;rw [uw (s.1,s.2.1) (b[j].1,b[j].2.1),uw (s.1,s.2.1) (b[j].2.2.1,b[j].2.2.2.1),uw (s.2.2.1,s.2.2.2.1) (b[j].1,b[j].2.1),uw (s.2.2.1,s.2.2.2.1) (b[j].2.2.1,b[j].2.2.2.1)];cases Av (b[j].1,b[j].2.1) (s.1,s.2.1) <;> cases Av (b[j].1,b[j].2.1) (s.2.2.1,s.2.2.2.1) <;> cases Av (b[j].2.2.1,b[j].2.2.2.1) (s.1,s.2.1) <;> cases Av (b[j].2.2.1,b[j].2.2.2.1) (s.2.2.1,s.2.2.2.1) <;> rfl) (by
   rw [List.length_map]; simp only [zQ,List.length_map,aJ,cond_false]) N (by rw [List.length_map]; unfold ey at hN; omega)
 rw [mX _ 9 (by decide),Iz (by decide)] at key;have key:ar (zQ N (s.1,s.2.1,s.2.2.1,s.2.2.2.1,s.2.2.2.2) b) N 0=_:=key;have ex:∀ x y:Int,(bif (allFit (fits EC) [(AV.int .i64 x),(AV.int .i64 y)]) then some (map d29 [(AV.int .i64 x),(AV.int .i64 y)]) else none:Option (List Int))=some [x,y]:=fun x y=>rfl
 rw [show Ul N (t,s,b)=Ul N ((t.1,t.2),(s.1,s.2.1,s.2.2.1,s.2.2.2.1,s.2.2.2.2),b) from rfl,Un];unfold oh;simp only [bW,bX,cj,ck,Bool.and_true,cond_true,Option.bind_some,EW,beq_self_eq_true,Bool.and_self,Im,Io,key,mr,ex];rw [show (t.1,t.2)=t from rfl,Iy,Iy];simp only [Option.bind_some];cases h1:rK t (s.1,s.2.1) with
 |false=>rfl
 |true=>
  cases h2:rK t (s.2.2.1,s.2.2.2.1) with
  |false=>rfl
  |true=>
   simp only [Bool.not_true,cond_false,Option.bind_some,Bool.and_self,reduceCtorEq,if_false];rw [EV N t _ h1,EV N t _ h2];cases h4:b.any (Hi s) with
   |true=>
    cases h3:Av (s.1,s.2.1) (s.2.2.1,s.2.2.2.1) <;> rfl
   |false=>
    unfold M4;simp only [Option.bind_some,Sum.elim_inr,xF.2 rfl,cond_true,cond_false,reduceCtorEq,if_false,oe hN [_,_] (show 2≤9223372036854775806 by omega)];cases Av (s.1,s.2.1) (s.2.2.1,s.2.2.2.1) <;> cases decide ((Iw t (s.1,s.2.1)).1 > wrap .i64 (2 * (Iw t (s.2.2.1,s.2.2.2.1)).1)) <;> cases decide ((Iw t (s.2.2.1,s.2.2.2.1)).1 > wrap .i64 (2 * (Iw t (s.1,s.2.1)).1)) <;> rfl
end
end Go.Proofs.Ytegoimldbgdeiaa
namespace Go.Proofs.Ytegoimldbgdeiaa
open Go Go.Am
open List (map)
open Int (toNat)
open Go.IntKind (wrap)
open Go.Am.aM (fits)
set_option maxRecDepth 100000
theorem EX {V X:Type} {rd:V→Option (V ⊕ X)} (l:List Int) (E:Nat→V) (ex:Int→X) (fin:X)
  (h:∀ k (hk:k < l.length),rd (E k)=some (if l[k]=0 then .inl (E (k+1)) else .inr (ex l[k]))) (h0:rd (E l.length)=some (.inr fin)) (n:Nat) (hn:l.length < n) :
  ar rd n (E 0)=some (if bq l=0 then fin else ex (bq l)):=by
 have key:=fQ (rd:=rd) (S:=Unit) (Y:=Int) l (fun _ k=>E k) (fun _ x=>if x=0 then .inl () else .inr x) (fun _=>fin) ex (fun _ _=>True)
  (fun s k hk _=>⟨by rw [h k hk]; by_cases e:l[k]=0 <;> simp [e],fun _ _=>trivial⟩) (fun _ _=>h0) n () 0 (Nat.zero_le _) (by omega) trivial
 rw [List.drop_zero] at key;refine key.trans (congrArg some ?_);clear key h h0 hn
 induction l with
 |nil=>rfl
 |cons x l ih=>
  simp only [foldI,bq];by_cases e:x=0
  ·simp only [e,if_true,Sum.elim_inl]; exact ih
  ·simp [e]
theorem BX {α:Type} (q:α→Bool):∀ (l:List α) (s:Nat),(l.any q=true∧∃ i:Nat,foldI (fun (s:Nat) x=>if q x=true then .inr s else .inl (s+1)) s l=(.inr i:Nat ⊕ Nat))∨(l.any q=false∧∃ i:Nat,foldI (fun (s:Nat) x=>if q x=true then .inr s else .inl (s+1)) s l=(.inl i:Nat ⊕ Nat))
 |[],s=>.inr ⟨rfl,s,rfl⟩
 |x :: l,s=>by
  rw [List.any_cons];unfold foldI;cases h:q x with
  |true=>exact .inl ⟨rfl,s,rfl⟩
  |false=>
   simp only [Bool.false_or,reduceCtorEq,if_false,Sum.elim_inl];exact BX q l (s+1)
section
variable {N:Nat} (hN:ey N)
include hN
theorem Vq (t:cu):Z6 N t=some (dD t):=by
 rw [Vj];unfold dD;simp only [List.length_map];by_cases h0:t.1.length=0
 ·rw [show (((t.1.length:Nat):Int) == 0)=true by simp [h0],if_pos h0]; rfl
 ·rw [show (((t.1.length:Nat):Int) == 0)=false by simp; exact fun h=>h0 (by rw [h]; rfl),if_neg h0];by_cases h1:t.1.length > 16
  ·have d:decide (((t.1.length:Nat):Int) > 16)=true:=by simp; omega
   rw [d,if_pos h1]; rfl
  ·have d:decide (((t.1.length:Nat):Int) > 16)=false:=by simp; omega
   rw [d,if_neg h1];have k1:=fG (rd:=uo N t) (t.1.mapIdx fun k x=>wz (t.1.take k) x) (fun j hj=>by
    rw [List.length_mapIdx] at hj;simp only [uo,List.length_map,J2,J3,Bool.and_true,cond_true,Option.bind_some,ap hj,Vn hN t.1 j hj (by omega),aR (show j < 9223372036854775807 by omega),List.getElem_mapIdx];by_cases hz:wz (t.1.take j) t.1[j]=0
    ·rw [hz]; rfl
    ·rw [JO hz,if_neg hz]; rfl) (by
     rw [List.length_mapIdx]; simp only [uo,List.length_map,aJ,cond_false]) N (by rw [List.length_mapIdx]; unfold ey at hN; omega)
   have k1:ar (uo N t) N 0=some (if mW t.1=0 then .inr () else .inl (mW t.1)):=k1;rw [k1];by_cases h2:mW t.1=0
   ·rw [if_pos h2,if_neg (show ¬ mW t.1≠0 from fun h=>h h2)];simp only [cond_false,Option.bind_some,Sum.elim_inr];by_cases h3:t.2.length > 64
    ·have d:decide (((t.2.length:Nat):Int) > 64)=true:=by simp; omega
     rw [d,if_pos h3]; rfl
    ·have d:decide (((t.2.length:Nat):Int) > 64)=false:=by simp; omega
     rw [d,if_neg h3];have k2:=fG (rd:=uq N t) (t.2.mapIdx fun k s=>oh t (t.2.take k) s) (fun j hj=>by
      rw [List.length_mapIdx] at hj;obtain ⟨a1,a2⟩:=ur t.2 hj;have q:Vd N ((t.1,t.2),t.2.take j,(t.2[j].1,t.2[j].2.1,t.2[j].2.2.1,t.2[j].2.2.2.1,t.2[j].2.2.2.2))=some (oh t (t.2.take j) t.2[j]):=Vo hN t (t.2.take j) t.2[j] (by rw [List.length_take]; omega);simp only [uq,List.length_map,Int.toNat_natCast,uu,a1,a2,J2,J3,EP,EQ,Bool.and_true,Bool.and_self,cond_true,Option.bind_some,ap hj,ah hj,uv (Nat.le_of_lt hj),q,aR (show j < 9223372036854775807 by omega),List.getElem_mapIdx];by_cases hz:oh t (t.2.take j) t.2[j]=0
      ·rw [hz]; rfl
      ·rw [JO hz,if_neg hz]; rfl) (by
       rw [List.length_mapIdx]; simp only [uq,List.length_map,aJ,cond_false]) N (by rw [List.length_mapIdx]; unfold ey at hN; omega)
     have k2:ar (uq N t) N 0=some (if ux t=0 then .inr () else .inl (ux t)):=k2;rw [k2];by_cases h4:ux t=0
     ·rw [if_pos h4,h4]; rfl
     ·rw [if_neg h4]; rfl
   ·rw [if_neg h2,if_pos h2]; rfl
theorem J8 (l:List AS) (k:Nat) (hk:k < l.length) (hl:l.length≤1000000) (nm:List UInt8) (sd:List (Int × Int)) :
  ∃ o,ar (mm N l (k:Int)) N (0,nm,sd)=some o∧((((l.take k).any fun y=>y.1 == nm)=true∧∃ i:Nat,o=.inl ((i:Int),nm,sd))∨(((l.take k).any fun y=>y.1 == nm)=false∧o=.inr (nm,sd))):=by
 have ht:(l.take k).length=k:=by rw [List.length_take]; omega
 have key:=fQ (rd:=mm N l (k:Int)) (S:=Nat) (Y:=Nat) (l.take k) (fun _ j=>((j:Int),nm,sd)) (fun s x=>if (x.1 == nm)=true then .inr s else .inl (s+1)) (fun _=>.inr (nm,sd)) (fun i=>.inl ((i:Int),nm,sd)) (fun s j=>s=j)
  (fun s j hj hs=>by
   subst hs;refine ⟨?_,fun s' N4=>by split at N4 <;> simp_all⟩;obtain ⟨a1,a2⟩:=zL (l.take k) hj;rw [ht] at hj;simp only [mm,List.length_map,Int.toNat_natCast,uu,a1,a2,ht,ap hj,ah hj,Bool.and_self,Bool.and_true,cond_true,zE,zF,Option.bind_some,aR (show s < 9223372036854775807 by omega)];cases (l.take k)[s].1 == nm <;> rfl)
  (fun s hs=>by
   rw [ht];simp only [mm,List.length_map,Int.toNat_natCast,uu,ht,aJ,cond_false,Bool.and_true,cond_true,zE,zF,Option.bind_some]) N 0 0 (Nat.zero_le _) (by rw [ht]; unfold ey at hN; omega) rfl
 refine ⟨_,key,?_⟩;rw [List.drop_zero];rcases BX (fun y:AS=>y.1 == nm) (l.take k) 0 with ⟨h,i,e⟩|⟨h,i,e⟩
 ·exact .inl ⟨h,i,by rw [e]; rfl⟩
 ·exact .inr ⟨h,by rw [e]; rfl⟩
theorem J9 (y:Int) (nm:List UInt8) (sd:List (Int × Int)) (hl:sd.length≤1000000):ar (ob N (y,nm,sd)) N (0,nm,sd)=some (if bq (sd.map og)=0 then .inr (nm,sd) else .inl (bq (sd.map og),nm,sd)):=by
 exact EX (rd:=ob N (y,nm,sd)) (sd.map og) (fun j=>((j:Int),nm,sd)) (fun e=>.inl (e,nm,sd)) (.inr (nm,sd)) (fun j hj=>by
  rw [List.length_map] at hj;obtain ⟨a1,a2⟩:=Rr sd hj;have ex:∀ x y:Int,(bif (allFit (fits EC) [(AV.int .i64 x),(AV.int .i64 y)]) then some (map d29 [(AV.int .i64 x),(AV.int .i64 y)]) else none:Option (List Int))=some [x,y]:=fun x y=>rfl
  simp only [ob,List.length_map,Int.toNat_natCast,a1,a2,ap hj,ah hj,Bool.and_self,Bool.and_true,cond_true,zE,zF,aR (show j < 9223372036854775807 by omega),List.getElem_map,P4,Option.bind_some,beq_self_eq_true,ex,oe hN _ (show [NG sd[j].1 1 10000,NG sd[j].2 (-100000) 100000].length≤9223372036854775806 by simp)];show (bif og sd[j] != 0 then _ else _)=_;by_cases hz:og sd[j]=0
  ·rw [hz]; rfl
  ·rw [JO hz,if_neg hz]; rfl) (by
   simp only [ob,List.length_map,aJ,cond_false,zE,zF,Bool.and_true,cond_true,Option.bind_some]) N (by rw [List.length_map]; unfold ey at hN; omega)
theorem P6 (l:List AS) (hl:l.length≤1000000):ZW N l=some (mW l):=by
 rw [Uk];have key:=fG (rd:=C7 N l) (l.mapIdx fun k x=>wz (l.take k) x) (fun k hk=>by
  rw [List.length_mapIdx] at hk;obtain ⟨a1,a2⟩:=zL l hk;obtain ⟨o,ho,hc⟩:=J8 hN l k hk hl l[k].1 l[k].2;have ex:∀ x y z:Int,(bif (allFit (fits EC) [(AV.int .i64 x),(AV.int .i64 y),(AV.int .i64 z)]) then some (map d29 [(AV.int .i64 x),(AV.int .i64 y),(AV.int .i64 z)]) else none:Option (List Int))=some [x,y,z]:=fun x y z=>rfl
  have hm:∃ c:Int,(decide (c≥0))=((l.take k).any fun y=>y.1 == l[k].1)∧∀ (F:(Int × List UInt8 × List (Int × Int))→Option (Int ⊕ (Int ⊕ Unit))),((Sum.elim (fun Aq=>(some (Aq.1,Aq.2.1,Aq.2.2):Option (Int × List UInt8 × List (Int × Int)))) (fun eM=>some ((-1:Int),eM.1,eM.2)) o).bind F)=F (c,l[k].1,l[k].2):=by
   rcases hc with ⟨h,i,rfl⟩|⟨h,rfl⟩
   ·exact ⟨(i:Int),by rw [h]; simp,fun F=>rfl⟩
   ·exact ⟨-1,by rw [h]; simp,fun F=>rfl⟩
  obtain ⟨c,Oj,Jn⟩:=hm;simp only [C7,List.length_map,Int.toNat_natCast,a1,a2,ap hk,ah hk,uv (Nat.le_of_lt hk),Bool.and_self,Bool.and_true,cond_true,zE,zF,Option.bind_some,ho,Jn,M2 hN,Mw,beq_self_eq_true,mr,Oj,ex,aR (show k < 9223372036854775807 by omega),List.getElem_mapIdx];have e1:∀ z:Int,G3 N [if (!jS l[k].1)=true then 8 else 0,if ((l.take k).any fun y=>y.1 == l[k].1)=true then 9 else 0,z]=some (if jS l[k].1=false then 8 else if ((l.take k).any fun y=>y.1 == l[k].1)=true then 9 else z):=fun z=>by
   rw [oe hN [_,_,_] (show 3≤9223372036854775806 by omega)];cases jS l[k].1 <;> cases (l.take k).any fun y=>y.1 == l[k].1
   ·rfl
   ·rfl
   ·show some (bq [0,0,z])=some z;unfold bq bq bq bq;by_cases hz:z=0
    ·rw [hz]; rfl
    ·simp [hz]
   ·rfl
  simp only [e1,Option.bind_some,if_true];unfold wz;have e2:∀ F:(Int × List UInt8 × List (Int × Int))→Option (Int ⊕ (Int ⊕ Unit)),((bif decide (((l[k].2.length:Nat):Int) < 3) then (some ((if jS l[k].1=false then 8 else if ((l.take k).any fun y=>y.1 == l[k].1)=true then 9 else 2),l[k].1,l[k].2)) else some ((if jS l[k].1=false then 8 else if ((l.take k).any fun y=>y.1 == l[k].1)=true then 9 else if decide (((l[k].2.length:Nat):Int) > 8)=true then 2 else 0),l[k].1,l[k].2):Option (Int × List UInt8 × List (Int × Int))).bind F)=F ((if jS l[k].1=false then 8 else if ((l.take k).any fun y=>y.1 == l[k].1)=true then 9 else if l[k].2.length < 3∨l[k].2.length > 8 then 2 else 0),l[k].1,l[k].2):=fun F=>by
   by_cases h3:l[k].2.length < 3
   ·have d:decide (((l[k].2.length:Nat):Int) < 3)=true:=by simp; omega
    rw [d,if_pos (show l[k].2.length < 3∨l[k].2.length > 8 from .inl h3)]; rfl
   ·have d:decide (((l[k].2.length:Nat):Int) < 3)=false:=by simp; omega
    rw [d];by_cases h8:l[k].2.length > 8
    ·have d':decide (((l[k].2.length:Nat):Int) > 8)=true:=by simp; omega
     rw [d',if_pos (show l[k].2.length < 3∨l[k].2.length > 8 from .inr h8)]; rfl
    ·have d':decide (((l[k].2.length:Nat):Int) > 8)=false:=by simp; omega
     rw [d',if_neg (show ¬ (l[k].2.length < 3∨l[k].2.length > 8) by omega)]; rfl
  rw [e2];cases jS l[k].1 with
  |false=>rfl
  |true=>
   cases (l.take k).any fun y=>y.1 == l[k].1 with
   |true=>rfl
   |false=>
    simp only [reduceCtorEq,if_false];by_cases h3:l[k].2.length < 3∨l[k].2.length > 8
    ·rw [if_pos h3,if_pos h3]; rfl
    ·rw [if_neg h3,if_neg h3,J9 hN 0 l[k].1 l[k].2 (by omega)];by_cases hz:bq (l[k].2.map og)=0
     ·rw [if_pos hz,hz]; rfl
     ·rw [if_neg hz,if_neg hz]; rfl) (by
   rw [List.length_mapIdx]; simp only [C7,List.length_map,aJ,cond_false]) N (by rw [List.length_mapIdx]; unfold ey at hN; omega)
 rw [key];unfold mW;by_cases hz:bq (l.mapIdx fun k x=>wz (l.take k) x)=0
 ·rw [if_pos hz,hz]; rfl
 ·rw [if_neg hz]; rfl
theorem Hj (t:cu):MC N t=some (dD t):=by
 rw [show MC N t=MC N (t.1,t.2) from rfl,Uo];unfold dD;obtain ⟨m,hm,hm1,hm2⟩:∃ m:Nat,(if (16:Int) < ((t.1.length:Nat):Int) then (16:Int) else ((t.1.length:Nat):Int))=(m:Int)∧m≤t.1.length∧(t.1.length≤16→m=t.1.length):=by
  by_cases h:t.1.length > 16
  ·exact ⟨16,if_pos (by omega),by omega,by omega⟩
  ·exact ⟨t.1.length,if_neg (by omega),Nat.le_refl _,fun _=>rfl⟩
 have hm3:m≤16:=by
  by_cases h:t.1.length > 16
  ·rw [if_pos (by omega)] at hm; omega
  ·omega
 have ht:(t.1.take m).length≤1000000:=by rw [List.length_take]; omega
 have ex:∀ x y z u:Int,(bif (allFit (fits EC) [(AV.int .i64 x),(AV.int .i64 y),(AV.int .i64 z),(AV.int .i64 u)]) then some (map d29 [(AV.int .i64 x),(AV.int .i64 y),(AV.int .i64 z),(AV.int .i64 u)]) else none:Option (List Int))=some [x,y,z,u]:=fun x y z u=>rfl
 simp only [List.length_map,hm,Int.toNat_natCast,uv hm1,uu,mr,beq_self_eq_true,Im,Io,Bool.and_true,Bool.and_self,cond_true,Option.bind_some,bW,bX,P6 hN _ ht,ex,oe hN [_,_,_,_] (show 4≤9223372036854775806 by omega)];by_cases h0:t.1.length=0
 ·rw [show (((t.1.length:Nat):Int) == 0)=true by simp [h0],if_pos h0]; rfl
 ·rw [show (((t.1.length:Nat):Int) == 0)=false by simp; exact fun h=>h0 (by rw [h]; rfl),if_neg h0];by_cases h1:t.1.length > 16
  ·have d:decide (((t.1.length:Nat):Int) > 16)=true:=by simp; omega
   rw [d,if_pos h1]; rfl
  ·have d:decide (((t.1.length:Nat):Int) > 16)=false:=by simp; omega
   rw [d,if_neg h1,hm2 (by omega),List.take_length];by_cases h2:mW t.1=0
   ·rw [h2,if_neg (show ¬ ((0:Int)≠0) by decide)];by_cases h3:t.2.length > 64
    ·have d:decide (((t.2.length:Nat):Int) > 64)=true:=by simp; omega
     rw [d,if_pos h3]; rfl
    ·have d:decide (((t.2.length:Nat):Int) > 64)=false:=by simp; omega
     rw [d,if_neg h3];have k2:=fG (rd:=zS N t) (t.2.mapIdx fun k s=>oh t (t.2.take k) s) (fun j hj=>by
      rw [List.length_mapIdx] at hj;obtain ⟨a1,a2⟩:=wv t.2 hj;have q:Ul N ((t.1,t.2),(t.2[j].1,t.2[j].2.1,t.2[j].2.2.1,t.2[j].2.2.2.1,t.2[j].2.2.2.2),t.2.take j)=some (oh t (t.2.take j) t.2[j]):=Vp hN t (t.2.take j) t.2[j] (by rw [List.length_take]; omega);simp only [zS,List.length_map,Int.toNat_natCast,uu,a1,a2,bW,bX,cj,ck,Bool.and_true,Bool.and_self,cond_true,Option.bind_some,ap hj,ah hj,uv (Nat.le_of_lt hj),q,aR (show j < 9223372036854775807 by omega),List.getElem_mapIdx];by_cases hz:oh t (t.2.take j) t.2[j]=0
      ·rw [hz]; rfl
      ·rw [JO hz,if_neg hz]; rfl) (by
       rw [List.length_mapIdx]; simp only [zS,List.length_map,aJ,cond_false]) N (by rw [List.length_mapIdx]; unfold ey at hN; omega)
     have k2:ar (zS N (t.1,t.2)) N 0=some (if ux t=0 then .inr () else .inl (ux t)):=k2;rw [k2];by_cases h4:ux t=0
     ·rw [if_pos h4,h4]; rfl
     ·rw [if_neg h4]; rfl
   ·rw [if_pos (show mW t.1≠0 from h2)];have ef:∀ z:Int,bq [if false=true then 12 else 0,if false=true then 5 else 0,mW t.1,z]=mW t.1:=fun z=>by
     show bq [0,0,mW t.1,z]=_;simp [bq,h2]
    rw [ef,JO h2]; rfl
omit hN in
theorem EY {t:cu} (h:dD t=0):t.1.length≠0∧t.1.length≤16∧mW t.1=0∧t.2.length≤64∧ux t=0:=by
 unfold dD at h;split at h
 ·cases h
 ·split at h
  ·cases h
  ·split at h
   ·contradiction
   ·split at h
    ·cases h
    ·refine ⟨by assumption,by omega,by omega,by omega,h⟩
end
end Go.Proofs.Ytegoimldbgdeiaa
