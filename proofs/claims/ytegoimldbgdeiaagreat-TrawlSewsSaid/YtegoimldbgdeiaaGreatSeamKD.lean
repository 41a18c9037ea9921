/- Plain laws: names. -/
import Derived.Test.YtegoimldbgdeiaaGreatTrzD
import Derived.Test.YtegoimldbgdeiaaGreatSeamKB
import Derived.Test.YtegoimldbgdeiaaGreatTrzE
set_option linter.all false
open Bool renaming and_self→aaq, and_true→aas, true_and→aaI, false_and→aaR, not_true→aaS
open Int renaming toNat_natCast→aap
open List renaming length_map→aal, length_take→aav, getElem?_eq_getElem→aax, getElem_map→aaL, getD_eq_getElem?_getD→aaM, take_length→aaN, drop_zero→aaQ, map_cons→aaT, take_add_one→aaU, map_append→aaW
open Nat renaming zero_le→aaK, le_of_lt→aaY
open Option renaming bind_some→aao
open Sum renaming elim_inl→aaO, elim_inr→aaV
namespace Go.Proofs.YtegoimldbgdeiaaGreat
open Go Go.Am
open List (map)
open Int (toNat)
open Go.IntKind (wrap)
open Go.Am.aP (fits)
set_option maxRecDepth 100000
def sh (first:Bool) (c:Int):Bool:=
 !(decide (c≥65)&&decide (c≤90) || decide (c≥97)&&decide (c≤122))&&(first || (c != 95&&(decide (c < 48) || decide (c > 57))))
def lA (first:Bool):List UInt8→Bool
 |[]=>true
 |c :: l=>!sh first (c.toNat:Int)&&lA false l
def Gn (s:List UInt8):Bool:=decide (s.length≠0∧s.length≤24)
def kR (s:List UInt8):Bool:=Gn s&&lA true s
theorem OA (s:List UInt8):(((bif ((((s).length:Nat):Int) == 0) then (some true) else (some (decide ((((s).length:Nat):Int) > 24)))):Option Bool))=some (!Gn s):=by
 unfold Gn;by_cases h0:s.length=0
 ·simp [h0]
 ·rw [acY (by omega)];by_cases h1:s.length≤24
  ·have:decide (((s.length:Nat):Int) > 24)=false:=by simp; omega
   rw [this]; simp [h0,h1]
  ·have:decide (((s.length:Nat):Int) > 24)=true:=by simp; omega
   rw [this]; simp [h1]
theorem LB (l:List UInt8):∀ (first:Bool),foldI (fun (b:Bool) (c:UInt8)=>if sh b (c.toNat:Int) then (.inr ():Bool ⊕ Unit) else .inl false) first l=if lA first l then .inl (if l.isEmpty then first else false) else .inr ():=by
 induction l with
 |nil=>intro b; rfl
 |cons c l ih=>
  intro b;simp only [foldI,lA];by_cases h:sh b (c.toNat:Int)=true
  ·simp [h]
  ·have h':sh b (c.toNat:Int)=false:=by simpa using h
   simp only [h',Bool.false_eq_true,if_false,aaO,Bool.not_false,aaI,ih false];by_cases h2:lA false l=true <;> simp [h2]
theorem LC {N:Nat} (hN:fM N) (s:List UInt8):RS N s=some (kR s):=by
 rw [RU,OA];simp only [aao];unfold kR;cases uG:Gn s with
 |false=>rfl
 |true=>
  have hl:=of_decide_eq_true (show decide (s.length≠0∧s.length≤24)=true from uG);simp only [aaS,cond_false,aaI];have key:=jr (rd:=vB N s) s (fun (b:Bool) k=>(k:Int)) (fun b (c:UInt8)=>if sh b (c.toNat:Int) then (.inr ():Bool ⊕ Unit) else .inl false) (fun _=>.inr ()) (fun _=>.inl false) (fun b k=>b=(k == 0))
   (fun b k hk hb=>by
    refine ⟨?_,fun s' h'=>?_⟩
    ·subst hb;have e1:s.getD k 0=s[k]:=by simp [hk]
     have e2:((k:Int) == 0)=(k == 0):=by cases k <;> simp; omega
     unfold vB;simp only [aap,aE hk,ap hk,cond_true,bg (by omega:k < 9223372036854775807),e1,e2];unfold sh;generalize ((s[k].toNat:Nat):Int)=c;generalize decide (c≥97)=b1;generalize decide (c≤122)=b2;generalize decide (c≥65)=b3;generalize decide (c≤90)=b4;generalize (c != 95)=b5;generalize decide (c < 48)=b6;generalize decide (c > 57)=b7;generalize (k == 0)=b0;cases b0 <;> cases b1 <;> cases b2 <;> cases b3 <;> cases b4 <;> cases b5 <;> cases b6 <;> cases b7 <;> rfl
    ·split at h'
     ·cases h'
     ·cases h'; simp)
   (fun b _=>by
    unfold vB;simp only [bc,cond_false]) N true 0 (aaK _) (by unfold fM at hN; omega) rfl
  have Xn:aB (V:=Int) (X:=Bool ⊕ Unit) (vB N s) N 0=_:=key;simp only [Xn,aao,aaQ,LB];cases lA true s <;> rfl
theorem Gp {b:Bool} {c:Int} (h:128≤c):sh b c=true:=by
 unfold sh;have h1:decide (c≤90)=false:=by simp; omega
 have h2:decide (c≤122)=false:=by simp; omega
 have h3:(c != 95)=true:=by simp; omega
 have h4:decide (c > 57)=true:=by simp; omega
 rw [h1,h2,h3,h4];cases b <;> simp
theorem LD {N:Nat} (hN:fM N) (s:List UInt8):Rh N s=some (kR s):=by
 rw [Rj,OA];simp only [aao];unfold kR;cases uG:Gn s with
 |false=>rfl
 |true=>
  have hl:=of_decide_eq_true (show decide (s.length≠0∧s.length≤24)=true from uG);simp only [aaS,cond_false,aaI];have key:=jr (rd:=vv N) s (fun (p:Nat) k=>(s,(k:Int))) (fun p (c:UInt8)=>if sh (p == 0) (c.toNat:Int) then (.inr (p+(cQ s p).2):Nat ⊕ Nat) else .inl (p+1)) (fun p=>.inl (s,(p:Int))) (fun p=>.inr (false,s,(p:Int))) (fun p k=>p=k)
   (fun p k hk hp=>by
    subst hp;refine ⟨?_,fun s' h'=>?_⟩
    ·have e2:((p:Int) == 0)=(p == 0):=by cases p <;> simp; omega
     have e3:Nat.blt p s.length=true:=Nat.ble_eq_true_of_le hk;obtain ⟨r1,r2⟩:=Qh s p hk;unfold vv;simp only [aap,e3,cond_true,e2];have main:∀ (n:Nat) (c:Int),(((bif (decide (c≥65)) then (bif (decide (c≤90)) then (some (true,s,(((p+n):Nat):Int))) else (bif (decide (c≥97)) then (some ((decide (c≤122)),s,(((p+n):Nat):Int))) else (some (false,s,(((p+n):Nat):Int))))) else (bif (decide (c≥97)) then (some ((decide (c≤122)),s,(((p+n):Nat):Int))) else (some (false,s,(((p+n):Nat):Int))))):Option ((Bool × (List UInt8) × Int))).bind fun o3=>(((bif (!o3.1) then (bif (p == 0) then (some (true,o3.2.1,(((toNat o3.2.2):Nat):Int))) else (bif (c != 95) then (bif (decide (c < 48)) then (some (true,o3.2.1,(((toNat o3.2.2):Nat):Int))) else (some ((decide (c > 57)),o3.2.1,(((toNat o3.2.2):Nat):Int)))) else (some (false,o3.2.1,(((toNat o3.2.2):Nat):Int))))) else (some (false,o3.2.1,(((toNat o3.2.2):Nat):Int)))):Option ((Bool × (List UInt8) × Int))).bind fun o4=>(bif o4.1 then (some (Sum.inr (Sum.inr (false,o4.2.1,(((toNat o4.2.2):Nat):Int)))):Option (((List UInt8) × Int) ⊕ (((List UInt8) × Int) ⊕ (Bool × (List UInt8) × Int)))) else (some (Sum.inl (o4.2.1,(((toNat o4.2.2):Nat):Int))))))) =
       some (bif sh (p == 0) c then Sum.inr (Sum.inr (false,s,((p+n:Nat):Int))) else Sum.inl (s,((p+n:Nat):Int))):=by
      intro n c;unfold sh;generalize decide (c≥97)=b1;generalize decide (c≤122)=b2;generalize decide (c≥65)=b3;generalize decide (c≤90)=b4;generalize (c != 95)=b5;generalize decide (c < 48)=b6;generalize decide (c > 57)=b7;generalize (p == 0)=b0;cases b0 <;> cases b1 <;> cases b2 <;> cases b3 <;> cases b4 <;> cases b5 <;> cases b6 <;> cases b7 <;> rfl
     rw [main];by_cases aem:s[p].toNat < 128
     ·rw [r1 aem];by_cases hb:sh (p == 0) (s[p].toNat:Int)=true
      ·simp [hb]
      ·have kX:sh (p == 0) (s[p].toNat:Int)=false:=by simpa using hb
       simp [kX]
     ·have h1:=Gp (b:=p == 0) (c:=((cQ s p).1:Int)) (by have:=r2 (by omega); omega);have h2:=Gp (b:=p == 0) (c:=(s[p].toNat:Int)) (by omega);rw [h1,if_pos h2];rfl
    ·split at h'
     ·cases h'
     ·cases h'; rfl)
   (fun p hp=>by
    subst hp;unfold vv;have e3:Nat.blt s.length s.length=false:=by
     cases hb:Nat.blt s.length s.length with
     |false=>rfl
     |true=>have:=Nat.le_of_ble_eq_true hb; omega
    simp only [aap,e3,cond_false]) N 0 0 (aaK _) (by unfold fM at hN; omega) rfl
  have Xn:aB (V:=(List UInt8) × Int) (X:=((List UInt8) × Int) ⊕ (Bool × (List UInt8) × Int)) (vv N) N (s,((0:Nat):Int))=_:=key;rw [Xn];simp only [aao,aaQ];have gen:∀ (l:List UInt8) (p:Nat) (first:Bool),first=(p == 0)→Sum.elim (fun _=>true) (fun _=>false) (foldI (fun (p:Nat) (c:UInt8)=>if sh (p == 0) (c.toNat:Int) then (.inr (p+(cQ s p).2):Nat ⊕ Nat) else .inl (p+1)) p l)=lA first l:=by
   intro l
   induction l with
   |nil=>intro p first _; rfl
   |cons c l ih=>
    intro p first hf
    subst hf;simp only [foldI,lA];by_cases h:sh (p == 0) (c.toNat:Int)=true
    ·simp [h]
    ·have h':sh (p == 0) (c.toNat:Int)=false:=by simpa using h
     simp only [h',Bool.false_eq_true,if_false,aaO,Bool.not_false,aaI];exact ih (p+1) false (by simp)
  have g:=gen s 0 true rfl;revert g;cases foldI (fun (p:Nat) (c:UInt8)=>if sh (p == 0) (c.toNat:Int) then (.inr (p+(cQ s p).2):Nat ⊕ Nat) else .inl (p+1)) 0 s with
  |inl p=>intro g; simp only [aaO] at g ⊢; rw [← g]
  |inr p=>intro g; simp only [aaV] at g ⊢; rw [← g]
end Go.Proofs.YtegoimldbgdeiaaGreat
namespace Go.Proofs.YtegoimldbgdeiaaGreat
open Go Go.Am
open List (map)
open Int (toNat)
open Go.IntKind (wrap)
open Go.Am.aP (fits)
set_option maxRecDepth 100000
theorem aen (l:List Int) {k:Nat} (hk:k < l.length):d29 (ae (map n29 l) k)=l[k]∧fits C4 (ae (map n29 l) k)=true:=by
 rw [fW n29 l k hk]; exact ⟨rfl,rfl⟩
theorem iN {N:Nat} (hN:fM N) (l:List Int) (hl:l.length≤9223372036854775806):Ek N l=some (bH l):=by
 obtain ⟨o,h1,h2⟩:=Bd (rd:=El N l) l (fun k hk=>by
  obtain ⟨e1,e2⟩:=aen l hk;simp only [El,aal,aap,e1,e2,bg (show k < 9223372036854775807 by omega),aE hk,ap hk,aaq,cond_true];by_cases hz:l[k]=0
  ·simp [hz]
  ·simp [hz,Bool.cond_eq_ite]) (by simp only [El,aal,bc,cond_false]) N (by unfold fM at hN; omega)
 rw [VC,h1,aao];rcases o with o|o
 ·simpa using h2
 ·simpa using h2
theorem IL {N:Nat} (hN:fM N) (l:List Int) (hl:l.length≤9223372036854775806):RV N l=some (bH l):=by
 obtain ⟨o,h1,h2⟩:=Bd (rd:=zd N l) l (fun k hk=>by
  obtain ⟨e1,e2⟩:=Q1 l hk;simp only [zd,aal,aap,e1,e2,bg (show k < 9223372036854775807 by omega),aE hk,ap hk,aaq,cond_true];by_cases hz:l[k]=0
  ·simp [hz]
  ·simp [hz,Bool.cond_eq_ite]) (by simp only [zd,aal,bc,cond_false]) N (by unfold fM at hN; omega)
 rw [RX,h1,aao];rcases o with o|o
 ·simpa using h2
 ·simpa using h2
theorem nG (N:Nat) (b:Bool) (e:Int):C5 N (b,e)=some (if b then e else 0):=by
 rw [VD]; cases b <;> rfl
theorem Sh (N:Nat) (n lo hi:Int):Zx N (n,lo,hi)=some (Pe n lo hi):=by
 rw [VF];simp only [nG];unfold Pe;by_cases h1:n < lo
 ·simp [h1]
 ·by_cases h2:n > hi <;> simp [h1,h2]
theorem OB (N:Nat) (n lo hi:Int):Ou N (n,lo,hi)=some (Pe n lo hi):=by
 rw [RZ];unfold Pe;by_cases h1:n < lo
 ·simp [h1]
 ·by_cases h2:n > hi <;> simp [h1,h2]
section
variable {N:Nat} (hN:fM N)
include hN
end
end Go.Proofs.YtegoimldbgdeiaaGreat
namespace Go.Proofs.YtegoimldbgdeiaaGreat
open Go Go.Am
open List (map)
open Int (toNat)
open Go.IntKind (wrap)
open Go.Am.aP (fits)
set_option maxRecDepth 100000
theorem vN (l:List nJ) {k:Nat} (hk:k < l.length):d92 (ae (map iB l) k)=l[k]∧fits nE (ae (map iB l) k)=true:=by
 rw [fW iB l k hk,ad5,ad4]; exact ⟨rfl,rfl⟩
theorem LF (l:List qq) {k:Nat} (hk:k < l.length):d79 (ae (map vA l) k)=l[k]∧fits tu (ae (map vA l) k)=true:=by
 rw [fW vA l k hk]; exact ⟨rfl,rfl⟩
theorem OC (l:List (Int × Int)) {k:Nat} (hk:k < l.length):d94 (ae (map tv l) k)=l[k]∧fits EL (ae (map tv l) k)=true:=by
 rw [fW tv l k hk]; exact ⟨rfl,rfl⟩
theorem Dh (l:List (Int × Int)) {k:Nat} (hk:k < l.length):d132 (ae (map n132 l) k)=l[k]∧fits r7 (ae (map n132 l) k)=true:=by
 rw [fW n132 l k hk]; exact ⟨rfl,rfl⟩
theorem aaw:∀ l:List (Int × Int),bD (map tv l) (map tv l)=true
 |[]=>rfl
 |x :: l=>by
  rw [aaT,bD,aaw l];show (bD [AV.int .i64 x.1,AV.int .i64 x.2] [AV.int .i64 x.1,AV.int .i64 x.2]&&true)=true;simp [bD,eu,ui]
theorem Gq:∀ l:List nJ,bD (map iB l) (map iB l)=true
 |[]=>rfl
 |x :: l=>by
  rw [aaT,bD,Gq l];have e:bD (map tv x.2) (map tv x.2)=true:=aaw x.2;show (bD [AV.str x.1,AV.list .gQ 2 (map tv x.2)] [AV.str x.1,AV.list .gQ 2 (map tv x.2)]&&true)=true;simp only [bD,eu,ui,e,beq_self_eq_true,Nat.beq_refl,aaq]
theorem Gr:∀ l:List qq,bD (map vA l) (map vA l)=true
 |[]=>rfl
 |x :: l=>by
  rw [aaT,bD,Gr l];show (bD [AV.int .i64 x.1,AV.int .i64 x.2.1,AV.int .i64 x.2.2.1,AV.int .i64 x.2.2.2.1,AV.bool x.2.2.2.2] [AV.int .i64 x.1,AV.int .i64 x.2.1,AV.int .i64 x.2.2.1,AV.int .i64 x.2.2.2.1,AV.bool x.2.2.2.2]&&true)=true;simp [bD,eu,ui]
theorem vO {α:Type} (f:α→AV) (l:List α) (k:Nat):kv 0 k (map f l)=map f (l.take k):=by simp [kv,List.map_take]
theorem vP {k n:Nat} (h:k≤n):decide ((0:Int)≤(k:Int)∧(k:Int)≤(n:Int))=true:=by simp; omega
def vQ (t:fx) (e:Int × Int):Bool:=decide (0≤e.1)&&(decide (e.1 < (t.1.length:Int))&&(decide (0≤e.2)&&decide (e.2 < (Rc t e.1:Int))))
def J2 (t:fx) (e:Int × Int):Int × Int:=((t.1.getD e.1.toNat ([],[])).2).getD e.2.toNat (0,0)
theorem IM (t:fx) {k:Nat} (hk:k < t.1.length):Rc t (k:Int)=t.1[k].2.length:=by
 unfold Rc;rw [aap,aaM,aax hk]; rfl
theorem OD (t:fx) {k:Nat} (hk:k < t.1.length) {i:Nat} (hi:i < t.1[k].2.length):J2 t ((k:Int),(i:Int))=t.1[k].2[i]:=by
 unfold J2;rw [aap,aap,aaM,aaM,aax hk];show (t.1[k].2[i]?).getD (0,0)=_;rw [aax hi]; rfl
theorem J3 {t:fx} {e:Int × Int} (h:vQ t e=true):∃ k i:Nat,e=((k:Int),(i:Int))∧∃ hk:k < t.1.length,i < t.1[k].2.length:=by
 unfold vQ at h;simp only [Bool.and_eq_true,decide_eq_true_eq] at h;obtain ⟨h1,h2,h3,h4⟩:=h;refine ⟨e.1.toNat,e.2.toNat,Prod.ext (by omega) (by omega),by omega,?_⟩;have hk:e.1.toNat < t.1.length:=by omega
 have:=IM t hk;rw [show ((e.1.toNat:Nat):Int)=e.1 by omega] at this;omega
theorem J4 (N:Nat) (t:fx) (e:Int × Int):T44 N (t,e)=some (vQ t e):=by
 obtain ⟨p,s⟩:=e;rw [WJ];unfold vQ;dsimp only;by_cases h1:0≤p
 ·obtain ⟨k,rfl⟩:∃ k:Nat,p=(k:Int):=⟨p.toNat,by omega⟩;by_cases h2:k < t.1.length
  ·obtain ⟨a1,a2⟩:=vN t.1 h2;rw [IM t h2];simp only [aal,aap,a1,a2,ap h2,aE h2,aaq,cond_true,ge_iff_le,decide_eq_true h1,aaI];by_cases h3:0≤s
   ·rw [decide_eq_true h3]; rfl
   ·rw [decide_eq_false h3]; rfl
  ·have d:decide ((k:Int) < (t.1.length:Int))=false:=by simp; omega
   simp only [aal,d,ge_iff_le,decide_eq_true h1,cond_true,cond_false,aaI,aaR,aao]
 ·simp only [ge_iff_le,decide_eq_false h1,cond_false,aaR,aao]
theorem J5 (N:Nat) (t:fx) (e:Int × Int):Zy N (t,e)=some (vQ t e):=by
 obtain ⟨p,s⟩:=e;rw [VH];unfold vQ;dsimp only;by_cases h1:0≤p
 ·obtain ⟨k,rfl⟩:∃ k:Nat,p=(k:Int):=⟨p.toNat,by omega⟩;by_cases h2:k < t.1.length
  ·obtain ⟨a1,a2⟩:=se t.1 h2;rw [IM t h2];simp only [aal,aap,a1,a2,ap h2,aE h2,aaq,cond_true,ge_iff_le,decide_eq_true h1,aaI];by_cases h3:0≤s
   ·rw [decide_eq_true h3]; rfl
   ·rw [decide_eq_false h3]; rfl
  ·have d:decide ((k:Int) < (t.1.length:Int))=false:=by simp; omega
   simp only [aal,d,ge_iff_le,decide_eq_true h1,cond_true,cond_false,aaI,aaR,aao]
 ·simp only [ge_iff_le,decide_eq_false h1,cond_false,aaR,aao]
theorem Gs (N:Nat) (t:fx) (e:Int × Int) (h:vQ t e=true):T69 N (t,e)=some (J2 t e):=by
 obtain ⟨k,i,rfl,hk,hi⟩:=J3 h;obtain ⟨a1,a2⟩:=vN t.1 hk;obtain ⟨b1,b2⟩:=OC t.1[k].2 hi;rw [WL,OD t hk hi];simp only [aal,aap,a1,a2,b1,b2,ap hk,ap hi,aaq,cond_true]
theorem Gt (N:Nat) (t:fx) (e:Int × Int) (h:vQ t e=true):Zz N (t,e)=some (J2 t e):=by
 obtain ⟨k,i,rfl,hk,hi⟩:=J3 h;obtain ⟨a1,a2⟩:=se t.1 hk;obtain ⟨b1,b2⟩:=Dh t.1[k].2 hi;rw [VJ,OD t hk hi];simp only [aal,aap,a1,a2,b1,b2,ap hk,ap hi,aaq,cond_true]
def BL (a b:Int × Int):Bool:=(a.1 == b.1)&&(a.2 == b.2)
theorem Gu (a b c d:Int):((a == c)&&(b == d))=BL (a,b) (c,d):=rfl
theorem Di (a b c d:Int):((a == c)&&((b == d)&&true))=BL (a,b) (c,d):=by rw [aas]; rfl
theorem ze {a b:Int × Int}:BL a b=true↔a=b:=by
 unfold BL;rw [Bool.and_eq_true,beq_iff_eq,beq_iff_eq];exact ⟨fun h=>Prod.ext h.1 h.2,fun h=>by rw [h]; exact ⟨rfl,rfl⟩⟩
theorem vR (a b:Int × Int):BL a b=BL b a:=by
 apply Bool.eq_iff_iff.2;rw [ze,ze];exact ⟨fun h=>h.symm,fun h=>h.symm⟩
def pI (s:Int × Int):Int:=bH [Pe s.1 1 10000,Pe s.2 (-100000) 100000]
def tw (b:List nJ) (x:nJ):Int:=
 if kR x.1=false then 8 else if (b.any fun y=>y.1 == x.1)=true then 9 else if x.2.length < 3∨x.2.length > 8 then 2 else bH (x.2.map pI)
def IN (s x:qq):Bool:=BL (x.1,x.2.1) (s.1,s.2.1) || (BL (x.1,x.2.1) (s.2.2.1,s.2.2.2.1) || (BL (x.2.2.1,x.2.2.2.1) (s.1,s.2.1) || BL (x.2.2.1,x.2.2.2.1) (s.2.2.1,s.2.2.2.1)))
def OE (a b:Int):Bool:=decide (a > wrap .i64 (2 * b)) || decide (b > wrap .i64 (2 * a))
def ma (t:fx) (b:List qq) (s:qq):Int:=
 if (vQ t (s.1,s.2.1)&&vQ t (s.2.2.1,s.2.2.2.1))=false then 10 else
  if BL (s.1,s.2.1) (s.2.2.1,s.2.2.2.1)=true then 9 else if (b.any (IN s))=true then 9 else
   if OE (J2 t (s.1,s.2.1)).1 (J2 t (s.2.2.1,s.2.2.2.1)).1=true then 24 else 0
def nH (l:List nJ):Int:=bH (l.mapIdx fun k x=>tw (l.take k) x)
def yd (t:fx):Int:=bH (t.2.mapIdx fun k s=>ma t (t.2.take k) s)
def eQ (t:fx):Int:=
 if t.1.length=0 then 12 else if t.1.length > 16 then 5 else if nH t.1≠0 then nH t.1 else if t.2.length > 64 then 5 else yd t
theorem oB {α:Type} (q:α→Bool) (c:Int) (hc:c≠0):∀ l:List α,bH (l.map fun y=>if q y=true then c else 0)=if l.any q=true then c else 0
 |[]=>rfl
 |y :: l=>by
  rw [aaT,List.any_cons];unfold bH;rw [oB q c hc l];cases q y with
  |true=>simp [hc]
  |false=>simp
theorem J6 {c:Int} (hc:c≠0) (b:Bool):(if (if b=true then c else 0)=0 then .inr () else .inl (if b=true then c else 0):Int ⊕ Unit)=if b=true then .inl c else .inr ():=by
 cases b with
 |true=>rw [if_pos rfl,if_neg hc]; rfl
 |false=>rfl
section
variable {N:Nat} (hN:fM N)
include hN
theorem LG (l:List nJ) (k:Nat) (hk:k < l.length) (hl:l.length≤1000000):aB (Bv N l (k:Int)) N 0=some (if ((l.take k).any fun y=>y.1 == l[k].1)=true then .inl 9 else .inr ()):=by
 have key:=gr (rd:=Bv N l (k:Int)) ((l.take k).map fun y=>if (y.1 == l[k].1)=true then (9:Int) else 0) (fun j hj=>by
  rw [aal,aav] at hj;have hj1:j < k:=by omega
  have hj2:j < l.length:=by omega
  obtain ⟨a1,a2⟩:=vN l hj2;obtain ⟨b1,b2⟩:=vN l hk;simp only [Bv,aal,aap,a1,a2,b1,b2,aE hj1,ap hj2,ap hk,aaq,cond_true,bg (show j < 9223372036854775807 by omega),aaL,List.getElem_take];cases l[j].1 == l[k].1 <;> rfl) (by
   have e:((l.take k).map fun y=>if (y.1 == l[k].1)=true then (9:Int) else 0).length=k:=by rw [aal,aav]; omega
   rw [e];simp only [Bv,bc,cond_false]) N (by rw [aal,aav]; unfold fM at hN; omega)
 rw [key,oB _ 9 (by decide)];cases (l.take k).any fun y=>y.1 == l[k].1 <;> rfl
theorem LH (l:List nJ) (k:Nat) (hk:k < l.length) (hl:l[k].2.length≤1000000):aB (vD N l (k:Int)) N 0=some (if bH (l[k].2.map pI)=0 then .inr () else .inl (bH (l[k].2.map pI))):=by
 obtain ⟨b1,b2⟩:=vN l hk;exact gr (rd:=vD N l (k:Int)) (l[k].2.map pI) (fun j hj=>by
  rw [aal] at hj;obtain ⟨a1,a2⟩:=OC l[k].2 hj;have ex:∀ x y:Int,(bif (allFit (fits p3) [(AV.int .i64 x),(AV.int .i64 y)]&&true) then some (map d3 [(AV.int .i64 x),(AV.int .i64 y)]) else none:Option (List Int))=some [x,y]:=fun x y=>rfl
  simp only [vD,aal,aap,a1,a2,b1,b2,aE hj,ap hj,ap hk,aaq,cond_true,bg (show j < 9223372036854775807 by omega),aaL,OB,aao,beq_self_eq_true,ex,IL hN _ (show [Pe l[k].2[j].1 1 10000,Pe l[k].2[j].2 (-100000) 100000].length≤9223372036854775806 by simp)];show (bif pI l[k].2[j] != 0 then _ else _)=_;by_cases hz:pI l[k].2[j]=0
  ·rw [hz]; rfl
  ·rw [B9 hz,if_neg hz]; rfl) (by
   simp only [vD,aal,aap,b1,b2,ap hk,aaq,cond_true,bc,cond_false]) N (by rw [aal]; unfold fM at hN; omega)
theorem Xo (l:List nJ) (k:Nat) (hk:k < l.length) (hl:l.length≤1000000):T64 N (l,(k:Int))=some (tw (l.take k) l[k]):=by
 obtain ⟨b1,b2⟩:=vN l hk;rw [WR];unfold tw;simp only [aal,aap,b1,b2,ap hk,aaq,cond_true,LC hN,aao,LG hN l k hk hl];cases hn:kR l[k].1 with
 |false=>rfl
 |true=>
  cases ha:(l.take k).any fun y=>y.1 == l[k].1 with
  |true=>rfl
  |false=>
   rw [if_neg (by decide),if_neg (by decide),if_neg (by decide)];by_cases h3:l[k].2.length < 3
   ·have d:decide (((l[k].2.length:Nat):Int) < 3)=true:=by simp; omega
    rw [d,if_pos (.inl h3)]; rfl
   ·have d:decide (((l[k].2.length:Nat):Int) < 3)=false:=by simp; omega
    by_cases h8:l[k].2.length > 8
    ·have d':decide (((l[k].2.length:Nat):Int) > 8)=true:=by simp; omega
     rw [d,d',if_pos (.inr h8)]; rfl
    ·have d':decide (((l[k].2.length:Nat):Int) > 8)=false:=by simp; omega
     rw [d,d',if_neg (by omega),LH hN l k hk (by omega)];by_cases hz:bH (l[k].2.map pI)=0
     ·rw [if_pos hz,hz]; rfl
     ·rw [if_neg hz]; rfl
theorem OF (t:fx) (b:List qq) (s:qq) (hb:b.length≤1000000):R6 N (t,b,s)=some (ma t b s):=by
 have key:=gr (rd:=vC N b s) (b.map fun y=>if IN s y=true then (9:Int) else 0) (fun j hj=>by
  rw [aal] at hj;obtain ⟨a1,a2⟩:=LF b hj;simp only [vC,aal,aap,a1,a2,aE hj,ap hj,aaq,cond_true,bg (show j < 9223372036854775807 by omega),aaL,Di];unfold IN;cases BL (b[j].1,b[j].2.1) (s.1,s.2.1) <;> cases BL (b[j].1,b[j].2.1) (s.2.2.1,s.2.2.2.1) <;> cases BL (b[j].2.2.1,b[j].2.2.2.1) (s.1,s.2.1) <;> cases BL (b[j].2.2.1,b[j].2.2.2.1) (s.2.2.1,s.2.2.2.1) <;> rfl) (by
   rw [aal]; simp only [vC,aal,bc,cond_false]) N (by rw [aal]; unfold fM at hN; omega)
 rw [oB _ 9 (by decide),J6 (by decide)] at key;have key:aB (vC N b (s.1,s.2.1,s.2.2.1,s.2.2.2.1,s.2.2.2.2)) N 0=_:=key;rw [show R6 N (t,b,s)=R6 N ((t.1,t.2),b,(s.1,s.2.1,s.2.2.1,s.2.2.2.1,s.2.2.2.2)) from rfl,WM];unfold ma;simp only [nS,nT,qN,qO,aas,cond_true,aao,Gu,beq_self_eq_true,aaq,Gq,Gr,key];rw [show (t.1,t.2)=t from rfl,J4,J4];simp only [aao];cases h1:vQ t (s.1,s.2.1) with
 |false=>rfl
 |true=>
  cases h2:vQ t (s.2.2.1,s.2.2.2.1) with
  |false=>rfl
  |true=>
   simp only [aaS,cond_false,aao,aaq,reduceCtorEq,if_false];rw [Gs N t _ h1,Gs N t _ h2];cases h3:BL (s.1,s.2.1) (s.2.2.1,s.2.2.2.1) with
   |true=>rfl
   |false=>
    cases h4:b.any (IN s) with
    |true=>rfl
    |false=>
     unfold OE;simp only [aao,aaV,ze.2 rfl,cond_true,cond_false,reduceCtorEq,if_false];cases decide ((J2 t (s.1,s.2.1)).1 > wrap .i64 (2 * (J2 t (s.2.2.1,s.2.2.2.1)).1)) with
     |true=>rfl
     |false=>cases decide ((J2 t (s.2.2.1,s.2.2.2.1)).1 > wrap .i64 (2 * (J2 t (s.1,s.2.1)).1)) <;> rfl
theorem OG (t:fx) (b:List qq) (s:qq) (hb:b.length≤1000000):Rm N (t,s,b)=some (ma t b s):=by
 have key:=gr (rd:=Bq N s b) (b.map fun y=>if IN s y=true then (9:Int) else 0) (fun j hj=>by
  rw [aal] at hj;obtain ⟨a1,a2⟩:=Bm b hj;simp only [Bq,aal,aap,a1,a2,aE hj,ap hj,aaq,cond_true,bg (show j < 9223372036854775807 by omega),aaL,Di];unfold IN;rw [vR (s.1,s.2.1) (b[j].1,b[j].2.1),vR (s.1,s.2.1) (b[j].2.2.1,b[j].2.2.2.1),vR (s.2.2.1,s.2.2.2.1) (b[j].1,b[j].2.1),vR (s.2.2.1,s.2.2.2.1) (b[j].2.2.1,b[j].2.2.2.1)];cases BL (b[j].1,b[j].2.1) (s.1,s.2.1) <;> cases BL (b[j].1,b[j].2.1) (s.2.2.1,s.2.2.2.1) <;> cases BL (b[j].2.2.1,b[j].2.2.2.1) (s.1,s.2.1) <;> cases BL (b[j].2.2.1,b[j].2.2.2.1) (s.2.2.1,s.2.2.2.1) <;> rfl) (by
   rw [aal]; simp only [Bq,aal,bc,cond_false]) N (by rw [aal]; unfold fM at hN; omega)
 rw [oB _ 9 (by decide),J6 (by decide)] at key;have key:aB (Bq N (s.1,s.2.1,s.2.2.1,s.2.2.2.1,s.2.2.2.2) b) N 0=_:=key;have ex:∀ x y:Int,(bif (allFit (fits C4) [(AV.int .i64 x),(AV.int .i64 y)]) then some (map d29 [(AV.int .i64 x),(AV.int .i64 y)]) else none:Option (List Int))=some [x,y]:=fun x y=>rfl
 rw [show Rm N (t,s,b)=Rm N ((t.1,t.2),(s.1,s.2.1,s.2.2.1,s.2.2.2.1,s.2.2.2.2),b) from rfl,Wc];unfold ma;simp only [cI,cJ,bX,bY,aas,cond_true,aao,Gu,beq_self_eq_true,aaq,JU,Gd,key,nG,ex];rw [show (t.1,t.2)=t from rfl,J5,J5];simp only [aao];cases h1:vQ t (s.1,s.2.1) with
 |false=>rfl
 |true=>
  cases h2:vQ t (s.2.2.1,s.2.2.2.1) with
  |false=>rfl
  |true=>
   simp only [aaS,cond_false,aao,aaq,reduceCtorEq,if_false];rw [Gt N t _ h1,Gt N t _ h2];cases h4:b.any (IN s) with
   |true=>
    cases h3:BL (s.1,s.2.1) (s.2.2.1,s.2.2.2.1) <;> rfl
   |false=>
    unfold OE;simp only [aao,aaV,ze.2 rfl,cond_true,cond_false,reduceCtorEq,if_false,iN hN [_,_] (show 2≤9223372036854775806 by omega)];cases BL (s.1,s.2.1) (s.2.2.1,s.2.2.2.1) <;> cases decide ((J2 t (s.1,s.2.1)).1 > wrap .i64 (2 * (J2 t (s.2.2.1,s.2.2.2.1)).1)) <;> cases decide ((J2 t (s.2.2.1,s.2.2.2.1)).1 > wrap .i64 (2 * (J2 t (s.1,s.2.1)).1)) <;> rfl
end
end Go.Proofs.YtegoimldbgdeiaaGreat
namespace Go.Proofs.YtegoimldbgdeiaaGreat
open Go Go.Am
open List (map)
open Int (toNat)
open Go.IntKind (wrap)
open Go.Am.aP (fits)
set_option maxRecDepth 100000
theorem Gv {V X:Type} {rd:V→Option (V ⊕ X)} (l:List Int) (E:Nat→V) (ex:Int→X) (fin:X)
  (h:∀ k (hk:k < l.length),rd (E k)=some (if l[k]=0 then .inl (E (k+1)) else .inr (ex l[k]))) (h0:rd (E l.length)=some (.inr fin)) (n:Nat) (hn:l.length < n) :
  aB rd n (E 0)=some (if bH l=0 then fin else ex (bH l)):=by
 have key:=jr (rd:=rd) (S:=Unit) (Y:=Int) l (fun _ k=>E k) (fun _ x=>if x=0 then .inl () else .inr x) (fun _=>fin) ex (fun _ _=>True)
  (fun s k hk _=>⟨by rw [h k hk]; by_cases e:l[k]=0 <;> simp [e],fun _ _=>trivial⟩) (fun _ _=>h0) n () 0 (aaK _) (by omega) trivial
 rw [aaQ] at key;refine key.trans (congrArg some ?_);clear key h h0 hn
 induction l with
 |nil=>rfl
 |cons x l ih=>
  simp only [foldI,bH];by_cases e:x=0
  ·simp only [e,if_true,aaO]; exact ih
  ·simp [e]
theorem Dj {α:Type} (q:α→Bool):∀ (l:List α) (s:Nat),(l.any q=true∧∃ i:Nat,foldI (fun (s:Nat) x=>if q x=true then .inr s else .inl (s+1)) s l=(.inr i:Nat ⊕ Nat))∨(l.any q=false∧∃ i:Nat,foldI (fun (s:Nat) x=>if q x=true then .inr s else .inl (s+1)) s l=(.inl i:Nat ⊕ Nat))
 |[],s=>.inr ⟨rfl,s,rfl⟩
 |x :: l,s=>by
  rw [List.any_cons];unfold foldI;cases h:q x with
  |true=>exact .inl ⟨rfl,s,rfl⟩
  |false=>
   simp only [Bool.false_or,reduceCtorEq,if_false,aaO];exact Dj q l (s+1)
section
variable {N:Nat} (hN:fM N)
include hN
theorem Xp (t:fx):T14 N t=some (eQ t):=by
 rw [WT];unfold eQ;simp only [aal];by_cases h0:t.1.length=0
 ·rw [show (((t.1.length:Nat):Int) == 0)=true by simp [h0],if_pos h0]; rfl
 ·rw [show (((t.1.length:Nat):Int) == 0)=false by simp; exact fun h=>h0 (by rw [h]; rfl),if_neg h0];by_cases h1:t.1.length > 16
  ·have d:decide (((t.1.length:Nat):Int) > 16)=true:=by simp; omega
   rw [d,if_pos h1]; rfl
  ·have d:decide (((t.1.length:Nat):Int) > 16)=false:=by simp; omega
   rw [d,if_neg h1];have k1:=gr (rd:=vE N t) (t.1.mapIdx fun k x=>tw (t.1.take k) x) (fun j hj=>by
    rw [List.length_mapIdx] at hj;simp only [vE,aal,nS,nT,aas,cond_true,aao,aE hj,Xo hN t.1 j hj (by omega),bg (show j < 9223372036854775807 by omega),List.getElem_mapIdx];by_cases hz:tw (t.1.take j) t.1[j]=0
    ·rw [hz]; rfl
    ·rw [B9 hz,if_neg hz]; rfl) (by
     rw [List.length_mapIdx]; simp only [vE,aal,bc,cond_false]) N (by rw [List.length_mapIdx]; unfold fM at hN; omega)
   have k1:aB (vE N t) N 0=some (if nH t.1=0 then .inr () else .inl (nH t.1)):=k1;rw [k1];by_cases h2:nH t.1=0
   ·rw [if_pos h2,if_neg (show ¬ nH t.1≠0 from fun h=>h h2)];simp only [cond_false,aao,aaV];by_cases h3:t.2.length > 64
    ·have d:decide (((t.2.length:Nat):Int) > 64)=true:=by simp; omega
     rw [d,if_pos h3]; rfl
    ·have d:decide (((t.2.length:Nat):Int) > 64)=false:=by simp; omega
     rw [d,if_neg h3];have k2:=gr (rd:=vF N t) (t.2.mapIdx fun k s=>ma t (t.2.take k) s) (fun j hj=>by
      rw [List.length_mapIdx] at hj;obtain ⟨a1,a2⟩:=LF t.2 hj;have q:R6 N ((t.1,t.2),t.2.take j,(t.2[j].1,t.2[j].2.1,t.2[j].2.2.1,t.2[j].2.2.2.1,t.2[j].2.2.2.2))=some (ma t (t.2.take j) t.2[j]):=OF hN t (t.2.take j) t.2[j] (by rw [aav]; omega);simp only [vF,aal,aap,vO,a1,a2,nS,nT,qN,qO,aas,aaq,cond_true,aao,aE hj,ap hj,vP (aaY hj),q,bg (show j < 9223372036854775807 by omega),List.getElem_mapIdx];by_cases hz:ma t (t.2.take j) t.2[j]=0
      ·rw [hz]; rfl
      ·rw [B9 hz,if_neg hz]; rfl) (by
       rw [List.length_mapIdx]; simp only [vF,aal,bc,cond_false]) N (by rw [List.length_mapIdx]; unfold fM at hN; omega)
     have k2:aB (vF N t) N 0=some (if yd t=0 then .inr () else .inl (yd t)):=k2;rw [k2];by_cases h4:yd t=0
     ·rw [if_pos h4,h4]; rfl
     ·rw [if_neg h4]; rfl
   ·rw [if_neg h2,if_pos h2]; rfl
theorem LI (l:List nJ) (k:Nat) (hk:k < l.length) (hl:l.length≤1000000) (nm:List UInt8) (sd:List (Int × Int)) :
  ∃ o,aB (nA N l (k:Int)) N (0,nm,sd)=some o∧((((l.take k).any fun y=>y.1 == nm)=true∧∃ i:Nat,o=.inl ((i:Int),nm,sd))∨(((l.take k).any fun y=>y.1 == nm)=false∧o=.inr (nm,sd))):=by
 have ht:(l.take k).length=k:=by rw [aav]; omega
 have key:=jr (rd:=nA N l (k:Int)) (S:=Nat) (Y:=Nat) (l.take k) (fun _ j=>((j:Int),nm,sd)) (fun s x=>if (x.1 == nm)=true then .inr s else .inl (s+1)) (fun _=>.inr (nm,sd)) (fun i=>.inl ((i:Int),nm,sd)) (fun s j=>s=j)
  (fun s j hj hs=>by
   subst hs;refine ⟨?_,fun s' Pu=>by split at Pu <;> simp_all⟩;obtain ⟨a1,a2⟩:=se (l.take k) hj;rw [ht] at hj;simp only [nA,aal,aap,vO,a1,a2,ht,aE hj,ap hj,aaq,aas,cond_true,Bf,Bg,aao,bg (show s < 9223372036854775807 by omega)];cases (l.take k)[s].1 == nm <;> rfl)
  (fun s hs=>by
   rw [ht];simp only [nA,aal,aap,vO,ht,bc,cond_false,aas,cond_true,Bf,Bg,aao]) N 0 0 (aaK _) (by rw [ht]; unfold fM at hN; omega) rfl
 refine ⟨_,key,?_⟩;rw [aaQ];rcases Dj (fun y:nJ=>y.1 == nm) (l.take k) 0 with ⟨h,i,e⟩|⟨h,i,e⟩
 ·exact .inl ⟨h,i,by rw [e]; rfl⟩
 ·exact .inr ⟨h,by rw [e]; rfl⟩
theorem LJ (y:Int) (nm:List UInt8) (sd:List (Int × Int)) (hl:sd.length≤1000000):aB (pD N (y,nm,sd)) N (0,nm,sd)=some (if bH (sd.map pI)=0 then .inr (nm,sd) else .inl (bH (sd.map pI),nm,sd)):=by
 exact Gv (rd:=pD N (y,nm,sd)) (sd.map pI) (fun j=>((j:Int),nm,sd)) (fun e=>.inl (e,nm,sd)) (.inr (nm,sd)) (fun j hj=>by
  rw [aal] at hj;obtain ⟨a1,a2⟩:=Dh sd hj;have ex:∀ x y:Int,(bif (allFit (fits C4) [(AV.int .i64 x),(AV.int .i64 y)]) then some (map d29 [(AV.int .i64 x),(AV.int .i64 y)]) else none:Option (List Int))=some [x,y]:=fun x y=>rfl
  simp only [pD,aal,aap,a1,a2,aE hj,ap hj,aaq,aas,cond_true,Bf,Bg,bg (show j < 9223372036854775807 by omega),aaL,Sh,aao,beq_self_eq_true,ex,iN hN _ (show [Pe sd[j].1 1 10000,Pe sd[j].2 (-100000) 100000].length≤9223372036854775806 by simp)];show (bif pI sd[j] != 0 then _ else _)=_;by_cases hz:pI sd[j]=0
  ·rw [hz]; rfl
  ·rw [B9 hz,if_neg hz]; rfl) (by
   simp only [pD,aal,bc,cond_false,Bf,Bg,aas,cond_true,aao]) N (by rw [aal]; unfold fM at hN; omega)
theorem Si (l:List nJ) (hl:l.length≤1000000):T98 N l=some (nH l):=by
 rw [Wb];have key:=gr (rd:=Eo N l) (l.mapIdx fun k x=>tw (l.take k) x) (fun k hk=>by
  rw [List.length_mapIdx] at hk;obtain ⟨a1,a2⟩:=se l hk;obtain ⟨o,ho,hc⟩:=LI hN l k hk hl l[k].1 l[k].2;have ex:∀ x y z:Int,(bif (allFit (fits C4) [(AV.int .i64 x),(AV.int .i64 y),(AV.int .i64 z)]) then some (map d29 [(AV.int .i64 x),(AV.int .i64 y),(AV.int .i64 z)]) else none:Option (List Int))=some [x,y,z]:=fun x y z=>rfl
  have hm:∃ c:Int,(decide (c≥0))=((l.take k).any fun y=>y.1 == l[k].1)∧∀ (F:(Int × List UInt8 × List (Int × Int))→Option (Int ⊕ (Int ⊕ Unit))),((Sum.elim (fun Ln=>(some (Ln.1,Ln.2.1,Ln.2.2):Option (Int × List UInt8 × List (Int × Int)))) (fun lB=>some ((-1:Int),lB.1,lB.2)) o).bind F)=F (c,l[k].1,l[k].2):=by
   rcases hc with ⟨h,i,rfl⟩|⟨h,rfl⟩
   ·exact ⟨(i:Int),by rw [h]; simp,fun F=>rfl⟩
   ·exact ⟨-1,by rw [h]; simp,fun F=>rfl⟩
  obtain ⟨c,PO,Fs⟩:=hm;simp only [Eo,aal,aap,a1,a2,aE hk,ap hk,vP (aaY hk),aaq,aas,cond_true,Bf,Bg,aao,ho,Fs,LD hN,N2,beq_self_eq_true,nG,PO,ex,bg (show k < 9223372036854775807 by omega),List.getElem_mapIdx];have e1:∀ z:Int,Ek N [if (!kR l[k].1)=true then 8 else 0,if ((l.take k).any fun y=>y.1 == l[k].1)=true then 9 else 0,z]=some (if kR l[k].1=false then 8 else if ((l.take k).any fun y=>y.1 == l[k].1)=true then 9 else z):=fun z=>by
   rw [iN hN [_,_,_] (show 3≤9223372036854775806 by omega)];cases kR l[k].1 <;> cases (l.take k).any fun y=>y.1 == l[k].1
   ·rfl
   ·rfl
   ·show some (bH [0,0,z])=some z;unfold bH bH bH bH;by_cases hz:z=0
    ·rw [hz]; rfl
    ·simp [hz]
   ·rfl
  simp only [e1,aao,if_true];unfold tw;have e2:∀ F:(Int × List UInt8 × List (Int × Int))→Option (Int ⊕ (Int ⊕ Unit)),((bif decide (((l[k].2.length:Nat):Int) < 3) then (some ((if kR l[k].1=false then 8 else if ((l.take k).any fun y=>y.1 == l[k].1)=true then 9 else 2),l[k].1,l[k].2)) else some ((if kR l[k].1=false then 8 else if ((l.take k).any fun y=>y.1 == l[k].1)=true then 9 else if decide (((l[k].2.length:Nat):Int) > 8)=true then 2 else 0),l[k].1,l[k].2):Option (Int × List UInt8 × List (Int × Int))).bind F)=F ((if kR l[k].1=false then 8 else if ((l.take k).any fun y=>y.1 == l[k].1)=true then 9 else if l[k].2.length < 3∨l[k].2.length > 8 then 2 else 0),l[k].1,l[k].2):=fun F=>by
   by_cases h3:l[k].2.length < 3
   ·have d:decide (((l[k].2.length:Nat):Int) < 3)=true:=by simp; omega
    rw [d,if_pos (show l[k].2.length < 3∨l[k].2.length > 8 from .inl h3)]; rfl
   ·have d:decide (((l[k].2.length:Nat):Int) < 3)=false:=by simp; omega
    rw [d];by_cases h8:l[k].2.length > 8
    ·have d':decide (((l[k].2.length:Nat):Int) > 8)=true:=by simp; omega
     rw [d',if_pos (show l[k].2.length < 3∨l[k].2.length > 8 from .inr h8)]; rfl
    ·have d':decide (((l[k].2.length:Nat):Int) > 8)=false:=by simp; omega
     rw [d',if_neg (show ¬ (l[k].2.length < 3∨l[k].2.length > 8) by omega)]; rfl
  rw [e2];cases kR l[k].1 with
  |false=>rfl
  |true=>
   cases (l.take k).any fun y=>y.1 == l[k].1 with
   |true=>rfl
   |false=>
    simp only [reduceCtorEq,if_false];by_cases h3:l[k].2.length < 3∨l[k].2.length > 8
    ·rw [if_pos h3,if_pos h3]; rfl
    ·rw [if_neg h3,if_neg h3,LJ hN 0 l[k].1 l[k].2 (by omega)];by_cases hz:bH (l[k].2.map pI)=0
     ·rw [if_pos hz,hz]; rfl
     ·rw [if_neg hz,if_neg hz]; rfl) (by
   rw [List.length_mapIdx]; simp only [Eo,aal,bc,cond_false]) N (by rw [List.length_mapIdx]; unfold fM at hN; omega)
 rw [key];unfold nH;by_cases hz:bH (l.mapIdx fun k x=>tw (l.take k) x)=0
 ·rw [if_pos hz,hz]; rfl
 ·rw [if_neg hz]; rfl
theorem IP (t:fx):L8 N t=some (eQ t):=by
 rw [show L8 N t=L8 N (t.1,t.2) from rfl,Wd];unfold eQ;obtain ⟨m,hm,hm1,hm2⟩:∃ m:Nat,(if (16:Int) < ((t.1.length:Nat):Int) then (16:Int) else ((t.1.length:Nat):Int))=(m:Int)∧m≤t.1.length∧(t.1.length≤16→m=t.1.length):=by
  by_cases h:t.1.length > 16
  ·exact ⟨16,if_pos (by omega),by omega,by omega⟩
  ·exact ⟨t.1.length,if_neg (by omega),Nat.le_refl _,fun _=>rfl⟩
 have hm3:m≤16:=by
  by_cases h:t.1.length > 16
  ·rw [if_pos (by omega)] at hm; omega
  ·omega
 have ht:(t.1.take m).length≤1000000:=by rw [aav]; omega
 have ex:∀ x y z u:Int,(bif (allFit (fits C4) [(AV.int .i64 x),(AV.int .i64 y),(AV.int .i64 z),(AV.int .i64 u)]) then some (map d29 [(AV.int .i64 x),(AV.int .i64 y),(AV.int .i64 z),(AV.int .i64 u)]) else none:Option (List Int))=some [x,y,z,u]:=fun x y z u=>rfl
 simp only [aal,hm,aap,vP hm1,vO,nG,beq_self_eq_true,JU,Gd,aas,aaq,cond_true,aao,cI,cJ,Si hN _ ht,ex,iN hN [_,_,_,_] (show 4≤9223372036854775806 by omega)];by_cases h0:t.1.length=0
 ·rw [show (((t.1.length:Nat):Int) == 0)=true by simp [h0],if_pos h0]; rfl
 ·rw [show (((t.1.length:Nat):Int) == 0)=false by simp; exact fun h=>h0 (by rw [h]; rfl),if_neg h0];by_cases h1:t.1.length > 16
  ·have d:decide (((t.1.length:Nat):Int) > 16)=true:=by simp; omega
   rw [d,if_pos h1]; rfl
  ·have d:decide (((t.1.length:Nat):Int) > 16)=false:=by simp; omega
   rw [d,if_neg h1,hm2 (by omega),aaN];by_cases h2:nH t.1=0
   ·rw [h2,if_neg (show ¬ ((0:Int)≠0) by decide)];by_cases h3:t.2.length > 64
    ·have d:decide (((t.2.length:Nat):Int) > 64)=true:=by simp; omega
     rw [d,if_pos h3]; rfl
    ·have d:decide (((t.2.length:Nat):Int) > 64)=false:=by simp; omega
     rw [d,if_neg h3];have k2:=gr (rd:=Br N t) (t.2.mapIdx fun k s=>ma t (t.2.take k) s) (fun j hj=>by
      rw [List.length_mapIdx] at hj;obtain ⟨a1,a2⟩:=Bm t.2 hj;have q:Rm N ((t.1,t.2),(t.2[j].1,t.2[j].2.1,t.2[j].2.2.1,t.2[j].2.2.2.1,t.2[j].2.2.2.2),t.2.take j)=some (ma t (t.2.take j) t.2[j]):=OG hN t (t.2.take j) t.2[j] (by rw [aav]; omega);simp only [Br,aal,aap,vO,a1,a2,cI,cJ,bX,bY,aas,aaq,cond_true,aao,aE hj,ap hj,vP (aaY hj),q,bg (show j < 9223372036854775807 by omega),List.getElem_mapIdx];by_cases hz:ma t (t.2.take j) t.2[j]=0
      ·rw [hz]; rfl
      ·rw [B9 hz,if_neg hz]; rfl) (by
       rw [List.length_mapIdx]; simp only [Br,aal,bc,cond_false]) N (by rw [List.length_mapIdx]; unfold fM at hN; omega)
     have k2:aB (Br N (t.1,t.2)) N 0=some (if yd t=0 then .inr () else .inl (yd t)):=k2;rw [k2];by_cases h4:yd t=0
     ·rw [if_pos h4,h4]; rfl
     ·rw [if_neg h4]; rfl
   ·rw [if_pos (show nH t.1≠0 from h2)];have ef:∀ z:Int,bH [if false=true then 12 else 0,if false=true then 5 else 0,nH t.1,z]=nH t.1:=fun z=>by
     show bH [0,0,nH t.1,z]=_;simp [bH,h2]
    rw [ef,B9 h2]; rfl
omit hN in
theorem OH {t:fx} (h:eQ t=0):t.1.length≠0∧t.1.length≤16∧nH t.1=0∧t.2.length≤64∧yd t=0:=by
 unfold eQ at h;split at h
 ·cases h
 ·split at h
  ·cases h
  ·split at h
   ·contradiction
   ·split at h
    ·cases h
    ·refine ⟨by assumption,by omega,by omega,by omega,h⟩
end
end Go.Proofs.YtegoimldbgdeiaaGreat
namespace Go.Proofs.YtegoimldbgdeiaaGreat
open Go Go.Am
open List (map)
open Int (toNat)
open Go.IntKind (wrap)
open Go.Am.aP (fits)
set_option maxRecDepth 100000
theorem IQ {V X α:Type} {rd:V→Option (V ⊕ X)} (l:List α) (q:α→Bool) (E:Nat→V) (ex:Nat→X) (fin:X)
  (h:∀ k (hk:k < l.length),rd (E k)=some (if q l[k]=true then .inr (ex k) else .inl (E (k+1)))) (h0:rd (E l.length)=some (.inr fin)) (n:Nat) (hn:l.length < n) :
  aB rd n (E 0)=some (match l.findIdx? q with | some i=>ex i | none=>fin):=by
 cases hf:l.findIdx? q with
 |none=>
  rw [List.findIdx?_eq_none_iff] at hf;exact bi (rd:=rd) l.length E fin (fun k hk=>by rw [h k hk,hf _ (List.getElem_mem hk)]; rfl) h0 n 0 (aaK _) (by omega)
 |some i=>
  rw [List.findIdx?_eq_some_iff_getElem] at hf;obtain ⟨hi,h1,h2⟩:=hf;exact bi (rd:=rd) i E (ex i) (fun k hk=>by
   rw [h k (by omega),if_neg (h2 k hk)]) (by rw [h i hi,if_pos h1]) n 0 (aaK _) (by omega)
section
variable {N:Nat} (hN:fM N)
include hN
omit hN in
theorem Sj (l:List (Int × Int)) (a b:Int):map n132 l++[AV.agg [AV.int .i64 a,AV.int .i64 b]]=map n132 (l++[(a,b)]):=by rw [aaW]; rfl
omit hN in
theorem J7 (l:List nJ) (x:List UInt8) (s:List (Int × Int)):map n131 l++[AV.agg [AV.str x,AV.list .gQ 2 (map n132 s)]]=map n131 (l++[(x,s)]):=by rw [aaW]; rfl
omit hN in
theorem J8 (l:List qq) (a b c d:Int) (w:Bool):map n110 l++[AV.agg [AV.int .i64 a,AV.int .i64 b,AV.int .i64 c,AV.int .i64 d,AV.bool w]]=map n110 (l++[(a,b,c,d,w)]):=by rw [aaW]; rfl
omit hN in
theorem Xq:allFit (fits r7) ([]:List AV)=true∧map d132 ([]:List AV)=[]∧(map n132 ([]:List (Int × Int))).length=0:=⟨rfl,rfl,rfl⟩
omit hN in
theorem Ew:allFit (fits iR) ([]:List AV)=true∧map d131 ([]:List AV)=[]∧(map n131 ([]:List nJ)).length=0:=⟨rfl,rfl,rfl⟩
omit hN in
theorem OI:allFit (fits js) ([]:List AV)=true∧map d110 ([]:List AV)=[]∧(map n110 ([]:List qq)).length=0:=⟨rfl,rfl,rfl⟩
theorem OJ (t:fx) (p:Nat) (hp:p < t.1.length) (hs:t.1[p].2.length≤1000) (acc:List nJ) (nm:List UInt8) :
  aB (pF N t ((p:Int),acc,())) N (0,nm,[])=some (nm,t.1[p].2):=by
 obtain ⟨a1,a2⟩:=vN t.1 hp;have key:=bi (rd:=pF N t ((p:Int),acc,())) t.1[p].2.length (fun k=>((k:Int),nm,t.1[p].2.take k)) (nm,t.1[p].2) (fun k hk=>by
  obtain ⟨b1,b2⟩:=OC t.1[p].2 hk;have ht:(t.1[p].2.take k).length=k:=by rw [aav]; omega
  have mC:(t.1[p].2.take (k+1)).length=k+1:=by rw [aav]; omega
  have d2:decide ((k+1) * 16≤140737488355328)=true:=decide_eq_true (by omega);have es:t.1[p].2.take k++[(t.1[p].2[k].1,t.1[p].2[k].2)]=t.1[p].2.take (k+1):=by rw [aaU,aax hk]; rfl
  simp only [pF,aal,aap,a1,b1,b2,aE hk,ap hk,ht,mC,d2,Sj,es,Bf,Bg,bg (show k < 9223372036854775807 by omega),aaq,aas,cond_true,aao,eq_self,decide_true]) (by
  simp only [pF,aal,aap,a1,bc,aaN,Bf,Bg,aaq,aas,cond_true,cond_false,aao,eq_self,decide_true]) N 0 (aaK _) (by unfold fM at hN; omega)
 exact key
theorem OK (t:fx) (h:t.1.length≤1000) (hs:∀ x∈t.1,x.2.length≤1000):aB (Bw N t) N (0,[],())=some (t.1,()):=by
 have key:=bi (rd:=Bw N t) t.1.length (fun k=>((k:Int),t.1.take k,())) (t.1,()) (fun k hk=>by
  obtain ⟨a1,a2⟩:=vN t.1 hk;have ht:(t.1.take k).length=k:=by rw [aav]; omega
  have mC:(t.1.take (k+1)).length=k+1:=by rw [aav]; omega
  have d2:decide ((k+1) * 40≤140737488355328)=true:=decide_eq_true (by omega);have es:t.1.take k++[(t.1[k].1,t.1[k].2)]=t.1.take (k+1):=by rw [aaU,aax hk]; rfl
  have q:=OJ hN t k hk (hs _ (List.getElem_mem hk)) (t.1.take k) t.1[k].1;simp only [Bw,aal,aap,a1,a2,aE hk,ap hk,ht,mC,d2,q,J7,es,cI,cJ,Xq,bg (show k < 9223372036854775807 by omega),aaq,aas,cond_true,aao,eq_self,decide_true,List.length_nil]) (by
  simp only [Bw,aal,bc,aaN,cI,cJ,aaq,aas,cond_true,cond_false,aao,eq_self,decide_true]) N 0 (aaK _) (by unfold fM at hN; omega)
 exact key
theorem LL (t:fx) (h:t.2.length≤1000000) (l:List nJ):aB (vH N t) N (0,l,[])=some (l,t.2):=by
 have key:=bi (rd:=vH N t) t.2.length (fun k=>((k:Int),l,t.2.take k)) (l,t.2) (fun k hk=>by
  obtain ⟨a1,a2⟩:=LF t.2 hk;have ht:(t.2.take k).length=k:=by rw [aav]; omega
  have mC:(t.2.take (k+1)).length=k+1:=by rw [aav]; omega
  have d2:decide ((k+1) * 40≤140737488355328)=true:=decide_eq_true (by omega);have es:t.2.take k++[(t.2[k].1,t.2[k].2.1,t.2[k].2.2.1,t.2[k].2.2.2.1,t.2[k].2.2.2.2)]=t.2.take (k+1):=by rw [aaU,aax hk]; rfl
  simp only [vH,vG,aal,aap,a1,a2,aE hk,ap hk,ht,mC,d2,J8,es,cI,cJ,bX,bY,bg (show k < 9223372036854775807 by omega),aaq,aas,cond_true,aao,eq_self,decide_true]) (by
  simp only [vH,vG,aal,bc,aaN,cI,cJ,bX,bY,aaq,aas,cond_true,cond_false,aao,eq_self,decide_true]) N 0 (aaK _) (by unfold fM at hN; omega)
 exact key
theorem Sk (t:fx) (h:t.1.length≤1000) (hs:∀ x∈t.1,x.2.length≤1000) (h2:t.2.length≤1000000):WU N t=some t:=by
 rw [WW];simp only [cI,cJ,bX,bY,Ew,OI,aal,List.length_nil,OK hN t h hs,LL hN t h2,aaq,aas,cond_true,aao,eq_self,decide_true]
theorem OL (t:fx) (a:Int):∃ b,T9 N (t,a)=some b∧(b=true→t.1.length≤18∧t.2.length≤66∧∀ x∈t.1,x.2.length≤10):=by
 rw [aan];simp only [aal];have o1:∃ c:Bool,((bif (decide (((t.1.length:Nat):Int) > a)) then (bif (decide (((t.1.length:Nat):Int)≤16)) then (some true) else (bif (decide (((t.1.length:Nat):Int) > 18)) then (some true) else (bif (decide (((t.2.length:Nat):Int) > 12)) then (bif (decide (((t.2.length:Nat):Int)≤64)) then (some true) else (some (decide (((t.2.length:Nat):Int) > 66)))) else (some (decide (((t.2.length:Nat):Int) > 66)))))) else (bif (decide (((t.1.length:Nat):Int) > 18)) then (some true) else (bif (decide (((t.2.length:Nat):Int) > 12)) then (bif (decide (((t.2.length:Nat):Int)≤64)) then (some true) else (some (decide (((t.2.length:Nat):Int) > 66)))) else (some (decide (((t.2.length:Nat):Int) > 66)))))):Option Bool)=some c∧(c=false→t.1.length≤18∧t.2.length≤66):=by
  by_cases c1:((t.1.length:Nat):Int) > a <;> by_cases c2:((t.1.length:Nat):Int)≤16 <;> by_cases c3:((t.1.length:Nat):Int) > 18 <;> by_cases c4:((t.2.length:Nat):Int) > 12 <;> by_cases c5:((t.2.length:Nat):Int)≤64 <;> by_cases c6:((t.2.length:Nat):Int) > 66 <;>
   simp only [c1,c2,c3,c4,c5,c6,decide_true,decide_false,cond_true,cond_false] <;> exact ⟨_,rfl,fun h=>by first | (cases h; done) | omega⟩
 obtain ⟨c,hc,Fs⟩:=o1;rw [hc];simp only [aao];cases c with
 |true=>exact ⟨false,rfl,fun h=>by cases h⟩
 |false=>
  obtain ⟨h1,h2⟩:=Fs rfl;have key:=IQ (rd:=Gl N t) t.1 (fun x=>decide (x.1.length > 60) || decide (x.2.length > 10)) (fun k=>(k:Int)) (fun _=>.inl false) (.inr ()) (fun k hk=>by
   obtain ⟨a1,a2⟩:=vN t.1 hk;simp only [Gl,aal,aap,a1,a2,aE hk,ap hk,aaq,cond_true,bg (show k < 9223372036854775807 by omega)];by_cases c1:t.1[k].1.length > 60
   ·have d:decide (((t.1[k].1.length:Nat):Int) > 60)=true:=by simp; omega
    rw [d,decide_eq_true c1]; rfl
   ·have d:decide (((t.1[k].1.length:Nat):Int) > 60)=false:=by simp; omega
    rw [d,decide_eq_false c1];by_cases c2:t.1[k].2.length > 10
    ·have d:decide (((t.1[k].2.length:Nat):Int) > 10)=true:=by simp; omega
     rw [d,decide_eq_true c2]; rfl
    ·have d:decide (((t.1[k].2.length:Nat):Int) > 10)=false:=by simp; omega
     rw [d,decide_eq_false c2]; rfl) (by
   simp only [Gl,aal,bc,cond_false]) N (by unfold fM at hN; omega)
  have key:aB (Gl N t) N 0=_:=key;rw [key,cond_false];cases hf:t.1.findIdx? (fun x=>decide (x.1.length > 60) || decide (x.2.length > 10)) with
  |some i=>exact ⟨false,rfl,fun h=>by cases h⟩
  |none=>
   rw [List.findIdx?_eq_none_iff] at hf;refine ⟨true,rfl,fun _=>⟨h1,h2,fun x hx=>?_⟩⟩;have:=hf x hx;simp only [Bool.or_eq_false_iff,decide_eq_false_iff_not] at this;omega
end
end Go.Proofs.YtegoimldbgdeiaaGreat
