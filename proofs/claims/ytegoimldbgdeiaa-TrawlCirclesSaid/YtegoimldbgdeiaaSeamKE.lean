/- Plain laws: names. -/
import Derived.Test.YtegoimldbgdeiaaTrwD
import Derived.Test.YtegoimldbgdeiaaSeamKB
set_option linter.all false
open Bool renaming and_self→aat, and_true→aau, true_and→aax, false_and→aaT, not_true→aa0
open Int renaming toNat_natCast→aas
open List renaming length_map→aae, length_take→aav, getElem_map→aay, getD_eq_getElem?_getD→aaA, getElem?_eq_getElem→aaK, drop_zero→aaP, map_cons→aa3
open Nat renaming zero_le→abd, le_of_lt→ab9
open Option renaming bind_some→aal
open Sum renaming elim_inl→aaM, elim_inr→aa6
namespace Go.Proofs.Ytegoimldbgdeiaa
open Go Go.Am
open List (map)
open Int (toNat)
open Go.IntKind (wrap)
open Go.Am.aL (fits)
set_option maxRecDepth 100000
def uJ (first:Bool) (c:Int):Bool:=
 !(decide (c≥65)&&decide (c≤90) || decide (c≥97)&&decide (c≤122))&&(first || (c != 95&&(decide (c < 48) || decide (c > 57))))
def mS (first:Bool):List UInt8→Bool
 |[]=>true
 |c :: l=>!uJ first (c.toNat:Int)&&mS false l
def JF (s:List UInt8):Bool:=decide (s.length≠0∧s.length≤24)
def mc (s:List UInt8):Bool:=JF s&&mS true s
theorem S1 (s:List UInt8):(((bif ((((s).length:Nat):Int) == 0) then (some true) else (some (decide ((((s).length:Nat):Int) > 24)))):Option Bool))=some (!JF s):=by
 unfold JF;by_cases h0:s.length=0
 ·simp [h0]
 ·rw [aiq (by omega)];by_cases h1:s.length≤24
  ·have:decide (((s.length:Nat):Int) > 24)=false:=by simp; omega
   rw [this]; simp [h0,h1]
  ·have:decide (((s.length:Nat):Int) > 24)=true:=by simp; omega
   rw [this]; simp [h1]
theorem PM (l:List UInt8):∀ (first:Bool),foldI (fun (b:Bool) (c:UInt8)=>if uJ b (c.toNat:Int) then (.inr ():Bool ⊕ Unit) else .inl false) first l=if mS first l then .inl (if l.isEmpty then first else false) else .inr ():=by
 induction l with
 |nil=>intro b; rfl
 |cons c l ih=>
  intro b;simp only [foldI,mS];by_cases h:uJ b (c.toNat:Int)=true
  ·simp [h]
  ·have h':uJ b (c.toNat:Int)=false:=by simpa using h
   simp only [h',Bool.false_eq_true,if_false,aaM,Bool.not_false,aax,ih false];by_cases h2:mS false l=true <;> simp [h2]
theorem S2 {N:Nat} (hN:eZ N) (s:List UInt8):T53 N s=some (mc s):=by
 rw [abG,S1];simp only [aal];unfold mc;cases Bb:JF s with
 |false=>rfl
 |true=>
  have hl:=of_decide_eq_true (show decide (s.length≠0∧s.length≤24)=true from Bb);simp only [aa0,cond_false,aax];have key:=ki (rd:=D5 N s) s (fun (b:Bool) k=>(k:Int)) (fun b (c:UInt8)=>if uJ b (c.toNat:Int) then (.inr ():Bool ⊕ Unit) else .inl false) (fun _=>.inr ()) (fun _=>.inl false) (fun b k=>b=(k == 0))
   (fun b k hk hb=>by
    refine ⟨?_,fun s' h'=>?_⟩
    ·subst hb;have e1:s.getD k 0=s[k]:=by simp [hk]
     have e2:((k:Int) == 0)=(k == 0):=by cases k <;> simp; omega
     unfold D5;simp only [aas,ay hk,ai hk,cond_true,bc (by omega:k < 9223372036854775807),e1,e2];unfold uJ;generalize ((s[k].toNat:Nat):Int)=c;generalize decide (c≥97)=b1;generalize decide (c≤122)=b2;generalize decide (c≥65)=b3;generalize decide (c≤90)=b4;generalize (c != 95)=b5;generalize decide (c < 48)=b6;generalize decide (c > 57)=b7;generalize (k == 0)=b0;cases b0 <;> cases b1 <;> cases b2 <;> cases b3 <;> cases b4 <;> cases b5 <;> cases b6 <;> cases b7 <;> rfl
    ·split at h'
     ·cases h'
     ·cases h'; simp)
   (fun b _=>by
    unfold D5;simp only [aS,cond_false]) N true 0 (abd _) (by unfold eZ at hN; omega) rfl
  have abX:aw (V:=Int) (X:=Bool ⊕ Unit) (D5 N s) N 0=_:=key;simp only [abX,aal,aaP,PM];cases mS true s <;> rfl
theorem JG {b:Bool} {c:Int} (h:128≤c):uJ b c=true:=by
 unfold uJ;have h1:decide (c≤90)=false:=by simp; omega
 have h2:decide (c≤122)=false:=by simp; omega
 have h3:(c != 95)=true:=by simp; omega
 have h4:decide (c > 57)=true:=by simp; omega
 rw [h1,h2,h3,h4];cases b <;> simp
theorem S3 {N:Nat} (hN:eZ N) (s:List UInt8):T89 N s=some (mc s):=by
 rw [aaI,S1];simp only [aal];unfold mc;cases Bb:JF s with
 |false=>rfl
 |true=>
  have hl:=of_decide_eq_true (show decide (s.length≠0∧s.length≤24)=true from Bb);simp only [aa0,cond_false,aax];have key:=ki (rd:=DN N) s (fun (p:Nat) k=>(s,(k:Int))) (fun p (c:UInt8)=>if uJ (p == 0) (c.toNat:Int) then (.inr (p+(dj s p).2):Nat ⊕ Nat) else .inl (p+1)) (fun p=>.inl (s,(p:Int))) (fun p=>.inr (false,s,(p:Int))) (fun p k=>p=k)
   (fun p k hk hp=>by
    subst hp;refine ⟨?_,fun s' h'=>?_⟩
    ·have e2:((p:Int) == 0)=(p == 0):=by cases p <;> simp; omega
     have e3:Nat.blt p s.length=true:=Nat.ble_eq_true_of_le hk;obtain ⟨r1,r2⟩:=Vf s p hk;unfold DN;simp only [aas,e3,cond_true,e2];have main:∀ (n:Nat) (c:Int),(((bif (decide (c≥65)) then (bif (decide (c≤90)) then (some (true,s,(((p+n):Nat):Int))) else (bif (decide (c≥97)) then (some ((decide (c≤122)),s,(((p+n):Nat):Int))) else (some (false,s,(((p+n):Nat):Int))))) else (bif (decide (c≥97)) then (some ((decide (c≤122)),s,(((p+n):Nat):Int))) else (some (false,s,(((p+n):Nat):Int))))):Option ((Bool × (List UInt8) × Int))).bind fun o3=>(((bif (!o3.1) then (bif (p == 0) then (some (true,o3.2.1,(((toNat o3.2.2):Nat):Int))) else (bif (c != 95) then (bif (decide (c < 48)) then (some (true,o3.2.1,(((toNat o3.2.2):Nat):Int))) else (some ((decide (c > 57)),o3.2.1,(((toNat o3.2.2):Nat):Int)))) else (some (false,o3.2.1,(((toNat o3.2.2):Nat):Int))))) else (some (false,o3.2.1,(((toNat o3.2.2):Nat):Int)))):Option ((Bool × (List UInt8) × Int))).bind fun o4=>(bif o4.1 then (some (Sum.inr (Sum.inr (false,o4.2.1,(((toNat o4.2.2):Nat):Int)))):Option (((List UInt8) × Int) ⊕ (((List UInt8) × Int) ⊕ (Bool × (List UInt8) × Int)))) else (some (Sum.inl (o4.2.1,(((toNat o4.2.2):Nat):Int))))))) =
       some (bif uJ (p == 0) c then Sum.inr (Sum.inr (false,s,((p+n:Nat):Int))) else Sum.inl (s,((p+n:Nat):Int))):=by
      intro n c;unfold uJ;generalize decide (c≥97)=b1;generalize decide (c≤122)=b2;generalize decide (c≥65)=b3;generalize decide (c≤90)=b4;generalize (c != 95)=b5;generalize decide (c < 48)=b6;generalize decide (c > 57)=b7;generalize (p == 0)=b0;cases b0 <;> cases b1 <;> cases b2 <;> cases b3 <;> cases b4 <;> cases b5 <;> cases b6 <;> cases b7 <;> rfl
     rw [main];by_cases ajG:s[p].toNat < 128
     ·rw [r1 ajG];by_cases hb:uJ (p == 0) (s[p].toNat:Int)=true
      ·simp [hb]
      ·have mX:uJ (p == 0) (s[p].toNat:Int)=false:=by simpa using hb
       simp [mX]
     ·have h1:=JG (b:=p == 0) (c:=((dj s p).1:Int)) (by have:=r2 (by omega); omega);have h2:=JG (b:=p == 0) (c:=(s[p].toNat:Int)) (by omega);rw [h1,if_pos h2];rfl
    ·split at h'
     ·cases h'
     ·cases h'; rfl)
   (fun p hp=>by
    subst hp;unfold DN;have e3:Nat.blt s.length s.length=false:=by
     cases hb:Nat.blt s.length s.length with
     |false=>rfl
     |true=>have:=Nat.le_of_ble_eq_true hb; omega
    simp only [aas,e3,cond_false]) N 0 0 (abd _) (by unfold eZ at hN; omega) rfl
  have abX:aw (V:=(List UInt8) × Int) (X:=((List UInt8) × Int) ⊕ (Bool × (List UInt8) × Int)) (DN N) N (s,((0:Nat):Int))=_:=key;rw [abX];simp only [aal,aaP];have gen:∀ (l:List UInt8) (p:Nat) (first:Bool),first=(p == 0)→Sum.elim (fun _=>true) (fun _=>false) (foldI (fun (p:Nat) (c:UInt8)=>if uJ (p == 0) (c.toNat:Int) then (.inr (p+(dj s p).2):Nat ⊕ Nat) else .inl (p+1)) p l)=mS first l:=by
   intro l
   induction l with
   |nil=>intro p first _; rfl
   |cons c l ih=>
    intro p first hf
    subst hf;simp only [foldI,mS];by_cases h:uJ (p == 0) (c.toNat:Int)=true
    ·simp [h]
    ·have h':uJ (p == 0) (c.toNat:Int)=false:=by simpa using h
     simp only [h',Bool.false_eq_true,if_false,aaM,Bool.not_false,aax];exact ih (p+1) false (by simp)
  have g:=gen s 0 true rfl;revert g;cases foldI (fun (p:Nat) (c:UInt8)=>if uJ (p == 0) (c.toNat:Int) then (.inr (p+(dj s p).2):Nat ⊕ Nat) else .inl (p+1)) 0 s with
  |inl p=>intro g; simp only [aaM] at g ⊢; rw [← g]
  |inr p=>intro g; simp only [aa6] at g ⊢; rw [← g]
end Go.Proofs.Ytegoimldbgdeiaa
namespace Go.Proofs.Ytegoimldbgdeiaa
open Go Go.Am
open List (map)
open Int (toNat)
open Go.IntKind (wrap)
open Go.Am.aL (fits)
set_option maxRecDepth 100000
theorem ajH (l:List Int) {k:Nat} (hk:k < l.length):d29 (ae (map n29 l) k)=l[k]∧fits Nv (ae (map n29 l) k)=true:=by
 rw [fY n29 l k hk]; exact ⟨rfl,rfl⟩
theorem vr {N:Nat} (hN:eZ N) (l:List Int) (hl:l.length≤9223372036854775806):Uc N l=some (bX l):=by
 obtain ⟨o,h1,h2⟩:=Dz (rd:=Hv N l) l (fun k hk=>by
  obtain ⟨e1,e2⟩:=ajH l hk;simp only [Hv,aae,aas,e1,e2,bc (show k < 9223372036854775807 by omega),ay hk,ai hk,aat,cond_true];by_cases hz:l[k]=0
  ·simp [hz]
  ·simp [hz,Bool.cond_eq_ite]) (by simp only [Hv,aae,aS,cond_false]) N (by unfold eZ at hN; omega)
 rw [aaf,h1,aal];rcases o with o|o
 ·simpa using h2
 ·simpa using h2
theorem PN {N:Nat} (hN:eZ N) (l:List Int) (hl:l.length≤9223372036854775806):T54 N l=some (bX l):=by
 obtain ⟨o,h1,h2⟩:=Dz (rd:=HD N l) l (fun k hk=>by
  obtain ⟨e1,e2⟩:=Pz l hk;simp only [HD,aae,aas,e1,e2,bc (show k < 9223372036854775807 by omega),ay hk,ai hk,aat,cond_true];by_cases hz:l[k]=0
  ·simp [hz]
  ·simp [hz,Bool.cond_eq_ite]) (by simp only [HD,aae,aS,cond_false]) N (by unfold eZ at hN; omega)
 rw [abI,h1,aal];rcases o with o|o
 ·simpa using h2
 ·simpa using h2
theorem uK (N:Nat) (b:Bool) (e:Int):Kp N (b,e)=some (if b then e else 0):=by
 rw [aag]; cases b <;> rfl
theorem Wv (N:Nat) (n lo hi:Int):T52 N (n,lo,hi)=some (Qq n lo hi):=by
 rw [aai];simp only [uK];unfold Qq;by_cases h1:n < lo
 ·simp [h1]
 ·by_cases h2:n > hi <;> simp [h1,h2]
theorem Ww (N:Nat) (n lo hi:Int):T55 N (n,lo,hi)=some (Qq n lo hi):=by
 rw [abK];unfold Qq;by_cases h1:n < lo
 ·simp [h1]
 ·by_cases h2:n > hi <;> simp [h1,h2]
section
variable {N:Nat} (hN:eZ N)
include hN
end
end Go.Proofs.Ytegoimldbgdeiaa
namespace Go.Proofs.Ytegoimldbgdeiaa
open Go Go.Am
open List (map)
open Int (toNat)
open Go.IntKind (wrap)
open Go.Am.aL (fits)
set_option maxRecDepth 100000
theorem D8 (l:List vD) {k:Nat} (hk:k < l.length):d74 (ae (map rQ l) k)=l[k]∧fits BT (ae (map rQ l) k)=true:=by
 rw [fY rQ l k hk,ajw,ajv]; exact ⟨rfl,rfl⟩
theorem S4 (l:List kQ) {k:Nat} (hk:k < l.length):d113 (ae (map n113 l) k)=l[k]∧fits D0 (ae (map n113 l) k)=true:=by
 rw [fY n113 l k hk]; exact ⟨rfl,rfl⟩
theorem S5 (l:List (Int × Int)) {k:Nat} (hk:k < l.length):d71 (ae (map Uj l) k)=l[k]∧fits Yi (ae (map Uj l) k)=true:=by
 rw [fY Uj l k hk]; exact ⟨rfl,rfl⟩
theorem Yj (l:List (Int × Int)) {k:Nat} (hk:k < l.length):d132 (ae (map n132 l) k)=l[k]∧fits Bj (ae (map n132 l) k)=true:=by
 rw [fY n132 l k hk]; exact ⟨rfl,rfl⟩
theorem afK:∀ l:List (Int × Int),bR (map Uj l) (map Uj l)=true
 |[]=>rfl
 |x :: l=>by
  rw [aa3,bR,afK l];show (bR [AV.int .i64 x.1,AV.int .i64 x.2] [AV.int .i64 x.1,AV.int .i64 x.2]&&true)=true;simp [bR,eV,xg]
theorem abY:∀ l:List vD,bR (map rQ l) (map rQ l)=true
 |[]=>rfl
 |x :: l=>by
  rw [aa3,bR,abY l];have e:bR (map Uj x.2) (map Uj x.2)=true:=afK x.2;show (bR [AV.str x.1,AV.list .gZ 2 (map Uj x.2)] [AV.str x.1,AV.list .gZ 2 (map Uj x.2)]&&true)=true;simp only [bR,eV,xg,e,beq_self_eq_true,Nat.beq_refl,aat]
theorem Yk:∀ l:List kQ,bR (map n113 l) (map n113 l)=true
 |[]=>rfl
 |x :: l=>by
  rw [aa3,bR,Yk l];show (bR [AV.int .i64 x.1,AV.int .i64 x.2.1,AV.int .i64 x.2.2.1,AV.int .i64 x.2.2.2.1,AV.bool x.2.2.2.2] [AV.int .i64 x.1,AV.int .i64 x.2.1,AV.int .i64 x.2.2.1,AV.int .i64 x.2.2.2.1,AV.bool x.2.2.2.2]&&true)=true;simp [bR,eV,xg]
theorem yI {α:Type} (f:α→AV) (l:List α) (k:Nat):qn 0 k (map f l)=map f (l.take k):=by simp [qn,List.map_take]
theorem yJ {k n:Nat} (h:k≤n):decide ((0:Int)≤(k:Int)∧(k:Int)≤(n:Int))=true:=by simp; omega
def dw (t:aZ) (e:Int × Int):Bool:=decide (0≤e.1)&&(decide (e.1 < (t.1.length:Int))&&(decide (0≤e.2)&&decide (e.2 < (BQ t e.1:Int))))
def BU (t:aZ) (e:Int × Int):Int × Int:=((t.1.getD e.1.toNat ([],[])).2).getD e.2.toNat (0,0)
theorem zV (t:aZ) {k:Nat} (hk:k < t.1.length):BQ t (k:Int)=t.1[k].2.length:=by
 unfold BQ;rw [aas,aaA,aaK hk]; rfl
theorem D9 (t:aZ) {k:Nat} (hk:k < t.1.length) {i:Nat} (hi:i < t.1[k].2.length):BU t ((k:Int),(i:Int))=t.1[k].2[i]:=by
 unfold BU;rw [aas,aas,aaA,aaA,aaK hk];show (t.1[k].2[i]?).getD (0,0)=_;rw [aaK hi]; rfl
theorem qg {t:aZ} {e:Int × Int} (h:dw t e=true):∃ k i:Nat,e=((k:Int),(i:Int))∧∃ hk:k < t.1.length,i < t.1[k].2.length:=by
 unfold dw at h;simp only [Bool.and_eq_true,decide_eq_true_eq] at h;obtain ⟨h1,h2,h3,h4⟩:=h;refine ⟨e.1.toNat,e.2.toNat,Prod.ext (by omega) (by omega),by omega,?_⟩;have hk:e.1.toNat < t.1.length:=by omega
 have:=zV t hk;rw [show ((e.1.toNat:Nat):Int)=e.1 by omega] at this;omega
theorem BV (N:Nat) (t:aZ) (e:Int × Int):Wu N (t,e)=some (dw t e):=by
 obtain ⟨p,s⟩:=e;rw [abL];unfold dw;dsimp only;by_cases h1:0≤p
 ·obtain ⟨k,rfl⟩:∃ k:Nat,p=(k:Int):=⟨p.toNat,by omega⟩;by_cases h2:k < t.1.length
  ·obtain ⟨a1,a2⟩:=D8 t.1 h2;rw [zV t h2];simp only [aae,aas,a1,a2,ai h2,ay h2,aat,cond_true,ge_iff_le,decide_eq_true h1,aax];by_cases h3:0≤s
   ·rw [decide_eq_true h3]; rfl
   ·rw [decide_eq_false h3]; rfl
  ·have d:decide ((k:Int) < (t.1.length:Int))=false:=by simp; omega
   simp only [aae,d,ge_iff_le,decide_eq_true h1,cond_true,cond_false,aax,aaT,aal]
 ·simp only [ge_iff_le,decide_eq_false h1,cond_false,aaT,aal]
theorem NW (N:Nat) (t:aZ) (e:Int × Int):T71 N (t,e)=some (dw t e):=by
 obtain ⟨p,s⟩:=e;rw [aak];unfold dw;dsimp only;by_cases h1:0≤p
 ·obtain ⟨k,rfl⟩:∃ k:Nat,p=(k:Int):=⟨p.toNat,by omega⟩;by_cases h2:k < t.1.length
  ·obtain ⟨a1,a2⟩:=wg t.1 h2;rw [zV t h2];simp only [aae,aas,a1,a2,ai h2,ay h2,aat,cond_true,ge_iff_le,decide_eq_true h1,aax];by_cases h3:0≤s
   ·rw [decide_eq_true h3]; rfl
   ·rw [decide_eq_false h3]; rfl
  ·have d:decide ((k:Int) < (t.1.length:Int))=false:=by simp; omega
   simp only [aae,d,ge_iff_le,decide_eq_true h1,cond_true,cond_false,aax,aaT,aal]
 ·simp only [ge_iff_le,decide_eq_false h1,cond_false,aaT,aal]
theorem JH (N:Nat) (t:aZ) (e:Int × Int) (h:dw t e=true):T81 N (t,e)=some (BU t e):=by
 obtain ⟨k,i,rfl,hk,hi⟩:=qg h;obtain ⟨a1,a2⟩:=D8 t.1 hk;obtain ⟨b1,b2⟩:=S5 t.1[k].2 hi;rw [abP,D9 t hk hi];simp only [aae,aas,a1,a2,b1,b2,ai hk,ai hi,aat,cond_true]
theorem Ea (N:Nat) (t:aZ) (e:Int × Int) (h:dw t e=true):T88 N (t,e)=some (BU t e):=by
 obtain ⟨k,i,rfl,hk,hi⟩:=qg h;obtain ⟨a1,a2⟩:=wg t.1 hk;obtain ⟨b1,b2⟩:=Yj t.1[k].2 hi;rw [aam,D9 t hk hi];simp only [aae,aas,a1,a2,b1,b2,ai hk,ai hi,aat,cond_true]
def mT (a b:Int × Int):Bool:=(a.1 == b.1)&&(a.2 == b.2)
theorem Eb (a b c d:Int):((a == c)&&(b == d))=mT (a,b) (c,d):=rfl
theorem gU (a b c d:Int):((a == c)&&((b == d)&&true))=mT (a,b) (c,d):=by rw [aau]; rfl
theorem dS {a b:Int × Int}:mT a b=true↔a=b:=by
 unfold mT;rw [Bool.and_eq_true,beq_iff_eq,beq_iff_eq];exact ⟨fun h=>Prod.ext h.1 h.2,fun h=>by rw [h]; exact ⟨rfl,rfl⟩⟩
theorem rJ (a b:Int × Int):mT a b=mT b a:=by
 apply Bool.eq_iff_iff.2;rw [dS,dS];exact ⟨fun h=>h.symm,fun h=>h.symm⟩
def py (s:Int × Int):Int:=bX [Qq s.1 1 10000,Qq s.2 (-100000) 100000]
def wh (b:List vD) (x:vD):Int:=
 if mc x.1=false then 8 else if (b.any fun y=>y.1 == x.1)=true then 9 else if x.2.length < 3∨x.2.length > 8 then 2 else bX (x.2.map py)
def HE (s x:kQ):Bool:=mT (x.1,x.2.1) (s.1,s.2.1) || (mT (x.1,x.2.1) (s.2.2.1,s.2.2.2.1) || (mT (x.2.2.1,x.2.2.2.1) (s.1,s.2.1) || mT (x.2.2.1,x.2.2.2.1) (s.2.2.1,s.2.2.2.1)))
def S6 (a b:Int):Bool:=decide (a > wrap .i64 (2 * b)) || decide (b > wrap .i64 (2 * a))
def pz (t:aZ) (b:List kQ) (s:kQ):Int:=
 if (dw t (s.1,s.2.1)&&dw t (s.2.2.1,s.2.2.2.1))=false then 10 else
  if mT (s.1,s.2.1) (s.2.2.1,s.2.2.2.1)=true then 9 else if (b.any (HE s))=true then 9 else
   if S6 (BU t (s.1,s.2.1)).1 (BU t (s.2.2.1,s.2.2.2.1)).1=true then 24 else 0
def pA (l:List vD):Int:=bX (l.mapIdx fun k x=>wh (l.take k) x)
def wi (t:aZ):Int:=bX (t.2.mapIdx fun k s=>pz t (t.2.take k) s)
def kG (t:aZ):Int:=
 if t.1.length=0 then 12 else if t.1.length > 16 then 5 else if pA t.1≠0 then pA t.1 else if t.2.length > 64 then 5 else wi t
theorem qh {α:Type} (q:α→Bool) (c:Int) (hc:c≠0):∀ l:List α,bX (l.map fun y=>if q y=true then c else 0)=if l.any q=true then c else 0
 |[]=>rfl
 |y :: l=>by
  rw [aa3,List.any_cons];unfold bX;rw [qh q c hc l];cases q y with
  |true=>simp [hc]
  |false=>simp
theorem NX {c:Int} (hc:c≠0) (b:Bool):(if (if b=true then c else 0)=0 then .inr () else .inl (if b=true then c else 0):Int ⊕ Unit)=if b=true then .inl c else .inr ():=by
 cases b with
 |true=>rw [if_pos rfl,if_neg hc]; rfl
 |false=>rfl
section
variable {N:Nat} (hN:eZ N)
include hN
theorem PO (l:List vD) (k:Nat) (hk:k < l.length) (hl:l.length≤1000000):aw (D7 N l (k:Int)) N 0=some (if ((l.take k).any fun y=>y.1 == l[k].1)=true then .inl 9 else .inr ()):=by
 have key:=hJ (rd:=D7 N l (k:Int)) ((l.take k).map fun y=>if (y.1 == l[k].1)=true then (9:Int) else 0) (fun j hj=>by
  rw [aae,aav] at hj;have hj1:j < k:=by omega
  have hj2:j < l.length:=by omega
  obtain ⟨a1,a2⟩:=D8 l hj2;obtain ⟨b1,b2⟩:=D8 l hk;simp only [D7,aae,aas,a1,a2,b1,b2,ay hj1,ai hj2,ai hk,aat,cond_true,bc (show j < 9223372036854775807 by omega),aay,List.getElem_take];cases l[j].1 == l[k].1 <;> rfl) (by
   have e:((l.take k).map fun y=>if (y.1 == l[k].1)=true then (9:Int) else 0).length=k:=by rw [aae,aav]; omega
   rw [e];simp only [D7,aS,cond_false]) N (by rw [aae,aav]; unfold eZ at hN; omega)
 rw [key,qh _ 9 (by decide)];cases (l.take k).any fun y=>y.1 == l[k].1 <;> rfl
theorem PP (l:List vD) (k:Nat) (hk:k < l.length) (hl:l[k].2.length≤1000000):aw (yD N l (k:Int)) N 0=some (if bX (l[k].2.map py)=0 then .inr () else .inl (bX (l[k].2.map py))):=by
 obtain ⟨b1,b2⟩:=D8 l hk;exact hJ (rd:=yD N l (k:Int)) (l[k].2.map py) (fun j hj=>by
  rw [aae] at hj;obtain ⟨a1,a2⟩:=S5 l[k].2 hj;have ex:∀ x y:Int,(bif (allFit (fits p3) [(AV.int .i64 x),(AV.int .i64 y)]&&true) then some (map d3 [(AV.int .i64 x),(AV.int .i64 y)]) else none:Option (List Int))=some [x,y]:=fun x y=>rfl
  simp only [yD,aae,aas,a1,a2,b1,b2,ay hj,ai hj,ai hk,aat,cond_true,bc (show j < 9223372036854775807 by omega),aay,Ww,aal,beq_self_eq_true,ex,PN hN _ (show [Qq l[k].2[j].1 1 10000,Qq l[k].2[j].2 (-100000) 100000].length≤9223372036854775806 by simp)];show (bif py l[k].2[j] != 0 then _ else _)=_;by_cases hz:py l[k].2[j]=0
  ·rw [hz]; rfl
  ·rw [L5 hz,if_neg hz]; rfl) (by
   simp only [yD,aae,aas,b1,b2,ai hk,aat,cond_true,aS,cond_false]) N (by rw [aae]; unfold eZ at hN; omega)
theorem abZ (l:List vD) (k:Nat) (hk:k < l.length) (hl:l.length≤1000000):T68 N (l,(k:Int))=some (wh (l.take k) l[k]):=by
 obtain ⟨b1,b2⟩:=D8 l hk;rw [abU];unfold wh;simp only [aae,aas,b1,b2,ai hk,aat,cond_true,S2 hN,aal,PO hN l k hk hl];cases hn:mc l[k].1 with
 |false=>rfl
 |true=>
  cases ha:(l.take k).any fun y=>y.1 == l[k].1 with
  |true=>rfl
  |false=>
   rw [if_neg (by decide),if_neg (by decide),if_neg (by decide)];by_cases h3:l[k].2.length < 3
   ·have d:decide (((l[k].2.length:Nat):Int) < 3)=true:=by simp; omega
    rw [d,if_pos (.inl h3)]; rfl
   ·have d:decide (((l[k].2.length:Nat):Int) < 3)=false:=by simp; omega
    by_cases h8:l[k].2.length > 8
    ·have d':decide (((l[k].2.length:Nat):Int) > 8)=true:=by simp; omega
     rw [d,d',if_pos (.inr h8)]; rfl
    ·have d':decide (((l[k].2.length:Nat):Int) > 8)=false:=by simp; omega
     rw [d,d',if_neg (by omega),PP hN l k hk (by omega)];by_cases hz:bX (l[k].2.map py)=0
     ·rw [if_pos hz,hz]; rfl
     ·rw [if_neg hz]; rfl
theorem ab0 (t:aZ) (b:List kQ) (s:kQ) (hb:b.length≤1000000):T42 N (t,b,s)=some (pz t b s):=by
 have key:=hJ (rd:=yC N b s) (b.map fun y=>if HE s y=true then (9:Int) else 0) (fun j hj=>by
  rw [aae] at hj;obtain ⟨a1,a2⟩:=S4 b hj;simp only [yC,aae,aas,a1,a2,ay hj,ai hj,aat,cond_true,bc (show j < 9223372036854775807 by omega),aay,gU];unfold HE;cases mT (b[j].1,b[j].2.1) (s.1,s.2.1) <;> cases mT (b[j].1,b[j].2.1) (s.2.2.1,s.2.2.2.1) <;> cases mT (b[j].2.2.1,b[j].2.2.2.1) (s.1,s.2.1) <;> cases mT (b[j].2.2.1,b[j].2.2.2.1) (s.2.2.1,s.2.2.2.1) <;> rfl) (by
   rw [aae]; simp only [yC,aae,aS,cond_false]) N (by rw [aae]; unfold eZ at hN; omega)
 rw [qh _ 9 (by decide),NX (by decide)] at key;have key:aw (yC N b (s.1,s.2.1,s.2.2.1,s.2.2.2.1,s.2.2.2.2)) N 0=_:=key;rw [show T42 N (t,b,s)=T42 N ((t.1,t.2),b,(s.1,s.2.1,s.2.2.1,s.2.2.2.1,s.2.2.2.2)) from rfl,abS];unfold pz;simp only [JC,JD,D3,D4,aau,cond_true,aal,Eb,beq_self_eq_true,aat,abY,Yk,key];rw [show (t.1,t.2)=t from rfl,BV,BV];simp only [aal];cases h1:dw t (s.1,s.2.1) with
 |false=>rfl
 |true=>
  cases h2:dw t (s.2.2.1,s.2.2.2.1) with
  |false=>rfl
  |true=>
   simp only [aa0,cond_false,aal,aat,reduceCtorEq,if_false];rw [JH N t _ h1,JH N t _ h2];cases h3:mT (s.1,s.2.1) (s.2.2.1,s.2.2.2.1) with
   |true=>rfl
   |false=>
    cases h4:b.any (HE s) with
    |true=>rfl
    |false=>
     unfold S6;simp only [aal,aa6,dS.2 rfl,cond_true,cond_false,reduceCtorEq,if_false];cases decide ((BU t (s.1,s.2.1)).1 > wrap .i64 (2 * (BU t (s.2.2.1,s.2.2.2.1)).1)) with
     |true=>rfl
     |false=>cases decide ((BU t (s.2.2.1,s.2.2.2.1)).1 > wrap .i64 (2 * (BU t (s.1,s.2.1)).1)) <;> rfl
theorem ab1 (t:aZ) (b:List kQ) (s:kQ) (hb:b.length≤1000000):T74 N (t,s,b)=some (pz t b s):=by
 have key:=hJ (rd:=DO N s b) (b.map fun y=>if HE s y=true then (9:Int) else 0) (fun j hj=>by
  rw [aae] at hj;obtain ⟨a1,a2⟩:=uE b hj;simp only [DO,aae,aas,a1,a2,ay hj,ai hj,aat,cond_true,bc (show j < 9223372036854775807 by omega),aay,gU];unfold HE;rw [rJ (s.1,s.2.1) (b[j].1,b[j].2.1),rJ (s.1,s.2.1) (b[j].2.2.1,b[j].2.2.2.1),rJ (s.2.2.1,s.2.2.2.1) (b[j].1,b[j].2.1),rJ (s.2.2.1,s.2.2.2.1) (b[j].2.2.1,b[j].2.2.2.1)];cases mT (b[j].1,b[j].2.1) (s.1,s.2.1) <;> cases mT (b[j].1,b[j].2.1) (s.2.2.1,s.2.2.2.1) <;> cases mT (b[j].2.2.1,b[j].2.2.2.1) (s.1,s.2.1) <;> cases mT (b[j].2.2.1,b[j].2.2.2.1) (s.2.2.1,s.2.2.2.1) <;> rfl) (by
   rw [aae]; simp only [DO,aae,aS,cond_false]) N (by rw [aae]; unfold eZ at hN; omega)
 rw [qh _ 9 (by decide),NX (by decide)] at key;have key:aw (DO N (s.1,s.2.1,s.2.2.1,s.2.2.2.1,s.2.2.2.2) b) N 0=_:=key;have ex:∀ x y:Int,(bif (allFit (fits Nv) [(AV.int .i64 x),(AV.int .i64 y)]) then some (map d29 [(AV.int .i64 x),(AV.int .i64 y)]) else none:Option (List Int))=some [x,y]:=fun x y=>rfl
 rw [show T74 N (t,s,b)=T74 N ((t.1,t.2),(s.1,s.2.1,s.2.2.1,s.2.2.2.1,s.2.2.2.2),b) from rfl,aaO];unfold pz;simp only [bN,bO,bZ,b8,aau,cond_true,aal,Eb,beq_self_eq_true,aat,NJ,NK,key,uK,ex];rw [show (t.1,t.2)=t from rfl,NW,NW];simp only [aal];cases h1:dw t (s.1,s.2.1) with
 |false=>rfl
 |true=>
  cases h2:dw t (s.2.2.1,s.2.2.2.1) with
  |false=>rfl
  |true=>
   simp only [aa0,cond_false,aal,aat,reduceCtorEq,if_false];rw [Ea N t _ h1,Ea N t _ h2];cases h4:b.any (HE s) with
   |true=>
    cases h3:mT (s.1,s.2.1) (s.2.2.1,s.2.2.2.1) <;> rfl
   |false=>
    unfold S6;simp only [aal,aa6,dS.2 rfl,cond_true,cond_false,reduceCtorEq,if_false,vr hN [_,_] (show 2≤9223372036854775806 by omega)];cases mT (s.1,s.2.1) (s.2.2.1,s.2.2.2.1) <;> cases decide ((BU t (s.1,s.2.1)).1 > wrap .i64 (2 * (BU t (s.2.2.1,s.2.2.2.1)).1)) <;> cases decide ((BU t (s.2.2.1,s.2.2.2.1)).1 > wrap .i64 (2 * (BU t (s.1,s.2.1)).1)) <;> rfl
end
end Go.Proofs.Ytegoimldbgdeiaa
namespace Go.Proofs.Ytegoimldbgdeiaa
open Go Go.Am
open List (map)
open Int (toNat)
open Go.IntKind (wrap)
open Go.Am.aL (fits)
set_option maxRecDepth 100000
theorem JI {V X:Type} {rd:V→Option (V ⊕ X)} (l:List Int) (E:Nat→V) (ex:Int→X) (fin:X)
  (h:∀ k (hk:k < l.length),rd (E k)=some (if l[k]=0 then .inl (E (k+1)) else .inr (ex l[k]))) (h0:rd (E l.length)=some (.inr fin)) (n:Nat) (hn:l.length < n) :
  aw rd n (E 0)=some (if bX l=0 then fin else ex (bX l)):=by
 have key:=ki (rd:=rd) (S:=Unit) (Y:=Int) l (fun _ k=>E k) (fun _ x=>if x=0 then .inl () else .inr x) (fun _=>fin) ex (fun _ _=>True)
  (fun s k hk _=>⟨by rw [h k hk]; by_cases e:l[k]=0 <;> simp [e],fun _ _=>trivial⟩) (fun _ _=>h0) n () 0 (abd _) (by omega) trivial
 rw [aaP] at key;refine key.trans (congrArg some ?_);clear key h h0 hn
 induction l with
 |nil=>rfl
 |cons x l ih=>
  simp only [foldI,bX];by_cases e:x=0
  ·simp only [e,if_true,aaM]; exact ih
  ·simp [e]
theorem Ge {α:Type} (q:α→Bool):∀ (l:List α) (s:Nat),(l.any q=true∧∃ i:Nat,foldI (fun (s:Nat) x=>if q x=true then .inr s else .inl (s+1)) s l=(.inr i:Nat ⊕ Nat))∨(l.any q=false∧∃ i:Nat,foldI (fun (s:Nat) x=>if q x=true then .inr s else .inl (s+1)) s l=(.inl i:Nat ⊕ Nat))
 |[],s=>.inr ⟨rfl,s,rfl⟩
 |x :: l,s=>by
  rw [List.any_cons];unfold foldI;cases h:q x with
  |true=>exact .inl ⟨rfl,s,rfl⟩
  |false=>
   simp only [Bool.false_or,reduceCtorEq,if_false,aaM];exact Ge q l (s+1)
section
variable {N:Nat} (hN:eZ N)
include hN
theorem ab2 (t:aZ):T28 N t=some (kG t):=by
 rw [abW];unfold kG;simp only [aae];by_cases h0:t.1.length=0
 ·rw [show (((t.1.length:Nat):Int) == 0)=true by simp [h0],if_pos h0]; rfl
 ·rw [show (((t.1.length:Nat):Int) == 0)=false by simp; exact fun h=>h0 (by rw [h]; rfl),if_neg h0];by_cases h1:t.1.length > 16
  ·have d:decide (((t.1.length:Nat):Int) > 16)=true:=by simp; omega
   rw [d,if_pos h1]; rfl
  ·have d:decide (((t.1.length:Nat):Int) > 16)=false:=by simp; omega
   rw [d,if_neg h1];have k1:=hJ (rd:=yG N t) (t.1.mapIdx fun k x=>wh (t.1.take k) x) (fun j hj=>by
    rw [List.length_mapIdx] at hj;simp only [yG,aae,JC,JD,aau,cond_true,aal,ay hj,abZ hN t.1 j hj (by omega),bc (show j < 9223372036854775807 by omega),List.getElem_mapIdx];by_cases hz:wh (t.1.take j) t.1[j]=0
    ·rw [hz]; rfl
    ·rw [L5 hz,if_neg hz]; rfl) (by
     rw [List.length_mapIdx]; simp only [yG,aae,aS,cond_false]) N (by rw [List.length_mapIdx]; unfold eZ at hN; omega)
   have k1:aw (yG N t) N 0=some (if pA t.1=0 then .inr () else .inl (pA t.1)):=k1;rw [k1];by_cases h2:pA t.1=0
   ·rw [if_pos h2,if_neg (show ¬ pA t.1≠0 from fun h=>h h2)];simp only [cond_false,aal,aa6];by_cases h3:t.2.length > 64
    ·have d:decide (((t.2.length:Nat):Int) > 64)=true:=by simp; omega
     rw [d,if_pos h3]; rfl
    ·have d:decide (((t.2.length:Nat):Int) > 64)=false:=by simp; omega
     rw [d,if_neg h3];have k2:=hJ (rd:=yH N t) (t.2.mapIdx fun k s=>pz t (t.2.take k) s) (fun j hj=>by
      rw [List.length_mapIdx] at hj;obtain ⟨a1,a2⟩:=S4 t.2 hj;have q:T42 N ((t.1,t.2),t.2.take j,(t.2[j].1,t.2[j].2.1,t.2[j].2.2.1,t.2[j].2.2.2.1,t.2[j].2.2.2.2))=some (pz t (t.2.take j) t.2[j]):=ab0 hN t (t.2.take j) t.2[j] (by rw [aav]; omega);simp only [yH,aae,aas,yI,a1,a2,JC,JD,D3,D4,aau,aat,cond_true,aal,ay hj,ai hj,yJ (ab9 hj),q,bc (show j < 9223372036854775807 by omega),List.getElem_mapIdx];by_cases hz:pz t (t.2.take j) t.2[j]=0
      ·rw [hz]; rfl
      ·rw [L5 hz,if_neg hz]; rfl) (by
       rw [List.length_mapIdx]; simp only [yH,aae,aS,cond_false]) N (by rw [List.length_mapIdx]; unfold eZ at hN; omega)
     have k2:aw (yH N t) N 0=some (if wi t=0 then .inr () else .inl (wi t)):=k2;rw [k2];by_cases h4:wi t=0
     ·rw [if_pos h4,h4]; rfl
     ·rw [if_neg h4]; rfl
   ·rw [if_neg h2,if_pos h2]; rfl
theorem PQ (l:List vD) (k:Nat) (hk:k < l.length) (hl:l.length≤1000000) (nm:List UInt8) (sd:List (Int × Int)) :
  ∃ o,aw (pn N l (k:Int)) N (0,nm,sd)=some o∧((((l.take k).any fun y=>y.1 == nm)=true∧∃ i:Nat,o=.inl ((i:Int),nm,sd))∨(((l.take k).any fun y=>y.1 == nm)=false∧o=.inr (nm,sd))):=by
 have ht:(l.take k).length=k:=by rw [aav]; omega
 have key:=ki (rd:=pn N l (k:Int)) (S:=Nat) (Y:=Nat) (l.take k) (fun _ j=>((j:Int),nm,sd)) (fun s x=>if (x.1 == nm)=true then .inr s else .inl (s+1)) (fun _=>.inr (nm,sd)) (fun i=>.inl ((i:Int),nm,sd)) (fun s j=>s=j)
  (fun s j hj hs=>by
   subst hs;refine ⟨?_,fun s' Uw=>by split at Uw <;> simp_all⟩;obtain ⟨a1,a2⟩:=wg (l.take k) hj;rw [ht] at hj;simp only [pn,aae,aas,yI,a1,a2,ht,ay hj,ai hj,aat,aau,cond_true,DB,DC,aal,bc (show s < 9223372036854775807 by omega)];cases (l.take k)[s].1 == nm <;> rfl)
  (fun s hs=>by
   rw [ht];simp only [pn,aae,aas,yI,ht,aS,cond_false,aau,cond_true,DB,DC,aal]) N 0 0 (abd _) (by rw [ht]; unfold eZ at hN; omega) rfl
 refine ⟨_,key,?_⟩;rw [aaP];rcases Ge (fun y:vD=>y.1 == nm) (l.take k) 0 with ⟨h,i,e⟩|⟨h,i,e⟩
 ·exact .inl ⟨h,i,by rw [e]; rfl⟩
 ·exact .inr ⟨h,by rw [e]; rfl⟩
theorem PR (y:Int) (nm:List UInt8) (sd:List (Int × Int)) (hl:sd.length≤1000000):aw (rH N (y,nm,sd)) N (0,nm,sd)=some (if bX (sd.map py)=0 then .inr (nm,sd) else .inl (bX (sd.map py),nm,sd)):=by
 exact JI (rd:=rH N (y,nm,sd)) (sd.map py) (fun j=>((j:Int),nm,sd)) (fun e=>.inl (e,nm,sd)) (.inr (nm,sd)) (fun j hj=>by
  rw [aae] at hj;obtain ⟨a1,a2⟩:=Yj sd hj;have ex:∀ x y:Int,(bif (allFit (fits Nv) [(AV.int .i64 x),(AV.int .i64 y)]) then some (map d29 [(AV.int .i64 x),(AV.int .i64 y)]) else none:Option (List Int))=some [x,y]:=fun x y=>rfl
  simp only [rH,aae,aas,a1,a2,ay hj,ai hj,aat,aau,cond_true,DB,DC,bc (show j < 9223372036854775807 by omega),aay,Wv,aal,beq_self_eq_true,ex,vr hN _ (show [Qq sd[j].1 1 10000,Qq sd[j].2 (-100000) 100000].length≤9223372036854775806 by simp)];show (bif py sd[j] != 0 then _ else _)=_;by_cases hz:py sd[j]=0
  ·rw [hz]; rfl
  ·rw [L5 hz,if_neg hz]; rfl) (by
   simp only [rH,aae,aS,cond_false,DB,DC,aau,cond_true,aal]) N (by rw [aae]; unfold eZ at hN; omega)
theorem Wx (l:List vD) (hl:l.length≤1000000):T73 N l=some (pA l):=by
 rw [aaL];have key:=hJ (rd:=Hz N l) (l.mapIdx fun k x=>wh (l.take k) x) (fun k hk=>by
  rw [List.length_mapIdx] at hk;obtain ⟨a1,a2⟩:=wg l hk;obtain ⟨o,ho,hc⟩:=PQ hN l k hk hl l[k].1 l[k].2;have ex:∀ x y z:Int,(bif (allFit (fits Nv) [(AV.int .i64 x),(AV.int .i64 y),(AV.int .i64 z)]) then some (map d29 [(AV.int .i64 x),(AV.int .i64 y),(AV.int .i64 z)]) else none:Option (List Int))=some [x,y,z]:=fun x y z=>rfl
  have hm:∃ c:Int,(decide (c≥0))=((l.take k).any fun y=>y.1 == l[k].1)∧∀ (F:(Int × List UInt8 × List (Int × Int))→Option (Int ⊕ (Int ⊕ Unit))),((Sum.elim (fun AR=>(some (AR.1,AR.2.1,AR.2.2):Option (Int × List UInt8 × List (Int × Int)))) (fun fQ=>some ((-1:Int),fQ.1,fQ.2)) o).bind F)=F (c,l[k].1,l[k].2):=by
   rcases hc with ⟨h,i,rfl⟩|⟨h,rfl⟩
   ·exact ⟨(i:Int),by rw [h]; simp,fun F=>rfl⟩
   ·exact ⟨-1,by rw [h]; simp,fun F=>rfl⟩
  obtain ⟨c,UL,O5⟩:=hm;simp only [Hz,aae,aas,a1,a2,ay hk,ai hk,yJ (ab9 hk),aat,aau,cond_true,DB,DC,aal,ho,O5,S3 hN,Sq,beq_self_eq_true,uK,UL,ex,bc (show k < 9223372036854775807 by omega),List.getElem_mapIdx];have e1:∀ z:Int,Uc N [if (!mc l[k].1)=true then 8 else 0,if ((l.take k).any fun y=>y.1 == l[k].1)=true then 9 else 0,z]=some (if mc l[k].1=false then 8 else if ((l.take k).any fun y=>y.1 == l[k].1)=true then 9 else z):=fun z=>by
   rw [vr hN [_,_,_] (show 3≤9223372036854775806 by omega)];cases mc l[k].1 <;> cases (l.take k).any fun y=>y.1 == l[k].1
   ·rfl
   ·rfl
   ·show some (bX [0,0,z])=some z;unfold bX bX bX bX;by_cases hz:z=0
    ·rw [hz]; rfl
    ·simp [hz]
   ·rfl
  simp only [e1,aal,if_true];unfold wh;have e2:∀ F:(Int × List UInt8 × List (Int × Int))→Option (Int ⊕ (Int ⊕ Unit)),((bif decide (((l[k].2.length:Nat):Int) < 3) then (some ((if mc l[k].1=false then 8 else if ((l.take k).any fun y=>y.1 == l[k].1)=true then 9 else 2),l[k].1,l[k].2)) else some ((if mc l[k].1=false then 8 else if ((l.take k).any fun y=>y.1 == l[k].1)=true then 9 else if decide (((l[k].2.length:Nat):Int) > 8)=true then 2 else 0),l[k].1,l[k].2):Option (Int × List UInt8 × List (Int × Int))).bind F)=F ((if mc l[k].1=false then 8 else if ((l.take k).any fun y=>y.1 == l[k].1)=true then 9 else if l[k].2.length < 3∨l[k].2.length > 8 then 2 else 0),l[k].1,l[k].2):=fun F=>by
   by_cases h3:l[k].2.length < 3
   ·have d:decide (((l[k].2.length:Nat):Int) < 3)=true:=by simp; omega
    rw [d,if_pos (show l[k].2.length < 3∨l[k].2.length > 8 from .inl h3)]; rfl
   ·have d:decide (((l[k].2.length:Nat):Int) < 3)=false:=by simp; omega
    rw [d];by_cases h8:l[k].2.length > 8
    ·have d':decide (((l[k].2.length:Nat):Int) > 8)=true:=by simp; omega
     rw [d',if_pos (show l[k].2.length < 3∨l[k].2.length > 8 from .inr h8)]; rfl
    ·have d':decide (((l[k].2.length:Nat):Int) > 8)=false:=by simp; omega
     rw [d',if_neg (show ¬ (l[k].2.length < 3∨l[k].2.length > 8) by omega)]; rfl
  rw [e2];cases mc l[k].1 with
  |false=>rfl
  |true=>
   cases (l.take k).any fun y=>y.1 == l[k].1 with
   |true=>rfl
   |false=>
    simp only [reduceCtorEq,if_false];by_cases h3:l[k].2.length < 3∨l[k].2.length > 8
    ·rw [if_pos h3,if_pos h3]; rfl
    ·rw [if_neg h3,if_neg h3,PR hN 0 l[k].1 l[k].2 (by omega)];by_cases hz:bX (l[k].2.map py)=0
     ·rw [if_pos hz,hz]; rfl
     ·rw [if_neg hz,if_neg hz]; rfl) (by
   rw [List.length_mapIdx]; simp only [Hz,aae,aS,cond_false]) N (by rw [List.length_mapIdx]; unfold eZ at hN; omega)
 rw [key];unfold pA;by_cases hz:bX (l.mapIdx fun k x=>wh (l.take k) x)=0
 ·rw [if_pos hz,hz]; rfl
 ·rw [if_neg hz]; rfl
theorem Ec (t:aZ):NN N t=some (kG t):=by
 rw [show NN N t=NN N (t.1,t.2) from rfl,aaQ];unfold kG;obtain ⟨m,hm,hm1,hm2⟩:∃ m:Nat,(if (16:Int) < ((t.1.length:Nat):Int) then (16:Int) else ((t.1.length:Nat):Int))=(m:Int)∧m≤t.1.length∧(t.1.length≤16→m=t.1.length):=by
  by_cases h:t.1.length > 16
  ·exact ⟨16,if_pos (by omega),by omega,by omega⟩
  ·exact ⟨t.1.length,if_neg (by omega),Nat.le_refl _,fun _=>rfl⟩
 have hm3:m≤16:=by
  by_cases h:t.1.length > 16
  ·rw [if_pos (by omega)] at hm; omega
  ·omega
 have ht:(t.1.take m).length≤1000000:=by rw [aav]; omega
 have ex:∀ x y z u:Int,(bif (allFit (fits Nv) [(AV.int .i64 x),(AV.int .i64 y),(AV.int .i64 z),(AV.int .i64 u)]) then some (map d29 [(AV.int .i64 x),(AV.int .i64 y),(AV.int .i64 z),(AV.int .i64 u)]) else none:Option (List Int))=some [x,y,z,u]:=fun x y z u=>rfl
 simp only [aae,hm,aas,yJ hm1,yI,uK,beq_self_eq_true,NJ,NK,aau,aat,cond_true,aal,bN,bO,Wx hN _ ht,ex,vr hN [_,_,_,_] (show 4≤9223372036854775806 by omega)];by_cases h0:t.1.length=0
 ·rw [show (((t.1.length:Nat):Int) == 0)=true by simp [h0],if_pos h0]; rfl
 ·rw [show (((t.1.length:Nat):Int) == 0)=false by simp; exact fun h=>h0 (by rw [h]; rfl),if_neg h0];by_cases h1:t.1.length > 16
  ·have d:decide (((t.1.length:Nat):Int) > 16)=true:=by simp; omega
   rw [d,if_pos h1]; rfl
  ·have d:decide (((t.1.length:Nat):Int) > 16)=false:=by simp; omega
   rw [d,if_neg h1,hm2 (by omega),List.take_length];by_cases h2:pA t.1=0
   ·rw [h2,if_neg (show ¬ ((0:Int)≠0) by decide)];by_cases h3:t.2.length > 64
    ·have d:decide (((t.2.length:Nat):Int) > 64)=true:=by simp; omega
     rw [d,if_pos h3]; rfl
    ·have d:decide (((t.2.length:Nat):Int) > 64)=false:=by simp; omega
     rw [d,if_neg h3];have k2:=hJ (rd:=DQ N t) (t.2.mapIdx fun k s=>pz t (t.2.take k) s) (fun j hj=>by
      rw [List.length_mapIdx] at hj;obtain ⟨a1,a2⟩:=uE t.2 hj;have q:T74 N ((t.1,t.2),(t.2[j].1,t.2[j].2.1,t.2[j].2.2.1,t.2[j].2.2.2.1,t.2[j].2.2.2.2),t.2.take j)=some (pz t (t.2.take j) t.2[j]):=ab1 hN t (t.2.take j) t.2[j] (by rw [aav]; omega);simp only [DQ,aae,aas,yI,a1,a2,bN,bO,bZ,b8,aau,aat,cond_true,aal,ay hj,ai hj,yJ (ab9 hj),q,bc (show j < 9223372036854775807 by omega),List.getElem_mapIdx];by_cases hz:pz t (t.2.take j) t.2[j]=0
      ·rw [hz]; rfl
      ·rw [L5 hz,if_neg hz]; rfl) (by
       rw [List.length_mapIdx]; simp only [DQ,aae,aS,cond_false]) N (by rw [List.length_mapIdx]; unfold eZ at hN; omega)
     have k2:aw (DQ N (t.1,t.2)) N 0=some (if wi t=0 then .inr () else .inl (wi t)):=k2;rw [k2];by_cases h4:wi t=0
     ·rw [if_pos h4,h4]; rfl
     ·rw [if_neg h4]; rfl
   ·rw [if_pos (show pA t.1≠0 from h2)];have ef:∀ z:Int,bX [if false=true then 12 else 0,if false=true then 5 else 0,pA t.1,z]=pA t.1:=fun z=>by
     show bX [0,0,pA t.1,z]=_;simp [bX,h2]
    rw [ef,L5 h2]; rfl
omit hN in
theorem Ed {t:aZ} (h:kG t=0):t.1.length≠0∧t.1.length≤16∧pA t.1=0∧t.2.length≤64∧wi t=0:=by
 unfold kG at h;split at h
 ·cases h
 ·split at h
  ·cases h
  ·split at h
   ·contradiction
   ·split at h
    ·cases h
    ·refine ⟨by assumption,by omega,by omega,by omega,h⟩
end
end Go.Proofs.Ytegoimldbgdeiaa
