/- A search along seams,with a queue: what it keeps. -/
import Derived.Test.YtegoimldbgdeiaaTrwSa
set_option linter.all false
open Decidable renaming not_not→aav
open Int renaming toNat_natCast→aal
open List renaming getD_eq_getElem?_getD→aae, replicate→aas, getElem?_set→aat, length_append→aau
open Nat renaming not_lt_zero→aax
namespace Go.Proofs.Ytegoimldbgdeiaa
open Go Go.Am
open List (map)
open Int (toNat)
open Go.IntKind (wrap)
open Go.Am.aL (fits)
def gI (l:List Int) (k:Int):Int:=l.getD k.toNat 0
def gL (l:List (List Int)) (k:Int):List Int:=l.getD k.toNat []
def nz:List Int→Nat
 |[]=>0
 |x :: l=>(if x=0 then 0 else 1)+nz l
theorem Gk:∀ l:List Int,nz l≤l.length
 |[]=>Nat.le_refl _
 |x :: l=>by
  have:=Gk l;show (if x=0 then 0 else 1)+nz l≤l.length+1;split <;> omega
theorem En {v:Int} (hv:v≠0):∀ (l:List Int) (k:Nat),k < l.length→l.getD k 0=0→nz (l.set k v)=nz l+1
 |[],k,h,_=>absurd h (aax _)
 |x :: l,0,_,h=>by
  have h:x=0:=h;subst h;show (if v=0 then 0 else 1)+nz l=((if (0:Int)=0 then 0 else 1)+nz l)+1;rw [if_neg hv,if_pos rfl]; omega
 |x :: l,k+1,hk,h=>by
  have h:l.getD k 0=0:=h;show (if x=0 then 0 else 1)+nz (l.set k v)=((if x=0 then 0 else 1)+nz l)+1;rw [En hv l k (Nat.lt_of_succ_lt_succ hk) h]; omega
theorem Ac (l:List Int) (k j:Nat) (v:Int) (hk:k < l.length):gI (l.set k v) (j:Int)=if j=k then v else gI l (j:Int):=by
 unfold gI;simp only [aal,aae,aat];by_cases h:k=j
 ·subst h; simp [hk]
 ·rw [if_neg h,if_neg (fun e=>h e.symm)]
theorem acf (l:List (List Int)) (k j:Nat) (v:List Int) (hk:k < l.length):gL (l.set k v) (j:Int)=if j=k then v else gL l (j:Int):=by
 unfold gL;simp only [aal,aae,aat];by_cases h:k=j
 ·subst h; simp [hk]
 ·rw [if_neg h,if_neg (fun e=>h e.symm)]
abbrev BS:=List Int × List Int × List (List Int) × List Int
def jK (s:kQ) (a:Int):Int:=if s.2.2.1=a then s.1 else s.2.2.1
def uP (s:kQ) (a:Int) (sg:List Int):Prop:=(s.1≠a∧s.2.2.1≠a)∨gI sg (jK s a)≠0
instance (s:kQ) (a:Int) (sg:List Int):Decidable (uP s a sg):=by unfold uP; infer_instance
def nJ (p a:Int) (x:BS) (i:Nat) (s:kQ):BS:=
 if uP s a x.2.1 then x else
  (x.1++[jK s a],x.2.1.set (jK s a).toNat (if s.2.2.2.2=true then - gI x.2.1 a else gI x.2.1 a),
   x.2.2.1.set (jK s a).toNat (gL x.2.2.1 a++[(i:Int)]),x.2.2.2.set (jK s a).toNat p)
def e9 (t:aZ) (p a:Int) (x:BS):Nat→BS
 |0=>x
 |k+1=>nJ p a (e9 t p a x k) k (bj t k)
def pF (t:aZ) (p:Int):Nat→BS→BS
 |0,x=>x
 |n+1,x=>match x.1 with
  |[]=>x
  |a :: q=>pF t p n (e9 t p a (q,x.2) t.2.length)
def P1 (t:aZ):Prop:=∀ i < t.2.length,∃ a b:Nat,(bj t i).1=a∧a < t.1.length∧(bj t i).2.2.1=b∧b < t.1.length
structure Inv (t:aZ) (p:Nat) (x:BS) (ex:Int) (k:Nat):Prop where
 ls:x.2.1.length=t.1.length
 lp:x.2.2.1.length=t.1.length
 lt:x.2.2.2.length=t.1.length
 val:∀ q:Nat,gI x.2.1 q=0∨gI x.2.1 q=1∨gI x.2.1 q=-1
 Tn:∀ q:Nat,q < t.1.length→gI x.2.1 q≠0→∃ r:Nat,gI x.2.2.2 q=r∧r≤q∧gI x.2.1 r=1∧gI x.2.2.2 r=r ∧
  th t (gL x.2.2.1 q) ((r:Int),false)=some ((q:Int),decide (gI x.2.1 q=-1))∧(gL x.2.2.1 q).length+1≤nz x.2.1
 que:∀ e∈x.1,∃ q:Nat,e=q∧q < t.1.length∧gI x.2.1 q≠0∧gI x.2.2.2 q=p
 len:x.1.length≤nz x.2.1
 low:∀ q:Nat,q < p→gI x.2.1 q≠0
 emp:∀ q:Nat,gI x.2.1 q=0→gL x.2.2.1 q=[]
 Yr:∀ q:Nat,q < t.1.length→gI x.2.1 q≠0→(q:Int)∉x.1→∀ i < t.2.length,((q:Int)=ex→i < k) →
  ((bj t i).1=q→gI x.2.1 (bj t i).2.2.1≠0∧gI x.2.2.2 (bj t i).2.2.1=gI x.2.2.2 q) ∧
  ((bj t i).2.2.1=q→gI x.2.1 (bj t i).1≠0∧gI x.2.2.2 (bj t i).1=gI x.2.2.2 q)
theorem P2 {t:aZ} (hS:P1 t) {p a:Nat} (ha:a < t.1.length) {x:BS} {k:Nat} (hk:k < t.2.length) (h:Inv t p x a k) (h1:gI x.2.1 a≠0) (h2:gI x.2.2.2 a=p) :
  Inv t p (nJ p a x k (bj t k)) a (k+1)∧gI (nJ p a x k (bj t k)).2.1 a≠0∧gI (nJ p a x k (bj t k)).2.2.2 a=p∧(nJ p a x k (bj t k)).1.length+nz x.2.1=x.1.length+nz (nJ p a x k (bj t k)).2.1:=by
 obtain ⟨A,B,hA,JW,hB,Mx⟩:=hS k hk;unfold nJ;by_cases hs:uP (bj t k) (a:Int) x.2.1
 ·rw [if_pos hs];refine ⟨⟨h.ls,h.lp,h.lt,h.val,h.Tn,h.que,h.len,h.low,h.emp,fun q hq pJ nR i hi hx=>?_⟩,h1,h2,rfl⟩;by_cases OS:(q:Int)=(a:Int)∧i=k
  ·obtain ⟨e1,e2⟩:=OS;subst e2;have e1:q=a:=by omega
   subst e1
   -- what lies at the other end
   have oth:∀ o:Nat,o < t.1.length→gI x.2.1 o≠0→((bj t i).1=(o:Int)∧(bj t i).2.2.1=(q:Int)∨(bj t i).2.2.1=(o:Int)∧(bj t i).1=(q:Int))→gI x.2.2.2 o=gI x.2.2.2 q:=by
    intro o ho hn hh;by_cases hoq:o=q
    ·rw [hoq]
    ·by_cases gK:(o:Int)∈x.1
     ·obtain ⟨o',f1,_,_,f4⟩:=h.que _ gK;have:o'=o:=by omega
      subst this;rw [f4,h2]
     ·have c:=h.Yr o ho hn gK i hi (fun e=>absurd e (by omega));rcases hh with ⟨f1,f2⟩|⟨f1,f2⟩
      ·have:=(c.1 f1).2; rw [f2] at this; exact this.symm
      ·have:=(c.2 f1).2; rw [f2] at this; exact this.symm
   unfold uP at hs;refine ⟨fun e=>?_,fun e=>?_⟩
   ·rcases hs with ⟨f,_⟩|f
    ·exact absurd e f
    ·unfold jK at f;by_cases hb:(bj t i).2.2.1=(q:Int)
     ·rw [hb]; exact ⟨pJ,rfl⟩
     ·rw [if_neg hb] at f;refine ⟨f,?_⟩;rw [hB] at f ⊢;exact oth B Mx f (.inr ⟨hB,e⟩)
   ·rcases hs with ⟨_,f⟩|f
    ·exact absurd e f
    ·unfold jK at f;rw [if_pos e] at f;refine ⟨f,?_⟩;rw [hA] at f ⊢;exact oth A JW f (.inl ⟨hA,e⟩)
  ·exact h.Yr q hq pJ nR i hi (fun e=>by
    have:=hx e;have:i≠k:=fun e2=>OS ⟨e,e2⟩
    omega)
 ·rw [if_neg hs];unfold uP at hs;simp only [not_or,not_and,ne_eq,aav] at hs;obtain ⟨TW,TX⟩:=hs;have hto:∃ o:Nat,jK (bj t k) a=(o:Int)∧o < t.1.length:=by
   unfold jK;split
   ·exact ⟨A,hA,JW⟩
   ·exact ⟨B,hB,Mx⟩
  obtain ⟨o,ho,ho2⟩:=hto;rw [ho] at TX;have hoa:o≠a:=fun e=>h1 (by rw [← e]; exact TX)
  have Fm:∀ f,Em (bj t k) ((a:Int),f)=some ((o:Int),f != (bj t k).2.2.2.2):=by
   intro f;unfold Em;by_cases hf:(bj t k).1=(a:Int)
   ·rw [if_pos hf];unfold jK at ho;by_cases hb:(bj t k).2.2.1=(a:Int)
    ·rw [if_pos hb] at ho;exact absurd (show o=a by omega) hoa
    ·rw [if_neg hb] at ho;rw [ho]
   ·have hb:=TW hf;unfold jK at ho;rw [if_pos hb] at ho;rw [if_neg hf,if_pos hb,ho]
  rw [ho];simp only [aal]
  -- the new sign
  generalize hv:(if (bj t k).2.2.2.2=true then - gI x.2.1 (a:Int) else gI x.2.1 (a:Int))=v;have hav:=h.val a;have hv1:v=1∨v=-1:=by
   subst hv;split <;> omega
  have hv0:v≠0:=by omega
  have Im:o < x.2.1.length:=by rw [h.ls]; exact ho2
  have hop:o < x.2.2.1.length:=by rw [h.lp]; exact ho2
  have hot:o < x.2.2.2.length:=by rw [h.lt]; exact ho2
  have Ys:nz (x.2.1.set o v)=nz x.2.1+1:=En hv0 x.2.1 o Im (by have:=TX; unfold gI at this; simpa using this);have Eo:∀ q:Nat,gI (x.2.1.set o v) (q:Int)=if q=o then v else gI x.2.1 q:=fun q=>Ac _ _ _ _ Im
  have E5:∀ q:Nat,gL (x.2.2.1.set o (gL x.2.2.1 a++[(k:Int)])) (q:Int)=if q=o then gL x.2.2.1 a++[(k:Int)] else gL x.2.2.1 q:=fun q=>acf _ _ _ _ hop
  have Kt:∀ q:Nat,gI (x.2.2.2.set o (p:Int)) (q:Int)=if q=o then (p:Int) else gI x.2.2.2 q:=fun q=>Ac _ _ _ _ hot
  have P3:∀ q:Nat,gI x.2.1 q≠0→q≠o:=fun q hq e=>hq (by rw [e]; exact TX)
  obtain ⟨r,w1,w2,w3,w4,w5,w6⟩:=h.Tn a ha h1;have hrp:r=p:=by rw [h2] at w1; omega
  subst hrp;have sg0:∀ q:Nat,gI (x.2.1.set o v) (q:Int)≠0→q=o∨gI x.2.1 q≠0:=fun q hq=>by
   rw [Eo] at hq;by_cases e:q=o
   ·exact .inl e
   ·rw [if_neg e] at hq; exact .inr hq
  refine ⟨⟨by simp [h.ls],by simp [h.lp],by simp [h.lt],fun q=>?_,fun q hq pJ=>?_,fun e he=>?_,?_,fun q hq=>?_,fun q hq=>?_,fun q hq pJ nR i hi hx=>?_⟩,?_,?_,?_⟩
  ·show gI (x.2.1.set o v) (q:Int)=0∨gI (x.2.1.set o v) (q:Int)=1∨gI (x.2.1.set o v) (q:Int)=-1;rw [Eo]; split
   ·exact .inr hv1
   ·exact h.val q
  ·have pJ:gI (x.2.1.set o v) (q:Int)≠0:=pJ;show ∃ r':Nat,gI (x.2.2.2.set o (r:Int)) q=r'∧r'≤q∧gI (x.2.1.set o v) r'=1∧gI (x.2.2.2.set o (r:Int)) r'=r'∧th t (gL (x.2.2.1.set o (gL x.2.2.1 a++[(k:Int)])) q) ((r':Int),false)=some ((q:Int),decide (gI (x.2.1.set o v) q=-1))∧(gL (x.2.2.1.set o (gL x.2.2.1 a++[(k:Int)])) q).length+1≤nz (x.2.1.set o v);by_cases e:q=o
   ·subst e;have bD:r≠q:=P3 r (by rw [w3]; decide);refine ⟨r,by rw [Kt,if_pos rfl],?_,by rw [Eo,if_neg bD,w3],by rw [Kt,if_neg bD,w4],?_,?_⟩
    ·rcases Nat.lt_or_ge q r with cI|Fc
     ·exact absurd TX (h.low q cI)
     ·exact Fc
    ·rw [E5,if_pos rfl,Eo,if_pos rfl,yP,w5];show (Em (bj t (k:Int).toNat) ((a:Int),decide (gI x.2.1 (a:Int)=-1))).bind (th t [])=_;rw [aal,Fm];show some ((q:Int),(decide (gI x.2.1 (a:Int)=-1) != (bj t k).2.2.2.2))=some ((q:Int),decide (v=-1));congr 2;rw [← hv];rcases hav with e|e|e
     ·exact absurd e h1
     ·rw [e]; cases (bj t k).2.2.2.2 <;> rfl
     ·rw [e]; cases (bj t k).2.2.2.2 <;> rfl
    ·rw [E5,if_pos rfl,Ys,aau];show (gL x.2.2.1 a).length+1+1≤nz x.2.1+1;omega
   ·have Mq:gI x.2.1 q≠0:=(sg0 q pJ).resolve_left e;obtain ⟨r',y1,y2,y3,y4,y5,y6⟩:=h.Tn q hq Mq;have bD:r'≠o:=P3 r' (by rw [y3]; decide);exact ⟨r',by rw [Kt,if_neg e,y1],y2,by rw [Eo,if_neg bD,y3],by rw [Kt,if_neg bD,y4],by rw [E5,if_neg e,Eo,if_neg e,y5],by rw [E5,if_neg e,Ys]; omega⟩
  ·have he:e∈x.1++[(o:Int)]:=he;show ∃ q:Nat,e=q∧q < t.1.length∧gI (x.2.1.set o v) q≠0∧gI (x.2.2.2.set o (r:Int)) q=r;rw [List.mem_append] at he;rcases he with he|he
   ·obtain ⟨q,f1,f2,f3,f4⟩:=h.que e he;have:=P3 q f3;exact ⟨q,f1,f2,by rw [Eo,if_neg this]; exact f3,by rw [Kt,if_neg this,f4]⟩
   ·have he:e=(o:Int):=by simpa using he
    exact ⟨o,he,ho2,by rw [Eo,if_pos rfl]; exact hv0,by rw [Kt,if_pos rfl]⟩
  ·show (x.1++[(o:Int)]).length≤nz (x.2.1.set o v);rw [Ys,aau];have:=h.len;show x.1.length+1≤_;omega
  ·show gI (x.2.1.set o v) (q:Int)≠0;have:=h.low q hq;rw [Eo,if_neg (P3 q this)];exact this
  ·have hq:gI (x.2.1.set o v) (q:Int)=0:=hq;show gL (x.2.2.1.set o (gL x.2.2.1 a++[(k:Int)])) q=[];rw [Eo] at hq;by_cases e:q=o
   ·rw [if_pos e] at hq; exact absurd hq hv0
   ·rw [if_neg e] at hq; rw [E5,if_neg e]; exact h.emp q hq
  ·have pJ:gI (x.2.1.set o v) (q:Int)≠0:=pJ;have nR:(q:Int)∉x.1++[(o:Int)]:=nR;rw [List.mem_append,not_or] at nR;have hqo:q≠o:=fun e=>nR.2 (by rw [e]; simp)
   have Mq:=(sg0 q pJ).resolve_left hqo;show ((bj t i).1=q→gI (x.2.1.set o v) (bj t i).2.2.1≠0∧gI (x.2.2.2.set o (r:Int)) (bj t i).2.2.1=gI (x.2.2.2.set o (r:Int)) q)∧((bj t i).2.2.1=q→gI (x.2.1.set o v) (bj t i).1≠0∧gI (x.2.2.2.set o (r:Int)) (bj t i).1=gI (x.2.2.2.set o (r:Int)) q);obtain ⟨A',B',hA',ao7,hB',ao8⟩:=hS i hi;rw [hA',hB',Eo,Eo,Kt,Kt,Kt,if_neg hqo];by_cases OS:(q:Int)=(a:Int)∧i=k
   ·obtain ⟨e1,e2⟩:=OS;subst e2;have e1:q=a:=by omega
    subst e1;rw [hA] at hA'; rw [hB] at hB';have hAA:A=A':=by omega
    have hBB:B=B':=by omega
    subst hAA; subst hBB;unfold jK at ho;rw [hB,hA] at ho;refine ⟨fun e=>?_,fun e=>?_⟩
    ·have du:B≠q:=fun e2=>by
      rw [if_pos (by omega)] at ho;omega
     rw [if_neg (by omega)] at ho;have hBo:B=o:=by omega
     rw [if_pos hBo,if_pos hBo];exact ⟨hv0,h2.symm⟩
    ·rw [if_pos (by omega)] at ho;have hAo:A=o:=by omega
     rw [if_pos hAo,if_pos hAo];exact ⟨hv0,h2.symm⟩
   ·have c:=h.Yr q hq Mq nR.1 i hi (fun e=>by
     have:=hx e;have:i≠k:=fun e2=>OS ⟨e,e2⟩
     omega)
    rw [hA',hB'] at c;refine ⟨fun e=>?_,fun e=>?_⟩
    ·obtain ⟨c1,c2⟩:=c.1 e;have:=P3 B' c1;rw [if_neg this,if_neg this];exact ⟨c1,c2⟩
    ·obtain ⟨c1,c2⟩:=c.2 e;have:=P3 A' c1;rw [if_neg this,if_neg this];exact ⟨c1,c2⟩
  ·show gI (x.2.1.set o v) (a:Int)≠0;rw [Eo,if_neg (fun e=>hoa e.symm)]; exact h1
  ·show gI (x.2.2.2.set o (r:Int)) (a:Int)=r;rw [Kt,if_neg (fun e=>hoa e.symm)]; exact h2
  ·show (x.1++[(o:Int)]).length+nz x.2.1=x.1.length+nz (x.2.1.set o v);rw [Ys,aau];show x.1.length+1+_=_;omega
theorem sV {t:aZ} (hS:P1 t) {p a:Nat} (ha:a < t.1.length) {x:BS} (h:Inv t p x a 0) (h1:gI x.2.1 a≠0) (h2:gI x.2.2.2 a=p):∀ k,k≤t.2.length →
  Inv t p (e9 t p a x k) a k∧gI (e9 t p a x k).2.1 a≠0∧gI (e9 t p a x k).2.2.2 a=p∧(e9 t p a x k).1.length+nz x.2.1=x.1.length+nz (e9 t p a x k).2.1
 |0,_=>⟨h,h1,h2,rfl⟩
 |k+1,hk=>by
  obtain ⟨c1,c2,c3,c4⟩:=sV hS ha h h1 h2 k (by omega);obtain ⟨d1,d2,d3,d4⟩:=P2 hS ha (by omega:k < t.2.length) c1 c2 c3;exact ⟨d1,d2,d3,by show (nJ p a (e9 t p a x k) k (bj t k)).1.length+_=_+nz (nJ p a (e9 t p a x k) k (bj t k)).2.1; omega⟩
theorem Inv.pop {t:aZ} {p:Nat} {a:Int} {q:List Int} {y:List Int × List (List Int) × List Int} (h:Inv t p (a :: q,y) (-1) 0):∃ k:Nat,a=k∧k < t.1.length∧Inv t p (q,y) k 0∧gI y.1 k≠0∧gI y.2.2 k=p:=by
 obtain ⟨k,e1,e2,e3,e4⟩:=h.que a (by simp);subst e1;refine ⟨k,rfl,e2,⟨h.ls,h.lp,h.lt,h.val,h.Tn,fun e he=>h.que e (List.mem_cons_of_mem _ he),?_,h.low,h.emp,fun q' hq pJ nR i hi hx=>h.Yr q' hq pJ (fun hm=>?_) i hi (fun e=>absurd e (by omega))⟩,e3,e4⟩
 ·have:(((k:Int) :: q).length:Nat)≤nz y.1:=h.len;rw [List.length_cons] at this;show q.length≤nz y.1;omega
 ·have hm:(q':Int)∈(k:Int) :: q:=hm;rw [List.mem_cons] at hm;rcases hm with hm|hm
  ·exact absurd (hx hm) (aax _)
  ·exact nR hm
theorem Inv.done {t:aZ} {p:Nat} {x:BS} {a:Int} (h:Inv t p x a t.2.length):Inv t p x (-1) 0:=
 ⟨h.ls,h.lp,h.lt,h.val,h.Tn,h.que,h.len,h.low,h.emp,fun q hq pJ nR i hi _=>h.Yr q hq pJ nR i hi fun _=>hi⟩
theorem wW {t:aZ} (hS:P1 t) {p:Nat}:∀ (n:Nat) (x:BS),Inv t p x (-1) 0→t.1.length+x.1.length < n+nz x.2.1→Inv t p (pF t p n x) (-1) 0∧(pF t p n x).1=[]
 |0,x,h,hn=>by have:=Gk x.2.1; rw [h.ls] at this; omega
 |n+1,(l,y),h,hn=>by
  cases l with
  |nil=>exact ⟨h,rfl⟩
  |cons a q=>
   obtain ⟨k,rfl,e2,e3,e4,e5⟩:=h.pop;obtain ⟨c1,_,_,c4⟩:=sV hS e2 e3 e4 e5 t.2.length (Nat.le_refl _);have c4:(e9 t p k (q,y) t.2.length).1.length+nz y.1=q.length+nz (e9 t p k (q,y) t.2.length).2.1:=c4;have hn:t.1.length+(q.length+1) < n+1+nz y.1:=hn;exact wW hS n (e9 t p k (q,y) t.2.length) c1.done (by omega)
theorem My (p a:Int) (x:BS) (i:Nat) (s:kQ) (q:Nat) (h:gI x.2.1 q≠0):gI (nJ p a x i s).2.1 q≠0:=by
 unfold nJ;split
 ·exact h
 ·rename_i hs;unfold uP at hs;simp only [not_or,ne_eq,aav] at hs;show gI (x.2.1.set (jK s a).toNat _) (q:Int)≠0;have du:(jK s a).toNat≠q:=fun e=>h (by have:=hs.2; unfold gI at *; rw [e] at this; simpa using this)
  unfold gI at *;simp only [aal,aae,aat,if_neg du] at *;exact h
theorem AU (t:aZ) (p a:Int) (x:BS) (q:Nat) (h:gI x.2.1 q≠0):∀ k,gI (e9 t p a x k).2.1 q≠0
 |0=>h
 |k+1=>My p a _ k _ q (AU t p a x q h k)
theorem AW (t:aZ) (p:Int) (q:Nat):∀ (n:Nat) (x:BS),gI x.2.1 q≠0→gI (pF t p n x).2.1 q≠0
 |0,_,h=>h
 |n+1,(l,y),h=>by
  cases l with
  |nil=>exact h
  |cons a l=>exact AW t p q n _ (AU t p a (l,y) q h _)
def wX (t:aZ) (y:List Int × List (List Int) × List Int) (p:Nat):List Int × List (List Int) × List Int:=
 if gI y.1 p≠0 then y else (pF t p (t.1.length+1) ([(p:Int)],y.1.set p 1,y.2.1,y.2.2.set p p)).2
def fF (t:aZ):Nat→List Int × List (List Int) × List Int
 |0=>(aas t.1.length 0,aas t.1.length [],aas t.1.length 0)
 |p+1=>wX t (fF t p) p
theorem Mz (n:Nat) (k:Int):gI (aas n 0) k=0:=by
 unfold gI;rw [aae,List.getElem?_replicate];split <;> rfl
theorem ach (n:Nat) (k:Int):gL (aas n []) k=[]:=by
 unfold gL;rw [aae,List.getElem?_replicate];split <;> rfl
theorem Gl {t:aZ} {p:Nat} (hp:p < t.1.length) {y:List Int × List (List Int) × List Int} (h:Inv t p ([],y) (-1) 0) (h0:gI y.1 p=0):Inv t p ([(p:Int)],y.1.set p 1,y.2.1,y.2.2.set p p) (-1) 0:=by
 have Im:p < y.1.length:=by rw [h.ls]; exact hp
 have hot:p < y.2.2.length:=by rw [h.lt]; exact hp
 have Eo:∀ q:Nat,gI (y.1.set p 1) (q:Int)=if q=p then 1 else gI y.1 q:=fun q=>Ac _ _ _ _ Im
 have Kt:∀ q:Nat,gI (y.2.2.set p (p:Int)) (q:Int)=if q=p then (p:Int) else gI y.2.2 q:=fun q=>Ac _ _ _ _ hot
 have Ys:nz (y.1.set p 1)=nz y.1+1:=En (by decide) y.1 p Im (by have:=h0; unfold gI at this; simpa using this);have ajS:∀ q:Nat,gI y.1 q≠0→q≠p:=fun q hq e=>hq (by rw [e]; exact h0)
 have sg0:∀ q:Nat,gI (y.1.set p 1) (q:Int)≠0→q=p∨gI y.1 q≠0:=fun q hq=>by
  rw [Eo] at hq;by_cases e:q=p
  ·exact .inl e
  ·rw [if_neg e] at hq; exact .inr hq
 refine ⟨by show (y.1.set p 1).length=_; rw [List.length_set]; exact h.ls,h.lp,by show (y.2.2.set p (p:Int)).length=_; rw [List.length_set]; exact h.lt,fun q=>?_,fun q hq pJ=>?_,fun e he=>?_,?_,fun q hq=>?_,fun q hq=>?_,fun q hq pJ nR i hi hx=>?_⟩
 ·show gI (y.1.set p 1) (q:Int)=0∨gI (y.1.set p 1) (q:Int)=1∨gI (y.1.set p 1) (q:Int)=-1;rw [Eo]; split
  ·exact .inr (.inl rfl)
  ·exact h.val q
 ·have pJ:gI (y.1.set p 1) (q:Int)≠0:=pJ;show ∃ r':Nat,gI (y.2.2.set p (p:Int)) q=r'∧r'≤q∧gI (y.1.set p 1) r'=1∧gI (y.2.2.set p (p:Int)) r'=r'∧th t (gL y.2.1 q) ((r':Int),false)=some ((q:Int),decide (gI (y.1.set p 1) q=-1))∧(gL y.2.1 q).length+1≤nz (y.1.set p 1);by_cases e:q=p
  ·subst e;have he:gL y.2.1 q=[]:=h.emp q h0;exact ⟨q,by rw [Kt,if_pos rfl],Nat.le_refl _,by rw [Eo,if_pos rfl],by rw [Kt,if_pos rfl],by rw [he,Eo,if_pos rfl]; rfl,by rw [he,Ys]; show 0+1≤_; omega⟩
  ·have Mq:=(sg0 q pJ).resolve_left e;obtain ⟨r',y1,y2,y3,y4,y5,y6⟩:=h.Tn q hq Mq;have bD:r'≠p:=ajS r' (by have y3:gI y.1 r'=1:=y3; rw [y3]; decide);have y6:(gL y.2.1 q).length+1≤nz y.1:=y6;exact ⟨r',by rw [Kt,if_neg e]; exact y1,y2,by rw [Eo,if_neg bD]; exact y3,by rw [Kt,if_neg bD]; exact y4,by rw [Eo,if_neg e]; exact y5,by rw [Ys]; omega⟩
 ·have he:e=(p:Int):=by simpa using he
  exact ⟨p,he,hp,by show gI (y.1.set p 1) (p:Int)≠0; rw [Eo,if_pos rfl]; decide,by show gI (y.2.2.set p (p:Int)) (p:Int)=p; rw [Kt,if_pos rfl]⟩
 ·show 1≤nz (y.1.set p 1);omega
 ·show gI (y.1.set p 1) (q:Int)≠0;rw [Eo,if_neg (by omega)]; exact h.low q hq
 ·have hq:gI (y.1.set p 1) (q:Int)=0:=hq;rw [Eo] at hq;by_cases e:q=p
  ·rw [if_pos e] at hq; exact absurd hq (by decide)
  ·rw [if_neg e] at hq; exact h.emp q hq
 ·have pJ:gI (y.1.set p 1) (q:Int)≠0:=pJ;have hqp:q≠p:=fun e=>nR (by show (q:Int)∈[(p:Int)]; rw [e]; simp)
  have Mq:=(sg0 q pJ).resolve_left hqp;have c:=h.Yr q hq Mq (by simp) i hi (fun e=>absurd e (by omega));have g0:∀ z:Int,gI y.1 z≠0→gI (y.1.set p 1) z=gI y.1 z∧gI (y.2.2.set p (p:Int)) z=gI y.2.2 z:=by
   intro z hz;have hzp:z.toNat≠p:=fun e=>hz (by have:=h0; unfold gI at *; rw [e]; simpa using this)
   unfold gI;simp only [aae,aat,if_neg (fun e=>hzp (Eq.symm e))];exact ⟨trivial,trivial⟩
  show ((bj t i).1=q→gI (y.1.set p 1) (bj t i).2.2.1≠0∧gI (y.2.2.set p (p:Int)) (bj t i).2.2.1=gI (y.2.2.set p (p:Int)) q)∧((bj t i).2.2.1=q→gI (y.1.set p 1) (bj t i).1≠0∧gI (y.2.2.set p (p:Int)) (bj t i).1=gI (y.2.2.set p (p:Int)) q);rw [(g0 q Mq).2];refine ⟨fun e=>?_,fun e=>?_⟩
  ·obtain ⟨c1,c2⟩:=c.1 e;obtain ⟨d1,d2⟩:=g0 _ c1;rw [d1,d2]; exact ⟨c1,c2⟩
  ·obtain ⟨c1,c2⟩:=c.2 e;obtain ⟨d1,d2⟩:=g0 _ c1;rw [d1,d2]; exact ⟨c1,c2⟩
theorem yQ {t:aZ} (hS:P1 t):∀ p,p≤t.1.length→Inv t p ([],fF t p) (-1) 0
 |0,_=>⟨by simp [fF],by simp [fF],by simp [fF],fun q=>.inl (Mz _ _),fun q _ h=>absurd (Mz _ _) h,fun e he=>absurd he List.not_mem_nil,Nat.zero_le _,fun q h=>absurd h (aax _),fun q _=>ach _ _,fun q _ h=>absurd (Mz _ _) h⟩
 |p+1,hp=>by
  have ih:=yQ hS p (by omega);have up:∀ y:List Int × List (List Int) × List Int,Inv t p ([],y) (-1) 0→gI y.1 p≠0→Inv t (p+1) ([],y) (-1) 0:=fun y h hn=>
   ⟨h.ls,h.lp,h.lt,h.val,h.Tn,fun e he=>absurd he List.not_mem_nil,Nat.zero_le _,fun q hq=>(Nat.lt_or_ge q p).elim (fun k=>h.low q k) (fun k=>by rw [show q=p by omega]; exact hn),h.emp,h.Yr⟩
  show Inv t (p+1) ([],wX t (fF t p) p) (-1) 0;unfold wX;split
  ·rename_i hn; exact up _ ih hn
  ·rename_i hn;have h0:gI (fF t p).1 p=0:=aav.1 hn;have hs:=Gl (by omega:p < t.1.length) ih h0;have hl:(p:Nat) < (fF t p).1.length:=by rw [ih.ls]; omega
   have hz:nz ((fF t p).1.set p 1)=nz (fF t p).1+1:=En (by decide) _ p hl (by have:=h0; unfold gI at this; simpa using this);obtain ⟨c1,c2⟩:=wW hS (t.1.length+1) _ hs (by show t.1.length+1 < t.1.length+1+nz ((fF t p).1.set p 1); omega);have hm:=AW t p p (t.1.length+1) ([(p:Int)],(fF t p).1.set p 1,(fF t p).2.1,(fF t p).2.2.set p p) (by show gI ((fF t p).1.set p 1) (p:Int)≠0; rw [Ac _ _ _ _ hl,if_pos rfl]; decide);generalize pF t p (t.1.length+1) ([(p:Int)],(fF t p).1.set p 1,(fF t p).2.1,(fF t p).2.2.set p p)=z at *;obtain ⟨z1,z2⟩:=z;have c2:z1=[]:=c2;subst c2;exact up z2 c1 hm
end Go.Proofs.Ytegoimldbgdeiaa
