/- A search along seams,with a queue: what it keeps. -/
import Derived.Test.YtegoimldbgdeiaaTrwSa
set_option linter.all false
namespace Go.Proofs.Ytegoimldbgdeiaa
open Go Go.Am
open List (map)
open Int (toNat)
open Go.IntKind (wrap)
open Go.Am.aM (fits)
def gI (l:List Int) (k:Int):Int:=l.getD k.toNat 0
def gL (l:List (List Int)) (k:Int):List Int:=l.getD k.toNat []
def nz:List Int→Nat
 |[]=>0
 |x :: l=>(if x=0 then 0 else 1)+nz l
theorem B0:∀ l:List Int,nz l≤l.length
 |[]=>Nat.le_refl _
 |x :: l=>by
  have:=B0 l;show (if x=0 then 0 else 1)+nz l≤l.length+1;split <;> omega
theorem z7 {v:Int} (hv:v≠0):∀ (l:List Int) (k:Nat),k < l.length→l.getD k 0=0→nz (l.set k v)=nz l+1
 |[],k,h,_=>absurd h (Nat.not_lt_zero _)
 |x :: l,0,_,h=>by
  have h:x=0:=h;subst h;show (if v=0 then 0 else 1)+nz l=((if (0:Int)=0 then 0 else 1)+nz l)+1;rw [if_neg hv,if_pos rfl]; omega
 |x :: l,k+1,hk,h=>by
  have h:l.getD k 0=0:=h;show (if x=0 then 0 else 1)+nz (l.set k v)=((if x=0 then 0 else 1)+nz l)+1;rw [z7 hv l k (Nat.lt_of_succ_lt_succ hk) h]; omega
theorem pu (l:List Int) (k j:Nat) (v:Int) (hk:k < l.length):gI (l.set k v) (j:Int)=if j=k then v else gI l (j:Int):=by
 unfold gI;simp only [Int.toNat_natCast,List.getD_eq_getElem?_getD,List.getElem?_set];by_cases h:k=j
 ·subst h; simp [hk]
 ·rw [if_neg h,if_neg (fun e=>h e.symm)]
theorem Vw (l:List (List Int)) (k j:Nat) (v:List Int) (hk:k < l.length):gL (l.set k v) (j:Int)=if j=k then v else gL l (j:Int):=by
 unfold gL;simp only [Int.toNat_natCast,List.getD_eq_getElem?_getD,List.getElem?_set];by_cases h:k=j
 ·subst h; simp [hk]
 ·rw [if_neg h,if_neg (fun e=>h e.symm)]
abbrev BS:=List Int × List Int × List (List Int) × List Int
def ir (s:pH) (a:Int):Int:=if s.2.2.1=a then s.1 else s.2.2.1
def qG (s:pH) (a:Int) (sg:List Int):Prop:=(s.1≠a∧s.2.2.1≠a)∨gI sg (ir s a)≠0
instance (s:pH) (a:Int) (sg:List Int):Decidable (qG s a sg):=by unfold qG; infer_instance
def kI (p a:Int) (x:BS) (i:Nat) (s:pH):BS:=
 if qG s a x.2.1 then x else
  (x.1++[ir s a],x.2.1.set (ir s a).toNat (if s.2.2.2.2=true then - gI x.2.1 a else gI x.2.1 a),
   x.2.2.1.set (ir s a).toNat (gL x.2.2.1 a++[(i:Int)]),x.2.2.2.set (ir s a).toNat p)
def dN (t:cu) (p a:Int) (x:BS):Nat→BS
 |0=>x
 |k+1=>kI p a (dN t p a x k) k (av t k)
def mu (t:cu) (p:Int):Nat→BS→BS
 |0,x=>x
 |n+1,x=>match x.1 with
  |[]=>x
  |a :: q=>mu t p n (dN t p a (q,x.2) t.2.length)
def uz (t:cu):Prop:=∀ i < t.2.length,∃ a b:Nat,(av t i).1=a∧a < t.1.length∧(av t i).2.2.1=b∧b < t.1.length
structure Inv (t:cu) (p:Nat) (x:BS) (ex:Int) (k:Nat):Prop where
 ls:x.2.1.length=t.1.length
 lp:x.2.2.1.length=t.1.length
 lt:x.2.2.2.length=t.1.length
 val:∀ q:Nat,gI x.2.1 q=0∨gI x.2.1 q=1∨gI x.2.1 q=-1
 De:∀ q:Nat,q < t.1.length→gI x.2.1 q≠0→∃ r:Nat,gI x.2.2.2 q=r∧r≤q∧gI x.2.1 r=1∧gI x.2.2.2 r=r ∧
  b8 t (gL x.2.2.1 q) ((r:Int),false)=some ((q:Int),decide (gI x.2.1 q=-1))∧(gL x.2.2.1 q).length+1≤nz x.2.1
 WA:∀ e∈x.1,∃ q:Nat,e=q∧q < t.1.length∧gI x.2.1 q≠0∧gI x.2.2.2 q=p
 len:x.1.length≤nz x.2.1
 low:∀ q:Nat,q < p→gI x.2.1 q≠0
 Vx:∀ q:Nat,gI x.2.1 q=0→gL x.2.2.1 q=[]
 Rs:∀ q:Nat,q < t.1.length→gI x.2.1 q≠0→(q:Int)∉x.1→∀ i < t.2.length,((q:Int)=ex→i < k) →
  ((av t i).1=q→gI x.2.1 (av t i).2.2.1≠0∧gI x.2.2.2 (av t i).2.2.1=gI x.2.2.2 q) ∧
  ((av t i).2.2.1=q→gI x.2.1 (av t i).1≠0∧gI x.2.2.2 (av t i).1=gI x.2.2.2 q)
theorem Ke {t:cu} (hS:uz t) {p a:Nat} (ha:a < t.1.length) {x:BS} {k:Nat} (hk:k < t.2.length) (h:Inv t p x a k) (h1:gI x.2.1 a≠0) (h2:gI x.2.2.2 a=p) :
  Inv t p (kI p a x k (av t k)) a (k+1)∧gI (kI p a x k (av t k)).2.1 a≠0∧gI (kI p a x k (av t k)).2.2.2 a=p∧(kI p a x k (av t k)).1.length+nz x.2.1=x.1.length+nz (kI p a x k (av t k)).2.1:=by
 obtain ⟨A,B,hA,om,hB,ow⟩:=hS k hk;unfold kI;by_cases hs:qG (av t k) (a:Int) x.2.1
 ·rw [if_pos hs];refine ⟨⟨h.ls,h.lp,h.lt,h.val,h.De,h.WA,h.len,h.low,h.Vx,fun q hq mA kO i hi hx=>?_⟩,h1,h2,rfl⟩;by_cases DL:(q:Int)=(a:Int)∧i=k
  ·obtain ⟨e1,e2⟩:=DL;subst e2;have e1:q=a:=by omega
   subst e1
   -- what lies at the other end
   have oth:∀ o:Nat,o < t.1.length→gI x.2.1 o≠0→((av t i).1=(o:Int)∧(av t i).2.2.1=(q:Int)∨(av t i).2.2.1=(o:Int)∧(av t i).1=(q:Int))→gI x.2.2.2 o=gI x.2.2.2 q:=by
    intro o ho hn hh;by_cases hoq:o=q
    ·rw [hoq]
    ·by_cases fN:(o:Int)∈x.1
     ·obtain ⟨o',f1,_,_,f4⟩:=h.WA _ fN;have:o'=o:=by omega
      subst this;rw [f4,h2]
     ·have c:=h.Rs o ho hn fN i hi (fun e=>absurd e (by omega));rcases hh with ⟨f1,f2⟩|⟨f1,f2⟩
      ·have:=(c.1 f1).2; rw [f2] at this; exact this.symm
      ·have:=(c.2 f1).2; rw [f2] at this; exact this.symm
   unfold qG at hs;refine ⟨fun e=>?_,fun e=>?_⟩
   ·rcases hs with ⟨f,_⟩|f
    ·exact absurd e f
    ·unfold ir at f;by_cases hb:(av t i).2.2.1=(q:Int)
     ·rw [hb]; exact ⟨mA,rfl⟩
     ·rw [if_neg hb] at f;refine ⟨f,?_⟩;rw [hB] at f ⊢;exact oth B ow f (.inr ⟨hB,e⟩)
   ·rcases hs with ⟨_,f⟩|f
    ·exact absurd e f
    ·unfold ir at f;rw [if_pos e] at f;refine ⟨f,?_⟩;rw [hA] at f ⊢;exact oth A om f (.inl ⟨hA,e⟩)
  ·exact h.Rs q hq mA kO i hi (fun e=>by
    have:=hx e;have:i≠k:=fun e2=>DL ⟨e,e2⟩
    omega)
 ·rw [if_neg hs];unfold qG at hs;simp only [not_or,not_and,ne_eq,Decidable.not_not] at hs;obtain ⟨FC,I1⟩:=hs;have hto:∃ o:Nat,ir (av t k) a=(o:Int)∧o < t.1.length:=by
   unfold ir;split
   ·exact ⟨A,hA,om⟩
   ·exact ⟨B,hB,ow⟩
  obtain ⟨o,ho,Xg⟩:=hto;rw [ho] at I1;have hoa:o≠a:=fun e=>h1 (by rw [← e]; exact I1)
  have Bl:∀ f,cO (av t k) ((a:Int),f)=some ((o:Int),f != (av t k).2.2.2.2):=by
   intro f;unfold cO;by_cases hf:(av t k).1=(a:Int)
   ·rw [if_pos hf];unfold ir at ho;by_cases hb:(av t k).2.2.1=(a:Int)
    ·rw [if_pos hb] at ho;exact absurd (show o=a by omega) hoa
    ·rw [if_neg hb] at ho;rw [ho]
   ·have hb:=FC hf;unfold ir at ho;rw [if_pos hb] at ho;rw [if_neg hf,if_pos hb,ho]
  rw [ho];simp only [Int.toNat_natCast]
  -- the new sign
  generalize hv:(if (av t k).2.2.2.2=true then - gI x.2.1 (a:Int) else gI x.2.1 (a:Int))=v;have hav:=h.val a;have hv1:v=1∨v=-1:=by
   subst hv;split <;> omega
  have Zd:v≠0:=by omega
  have DG:o < x.2.1.length:=by rw [h.ls]; exact Xg
  have hop:o < x.2.2.1.length:=by rw [h.lp]; exact Xg
  have hot:o < x.2.2.2.length:=by rw [h.lt]; exact Xg
  have Rt:nz (x.2.1.set o v)=nz x.2.1+1:=z7 Zd x.2.1 o DG (by have:=I1; unfold gI at this; simpa using this);have z8:∀ q:Nat,gI (x.2.1.set o v) (q:Int)=if q=o then v else gI x.2.1 q:=fun q=>pu _ _ _ _ DG
  have Rb:∀ q:Nat,gL (x.2.2.1.set o (gL x.2.2.1 a++[(k:Int)])) (q:Int)=if q=o then gL x.2.2.1 a++[(k:Int)] else gL x.2.2.1 q:=fun q=>Vw _ _ _ _ hop
  have Fh:∀ q:Nat,gI (x.2.2.2.set o (p:Int)) (q:Int)=if q=o then (p:Int) else gI x.2.2.2 q:=fun q=>pu _ _ _ _ hot
  have Kf:∀ q:Nat,gI x.2.1 q≠0→q≠o:=fun q hq e=>hq (by rw [e]; exact I1)
  obtain ⟨r,w1,w2,w3,w4,w5,w6⟩:=h.De a ha h1;have hrp:r=p:=by rw [h2] at w1; omega
  subst hrp;have NT:∀ q:Nat,gI (x.2.1.set o v) (q:Int)≠0→q=o∨gI x.2.1 q≠0:=fun q hq=>by
   rw [z8] at hq;by_cases e:q=o
   ·exact .inl e
   ·rw [if_neg e] at hq; exact .inr hq
  refine ⟨⟨by simp [h.ls],by simp [h.lp],by simp [h.lt],fun q=>?_,fun q hq mA=>?_,fun e he=>?_,?_,fun q hq=>?_,fun q hq=>?_,fun q hq mA kO i hi hx=>?_⟩,?_,?_,?_⟩
  ·show gI (x.2.1.set o v) (q:Int)=0∨gI (x.2.1.set o v) (q:Int)=1∨gI (x.2.1.set o v) (q:Int)=-1;rw [z8]; split
   ·exact .inr hv1
   ·exact h.val q
  ·have mA:gI (x.2.1.set o v) (q:Int)≠0:=mA;show ∃ r':Nat,gI (x.2.2.2.set o (r:Int)) q=r'∧r'≤q∧gI (x.2.1.set o v) r'=1∧gI (x.2.2.2.set o (r:Int)) r'=r'∧b8 t (gL (x.2.2.1.set o (gL x.2.2.1 a++[(k:Int)])) q) ((r':Int),false)=some ((q:Int),decide (gI (x.2.1.set o v) q=-1))∧(gL (x.2.2.1.set o (gL x.2.2.1 a++[(k:Int)])) q).length+1≤nz (x.2.1.set o v);by_cases e:q=o
   ·subst e;have bn:r≠q:=Kf r (by rw [w3]; decide);refine ⟨r,by rw [Fh,if_pos rfl],?_,by rw [z8,if_neg bn,w3],by rw [Fh,if_neg bn,w4],?_,?_⟩
    ·rcases Nat.lt_or_ge q r with bO|A9
     ·exact absurd I1 (h.low q bO)
     ·exact A9
    ·rw [Rb,if_pos rfl,z8,if_pos rfl,ia,w5];show (cO (av t (k:Int).toNat) ((a:Int),decide (gI x.2.1 (a:Int)=-1))).bind (b8 t [])=_;rw [Int.toNat_natCast,Bl];show some ((q:Int),(decide (gI x.2.1 (a:Int)=-1) != (av t k).2.2.2.2))=some ((q:Int),decide (v=-1));congr 2;rw [← hv];rcases hav with e|e|e
     ·exact absurd e h1
     ·rw [e]; cases (av t k).2.2.2.2 <;> rfl
     ·rw [e]; cases (av t k).2.2.2.2 <;> rfl
    ·rw [Rb,if_pos rfl,Rt,List.length_append];show (gL x.2.2.1 a).length+1+1≤nz x.2.1+1;omega
   ·have M7:gI x.2.1 q≠0:=(NT q mA).resolve_left e;obtain ⟨r',y1,y2,y3,y4,y5,y6⟩:=h.De q hq M7;have bn:r'≠o:=Kf r' (by rw [y3]; decide);exact ⟨r',by rw [Fh,if_neg e,y1],y2,by rw [z8,if_neg bn,y3],by rw [Fh,if_neg bn,y4],by rw [Rb,if_neg e,z8,if_neg e,y5],by rw [Rb,if_neg e,Rt]; omega⟩
  ·have he:e∈x.1++[(o:Int)]:=he;show ∃ q:Nat,e=q∧q < t.1.length∧gI (x.2.1.set o v) q≠0∧gI (x.2.2.2.set o (r:Int)) q=r;rw [List.mem_append] at he;rcases he with he|he
   ·obtain ⟨q,f1,f2,f3,f4⟩:=h.WA e he;have:=Kf q f3;exact ⟨q,f1,f2,by rw [z8,if_neg this]; exact f3,by rw [Fh,if_neg this,f4]⟩
   ·have he:e=(o:Int):=by simpa using he
    exact ⟨o,he,Xg,by rw [z8,if_pos rfl]; exact Zd,by rw [Fh,if_pos rfl]⟩
  ·show (x.1++[(o:Int)]).length≤nz (x.2.1.set o v);rw [Rt,List.length_append];have:=h.len;show x.1.length+1≤_;omega
  ·show gI (x.2.1.set o v) (q:Int)≠0;have:=h.low q hq;rw [z8,if_neg (Kf q this)];exact this
  ·have hq:gI (x.2.1.set o v) (q:Int)=0:=hq;show gL (x.2.2.1.set o (gL x.2.2.1 a++[(k:Int)])) q=[];rw [z8] at hq;by_cases e:q=o
   ·rw [if_pos e] at hq; exact absurd hq Zd
   ·rw [if_neg e] at hq; rw [Rb,if_neg e]; exact h.Vx q hq
  ·have mA:gI (x.2.1.set o v) (q:Int)≠0:=mA;have kO:(q:Int)∉x.1++[(o:Int)]:=kO;rw [List.mem_append,not_or] at kO;have hqo:q≠o:=fun e=>kO.2 (by rw [e]; simp)
   have M7:=(NT q mA).resolve_left hqo;show ((av t i).1=q→gI (x.2.1.set o v) (av t i).2.2.1≠0∧gI (x.2.2.2.set o (r:Int)) (av t i).2.2.1=gI (x.2.2.2.set o (r:Int)) q)∧((av t i).2.2.1=q→gI (x.2.1.set o v) (av t i).1≠0∧gI (x.2.2.2.set o (r:Int)) (av t i).1=gI (x.2.2.2.set o (r:Int)) q);obtain ⟨A',B',Og,acO,WB,acP⟩:=hS i hi;rw [Og,WB,z8,z8,Fh,Fh,Fh,if_neg hqo];by_cases DL:(q:Int)=(a:Int)∧i=k
   ·obtain ⟨e1,e2⟩:=DL;subst e2;have e1:q=a:=by omega
    subst e1;rw [hA] at Og; rw [hB] at WB;have hAA:A=A':=by omega
    have hBB:B=B':=by omega
    subst hAA; subst hBB;unfold ir at ho;rw [hB,hA] at ho;refine ⟨fun e=>?_,fun e=>?_⟩
    ·have cz:B≠q:=fun e2=>by
      rw [if_pos (by omega)] at ho;omega
     rw [if_neg (by omega)] at ho;have hBo:B=o:=by omega
     rw [if_pos hBo,if_pos hBo];exact ⟨Zd,h2.symm⟩
    ·rw [if_pos (by omega)] at ho;have hAo:A=o:=by omega
     rw [if_pos hAo,if_pos hAo];exact ⟨Zd,h2.symm⟩
   ·have c:=h.Rs q hq M7 kO.1 i hi (fun e=>by
     have:=hx e;have:i≠k:=fun e2=>DL ⟨e,e2⟩
     omega)
    rw [Og,WB] at c;refine ⟨fun e=>?_,fun e=>?_⟩
    ·obtain ⟨c1,c2⟩:=c.1 e;have:=Kf B' c1;rw [if_neg this,if_neg this];exact ⟨c1,c2⟩
    ·obtain ⟨c1,c2⟩:=c.2 e;have:=Kf A' c1;rw [if_neg this,if_neg this];exact ⟨c1,c2⟩
  ·show gI (x.2.1.set o v) (a:Int)≠0;rw [z8,if_neg (fun e=>hoa e.symm)]; exact h1
  ·show gI (x.2.2.2.set o (r:Int)) (a:Int)=r;rw [Fh,if_neg (fun e=>hoa e.symm)]; exact h2
  ·show (x.1++[(o:Int)]).length+nz x.2.1=x.1.length+nz (x.2.1.set o v);rw [Rt,List.length_append];show x.1.length+1+_=_;omega
theorem pw {t:cu} (hS:uz t) {p a:Nat} (ha:a < t.1.length) {x:BS} (h:Inv t p x a 0) (h1:gI x.2.1 a≠0) (h2:gI x.2.2.2 a=p):∀ k,k≤t.2.length →
  Inv t p (dN t p a x k) a k∧gI (dN t p a x k).2.1 a≠0∧gI (dN t p a x k).2.2.2 a=p∧(dN t p a x k).1.length+nz x.2.1=x.1.length+nz (dN t p a x k).2.1
 |0,_=>⟨h,h1,h2,rfl⟩
 |k+1,hk=>by
  obtain ⟨c1,c2,c3,c4⟩:=pw hS ha h h1 h2 k (by omega);obtain ⟨d1,d2,d3,d4⟩:=Ke hS ha (by omega:k < t.2.length) c1 c2 c3;exact ⟨d1,d2,d3,by show (kI p a (dN t p a x k) k (av t k)).1.length+_=_+nz (kI p a (dN t p a x k) k (av t k)).2.1; omega⟩
theorem Inv.pop {t:cu} {p:Nat} {a:Int} {q:List Int} {y:List Int × List (List Int) × List Int} (h:Inv t p (a :: q,y) (-1) 0):∃ k:Nat,a=k∧k < t.1.length∧Inv t p (q,y) k 0∧gI y.1 k≠0∧gI y.2.2 k=p:=by
 obtain ⟨k,e1,e2,e3,e4⟩:=h.WA a (by simp);subst e1;refine ⟨k,rfl,e2,⟨h.ls,h.lp,h.lt,h.val,h.De,fun e he=>h.WA e (List.mem_cons_of_mem _ he),?_,h.low,h.Vx,fun q' hq mA kO i hi hx=>h.Rs q' hq mA (fun hm=>?_) i hi (fun e=>absurd e (by omega))⟩,e3,e4⟩
 ·have:(((k:Int) :: q).length:Nat)≤nz y.1:=h.len;rw [List.length_cons] at this;show q.length≤nz y.1;omega
 ·have hm:(q':Int)∈(k:Int) :: q:=hm;rw [List.mem_cons] at hm;rcases hm with hm|hm
  ·exact absurd (hx hm) (Nat.not_lt_zero _)
  ·exact kO hm
theorem Inv.done {t:cu} {p:Nat} {x:BS} {a:Int} (h:Inv t p x a t.2.length):Inv t p x (-1) 0:=
 ⟨h.ls,h.lp,h.lt,h.val,h.De,h.WA,h.len,h.low,h.Vx,fun q hq mA kO i hi _=>h.Rs q hq mA kO i hi fun _=>hi⟩
theorem sH {t:cu} (hS:uz t) {p:Nat}:∀ (n:Nat) (x:BS),Inv t p x (-1) 0→t.1.length+x.1.length < n+nz x.2.1→Inv t p (mu t p n x) (-1) 0∧(mu t p n x).1=[]
 |0,x,h,hn=>by have:=B0 x.2.1; rw [h.ls] at this; omega
 |n+1,(l,y),h,hn=>by
  cases l with
  |nil=>exact ⟨h,rfl⟩
  |cons a q=>
   obtain ⟨k,rfl,e2,e3,e4,e5⟩:=h.pop;obtain ⟨c1,_,_,c4⟩:=pw hS e2 e3 e4 e5 t.2.length (Nat.le_refl _);have c4:(dN t p k (q,y) t.2.length).1.length+nz y.1=q.length+nz (dN t p k (q,y) t.2.length).2.1:=c4;have hn:t.1.length+(q.length+1) < n+1+nz y.1:=hn;exact sH hS n (dN t p k (q,y) t.2.length) c1.done (by omega)
theorem Hk (p a:Int) (x:BS) (i:Nat) (s:pH) (q:Nat) (h:gI x.2.1 q≠0):gI (kI p a x i s).2.1 q≠0:=by
 unfold kI;split
 ·exact h
 ·rename_i hs;unfold qG at hs;simp only [not_or,ne_eq,Decidable.not_not] at hs;show gI (x.2.1.set (ir s a).toNat _) (q:Int)≠0;have cz:(ir s a).toNat≠q:=fun e=>h (by have:=hs.2; unfold gI at *; rw [e] at this; simpa using this)
  unfold gI at *;simp only [Int.toNat_natCast,List.getD_eq_getElem?_getD,List.getElem?_set,if_neg cz] at *;exact h
theorem wC (t:cu) (p a:Int) (x:BS) (q:Nat) (h:gI x.2.1 q≠0):∀ k,gI (dN t p a x k).2.1 q≠0
 |0=>h
 |k+1=>Hk p a _ k _ q (wC t p a x q h k)
theorem wD (t:cu) (p:Int) (q:Nat):∀ (n:Nat) (x:BS),gI x.2.1 q≠0→gI (mu t p n x).2.1 q≠0
 |0,_,h=>h
 |n+1,(l,y),h=>by
  cases l with
  |nil=>exact h
  |cons a l=>exact wD t p q n _ (wC t p a (l,y) q h _)
def sI (t:cu) (y:List Int × List (List Int) × List Int) (p:Nat):List Int × List (List Int) × List Int:=
 if gI y.1 p≠0 then y else (mu t p (t.1.length+1) ([(p:Int)],y.1.set p 1,y.2.1,y.2.2.set p p)).2
def eL (t:cu):Nat→List Int × List (List Int) × List Int
 |0=>(List.replicate t.1.length 0,List.replicate t.1.length [],List.replicate t.1.length 0)
 |p+1=>sI t (eL t p) p
theorem Df (n:Nat) (k:Int):gI (List.replicate n 0) k=0:=by
 unfold gI;rw [List.getD_eq_getElem?_getD,List.getElem?_replicate];split <;> rfl
theorem Vy (n:Nat) (k:Int):gL (List.replicate n []) k=[]:=by
 unfold gL;rw [List.getD_eq_getElem?_getD,List.getElem?_replicate];split <;> rfl
theorem B3 {t:cu} {p:Nat} (hp:p < t.1.length) {y:List Int × List (List Int) × List Int} (h:Inv t p ([],y) (-1) 0) (h0:gI y.1 p=0):Inv t p ([(p:Int)],y.1.set p 1,y.2.1,y.2.2.set p p) (-1) 0:=by
 have DG:p < y.1.length:=by rw [h.ls]; exact hp
 have hot:p < y.2.2.length:=by rw [h.lt]; exact hp
 have z8:∀ q:Nat,gI (y.1.set p 1) (q:Int)=if q=p then 1 else gI y.1 q:=fun q=>pu _ _ _ _ DG
 have Fh:∀ q:Nat,gI (y.2.2.set p (p:Int)) (q:Int)=if q=p then (p:Int) else gI y.2.2 q:=fun q=>pu _ _ _ _ hot
 have Rt:nz (y.1.set p 1)=nz y.1+1:=z7 (by decide) y.1 p DG (by have:=h0; unfold gI at this; simpa using this);have acQ:∀ q:Nat,gI y.1 q≠0→q≠p:=fun q hq e=>hq (by rw [e]; exact h0)
 have NT:∀ q:Nat,gI (y.1.set p 1) (q:Int)≠0→q=p∨gI y.1 q≠0:=fun q hq=>by
  rw [z8] at hq;by_cases e:q=p
  ·exact .inl e
  ·rw [if_neg e] at hq; exact .inr hq
 refine ⟨by show (y.1.set p 1).length=_; rw [List.length_set]; exact h.ls,h.lp,by show (y.2.2.set p (p:Int)).length=_; rw [List.length_set]; exact h.lt,fun q=>?_,fun q hq mA=>?_,fun e he=>?_,?_,fun q hq=>?_,fun q hq=>?_,fun q hq mA kO i hi hx=>?_⟩
 ·show gI (y.1.set p 1) (q:Int)=0∨gI (y.1.set p 1) (q:Int)=1∨gI (y.1.set p 1) (q:Int)=-1;rw [z8]; split
  ·exact .inr (.inl rfl)
  ·exact h.val q
 ·have mA:gI (y.1.set p 1) (q:Int)≠0:=mA;show ∃ r':Nat,gI (y.2.2.set p (p:Int)) q=r'∧r'≤q∧gI (y.1.set p 1) r'=1∧gI (y.2.2.set p (p:Int)) r'=r'∧b8 t (gL y.2.1 q) ((r':Int),false)=some ((q:Int),decide (gI (y.1.set p 1) q=-1))∧(gL y.2.1 q).length+1≤nz (y.1.set p 1);by_cases e:q=p
  ·subst e;have he:gL y.2.1 q=[]:=h.Vx q h0;exact ⟨q,by rw [Fh,if_pos rfl],Nat.le_refl _,by rw [z8,if_pos rfl],by rw [Fh,if_pos rfl],by rw [he,z8,if_pos rfl]; rfl,by rw [he,Rt]; show 0+1≤_; omega⟩
  ·have M7:=(NT q mA).resolve_left e;obtain ⟨r',y1,y2,y3,y4,y5,y6⟩:=h.De q hq M7;have bn:r'≠p:=acQ r' (by have y3:gI y.1 r'=1:=y3; rw [y3]; decide);have y6:(gL y.2.1 q).length+1≤nz y.1:=y6;exact ⟨r',by rw [Fh,if_neg e]; exact y1,y2,by rw [z8,if_neg bn]; exact y3,by rw [Fh,if_neg bn]; exact y4,by rw [z8,if_neg e]; exact y5,by rw [Rt]; omega⟩
 ·have he:e=(p:Int):=by simpa using he
  exact ⟨p,he,hp,by show gI (y.1.set p 1) (p:Int)≠0; rw [z8,if_pos rfl]; decide,by show gI (y.2.2.set p (p:Int)) (p:Int)=p; rw [Fh,if_pos rfl]⟩
 ·show 1≤nz (y.1.set p 1);omega
 ·show gI (y.1.set p 1) (q:Int)≠0;rw [z8,if_neg (by omega)]; exact h.low q hq
 ·have hq:gI (y.1.set p 1) (q:Int)=0:=hq;rw [z8] at hq;by_cases e:q=p
  ·rw [if_pos e] at hq; exact absurd hq (by decide)
  ·rw [if_neg e] at hq; exact h.Vx q hq
 ·have mA:gI (y.1.set p 1) (q:Int)≠0:=mA;have hqp:q≠p:=fun e=>kO (by show (q:Int)∈[(p:Int)]; rw [e]; simp)
  have M7:=(NT q mA).resolve_left hqp;have c:=h.Rs q hq M7 (by simp) i hi (fun e=>absurd e (by omega));have g0:∀ z:Int,gI y.1 z≠0→gI (y.1.set p 1) z=gI y.1 z∧gI (y.2.2.set p (p:Int)) z=gI y.2.2 z:=by
   intro z hz;have hzp:z.toNat≠p:=fun e=>hz (by have:=h0; unfold gI at *; rw [e]; simpa using this)
   unfold gI;simp only [List.getD_eq_getElem?_getD,List.getElem?_set,if_neg (fun e=>hzp (Eq.symm e))];exact ⟨trivial,trivial⟩
  show ((av t i).1=q→gI (y.1.set p 1) (av t i).2.2.1≠0∧gI (y.2.2.set p (p:Int)) (av t i).2.2.1=gI (y.2.2.set p (p:Int)) q)∧((av t i).2.2.1=q→gI (y.1.set p 1) (av t i).1≠0∧gI (y.2.2.set p (p:Int)) (av t i).1=gI (y.2.2.set p (p:Int)) q);rw [(g0 q M7).2];refine ⟨fun e=>?_,fun e=>?_⟩
  ·obtain ⟨c1,c2⟩:=c.1 e;obtain ⟨d1,d2⟩:=g0 _ c1;rw [d1,d2]; exact ⟨c1,c2⟩
  ·obtain ⟨c1,c2⟩:=c.2 e;obtain ⟨d1,d2⟩:=g0 _ c1;rw [d1,d2]; exact ⟨c1,c2⟩
theorem uA {t:cu} (hS:uz t):∀ p,p≤t.1.length→Inv t p ([],eL t p) (-1) 0
 |0,_=>⟨by simp [eL],by simp [eL],by simp [eL],fun q=>.inl (Df _ _),fun q _ h=>absurd (Df _ _) h,fun e he=>absurd he List.not_mem_nil,Nat.zero_le _,fun q h=>absurd h (Nat.not_lt_zero _),fun q _=>Vy _ _,fun q _ h=>absurd (Df _ _) h⟩
 |p+1,hp=>by
  have ih:=uA hS p (by omega);have up:∀ y:List Int × List (List Int) × List Int,Inv t p ([],y) (-1) 0→gI y.1 p≠0→Inv t (p+1) ([],y) (-1) 0:=fun y h hn=>
   ⟨h.ls,h.lp,h.lt,h.val,h.De,fun e he=>absurd he List.not_mem_nil,Nat.zero_le _,fun q hq=>(Nat.lt_or_ge q p).elim (fun k=>h.low q k) (fun k=>by rw [show q=p by omega]; exact hn),h.Vx,h.Rs⟩
  show Inv t (p+1) ([],sI t (eL t p) p) (-1) 0;unfold sI;split
  ·rename_i hn; exact up _ ih hn
  ·rename_i hn;have h0:gI (eL t p).1 p=0:=Decidable.not_not.1 hn;have hs:=B3 (by omega:p < t.1.length) ih h0;have hl:(p:Nat) < (eL t p).1.length:=by rw [ih.ls]; omega
   have hz:nz ((eL t p).1.set p 1)=nz (eL t p).1+1:=z7 (by decide) _ p hl (by have:=h0; unfold gI at this; simpa using this);obtain ⟨c1,c2⟩:=sH hS (t.1.length+1) _ hs (by show t.1.length+1 < t.1.length+1+nz ((eL t p).1.set p 1); omega);have hm:=wD t p p (t.1.length+1) ([(p:Int)],(eL t p).1.set p 1,(eL t p).2.1,(eL t p).2.2.set p p) (by show gI ((eL t p).1.set p 1) (p:Int)≠0; rw [pu _ _ _ _ hl,if_pos rfl]; decide);generalize mu t p (t.1.length+1) ([(p:Int)],(eL t p).1.set p 1,(eL t p).2.1,(eL t p).2.2.set p p)=z at *;obtain ⟨z1,z2⟩:=z;have c2:z1=[]:=c2;subst c2;exact up z2 c1 hm
end Go.Proofs.Ytegoimldbgdeiaa
