/- Walks along two involutions; lists without repetition. -/
import Derived.Test.YtegoimldbgdeiaaGreatAmKL
import Derived.Test.YtegoimldbgdeiaaGreatTrzD
import Derived.Test.YtegoimldbgdeiaaGreatSeamKB
import Derived.Test.YtegoimldbgdeiaaGreatTrzE
import Derived.Test.YtegoimldbgdeiaaGreatSeamKC
set_option linter.all false
open Bool renaming and_self→aak, and_true→aaq, true_and→abp, not_true→abL, not_false→acC, false_and→acJ, and_eq_true→ac0
open Int renaming toNat_natCast→aah
open List renaming length_map→aaa, getElem?_eq_getElem→aar, length_take→aas, getD_eq_getElem?_getD→aaG, mem_cons_of_mem→abr, length_cons→abt, mem_map→abu, take_length→abv, take_add_one→abw, length_filter_le→abx, getElem_map→abz, getElem_mem→abA, mem_cons→abJ, map_cons→abK, map_append→abN, length_append→abO, length_nil→abY, mem_range→acy, drop_zero→acD, mem_cons_self→acP, filter_append→acR, append_assoc→acU, nodup_cons→ac8, mem_of_mem_take→adp
open Nat renaming zero_le→aaF, zero_add→abR, le_of_lt→adL
open Option renaming bind_some→aag
open Option.some renaming inj→aaN
open Prod renaming ext→ade
open Sum renaming elim_inl→abS, elim_inr→acX
namespace Go.Proofs.YtegoimldbgdeiaaGreat
set_option maxRecDepth 100000
theorem EB {α:Type} [DecidableEq α]:∀ {l m:List α},l.Nodup→(∀ x∈l,x∈m)→l.length≤m.length
 |[],_,_,_=>aaF _
 |x :: l,m,hn,h=>by
  rw [ac8] at hn;have hx:x∈m:=h x acP;have ih:=EB (l:=l) (m:=m.erase x) hn.2 (fun y hy=>(List.mem_erase_of_ne (fun e=>hn.1 (by rw [← e]; exact hy))).2 (h y (abr _ hy)));have e:=List.length_erase_of_mem hx;have:0 < m.length:=List.length_pos_of_mem hx;rw [abt]; omega
def pX {α:Type} (f:α→Option α) (x:α):Nat→Option α
 |0=>some x
 |n+1=>(pX f x n).bind f
theorem kd {α:Type} {f:α→Option α} {L:List α} {x0:α} (h0:x0∈L) (cl:∀ x∈L,∀ y,f x=some y→y∈L):∀ n y,pX f x0 n=some y→y∈L
 |0,y,h=>by cases h; exact h0
 |n+1,y,h=>by
  unfold pX at h;cases e:pX f x0 n with
  |none=>rw [e] at h; cases h
  |some z=>rw [e] at h; exact cl z (kd h0 cl n z e) y h
theorem hX {α:Type} {f:α→Option α} {x0:α} {n:Nat} {y:α} (h:pX f x0 (n+1)=some y):∃ z,pX f x0 n=some z∧f z=some y:=by
 unfold pX at h;cases e:pX f x0 n with
 |none=>rw [e] at h; cases h
 |some z=>rw [e] at h; exact ⟨z,rfl,h⟩
theorem qz {α:Type} {f:α→Option α} {x0:α}:∀ (n:Nat) (y:α) (k:Nat),pX f x0 (n+k)=some y→∃ z,pX f x0 n=some z
 |_,y,0,h=>⟨y,h⟩
 |n,y,k+1,h=>by
  obtain ⟨z,h1,_⟩:=hX (n:=n+k) h;exact qz n z k h1
theorem ON {α:Type} {f:α→Option α} {L:List α} {x0:α} (h0:x0∈L) (cl:∀ x∈L,∀ y,f x=some y→y∈L)
  (inj:∀ x∈L,∀ x'∈L,∀ y,f x=some y→f x'=some y→x=x') (nr:∀ x∈L,f x≠some x0) :
  ∀ (i k:Nat) (y:α),pX f x0 i=some y→pX f x0 (i+k+1)=some y→False
 |0,k,y,h1,h2=>by
  cases h1;obtain ⟨z,a,b⟩:=hX h2;exact nr z (kd h0 cl _ _ a) b
 |i+1,k,y,h1,h2=>by
  obtain ⟨z,a,b⟩:=hX h1;have h2:pX f x0 (i+k+1+1)=some y:=by rw [show i+k+1+1=i+1+k+1 by omega]; exact h2
  obtain ⟨z',a',b'⟩:=hX h2;have:=inj z (kd h0 cl _ _ a) z' (kd h0 cl _ _ a') y b b';subst this;exact ON h0 cl inj nr i k z a a'
theorem Xy {α:Type} [DecidableEq α] {f:α→Option α} {L:List α} {x0:α} (h0:x0∈L) (cl:∀ x∈L,∀ y,f x=some y→y∈L)
  (inj:∀ x∈L,∀ x'∈L,∀ y,f x=some y→f x'=some y→x=x') (nr:∀ x∈L,f x≠some x0) :
  ∃ m x,m < L.length∧pX f x0 m=some x∧f x=none:=by
 apply Classical.byContradiction;intro hc;have all:∀ m,m≤L.length→∃ x,pX f x0 m=some x:=by
  intro m
  induction m with
  |zero=>intro _; exact ⟨x0,rfl⟩
  |succ m ih=>
   intro hm;obtain ⟨x,hx⟩:=ih (by omega);cases e:f x with
   |none=>exact absurd ⟨m,x,by omega,hx,e⟩ hc
   |some y=>exact ⟨y,by show (pX f x0 m).bind f=_; rw [hx]; exact e⟩
 have nd:((List.range (L.length+1)).map fun m=>(pX f x0 m).getD x0).Nodup:=by
  rw [List.Nodup,List.pairwise_map];refine List.Pairwise.imp_of_mem (R:=(· < ·)) ?_ List.pairwise_lt_range;intro a b ha hb hab e;rw [acy] at ha hb;obtain ⟨x,hx⟩:=all a (by omega);obtain ⟨y,hy⟩:=all b (by omega);rw [hx,hy] at e;have e:x=y:=e;subst e;exact ON h0 cl inj nr a (b - a - 1) x hx (by rw [show a+(b - a - 1)+1=b by omega]; exact hy)
 have:=EB nd (m:=L) (fun x hx=>by
  rw [abu] at hx;obtain ⟨m,hm,e⟩:=hx;rw [acy] at hm;obtain ⟨y,hy⟩:=all m (by omega);rw [hy] at e;have e:y=x:=e;rw [← e];exact kd h0 cl m y hy)
 rw [aaa,List.length_range] at this;omega
structure Inv2 {α:Type} (L:List α) (s:α→α) (r:α→Option α):Prop where
 sm:∀ x∈L,s x∈L
 ss:∀ x∈L,s (s x)=x
 sn:∀ x∈L,s x≠x
 rm:∀ x∈L,∀ y,r x=some y→y∈L
 rr:∀ x∈L,∀ y,r x=some y→r y=some x
 rn:∀ x∈L,r x≠some x
section
variable {α:Type} {L:List α} {s:α→α} {r:α→Option α} (I:Inv2 L s r)
include I
theorem Inv2.cl:∀ x∈L,∀ y,r (s x)=some y→y∈L:=fun x hx y h=>I.rm (s x) (I.sm x hx) y h
theorem Inv2.inj:∀ x∈L,∀ x'∈L,∀ y,r (s x)=some y→r (s x')=some y→x=x':=fun x hx x' zM y h h'=>by
 have a:=I.rr _ (I.sm x hx) y h;have b:=I.rr _ (I.sm x' zM) y h';rw [a] at b;have b:s x=s x':=aaN b;rw [← I.ss x hx,b,I.ss x' zM]
theorem Inv2.nr {x0:α} (h:r x0=none):∀ x∈L,r (s x)≠some x0:=fun x hx e=>by
 have:=I.rr _ (I.sm x hx) x0 e;rw [h] at this; cases this
theorem Inv2.ends [DecidableEq α] {x0:α} (h0:x0∈L) (h:r x0=none):∃ m x,m < L.length∧pX (fun x=>r (s x)) x0 m=some x∧r (s x)=none:=
 Xy (f:=fun x=>r (s x)) h0 I.cl I.inj (I.nr h)
theorem Inv2.rev {x0:α} (h0:x0∈L) {m:Nat} {x:α} (hm:pX (fun x=>r (s x)) x0 m=some x):∀ i,i≤m→∀ y,pX (fun x=>r (s x)) x0 (m - i)=some y→pX (fun x=>r (s x)) (s x) i=some (s y)
 |0,_,y,hy=>by
  rw [Nat.sub_zero,hm] at hy;cases hy; rfl
 |i+1,hi,y,hy=>by
  have e:m - i=(m - (i+1))+1:=by omega
  obtain ⟨z,hz⟩:=qz (m - i) x i (by rw [show m - i+i=m by omega]; exact hm);have ih:=Inv2.rev h0 hm i (by omega) z hz;rw [e] at hz;obtain ⟨y',a,b⟩:=hX hz;rw [a] at hy;cases hy;have yL:=kd (f:=fun x=>r (s x)) h0 I.cl _ _ a;have zL:=I.cl y yL z b;show (pX (fun x=>r (s x)) (s x) i).bind _=_;rw [ih];show r (s (s z))=_;rw [I.ss z zL];exact I.rr _ (I.sm _ yL) z b
theorem Inv2.other {x0:α} (h0:x0∈L) {m:Nat} {x:α} (hm:pX (fun x=>r (s x)) x0 m=some x):s x≠x0:=by
 intro e;have key:=fun i hi y hy=>I.rev h0 hm i hi y hy
 rw [e] at key;rcases Nat.mod_two_eq_zero_or_one m with hp|hp
 ·obtain ⟨y,hy⟩:=qz (m / 2) x (m - m / 2) (by rw [show m / 2+(m - m / 2)=m by omega]; exact hm);have:=key (m / 2) (by omega) y (by rw [show m - m / 2=m / 2 by omega]; exact hy);rw [hy] at this;exact I.sn y (kd (f:=fun x=>r (s x)) h0 I.cl _ _ hy) (aaN this).symm
 ·obtain ⟨y,hy⟩:=qz (m / 2) x (m - m / 2) (by rw [show m / 2+(m - m / 2)=m by omega]; exact hm);have:=key (m / 2+1) (by omega) y (by rw [show m - (m / 2+1)=m / 2 by omega]; exact hy);obtain ⟨z,a,b⟩:=hX this;rw [hy] at a;cases a;have yL:=kd (f:=fun x=>r (s x)) h0 I.cl _ _ hy;exact I.rn _ (I.sm y yL) b
def onW (s:α→α) (r:α→Option α) (x0:α) (m:Nat) (y:α):Prop:=∃ i,i≤m∧(pX (fun x=>r (s x)) x0 i=some y∨pX (fun x=>r (s x)) x0 i=some (s y))
theorem Inv2.agF {x0:α} {m:Nat} {y:α} (hy:y∈L) (h:onW s r x0 m y):onW s r x0 m (s y):=by
 obtain ⟨i,hi,h|h⟩:=h
 ·exact ⟨i,hi,.inr (by rw [I.ss y hy]; exact h)⟩
 ·exact ⟨i,hi,.inl h⟩
theorem Inv2.agG {x0:α} (h0:x0∈L) (hn:r x0=none) {m:Nat} {x:α} (hm:pX (fun x=>r (s x)) x0 m=some x) (he:r (s x)=none) {y z:α} (hy:y∈L) (h:onW s r x0 m y) (hr:r y=some z):onW s r x0 m z:=by
 obtain ⟨i,hi,h|h⟩:=h
 ·cases i with
  |zero=>cases h; rw [hn] at hr; cases hr
  |succ i=>
   obtain ⟨w,a,b⟩:=hX h;have wL:=kd (f:=fun x=>r (s x)) h0 I.cl _ _ a;have:=I.rr _ (I.sm w wL) y b;rw [hr] at this;cases this;exact ⟨i,by omega,.inr (by rw [I.ss w wL]; exact a)⟩
 ·rcases Nat.lt_or_ge i m with c|c
  ·refine ⟨i+1,by omega,.inl ?_⟩;show (pX (fun x=>r (s x)) x0 i).bind _=_;rw [h];show r (s (s y))=_;rw [I.ss y hy]; exact hr
  ·have:i=m:=by omega
   subst this;rw [hm] at h;cases h;rw [I.ss y hy,hr] at he;cases he
theorem Inv2.Xz {x0:α} (h0:x0∈L) {m:Nat} {x:α} (hm:pX (fun x=>r (s x)) x0 m=some x) {y:α} (hy:y∈L) (h:onW s r x0 m y) (hr:r y=none):y=x0∨y=s x:=by
 obtain ⟨i,hi,h|h⟩:=h
 ·cases i with
  |zero=>cases h; exact .inl rfl
  |succ i=>
   obtain ⟨w,a,b⟩:=hX h;have wL:=kd (f:=fun x=>r (s x)) h0 I.cl _ _ a;have:=I.rr _ (I.sm w wL) y b;rw [hr] at this; cases this
 ·rcases Nat.lt_or_ge i m with c|c
  ·obtain ⟨z,hz⟩:=qz (i+1) x (m - (i+1)) (by rw [show i+1+(m - (i+1))=m by omega]; exact hm);obtain ⟨w,a,b⟩:=hX hz;rw [h] at a;cases a;have b:r (s (s y))=some z:=b;rw [I.ss y hy,hr] at b;cases b
  ·have:i=m:=by omega
   subst this;rw [hm] at h;cases h;exact .inr (I.ss y hy).symm
end
end Go.Proofs.YtegoimldbgdeiaaGreat
namespace Go.Proofs.YtegoimldbgdeiaaGreat
set_option maxRecDepth 100000
def UY {α:Type} [DecidableEq α]:List α→List α
 |[]=>[]
 |x :: l=>if x∈l then UY l else x :: UY l
theorem tE {α:Type} [DecidableEq α]:∀ (l:List α) (x:α),x∈UY l↔x∈l
 |[],_=>Iff.rfl
 |y :: l,x=>by
  unfold UY;by_cases h:y∈l
  ·rw [if_pos h,tE l x,abJ];exact ⟨Or.inr,fun c=>c.elim (fun e=>e ▸ h) id⟩
  ·rw [if_neg h,abJ,abJ,tE l x]
theorem EC {α:Type} [DecidableEq α]:∀ l:List α,(UY l).Nodup
 |[]=>List.nodup_nil
 |y :: l=>by
  unfold UY;by_cases h:y∈l
  ·rw [if_pos h]; exact EC l
  ·rw [if_neg h,ac8,tE]; exact ⟨h,EC l⟩
theorem Zx {α:Type} [DecidableEq α] {l m:List α} (hl:l.Nodup) (hm:m.Nodup) (h:∀ x,x∈l↔x∈m):l.length=m.length:=
 Nat.le_antisymm (EB hl fun x hx=>(h x).1 hx) (EB hm fun x hx=>(h x).2 hx)
def Cp {α β:Type} [DecidableEq β] (g:α→β) (L:List α):Nat:=(UY (L.map g)).length
section
variable {α β γ:Type} [DecidableEq β] [DecidableEq γ]
theorem TL {g:α→β} {L:List α} {m:List β} (hm:m.Nodup) (h:∀ x,x∈m↔∃ y∈L,g y=x):Cp g L=m.length:=
 Zx (EC _) hm fun x=>by rw [tE,abu,h]
theorem TM {g:α→β} {k:α→γ} {L:List α} (h:∀ x∈L,∀ y∈L,k x=k y→g x=g y):Cp g L≤Cp k L:=by
 induction L with
 |nil=>exact Nat.le_refl _
 |cons a L ih=>
  have ih:=ih fun x hx y hy=>h x (abr _ hx) y (abr _ hy)
  unfold Cp at ih ⊢;rw [abK,abK,UY,UY];by_cases c:k a∈L.map k
  ·obtain ⟨b,hb,e⟩:=abu.1 c;have:g a∈L.map g:=abu.2 ⟨b,hb,h b (abr _ hb) a acP e⟩;rw [if_pos c,if_pos this]; exact ih
  ·rw [if_neg c,abt];by_cases d:g a∈L.map g
   ·rw [if_pos d]; omega
   ·rw [if_neg d,abt]; omega
theorem AF {g:α→β} {k:α→γ} {L:List α} (h:∀ x∈L,∀ y∈L,(k x=k y↔g x=g y)):Cp g L=Cp k L:=
 Nat.le_antisymm (TM fun x hx y hy e=>(h x hx y hy).1 e) (TM fun x hx y hy e=>(h x hx y hy).2 e)
def ir (g:α→β) (p:α × α):α→β:=fun z=>if g z=g p.1 then g p.2 else g z
theorem su (g:α→β) (p:α × α) (x y:α):ir g p x=ir g p y↔g x=g y∨(g x=g p.1∧g y=g p.2)∨(g x=g p.2∧g y=g p.1):=by
 unfold ir;by_cases hx:g x=g p.1 <;> by_cases hy:g y=g p.1
 ·rw [if_pos hx,if_pos hy]; exact ⟨fun _=>.inl (by rw [hx,hy]),fun _=>rfl⟩
 ·rw [if_pos hx,if_neg hy];constructor
  ·intro e; exact .inr (.inl ⟨hx,e.symm⟩)
  ·rintro (e|⟨_,e⟩|⟨_,e⟩)
   ·exact absurd (by rw [← e,hx]) hy
   ·exact e.symm
   ·exact absurd e hy
 ·rw [if_neg hx,if_pos hy];constructor
  ·intro e; exact .inr (.inr ⟨e,hy⟩)
  ·rintro (e|⟨e,_⟩|⟨e,_⟩)
   ·exact absurd (by rw [e,hy]) hx
   ·exact absurd e hx
   ·exact e
 ·rw [if_neg hx,if_neg hy];constructor
  ·exact .inl
  ·rintro (e|⟨e,_⟩|⟨_,e⟩)
   ·exact e
   ·exact absurd e hx
   ·exact absurd e hy
theorem XA (g:α→β) (p:α × α) {L:List α} (h1:p.1∈L) (h2:p.2∈L):Cp (ir g p) L+(if g p.1=g p.2 then 0 else 1)=Cp g L:=by
 by_cases c:g p.1=g p.2
 ·rw [if_pos c,Nat.add_zero];refine AF fun x _ y _=>?_
  rw [su];constructor
  ·exact .inl
  ·rintro (e|⟨e,f⟩|⟨e,f⟩)
   ·exact e
   ·rw [e,f,c]
   ·rw [e,f,c]
 ·rw [if_neg c];have a:=TL (g:=g) (L:=L) (m:=g p.1 :: UY (L.map (ir g p))) (by
   rw [ac8,tE,abu];refine ⟨?_,EC _⟩;rintro ⟨x,hx,e⟩;unfold ir at e;by_cases d:g x=g p.1
   ·rw [if_pos d] at e; exact c e.symm
   ·rw [if_neg d] at e; exact d e) (fun z=>by
   rw [abJ,tE,abu];constructor
   ·rintro (e|⟨x,hx,e⟩)
    ·exact ⟨p.1,h1,e.symm⟩
    ·unfold ir at e;by_cases d:g x=g p.1
     ·rw [if_pos d] at e; exact ⟨p.2,h2,e⟩
     ·rw [if_neg d] at e; exact ⟨x,hx,e⟩
   ·rintro ⟨y,hy,e⟩;by_cases d:g y=g p.1
    ·exact .inl (by rw [← e,d])
    ·exact .inr ⟨y,hy,by unfold ir; rw [if_neg d,e]⟩)
  rw [a,abt]; rfl
end
inductive Cn {α:Type} (E:α→α→Prop):α→α→Prop
 |refl (x:α):Cn E x x
 |step {x y z:α}:Cn E x y→E y z→Cn E x z
 |back {x y z:α}:Cn E x y→E z y→Cn E x z
theorem Cn.one {α:Type} {E:α→α→Prop} {x y:α} (h:E x y):Cn E x y:=.step (.refl x) h
theorem Cn.trans {α:Type} {E:α→α→Prop} {x y z:α} (h:Cn E x y) (k:Cn E y z):Cn E x z:=by
 induction k with
 |refl=>exact h
 |step _ e ih=>exact .step ih e
 |back _ e ih=>exact .back ih e
theorem Cn.symm {α:Type} {E:α→α→Prop} {x y:α} (h:Cn E x y):Cn E y x:=by
 induction h with
 |refl=>exact .refl _
 |step _ e ih=>exact Cn.trans (.back (.refl _) e) ih
 |back _ e ih=>exact Cn.trans (.step (.refl _) e) ih
theorem Cn.bD {α β:Type} {E:α→α→Prop} {f:α→β} (h:∀ x y,E x y→f x=f y) {x y:α} (k:Cn E x y):f x=f y:=by
 induction k with
 |refl=>rfl
 |step _ e ih=>rw [ih]; exact h _ _ e
 |back _ e ih=>rw [ih]; exact (h _ _ e).symm
theorem Cn.mono {α:Type} {E F:α→α→Prop} (h:∀ x y,E x y→Cn F x y) {x y:α} (k:Cn E x y):Cn F x y:=by
 induction k with
 |refl=>exact .refl _
 |step _ e ih=>exact ih.trans (h _ _ e)
 |back _ e ih=>exact ih.trans (h _ _ e).symm
theorem Cn.TN {α:Type} {E:α→α→Prop} {P:α→Prop} (h:∀ x y,E x y→(P x↔P y)) {x y:α} (k:Cn E x y) (hx:P x):P y:=by
 induction k with
 |refl=>exact hx
 |step _ e ih=>exact (h _ _ e).1 ih
 |back _ e ih=>exact (h _ _ e).2 ih
section
variable {α:Type} [DecidableEq α]
def dJ (E:List (α × α)):α→α:=E.foldl ir id
theorem TO (E:List (α × α)):∀ (g:α→α) (F:α→α→Prop),(∀ x y,g x=g y↔Cn F x y)→∀ x y,(E.foldl ir g x=E.foldl ir g y↔Cn (fun a b=>F a b∨(a,b)∈E) x y):=by
 induction E with
 |nil=>
  intro g F h x y;show g x=g y↔_;rw [h];exact ⟨Cn.mono fun _ _ e=>.one (.inl e),Cn.mono fun _ _ e=>by rcases e with e | e; exact .one e; cases e⟩
 |cons p E ih=>
  intro g F h x y;have key:=ih (ir g p) (fun a b=>F a b∨(a,b)=p) (fun x y=>by
   rw [su];have up:∀ a b,g a=g b→Cn (fun a b=>F a b∨(a,b)=p) a b:=fun a b e=>Cn.mono (fun _ _ e=>.one (.inl e)) ((h a b).1 e)
   have pe:Cn (fun a b=>F a b∨(a,b)=p) p.1 p.2:=.one (.inr rfl);constructor
   ·rintro (e|⟨e,f⟩|⟨e,f⟩)
    ·exact up _ _ e
    ·exact (up _ _ e).trans (pe.trans (up _ _ f).symm)
    ·exact (up _ _ e).trans (pe.symm.trans (up _ _ f).symm)
   ·intro k;rw [← su];exact Cn.bD (fun a b e=>by
     rw [su];rcases e with e|e
     ·exact .inl ((h a b).2 (.one e))
     ·rw [← e]; exact .inr (.inl ⟨rfl,rfl⟩)) k) x y
  show List.foldl ir (ir g p) E x=List.foldl ir (ir g p) E y↔_;rw [key];constructor
  ·exact Cn.mono fun a b e=>by
    rcases e with (e|e)|e
    ·exact .one (.inl e)
    ·exact .one (.inr (by rw [e]; exact acP))
    ·exact .one (.inr (abr _ e))
  ·exact Cn.mono fun a b e=>by
    rcases e with e|e
    ·exact .one (.inl (.inl e))
    ·rcases abJ.1 e with e|e
     ·exact .one (.inl (.inr e))
     ·exact .one (.inr e)
theorem gC (E:List (α × α)) (x y:α):dJ E x=dJ E y↔Cn (fun a b=>(a,b)∈E) x y:=by
 unfold dJ;rw [TO E id (fun _ _=>False) (fun x y=>⟨fun e=>by have e:x=y:=e; rw [e]; exact .refl _,fun k=>Cn.bD (fun _ _ e=>e.elim) k⟩) x y];exact ⟨Cn.mono fun _ _ e=>.one (e.resolve_left id),Cn.mono fun _ _ e=>.one (.inr e)⟩
theorem ED {E F:List (α × α)} (L:List α) (h:∀ a b,(a,b)∈E→Cn (fun a b=>(a,b)∈F) a b) (k:∀ a b,(a,b)∈F→Cn (fun a b=>(a,b)∈E) a b):Cp (dJ E) L=Cp (dJ F) L:=
 AF fun x _ y _=>by
  rw [gC,gC];exact ⟨Cn.mono k,Cn.mono h⟩
theorem AG (E:List (α × α)) (p:α × α):dJ (E++[p])=ir (dJ E) p:=by unfold dJ; rw [List.foldl_append]; rfl
theorem Kf (E:List (α × α)) (p:α × α) {L:List α} (h1:p.1∈L) (h2:p.2∈L):Cp (dJ (E++[p])) L+(if dJ E p.1=dJ E p.2 then 0 else 1)=Cp (dJ E) L:=by
 rw [AG]; exact XA _ _ h1 h2
theorem Cq (E:List (α × α)) (p q:α × α) {L:List α} (h1:p.1∈L) (h2:p.2∈L) (h3:q.1∈L) (h4:q.2∈L) :
  Cp (dJ (E++[p,q])) L+(if dJ E q.1=dJ E q.2∨(dJ E q.1=dJ E p.1∧dJ E q.2=dJ E p.2)∨(dJ E q.1=dJ E p.2∧dJ E q.2=dJ E p.1) then 0 else 1)+(if dJ E p.1=dJ E p.2 then 0 else 1)=Cp (dJ E) L:=by
 rw [← Kf E p h1 h2,← Kf (E++[p]) q h3 h4,AG E p,acU];by_cases c:ir (dJ E) p q.1=ir (dJ E) p q.2
 ·rw [if_pos c,if_pos ((su _ _ _ _).1 c)]; rfl
 ·rw [if_neg c,if_neg fun d=>c ((su _ _ _ _).2 d)]; rfl
theorem Kg (E:List (α × α)) {a0 a1 b0 b1:α} {L:List α} (ha0:a0∈L) (ha1:a1∈L) (YI:b0∈L) (Se:b1∈L)
  (ha:dJ E a0=dJ E a1) (hb:dJ E b0=dJ E b1) (h:dJ E a0≠dJ E b0) :
  Cp (dJ (E++[(a0,b1),(a1,b0)])) L+1=Cp (dJ (E++[(a0,a1),(b0,b1)])) L:=by
 have p1:=Cq E (a0,b1) (a1,b0) (L:=L) ha0 Se ha1 YI;have p2:=Cq E (a0,a1) (b0,b1) (L:=L) ha0 ha1 YI Se;simp only at p1 p2;rw [if_pos ha,if_pos (.inl hb)] at p2;rw [if_pos (.inr (.inl ⟨ha.symm,hb⟩)),if_neg (by rw [← hb]; exact h)] at p1;omega
theorem TP (E:List (α × α)) {a0 a1 b0 b1:α} {L:List α} (ha0:a0∈L) (ha1:a1∈L) (YI:b0∈L) (Se:b1∈L)
  (ha:dJ E a0=dJ E b1) (hb:dJ E a1=dJ E b0) (h:dJ E a0≠dJ E a1) :
  Cp (dJ (E++[(a0,b1),(a1,b0)])) L=Cp (dJ (E++[(a0,a1),(b0,b1)])) L+1:=by
 have p1:=Cq E (a0,b1) (a1,b0) (L:=L) ha0 Se ha1 YI;have p2:=Cq E (a0,a1) (b0,b1) (L:=L) ha0 ha1 YI Se;simp only at p1 p2;rw [if_neg h,if_pos (.inr (.inr ⟨hb.symm,ha.symm⟩))] at p2;rw [if_pos ha,if_pos (.inl hb)] at p1;omega
end
end Go.Proofs.YtegoimldbgdeiaaGreat
namespace Go.Proofs.YtegoimldbgdeiaaGreat
open Go Go.Am
open List (map)
open Int (toNat)
open Go.IntKind (wrap)
open Go.Am.aM (fits)
set_option maxRecDepth 100000
def vn (first:Bool) (c:Int):Bool:=
 !(decide (c≥65)&&decide (c≤90) || decide (c≥97)&&decide (c≤122))&&(first || (c != 95&&(decide (c < 48) || decide (c > 57))))
def nF (first:Bool):List UInt8→Bool
 |[]=>true
 |c :: l=>!vn first (c.toNat:Int)&&nF false l
def Kh (s:List UInt8):Bool:=decide (s.length≠0∧s.length≤24)
def mI (s:List UInt8):Bool:=Kh s&&nF true s
theorem TQ (s:List UInt8):(((bif ((((s).length:Nat):Int) == 0) then (some true) else (some (decide ((((s).length:Nat):Int) > 24)))):Option Bool))=some (!Kh s):=by
 unfold Kh;by_cases h0:s.length=0
 ·simp [h0]
 ·rw [ajn (by omega)];by_cases h1:s.length≤24
  ·have:decide (((s.length:Nat):Int) > 24)=false:=by simp; omega
   rw [this]; simp [h0,h1]
  ·have:decide (((s.length:Nat):Int) > 24)=true:=by simp; omega
   rw [this]; simp [h1]
theorem Qm (l:List UInt8):∀ (first:Bool),foldI (fun (b:Bool) (c:UInt8)=>if vn b (c.toNat:Int) then (.inr ():Bool ⊕ Unit) else .inl false) first l=if nF first l then .inl (if l.isEmpty then first else false) else .inr ():=by
 induction l with
 |nil=>intro b; rfl
 |cons c l ih=>
  intro b;simp only [foldI,nF];by_cases h:vn b (c.toNat:Int)=true
  ·simp [h]
  ·have h':vn b (c.toNat:Int)=false:=by simpa using h
   simp only [h',Bool.false_eq_true,if_false,abS,acC,abp,ih false];by_cases h2:nF false l=true <;> simp [h2]
theorem Qn {N:Nat} (hN:eQ N) (s:List UInt8):Xi N s=some (mI s):=by
 rw [Xk,TQ];simp only [aag];unfold mI;cases BK:Kh s with
 |false=>rfl
 |true=>
  have hl:=of_decide_eq_true (show decide (s.length≠0∧s.length≤24)=true from BK);simp only [abL,cond_false,abp];have key:=kM (rd:=zg N s) s (fun (b:Bool) k=>(k:Int)) (fun b (c:UInt8)=>if vn b (c.toNat:Int) then (.inr ():Bool ⊕ Unit) else .inl false) (fun _=>.inr ()) (fun _=>.inl false) (fun b k=>b=(k == 0))
   (fun b k hk hb=>by
    refine ⟨?_,fun s' h'=>?_⟩
    ·subst hb;have e1:s.getD k 0=s[k]:=by simp [hk]
     have e2:((k:Int) == 0)=(k == 0):=by cases k <;> simp; omega
     unfold zg;simp only [aah,ar hk,ah hk,cond_true,aS (by omega:k < 9223372036854775807),e1,e2];unfold vn;generalize ((s[k].toNat:Nat):Int)=c;generalize decide (c≥97)=b1;generalize decide (c≤122)=b2;generalize decide (c≥65)=b3;generalize decide (c≤90)=b4;generalize (c != 95)=b5;generalize decide (c < 48)=b6;generalize decide (c > 57)=b7;generalize (k == 0)=b0;cases b0 <;> cases b1 <;> cases b2 <;> cases b3 <;> cases b4 <;> cases b5 <;> cases b6 <;> cases b7 <;> rfl
    ·split at h'
     ·cases h'
     ·cases h'; simp)
   (fun b _=>by
    unfold zg;simp only [aI,cond_false]) N true 0 (aaF _) (by unfold eQ at hN; omega) rfl
  have adf:aA (V:=Int) (X:=Bool ⊕ Unit) (zg N s) N 0=_:=key;simp only [adf,aag,acD,Qm];cases nF true s <;> rfl
theorem Ki {b:Bool} {c:Int} (h:128≤c):vn b c=true:=by
 unfold vn;have h1:decide (c≤90)=false:=by simp; omega
 have h2:decide (c≤122)=false:=by simp; omega
 have h3:(c != 95)=true:=by simp; omega
 have h4:decide (c > 57)=true:=by simp; omega
 rw [h1,h2,h3,h4];cases b <;> simp
theorem Qo {N:Nat} (hN:eQ N) (s:List UInt8):WM N s=some (mI s):=by
 rw [WO,TQ];simp only [aag];unfold mI;cases BK:Kh s with
 |false=>rfl
 |true=>
  have hl:=of_decide_eq_true (show decide (s.length≠0∧s.length≤24)=true from BK);simp only [abL,cond_false,abp];have key:=kM (rd:=yY N) s (fun (p:Nat) k=>(s,(k:Int))) (fun p (c:UInt8)=>if vn (p == 0) (c.toNat:Int) then (.inr (p+(dE s p).2):Nat ⊕ Nat) else .inl (p+1)) (fun p=>.inl (s,(p:Int))) (fun p=>.inr (false,s,(p:Int))) (fun p k=>p=k)
   (fun p k hk hp=>by
    subst hp;refine ⟨?_,fun s' h'=>?_⟩
    ·have e2:((p:Int) == 0)=(p == 0):=by cases p <;> simp; omega
     have e3:Nat.blt p s.length=true:=Nat.ble_eq_true_of_le hk;obtain ⟨r1,r2⟩:=VO s p hk;unfold yY;simp only [aah,e3,cond_true,e2];have main:∀ (n:Nat) (c:Int),(((bif (decide (c≥65)) then (bif (decide (c≤90)) then (some (true,s,(((p+n):Nat):Int))) else (bif (decide (c≥97)) then (some ((decide (c≤122)),s,(((p+n):Nat):Int))) else (some (false,s,(((p+n):Nat):Int))))) else (bif (decide (c≥97)) then (some ((decide (c≤122)),s,(((p+n):Nat):Int))) else (some (false,s,(((p+n):Nat):Int))))):Option ((Bool × (List UInt8) × Int))).bind fun o3=>(((bif (!o3.1) then (bif (p == 0) then (some (true,o3.2.1,(((toNat o3.2.2):Nat):Int))) else (bif (c != 95) then (bif (decide (c < 48)) then (some (true,o3.2.1,(((toNat o3.2.2):Nat):Int))) else (some ((decide (c > 57)),o3.2.1,(((toNat o3.2.2):Nat):Int)))) else (some (false,o3.2.1,(((toNat o3.2.2):Nat):Int))))) else (some (false,o3.2.1,(((toNat o3.2.2):Nat):Int)))):Option ((Bool × (List UInt8) × Int))).bind fun o4=>(bif o4.1 then (some (Sum.inr (Sum.inr (false,o4.2.1,(((toNat o4.2.2):Nat):Int)))):Option (((List UInt8) × Int) ⊕ (((List UInt8) × Int) ⊕ (Bool × (List UInt8) × Int)))) else (some (Sum.inl (o4.2.1,(((toNat o4.2.2):Nat):Int))))))) =
       some (bif vn (p == 0) c then Sum.inr (Sum.inr (false,s,((p+n:Nat):Int))) else Sum.inl (s,((p+n:Nat):Int))):=by
      intro n c;unfold vn;generalize decide (c≥97)=b1;generalize decide (c≤122)=b2;generalize decide (c≥65)=b3;generalize decide (c≤90)=b4;generalize (c != 95)=b5;generalize decide (c < 48)=b6;generalize decide (c > 57)=b7;generalize (p == 0)=b0;cases b0 <;> cases b1 <;> cases b2 <;> cases b3 <;> cases b4 <;> cases b5 <;> cases b6 <;> cases b7 <;> rfl
     rw [main];by_cases akG:s[p].toNat < 128
     ·rw [r1 akG];by_cases hb:vn (p == 0) (s[p].toNat:Int)=true
      ·simp [hb]
      ·have oh:vn (p == 0) (s[p].toNat:Int)=false:=by simpa using hb
       simp [oh]
     ·have h1:=Ki (b:=p == 0) (c:=((dE s p).1:Int)) (by have:=r2 (by omega); omega);have h2:=Ki (b:=p == 0) (c:=(s[p].toNat:Int)) (by omega);rw [h1,if_pos h2];rfl
    ·split at h'
     ·cases h'
     ·cases h'; rfl)
   (fun p hp=>by
    subst hp;unfold yY;have e3:Nat.blt s.length s.length=false:=by
     cases hb:Nat.blt s.length s.length with
     |false=>rfl
     |true=>have:=Nat.le_of_ble_eq_true hb; omega
    simp only [aah,e3,cond_false]) N 0 0 (aaF _) (by unfold eQ at hN; omega) rfl
  have adf:aA (V:=(List UInt8) × Int) (X:=((List UInt8) × Int) ⊕ (Bool × (List UInt8) × Int)) (yY N) N (s,((0:Nat):Int))=_:=key;rw [adf];simp only [aag,acD];have gen:∀ (l:List UInt8) (p:Nat) (first:Bool),first=(p == 0)→Sum.elim (fun _=>true) (fun _=>false) (foldI (fun (p:Nat) (c:UInt8)=>if vn (p == 0) (c.toNat:Int) then (.inr (p+(dE s p).2):Nat ⊕ Nat) else .inl (p+1)) p l)=nF first l:=by
   intro l
   induction l with
   |nil=>intro p first _; rfl
   |cons c l ih=>
    intro p first hf
    subst hf;simp only [foldI,nF];by_cases h:vn (p == 0) (c.toNat:Int)=true
    ·simp [h]
    ·have h':vn (p == 0) (c.toNat:Int)=false:=by simpa using h
     simp only [h',Bool.false_eq_true,if_false,abS,acC,abp];exact ih (p+1) false (by simp)
  have g:=gen s 0 true rfl;revert g;cases foldI (fun (p:Nat) (c:UInt8)=>if vn (p == 0) (c.toNat:Int) then (.inr (p+(dE s p).2):Nat ⊕ Nat) else .inl (p+1)) 0 s with
  |inl p=>intro g; simp only [abS] at g ⊢; rw [← g]
  |inr p=>intro g; simp only [acX] at g ⊢; rw [← g]
end Go.Proofs.YtegoimldbgdeiaaGreat
namespace Go.Proofs.YtegoimldbgdeiaaGreat
open Go Go.Am
open List (map)
open Int (toNat)
open Go.IntKind (wrap)
open Go.Am.aM (fits)
set_option maxRecDepth 100000
theorem akH (l:List Int) {k:Nat} (hk:k < l.length):d29 (af (map n29 l) k)=l[k]∧fits Ol (af (map n29 l) k)=true:=by
 rw [gb n29 l k hk]; exact ⟨rfl,rfl⟩
theorem vR {N:Nat} (hN:eQ N) (l:List Int) (hl:l.length≤9223372036854775806):US N l=some (b9 l):=by
 obtain ⟨o,h1,h2⟩:=D5 (rd:=HO N l) l (fun k hk=>by
  obtain ⟨e1,e2⟩:=akH l hk;simp only [HO,aaa,aah,e1,e2,aS (show k < 9223372036854775807 by omega),ar hk,ah hk,aak,cond_true];by_cases hz:l[k]=0
  ·simp [hz]
  ·simp [hz,Bool.cond_eq_ite]) (by simp only [HO,aaa,aI,cond_false]) N (by unfold eQ at hN; omega)
 rw [abg,h1,aag];rcases o with o|o
 ·simpa using h2
 ·simpa using h2
theorem Nf {N:Nat} (hN:eQ N) (l:List Int) (hl:l.length≤9223372036854775806):Xl N l=some (b9 l):=by
 obtain ⟨o,h1,h2⟩:=D5 (rd:=Co N l) l (fun k hk=>by
  obtain ⟨e1,e2⟩:=Iq l hk;simp only [Co,aaa,aah,e1,e2,aS (show k < 9223372036854775807 by omega),ar hk,ah hk,aak,cond_true];by_cases hz:l[k]=0
  ·simp [hz]
  ·simp [hz,Bool.cond_eq_ite]) (by simp only [Co,aaa,aI,cond_false]) N (by unfold eQ at hN; omega)
 rw [Xn,h1,aag];rcases o with o|o
 ·simpa using h2
 ·simpa using h2
theorem zu (N:Nat) (b:Bool) (e:Int):MQ N (b,e)=some (if b then e else 0):=by
 rw [abh]; cases b <;> rfl
theorem XB (N:Nat) (n lo hi:Int):T97 N (n,lo,hi)=some (QZ n lo hi):=by
 rw [abj];simp only [zu];unfold QZ;by_cases h1:n < lo
 ·simp [h1]
 ·by_cases h2:n > hi <;> simp [h1,h2]
theorem TS (N:Nat) (n lo hi:Int):TA N (n,lo,hi)=some (QZ n lo hi):=by
 rw [Xp];unfold QZ;by_cases h1:n < lo
 ·simp [h1]
 ·by_cases h2:n > hi <;> simp [h1,h2]
section
variable {N:Nat} (hN:eQ N)
include hN
end
end Go.Proofs.YtegoimldbgdeiaaGreat
namespace Go.Proofs.YtegoimldbgdeiaaGreat
open Go Go.Am
open List (map)
open Int (toNat)
open Go.IntKind (wrap)
open Go.Am.aM (fits)
set_option maxRecDepth 100000
theorem zv (l:List xG) {k:Nat} (hk:k < l.length):d92 (af (map qW l) k)=l[k]∧fits By (af (map qW l) k)=true:=by
 rw [gb qW l k hk,akm,akl]; exact ⟨rfl,rfl⟩
theorem Ng (l:List oN) {k:Nat} (hk:k < l.length):d79 (af (map Q6 l) k)=l[k]∧fits Na (af (map Q6 l) k)=true:=by
 rw [gb Q6 l k hk]; exact ⟨rfl,rfl⟩
theorem adg (l:List (Int × Int)) {k:Nat} (hk:k < l.length):d94 (af (map UX l) k)=l[k]∧fits p94 (af (map UX l) k)=true:=by
 rw [gb UX l k hk]; exact ⟨rfl,rfl⟩
theorem Zy (l:List (Int × Int)) {k:Nat} (hk:k < l.length):d132 (af (map n132 l) k)=l[k]∧fits BW (af (map n132 l) k)=true:=by
 rw [gb n132 l k hk]; exact ⟨rfl,rfl⟩
theorem agJ:∀ l:List (Int × Int),aT (map UX l) (map UX l)=true
 |[]=>rfl
 |x :: l=>by
  rw [abK,aT,agJ l];show (aT [AV.int .i64 x.1,AV.int .i64 x.2] [AV.int .i64 x.1,AV.int .i64 x.2]&&true)=true;simp [aT,fy,xK]
theorem TT:∀ l:List xG,aT (map qW l) (map qW l)=true
 |[]=>rfl
 |x :: l=>by
  rw [abK,aT,TT l];have e:aT (map UX x.2) (map UX x.2)=true:=agJ x.2;show (aT [AV.str x.1,AV.list .iu 2 (map UX x.2)] [AV.str x.1,AV.list .iu 2 (map UX x.2)]&&true)=true;simp only [aT,fy,xK,e,beq_self_eq_true,Nat.beq_refl,aak]
theorem TU:∀ l:List oN,aT (map Q6 l) (map Q6 l)=true
 |[]=>rfl
 |x :: l=>by
  rw [abK,aT,TU l];show (aT [AV.int .i64 x.1,AV.int .i64 x.2.1,AV.int .i64 x.2.2.1,AV.int .i64 x.2.2.2.1,AV.bool x.2.2.2.2] [AV.int .i64 x.1,AV.int .i64 x.2.1,AV.int .i64 x.2.2.1,AV.int .i64 x.2.2.2.1,AV.bool x.2.2.2.2]&&true)=true;simp [aT,fy,xK]
theorem zw {α:Type} (f:α→AV) (l:List α) (k:Nat):qH 0 k (map f l)=map f (l.take k):=by simp [qH,List.map_take]
theorem zx {k n:Nat} (h:k≤n):decide ((0:Int)≤(k:Int)∧(k:Int)≤(n:Int))=true:=by simp; omega
def eK (t:bk) (e:Int × Int):Bool:=decide (0≤e.1)&&(decide (e.1 < (t.1.length:Int))&&(decide (0≤e.2)&&decide (e.2 < (kh t e.1:Int))))
def It (t:bk) (e:Int × Int):Int × Int:=((t.1.getD e.1.toNat ([],[])).2).getD e.2.toNat (0,0)
theorem pO (t:bk) {k:Nat} (hk:k < t.1.length):kh t (k:Int)=t.1[k].2.length:=by
 unfold kh;rw [aah,aaG,aar hk]; rfl
theorem Nh (t:bk) {k:Nat} (hk:k < t.1.length) {i:Nat} (hi:i < t.1[k].2.length):It t ((k:Int),(i:Int))=t.1[k].2[i]:=by
 unfold It;rw [aah,aah,aaG,aaG,aar hk];show (t.1[k].2[i]?).getD (0,0)=_;rw [aar hi]; rfl
theorem Cr {t:bk} {e:Int × Int} (h:eK t e=true):∃ k i:Nat,e=((k:Int),(i:Int))∧∃ hk:k < t.1.length,i < t.1[k].2.length:=by
 unfold eK at h;simp only [ac0,decide_eq_true_eq] at h;obtain ⟨h1,h2,h3,h4⟩:=h;refine ⟨e.1.toNat,e.2.toNat,ade (by omega) (by omega),by omega,?_⟩;have hk:e.1.toNat < t.1.length:=by omega
 have:=pO t hk;rw [show ((e.1.toNat:Nat):Int)=e.1 by omega] at this;omega
theorem OO (N:Nat) (t:bk) (e:Int × Int):T44 N (t,e)=some (eK t e):=by
 obtain ⟨p,s⟩:=e;rw [acv];unfold eK;dsimp only;by_cases h1:0≤p
 ·obtain ⟨k,rfl⟩:∃ k:Nat,p=(k:Int):=⟨p.toNat,by omega⟩;by_cases h2:k < t.1.length
  ·obtain ⟨a1,a2⟩:=zv t.1 h2;rw [pO t h2];simp only [aaa,aah,a1,a2,ah h2,ar h2,aak,cond_true,ge_iff_le,decide_eq_true h1,abp];by_cases h3:0≤s
   ·rw [decide_eq_true h3]; rfl
   ·rw [decide_eq_false h3]; rfl
  ·have d:decide ((k:Int) < (t.1.length:Int))=false:=by simp; omega
   simp only [aaa,d,ge_iff_le,decide_eq_true h1,cond_true,cond_false,abp,acJ,aag]
 ·simp only [ge_iff_le,decide_eq_false h1,cond_false,acJ,aag]
theorem OP (N:Nat) (t:bk) (e:Int × Int):T85 N (t,e)=some (eK t e):=by
 obtain ⟨p,s⟩:=e;rw [abl];unfold eK;dsimp only;by_cases h1:0≤p
 ·obtain ⟨k,rfl⟩:∃ k:Nat,p=(k:Int):=⟨p.toNat,by omega⟩;by_cases h2:k < t.1.length
  ·obtain ⟨a1,a2⟩:=tM t.1 h2;rw [pO t h2];simp only [aaa,aah,a1,a2,ah h2,ar h2,aak,cond_true,ge_iff_le,decide_eq_true h1,abp];by_cases h3:0≤s
   ·rw [decide_eq_true h3]; rfl
   ·rw [decide_eq_false h3]; rfl
  ·have d:decide ((k:Int) < (t.1.length:Int))=false:=by simp; omega
   simp only [aaa,d,ge_iff_le,decide_eq_true h1,cond_true,cond_false,abp,acJ,aag]
 ·simp only [ge_iff_le,decide_eq_false h1,cond_false,acJ,aag]
theorem Kj (N:Nat) (t:bk) (e:Int × Int) (h:eK t e=true):T69 N (t,e)=some (It t e):=by
 obtain ⟨k,i,rfl,hk,hi⟩:=Cr h;obtain ⟨a1,a2⟩:=zv t.1 hk;obtain ⟨b1,b2⟩:=adg t.1[k].2 hi;rw [acx,Nh t hk hi];simp only [aaa,aah,a1,a2,b1,b2,ah hk,ah hi,aak,cond_true]
theorem Kk (N:Nat) (t:bk) (e:Int × Int) (h:eK t e=true):T88 N (t,e)=some (It t e):=by
 obtain ⟨k,i,rfl,hk,hi⟩:=Cr h;obtain ⟨a1,a2⟩:=tM t.1 hk;obtain ⟨b1,b2⟩:=Zy t.1[k].2 hi;rw [abn,Nh t hk hi];simp only [aaa,aah,a1,a2,b1,b2,ah hk,ah hi,aak,cond_true]
def mJ (a b:Int × Int):Bool:=(a.1 == b.1)&&(a.2 == b.2)
theorem EE (a b c d:Int):((a == c)&&(b == d))=mJ (a,b) (c,d):=rfl
theorem gS (a b c d:Int):((a == c)&&((b == d)&&true))=mJ (a,b) (c,d):=by rw [aaq]; rfl
theorem eO {a b:Int × Int}:mJ a b=true↔a=b:=by
 unfold mJ;rw [ac0,beq_iff_eq,beq_iff_eq];exact ⟨fun h=>ade h.1 h.2,fun h=>by rw [h]; exact ⟨rfl,rfl⟩⟩
theorem sw (a b:Int × Int):mJ a b=mJ b a:=by
 apply Bool.eq_iff_iff.2;rw [eO,eO];exact ⟨fun h=>h.symm,fun h=>h.symm⟩
def pP (s:Int × Int):Int:=b9 [QZ s.1 1 10000,QZ s.2 (-100000) 100000]
def wP (b:List xG) (x:xG):Int:=
 if mI x.1=false then 8 else if (b.any fun y=>y.1 == x.1)=true then 9 else if x.2.length < 3∨x.2.length > 8 then 2 else b9 (x.2.map pP)
def H4 (s x:oN):Bool:=mJ (x.1,x.2.1) (s.1,s.2.1) || (mJ (x.1,x.2.1) (s.2.2.1,s.2.2.2.1) || (mJ (x.2.2.1,x.2.2.2.1) (s.1,s.2.1) || mJ (x.2.2.1,x.2.2.2.1) (s.2.2.1,s.2.2.2.1)))
def TV (a b:Int):Bool:=decide (a > wrap .i64 (2 * b)) || decide (b > wrap .i64 (2 * a))
def sx (t:bk) (b:List oN) (s:oN):Int:=
 if (eK t (s.1,s.2.1)&&eK t (s.2.2.1,s.2.2.2.1))=false then 10 else
  if mJ (s.1,s.2.1) (s.2.2.1,s.2.2.2.1)=true then 9 else if (b.any (H4 s))=true then 9 else
   if TV (It t (s.1,s.2.1)).1 (It t (s.2.2.1,s.2.2.2.1)).1=true then 24 else 0
def pQ (l:List xG):Int:=b9 (l.mapIdx fun k x=>wP (l.take k) x)
def zy (t:bk):Int:=b9 (t.2.mapIdx fun k s=>sx t (t.2.take k) s)
def iO (t:bk):Int:=
 if t.1.length=0 then 12 else if t.1.length > 16 then 5 else if pQ t.1≠0 then pQ t.1 else if t.2.length > 64 then 5 else zy t
theorem qA {α:Type} (q:α→Bool) (c:Int) (hc:c≠0):∀ l:List α,b9 (l.map fun y=>if q y=true then c else 0)=if l.any q=true then c else 0
 |[]=>rfl
 |y :: l=>by
  rw [abK,List.any_cons];unfold b9;rw [qA q c hc l];cases q y with
  |true=>simp [hc]
  |false=>simp
theorem OQ {c:Int} (hc:c≠0) (b:Bool):(if (if b=true then c else 0)=0 then .inr () else .inl (if b=true then c else 0):Int ⊕ Unit)=if b=true then .inl c else .inr ():=by
 cases b with
 |true=>rw [if_pos rfl,if_neg hc]; rfl
 |false=>rfl
section
variable {N:Nat} (hN:eQ N)
include hN
theorem Qp (l:List xG) (k:Nat) (hk:k < l.length) (hl:l.length≤1000000):aA (Es N l (k:Int)) N 0=some (if ((l.take k).any fun y=>y.1 == l[k].1)=true then .inl 9 else .inr ()):=by
 have key:=iR (rd:=Es N l (k:Int)) ((l.take k).map fun y=>if (y.1 == l[k].1)=true then (9:Int) else 0) (fun j hj=>by
  rw [aaa,aas] at hj;have hj1:j < k:=by omega
  have hj2:j < l.length:=by omega
  obtain ⟨a1,a2⟩:=zv l hj2;obtain ⟨b1,b2⟩:=zv l hk;simp only [Es,aaa,aah,a1,a2,b1,b2,ar hj1,ah hj2,ah hk,aak,cond_true,aS (show j < 9223372036854775807 by omega),abz,List.getElem_take];cases l[j].1 == l[k].1 <;> rfl) (by
   have e:((l.take k).map fun y=>if (y.1 == l[k].1)=true then (9:Int) else 0).length=k:=by rw [aaa,aas]; omega
   rw [e];simp only [Es,aI,cond_false]) N (by rw [aaa,aas]; unfold eQ at hN; omega)
 rw [key,qA _ 9 (by decide)];cases (l.take k).any fun y=>y.1 == l[k].1 <;> rfl
theorem Qq (l:List xG) (k:Nat) (hk:k < l.length) (hl:l[k].2.length≤1000000):aA (zi N l (k:Int)) N 0=some (if b9 (l[k].2.map pP)=0 then .inr () else .inl (b9 (l[k].2.map pP))):=by
 obtain ⟨b1,b2⟩:=zv l hk;exact iR (rd:=zi N l (k:Int)) (l[k].2.map pP) (fun j hj=>by
  rw [aaa] at hj;obtain ⟨a1,a2⟩:=adg l[k].2 hj;have ex:∀ x y:Int,(bif (allFit (fits p3) [(AV.int .i64 x),(AV.int .i64 y)]&&true) then some (map d3 [(AV.int .i64 x),(AV.int .i64 y)]) else none:Option (List Int))=some [x,y]:=fun x y=>rfl
  simp only [zi,aaa,aah,a1,a2,b1,b2,ar hj,ah hj,ah hk,aak,cond_true,aS (show j < 9223372036854775807 by omega),abz,TS,aag,beq_self_eq_true,ex,Nf hN _ (show [QZ l[k].2[j].1 1 10000,QZ l[k].2[j].2 (-100000) 100000].length≤9223372036854775806 by simp)];show (bif pP l[k].2[j] != 0 then _ else _)=_;by_cases hz:pP l[k].2[j]=0
  ·rw [hz]; rfl
  ·rw [P7 hz,if_neg hz]; rfl) (by
   simp only [zi,aaa,aah,b1,b2,ah hk,aak,cond_true,aI,cond_false]) N (by rw [aaa]; unfold eQ at hN; omega)
theorem adh (l:List xG) (k:Nat) (hk:k < l.length) (hl:l.length≤1000000):T64 N (l,(k:Int))=some (wP (l.take k) l[k]):=by
 obtain ⟨b1,b2⟩:=zv l hk;rw [acE];unfold wP;simp only [aaa,aah,b1,b2,ah hk,aak,cond_true,Qn hN,aag,Qp hN l k hk hl];cases hn:mI l[k].1 with
 |false=>rfl
 |true=>
  cases ha:(l.take k).any fun y=>y.1 == l[k].1 with
  |true=>rfl
  |false=>
   rw [if_neg (by decide),if_neg (by decide),if_neg (by decide)];by_cases h3:l[k].2.length < 3
   ·have d:decide (((l[k].2.length:Nat):Int) < 3)=true:=by simp; omega
    rw [d,if_pos (.inl h3)]; rfl
   ·have d:decide (((l[k].2.length:Nat):Int) < 3)=false:=by simp; omega
    by_cases h8:l[k].2.length > 8
    ·have d':decide (((l[k].2.length:Nat):Int) > 8)=true:=by simp; omega
     rw [d,d',if_pos (.inr h8)]; rfl
    ·have d':decide (((l[k].2.length:Nat):Int) > 8)=false:=by simp; omega
     rw [d,d',if_neg (by omega),Qq hN l k hk (by omega)];by_cases hz:b9 (l[k].2.map pP)=0
     ·rw [if_pos hz,hz]; rfl
     ·rw [if_neg hz]; rfl
theorem adi (t:bk) (b:List oN) (s:oN) (hb:b.length≤1000000):T48 N (t,b,s)=some (sx t b s):=by
 have key:=iR (rd:=zh N b s) (b.map fun y=>if H4 s y=true then (9:Int) else 0) (fun j hj=>by
  rw [aaa] at hj;obtain ⟨a1,a2⟩:=Ng b hj;simp only [zh,aaa,aah,a1,a2,ar hj,ah hj,aak,cond_true,aS (show j < 9223372036854775807 by omega),abz,gS];unfold H4;cases mJ (b[j].1,b[j].2.1) (s.1,s.2.1) <;> cases mJ (b[j].1,b[j].2.1) (s.2.2.1,s.2.2.2.1) <;> cases mJ (b[j].2.2.1,b[j].2.2.2.1) (s.1,s.2.1) <;> cases mJ (b[j].2.2.1,b[j].2.2.2.1) (s.2.2.1,s.2.2.2.1) <;> rfl) (by
   rw [aaa]; simp only [zh,aaa,aI,cond_false]) N (by rw [aaa]; unfold eQ at hN; omega)
 rw [qA _ 9 (by decide),OQ (by decide)] at key;have key:aA (zh N b (s.1,s.2.1,s.2.2.1,s.2.2.2.1,s.2.2.2.2)) N 0=_:=key;rw [show T48 N (t,b,s)=T48 N ((t.1,t.2),b,(s.1,s.2.1,s.2.2.1,s.2.2.2.1,s.2.2.2.2)) from rfl,acA];unfold sx;simp only [BZ,B0,Ep,Er,aaq,cond_true,aag,EE,beq_self_eq_true,aak,TT,TU,key];rw [show (t.1,t.2)=t from rfl,OO,OO];simp only [aag];cases h1:eK t (s.1,s.2.1) with
 |false=>rfl
 |true=>
  cases h2:eK t (s.2.2.1,s.2.2.2.1) with
  |false=>rfl
  |true=>
   simp only [abL,cond_false,aag,aak,reduceCtorEq,if_false];rw [Kj N t _ h1,Kj N t _ h2];cases h3:mJ (s.1,s.2.1) (s.2.2.1,s.2.2.2.1) with
   |true=>rfl
   |false=>
    cases h4:b.any (H4 s) with
    |true=>rfl
    |false=>
     unfold TV;simp only [aag,acX,eO.2 rfl,cond_true,cond_false,reduceCtorEq,if_false];cases decide ((It t (s.1,s.2.1)).1 > wrap .i64 (2 * (It t (s.2.2.1,s.2.2.2.1)).1)) with
     |true=>rfl
     |false=>cases decide ((It t (s.2.2.1,s.2.2.2.1)).1 > wrap .i64 (2 * (It t (s.1,s.2.1)).1)) <;> rfl
theorem adj (t:bk) (b:List oN) (s:oN) (hb:b.length≤1000000):T89 N (t,s,b)=some (sx t b s):=by
 have key:=iR (rd:=Ei N s b) (b.map fun y=>if H4 s y=true then (9:Int) else 0) (fun j hj=>by
  rw [aaa] at hj;obtain ⟨a1,a2⟩:=Bv b hj;simp only [Ei,aaa,aah,a1,a2,ar hj,ah hj,aak,cond_true,aS (show j < 9223372036854775807 by omega),abz,gS];unfold H4;rw [sw (s.1,s.2.1) (b[j].1,b[j].2.1),sw (s.1,s.2.1) (b[j].2.2.1,b[j].2.2.2.1),sw (s.2.2.1,s.2.2.2.1) (b[j].1,b[j].2.1),sw (s.2.2.1,s.2.2.2.1) (b[j].2.2.1,b[j].2.2.2.1)];cases mJ (b[j].1,b[j].2.1) (s.1,s.2.1) <;> cases mJ (b[j].1,b[j].2.1) (s.2.2.1,s.2.2.2.1) <;> cases mJ (b[j].2.2.1,b[j].2.2.2.1) (s.1,s.2.1) <;> cases mJ (b[j].2.2.1,b[j].2.2.2.1) (s.2.2.1,s.2.2.2.1) <;> rfl) (by
   rw [aaa]; simp only [Ei,aaa,aI,cond_false]) N (by rw [aaa]; unfold eQ at hN; omega)
 rw [qA _ 9 (by decide),OQ (by decide)] at key;have key:aA (Ei N (s.1,s.2.1,s.2.2.1,s.2.2.2.1,s.2.2.2.2) b) N 0=_:=key;have ex:∀ x y:Int,(bif (allFit (fits Ol) [(AV.int .i64 x),(AV.int .i64 y)]) then some (map d29 [(AV.int .i64 x),(AV.int .i64 y)]) else none:Option (List Int))=some [x,y]:=fun x y=>rfl
 rw [show T89 N (t,s,b)=T89 N ((t.1,t.2),(s.1,s.2.1,s.2.2.1,s.2.2.2.1,s.2.2.2.2),b) from rfl,abQ];unfold sx;simp only [bT,bU,cg,cj,aaq,cond_true,aag,EE,beq_self_eq_true,aak,Oz,OA,key,zu,ex];rw [show (t.1,t.2)=t from rfl,OP,OP];simp only [aag];cases h1:eK t (s.1,s.2.1) with
 |false=>rfl
 |true=>
  cases h2:eK t (s.2.2.1,s.2.2.2.1) with
  |false=>rfl
  |true=>
   simp only [abL,cond_false,aag,aak,reduceCtorEq,if_false];rw [Kk N t _ h1,Kk N t _ h2];cases h4:b.any (H4 s) with
   |true=>
    cases h3:mJ (s.1,s.2.1) (s.2.2.1,s.2.2.2.1) <;> rfl
   |false=>
    unfold TV;simp only [aag,acX,eO.2 rfl,cond_true,cond_false,reduceCtorEq,if_false,vR hN [_,_] (show 2≤9223372036854775806 by omega)];cases mJ (s.1,s.2.1) (s.2.2.1,s.2.2.2.1) <;> cases decide ((It t (s.1,s.2.1)).1 > wrap .i64 (2 * (It t (s.2.2.1,s.2.2.2.1)).1)) <;> cases decide ((It t (s.2.2.1,s.2.2.2.1)).1 > wrap .i64 (2 * (It t (s.1,s.2.1)).1)) <;> rfl
end
end Go.Proofs.YtegoimldbgdeiaaGreat
namespace Go.Proofs.YtegoimldbgdeiaaGreat
open Go Go.Am
open List (map)
open Int (toNat)
open Go.IntKind (wrap)
open Go.Am.aM (fits)
set_option maxRecDepth 100000
theorem Kl {V X:Type} {rd:V→Option (V ⊕ X)} (l:List Int) (E:Nat→V) (ex:Int→X) (fin:X)
  (h:∀ k (hk:k < l.length),rd (E k)=some (if l[k]=0 then .inl (E (k+1)) else .inr (ex l[k]))) (h0:rd (E l.length)=some (.inr fin)) (n:Nat) (hn:l.length < n) :
  aA rd n (E 0)=some (if b9 l=0 then fin else ex (b9 l)):=by
 have key:=kM (rd:=rd) (S:=Unit) (Y:=Int) l (fun _ k=>E k) (fun _ x=>if x=0 then .inl () else .inr x) (fun _=>fin) ex (fun _ _=>True)
  (fun s k hk _=>⟨by rw [h k hk]; by_cases e:l[k]=0 <;> simp [e],fun _ _=>trivial⟩) (fun _ _=>h0) n () 0 (aaF _) (by omega) trivial
 rw [acD] at key;refine key.trans (congrArg some ?_);clear key h h0 hn
 induction l with
 |nil=>rfl
 |cons x l ih=>
  simp only [foldI,b9];by_cases e:x=0
  ·simp only [e,if_true,abS]; exact ih
  ·simp [e]
theorem GA {α:Type} (q:α→Bool):∀ (l:List α) (s:Nat),(l.any q=true∧∃ i:Nat,foldI (fun (s:Nat) x=>if q x=true then .inr s else .inl (s+1)) s l=(.inr i:Nat ⊕ Nat))∨(l.any q=false∧∃ i:Nat,foldI (fun (s:Nat) x=>if q x=true then .inr s else .inl (s+1)) s l=(.inl i:Nat ⊕ Nat))
 |[],s=>.inr ⟨rfl,s,rfl⟩
 |x :: l,s=>by
  rw [List.any_cons];unfold foldI;cases h:q x with
  |true=>exact .inl ⟨rfl,s,rfl⟩
  |false=>
   simp only [Bool.false_or,reduceCtorEq,if_false,abS];exact GA q l (s+1)
section
variable {N:Nat} (hN:eQ N)
include hN
theorem adk (t:bk):T14 N t=some (iO t):=by
 rw [acG];unfold iO;simp only [aaa];by_cases h0:t.1.length=0
 ·rw [show (((t.1.length:Nat):Int) == 0)=true by simp [h0],if_pos h0]; rfl
 ·rw [show (((t.1.length:Nat):Int) == 0)=false by simp; exact fun h=>h0 (by rw [h]; rfl),if_neg h0];by_cases h1:t.1.length > 16
  ·have d:decide (((t.1.length:Nat):Int) > 16)=true:=by simp; omega
   rw [d,if_pos h1]; rfl
  ·have d:decide (((t.1.length:Nat):Int) > 16)=false:=by simp; omega
   rw [d,if_neg h1];have k1:=iR (rd:=zj N t) (t.1.mapIdx fun k x=>wP (t.1.take k) x) (fun j hj=>by
    rw [List.length_mapIdx] at hj;simp only [zj,aaa,BZ,B0,aaq,cond_true,aag,ar hj,adh hN t.1 j hj (by omega),aS (show j < 9223372036854775807 by omega),List.getElem_mapIdx];by_cases hz:wP (t.1.take j) t.1[j]=0
    ·rw [hz]; rfl
    ·rw [P7 hz,if_neg hz]; rfl) (by
     rw [List.length_mapIdx]; simp only [zj,aaa,aI,cond_false]) N (by rw [List.length_mapIdx]; unfold eQ at hN; omega)
   have k1:aA (zj N t) N 0=some (if pQ t.1=0 then .inr () else .inl (pQ t.1)):=k1;rw [k1];by_cases h2:pQ t.1=0
   ·rw [if_pos h2,if_neg (show ¬ pQ t.1≠0 from fun h=>h h2)];simp only [cond_false,aag,acX];by_cases h3:t.2.length > 64
    ·have d:decide (((t.2.length:Nat):Int) > 64)=true:=by simp; omega
     rw [d,if_pos h3]; rfl
    ·have d:decide (((t.2.length:Nat):Int) > 64)=false:=by simp; omega
     rw [d,if_neg h3];have k2:=iR (rd:=zk N t) (t.2.mapIdx fun k s=>sx t (t.2.take k) s) (fun j hj=>by
      rw [List.length_mapIdx] at hj;obtain ⟨a1,a2⟩:=Ng t.2 hj;have q:T48 N ((t.1,t.2),t.2.take j,(t.2[j].1,t.2[j].2.1,t.2[j].2.2.1,t.2[j].2.2.2.1,t.2[j].2.2.2.2))=some (sx t (t.2.take j) t.2[j]):=adi hN t (t.2.take j) t.2[j] (by rw [aas]; omega);simp only [zk,aaa,aah,zw,a1,a2,BZ,B0,Ep,Er,aaq,aak,cond_true,aag,ar hj,ah hj,zx (adL hj),q,aS (show j < 9223372036854775807 by omega),List.getElem_mapIdx];by_cases hz:sx t (t.2.take j) t.2[j]=0
      ·rw [hz]; rfl
      ·rw [P7 hz,if_neg hz]; rfl) (by
       rw [List.length_mapIdx]; simp only [zk,aaa,aI,cond_false]) N (by rw [List.length_mapIdx]; unfold eQ at hN; omega)
     have k2:aA (zk N t) N 0=some (if zy t=0 then .inr () else .inl (zy t)):=k2;rw [k2];by_cases h4:zy t=0
     ·rw [if_pos h4,h4]; rfl
     ·rw [if_neg h4]; rfl
   ·rw [if_neg h2,if_pos h2]; rfl
theorem Qr (l:List xG) (k:Nat) (hk:k < l.length) (hl:l.length≤1000000) (nm:List UInt8) (sd:List (Int × Int)) :
  ∃ o,aA (pI N l (k:Int)) N (0,nm,sd)=some o∧((((l.take k).any fun y=>y.1 == nm)=true∧∃ i:Nat,o=.inl ((i:Int),nm,sd))∨(((l.take k).any fun y=>y.1 == nm)=false∧o=.inr (nm,sd))):=by
 have ht:(l.take k).length=k:=by rw [aas]; omega
 have key:=kM (rd:=pI N l (k:Int)) (S:=Nat) (Y:=Nat) (l.take k) (fun _ j=>((j:Int),nm,sd)) (fun s x=>if (x.1 == nm)=true then .inr s else .inl (s+1)) (fun _=>.inr (nm,sd)) (fun i=>.inl ((i:Int),nm,sd)) (fun s j=>s=j)
  (fun s j hj hs=>by
   subst hs;refine ⟨?_,fun s' U8=>by split at U8 <;> simp_all⟩;obtain ⟨a1,a2⟩:=tM (l.take k) hj;rw [ht] at hj;simp only [pI,aaa,aah,zw,a1,a2,ht,ar hj,ah hj,aak,aaq,cond_true,D7,D8,aag,aS (show s < 9223372036854775807 by omega)];cases (l.take k)[s].1 == nm <;> rfl)
  (fun s hs=>by
   rw [ht];simp only [pI,aaa,aah,zw,ht,aI,cond_false,aaq,cond_true,D7,D8,aag]) N 0 0 (aaF _) (by rw [ht]; unfold eQ at hN; omega) rfl
 refine ⟨_,key,?_⟩;rw [acD];rcases GA (fun y:xG=>y.1 == nm) (l.take k) 0 with ⟨h,i,e⟩|⟨h,i,e⟩
 ·exact .inl ⟨h,i,by rw [e]; rfl⟩
 ·exact .inr ⟨h,by rw [e]; rfl⟩
theorem Qs (y:Int) (nm:List UInt8) (sd:List (Int × Int)) (hl:sd.length≤1000000):aA (r8 N (y,nm,sd)) N (0,nm,sd)=some (if b9 (sd.map pP)=0 then .inr (nm,sd) else .inl (b9 (sd.map pP),nm,sd)):=by
 exact Kl (rd:=r8 N (y,nm,sd)) (sd.map pP) (fun j=>((j:Int),nm,sd)) (fun e=>.inl (e,nm,sd)) (.inr (nm,sd)) (fun j hj=>by
  rw [aaa] at hj;obtain ⟨a1,a2⟩:=Zy sd hj;have ex:∀ x y:Int,(bif (allFit (fits Ol) [(AV.int .i64 x),(AV.int .i64 y)]) then some (map d29 [(AV.int .i64 x),(AV.int .i64 y)]) else none:Option (List Int))=some [x,y]:=fun x y=>rfl
  simp only [r8,aaa,aah,a1,a2,ar hj,ah hj,aak,aaq,cond_true,D7,D8,aS (show j < 9223372036854775807 by omega),abz,XB,aag,beq_self_eq_true,ex,vR hN _ (show [QZ sd[j].1 1 10000,QZ sd[j].2 (-100000) 100000].length≤9223372036854775806 by simp)];show (bif pP sd[j] != 0 then _ else _)=_;by_cases hz:pP sd[j]=0
  ·rw [hz]; rfl
  ·rw [P7 hz,if_neg hz]; rfl) (by
   simp only [r8,aaa,aI,cond_false,D7,D8,aaq,cond_true,aag]) N (by rw [aaa]; unfold eQ at hN; omega)
theorem XC (l:List xG) (hl:l.length≤1000000):T98 N l=some (pQ l):=by
 rw [abM];have key:=iR (rd:=HU N l) (l.mapIdx fun k x=>wP (l.take k) x) (fun k hk=>by
  rw [List.length_mapIdx] at hk;obtain ⟨a1,a2⟩:=tM l hk;obtain ⟨o,ho,hc⟩:=Qr hN l k hk hl l[k].1 l[k].2;have ex:∀ x y z:Int,(bif (allFit (fits Ol) [(AV.int .i64 x),(AV.int .i64 y),(AV.int .i64 z)]) then some (map d29 [(AV.int .i64 x),(AV.int .i64 y),(AV.int .i64 z)]) else none:Option (List Int))=some [x,y,z]:=fun x y z=>rfl
  have hm:∃ c:Int,(decide (c≥0))=((l.take k).any fun y=>y.1 == l[k].1)∧∀ (F:(Int × List UInt8 × List (Int × Int))→Option (Int ⊕ (Int ⊕ Unit))),((Sum.elim (fun qY=>(some (qY.1,qY.2.1,qY.2.2):Option (Int × List UInt8 × List (Int × Int)))) (fun uZ=>some ((-1:Int),uZ.1,uZ.2)) o).bind F)=F (c,l[k].1,l[k].2):=by
   rcases hc with ⟨h,i,rfl⟩|⟨h,rfl⟩
   ·exact ⟨(i:Int),by rw [h]; simp,fun F=>rfl⟩
   ·exact ⟨-1,by rw [h]; simp,fun F=>rfl⟩
  obtain ⟨c,Vq,Jc⟩:=hm;simp only [HU,aaa,aah,a1,a2,ar hk,ah hk,zx (adL hk),aak,aaq,cond_true,D7,D8,aag,ho,Jc,Qo hN,S5,beq_self_eq_true,zu,Vq,ex,aS (show k < 9223372036854775807 by omega),List.getElem_mapIdx];have e1:∀ z:Int,US N [if (!mI l[k].1)=true then 8 else 0,if ((l.take k).any fun y=>y.1 == l[k].1)=true then 9 else 0,z]=some (if mI l[k].1=false then 8 else if ((l.take k).any fun y=>y.1 == l[k].1)=true then 9 else z):=fun z=>by
   rw [vR hN [_,_,_] (show 3≤9223372036854775806 by omega)];cases mI l[k].1 <;> cases (l.take k).any fun y=>y.1 == l[k].1
   ·rfl
   ·rfl
   ·show some (b9 [0,0,z])=some z;unfold b9 b9 b9 b9;by_cases hz:z=0
    ·rw [hz]; rfl
    ·simp [hz]
   ·rfl
  simp only [e1,aag,if_true];unfold wP;have e2:∀ F:(Int × List UInt8 × List (Int × Int))→Option (Int ⊕ (Int ⊕ Unit)),((bif decide (((l[k].2.length:Nat):Int) < 3) then (some ((if mI l[k].1=false then 8 else if ((l.take k).any fun y=>y.1 == l[k].1)=true then 9 else 2),l[k].1,l[k].2)) else some ((if mI l[k].1=false then 8 else if ((l.take k).any fun y=>y.1 == l[k].1)=true then 9 else if decide (((l[k].2.length:Nat):Int) > 8)=true then 2 else 0),l[k].1,l[k].2):Option (Int × List UInt8 × List (Int × Int))).bind F)=F ((if mI l[k].1=false then 8 else if ((l.take k).any fun y=>y.1 == l[k].1)=true then 9 else if l[k].2.length < 3∨l[k].2.length > 8 then 2 else 0),l[k].1,l[k].2):=fun F=>by
   by_cases h3:l[k].2.length < 3
   ·have d:decide (((l[k].2.length:Nat):Int) < 3)=true:=by simp; omega
    rw [d,if_pos (show l[k].2.length < 3∨l[k].2.length > 8 from .inl h3)]; rfl
   ·have d:decide (((l[k].2.length:Nat):Int) < 3)=false:=by simp; omega
    rw [d];by_cases h8:l[k].2.length > 8
    ·have d':decide (((l[k].2.length:Nat):Int) > 8)=true:=by simp; omega
     rw [d',if_pos (show l[k].2.length < 3∨l[k].2.length > 8 from .inr h8)]; rfl
    ·have d':decide (((l[k].2.length:Nat):Int) > 8)=false:=by simp; omega
     rw [d',if_neg (show ¬ (l[k].2.length < 3∨l[k].2.length > 8) by omega)]; rfl
  rw [e2];cases mI l[k].1 with
  |false=>rfl
  |true=>
   cases (l.take k).any fun y=>y.1 == l[k].1 with
   |true=>rfl
   |false=>
    simp only [reduceCtorEq,if_false];by_cases h3:l[k].2.length < 3∨l[k].2.length > 8
    ·rw [if_pos h3,if_pos h3]; rfl
    ·rw [if_neg h3,if_neg h3,Qs hN 0 l[k].1 l[k].2 (by omega)];by_cases hz:b9 (l[k].2.map pP)=0
     ·rw [if_pos hz,hz]; rfl
     ·rw [if_neg hz,if_neg hz]; rfl) (by
   rw [List.length_mapIdx]; simp only [HU,aaa,aI,cond_false]) N (by rw [List.length_mapIdx]; unfold eQ at hN; omega)
 rw [key];unfold pQ;by_cases hz:b9 (l.mapIdx fun k x=>wP (l.take k) x)=0
 ·rw [if_pos hz,hz]; rfl
 ·rw [if_neg hz]; rfl
theorem AH (t:bk):OD N t=some (iO t):=by
 rw [show OD N t=OD N (t.1,t.2) from rfl,abT];unfold iO;obtain ⟨m,hm,hm1,hm2⟩:∃ m:Nat,(if (16:Int) < ((t.1.length:Nat):Int) then (16:Int) else ((t.1.length:Nat):Int))=(m:Int)∧m≤t.1.length∧(t.1.length≤16→m=t.1.length):=by
  by_cases h:t.1.length > 16
  ·exact ⟨16,if_pos (by omega),by omega,by omega⟩
  ·exact ⟨t.1.length,if_neg (by omega),Nat.le_refl _,fun _=>rfl⟩
 have hm3:m≤16:=by
  by_cases h:t.1.length > 16
  ·rw [if_pos (by omega)] at hm; omega
  ·omega
 have ht:(t.1.take m).length≤1000000:=by rw [aas]; omega
 have ex:∀ x y z u:Int,(bif (allFit (fits Ol) [(AV.int .i64 x),(AV.int .i64 y),(AV.int .i64 z),(AV.int .i64 u)]) then some (map d29 [(AV.int .i64 x),(AV.int .i64 y),(AV.int .i64 z),(AV.int .i64 u)]) else none:Option (List Int))=some [x,y,z,u]:=fun x y z u=>rfl
 simp only [aaa,hm,aah,zx hm1,zw,zu,beq_self_eq_true,Oz,OA,aaq,aak,cond_true,aag,bT,bU,XC hN _ ht,ex,vR hN [_,_,_,_] (show 4≤9223372036854775806 by omega)];by_cases h0:t.1.length=0
 ·rw [show (((t.1.length:Nat):Int) == 0)=true by simp [h0],if_pos h0]; rfl
 ·rw [show (((t.1.length:Nat):Int) == 0)=false by simp; exact fun h=>h0 (by rw [h]; rfl),if_neg h0];by_cases h1:t.1.length > 16
  ·have d:decide (((t.1.length:Nat):Int) > 16)=true:=by simp; omega
   rw [d,if_pos h1]; rfl
  ·have d:decide (((t.1.length:Nat):Int) > 16)=false:=by simp; omega
   rw [d,if_neg h1,hm2 (by omega),abv];by_cases h2:pQ t.1=0
   ·rw [h2,if_neg (show ¬ ((0:Int)≠0) by decide)];by_cases h3:t.2.length > 64
    ·have d:decide (((t.2.length:Nat):Int) > 64)=true:=by simp; omega
     rw [d,if_pos h3]; rfl
    ·have d:decide (((t.2.length:Nat):Int) > 64)=false:=by simp; omega
     rw [d,if_neg h3];have k2:=iR (rd:=Ej N t) (t.2.mapIdx fun k s=>sx t (t.2.take k) s) (fun j hj=>by
      rw [List.length_mapIdx] at hj;obtain ⟨a1,a2⟩:=Bv t.2 hj;have q:T89 N ((t.1,t.2),(t.2[j].1,t.2[j].2.1,t.2[j].2.2.1,t.2[j].2.2.2.1,t.2[j].2.2.2.2),t.2.take j)=some (sx t (t.2.take j) t.2[j]):=adj hN t (t.2.take j) t.2[j] (by rw [aas]; omega);simp only [Ej,aaa,aah,zw,a1,a2,bT,bU,cg,cj,aaq,aak,cond_true,aag,ar hj,ah hj,zx (adL hj),q,aS (show j < 9223372036854775807 by omega),List.getElem_mapIdx];by_cases hz:sx t (t.2.take j) t.2[j]=0
      ·rw [hz]; rfl
      ·rw [P7 hz,if_neg hz]; rfl) (by
       rw [List.length_mapIdx]; simp only [Ej,aaa,aI,cond_false]) N (by rw [List.length_mapIdx]; unfold eQ at hN; omega)
     have k2:aA (Ej N (t.1,t.2)) N 0=some (if zy t=0 then .inr () else .inl (zy t)):=k2;rw [k2];by_cases h4:zy t=0
     ·rw [if_pos h4,h4]; rfl
     ·rw [if_neg h4]; rfl
   ·rw [if_pos (show pQ t.1≠0 from h2)];have ef:∀ z:Int,b9 [if false=true then 12 else 0,if false=true then 5 else 0,pQ t.1,z]=pQ t.1:=fun z=>by
     show b9 [0,0,pQ t.1,z]=_;simp [b9,h2]
    rw [ef,P7 h2]; rfl
omit hN in
theorem Km {t:bk} (h:iO t=0):t.1.length≠0∧t.1.length≤16∧pQ t.1=0∧t.2.length≤64∧zy t=0:=by
 unfold iO at h;split at h
 ·cases h
 ·split at h
  ·cases h
  ·split at h
   ·contradiction
   ·split at h
    ·cases h
    ·refine ⟨by assumption,by omega,by omega,by omega,h⟩
end
end Go.Proofs.YtegoimldbgdeiaaGreat
namespace Go.Proofs.YtegoimldbgdeiaaGreat
open Go Go.Am
open List (map)
open Int (toNat)
open Go.IntKind (wrap)
open Go.Am.aM (fits)
set_option maxRecDepth 100000
theorem xB {V X α:Type} {rd:V→Option (V ⊕ X)} (l:List α) (q:α→Bool) (E:Nat→V) (ex:Nat→X) (fin:X)
  (h:∀ k (hk:k < l.length),rd (E k)=some (if q l[k]=true then .inr (ex k) else .inl (E (k+1)))) (h0:rd (E l.length)=some (.inr fin)) (n:Nat) (hn:l.length < n) :
  aA rd n (E 0)=some (match l.findIdx? q with | some i=>ex i | none=>fin):=by
 cases hf:l.findIdx? q with
 |none=>
  rw [List.findIdx?_eq_none_iff] at hf;exact aF (rd:=rd) l.length E fin (fun k hk=>by rw [h k hk,hf _ (abA hk)]; rfl) h0 n 0 (aaF _) (by omega)
 |some i=>
  rw [List.findIdx?_eq_some_iff_getElem] at hf;obtain ⟨hi,h1,h2⟩:=hf;exact aF (rd:=rd) i E (ex i) (fun k hk=>by
   rw [h k (by omega),if_neg (h2 k hk)]) (by rw [h i hi,if_pos h1]) n 0 (aaF _) (by omega)
def EF (e:Int × Int) (s:oN):Bool:=mJ (s.1,s.2.1) e || mJ (s.2.2.1,s.2.2.2.1) e
def qB (t:bk) (e:Int × Int):Option Nat:=t.2.findIdx? (EF e)
def wq (s:oN) (e:Int × Int):Int × Int:=if mJ (s.1,s.2.1) e=true then (s.2.2.1,s.2.2.2.1) else (s.1,s.2.1)
def fm (t:bk) (i:Nat):oN:=t.2.getD i (0,0,0,0,false)
def Kn (t:bk) (e:Int × Int):(Int × Int) × Int × Bool:=match qB t e with | some i=>(wq (fm t i) e,(i:Int),true) | none=>((0,0),0,false)
def Ko (t:bk) (e:Int × Int):(Int × Int) × Bool × Bool:=match qB t e with | some i=>(wq (fm t i) e,(fm t i).2.2.2.2,true) | none=>((0,0),false,false)
def bf (t:bk):List (Int × Int):=(cn t).filter fun e=>(qB t e).isNone
theorem lU (t:bk) {i:Nat} (hi:i < t.2.length):fm t i=t.2[i]:=by
 unfold fm; rw [aaG,aar hi]; rfl
theorem Kp {t:bk} {e:Int × Int} {i:Nat} (h:qB t e=some i):∃ hi:i < t.2.length,EF e t.2[i]=true:=by
 unfold qB at h;rw [List.findIdx?_eq_some_iff_getElem] at h;obtain ⟨hi,h1,_⟩:=h;exact ⟨hi,h1⟩
section
variable {N:Nat} (hN:eQ N)
include hN
theorem GB (t:bk) (e:Int × Int) (ht:t.2.length≤1000000):HV N (t,e)=some (Kn t e):=by
 have key:=xB (rd:=yZ N t e) t.2 (EF e) (fun k=>((k:Int),(0:Int),(0:Int))) (fun k=>.inl ((k:Int),true,(wq (fm t k) e).1,(wq (fm t k) e).2)) (.inr (0,0)) (fun k hk=>by
  obtain ⟨a1,a2⟩:=Bv t.2 hk;simp only [yZ,aaa,aah,a1,a2,ar hk,ah hk,aak,cond_true,gS,aS (show k < 9223372036854775807 by omega),lU t hk];unfold EF wq;rw [sw (e.1,e.2) (t.2[k].1,t.2[k].2.1),sw (e.1,e.2) (t.2[k].2.2.1,t.2[k].2.2.2.1),show (e.1,e.2)=e from rfl];cases mJ (t.2[k].1,t.2[k].2.1) e with
  |true=>rfl
  |false=>cases mJ (t.2[k].2.2.1,t.2[k].2.2.2.1) e <;> rfl) (by
  simp only [yZ,aaa,aI,cond_false]) N (by unfold eQ at hN; omega)
 rw [show HV N (t,e)=HV N ((t.1,t.2),e) from rfl,WR];have key:aA (yZ N (t.1,t.2) e) N (0,0,0)=_:=key;rw [key];unfold Kn qB;cases t.2.findIdx? (EF e) <;> rfl
theorem GC (t:bk) (e:Int × Int) (ht:t.2.length≤1000000):H0 N (t,e)=some (Ko t e):=by
 have key:=xB (rd:=zl N t e) t.2 (EF e) (fun k=>((k:Int),(0:Int),(0:Int))) (fun k=>.inl ((fm t k).2.2.2.2,true,(wq (fm t k) e).1,(wq (fm t k) e).2)) (.inr (0,0)) (fun k hk=>by
  obtain ⟨a1,a2⟩:=Ng t.2 hk;simp only [zl,aaa,aah,a1,a2,ar hk,ah hk,aak,cond_true,gS,beq_self_eq_true,aS (show k < 9223372036854775807 by omega),lU t hk];unfold EF wq;rw [show (e.1,e.2)=e from rfl];cases mJ (t.2[k].1,t.2[k].2.1) e with
  |true=>rfl
  |false=>cases mJ (t.2[k].2.2.1,t.2[k].2.2.2.1) e <;> rfl) (by
  simp only [zl,aaa,aI,cond_false]) N (by unfold eQ at hN; omega)
 rw [show H0 N (t,e)=H0 N ((t.1,t.2),e) from rfl,Xq];have key:aA (zl N (t.1,t.2) e) N (0,0,0)=_:=key;rw [key];unfold Ko qB;cases t.2.findIdx? (EF e) <;> rfl
omit hN in
theorem TW (l:List (Int × Int)) (a b:Int):map BY l++[AV.agg [AV.int .i64 a,AV.int .i64 b]]=map BY (l++[(a,b)]):=by rw [abN]; rfl
omit hN in
theorem GD {α:Type} (q:α→Bool) (l:List α) (x:α):(l++[x]).filter q=if q x=true then l.filter q++[x] else l.filter q:=by
 rw [acR];cases h:q x <;> simp [h]
omit hN in
theorem EG (p k:Nat):eg p (k+1)=eg p k++[((p:Int),(k:Int))]:=by unfold eg; rw [List.range_succ,abN]; rfl
omit hN in
theorem GF (p k:Nat):(eg p k).length=k:=by simp [eg]
theorem TX (t:bk) (p:Nat) (hp:p < t.1.length) (hs:t.1[p].2.length≤1000) (ht:t.2.length≤1000000) (acc:List (Int × Int)) (ha:acc.length≤1000000) :
  aA (lR N ((p:Int),t.1,t.2,acc,t.1,t.2)) N (0,t.1,t.2,acc,t.1,t.2)=some (t.1,t.2,acc++(eg p t.1[p].2.length).filter (fun e=>(qB t e).isNone),t.1,t.2):=by
 obtain ⟨a1,a2⟩:=tM t.1 hp;have key:=aF (rd:=lR N ((p:Int),t.1,t.2,acc,t.1,t.2)) t.1[p].2.length (fun k=>((k:Int),t.1,t.2,acc++(eg p k).filter (fun e=>(qB t e).isNone),t.1,t.2)) (t.1,t.2,acc++(eg p t.1[p].2.length).filter (fun e=>(qB t e).isNone),t.1,t.2) (fun k hk=>by
  have cl:(acc++(eg p k).filter (fun e=>(qB t e).isNone)).length≤acc.length+k:=by
   rw [abO];have:=abx (fun e=>(qB t e).isNone) (eg p k);rw [GF] at this;omega
  have q:=GB hN t ((p:Int),(k:Int)) ht;have q:HV N ((t.1,t.2),((p:Int),(k:Int)))=_:=q;have d2:decide (((acc++(eg p k).filter (fun e=>(qB t e).isNone)).length+1) * 16≤140737488355328)=true:=decide_eq_true (by omega);simp only [lR,qV,mR,aaa,aah,a1,ar hk,bT,bU,cg,cj,fC,fD,aS (show k < 9223372036854775807 by omega),aak,aaq,cond_true,aag,eq_self,decide_true,q,d2,HT];rw [EG,GD];unfold Kn;cases hm:qB t ((p:Int),(k:Int)) with
  |none=>simp only [Option.isNone_none,if_true,acU,acC,cond_true,aag,abO,abt,abY,eq_self,decide_true,Nat.add_assoc,abR]
  |some i=>simp only [Option.isNone_some,reduceCtorEq,if_false,abL,cond_false,aag,eq_self,decide_true,cond_true]) (by
  simp only [lR,qV,mR,aaa,aah,a1,aI,bT,bU,cg,cj,fC,fD,aak,aaq,cond_true,cond_false,aag,eq_self,decide_true]) N 0 (aaF _) (by unfold eQ at hN; omega)
 have e0:acc++(eg p 0).filter (fun e=>(qB t e).isNone)=acc:=by simp [eg]
 rw [e0] at key;exact key
theorem Kq (t:bk) (h:t.1.length≤1000) (hs:∀ x∈t.1,x.2.length≤1000) (ht:t.2.length≤1000000):Q5 N t=some (bf t):=by
 have key:=aF (rd:=oO N t) t.1.length (fun k=>((k:Int),t.1,t.2,(gk (t.1.take k) 0).filter (fun e=>(qB t e).isNone),t.1,t.2)) (t.1,t.2,bf t,t.1,t.2) (fun k hk=>by
  obtain ⟨a1,a2⟩:=tM t.1 hk;have hc:=mz (t.1.take k) 0 fun x hx=>hs x (adp hx)
  have hf:=abx (fun e=>(qB t e).isNone) (gk (t.1.take k) 0);have Pr:(t.1.take k).length=k:=by rw [aas]; omega
  rw [Pr] at hc;have q:=TX hN t k hk (hs _ (abA hk)) ht ((gk (t.1.take k) 0).filter (fun e=>(qB t e).isNone)) (by omega);have es:(gk (t.1.take (k+1)) 0).filter (fun e=>(qB t e).isNone)=(gk (t.1.take k) 0).filter (fun e=>(qB t e).isNone)++(eg k t.1[k].2.length).filter (fun e=>(qB t e).isNone):=by
   rw [abw,aar hk];show (gk (t.1.take k++[t.1[k]]) 0).filter _=_;rw [tv,Pr,abR,acR]
  simp only [oO,aaa,aah,ar hk,ah hk,a2,q,← es,bT,bU,cg,cj,fC,fD,aS (show k < 9223372036854775807 by omega),aak,aaq,cond_true,aag,eq_self,decide_true]) (by
  simp only [oO,aaa,aI,abv,bT,bU,cg,cj,fC,fD,aak,aaq,cond_true,cond_false,aag,eq_self,decide_true];rfl) N 0 (aaF _) (by unfold eQ at hN; omega)
 have key:aA (oO N t) N (0,t.1,t.2,[],t.1,t.2)=_:=key;rw [show Q5 N t=Q5 N (t.1,t.2) from rfl,abV];have key:aA (oO N (t.1,t.2)) N (0,t.1,t.2,[],t.1,t.2)=_:=key;simp only [bT,bU,cg,cj,fC,fD,MZ,M0,aak,aaq,cond_true,aag];rw [show decide (0=(map n100 ([]:List (Int × Int))).length)=true from rfl];simp only [cond_true,aag,key]
omit hN in
theorem agL:allFit (fits M7) ([]:List AV)=true:=rfl
omit hN in
theorem agM:map d77 ([]:List AV)=[]:=rfl
theorem TY (t:bk) (p:Nat) (hp:p < t.1.length) (hs:t.1[p].2.length≤1000) (ht:t.2.length≤1000000) (acc:List (Int × Int)) (ha:acc.length≤1000000) :
  aA (vh N t (acc,(p:Int))) N (acc,0)=some (acc++(eg p t.1[p].2.length).filter (fun e=>(qB t e).isNone)):=by
 obtain ⟨a1,a2⟩:=zv t.1 hp;have key:=aF (rd:=vh N t (acc,(p:Int))) t.1[p].2.length (fun k=>(acc++(eg p k).filter (fun e=>(qB t e).isNone),(k:Int))) (acc++(eg p t.1[p].2.length).filter (fun e=>(qB t e).isNone)) (fun k hk=>by
  have cl:(acc++(eg p k).filter (fun e=>(qB t e).isNone)).length≤acc.length+k:=by
   rw [abO];have:=abx (fun e=>(qB t e).isNone) (eg p k);rw [GF] at this;omega
  have q:=GC hN t ((p:Int),(k:Int)) ht;have q:H0 N ((t.1,t.2),((p:Int),(k:Int)))=_:=q;have d2:decide (((acc++(eg p k).filter (fun e=>(qB t e).isNone)).length+1) * 16≤140737488355328)=true:=decide_eq_true (by omega);simp only [vh,aaa,aah,a1,a2,ah hp,ar hk,BZ,B0,Ep,Er,M8,M9,aS (show k < 9223372036854775807 by omega),aak,aaq,cond_true,aag,eq_self,decide_true,q,d2,TW];rw [EG,GD];unfold Ko;cases hm:qB t ((p:Int),(k:Int)) with
  |none=>simp only [Option.isNone_none,if_true,acU,acC,cond_true,aag,abO,abt,abY,eq_self,decide_true,Nat.add_assoc,abR]
  |some i=>simp only [Option.isNone_some,reduceCtorEq,if_false,abL,cond_false,aag,eq_self,decide_true,cond_true]) (by
  simp only [vh,aaa,aah,a1,a2,ah hp,aI,M8,M9,aak,aaq,cond_true,cond_false,aag,eq_self,decide_true]) N 0 (aaF _) (by unfold eQ at hN; omega)
 have e0:acc++(eg p 0).filter (fun e=>(qB t e).isNone)=acc:=by simp [eg]
 rw [e0] at key;exact key
theorem Kr (t:bk) (h:t.1.length≤1000) (hs:∀ x∈t.1,x.2.length≤1000) (ht:t.2.length≤1000000):Xr N t=some (bf t):=by
 have key:=aF (rd:=Et N t) t.1.length (fun k=>((gk (t.1.take k) 0).filter (fun e=>(qB t e).isNone),(k:Int))) (bf t) (fun k hk=>by
  obtain ⟨a1,a2⟩:=zv t.1 hk;have hc:=mz (t.1.take k) 0 fun x hx=>hs x (adp hx)
  have hf:=abx (fun e=>(qB t e).isNone) (gk (t.1.take k) 0);have Pr:(t.1.take k).length=k:=by rw [aas]; omega
  rw [Pr] at hc;have q:=TY hN t k hk (hs _ (abA hk)) ht ((gk (t.1.take k) 0).filter (fun e=>(qB t e).isNone)) (by omega);have es:(gk (t.1.take (k+1)) 0).filter (fun e=>(qB t e).isNone)=(gk (t.1.take k) 0).filter (fun e=>(qB t e).isNone)++(eg k t.1[k].2.length).filter (fun e=>(qB t e).isNone):=by
   rw [abw,aar hk];show (gk (t.1.take k++[t.1[k]]) 0).filter _=_;rw [tv,Pr,abR,acR]
  simp only [Et,aaa,aah,ar hk,q,← es,M8,M9,aS (show k < 9223372036854775807 by omega),aak,aaq,cond_true,aag,eq_self,decide_true]) (by
  simp only [Et,aaa,aI,abv,M8,M9,aak,aaq,cond_true,cond_false,aag,eq_self,decide_true];rfl) N 0 (aaF _) (by unfold eQ at hN; omega)
 have key:aA (Et N (t.1,t.2)) N ([],0)=_:=key;rw [show Xr N t=Xr N (t.1,t.2) from rfl,acI];simp only [M8,M9,agL,agM,aaq,cond_true,aag];rw [show decide (0=(map BY ([]:List (Int × Int))).length)=true from rfl];simp only [cond_true,aag,key]
omit hN in
theorem XD (l:List (Int × Int)) (a b:Int):map n132 l++[AV.agg [AV.int .i64 a,AV.int .i64 b]]=map n132 (l++[(a,b)]):=by rw [abN]; rfl
omit hN in
theorem XE (l:List xG) (x:List UInt8) (s:List (Int × Int)):map n131 l++[AV.agg [AV.str x,AV.list .iu 2 (map n132 s)]]=map n131 (l++[(x,s)]):=by rw [abN]; rfl
omit hN in
theorem XF (l:List oN) (a b c d:Int) (w:Bool):map n110 l++[AV.agg [AV.int .i64 a,AV.int .i64 b,AV.int .i64 c,AV.int .i64 d,AV.bool w]]=map n110 (l++[(a,b,c,d,w)]):=by rw [abN]; rfl
omit hN in
theorem adl:allFit (fits BW) ([]:List AV)=true∧map d132 ([]:List AV)=[]∧(map n132 ([]:List (Int × Int))).length=0:=⟨rfl,rfl,rfl⟩
omit hN in
theorem adm:allFit (fits pz) ([]:List AV)=true∧map d131 ([]:List AV)=[]∧(map n131 ([]:List xG)).length=0:=⟨rfl,rfl,rfl⟩
omit hN in
theorem adn:allFit (fits py) ([]:List AV)=true∧map d110 ([]:List AV)=[]∧(map n110 ([]:List oN)).length=0:=⟨rfl,rfl,rfl⟩
theorem TZ (t:bk) (p:Nat) (hp:p < t.1.length) (hs:t.1[p].2.length≤1000) (acc:List xG) (nm:List UInt8) :
  aA (sh N t ((p:Int),acc,())) N (0,nm,[])=some (nm,t.1[p].2):=by
 obtain ⟨a1,a2⟩:=zv t.1 hp;have key:=aF (rd:=sh N t ((p:Int),acc,())) t.1[p].2.length (fun k=>((k:Int),nm,t.1[p].2.take k)) (nm,t.1[p].2) (fun k hk=>by
  obtain ⟨b1,b2⟩:=adg t.1[p].2 hk;have ht:(t.1[p].2.take k).length=k:=by rw [aas]; omega
  have wh:(t.1[p].2.take (k+1)).length=k+1:=by rw [aas]; omega
  have d2:decide ((k+1) * 16≤140737488355328)=true:=decide_eq_true (by omega);have es:t.1[p].2.take k++[(t.1[p].2[k].1,t.1[p].2[k].2)]=t.1[p].2.take (k+1):=by rw [abw,aar hk]; rfl
  simp only [sh,aaa,aah,a1,b1,b2,ar hk,ah hk,ht,wh,d2,XD,es,D7,D8,aS (show k < 9223372036854775807 by omega),aak,aaq,cond_true,aag,eq_self,decide_true]) (by
  simp only [sh,aaa,aah,a1,aI,abv,D7,D8,aak,aaq,cond_true,cond_false,aag,eq_self,decide_true]) N 0 (aaF _) (by unfold eQ at hN; omega)
 exact key
theorem T0 (t:bk) (h:t.1.length≤1000) (hs:∀ x∈t.1,x.2.length≤1000):aA (Eu N t) N (0,[],())=some (t.1,()):=by
 have key:=aF (rd:=Eu N t) t.1.length (fun k=>((k:Int),t.1.take k,())) (t.1,()) (fun k hk=>by
  obtain ⟨a1,a2⟩:=zv t.1 hk;have ht:(t.1.take k).length=k:=by rw [aas]; omega
  have wh:(t.1.take (k+1)).length=k+1:=by rw [aas]; omega
  have d2:decide ((k+1) * 40≤140737488355328)=true:=decide_eq_true (by omega);have es:t.1.take k++[(t.1[k].1,t.1[k].2)]=t.1.take (k+1):=by rw [abw,aar hk]; rfl
  have q:=TZ hN t k hk (hs _ (abA hk)) (t.1.take k) t.1[k].1;simp only [Eu,aaa,aah,a1,a2,ar hk,ah hk,ht,wh,d2,q,XE,es,bT,bU,adl,aS (show k < 9223372036854775807 by omega),aak,aaq,cond_true,aag,eq_self,decide_true,abY]) (by
  simp only [Eu,aaa,aI,abv,bT,bU,aak,aaq,cond_true,cond_false,aag,eq_self,decide_true]) N 0 (aaF _) (by unfold eQ at hN; omega)
 exact key
theorem Qt (t:bk) (h:t.2.length≤1000000) (l:List xG):aA (zo N t) N (0,l,[])=some (l,t.2):=by
 have key:=aF (rd:=zo N t) t.2.length (fun k=>((k:Int),l,t.2.take k)) (l,t.2) (fun k hk=>by
  obtain ⟨a1,a2⟩:=Ng t.2 hk;have ht:(t.2.take k).length=k:=by rw [aas]; omega
  have wh:(t.2.take (k+1)).length=k+1:=by rw [aas]; omega
  have d2:decide ((k+1) * 40≤140737488355328)=true:=decide_eq_true (by omega);have es:t.2.take k++[(t.2[k].1,t.2[k].2.1,t.2[k].2.2.1,t.2[k].2.2.2.1,t.2[k].2.2.2.2)]=t.2.take (k+1):=by rw [abw,aar hk]; rfl
  simp only [zo,zn,aaa,aah,a1,a2,ar hk,ah hk,ht,wh,d2,XF,es,bT,bU,cg,cj,aS (show k < 9223372036854775807 by omega),aak,aaq,cond_true,aag,eq_self,decide_true]) (by
  simp only [zo,zn,aaa,aI,abv,bT,bU,cg,cj,aak,aaq,cond_true,cond_false,aag,eq_self,decide_true]) N 0 (aaF _) (by unfold eQ at hN; omega)
 exact key
theorem XG (t:bk) (h:t.1.length≤1000) (hs:∀ x∈t.1,x.2.length≤1000) (h2:t.2.length≤1000000):T11 N t=some t:=by
 rw [acL];simp only [bT,bU,cg,cj,adm,adn,aaa,abY,T0 hN t h hs,Qt hN t h2,aak,aaq,cond_true,aag,eq_self,decide_true]
theorem T1 (t:bk) (a:Int):∃ b,T9 N (t,a)=some b∧(b=true→t.1.length≤18∧t.2.length≤66∧∀ x∈t.1,x.2.length≤10):=by
 rw [agt];simp only [aaa];have o1:∃ c:Bool,((bif (decide (((t.1.length:Nat):Int) > a)) then (bif (decide (((t.1.length:Nat):Int)≤16)) then (some true) else (bif (decide (((t.1.length:Nat):Int) > 18)) then (some true) else (bif (decide (((t.2.length:Nat):Int) > 12)) then (bif (decide (((t.2.length:Nat):Int)≤64)) then (some true) else (some (decide (((t.2.length:Nat):Int) > 66)))) else (some (decide (((t.2.length:Nat):Int) > 66)))))) else (bif (decide (((t.1.length:Nat):Int) > 18)) then (some true) else (bif (decide (((t.2.length:Nat):Int) > 12)) then (bif (decide (((t.2.length:Nat):Int)≤64)) then (some true) else (some (decide (((t.2.length:Nat):Int) > 66)))) else (some (decide (((t.2.length:Nat):Int) > 66)))))):Option Bool)=some c∧(c=false→t.1.length≤18∧t.2.length≤66):=by
  by_cases c1:((t.1.length:Nat):Int) > a <;> by_cases c2:((t.1.length:Nat):Int)≤16 <;> by_cases c3:((t.1.length:Nat):Int) > 18 <;> by_cases c4:((t.2.length:Nat):Int) > 12 <;> by_cases c5:((t.2.length:Nat):Int)≤64 <;> by_cases c6:((t.2.length:Nat):Int) > 66 <;>
   simp only [c1,c2,c3,c4,c5,c6,decide_true,decide_false,cond_true,cond_false] <;> exact ⟨_,rfl,fun h=>by first | (cases h; done) | omega⟩
 obtain ⟨c,hc,Jc⟩:=o1;rw [hc];simp only [aag];cases c with
 |true=>exact ⟨false,rfl,fun h=>by cases h⟩
 |false=>
  obtain ⟨h1,h2⟩:=Jc rfl;have key:=xB (rd:=Kc N t) t.1 (fun x=>decide (x.1.length > 60) || decide (x.2.length > 10)) (fun k=>(k:Int)) (fun _=>.inl false) (.inr ()) (fun k hk=>by
   obtain ⟨a1,a2⟩:=zv t.1 hk;simp only [Kc,aaa,aah,a1,a2,ar hk,ah hk,aak,cond_true,aS (show k < 9223372036854775807 by omega)];by_cases c1:t.1[k].1.length > 60
   ·have d:decide (((t.1[k].1.length:Nat):Int) > 60)=true:=by simp; omega
    rw [d,decide_eq_true c1]; rfl
   ·have d:decide (((t.1[k].1.length:Nat):Int) > 60)=false:=by simp; omega
    rw [d,decide_eq_false c1];by_cases c2:t.1[k].2.length > 10
    ·have d:decide (((t.1[k].2.length:Nat):Int) > 10)=true:=by simp; omega
     rw [d,decide_eq_true c2]; rfl
    ·have d:decide (((t.1[k].2.length:Nat):Int) > 10)=false:=by simp; omega
     rw [d,decide_eq_false c2]; rfl) (by
   simp only [Kc,aaa,aI,cond_false]) N (by unfold eQ at hN; omega)
  have key:aA (Kc N t) N 0=_:=key;rw [key,cond_false];cases hf:t.1.findIdx? (fun x=>decide (x.1.length > 60) || decide (x.2.length > 10)) with
  |some i=>exact ⟨false,rfl,fun h=>by cases h⟩
  |none=>
   rw [List.findIdx?_eq_none_iff] at hf;refine ⟨true,rfl,fun _=>⟨h1,h2,fun x hx=>?_⟩⟩;have:=hf x hx;simp only [Bool.or_eq_false_iff,decide_eq_false_iff_not] at this;omega
end
end Go.Proofs.YtegoimldbgdeiaaGreat
namespace Go.Proofs.YtegoimldbgdeiaaGreat
set_option maxRecDepth 100000
def sA (s:oN):Int × Int:=(s.1,s.2.1)
def sB (s:oN):Int × Int:=(s.2.2.1,s.2.2.2.1)
def ltE (a b:Int × Int):Prop:=a.1 < b.1∨(a.1=b.1∧a.2 < b.2)
theorem fq {t:bk} {e:Int × Int}:eK t e=true↔0≤e.1∧e.1 < (t.1.length:Int)∧0≤e.2∧e.2 < (kh t e.1:Int):=by
 unfold eK;simp only [ac0,decide_eq_true_eq]
theorem AI:∀ (l:List xG) (p:Nat) (e:Int × Int),e∈gk l p↔∃ k i:Nat,e=(((p+k:Nat):Int),(i:Int))∧∃ hk:k < l.length,i < l[k].2.length
 |[],p,e=>by
  constructor
  ·intro h; cases h
  ·rintro ⟨k,i,_,hk,_⟩; exact absurd hk (Nat.not_lt_zero _)
 |x :: l,p,e=>by
  unfold gk eg;rw [List.mem_append,abu,AI l (p+1) e];constructor
  ·rintro (⟨i,hi,rfl⟩|⟨k,i,rfl,hk,hi⟩)
   ·exact ⟨0,i,rfl,Nat.succ_pos _,acy.1 hi⟩
   ·exact ⟨k+1,i,by rw [show p+1+k=p+(k+1) by omega],Nat.succ_lt_succ hk,hi⟩
  ·rintro ⟨k,i,rfl,hk,hi⟩;cases k with
   |zero=>exact .inl ⟨i,acy.2 hi,rfl⟩
   |succ k=>exact .inr ⟨k,i,by rw [show p+1+k=p+(k+1) by omega],Nat.lt_of_succ_lt_succ hk,hi⟩
theorem agN (t:bk) {k:Nat} (hk:k < t.1.length):kh t (k:Int)=t.1[k].2.length:=by
 unfold kh;rw [aah,aaG,aar hk]; rfl
theorem gT {t:bk} {e:Int × Int}:e∈cn t↔eK t e=true:=by
 unfold cn;rw [AI,fq];constructor
 ·rintro ⟨k,i,rfl,hk,hi⟩;rw [abR];refine ⟨by omega,by omega,by omega,?_⟩;rw [agN t hk]; omega
 ·rintro ⟨h1,h2,h3,h4⟩;have hk:e.1.toNat < t.1.length:=by omega
  have e1:((e.1.toNat:Nat):Int)=e.1:=by omega
  rw [← e1,agN t hk] at h4;exact ⟨e.1.toNat,e.2.toNat,ade (by rw [abR]; exact e1.symm) (by omega),hk,by omega⟩
theorem GG:∀ (l:List xG) (p:Nat),(gk l p).Pairwise ltE
 |[],_=>List.Pairwise.nil
 |x :: l,p=>by
  unfold gk;rw [List.pairwise_append];refine ⟨?_,GG l (p+1),?_⟩
  ·unfold eg;rw [List.pairwise_map];refine List.Pairwise.imp (R:=(· < ·)) ?_ List.pairwise_lt_range;intro a b h;exact .inr ⟨rfl,by show (a:Int) < b; omega⟩
  ·intro a ha b hb;unfold eg at ha;obtain ⟨i,_,rfl⟩:=abu.1 ha;obtain ⟨k,j,rfl,_⟩:=(AI l (p+1) b).1 hb;exact .inl (by show (p:Int) < ((p+1+k:Nat):Int); omega)
theorem Qu (t:bk):(cn t).Pairwise ltE:=GG _ _
theorem ado {a b:Int × Int} (h:ltE a b):a≠b:=by
 intro e;subst e;rcases h with h|⟨_,h⟩ <;> omega
theorem pR (t:bk):(cn t).Nodup:=(Qu t).imp fun h=>ado h
structure Gd (t:bk):Prop where
 E4:∀ p:Int,0≤p→p < (t.1.length:Int)→3≤kh t p∧kh t p≤8
 tV:∀ s∈t.2,eK t (sA s)=true∧eK t (sB s)=true∧sA s≠sB s
 dis:t.2.Pairwise fun s x=>sA s≠sA x∧sA s≠sB x∧sB s≠sA x∧sB s≠sB x
def fP (t:bk) (e:Int × Int):Option ((Int × Int) × Bool):=(qB t e).map fun i=>(wq (fm t i) e,(fm t i).2.2.2.2)
theorem zA {e:Int × Int} {s:oN}:EF e s=true↔sA s=e∨sB s=e:=by
 unfold EF;rw [Bool.or_eq_true,eO,eO]; rfl
theorem agO {α:Type} {R:α→α→Prop} {l:List α} (h:l.Pairwise R) {i j:Nat} (hij:i < j) (hj:j < l.length):R (l[i]'(by omega)) l[j]:=by
 rw [List.pairwise_iff_getElem] at h;exact h i j _ _ hij
theorem fW {t:bk} (g:Gd t) {e o:Int × Int} {w:Bool}:fP t e=some (o,w)↔∃ s∈t.2,s.2.2.2.2=w∧((sA s=e∧sB s=o)∨(sB s=e∧sA s=o)):=by
 unfold fP;constructor
 ·intro h;cases hm:qB t e with
  |none=>rw [hm] at h; cases h
  |some i=>
   rw [hm] at h;obtain ⟨hi,hh⟩:=Kp hm;have h:(wq (fm t i) e,(fm t i).2.2.2.2)=(o,w):=aaN h;rw [lU t hi] at h;injection h with h1 h2;refine ⟨t.2[i],abA hi,h2,?_⟩;unfold wq at h1;rw [zA] at hh;by_cases c:mJ ((t.2[i]).1,(t.2[i]).2.1) e=true
   ·rw [if_pos c] at h1;exact .inl ⟨eO.1 c,h1⟩
   ·rw [if_neg c] at h1;exact .inr ⟨hh.resolve_left fun d=>c (eO.2 d),h1⟩
 ·rintro ⟨s,hs,hw,hh⟩;obtain ⟨j,hj,rfl⟩:=List.getElem_of_mem hs;have hit:EF e t.2[j]=true:=zA.2 (hh.imp And.left And.left);cases hm:qB t e with
  |none=>
   unfold qB at hm;rw [List.findIdx?_eq_none_iff] at hm;rw [hm _ hs] at hit; cases hit
  |some i=>
   have hm2:=hm;unfold qB at hm2;rw [List.findIdx?_eq_some_iff_getElem] at hm2;obtain ⟨hi,h1,h2⟩:=hm2;rw [zA] at h1;have:i=j:=by
    rcases Nat.lt_trichotomy i j with c|c|c
    ·have d:=agO g.dis c hj;rcases h1 with h1|h1 <;> rcases hh with ⟨h3,_⟩|⟨h3,_⟩
     ·exact absurd (h1.trans h3.symm) d.1
     ·exact absurd (h1.trans h3.symm) d.2.1
     ·exact absurd (h1.trans h3.symm) d.2.2.1
     ·exact absurd (h1.trans h3.symm) d.2.2.2
    ·exact c
    ·exact absurd hit (h2 j c)
   subst this;show some (wq (fm t i) e,(fm t i).2.2.2.2)=_;rw [lU t hi,hw];unfold wq;rcases hh with ⟨h3,h4⟩|⟨h3,h4⟩
   ·have c:mJ ((t.2[i]).1,(t.2[i]).2.1) e=true:=eO.2 h3;rw [if_pos c];exact congrArg (fun z=>some (z,w)) h4
   ·have c:¬ mJ ((t.2[i]).1,(t.2[i]).2.1) e=true:=fun c=>(g.tV _ hs).2.2 ((eO.1 c).trans h3.symm)
    rw [if_neg c];exact congrArg (fun z=>some (z,w)) h4
theorem AJ {t:bk} (g:Gd t) {e o:Int × Int} {w:Bool} (h:fP t e=some (o,w)):fP t o=some (e,w):=by
 rw [fW g] at h ⊢;obtain ⟨s,hs,hw,hh⟩:=h;exact ⟨s,hs,hw,hh.symm.imp And.symm And.symm⟩
theorem T2 {t:bk} (g:Gd t) {e:Int × Int} {w:Bool}:fP t e≠some (e,w):=by
 intro h;rw [fW g] at h;obtain ⟨s,hs,_,⟨h1,h2⟩|⟨h1,h2⟩⟩:=h
 ·exact (g.tV s hs).2.2 (h1.trans h2.symm)
 ·exact (g.tV s hs).2.2 (h2.trans h1.symm)
theorem Qv {t:bk} (g:Gd t) {e o:Int × Int} {w:Bool} (h:fP t e=some (o,w)):eK t e=true∧eK t o=true:=by
 rw [fW g] at h;obtain ⟨s,hs,_,⟨h1,h2⟩|⟨h1,h2⟩⟩:=h
 ·rw [← h1,← h2]; exact ⟨(g.tV s hs).1,(g.tV s hs).2.1⟩
 ·rw [← h1,← h2]; exact ⟨(g.tV s hs).2.1,(g.tV s hs).1⟩
abbrev Fl:=(Int × Int) × Bool
def E5 (t:bk) (e:Int × Int):Int × Int:=(e.1,if e.2+1=(kh t e.1:Int) then 0 else e.2+1)
def T3 (t:bk) (e:Int × Int):Int × Int:=(e.1,if e.2=0 then (kh t e.1:Int) - 1 else e.2 - 1)
theorem Cs {t:bk} {e:Int × Int} (h:eK t e=true):eK t (E5 t e)=true:=by
 rw [fq] at h ⊢;obtain ⟨h1,h2,h3,h4⟩:=h;refine ⟨h1,h2,?_,?_⟩ <;> unfold E5 <;> dsimp only <;> split <;> omega
theorem XH {t:bk} {e:Int × Int} (h:eK t e=true):eK t (T3 t e)=true:=by
 rw [fq] at h ⊢;obtain ⟨h1,h2,h3,h4⟩:=h;refine ⟨h1,h2,?_,?_⟩ <;> unfold T3 <;> dsimp only <;> split <;> omega
theorem agP {t:bk} {e:Int × Int} (h:eK t e=true):T3 t (E5 t e)=e:=by
 rw [fq] at h;obtain ⟨h1,h2,h3,h4⟩:=h;refine ade rfl ?_;unfold T3 E5;dsimp only;split <;> split <;> omega
theorem Zz {t:bk} {e:Int × Int} (h:eK t e=true):E5 t (T3 t e)=e:=by
 rw [fq] at h;obtain ⟨h1,h2,h3,h4⟩:=h;refine ade rfl ?_;unfold T3 E5;dsimp only;split <;> split <;> omega
def e7 (t:bk) (h:Fl):Fl:=if h.2=true then (T3 t h.1,false) else (E5 t h.1,true)
def lx (t:bk) (h:Fl):Option Fl:=(fP t h.1).map fun y=>(y.1,h.2 == y.2)
def B1 (h:Fl):Fl:=(h.1,!h.2)
def EH (t:bk) (h:Fl):Fl:=match lx t h with | some y=>y | none=>B1 h
def nG (t:bk) (q:Int→Bool):List Fl:=((cn t).filter fun e=>q e.1).flatMap fun e=>[(e,true),(e,false)]
theorem dW {t:bk} {q:Int→Bool} {h:Fl}:h∈nG t q↔eK t h.1=true∧q h.1.1=true:=by
 unfold nG;rw [List.mem_flatMap];constructor
 ·rintro ⟨e,he,hh⟩;rw [List.mem_filter,gT] at he;simp only [abJ,List.not_mem_nil,or_false] at hh;rcases hh with rfl|rfl <;> exact he
 ·rintro ⟨h1,h2⟩;refine ⟨h.1,List.mem_filter.2 ⟨gT.2 h1,h2⟩,?_⟩;obtain ⟨e,b⟩:=h;cases b <;> simp
theorem Ni {t:bk} {h:Fl} (he:eK t h.1=true):e7 t (e7 t h)=h:=by
 obtain ⟨e,b⟩:=h;cases b
 ·show (T3 t (E5 t e),false)=(e,false);rw [agP he]
 ·show (E5 t (T3 t e),true)=(e,true);rw [Zz he]
theorem H5 (t:bk) (h:Fl):(e7 t h).2=!h.2:=by
 obtain ⟨e,b⟩:=h;cases b <;> rfl
theorem H6 (t:bk) (h:Fl):(e7 t h).1.1=h.1.1:=by
 obtain ⟨e,b⟩:=h;cases b <;> rfl
theorem H7 {t:bk} {h:Fl} (he:eK t h.1=true):eK t (e7 t h).1=true:=by
 obtain ⟨e,b⟩:=h;cases b
 ·exact Cs he
 ·exact XH he
theorem OR {t:bk} (g:Gd t) {h y:Fl} (hm:lx t h=some y):lx t y=some h:=by
 unfold lx at hm ⊢;cases hs:fP t h.1 with
 |none=>rw [hs] at hm; cases hm
 |some z=>
  obtain ⟨o,w⟩:=z;rw [hs] at hm;have hm:(o,h.2 == w)=y:=aaN hm;rw [← hm];show (fP t o).map _=_;rw [AJ g hs];obtain ⟨e,b⟩:=h;show some (e,(b == w) == w)=some (e,b);cases b <;> cases w <;> rfl
theorem T5 {t:bk} (g:Gd t) {h y:Fl} (hm:lx t h=some y):y.1≠h.1:=by
 unfold lx at hm;cases hs:fP t h.1 with
 |none=>rw [hs] at hm; cases hm
 |some z=>
  obtain ⟨o,w⟩:=z;rw [hs] at hm;have hm:(o,h.2 == w)=y:=aaN hm;rw [← hm];intro e;have e:o=h.1:=e;subst e;exact T2 g hs
theorem XI {t:bk} (g:Gd t) {h y:Fl} (hm:lx t h=some y):eK t h.1=true∧eK t y.1=true:=by
 unfold lx at hm;cases hs:fP t h.1 with
 |none=>rw [hs] at hm; cases hm
 |some z=>
  obtain ⟨o,w⟩:=z;rw [hs] at hm;have hm:(o,h.2 == w)=y:=aaN hm;rw [← hm];exact Qv g hs
def Qw (t:bk) (q:Int→Bool):Prop:=∀ s∈t.2,q s.1=q s.2.2.1
theorem agQ {t:bk} (g:Gd t) {q:Int→Bool} (hq:Qw t q) {h y:Fl} (hm:lx t h=some y):q y.1.1=q h.1.1:=by
 unfold lx at hm;cases hs:fP t h.1 with
 |none=>rw [hs] at hm; cases hm
 |some z=>
  obtain ⟨o,w⟩:=z;rw [hs] at hm;have hm:(o,h.2 == w)=y:=aaN hm;rw [← hm];rw [fW g] at hs;obtain ⟨s,hs,_,⟨h1,h2⟩|⟨h1,h2⟩⟩:=hs
  ·have:=hq s hs;rw [← h1,← h2]; exact this.symm
  ·have:=hq s hs;rw [← h1,← h2]; exact this
theorem inv2 {t:bk} (g:Gd t) {q:Int→Bool} (hq:Qw t q):Inv2 (nG t q) (e7 t) (lx t) where
 sm:=fun x hx=>by
  rw [dW] at hx ⊢;exact ⟨H7 hx.1,by rw [H6]; exact hx.2⟩
 ss:=fun x hx=>Ni (dW.1 hx).1
 sn:=fun x _ e=>by
  have:=H5 t x;rw [e] at this;revert this; cases x.2 <;> decide
 rm:=fun x hx y hy=>by
  rw [dW] at hx ⊢;exact ⟨(XI g hy).2,by rw [agQ g hq hy]; exact hx.2⟩
 rr:=fun x _ y hy=>OR g hy
 rn:=fun x _ hy=>T5 g hy rfl
end Go.Proofs.YtegoimldbgdeiaaGreat
