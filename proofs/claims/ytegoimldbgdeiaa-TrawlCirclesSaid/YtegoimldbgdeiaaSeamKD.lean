/- Walks along two involutions; lists without repetition. -/
import Derived.Test.YtegoimldbgdeiaaAmKM
set_option linter.all false
open List renaming mem_cons_self→aae, mem_map→aal, mem_cons_of_mem→aas, mem_cons→aat, length_cons→aau, nodup_cons→aav, mem_filter→aax, length_erase_of_mem→aay, length_pos_of_mem→aaA
open Option.some renaming inj→aaK
namespace Go.Proofs.Ytegoimldbgdeiaa
set_option maxRecDepth 100000
theorem AT {α:Type} [DecidableEq α]:∀ {l m:List α},l.Nodup→(∀ x∈l,x∈m)→l.length≤m.length
 |[],_,_,_=>Nat.zero_le _
 |x :: l,m,hn,h=>by
  rw [aav] at hn;have hx:x∈m:=h x aae;have ih:=AT (l:=l) (m:=m.erase x) hn.2 (fun y hy=>(List.mem_erase_of_ne (fun e=>hn.1 (by rw [← e]; exact hy))).2 (h y (aas _ hy)));have e:=aay hx;have:0 < m.length:=aaA hx;rw [aau]; omega
def qN {α:Type} (f:α→Option α) (x:α):Nat→Option α
 |0=>some x
 |n+1=>(qN f x n).bind f
theorem jb {α:Type} {f:α→Option α} {L:List α} {x0:α} (h0:x0∈L) (cl:∀ x∈L,∀ y,f x=some y→y∈L):∀ n y,qN f x0 n=some y→y∈L
 |0,y,h=>by cases h; exact h0
 |n+1,y,h=>by
  unfold qN at h;cases e:qN f x0 n with
  |none=>rw [e] at h; cases h
  |some z=>rw [e] at h; exact cl z (jb h0 cl n z e) y h
theorem gj {α:Type} {f:α→Option α} {x0:α} {n:Nat} {y:α} (h:qN f x0 (n+1)=some y):∃ z,qN f x0 n=some z∧f z=some y:=by
 unfold qN at h;cases e:qN f x0 n with
 |none=>rw [e] at h; cases h
 |some z=>rw [e] at h; exact ⟨z,rfl,h⟩
theorem sQ {α:Type} {f:α→Option α} {x0:α}:∀ (n:Nat) (y:α) (k:Nat),qN f x0 (n+k)=some y→∃ z,qN f x0 n=some z
 |_,y,0,h=>⟨y,h⟩
 |n,y,k+1,h=>by
  obtain ⟨z,h1,_⟩:=gj (n:=n+k) h;exact sQ n z k h1
theorem NU {α:Type} {f:α→Option α} {L:List α} {x0:α} (h0:x0∈L) (cl:∀ x∈L,∀ y,f x=some y→y∈L)
  (inj:∀ x∈L,∀ x'∈L,∀ y,f x=some y→f x'=some y→x=x') (nr:∀ x∈L,f x≠some x0) :
  ∀ (i k:Nat) (y:α),qN f x0 i=some y→qN f x0 (i+k+1)=some y→False
 |0,k,y,h1,h2=>by
  cases h1;obtain ⟨z,a,b⟩:=gj h2;exact nr z (jb h0 cl _ _ a) b
 |i+1,k,y,h1,h2=>by
  obtain ⟨z,a,b⟩:=gj h1;have h2:qN f x0 (i+k+1+1)=some y:=by rw [show i+k+1+1=i+1+k+1 by omega]; exact h2
  obtain ⟨z',a',b'⟩:=gj h2;have:=inj z (jb h0 cl _ _ a) z' (jb h0 cl _ _ a') y b b';subst this;exact NU h0 cl inj nr i k z a a'
theorem Wp {α:Type} [DecidableEq α] {f:α→Option α} {L:List α} {x0:α} (h0:x0∈L) (cl:∀ x∈L,∀ y,f x=some y→y∈L)
  (inj:∀ x∈L,∀ x'∈L,∀ y,f x=some y→f x'=some y→x=x') (nr:∀ x∈L,f x≠some x0) :
  ∃ m x,m < L.length∧qN f x0 m=some x∧f x=none:=by
 apply Classical.byContradiction;intro hc;have all:∀ m,m≤L.length→∃ x,qN f x0 m=some x:=by
  intro m
  induction m with
  |zero=>intro _; exact ⟨x0,rfl⟩
  |succ m ih=>
   intro hm;obtain ⟨x,hx⟩:=ih (by omega);cases e:f x with
   |none=>exact absurd ⟨m,x,by omega,hx,e⟩ hc
   |some y=>exact ⟨y,by show (qN f x0 m).bind f=_; rw [hx]; exact e⟩
 have nd:((List.range (L.length+1)).map fun m=>(qN f x0 m).getD x0).Nodup:=by
  rw [List.Nodup,List.pairwise_map];refine List.Pairwise.imp_of_mem (R:=(· < ·)) ?_ List.pairwise_lt_range;intro a b ha hb hab e;rw [List.mem_range] at ha hb;obtain ⟨x,hx⟩:=all a (by omega);obtain ⟨y,hy⟩:=all b (by omega);rw [hx,hy] at e;have e:x=y:=e;subst e;exact NU h0 cl inj nr a (b - a - 1) x hx (by rw [show a+(b - a - 1)+1=b by omega]; exact hy)
 have:=AT nd (m:=L) (fun x hx=>by
  rw [aal] at hx;obtain ⟨m,hm,e⟩:=hx;rw [List.mem_range] at hm;obtain ⟨y,hy⟩:=all m (by omega);rw [hy] at e;have e:y=x:=e;rw [← e];exact jb h0 cl m y hy)
 rw [List.length_map,List.length_range] at this;omega
structure Inv2 {α:Type} (L:List α) (s:α→α) (r:α→Option α):Prop where
 sm:∀ x∈L,s x∈L
 ss:∀ x∈L,s (s x)=x
 sn:∀ x∈L,s x≠x
 rm:∀ x∈L,∀ y,r x=some y→y∈L
 rr:∀ x∈L,∀ y,r x=some y→r y=some x
 rn:∀ x∈L,r x≠some x
section
variable {α:Type} {L:List α} {s:α→α} {r:α→Option α} (I:Inv2 L s r)
include I
theorem Inv2.cl:∀ x∈L,∀ y,r (s x)=some y→y∈L:=fun x hx y h=>I.rm (s x) (I.sm x hx) y h
theorem Inv2.inj:∀ x∈L,∀ x'∈L,∀ y,r (s x)=some y→r (s x')=some y→x=x':=fun x hx x' vH y h h'=>by
 have a:=I.rr _ (I.sm x hx) y h;have b:=I.rr _ (I.sm x' vH) y h';rw [a] at b;have b:s x=s x':=aaK b;rw [← I.ss x hx,b,I.ss x' vH]
theorem Inv2.nr {x0:α} (h:r x0=none):∀ x∈L,r (s x)≠some x0:=fun x hx e=>by
 have:=I.rr _ (I.sm x hx) x0 e;rw [h] at this; cases this
theorem Inv2.ends [DecidableEq α] {x0:α} (h0:x0∈L) (h:r x0=none):∃ m x,m < L.length∧qN (fun x=>r (s x)) x0 m=some x∧r (s x)=none:=
 Wp (f:=fun x=>r (s x)) h0 I.cl I.inj (I.nr h)
theorem Inv2.rev {x0:α} (h0:x0∈L) {m:Nat} {x:α} (hm:qN (fun x=>r (s x)) x0 m=some x):∀ i,i≤m→∀ y,qN (fun x=>r (s x)) x0 (m - i)=some y→qN (fun x=>r (s x)) (s x) i=some (s y)
 |0,_,y,hy=>by
  rw [Nat.sub_zero,hm] at hy;cases hy; rfl
 |i+1,hi,y,hy=>by
  have e:m - i=(m - (i+1))+1:=by omega
  obtain ⟨z,hz⟩:=sQ (m - i) x i (by rw [show m - i+i=m by omega]; exact hm);have ih:=Inv2.rev h0 hm i (by omega) z hz;rw [e] at hz;obtain ⟨y',a,b⟩:=gj hz;rw [a] at hy;cases hy;have yL:=jb (f:=fun x=>r (s x)) h0 I.cl _ _ a;have zL:=I.cl y yL z b;show (qN (fun x=>r (s x)) (s x) i).bind _=_;rw [ih];show r (s (s z))=_;rw [I.ss z zL];exact I.rr _ (I.sm _ yL) z b
theorem Inv2.other {x0:α} (h0:x0∈L) {m:Nat} {x:α} (hm:qN (fun x=>r (s x)) x0 m=some x):s x≠x0:=by
 intro e;have key:=fun i hi y hy=>I.rev h0 hm i hi y hy
 rw [e] at key;rcases Nat.mod_two_eq_zero_or_one m with hp|hp
 ·obtain ⟨y,hy⟩:=sQ (m / 2) x (m - m / 2) (by rw [show m / 2+(m - m / 2)=m by omega]; exact hm);have:=key (m / 2) (by omega) y (by rw [show m - m / 2=m / 2 by omega]; exact hy);rw [hy] at this;exact I.sn y (jb (f:=fun x=>r (s x)) h0 I.cl _ _ hy) (aaK this).symm
 ·obtain ⟨y,hy⟩:=sQ (m / 2) x (m - m / 2) (by rw [show m / 2+(m - m / 2)=m by omega]; exact hm);have:=key (m / 2+1) (by omega) y (by rw [show m - (m / 2+1)=m / 2 by omega]; exact hy);obtain ⟨z,a,b⟩:=gj this;rw [hy] at a;cases a;have yL:=jb (f:=fun x=>r (s x)) h0 I.cl _ _ hy;exact I.rn _ (I.sm y yL) b
def Wq (s:α→α) (r:α→Option α) (x0:α) (m:Nat) (y:α):Prop:=∃ i,i≤m∧(qN (fun x=>r (s x)) x0 i=some y∨qN (fun x=>r (s x)) x0 i=some (s y))
theorem Inv2.Wr {x0:α} {m:Nat} {y:α} (hy:y∈L) (h:Wq s r x0 m y):Wq s r x0 m (s y):=by
 obtain ⟨i,hi,h|h⟩:=h
 ·exact ⟨i,hi,.inr (by rw [I.ss y hy]; exact h)⟩
 ·exact ⟨i,hi,.inl h⟩
theorem Inv2.Ws {x0:α} (h0:x0∈L) (hn:r x0=none) {m:Nat} {x:α} (hm:qN (fun x=>r (s x)) x0 m=some x) (he:r (s x)=none) {y z:α} (hy:y∈L) (h:Wq s r x0 m y) (hr:r y=some z):Wq s r x0 m z:=by
 obtain ⟨i,hi,h|h⟩:=h
 ·cases i with
  |zero=>cases h; rw [hn] at hr; cases hr
  |succ i=>
   obtain ⟨w,a,b⟩:=gj h;have wL:=jb (f:=fun x=>r (s x)) h0 I.cl _ _ a;have:=I.rr _ (I.sm w wL) y b;rw [hr] at this;cases this;exact ⟨i,by omega,.inr (by rw [I.ss w wL]; exact a)⟩
 ·rcases Nat.lt_or_ge i m with c|c
  ·refine ⟨i+1,by omega,.inl ?_⟩;show (qN (fun x=>r (s x)) x0 i).bind _=_;rw [h];show r (s (s y))=_;rw [I.ss y hy]; exact hr
  ·have:i=m:=by omega
   subst this;rw [hm] at h;cases h;rw [I.ss y hy,hr] at he;cases he
theorem Inv2.NV {x0:α} (h0:x0∈L) {m:Nat} {x:α} (hm:qN (fun x=>r (s x)) x0 m=some x) {y:α} (hy:y∈L) (h:Wq s r x0 m y) (hr:r y=none):y=x0∨y=s x:=by
 obtain ⟨i,hi,h|h⟩:=h
 ·cases i with
  |zero=>cases h; exact .inl rfl
  |succ i=>
   obtain ⟨w,a,b⟩:=gj h;have wL:=jb (f:=fun x=>r (s x)) h0 I.cl _ _ a;have:=I.rr _ (I.sm w wL) y b;rw [hr] at this; cases this
 ·rcases Nat.lt_or_ge i m with c|c
  ·obtain ⟨z,hz⟩:=sQ (i+1) x (m - (i+1)) (by rw [show i+1+(m - (i+1))=m by omega]; exact hm);obtain ⟨w,a,b⟩:=gj hz;rw [h] at a;cases a;have b:r (s (s y))=some z:=b;rw [I.ss y hy,hr] at b;cases b
  ·have:i=m:=by omega
   subst this;rw [hm] at h;cases h;exact .inr (I.ss y hy).symm
end
end Go.Proofs.Ytegoimldbgdeiaa
namespace Go.Proofs.Ytegoimldbgdeiaa
set_option maxRecDepth 100000
def PK {α:Type} [DecidableEq α]:List α→List α
 |[]=>[]
 |x :: l=>if x∈l then PK l else x :: PK l
theorem jc {α:Type} [DecidableEq α]:∀ (l:List α) (x:α),x∈PK l↔x∈l
 |[],_=>Iff.rfl
 |y :: l,x=>by
  unfold PK;by_cases h:y∈l
  ·rw [if_pos h,jc l x,aat];exact ⟨Or.inr,fun c=>c.elim (fun e=>e ▸ h) id⟩
  ·rw [if_neg h,aat,aat,jc l x]
theorem qI {α:Type} [DecidableEq α]:∀ l:List α,(PK l).Nodup
 |[]=>List.nodup_nil
 |y :: l=>by
  unfold PK;by_cases h:y∈l
  ·rw [if_pos h]; exact qI l
  ·rw [if_neg h,aav,jc]; exact ⟨h,qI l⟩
theorem SS {α:Type} [DecidableEq α] {l m:List α} (hl:l.Nodup) (hm:m.Nodup) (h:∀ x,x∈l↔x∈m):l.length=m.length:=
 Nat.le_antisymm (AT hl fun x hx=>(h x).1 hx) (AT hm fun x hx=>(h x).2 hx)
def pM {α β:Type} [DecidableEq β] (g:α→β) (L:List α):Nat:=(PK (L.map g)).length
section
variable {α β γ:Type} [DecidableEq β] [DecidableEq γ]
theorem uI {g:α→β} {L:List α} {m:List β} (hm:m.Nodup) (h:∀ x,x∈m↔∃ y∈L,g y=x):pM g L=m.length:=
 SS (qI _) hm fun x=>by rw [jc,aal,h]
theorem SU {g:α→β} {k:α→γ} {L:List α} (h:∀ x∈L,∀ y∈L,k x=k y→g x=g y):pM g L≤pM k L:=by
 induction L with
 |nil=>exact Nat.le_refl _
 |cons a L ih=>
  have ih:=ih fun x hx y hy=>h x (aas _ hx) y (aas _ hy)
  unfold pM at ih ⊢;rw [List.map_cons,List.map_cons,PK,PK];by_cases c:k a∈L.map k
  ·obtain ⟨b,hb,e⟩:=aal.1 c;have:g a∈L.map g:=aal.2 ⟨b,hb,h b (aas _ hb) a aae e⟩;rw [if_pos c,if_pos this]; exact ih
  ·rw [if_neg c,aau];by_cases d:g a∈L.map g
   ·rw [if_pos d]; omega
   ·rw [if_neg d,aau]; omega
theorem lZ {g:α→β} {k:α→γ} {L:List α} (h:∀ x∈L,∀ y∈L,(k x=k y↔g x=g y)):pM g L=pM k L:=
 Nat.le_antisymm (SU fun x hx y hy e=>(h x hx y hy).1 e) (SU fun x hx y hy e=>(h x hx y hy).2 e)
theorem zT {g:α→β} (p:α→Bool) {L:List α} (h:∀ x∈L,∀ y∈L,g x=g y→p x=p y):pM g L=pM g (L.filter p)+pM g (L.filter fun x=>!p x):=by
 rw [uI (g:=g) (L:=L) (m:=PK ((L.filter p).map g)++PK ((L.filter fun x=>!p x).map g)),List.length_append]
 ·rfl
 ·rw [List.nodup_append];refine ⟨qI _,qI _,?_⟩;intro a ha b hb e;rw [jc,aal] at ha hb;obtain ⟨x,hx,e1⟩:=ha;obtain ⟨y,hy,e2⟩:=hb;rw [aax] at hx hy;have:=h x hx.1 y hy.1 (by rw [e1,e2,e]);rw [hx.2] at this;rw [← this] at hy;exact absurd hy.2 (by decide)
 ·intro z;rw [List.mem_append,jc,jc,aal,aal];constructor
  ·rintro (⟨x,hx,e⟩|⟨x,hx,e⟩)
   ·exact ⟨x,(aax.1 hx).1,e⟩
   ·exact ⟨x,(aax.1 hx).1,e⟩
  ·rintro ⟨x,hx,e⟩;cases hp:p x with
   |true=>exact .inl ⟨x,aax.2 ⟨hx,hp⟩,e⟩
   |false=>exact .inr ⟨x,aax.2 ⟨hx,by rw [hp]; rfl⟩,e⟩
theorem SW {g:α→β} {L M:List α} (h:∀ z,(∃ x∈L,g x=z)↔∃ x∈M,g x=z):pM g L=pM g M:=
 SS (qI _) (qI _) fun z=>by rw [jc,jc,aal,aal]; exact h z
def sR (g:α→β) (p:α × α):α→β:=fun z=>if g z=g p.1 then g p.2 else g z
theorem pu (g:α→β) (p:α × α) (x y:α):sR g p x=sR g p y↔g x=g y∨(g x=g p.1∧g y=g p.2)∨(g x=g p.2∧g y=g p.1):=by
 unfold sR;by_cases hx:g x=g p.1 <;> by_cases hy:g y=g p.1
 ·rw [if_pos hx,if_pos hy]; exact ⟨fun _=>.inl (by rw [hx,hy]),fun _=>rfl⟩
 ·rw [if_pos hx,if_neg hy];constructor
  ·intro e; exact .inr (.inl ⟨hx,e.symm⟩)
  ·rintro (e|⟨_,e⟩|⟨_,e⟩)
   ·exact absurd (by rw [← e,hx]) hy
   ·exact e.symm
   ·exact absurd e hy
 ·rw [if_neg hx,if_pos hy];constructor
  ·intro e; exact .inr (.inr ⟨e,hy⟩)
  ·rintro (e|⟨e,_⟩|⟨e,_⟩)
   ·exact absurd (by rw [e,hy]) hx
   ·exact absurd e hx
   ·exact e
 ·rw [if_neg hx,if_neg hy];constructor
  ·exact .inl
  ·rintro (e|⟨e,_⟩|⟨_,e⟩)
   ·exact e
   ·exact absurd e hx
   ·exact absurd e hy
theorem Wt (g:α→β) (p:α × α) {L:List α} (h1:p.1∈L) (h2:p.2∈L):pM (sR g p) L+(if g p.1=g p.2 then 0 else 1)=pM g L:=by
 by_cases c:g p.1=g p.2
 ·rw [if_pos c,Nat.add_zero];refine lZ fun x _ y _=>?_
  rw [pu];constructor
  ·exact .inl
  ·rintro (e|⟨e,f⟩|⟨e,f⟩)
   ·exact e
   ·rw [e,f,c]
   ·rw [e,f,c]
 ·rw [if_neg c];have a:=uI (g:=g) (L:=L) (m:=g p.1 :: PK (L.map (sR g p))) (by
   rw [aav,jc,aal];refine ⟨?_,qI _⟩;rintro ⟨x,hx,e⟩;unfold sR at e;by_cases d:g x=g p.1
   ·rw [if_pos d] at e; exact c e.symm
   ·rw [if_neg d] at e; exact d e) (fun z=>by
   rw [aat,jc,aal];constructor
   ·rintro (e|⟨x,hx,e⟩)
    ·exact ⟨p.1,h1,e.symm⟩
    ·unfold sR at e;by_cases d:g x=g p.1
     ·rw [if_pos d] at e; exact ⟨p.2,h2,e⟩
     ·rw [if_neg d] at e; exact ⟨x,hx,e⟩
   ·rintro ⟨y,hy,e⟩;by_cases d:g y=g p.1
    ·exact .inl (by rw [← e,d])
    ·exact .inr ⟨y,hy,by unfold sR; rw [if_neg d,e]⟩)
  rw [a,aau]; rfl
end
inductive Cn {α:Type} (E:α→α→Prop):α→α→Prop
 |refl (x:α):Cn E x x
 |step {x y z:α}:Cn E x y→E y z→Cn E x z
 |back {x y z:α}:Cn E x y→E z y→Cn E x z
theorem Cn.one {α:Type} {E:α→α→Prop} {x y:α} (h:E x y):Cn E x y:=.step (.refl x) h
theorem Cn.trans {α:Type} {E:α→α→Prop} {x y z:α} (h:Cn E x y) (k:Cn E y z):Cn E x z:=by
 induction k with
 |refl=>exact h
 |step _ e ih=>exact .step ih e
 |back _ e ih=>exact .back ih e
theorem Cn.symm {α:Type} {E:α→α→Prop} {x y:α} (h:Cn E x y):Cn E y x:=by
 induction h with
 |refl=>exact .refl _
 |step _ e ih=>exact Cn.trans (.back (.refl _) e) ih
 |back _ e ih=>exact Cn.trans (.step (.refl _) e) ih
theorem Cn.bh {α β:Type} {E:α→α→Prop} {f:α→β} (h:∀ x y,E x y→f x=f y) {x y:α} (k:Cn E x y):f x=f y:=by
 induction k with
 |refl=>rfl
 |step _ e ih=>rw [ih]; exact h _ _ e
 |back _ e ih=>rw [ih]; exact (h _ _ e).symm
theorem Cn.mono {α:Type} {E F:α→α→Prop} (h:∀ x y,E x y→Cn F x y) {x y:α} (k:Cn E x y):Cn F x y:=by
 induction k with
 |refl=>exact .refl _
 |step _ e ih=>exact ih.trans (h _ _ e)
 |back _ e ih=>exact ih.trans (h _ _ e).symm
theorem Cn.yB {α:Type} {E:α→α→Prop} {P:α→Prop} (h:∀ x y,E x y→(P x↔P y)) {x y:α} (k:Cn E x y) (hx:P x):P y:=by
 induction k with
 |refl=>exact hx
 |step _ e ih=>exact (h _ _ e).1 ih
 |back _ e ih=>exact (h _ _ e).2 ih
section
variable {α:Type} [DecidableEq α]
def bT (E:List (α × α)):α→α:=E.foldl sR id
theorem SX (E:List (α × α)):∀ (g:α→α) (F:α→α→Prop),(∀ x y,g x=g y↔Cn F x y)→∀ x y,(E.foldl sR g x=E.foldl sR g y↔Cn (fun a b=>F a b∨(a,b)∈E) x y):=by
 induction E with
 |nil=>
  intro g F h x y;show g x=g y↔_;rw [h];exact ⟨Cn.mono fun _ _ e=>.one (.inl e),Cn.mono fun _ _ e=>by rcases e with e | e; exact .one e; cases e⟩
 |cons p E ih=>
  intro g F h x y;have key:=ih (sR g p) (fun a b=>F a b∨(a,b)=p) (fun x y=>by
   rw [pu];have up:∀ a b,g a=g b→Cn (fun a b=>F a b∨(a,b)=p) a b:=fun a b e=>Cn.mono (fun _ _ e=>.one (.inl e)) ((h a b).1 e)
   have pe:Cn (fun a b=>F a b∨(a,b)=p) p.1 p.2:=.one (.inr rfl);constructor
   ·rintro (e|⟨e,f⟩|⟨e,f⟩)
    ·exact up _ _ e
    ·exact (up _ _ e).trans (pe.trans (up _ _ f).symm)
    ·exact (up _ _ e).trans (pe.symm.trans (up _ _ f).symm)
   ·intro k;rw [← pu];exact Cn.bh (fun a b e=>by
     rw [pu];rcases e with e|e
     ·exact .inl ((h a b).2 (.one e))
     ·rw [← e]; exact .inr (.inl ⟨rfl,rfl⟩)) k) x y
  show List.foldl sR (sR g p) E x=List.foldl sR (sR g p) E y↔_;rw [key];constructor
  ·exact Cn.mono fun a b e=>by
    rcases e with (e|e)|e
    ·exact .one (.inl e)
    ·exact .one (.inr (by rw [e]; exact aae))
    ·exact .one (.inr (aas _ e))
  ·exact Cn.mono fun a b e=>by
    rcases e with e|e
    ·exact .one (.inl (.inl e))
    ·rcases aat.1 e with e|e
     ·exact .one (.inl (.inr e))
     ·exact .one (.inr e)
theorem cm (E:List (α × α)) (x y:α):bT E x=bT E y↔Cn (fun a b=>(a,b)∈E) x y:=by
 unfold bT;rw [SX E id (fun _ _=>False) (fun x y=>⟨fun e=>by have e:x=y:=e; rw [e]; exact .refl _,fun k=>Cn.bh (fun _ _ e=>e.elim) k⟩) x y];exact ⟨Cn.mono fun _ _ e=>.one (e.resolve_left id),Cn.mono fun _ _ e=>.one (.inr e)⟩
theorem DY {E F:List (α × α)} (L:List α) (h:∀ a b,(a,b)∈E→Cn (fun a b=>(a,b)∈F) a b) (k:∀ a b,(a,b)∈F→Cn (fun a b=>(a,b)∈E) a b):pM (bT E) L=pM (bT F) L:=
 lZ fun x _ y _=>by
  rw [cm,cm];exact ⟨Cn.mono k,Cn.mono h⟩
theorem zU (E:List (α × α)) (p:α × α):bT (E++[p])=sR (bT E) p:=by unfold bT; rw [List.foldl_append]; rfl
theorem DZ (E:List (α × α)) (p:α × α) {L:List α} (h1:p.1∈L) (h2:p.2∈L):pM (bT (E++[p])) L+(if bT E p.1=bT E p.2 then 0 else 1)=pM (bT E) L:=by
 rw [zU]; exact Wt _ _ h1 h2
theorem vq (E:List (α × α)) (p q:α × α) {L:List α} (h1:p.1∈L) (h2:p.2∈L) (h3:q.1∈L) (h4:q.2∈L) :
  pM (bT (E++[p,q])) L+(if bT E q.1=bT E q.2∨(bT E q.1=bT E p.1∧bT E q.2=bT E p.2)∨(bT E q.1=bT E p.2∧bT E q.2=bT E p.1) then 0 else 1)+(if bT E p.1=bT E p.2 then 0 else 1)=pM (bT E) L:=by
 rw [← DZ E p h1 h2,← DZ (E++[p]) q h3 h4,zU E p,List.append_assoc];by_cases c:sR (bT E) p q.1=sR (bT E) p q.2
 ·rw [if_pos c,if_pos ((pu _ _ _ _).1 c)]; rfl
 ·rw [if_neg c,if_neg fun d=>c ((pu _ _ _ _).2 d)]; rfl
theorem SY (E:List (α × α)) {a0 a1 b0 b1:α} {L:List α} (Yg:a0∈L) (Yh:a1∈L) (Rx:b0∈L) (M1:b1∈L) :
  pM (bT (E++[(a0,b1),(a1,b0)])) L≤pM (bT (E++[(a0,a1),(b0,b1)])) L+1:=by
 have p1:=vq E (a0,b1) (a1,b0) (L:=L) Yg M1 Yh Rx;have p2:=vq E (a0,a1) (b0,b1) (L:=L) Yg Yh Rx M1;simp only at p1 p2;generalize bT E a0=A0 at p1 p2;generalize bT E a1=A1 at p1 p2;generalize bT E b0=B0 at p1 p2;generalize bT E b1=B1 at p1 p2;by_cases h1:A0=A1
 ·subst h1;by_cases h2:B0=B1
  ·subst h2;simp only [true_or,if_true] at p1 p2;split at p1 <;> split at p1 <;> omega
  ·rw [if_pos rfl] at p2;split at p1 <;> split at p1 <;> split at p2 <;> omega
 ·by_cases h3:A0=B1
  ·subst h3;by_cases h4:A1=B0
   ·subst h4;simp only [true_or,or_true,and_self,if_true] at p1 p2;rw [if_neg h1] at p2;omega
   ·simp only [if_true] at p1;rw [if_neg h1] at p2;rw [if_neg (by
     rintro (e|⟨e,_⟩|⟨e,_⟩)
     ·exact h4 e
     ·exact h1 e.symm
     ·exact h1 e.symm)] at p1
    split at p2 <;> omega
  ·rw [if_neg h3] at p1;rw [if_neg h1] at p2;split at p1 <;> split at p2 <;> omega
theorem JB (E:List (α × α)) {a0 a1 b0 b1:α} {L:List α} (Yg:a0∈L) (Yh:a1∈L) (Rx:b0∈L) (M1:b1∈L)
  (ha:bT E a0=bT E a1) (hb:bT E b0=bT E b1) (h:bT E a0≠bT E b0) :
  pM (bT (E++[(a0,b1),(a1,b0)])) L+1=pM (bT (E++[(a0,a1),(b0,b1)])) L:=by
 have p1:=vq E (a0,b1) (a1,b0) (L:=L) Yg M1 Yh Rx;have p2:=vq E (a0,a1) (b0,b1) (L:=L) Yg Yh Rx M1;simp only at p1 p2;rw [if_pos ha,if_pos (.inl hb)] at p2;rw [if_pos (.inr (.inl ⟨ha.symm,hb⟩)),if_neg (by rw [← hb]; exact h)] at p1;omega
theorem SZ (E:List (α × α)) {a0 a1 b0 b1:α} {L:List α} (Yg:a0∈L) (Yh:a1∈L) (Rx:b0∈L) (M1:b1∈L)
  (ha:bT E a0=bT E b1) (hb:bT E a1=bT E b0) (h:bT E a0≠bT E a1) :
  pM (bT (E++[(a0,b1),(a1,b0)])) L=pM (bT (E++[(a0,a1),(b0,b1)])) L+1:=by
 have p1:=vq E (a0,b1) (a1,b0) (L:=L) Yg M1 Yh Rx;have p2:=vq E (a0,a1) (b0,b1) (L:=L) Yg Yh Rx M1;simp only at p1 p2;rw [if_neg h,if_pos (.inr (.inr ⟨hb.symm,ha.symm⟩))] at p2;rw [if_pos ha,if_pos (.inl hb)] at p1;omega
end
theorem Gb {α β:Type} [DecidableEq α] [DecidableEq β] {g:α→β}:∀ (n:Nat) (L:List α) (φ:α→α),L.length≤n→L.Nodup→(∀ x∈L,φ x∈L)→(∀ x∈L,φ (φ x)=x)→(∀ x∈L,φ x≠x)→(∀ x∈L,∀ y∈L,(g x=g y↔y=x∨y=φ x))→2 * pM g L=L.length
 |n,[],_,_,_,_,_,_,_=>rfl
 |0,_ :: _,_,h,_,_,_,_,_=>absurd h (by simp)
 |n+1,a :: L,φ,h,hn,h1,h2,h3,h4=>by
  rw [aav] at hn;have fa:φ a∈L:=(aat.1 (h1 a aae)).resolve_left (h3 a aae);have le:=aay fa;have lp:=aaA fa;have hM:∀ x,x∈L.erase (φ a)↔x∈L∧x≠φ a:=fun x=>by
   rw [List.Nodup.mem_erase_iff hn.2,and_comm]
  have HV:∀ x,x∈L.erase (φ a)→x∈a :: L:=fun x hx=>aas _ ((hM x).1 hx).1
  have ih:=Gb (g:=g) n (L.erase (φ a)) φ (by rw [le]; simp only [aau] at h; omega) (hn.2.erase _) (fun x hx=>by
   rw [hM];have xL:=HV x hx;refine ⟨(aat.1 (h1 x xL)).resolve_left fun e=>?_,fun e=>?_⟩
   ·have:=h2 x xL;rw [e] at this;exact ((hM x).1 hx).2 this.symm
   ·have:=h2 x xL;rw [e,h2 a aae] at this;exact hn.1 (by rw [this]; exact ((hM x).1 hx).1)) (fun x hx=>h2 x (HV x hx)) (fun x hx=>h3 x (HV x hx)) (fun x hx y hy=>h4 x (HV x hx) y (HV y hy))
  have e:pM g (a :: L)=pM g (L.erase (φ a))+1:=by
   rw [uI (g:=g) (L:=a :: L) (m:=g a :: PK ((L.erase (φ a)).map g))]
   ·rfl
   ·rw [aav,jc,aal];refine ⟨?_,qI _⟩;rintro ⟨x,hx,e⟩;rcases (h4 a aae x (HV x hx)).1 e.symm with e|e
    ·exact hn.1 (by rw [← e]; exact ((hM x).1 hx).1)
    ·exact ((hM x).1 hx).2 e
   ·intro z;rw [aat,jc,aal];constructor
    ·rintro (e|⟨x,hx,e⟩)
     ·exact ⟨a,aae,e.symm⟩
     ·exact ⟨x,HV x hx,e⟩
    ·rintro ⟨x,hx,e⟩;rcases aat.1 hx with c|c
     ·exact .inl (by rw [← e,c])
     ·by_cases d:x=φ a
      ·exact .inl (by rw [← e]; exact ((h4 a aae x hx).2 (.inr d)).symm)
      ·exact .inr ⟨x,(hM x).2 ⟨c,d⟩,e⟩
  rw [e,aau];omega
end Go.Proofs.Ytegoimldbgdeiaa
