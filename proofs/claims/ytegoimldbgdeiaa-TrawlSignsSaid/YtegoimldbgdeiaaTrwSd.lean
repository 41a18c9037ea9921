/- Signs that spread along seams in rounds: plain laws. -/
import Derived.Test.YtegoimldbgdeiaaTrwSb
set_option linter.all false
namespace Go.Proofs.Ytegoimldbgdeiaa
open Go Go.Am
open List (map)
open Int (toNat)
open Go.IntKind (wrap)
open Go.Am.aM (fits)
def gl (x y:Int) (tw:Bool) (sg:List Int):List Int:=if gI sg x≠0∧gI sg y=0 then sg.set y.toNat (if tw=true then - gI sg x else gI sg x) else sg
def jT (sg:List Int) (s:pH):List Int:=gl s.2.2.1 s.1 s.2.2.2.2 (gl s.1 s.2.2.1 s.2.2.2.2 sg)
def jx (t:cu) (sg:List Int):Nat→List Int
 |0=>sg
 |k+1=>jT (jx t sg k) (av t k)
def iQ (t:cu) (sg:List Int):Nat→List Int
 |0=>sg
 |r+1=>jx t (iQ t sg r) t.2.length
structure Fi (P:Nat) (sg:List Int):Prop where
 len:sg.length=P
 val:∀ q:Nat,gI sg q=0∨gI sg q=1∨gI sg q=-1
theorem rD {P:Nat} {sg:List Int} (h:sg.length=P) {x y:Nat} (hy:y < P) (tw:Bool) (q:Nat) :
  gI (gl x y tw sg) q=if q=y∧gI sg x≠0∧gI sg y=0 then (if tw=true then - gI sg x else gI sg x) else gI sg q:=by
 unfold gl;by_cases c:gI sg x≠0∧gI sg y=0
 ·rw [if_pos c,Int.toNat_natCast,pu _ _ _ _ (by omega)];by_cases e:q=y
  ·rw [if_pos e,if_pos (show q=y∧gI sg x≠0∧gI sg y=0 from ⟨e,c⟩)]
  ·rw [if_neg e,if_neg (fun d=>e d.1)]
 ·rw [if_neg c,if_neg (fun d=>c d.2)]
theorem sJ {P:Nat} {sg:List Int} (h:Fi P sg) {x y:Nat} (hy:y < P) (tw:Bool):Fi P (gl x y tw sg):=by
 refine ⟨?_,fun q=>?_⟩
 ·unfold gl; split
  ·rw [List.length_set]; exact h.len
  ·exact h.len
 ·rw [rD h.len hy];have:=h.val x;split
  ·split <;> omega
  ·exact h.val q
theorem mZ {P:Nat} {sg:List Int} (h:sg.length=P) {x y:Nat} (hy:y < P) (tw:Bool) {q:Nat} (hq:gI sg q≠0):gI (gl x y tw sg) q=gI sg q:=by
 rw [rD h hy];split
 ·rename_i c; exact absurd c.2.2 (by rw [← c.1]; exact hq)
 ·rfl
theorem uE {P:Nat} {sg:List Int} (h:sg.length=P) {x y:Nat} (hy:y < P) (tw:Bool) (hx:gI sg x≠0):gI (gl x y tw sg) y≠0:=by
 rw [rD h hy];split
 ·split <;> omega
 ·rename_i c; exact fun e=>c ⟨rfl,hx,e⟩
theorem uF {P:Nat} {sg:List Int} (h:sg.length=P) {x y:Nat} (hy:y < P) (tw:Bool) {g:Int→Int} (hg:g y=if tw=true then - g x else g x) (ha:∀ q:Nat,gI sg q≠0→gI sg q=g q):∀ q:Nat,gI (gl x y tw sg) q≠0→gI (gl x y tw sg) q=g q:=by
 intro q hq;rw [rD h hy] at *;split at hq
 ·rename_i c;rw [if_pos c,c.1,hg,ha x c.2.1]
 ·rename_i c;rw [if_neg c]; exact ha q hq
theorem Hm {t:cu} (hS:uz t) {k:Nat} (hk:k < t.2.length) {sg:List Int} (h:Fi t.1.length sg) :
  Fi t.1.length (jT sg (av t k))∧(∀ q:Nat,gI sg q≠0→gI (jT sg (av t k)) q=gI sg q) ∧
  (∀ (q r:Nat) (f g:Bool),cO (av t k) ((q:Int),f)=some ((r:Int),g)→gI sg q≠0→gI (jT sg (av t k)) r≠0) ∧
  (∀ g:Int→Int,ms (av t k) g→(∀ q:Nat,gI sg q≠0→gI sg q=g q)→∀ q:Nat,gI (jT sg (av t k)) q≠0→gI (jT sg (av t k)) q=g q):=by
 obtain ⟨A,B,hA,om,hB,ow⟩:=hS k hk;unfold jT;rw [hA,hB];have s1:=sJ h (x:=A) ow (av t k).2.2.2.2;have s2:=sJ s1 (x:=B) om (av t k).2.2.2.2;have aZ:∀ q:Nat,gI sg q≠0→gI (gl B A (av t k).2.2.2.2 (gl A B (av t k).2.2.2.2 sg)) q=gI sg q:=fun q hq=>by
  have e1:=mZ h.len (x:=A) ow (av t k).2.2.2.2 hq;rw [mZ s1.len om _ (by rw [e1]; exact hq),e1]
 refine ⟨s2,aZ,fun q r f g e9 hq=>?_,fun g hg ha=>?_⟩
 ·unfold cO at e9;rw [hA,hB] at e9;by_cases h1:(A:Int)=(q:Int)
  ·rw [if_pos h1] at e9;injection e9 with e9; injection e9 with e1 e2;have e1:B=r:=by omega
   subst e1;have:A=q:=by omega
   subst this;have:=uE h.len ow (av t k).2.2.2.2 hq;rw [mZ s1.len om _ this]; exact this
  ·rw [if_neg h1] at e9;by_cases h2:(B:Int)=(q:Int)
   ·rw [if_pos h2] at e9;injection e9 with e9; injection e9 with e1 e2;have e1:A=r:=by omega
    subst e1;have:B=q:=by omega
    subst this;exact uE s1.len om _ (by rw [mZ h.len ow _ hq]; exact hq)
   ·rw [if_neg h2] at e9; cases e9
 ·have ZF:g B=if (av t k).2.2.2.2=true then - g A else g A:=by
   have:=hg; unfold ms at this; rw [hA,hB] at this; exact this
  have XJ:g A=if (av t k).2.2.2.2=true then - g B else g B:=by
   rw [ZF]; split <;> simp
  exact uF s1.len om _ XJ (uF h.len ow _ ZF ha)
theorem mw {t:cu} (hS:uz t) {sg:List Int} (h:Fi t.1.length sg):∀ m,m≤t.2.length →
  Fi t.1.length (jx t sg m)∧(∀ q:Nat,gI sg q≠0→gI (jx t sg m) q=gI sg q) ∧
  (∀ (k:Nat),k < m→∀ (q r:Nat) (f g:Bool),cO (av t k) ((q:Int),f)=some ((r:Int),g)→gI sg q≠0→gI (jx t sg m) r≠0) ∧
  (∀ g:Int→Int,(∀ k < t.2.length,ms (av t k) g)→(∀ q:Nat,gI sg q≠0→gI sg q=g q)→∀ q:Nat,gI (jx t sg m) q≠0→gI (jx t sg m) q=g q)
 |0,_=>⟨h,fun _ _=>rfl,fun k hk=>absurd hk (Nat.not_lt_zero _),fun g _ ha=>ha⟩
 |m+1,hm=>by
  obtain ⟨c1,c2,c3,c4⟩:=mw hS h m (by omega);obtain ⟨d1,d2,d3,d4⟩:=Hm hS (by omega:m < t.2.length) c1;refine ⟨d1,fun q hq=>?_,fun k hk q r f g e9 hq=>?_,fun g hg ha=>d4 g (hg m (by omega)) (c4 g hg ha)⟩
  ·show gI (jT (jx t sg m) (av t m)) q=gI sg q;rw [d2 q (by rw [c2 q hq]; exact hq),c2 q hq]
  ·show gI (jT (jx t sg m) (av t m)) r≠0;by_cases e:k=m
   ·subst e;exact d3 q r f g e9 (by rw [c2 q hq]; exact hq)
   ·have:=c3 k (by omega) q r f g e9 hq;rw [d2 r this]; exact this
theorem jU {t:cu} (hS:uz t) {sg:List Int} (h:Fi t.1.length sg):∀ r,
  Fi t.1.length (iQ t sg r)∧(∀ q:Nat,gI sg q≠0→gI (iQ t sg r) q=gI sg q) ∧
  (∀ g:Int→Int,(∀ k < t.2.length,ms (av t k) g)→(∀ q:Nat,gI sg q≠0→gI sg q=g q)→∀ q:Nat,gI (iQ t sg r) q≠0→gI (iQ t sg r) q=g q)
 |0=>⟨h,fun _ _=>rfl,fun g _ ha=>ha⟩
 |r+1=>by
  obtain ⟨c1,c2,c4⟩:=jU hS h r;obtain ⟨d1,d2,_,d4⟩:=mw hS c1 t.2.length (Nat.le_refl _);exact ⟨d1,fun q hq=>by show gI (jx t (iQ t sg r) t.2.length) q=_; rw [d2 q (by rw [c2 q hq]; exact hq),c2 q hq],fun g hg ha=>d4 g hg (c4 g hg ha)⟩
def VW (t:cu) (w:List Int):Prop:=∀ i∈w,∃ k:Nat,i=k∧k < t.2.length
theorem B5 {t:cu} (hS:uz t):∀ (w:List Int),VW t w→∀ (q:Nat) (f:Bool) (y:Int × Bool),q < t.1.length→b8 t w ((q:Int),f)=some y→∃ r:Nat,y.1=r∧r < t.1.length
 |[],_,q,f,y,hq,h=>by injection h with h; subst h; exact ⟨q,rfl,hq⟩
 |i :: w,hw,q,f,y,hq,h=>by
  have h:(cO (av t i.toNat) ((q:Int),f)).bind (b8 t w)=some y:=h;obtain ⟨k,rfl,hk⟩:=hw i (by simp);rw [Int.toNat_natCast] at h;obtain ⟨A,B,hA,om,hB,ow⟩:=hS k hk;cases hs:cO (av t k) ((q:Int),f) with
  |none=>rw [hs] at h; cases h
  |some z=>
   rw [hs] at h;obtain ⟨z1,z2⟩:=z;have:∃ r:Nat,z1=r∧r < t.1.length:=by
    unfold cO at hs;rw [hA,hB] at hs;split at hs
    ·injection hs with hs; injection hs with e1 e2; exact ⟨B,e1.symm,ow⟩
    ·split at hs
     ·injection hs with hs; injection hs with e1 e2; exact ⟨A,e1.symm,om⟩
     ·cases hs
   obtain ⟨r,rfl,hr⟩:=this;exact B5 hS w (fun j hj=>hw j (by simp [hj])) r z2 y hr h
theorem uG {t:cu} (hS:uz t) {sg:List Int} (h:Fi t.1.length sg) {q:Nat} (hq:q < t.1.length) (M7:gI sg q≠0):∀ (n:Nat) (w:List Int),w.length=n→VW t w→∀ (r:Nat) (f g:Bool),b8 t w ((q:Int),f)=some ((r:Int),g)→gI (iQ t sg n) r≠0
 |0,w,hl,_,r,f,g,hw=>by
  have:w=[]:=List.eq_nil_of_length_eq_zero hl;subst this;injection hw with hw; injection hw with e1 e2;have:q=r:=by omega
  subst this; exact M7
 |n+1,w,hl,Dj,r,f,g,hw=>by
  have cz:w≠[]:=fun e=>by rw [e] at hl; cases hl
  obtain ⟨u,i,rfl⟩:∃ u i,w=u++[i]:=⟨w.dropLast,w.getLast cz,(List.dropLast_concat_getLast cz).symm⟩;rw [ia] at hw;obtain ⟨k,rfl,hk⟩:=Dj i (by simp);have hu:VW t u:=fun j hj=>Dj j (by simp [hj])
  cases hs:b8 t u ((q:Int),f) with
  |none=>rw [hs] at hw; cases hw
  |some z=>
   rw [hs] at hw;obtain ⟨m,hm,hm2⟩:=B5 hS u hu q f z hq hs;obtain ⟨z1,z2⟩:=z;have hm:z1=(m:Int):=hm;subst hm;have hw:(cO (av t (k:Int).toNat) ((m:Int),z2)).bind (b8 t [])=some ((r:Int),g):=hw;rw [Int.toNat_natCast] at hw;have ih:=uG hS h hq M7 n u (by simpa using hl) hu m f z2 hs;cases e9:cO (av t k) ((m:Int),z2) with
   |none=>rw [e9] at hw; cases hw
   |some y=>
    rw [e9] at hw;injection hw with hw;subst hw;obtain ⟨c1,_,_⟩:=jU hS h n;exact (mw hS c1 t.2.length (Nat.le_refl _)).2.2.1 k hk m r z2 g e9 ih
theorem wF {t:cu} (hS:uz t) {sg:List Int} (h:Fi t.1.length sg) {q:Nat}:∀ (m n:Nat),n≤m→gI (iQ t sg n) q≠0→gI (iQ t sg m) q≠0
 |0,n,hn,hq=>by
  have:n=0:=by omega
  subst this;exact hq
 |m+1,n,hn,hq=>by
  by_cases e:n=m+1
  ·subst e; exact hq
  ·have ih:=wF hS h m n (by omega) hq;obtain ⟨c1,_,_⟩:=jU hS h m;show gI (jx t (iQ t sg m) t.2.length) q≠0;rw [(mw hS c1 t.2.length (Nat.le_refl _)).2.1 q ih]; exact ih
end Go.Proofs.Ytegoimldbgdeiaa
