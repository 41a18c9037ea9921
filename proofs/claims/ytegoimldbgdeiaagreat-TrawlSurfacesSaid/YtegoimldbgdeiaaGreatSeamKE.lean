/- One seam more: how the number of circles along sides and around corners changes. -/
import Derived.Test.YtegoimldbgdeiaaGreatSeamKD
set_option linter.all false
open Classical renaming byContradiction→abx
open List renaming mem_append_right→aaa, mem_singleton→aag, mem_append_left→aah, mem_map→aak, mem_append→aaq, mem_cons_self→aar, mem_range→aas, mem_cons→aaF, append_assoc→aaG, pairwise_append→aaN, append_nil→abp, mem_cons_of_mem→abr, length_append→abu, pairwise_map→abv, nodup_append→abw, length_cons→abA, getElem_mem→abJ, mem_filter→abK, length_map→abL, range_succ_eq_map→abN, map_cons→abO, map_congr_left→abR
open List.Pairwise renaming imp_of_mem→abz
open Prod renaming fst→abt
namespace Go.Proofs.YtegoimldbgdeiaaGreat
set_option maxRecDepth 100000
theorem tF {t:bk} (g:Gd t) {e:Int × Int}:fP t e=none↔∀ s∈t.2,sA s≠e∧sB s≠e:=by
 constructor
 ·intro h s hs;refine ⟨fun c=>?_,fun c=>?_⟩
  ·have:=(fW g (e:=e) (o:=sB s) (w:=s.2.2.2.2)).2 ⟨s,hs,rfl,.inl ⟨c,rfl⟩⟩;rw [h] at this; cases this
  ·have:=(fW g (e:=e) (o:=sA s) (w:=s.2.2.2.2)).2 ⟨s,hs,rfl,.inr ⟨c,rfl⟩⟩;rw [h] at this; cases this
 ·intro h;cases hm:fP t e with
  |none=>rfl
  |some y=>
   obtain ⟨o,w⟩:=y;obtain ⟨s,hs,_,⟨c,_⟩|⟨c,_⟩⟩:=(fW g).1 hm
   ·exact absurd c (h s hs).1
   ·exact absurd c (h s hs).2
theorem Gd.low {P:List xG} {S:List oN} {s:oN} (g:Gd (P,S++[s])):Gd (P,S) where
 E4:=g.E4
 tV:=fun x hx=>g.tV x (aah _ hx)
 dis:=(aaN.1 g.dis).1
theorem Gd.last {P:List xG} {S:List oN} {s:oN} (g:Gd (P,S++[s])):fP (P,S) (sA s)=none∧fP (P,S) (sB s)=none:=by
 have d:=(aaN.1 g.dis).2.2;constructor
 ·rw [tF g.low];intro x hx;have:=d x hx s (aag.2 rfl);exact ⟨fun c=>this.1 c,fun c=>this.2.2.1 c⟩
 ·rw [tF g.low];intro x hx;have:=d x hx s (aag.2 rfl);exact ⟨fun c=>this.2.1 c,fun c=>this.2.2.2 c⟩
theorem Qx {P:List xG} {S:List oN} {s:oN} (g:Gd (P,S++[s])):fP (P,S++[s]) (sA s)=some (sB s,s.2.2.2.2)∧fP (P,S++[s]) (sB s)=some (sA s,s.2.2.2.2):=
 ⟨(fW g).2 ⟨s,aaa _ (aag.2 rfl),rfl,.inl ⟨rfl,rfl⟩⟩,(fW g).2 ⟨s,aaa _ (aag.2 rfl),rfl,.inr ⟨rfl,rfl⟩⟩⟩
theorem Qy {P:List xG} {S:List oN} {s:oN} (g:Gd (P,S++[s])) {e:Int × Int} (ha:e≠sA s) (hb:e≠sB s):fP (P,S++[s]) e=fP (P,S) e:=by
 cases hm:fP (P,S) e with
 |none=>
  rw [tF g.low] at hm;rw [tF g];intro x hx;rcases aaq.1 hx with hx|hx
  ·exact hm x hx
  ·rw [aag.1 hx]; exact ⟨ha.symm,hb.symm⟩
 |some y=>
  obtain ⟨o,w⟩:=y;obtain ⟨x,hx,h⟩:=(fW g.low).1 hm;exact (fW g).2 ⟨x,aah _ hx,h⟩
theorem kC {t:bk} {h:Fl} (hm:fP t h.1=none):EH t h=B1 h:=by
 unfold EH lx; rw [hm]; rfl
theorem nH {t:bk} {h:Fl} {o:Int × Int} {w:Bool} (hm:fP t h.1=some (o,w)):EH t h=(o,h.2 == w):=by
 unfold EH lx; rw [hm]; rfl
theorem adq {t:bk} (g:Gd t) (h:Fl):EH t (EH t h)=h:=by
 cases hm:fP t h.1 with
 |none=>
  have e:=kC hm;rw [e,kC (h:=B1 h) hm];obtain ⟨x,b⟩:=h;cases b <;> rfl
 |some y=>
  obtain ⟨o,w⟩:=y;rw [nH hm,nH (h:=(o,h.2 == w)) (AJ g hm)];obtain ⟨x,b⟩:=h;cases b <;> cases w <;> rfl
theorem XJ {t:bk} (g:Gd t) {q:Int→Bool} (hq:Qw t q) {h:Fl} (hh:h∈nG t q):EH t h∈nG t q:=by
 unfold EH;cases hm:lx t h with
 |none=>
  rw [dW] at hh ⊢; exact hh
 |some y=>exact (inv2 g hq).rm h hh y hm
theorem adr {t:bk} (g:Gd t) (h:Fl):EH t h≠h:=by
 unfold EH;cases hm:lx t h with
 |none=>
  intro e;have:(!h.2)=h.2:=congrArg Prod.snd e;revert this; cases h.2 <;> decide
 |some y=>exact fun e=>T5 g hm (congrArg abt e)
def gE (t:bk) (q:Int→Bool):List (Fl × Fl):=(nG t q).map (fun h=>(h,e7 t h))++(nG t q).map (fun h=>(h,EH t h))
def H8 (t:bk) (q:Int→Bool):Nat:=Cp (dJ (gE t q)) (nG t q)
theorem vo {t:bk} {q:Int→Bool} {x y:Fl}:(x,y)∈gE t q↔x∈nG t q∧(y=e7 t x∨y=EH t x):=by
 unfold gE;rw [aaq,aak,aak];constructor
 ·rintro (⟨h,hh,e⟩|⟨h,hh,e⟩)
  ·injection e with e1 e2;subst e1; exact ⟨hh,.inl e2.symm⟩
  ·injection e with e1 e2;subst e1; exact ⟨hh,.inr e2.symm⟩
 ·rintro ⟨hh,e|e⟩
  ·exact .inl ⟨x,hh,by rw [e]⟩
  ·exact .inr ⟨x,hh,by rw [e]⟩
def Qz (a b:Int × Int) (h:Fl):Bool:=h.1 != a&&h.1 != b
def QA (t:bk) (q:Int→Bool) (a b:Int × Int):List (Fl × Fl):=(nG t q).map (fun h=>(h,e7 t h))++((nG t q).filter (Qz a b)).map (fun h=>(h,EH t h))
theorem nI {a b:Int × Int} {h:Fl}:Qz a b h=true↔h.1≠a∧h.1≠b:=by
 unfold Qz;rw [Bool.and_eq_true,bne_iff_ne,bne_iff_ne]
theorem lV {t:bk} {q:Int→Bool} {a b:Int × Int} {x y:Fl}:(x,y)∈QA t q a b↔x∈nG t q∧(y=e7 t x∨(x.1≠a∧x.1≠b∧y=EH t x)):=by
 unfold QA;rw [aaq,aak,aak];constructor
 ·rintro (⟨h,hh,e⟩|⟨h,hh,e⟩)
  ·injection e with e1 e2;subst e1; exact ⟨hh,.inl e2.symm⟩
  ·injection e with e1 e2;subst e1;rw [abK,nI] at hh;exact ⟨hh.1,.inr ⟨hh.2.1,hh.2.2,e2.symm⟩⟩
 ·rintro ⟨hh,e|⟨h1,h2,e⟩⟩
  ·exact .inl ⟨x,hh,by rw [e]⟩
  ·exact .inr ⟨x,abK.2 ⟨hh,nI.2 ⟨h1,h2⟩⟩,by rw [e]⟩
theorem jt {a:Int × Int} {x:Fl} (h:x.1=a):x=(a,false)∨x=(a,true):=by
 obtain ⟨e,b⟩:=x;have h:e=a:=h;subst h;cases b
 ·exact .inl rfl
 ·exact .inr rfl
section
variable {P:List xG} {S:List oN} {s:oN} (g:Gd (P,S++[s])) {q:Int→Bool} (hq:Qw (P,S++[s]) q)
include g
theorem nJ (hs:q s.1=true) (hq:Qw (P,S++[s]) q) (x:Bool):(sA s,x)∈nG (P,S) q∧(sB s,x)∈nG (P,S) q:=by
 have:=g.tV s (aaa _ (aag.2 rfl));have h2:=hq s (aaa _ (aag.2 rfl));exact ⟨dW.2 ⟨this.1,hs⟩,dW.2 ⟨this.2.1,by show q s.2.2.1=true; rw [← h2]; exact hs⟩⟩
include hq
theorem OS (hs:q s.1=true):H8 (P,S) q=Cp (dJ (QA (P,S) q (sA s) (sB s)++[((sA s,false),(sA s,true)),((sB s,true == s.2.2.2.2),(sB s,false == s.2.2.2.2))])) (nG (P,S) q):=by
 obtain ⟨na,nb⟩:=g.last;have ma:=fun x=>(nJ g hs hq x).1
 have mb:=fun x=>(nJ g hs hq x).2
 unfold H8;refine ED _ ?_ ?_
 ·intro x y h;rw [vo] at h;obtain ⟨hx,e|e⟩:=h
  ·exact .one (aah _ (lV.2 ⟨hx,.inl e⟩))
  ·by_cases ha:x.1=sA s
   ·rw [kC (by rw [ha]; exact na)] at e;rcases jt ha with rfl|rfl
    ·rw [e]; exact .one (aaa _ (by simp [B1]))
    ·rw [e]; exact Cn.symm (.one (aaa _ (by simp [B1])))
   ·by_cases hb:x.1=sB s
    ·rw [kC (by rw [hb]; exact nb)] at e;rcases jt hb with rfl|rfl <;> cases s.2.2.2.2
     ·rw [e]; exact .one (aaa _ (by simp [B1]))
     ·rw [e]; exact Cn.symm (.one (aaa _ (by simp [B1])))
     ·rw [e]; exact Cn.symm (.one (aaa _ (by simp [B1])))
     ·rw [e]; exact .one (aaa _ (by simp [B1]))
    ·exact .one (aah _ (lV.2 ⟨hx,.inr ⟨ha,hb,e⟩⟩))
 ·intro x y h;rcases aaq.1 h with h|h
  ·rw [lV] at h;exact .one (vo.2 ⟨h.1,h.2.imp id fun c=>c.2.2⟩)
  ·simp only [aaF,List.not_mem_nil,or_false,Prod.mk.injEq] at h;rcases h with ⟨rfl,rfl⟩|⟨rfl,rfl⟩
   ·exact .one (vo.2 ⟨ma _,.inr (by rw [kC na]; rfl)⟩)
   ·exact .one (vo.2 ⟨mb _,.inr (by rw [kC nb]; cases s.2.2.2.2 <;> rfl)⟩)
theorem OT (hs:q s.1=true):H8 (P,S++[s]) q=Cp (dJ (QA (P,S) q (sA s) (sB s)++[((sA s,false),(sB s,false == s.2.2.2.2)),((sA s,true),(sB s,true == s.2.2.2.2))])) (nG (P,S) q):=by
 obtain ⟨na,nb⟩:=Qx g;have ma:=fun x=>(nJ g hs hq x).1
 have mb:=fun x=>(nJ g hs hq x).2
 have same:∀ x:Fl,x.1≠sA s→x.1≠sB s→EH (P,S++[s]) x=EH (P,S) x:=fun x ha hb=>by
  unfold EH lx;rw [Qy g ha hb]
 show Cp (dJ (gE (P,S++[s]) q)) (nG (P,S) q)=_;refine ED _ ?_ ?_
 ·intro x y h;rw [vo] at h;obtain ⟨hx,e|e⟩:=h
  ·exact .one (aah _ (lV.2 ⟨hx,.inl e⟩))
  ·by_cases ha:x.1=sA s
   ·rw [nH (by rw [ha]; exact na)] at e;rcases jt ha with rfl|rfl
    ·rw [e]; exact .one (aaa _ (by simp))
    ·rw [e]; exact .one (aaa _ (by simp))
   ·by_cases hb:x.1=sB s
    ·rw [nH (by rw [hb]; exact nb)] at e;cases hw:s.2.2.2.2 <;> rw [hw] at e <;> rcases jt hb with rfl | rfl <;> rw [e] <;> exact Cn.symm (.one (aaa _ (by simp)))
    ·rw [same x ha hb] at e;exact .one (aah _ (lV.2 ⟨hx,.inr ⟨ha,hb,e⟩⟩))
 ·intro x y h;rcases aaq.1 h with h|h
  ·rw [lV] at h;obtain ⟨hx,h⟩:=h;refine .one (vo.2 ⟨hx,h.imp id fun c=>?_⟩);rw [same x c.1 c.2.1]; exact c.2.2
  ·simp only [aaF,List.not_mem_nil,or_false,Prod.mk.injEq] at h;rcases h with ⟨rfl,rfl⟩|⟨rfl,rfl⟩
   ·exact .one (vo.2 ⟨ma _,.inr (by rw [nH na])⟩)
   ·exact .one (vo.2 ⟨ma _,.inr (by rw [nH na])⟩)
def K4 (t:bk) (a b:Int × Int) (h:Fl):Option Fl:=if Qz a b h=true then some (EH t h) else none
omit hq in
theorem ZA (hq:Qw (P,S) q):Inv2 (nG (P,S) q) (e7 (P,S)) (K4 (P,S) (sA s) (sB s)) where
 sm:=(inv2 g.low hq).sm
 ss:=(inv2 g.low hq).ss
 sn:=(inv2 g.low hq).sn
 rm:=fun x hx y hy=>by
  unfold K4 at hy;split at hy
  ·cases hy; exact XJ g.low hq hx
  ·cases hy
 rr:=fun x hx y hy=>by
  unfold K4 at hy ⊢;split at hy
  ·rename_i c;cases hy;rw [nI] at c;have:Qz (sA s) (sB s) (EH (P,S) x)=true:=by
    rw [nI];cases hm:fP (P,S) x.1 with
    |none=>rw [kC hm]; exact c
    |some z=>
     obtain ⟨o,w⟩:=z;rw [nH hm];have:=AJ g.low hm;refine ⟨fun e=>?_,fun e=>?_⟩
     ·have e:o=sA s:=e;rw [e,g.last.1] at this; cases this
     ·have e:o=sB s:=e;rw [e,g.last.2] at this; cases this
   rw [if_pos this,adq g.low]
  ·cases hy
 rn:=fun x _ hy=>by
  unfold K4 at hy;split at hy
  ·exact adr g.low x (Option.some.inj hy)
  ·cases hy
omit g hq in
theorem EI {t:bk} {a b:Int × Int} {h:Fl}:K4 t a b h=none↔h.1=a∨h.1=b:=by
 unfold K4;by_cases c:Qz a b h=true
 ·rw [if_pos c];rw [nI] at c;exact ⟨fun e=>(nomatch e),fun e=>absurd e (fun e=>Or.elim e c.1 c.2)⟩
 ·rw [if_neg c];rw [nI] at c;refine ⟨fun _=>?_,fun _=>rfl⟩;by_cases d:h.1=a
  ·exact .inl d
  ·exact .inr (abx fun e=>c ⟨d,e⟩)
omit hq in
theorem H9 (hq:Qw (P,S) q) {x0:Fl} (h0:x0∈nG (P,S) q):∀ (m:Nat) (y:Fl),pX (fun x=>K4 (P,S) (sA s) (sB s) (e7 (P,S) x)) x0 m=some y→Cn (fun a b=>(a,b)∈QA (P,S) q (sA s) (sB s)) x0 y∧y∈nG (P,S) q
 |0,y,h=>by cases h; exact ⟨.refl _,h0⟩
 |m+1,y,h=>by
  obtain ⟨z,h1,h2⟩:=hX h;obtain ⟨ih,zm⟩:=H9 hq h0 m z h1;have h2:K4 (P,S) (sA s) (sB s) (e7 (P,S) z)=some y:=h2;have sm:=(inv2 g.low hq).sm z zm;refine ⟨?_,(ZA g hq).rm _ sm y h2⟩;unfold K4 at h2;split at h2
  ·rename_i c;rw [nI] at c;cases h2;exact .step (.step ih (lV.2 ⟨zm,.inl rfl⟩)) (lV.2 ⟨sm,.inr ⟨c.1,c.2,rfl⟩⟩)
  ·cases h2
theorem vp {x0:Fl} (h0:x0∈nG (P,S) q) (hx:x0.1=sA s∨x0.1=sB s):∃ z,Cn (fun a b=>(a,b)∈QA (P,S) q (sA s) (sB s)) x0 z∧(z.1=sA s∨z.1=sB s)∧z≠x0 ∧
  (∀ y,y∈nG (P,S) q→Cn (fun a b=>(a,b)∈QA (P,S) q (sA s) (sB s)) x0 y→(y.1=sA s∨y.1=sB s)→y=x0∨y=z) ∧
  ∀ χ:Fl→Bool,(∀ x∈nG (P,S) q,χ (e7 (P,S) x)=!χ x)→(∀ x∈nG (P,S) q,χ (EH (P,S) x)=!χ x)→χ z=!χ x0:=by
 have hq0:Qw (P,S) q:=fun x hx=>hq x (aah _ hx)
 have I:=ZA g hq0;have hr:K4 (P,S) (sA s) (sB s) x0=none:=EI.2 hx;obtain ⟨m,x,hm,h1,h2⟩:=I.ends h0 hr;obtain ⟨c1,c2⟩:=H9 g hq0 h0 m x h1;refine ⟨e7 (P,S) x,.step c1 (lV.2 ⟨c2,.inl rfl⟩),EI.1 h2,I.other h0 h1,?_,?_⟩
 ·intro y hy hc hn;have key:y∈nG (P,S) q∧onW (e7 (P,S)) (K4 (P,S) (sA s) (sB s)) x0 m y:=by
   refine Cn.TN (P:=fun y=>y∈nG (P,S) q∧onW (e7 (P,S)) (K4 (P,S) (sA s) (sB s)) x0 m y) ?_ hc ⟨h0,0,Nat.zero_le _,.inl rfl⟩;intro u v e;rw [lV] at e;obtain ⟨hu,e|⟨e1,e2,e⟩⟩:=e
   ·subst e;refine ⟨fun k=>⟨I.sm u hu,I.agF hu k.2⟩,fun k=>⟨hu,?_⟩⟩;have:=I.agF (I.sm u hu) k.2;rwa [I.ss u hu] at this
   ·subst e;have ru:K4 (P,S) (sA s) (sB s) u=some (EH (P,S) u):=if_pos (nI.2 ⟨e1,e2⟩);have vm:=I.rm u hu _ ru;exact ⟨fun k=>⟨vm,I.agG h0 hr h1 h2 hu k.2 ru⟩,fun k=>⟨hu,I.agG h0 hr h1 h2 vm k.2 (I.rr u hu _ ru)⟩⟩
  exact I.Xz h0 h1 hy key.2 (EI.2 hn)
 ·intro χ hs hrr;have:∀ (k:Nat) (y:Fl),pX (fun x=>K4 (P,S) (sA s) (sB s) (e7 (P,S) x)) x0 k=some y→χ y=χ x0:=by
   intro k
   induction k with
   |zero=>intro y h; cases h; rfl
   |succ k ih=>
    intro y h;obtain ⟨z,a,b⟩:=hX h;have zm:=(H9 g hq0 h0 k z a).2;have b:K4 (P,S) (sA s) (sB s) (e7 (P,S) z)=some y:=b;unfold K4 at b;split at b
    ·cases b;rw [hrr _ (I.sm z zm),hs z zm,Bool.not_not]; exact ih z a
    ·cases b
  rw [hs x c2,this m x h1]
end
end Go.Proofs.YtegoimldbgdeiaaGreat
namespace Go.Proofs.YtegoimldbgdeiaaGreat
set_option maxRecDepth 100000
def akL (t:bk) (q:Int→Bool):List Int:=(bh t.1.length).filter q
def akM (t:bk) (q:Int→Bool):Nat:=(t.2.filter fun s=>q s.1).length
theorem ic {n:Nat} {x:Int}:x∈bh n↔0≤x∧x < (n:Int):=by
 unfold bh;rw [aak];constructor
 ·rintro ⟨i,hi,rfl⟩;rw [aas] at hi;omega
 ·rintro ⟨h1,h2⟩;exact ⟨x.toNat,aas.2 (by omega),by omega⟩
theorem AK (n:Nat):(bh n).Nodup:=by
 unfold bh;rw [List.Nodup,abv];exact List.Pairwise.imp (fun h e=>by omega) List.pairwise_lt_range
theorem GH {t:bk} {s:oN} (hs:s∈t.2):dJ (t.2.map qd) s.1=dJ (t.2.map qd) s.2.2.1:=
 (gC _ _ _).2 (.one (aak.2 ⟨s,hs,rfl⟩))
theorem XL {t:bk} (g:Gd t) (h:Fl):dJ (t.2.map qd) (EH t h).1.1=dJ (t.2.map qd) h.1.1:=by
 cases hm:fP t h.1 with
 |none=>rw [kC hm]; rfl
 |some y=>
  obtain ⟨o,w⟩:=y;rw [nH hm];obtain ⟨s,hs,_,⟨h1,h2⟩|⟨h1,h2⟩⟩:=(fW g).1 hm
  ·rw [← h1,← h2]; exact (GH hs).symm
  ·rw [← h1,← h2]; exact GH hs
section
variable {P:List xG} {S:List oN} {s:oN} (g:Gd (P,S++[s])) {q:Int→Bool} (hq:Qw (P,S++[s]) q)
include g hq
omit hq in
theorem XM {x y:Fl} (h:Cn (fun a b=>(a,b)∈QA (P,S) q (sA s) (sB s)) x y):dJ (S.map qd) x.1.1=dJ (S.map qd) y.1.1:=by
 refine Cn.bD (f:=fun h:Fl=>dJ (S.map qd) h.1.1) (fun u v e=>?_) h;rw [lV] at e;obtain ⟨_,e|⟨_,_,e⟩⟩:=e
 ·rw [e,H6]
 ·rw [e]; exact (XL g.low u).symm
theorem apart (hs:q s.1=true) (hn:dJ (S.map qd) s.1≠dJ (S.map qd) s.2.2.1):H8 (P,S++[s]) q+1=H8 (P,S) q:=by
 have ma:=fun x=>(nJ g hs hq x).1
 have mb:=fun x=>(nJ g hs hq x).2
 rw [OS g hq hs,OT g hq hs];have far:∀ x y,Cn (fun a b=>(a,b)∈QA (P,S) q (sA s) (sB s)) (sA s,x) (sB s,y)→False:=fun x y c=>hn (XM g c)
 have ca:Cn (fun a b=>(a,b)∈QA (P,S) q (sA s) (sB s)) (sA s,false) (sA s,true):=by
  obtain ⟨z,c,hz,df,_⟩:=vp g hq (ma false) (.inl rfl);rcases hz with hz|hz
  ·rcases jt hz with e|e
   ·exact absurd e df
   ·rw [← e]; exact c
  ·exfalso;rcases jt hz with e|e <;> rw [e] at c <;> exact far _ _ c
 have cb:Cn (fun a b=>(a,b)∈QA (P,S) q (sA s) (sB s)) (sB s,true == s.2.2.2.2) (sB s,false == s.2.2.2.2):=by
  obtain ⟨z,c,hz,df,_⟩:=vp g hq (mb (true == s.2.2.2.2)) (.inr rfl);rcases hz with hz|hz
  ·exfalso;rcases jt hz with e|e <;> rw [e] at c <;> exact far _ _ c.symm
  ·have:z=(sB s,false == s.2.2.2.2):=by
    rcases jt hz with e|e <;> rw [e] at df ⊢ <;> revert df <;> cases s.2.2.2.2 <;> simp
   rw [← this]; exact c
 exact Kg _ (ma _) (ma _) (mb _) (mb _) ((gC _ _ _).2 ca) ((gC _ _ _).2 cb) fun e=>far _ _ ((gC _ _ _).1 e)
theorem signed (hs:q s.1=true) (χ:Fl→Bool) (h1:∀ x,χ (e7 (P,S) x)=!χ x) (h2:∀ x∈nG (P,S) q,χ (EH (P,S) x)=!χ x) (h3:χ (sB s,false == s.2.2.2.2)=!χ (sA s,false)) :
  H8 (P,S++[s]) q+1=H8 (P,S) q∨H8 (P,S++[s]) q=H8 (P,S) q+1:=by
 have ma:=fun x=>(nJ g hs hq x).1
 have mb:=fun x=>(nJ g hs hq x).2
 have ne:=(g.tV s (aaa _ (aag.2 rfl))).2.2;obtain ⟨na,nb⟩:=g.last;have ta:χ (sA s,true)=!χ (sA s,false):=by
  have:=h2 _ (ma false);rw [kC na] at this; exact this
 have tb:χ (sB s,true == s.2.2.2.2)=χ (sA s,false):=by
  have:=h2 _ (mb (false == s.2.2.2.2));rw [kC nb] at this;have e:B1 (sB s,false == s.2.2.2.2)=(sB s,true == s.2.2.2.2):=by cases s.2.2.2.2 <;> rfl
  rw [e,h3,Bool.not_not] at this;exact this
 have fl:∀ z:Fl,(z.1=sA s∨z.1=sB s)→z=(sA s,false)∨z=(sA s,true)∨z=(sB s,false == s.2.2.2.2)∨z=(sB s,true == s.2.2.2.2):=by
  rintro z (hz|hz)
  ·rcases jt hz with e|e
   ·exact .inl e
   ·exact .inr (.inl e)
  ·rcases jt hz with e|e <;> rw [e] <;> cases s.2.2.2.2 <;> simp
 have nab:∀ x y,((sA s,x):Fl)≠(sB s,y):=fun x y e=>ne (congrArg abt e)
 rw [OS g hq hs,OT g hq hs];obtain ⟨z,c,hz,df,only,col⟩:=vp g hq (ma false) (.inl rfl);have cz:=col χ (fun x _=>h1 x) h2;have bne:∀ b:Bool,b=!b→False:=fun b=>by cases b <;> decide
 rcases fl z hz with e|e|e|e
 ·exact absurd e df
 ·left;rw [e] at c only;have cb:Cn (fun a b=>(a,b)∈QA (P,S) q (sA s) (sB s)) (sB s,true == s.2.2.2.2) (sB s,false == s.2.2.2.2):=by
   obtain ⟨y,d,hy,hny,_,cy⟩:=vp g hq (mb (true == s.2.2.2.2)) (.inr rfl);have cy:=cy χ (fun x _=>h1 x) h2;rcases fl y hy with f|f|f|f
   ·exfalso;rw [f] at cy;rw [tb] at cy;exact bne _ cy
   ·exfalso;rw [f] at d;rcases only _ (mb _) (c.trans d.symm) (.inr rfl) with k|k
    ·exact nab _ _ k.symm
    ·exact nab _ _ k.symm
   ·rw [← f]; exact d
   ·exact absurd f hny
  refine Kg _ (ma _) (ma _) (mb _) (mb _) ((gC _ _ _).2 c) ((gC _ _ _).2 cb) fun k=>?_
  rcases only _ (mb _) ((gC _ _ _).1 k) (.inr rfl) with k|k
  ·exact nab _ _ k.symm
  ·exact nab _ _ k.symm
 ·right;rw [e] at c only;have cb:Cn (fun a b=>(a,b)∈QA (P,S) q (sA s) (sB s)) (sA s,true) (sB s,true == s.2.2.2.2):=by
   obtain ⟨y,d,hy,hny,_,cy⟩:=vp g hq (ma true) (.inl rfl);have cy:=cy χ (fun x _=>h1 x) h2;rcases fl y hy with f|f|f|f
   ·exfalso;rw [f] at d;rcases only _ (ma _) d.symm (.inl rfl) with k|k
    ·injection k with _ k; cases k
    ·exact nab _ _ k
   ·exact absurd f hny
   ·exfalso;rw [f,h3,ta] at cy;exact bne _ cy
   ·rw [← f]; exact d
  refine TP _ (ma _) (ma _) (mb _) (mb _) ((gC _ _ _).2 c) ((gC _ _ _).2 cb) fun k=>?_
  rcases only _ (ma _) ((gC _ _ _).1 k) (.inl rfl) with k|k
  ·injection k with _ k; cases k
  ·exact nab _ _ k
 ·exfalso;rw [e,tb] at cz;exact bne _ cz
end
end Go.Proofs.YtegoimldbgdeiaaGreat
namespace Go.Proofs.YtegoimldbgdeiaaGreat
set_option maxRecDepth 100000
theorem Ks {α:Type} {f:α→Option α} {x y:α} (h:f x=some y):∀ n,pX f x (n+1)=pX f y n
 |0=>h
 |n+1=>by
  show (pX f x (n+1)).bind f=_;rw [Ks h n]; rfl
def Iu (t:bk):Nat→Fl→Fl
 |0,h=>e7 t h
 |n+1,h=>match lx t (e7 t h) with | none=>e7 t h | some y=>Iu t n y
def nK (t:bk):Nat:=(nG t fun _=>true).length
def tQ (t:bk) (h:Fl):Fl:=B1 (Iu t (nK t) h)
theorem Nj {t:bk}:∀ (m n:Nat) (h x:Fl),m≤n→pX (fun x=>lx t (e7 t x)) h m=some x→lx t (e7 t x)=none→Iu t n h=e7 t x
 |0,n,h,x,_,h1,h2=>by
  cases h1;cases n with
  |zero=>rfl
  |succ n=>unfold Iu; rw [h2]
 |m+1,0,_,_,hn,_,_=>absurd hn (by omega)
 |m+1,n+1,h,x,hn,h1,h2=>by
  unfold Iu;cases hm:lx t (e7 t h) with
  |none=>
   obtain ⟨z,hz⟩:=qz (f:=fun x=>lx t (e7 t x)) 1 x m (by rw [Nat.add_comm]; exact h1);obtain ⟨w,a,b⟩:=hX hz;cases a;have b:lx t (e7 t h)=some z:=b;rw [hm] at b; cases b
  |some y=>
   rw [Ks (f:=fun x=>lx t (e7 t x)) hm] at h1;exact Nj m n y x (by omega) h1 h2
def lW (t:bk) (h:Fl):Prop:=eK t h.1=true∧fP t h.1=none
theorem Ia {t:bk} {h:Fl}:lx t h=none↔fP t h.1=none:=by
 unfold lx;cases fP t h.1 <;> simp
theorem vS {t:bk} {e:Int × Int}:e∈bf t↔eK t e=true∧fP t e=none:=by
 unfold bf;rw [abK,gT,Option.isNone_iff_eq_none];unfold fP;rw [Option.map_eq_none_iff]
section
variable {t:bk} (g:Gd t)
include g
omit g in
theorem T6 (t:bk):Qw t fun _=>true:=fun _ _=>rfl
theorem ZB {h:Fl} (hf:lW t h):∃ m x,m≤nK t∧pX (fun x=>lx t (e7 t x)) h m=some x∧lx t (e7 t x)=none∧Iu t (nK t) h=e7 t x∧eK t x.1=true:=by
 have I:=inv2 g (T6 t);have hm:h∈nG t fun _=>true:=dW.2 ⟨hf.1,rfl⟩
 obtain ⟨m,x,h1,h2,h3⟩:=I.ends hm (Ia.2 hf.2);have hx:=kd (f:=fun x=>lx t (e7 t x)) hm I.cl m x h2;exact ⟨m,x,Nat.le_of_lt h1,h2,h3,Nj m _ h x (Nat.le_of_lt h1) h2 h3,(dW.1 hx).1⟩
theorem XN {h:Fl} (hf:lW t h):lW t (Iu t (nK t) h):=by
 obtain ⟨m,x,_,_,h3,e,hx⟩:=ZB g hf;rw [e];exact ⟨H7 hx,Ia.1 h3⟩
theorem agR {h:Fl} (hf:lW t h):Iu t (nK t) h≠h:=by
 have I:=inv2 g (T6 t);obtain ⟨m,x,_,h2,h3,e,hx⟩:=ZB g hf;rw [e];exact I.other (dW.2 ⟨hf.1,rfl⟩) h2
theorem agS {h:Fl} (hf:lW t h):Iu t (nK t) (Iu t (nK t) h)=h:=by
 have I:=inv2 g (T6 t);obtain ⟨m,x,hm,h2,h3,e,hx⟩:=ZB g hf;rw [e];have r:=I.rev (dW.2 ⟨hf.1,rfl⟩) h2 m (Nat.le_refl _) h (by rw [Nat.sub_self]; rfl);rw [Nj m _ (e7 t x) (e7 t h) hm r (by rw [Ni hf.1]; exact Ia.2 hf.2),Ni hf.1]
omit g in
theorem GI (h:Fl):B1 (B1 h)=h:=by
 obtain ⟨e,b⟩:=h;cases b <;> rfl
omit g in
theorem agT (h:Fl):B1 h≠h:=by
 obtain ⟨e,b⟩:=h;cases b <;> exact fun e=>nomatch (congrArg Prod.snd e)
omit g in
theorem OU {h:Fl} (hf:lW t h):lW t (B1 h):=hf
omit g in
theorem ZC {x y:Fl} (h:x.1=y.1):x=y∨x=B1 y:=by
 obtain ⟨e,b⟩:=x;obtain ⟨f,c⟩:=y;have h:e=f:=h;subst h;cases b <;> cases c
 ·exact .inl rfl
 ·exact .inr rfl
 ·exact .inr rfl
 ·exact .inl rfl
theorem XO {h:Fl} (hf:lW t h):lW t (tQ t h):=OU (XN g hf)
theorem zB {h:Fl} (hf:lW t h):tQ t (B1 (tQ t h))=B1 h:=by
 unfold tQ;rw [GI,agS g hf]
theorem agU {h:Fl} (hf:lW t h):tQ t h≠B1 h:=by
 unfold tQ;intro e;exact agR g hf (by rw [← GI (Iu t (nK t) h),e,GI])
theorem ads {h k:Fl} (hf:lW t h) (kf:lW t k) (e:tQ t h=tQ t k):h=k:=by
 have a:=zB g hf;rw [e,zB g kf] at a;rw [← GI h,← a,GI]
omit g in
def jD (t:bk) (b:Int × Int):Nat→Fl
 |0=>(b,false)
 |n+1=>tQ t (jD t b n)
theorem qC {b:Int × Int} (hb:b∈bf t):∀ n,lW t (jD t b n)
 |0=>vS.1 hb
 |n+1=>XO g (qC hb n)
omit g in
theorem least {P:Nat→Prop}:∀ n,P n→∃ m,P m∧m≤n∧∀ k,k < m→¬ P k
 |n,h=>by
  by_cases c:∃ k,k < n∧P k
  ·obtain ⟨k,hk,hp⟩:=c;obtain ⟨m,a,b,d⟩:=least k hp;exact ⟨m,a,by omega,d⟩
  ·exact ⟨n,h,Nat.le_refl _,fun k hk hp=>c ⟨k,hk,hp⟩⟩
theorem akP {b:Int × Int} (hb:b∈bf t):∃ k,1≤k∧k≤(bf t).length∧jD t b k=(b,false)∧∀ i j,i < j→j < k→(jD t b i).1≠(jD t b j).1:=by
 have ex:∃ j,j≤(bf t).length∧∃ i,i < j∧(jD t b i).1=(jD t b j).1:=by
  apply abx;intro hc;have nd:((List.range ((bf t).length+1)).map fun i=>(jD t b i).1).Nodup:=by
   rw [List.Nodup,abv];refine abz (R:=(· < ·)) ?_ List.pairwise_lt_range;intro i j _ hj hij e;rw [aas] at hj;exact hc ⟨j,by omega,i,hij,e⟩
  have:=EB nd (m:=bf t) (fun x hx=>by
   obtain ⟨i,_,rfl⟩:=aak.1 hx;exact vS.2 (qC g hb i))
  rw [abL,List.length_range] at this;omega
 obtain ⟨j0,hj0,hi0⟩:=ex;obtain ⟨j,⟨i,hij,e⟩,hj,low⟩:=least (P:=fun j=>∃ i,i < j∧(jD t b i).1=(jD t b j).1) j0 hi0;have low:∀ i' j',i' < j'→j' < j→(jD t b i').1≠(jD t b j').1:=fun i' j' h1 h2 h3=>low j' h2 ⟨i',h1,h3⟩
 have fi:=qC g hb;obtain ⟨j,rfl⟩:∃ j',j=j'+1:=⟨j - 1,by omega⟩;rcases ZC e.symm with c|c
 ·cases i with
  |zero=>exact ⟨j+1,by omega,by omega,c,low⟩
  |succ i=>
   have:=ads g (fi j) (fi i) c;exact absurd (by rw [this]) (low i j (by omega) (by omega))
 ·exfalso;have c:tQ t (jD t b j)=B1 (jD t b i):=c;have d:=zB g (fi j);rw [c,GI] at d;have d:jD t b (i+1)=B1 (jD t b j):=d;have d1:(jD t b (i+1)).1=(jD t b j).1:=by rw [d]; rfl
  rcases Nat.lt_trichotomy (i+1) j with h|h|h
  ·exact low (i+1) j h (by omega) d1
  ·rw [h] at d;exact agT _ d.symm
  ·have:i=j:=by omega
   subst this;exact agU g (fi i) c
omit g in
def T7 (t:bk) (b:Int × Int):Nat→Fl→List (Int × Int)
 |0,_=>[]
 |n+1,h=>h.1 :: (if (tQ t h).1=b then [] else T7 t b n (tQ t h))
def pS (t:bk) (b:Int × Int):List (Int × Int):=T7 t b (bf t).length (b,false)
omit g in
theorem OV {b:Int × Int} {k:Nat} (h1:(jD t b k).1=b) (h2:∀ j,0 < j→j < k→(jD t b j).1≠b):∀ (d i n:Nat),i+d=k→0 < d→d≤n→T7 t b n (jD t b i)=(List.range d).map fun j=>(jD t b (i+j)).1
 |0,_,_,_,h,_=>absurd h (by omega)
 |d+1,i,0,_,_,h=>absurd h (by omega)
 |d+1,i,n+1,h,_,hn=>by
  unfold T7;rw [abN,abO,List.map_map];congr 1;show (if (jD t b (i+1)).1=b then [] else T7 t b n (jD t b (i+1)))=_;cases d with
  |zero=>
   rw [show i+1=k by omega,if_pos h1]; rfl
  |succ d=>
   rw [if_neg (h2 (i+1) (by omega) (by omega)),OV h1 h2 (d+1) (i+1) n (by omega) (by omega) (by omega)];refine abR fun j _=>?_
   show _=(jD t b (i+(j+1))).1;rw [show i+1+j=i+(j+1) by omega]
theorem sy {b:Int × Int} (hb:b∈bf t):∃ k,1≤k∧k≤(bf t).length∧jD t b k=(b,false)∧(∀ i j,i < j→j < k→(jD t b i).1≠(jD t b j).1)∧pS t b=(List.range k).map (fun j=>(jD t b j).1)∧∀ j,0 < j→j < k→(jD t b j).1≠b:=by
 obtain ⟨k,h1,h2,h3,h4⟩:=akP g hb;have hn:∀ j,0 < j→j < k→(jD t b j).1≠b:=fun j a c e=>h4 0 j a c e.symm
 refine ⟨k,h1,h2,h3,h4,?_,hn⟩;have:=OV (t:=t) (b:=b) (by rw [h3]) hn k 0 (bf t).length (by omega) h1 h2;unfold pS;have e:jD t b 0=(b,false):=rfl;rw [← e,this];exact abR fun j _=>by rw [Nat.zero_add]
theorem adt {b:Int × Int} (hb:b∈bf t):(pS t b).Nodup:=by
 obtain ⟨k,_,_,_,h4,e,_⟩:=sy g hb;rw [e,List.Nodup,abv];refine abz (R:=(· < ·)) ?_ List.pairwise_lt_range;intro i j _ hj hij;exact h4 i j hij (aas.1 hj)
theorem EJ {b:Int × Int} (hb:b∈bf t):∃ l,pS t b=b :: l:=by
 obtain ⟨k,h1,_,_,_,e,_⟩:=sy g hb;obtain ⟨k,rfl⟩:∃ k',k=k'+1:=⟨k - 1,by omega⟩;rw [e,abN,abO];exact ⟨_,rfl⟩
def Ua (t:bk) (U:List (Int × Int)):Prop:=∀ h:Fl,lW t h→h.1∈U→(tQ t h).1∈U
theorem Ub {b:Int × Int} (hb:b∈bf t):Ua t (pS t b):=by
 obtain ⟨k,h1,_,h3,_,ec,_⟩:=sy g hb;have inC:∀ j,j≤k→(jD t b j).1∈pS t b:=fun j hj=>by
  rw [ec,aak];rcases Nat.lt_or_ge j k with c|c
  ·exact ⟨j,aas.2 c,rfl⟩
  ·refine ⟨0,aas.2 h1,?_⟩;have:j=k:=by omega
   rw [this,h3]; rfl
 intro h hf hh;rw [ec,aak] at hh;obtain ⟨j,hj,e⟩:=hh;rw [aas] at hj;rcases ZC e.symm with c|c
 ·rw [c]; exact inC (j+1) hj
 ·rw [c];have:∃ i,i < k∧jD t b j=tQ t (jD t b i):=by
   cases j with
   |zero=>exact ⟨k - 1,by omega,by rw [show jD t b 0=(b,false) from rfl,← h3]; show jD t b k=jD t b (k - 1+1); rw [show k - 1+1=k by omega]⟩
   |succ j=>exact ⟨j,by omega,rfl⟩
  obtain ⟨i,hi,e2⟩:=this;rw [e2,zB g (qC g hb i)];exact inC i (by omega)
theorem AL {b:Int × Int} (hb:b∈bf t) {U:List (Int × Int)} (hU:Ua t U) (hn:b∉U):∀ e∈pS t b,e∉U:=by
 obtain ⟨k,h1,_,h3,_,ec,_⟩:=sy g hb;have:∀ j,(jD t b j).1∉U:=by
  intro j
  induction j with
  |zero=>exact hn
  |succ j ih=>
   intro hj;have:=hU (B1 (jD t b (j+1))) (OU (qC g hb (j+1))) hj;have e:tQ t (B1 (jD t b (j+1)))=B1 (jD t b j):=zB g (qC g hb j);rw [e] at this;exact ih this
 intro e he;rw [ec,aak] at he;obtain ⟨j,_,rfl⟩:=he;exact this j
omit g in
def Ct (t:bk) (s:List (List (Int × Int)) × List (Int × Int)) (b:Int × Int):List (List (Int × Int)) × List (Int × Int):=if b∈s.2 then s else (s.1++[pS t b],s.2++pS t b)
def qD (t:bk):List (List (Int × Int)):=((bf t).foldl (Ct t) ([],[])).1
structure Iv (t:bk) (l:List (Int × Int)) (s:List (List (Int × Int)) × List (Int × Int)):Prop where
 flat:s.2=s.1.flatten
 nd:s.2.Nodup
 Uc:Ua t s.2
 all:∀ b∈l,b∈s.2
 Bz:∀ c∈s.1,∃ b∈l,c=pS t b
 head:(s.1.map fun c=>c.getD 0 (0,0)).Sublist l
 new:s.1.Pairwise fun c d=>∀ e∈c,e∉d
theorem Iv.step {l:List (Int × Int)} {s:List (List (Int × Int)) × List (Int × Int)} {b:Int × Int} (h:Iv t l s) (hb:b∈bf t):Iv t (l++[b]) (Ct t s b):=by
 unfold Ct;by_cases c:b∈s.2
 ·rw [if_pos c];exact ⟨h.flat,h.nd,h.Uc,fun x hx=>(aaq.1 hx).elim (h.all x) fun k=>by rw [aag.1 k]; exact c,fun x hx=>by
   obtain ⟨y,hy,e⟩:=h.Bz x hx;exact ⟨y,aah _ hy,e⟩,h.head.trans (List.sublist_append_left _ _),h.new⟩
 ·rw [if_neg c];have ap:=AL g hb h.Uc c;obtain ⟨r,hr⟩:=EJ g hb;refine ⟨?_,?_,?_,?_,?_,?_,?_⟩
  ·show s.2++pS t b=_;rw [h.flat,List.flatten_append]; simp
  ·rw [abw];exact ⟨h.nd,adt g hb,fun x hx y hy e=>ap y hy (by rw [← e]; exact hx)⟩
  ·intro x hx hm;rcases aaq.1 hm with hm|hm
   ·exact aah _ (h.Uc x hx hm)
   ·exact aaa _ (Ub g hb x hx hm)
  ·intro x hx;rcases aaq.1 hx with hx|hx
   ·exact aah _ (h.all x hx)
   ·rw [aag.1 hx];exact aaa _ (by rw [hr]; exact aar)
  ·intro x hx;rcases aaq.1 hx with hx|hx
   ·obtain ⟨y,hy,e⟩:=h.Bz x hx;exact ⟨y,aah _ hy,e⟩
   ·exact ⟨b,aaa _ (aag.2 rfl),aag.1 hx⟩
  ·show ((s.1++[pS t b]).map _).Sublist _;rw [List.map_append];refine h.head.append ?_;rw [hr];exact List.Sublist.refl _
  ·rw [aaN];refine ⟨h.new,List.pairwise_singleton _ _,?_⟩;intro x hx y hy e he hc;rw [aag.1 hy] at hc;refine ap e hc ?_;rw [h.flat,List.mem_flatten];exact ⟨x,hx,he⟩
theorem Iv.fold:∀ (l p:List (Int × Int)) (s:List (List (Int × Int)) × List (Int × Int)),(∀ x∈p++l,x∈bf t)→Iv t p s→Iv t (p++l) (l.foldl (Ct t) s)
 |[],p,s,_,h=>by rw [abp]; exact h
 |b :: l,p,s,hl,h=>by
  have:=Iv.fold l (p++[b]) (Ct t s b) (by rw [aaG]; exact hl) (h.step g (hl b (aaa _ aar)));rw [aaG] at this;exact this
omit g in
theorem Iv.nil:Iv t [] ([],[]):=⟨rfl,List.nodup_nil,fun _ _ h=>(nomatch h),fun _ h=>(nomatch h),fun _ h=>(nomatch h),List.Sublist.refl _,List.Pairwise.nil⟩
theorem GJ:Iv t (bf t) ((bf t).foldl (Ct t) ([],[])):=by
 have:=Iv.fold g (bf t) [] ([],[]) (fun x hx=>hx) Iv.nil;exact this
end
end Go.Proofs.YtegoimldbgdeiaaGreat
namespace Go.Proofs.YtegoimldbgdeiaaGreat
set_option maxRecDepth 100000
def fE (t:bk) (q:Int→Bool):List (Fl × Fl):=(nG t q).map (fun h=>(h,e7 t h))++(nG t q).filterMap (fun h=>(lx t h).map fun y=>(h,y))
def XP (t:bk) (q:Int→Bool):Nat:=Cp (dJ (fE t q)) (nG t q)
theorem Nk {t:bk} {q:Int→Bool} {x y:Fl}:(x,y)∈fE t q↔x∈nG t q∧(y=e7 t x∨lx t x=some y):=by
 unfold fE;rw [aaq,aak,List.mem_filterMap];constructor
 ·rintro (⟨h,hh,e⟩|⟨h,hh,e⟩)
  ·injection e with e1 e2;subst e1; exact ⟨hh,.inl e2.symm⟩
  ·rw [Option.map_eq_some_iff] at e;obtain ⟨z,hz,e⟩:=e;injection e with e1 e2;subst e1; subst e2; exact ⟨hh,.inr hz⟩
 ·rintro ⟨hh,e|e⟩
  ·exact .inl ⟨x,hh,by rw [e]⟩
  ·exact .inr ⟨x,hh,by rw [e]; rfl⟩
theorem AM {α:Type}:∀ l:List α,(l.flatMap fun e=>[(e,true),(e,false)]).length=2 * l.length
 |[]=>rfl
 |a :: l=>by
  rw [List.flatMap_cons,abu,AM l,abA,abA,abA,List.length_nil]; omega
section
variable {t:bk} (g:Gd t) {q:Int→Bool} (hq:Qw t q)
include g hq
end
end Go.Proofs.YtegoimldbgdeiaaGreat
namespace Go.Proofs.YtegoimldbgdeiaaGreat
open Go Go.Am
open List (map)
open Int (toNat)
open Go.IntKind (wrap)
open Go.Am.aM (fits)
set_option maxRecDepth 100000
section
variable {K:Type} [DecidableEq K]
theorem vT (f:Int→Int) (k:K):∀ m:List (K × Int),getM k (m.map fun e=>(e.1,f e.2))=(getM k m).map f
 |[]=>rfl
 |(k1,v1) :: m=>by
  show (if k=k1 then some (f v1) else getM k (m.map fun e=>(e.1,f e.2)))=(if k=k1 then some v1 else getM k m).map f;by_cases h:k=k1
  ·rw [if_pos h,if_pos h]; rfl
  ·rw [if_neg h,if_neg h]; exact vT f k m
theorem zC {k:K} {m:List (K × Int)} (h:k∈m.map abt):∃ v,getM k m=some v:=by
 cases hm:getM k m with
 |none=>exact absurd h (getM_none.1 hm)
 |some v=>exact ⟨v,rfl⟩
theorem Ib:∀ (m:List (K × Int)) (i:Nat) (hi:i < m.length),(m.map abt).Nodup→getM m[i].1 m=some m[i].2
 |(k,v) :: m,0,_,_=>by simp [getM]
 |(k,v) :: m,i+1,hi,hn=>by
  rw [abO,List.nodup_cons] at hn;have sQ:i < m.length:=Nat.lt_of_succ_lt_succ hi;show (if m[i].1=k then some v else getM m[i].1 m)=some m[i].2;rw [if_neg fun e=>hn.1 (by rw [← e]; exact aak.2 ⟨m[i],abJ sQ,rfl⟩)];exact Ib m i sQ hn.2
def xC (p:List K) (m:List (K × Int)):Prop:=m.map abt=p∧∀ (i:Nat) (h:i < p.length),getM p[i] m=some (i:Int)
theorem xC.put {p:List K} {m:List (K × Int)} (h:xC p m) {x:K} (hx:x∉p):xC (p++[x]) (gl x (p.length:Int) m):=by
 refine ⟨?_,?_⟩
 ·rw [vK,h.1,if_neg hx]
 ·intro i hi;rw [JU];rw [abu,List.length_singleton] at hi;rcases Nat.lt_or_ge i p.length with c|c
  ·rw [List.getElem_append_left c,if_neg fun e=>hx (by rw [← e]; exact abJ c)];exact h.2 i c
  ·have:i=p.length:=by omega
   subst this;rw [if_pos (by rw [List.getElem_append_right (Nat.le_refl _)]; simp)]
theorem xC.val {p:List K} {m:List (K × Int)} (h:xC p m) {x:K} (hx:x∈p):∃ i,∃ hi:i < p.length,p[i]=x∧aK m x=(i:Int):=by
 obtain ⟨i,hi,e⟩:=List.getElem_of_mem hx;refine ⟨i,hi,e,?_⟩;unfold aK;rw [← e,h.2 i hi]; rfl
theorem xC.inj {p:List K} {m:List (K × Int)} (h:xC p m) {x y:K} (hx:x∈p) (hy:y∈p) (e:aK m x=aK m y):x=y:=by
 obtain ⟨i,hi,e1,e2⟩:=h.val hx;obtain ⟨j,hj,e3,e4⟩:=h.val hy;rw [e2,e4] at e;have:i=j:=by omega
 subst this;rw [← e1,← e3]
theorem Kt:∀ (l p:List K) (s:List (K × Int) × Int),(p++l).Nodup→xC p s.1→s.2=(p.length:Int)→xC (p++l) (l.foldl (fun s x=>(gl x s.2 s.1,s.2+1)) s).1
 |[],p,s,_,h,_=>by rw [abp]; exact h
 |x :: l,p,s,hn,h,hs=>by
  have hx:x∉p:=fun c=>(abw.1 hn).2.2 x c x aar rfl
  have:=Kt l (p++[x]) (gl x s.2 s.1,s.2+1) (by rw [aaG]; exact hn) (by
   show xC _ (gl x s.2 s.1);rw [hs]; exact h.put hx) (by rw [abu,hs]; simp)
  rw [aaG] at this;exact this
theorem QB {l:List K} (h:l.Nodup):xC l (mu l):=by
 have:=Kt l [] ([],0) h ⟨rfl,fun i hi=>absurd hi (Nat.not_lt_zero _)⟩ rfl;exact this
theorem EL (a b g k:Int):xu a b g=xu a b k↔g=k∨(g=a∧k=b)∨(g=b∧k=a):=by
 have key:∀ g,xu a b g=if b > a∧g=b then a else if b < a∧g=a then b else g:=by
  intro g;unfold xu P8 Wx;by_cases h1:b > a
  ·have h2:¬ b < a:=by omega
   simp only [h1,h2,if_true,if_false,true_and,false_and]
  ·by_cases h2:b < a
   ·simp only [h1,h2,if_true,if_false,true_and,false_and]
   ·simp only [h1,h2,if_false,false_and];split
    ·omega
    ·rfl
 rw [key,key];rcases Int.lt_trichotomy a b with h|h|h
 ·have h2:¬ b < a:=by omega
  simp only [show b > a from h,h2,true_and,false_and,if_false];split <;> split <;> omega
 ·have h1:¬ b > a:=by omega
  have h2:¬ b < a:=by omega
  simp only [h1,h2,false_and,if_false];omega
 ·have h1:¬ b > a:=by omega
  simp only [h1,h,false_and,true_and,if_false];split <;> split <;> omega
structure AN (l:List K) (F:K→K→Prop) (m:List (K × Int)):Prop where
 keys:m.map abt=l
 inl:∀ x y,F x y→x∈l∧y∈l
 QC:∀ x∈l,∀ y∈l,(aK m x=aK m y↔Cn F x y)
theorem AN.step {l:List K} {F:K→K→Prop} {m:List (K × Int)} (h:AN l F m) {p:K × K} (h1:p.1∈l) (h2:p.2∈l):AN l (fun a b=>F a b∨(a,b)=p) (kA m p):=by
 have val:∀ x∈l,aK (kA m p) x=xu (aK m p.1) (aK m p.2) (aK m x):=fun x hx=>by
  unfold kA;show (getM x (m.map _)).getD 0=_;rw [vT];obtain ⟨v,hv⟩:=zC (m:=m) (k:=x) (by rw [h.keys]; exact hx);unfold aK;rw [hv]; rfl
 refine ⟨by rw [vN]; exact h.keys,?_,fun x hx y hy=>?_⟩
 ·rintro x y (e|e)
  ·exact h.inl x y e
  ·rw [← e] at h1 h2; exact ⟨h1,h2⟩
 ·rw [val x hx,val y hy,EL];have up:∀ a b,Cn F a b→Cn (fun a b=>F a b∨(a,b)=p) a b:=fun a b k=>Cn.mono (fun _ _ e=>.one (.inl e)) k
  have pe:Cn (fun a b=>F a b∨(a,b)=p) p.1 p.2:=.one (.inr rfl);constructor
  ·rintro (e|⟨e,f⟩|⟨e,f⟩)
   ·exact up _ _ ((h.QC x hx y hy).1 e)
   ·exact (up _ _ ((h.QC x hx _ h1).1 e)).trans (pe.trans (up _ _ ((h.QC y hy _ h2).1 f)).symm)
   ·exact (up _ _ ((h.QC x hx _ h2).1 e)).trans (pe.symm.trans (up _ _ ((h.QC y hy _ h1).1 f)).symm)
  ·intro k;rw [← EL];refine Cn.bD (f:=fun z=>xu (aK m p.1) (aK m p.2) (aK m z)) (fun u v e=>?_) k;show xu _ _ (aK m u)=xu _ _ (aK m v);rw [EL];rcases e with e|e
   ·obtain ⟨hu,hv⟩:=h.inl u v e;exact .inl ((h.QC u hu v hv).2 (.one e))
   ·rw [← e]; exact .inr (.inl ⟨rfl,rfl⟩)
theorem AN.fold {l:List K}:∀ (ps:List (K × K)) (F:K→K→Prop) (m:List (K × Int)),AN l F m→(∀ p∈ps,p.1∈l∧p.2∈l)→AN l (fun a b=>F a b∨(a,b)∈ps) (ps.foldl kA m)
 |[],F,m,h,_=>by
  have e:(fun a b=>F a b∨(a,b)∈([]:List (K × K)))=F:=by
   funext a b;exact propext ⟨fun k=>k.resolve_right (fun c=>nomatch c),.inl⟩
  rw [e]; exact h
 |p :: ps,F,m,h,hp=>by
  have:=AN.fold ps _ (kA m p) (h.step (hp p aar).1 (hp p aar).2) (fun x hx=>hp x (abr _ hx));have e:(fun a b=>(F a b∨(a,b)=p)∨(a,b)∈ps)=(fun a b=>F a b∨(a,b)∈p :: ps):=by
   funext a b;rw [aaF,or_assoc]
  rw [e] at this;exact this
theorem AN.first {l:List K} (h:l.Nodup):AN l (fun _ _=>False) (mu l):=by
 have n:=QB h;refine ⟨n.1,fun _ _ k=>k.elim,fun x hx y hy=>⟨fun e=>?_,fun c=>?_⟩⟩
 ·rw [n.inj hx hy e]; exact .refl _
 ·exact Cn.bD (fun _ _ k=>k.elim) c
theorem AO (m:List (K × Int)):∀ (l:List K) (p:List Int) (ns:List (Int × Int)),p.Nodup→xC p ns→∃ r,(p++r).Nodup∧xC (p++r) (l.foldl (rY m) ns)∧(∀ x∈l,aK m x∈p++r)∧∀ v∈r,∃ x∈l,aK m x=v
 |[],p,ns,hn,h=>⟨[],by rw [abp]; exact hn,by rw [abp]; exact h,fun _ k=>(nomatch k),fun _ k=>(nomatch k)⟩
 |x :: l,p,ns,hn,h=>by
  rw [List.foldl_cons];unfold rY;have len:ns.length=p.length:=by rw [← h.1,abL]
  by_cases c:aK m x∈p
  ·obtain ⟨v,hv⟩:=zC (m:=ns) (k:=aK m x) (by rw [h.1]; exact c);rw [if_pos (by rw [hv]; rfl)];obtain ⟨r,h1,h2,h3,h4⟩:=AO m l p ns hn h;refine ⟨r,h1,h2,fun y hy=>?_,fun v hv=>?_⟩
   ·rcases aaF.1 hy with e|e
    ·rw [e]; exact aah _ c
    ·exact h3 y e
   ·obtain ⟨y,hy,e⟩:=h4 v hv;exact ⟨y,abr _ hy,e⟩
  ·have hv:getM (aK m x) ns=none:=getM_none.2 (by rw [h.1]; exact c);rw [if_neg (by rw [hv]; decide),len];obtain ⟨r,h1,h2,h3,h4⟩:=AO m l (p++[aK m x]) (gl (aK m x) (p.length:Int) ns) (abw.2 ⟨hn,by simp,fun a ha b hb e=>c (by rw [← aag.1 hb,← e]; exact ha)⟩) (h.put c);have e:p++[aK m x]++r=p++(aK m x :: r):=by simp
   rw [e] at h1 h2 h3;refine ⟨aK m x :: r,h1,h2,fun y hy=>?_,fun v hv=>?_⟩
   ·rcases aaF.1 hy with e|e
    ·rw [e]; exact aaa _ aar
    ·exact h3 y e
   ·rcases aaF.1 hv with e|e
    ·exact ⟨x,aar,e.symm⟩
    ·obtain ⟨y,hy,e⟩:=h4 v e;exact ⟨y,abr _ hy,e⟩
theorem nL {l:List K} (hl:l.Nodup) {ps:List (K × K)} (hp:∀ p∈ps,p.1∈l∧p.2∈l) :
  (eN l ps).map abt=l∧(∀ x∈l,∀ y∈l,(aK (eN l ps) x=aK (eN l ps) y↔Cn (fun a b=>(a,b)∈ps) x y)) ∧
  ∃ n:Nat,n≤l.length∧(∀ x∈l,∃ k:Nat,k < n∧aK (eN l ps) x=(k:Int)∧getM x (eN l ps)=some (k:Int))∧∀ k,k < n→∃ x∈l,aK (eN l ps) x=(k:Int):=by
 have u:=AN.fold ps _ _ (AN.first hl) hp;obtain ⟨m,hm⟩:∃ m,m=ps.foldl kA (mu l):=⟨_,rfl⟩;rw [← hm] at u;obtain ⟨r,h1,h2,h3,h4⟩:=AO m l [] [] List.nodup_nil ⟨rfl,fun i hi=>absurd hi (Nat.not_lt_zero _)⟩;rw [List.nil_append] at h1 h2 h3;have e:eN l ps=m.map fun e=>(e.1,aK (l.foldl (rY m) []) e.2):=by unfold eN; rw [hm]
 obtain ⟨ns,hns⟩:∃ ns,ns=l.foldl (rY m) []:=⟨_,rfl⟩;rw [← hns] at e h2;have get:∀ x∈l,getM x (eN l ps)=some (aK ns (aK m x)):=fun x hx=>by
  rw [e,vT];obtain ⟨v,hv⟩:=zC (m:=m) (k:=x) (by rw [u.keys]; exact hx);rw [hv];unfold aK;rw [hv]; rfl
 have val:∀ x∈l,aK (eN l ps) x=aK ns (aK m x):=fun x hx=>by
  rw [aK,get x hx]; rfl
 refine ⟨by rw [e,JW]; exact u.keys,fun x hx y hy=>?_,r.length,?_,fun x hx=>?_,fun k hk=>?_⟩
 ·rw [val x hx,val y hy];constructor
  ·intro k;have:=(u.QC x hx y hy).1 (h2.inj (h3 x hx) (h3 y hy) k);exact Cn.mono (fun a b c=>.one (c.resolve_left id)) this
  ·intro c;rw [(u.QC x hx y hy).2 (Cn.mono (fun a b c=>.one (.inr c)) c)]
 ·have:=EB h1 (m:=l.map (aK m)) fun v hv=>by
   obtain ⟨x,hx,e⟩:=h4 v hv;exact aak.2 ⟨x,hx,e⟩
  rwa [abL] at this
 ·obtain ⟨i,hi,_,e2⟩:=h2.val (h3 x hx);exact ⟨i,hi,by rw [val x hx,e2],by rw [get x hx,e2]⟩
 ·obtain ⟨x,hx,e1⟩:=h4 r[k] (abJ hk);refine ⟨x,hx,?_⟩;rw [val x hx,e1];unfold aK;rw [h2.2 k hk]; rfl
end
end Go.Proofs.YtegoimldbgdeiaaGreat
