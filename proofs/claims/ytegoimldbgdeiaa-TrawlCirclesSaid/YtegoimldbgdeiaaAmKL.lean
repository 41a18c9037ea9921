/- The abstract machine: what the evaluator finds is so. -/
import Derived.Test.YtegoimldbgdeiaaAmKK
import GoSem.ClaimJoined
import Derived.Below
import Derived.ChangeSame
import Derived.Carry
import Derived.RowKit
import Derived.FnData
import Derived.Lib.Builder
import Derived.Lib.UnsafeStr
set_option linter.all false
open Bool renaming and_eq_true→aal
open Go.DataW renaming trod→aat, TrodAll→aaM
open Go.Field renaming offset→aa0
open Go.Value renaming oneCell'→aay, okWide→aaA
open List renaming getElem?_range→aav, range→aax, mem_cons→aaT
open Nat renaming eq_of_beq_eq_true→aas, lt_succ_self→aau, beq→aaK
open Option.some renaming inj→aae
open Sum renaming elim→aaP
namespace Go.Am
open Go
section ext
variable {E:Env} {f:FuncId} {s s':St} {o:Oper}
theorem aP.put (s:St) (d:Option Tmp) (x:SV):aP s (s.put d x):=by
 cases d with
 |none=>exact aP.refl s
 |some d=>
  simp only [St.put];split
  ·exact ⟨⟨[_],rfl⟩,⟨[],rfl⟩,rfl⟩
  ·exact aP.refl s
theorem aP.cj (s:St) (G:List GO):aP s (s.cj G):=⟨⟨[],rfl⟩,⟨[],rfl⟩,rfl⟩
theorem aP.fq (s:St) (o:GO):aP s (s.fq o):=⟨⟨[],rfl⟩,⟨[],rfl⟩,rfl⟩
theorem aP.Af (s:St) (d:Nat) (cs:List AV):aP s (s.Af d cs):=⟨⟨[],rfl⟩,⟨[_],rfl⟩,rfl⟩
theorem aP.kill (s:St) (d:Nat):aP s (s.kill d):=⟨⟨[_],rfl⟩,⟨[],rfl⟩,rfl⟩
theorem Pp {c:Bool} {s':St} (h:jN E f s o=some (c,s')):aP s s':=by
 unfold jN at h
 repeat' (split at h)
 all_goals (first|(cases h; done) | skip)
 all_goals (injection h with h; injection h with _ h; subst h; exact (aP.cj _ _).trans (aP.put _ _ _))
theorem LS {t:TypeId} {p x:SV} {c:Bool} {s':St} (h:iS E s t p x=some (c,s')):aP s s':=by
 have store:∀ {t:TypeId} {p x:SV} {s':St},jI E s t p x=some s'→aP s s':=by
  intro t p x s' h;unfold jI at h
  repeat' (split at h)
  all_goals (first|(cases h; done) | skip)
  all_goals (injection h with h; subst h)
  ·exact aP.Af _ _ _
  ·exact aP.cj _ _
 unfold iS at h
 repeat' (split at h)
 all_goals (first|(cases h; done) | skip)
 all_goals (injection h with h; injection h with _ h; subst h)
 all_goals (first|exact aP.cj _ _ | exact store (by assumption))
theorem LU {t:TypeId} {p x:SV} {c:Bool} {s':St} (h:nf E s t p x=some (c,s')):aP s s':=by
 unfold nf at h;split at h
 ·rename_i hs;injection h with h; injection h with _ h;subst h;exact (aP.cj s (wo s p x).2.2).trans (LS (s:=s.cj (wo s p x).2.2) hs)
 ·cases h
theorem LV {c:Bool} (h:an E f s o=some (c,s')):aP s s':=by
 have alloc:∀ {el:TypeId} {cs:List AV} {c:Bool} {s':St},hY E f s o.dst el cs=some (c,s')→aP s s':=by
  intro el cs c s' h;unfold hY at h
  repeat' (split at h)
  all_goals (first|(cases h; done) | skip)
  ·injection h with h; injection h with _ h; subst h; exact (aP.fq _ _).trans (aP.put _ _ _)
  ·injection h with h; injection h with _ h; subst h; exact ((aP.kill _ _).trans (aP.Af _ _ _)).trans (aP.put _ _ _)
 have store:∀ {t:TypeId} {p x:SV} {s':St},jI E s t p x=some s'→aP s s':=by
  intro t p x s' h;unfold jI at h
  repeat' (split at h)
  all_goals (first|(cases h; done) | skip)
  all_goals (injection h with h; subst h)
  ·exact aP.Af _ _ _
  ·exact aP.cj _ _
 have Zc:∀ {t:TypeId} {p x:SV} {c:Bool} {s':St},iS E s t p x=some (c,s')→aP s s':=by
  intro t p x c s' h;unfold iS at h
  repeat' (split at h)
  all_goals (first|(cases h; done) | skip)
  all_goals (injection h with h; injection h with _ h; subst h)
  all_goals (first|exact aP.cj _ _ | exact store (by assumption))
 have blt:∀ {b:Builtin} {l:List AV} {tys:List TypeId} {c:Bool} {s':St},dm E s o.dst b l tys=some (c,s')→aP s s':=by
  intro b l tys c s' h;unfold dm at h
  repeat' (split at h)
  all_goals (first|(cases h; done) | skip)
  all_goals (injection h with h; injection h with _ h; subst h)
  all_goals (first|exact aP.put _ _ _ | exact (aP.cj _ _).trans (aP.put _ _ _) | exact aP.cj _ _)
 have update:∀ {t:TypeId} {m k x:SV} {s':St},ia E s t m k x=some s'→aP s s':=by
  intro t m k x s' h;unfold ia at h
  repeat' (split at h)
  all_goals (first|(cases h; done) | skip)
  all_goals (injection h with h; subst h; exact aP.cj _ _)
 have next:∀ {x:SV} {s':St},pU s o.dst x=some s'→aP s s':=by
  intro x s' h;unfold pU at h;split at h
  ·split at h
   ·rename_i l pos hg;cases hb:Nat.blt pos l.length <;> rw [hb] at h <;> simp only [cond_true,cond_false] at h <;> cases h
    ·exact aP.put _ _ _
    ·exact (aP.cj _ _).trans (aP.put _ _ _)
   ·cases h
  ·cases h
 have Lg:∀ {t:TypeId} {m k:SV} {c:Bool} {v:AV} {s':St},jv E s t m k=some (c,v,s')→aP s s':=by
  intro t m k c v s' h;unfold jv at h
  repeat' (split at h)
  all_goals (first|(cases h; done) | skip)
  all_goals (injection h with h; injection h with _ h; injection h with _ h; subst h; exact aP.cj _ _)
 have Lh:∀ {m st x:SV} {c:Bool} {s':St},fV s m st x=some (c,s')→aP s s':=by
  intro m st x c s' h;unfold fV at h
  repeat' (split at h)
  all_goals (first|(cases h; done) | skip)
  all_goals (injection h with h; injection h with _ h; subst h; exact aP.cj _ _)
 unfold an rV at h
 repeat' (split at h)
 all_goals (first|(cases h; done) | exact alloc h | exact blt h | (rename_i hf; cases h; exact Pp hf) | skip)
 all_goals (injection h with h; injection h with _ h; subst h)
 all_goals (first|exact aP.put _ _ _ | exact (aP.fq _ _).trans (aP.put _ _ _) | exact (aP.cj _ _).trans (aP.put _ _ _) | skip)
 all_goals (first|exact LU (by assumption) | exact update (by assumption) | exact (Lg (by assumption)).trans (aP.put _ _ _) | exact Lh (by assumption) | exact next (by assumption))
theorem dT.jM {g:FuncId} {args XG:List AV} {G:List GO} {Q:AV→List GO→Prop} (hw:dM args XG) (h:dT E g XG G Q):dT E g args G Q:=
 ⟨h.1,fun R w cs hg hl=>h.2 R w cs hg (hw.rel hl)⟩
theorem I9 {K:St→Prop} (h:nV E f o K s):nV E f o (fun s'=>K s'∧aP s s') s:=by
 unfold nV at *;split
 ·rename_i x args tys ho;rw [ho] at h;simp only at h;split at h
  ·exact h.mono fun r G' hk=>⟨hk,(aP.cj _ _).trans (aP.put _ _ _)⟩
  ·exact h.mono fun r G' hk=>⟨hk,(aP.cj _ _).trans (aP.put _ _ _)⟩
  ·exact h
 ·rename_i ho;rw [ho] at h;exact h
 ·rename_i nc nd;split at h
  ·rename_i ho;exact absurd ho (nc _ _ _)
  ·exact h.elim
  ·split at h
   ·rename_i c s' hs;obtain ⟨hc,hk⟩:=h.out;exact fj.mk hc ⟨hk,LV hs⟩
   ·exact h.elim
theorem pZ {K:St→Prop} {ops:List Oper} (h:cZ E f ops o K s):cZ E f ops o (fun s'=>K s'∧aP s s') s:=by
 unfold cZ at *;split
 ·rename_i hg;rw [hg] at h;exact I9 h
 ·rename_i j want hg;rw [hg] at h;simp only at h;split
  ·rename_i hd;rw [hd] at h;exact h
  ·rename_i d hd;rw [hd] at h;simp only at h;split
   ·rename_i b hb;rw [hb] at h;simp only at h;refine ⟨fun e=>?_,fun e=>⟨h.2 e,(aP.put _ _ _).trans (aP.put _ _ _)⟩⟩;exact zD (I9 (h.1 e)) fun s' hh=>⟨hh.1,(aP.put _ _ _).trans hh.2⟩
   ·rename_i hb;rw [hb] at h;exact ⟨h,aP.put _ _ _⟩
   ·rename_i hb mX;split at h
    ·rename_i b O8;exact absurd O8 (hb b)
    ·rename_i O8;exact absurd O8 mX
    ·exact h
theorem EU {K K':St→Prop} {ops:List Oper} (h:jh E f ops o K s) (hK:∀ s,K s→K' s):jh E f ops o K' s:=by
 unfold jh at *;split
 ·rename_i s' h1 h2;rw [h1,h2] at h;exact hK _ h
 ·rename_i hn;split at h
  ·rename_i s' h1 h2;exact absurd h2 (hn s' h1)
  ·exact da h hK
theorem Bg {s':St} (h:mz E f s o=some s'):aP s s':=by
 unfold mz at h
 repeat' (split at h)
 all_goals (first|(cases h; done) | skip)
 all_goals (injection h with h; subst h; exact (aP.fq _ _).trans (aP.put _ _ _))
theorem Hq {K:St→Prop} {ops:List Oper} (h:jh E f ops o K s):jh E f ops o (fun s'=>K s'∧aP s s') s:=by
 unfold jh at *;split
 ·rename_i s' h1 h2;rw [h1,h2] at h;exact ⟨h,Bg h2⟩
 ·rename_i hn;split at h
  ·rename_i s' h1 h2;exact absurd h2 (hn s' h1)
  ·exact pZ h
theorem qD {K K':St→Prop} {ops:List Oper} (h:iu E f ops o K s) (hK:∀ s,K s→K' s):iu E f ops o K' s:=by
 unfold iu at *;split at h
 ·obtain ⟨h1,h2⟩:=h.out;exact fj.mk h1 (hK _ h2)
 ·obtain ⟨h1,h2,h3⟩:=h.out;exact fj.mk h1 ⟨fun e=>hK _ (h2 e),fun i hi=>let ⟨k1,k2⟩:=(h3 i hi).out; fj.mk k1 (hK _ k2)⟩
 ·exact EU h hK
theorem LW {c:Bool} {s':St} (h:wq E f s o=some (c,s')):aP s s':=by
 unfold wq at h
 repeat' (split at h)
 all_goals (first|(cases h; done) | skip)
 all_goals (injection h with h; injection h with _ h; subst h; exact (aP.cj _ _).trans (aP.put _ _ _))
theorem RT {c:Bool} {s':St} (h:KA E f s o=some (c,s')):aP s s':=by
 unfold KA at h
 repeat' (split at h)
 all_goals (first|(cases h; done) | skip)
 all_goals (injection h with h; injection h with _ h; subst h; exact (aP.cj _ _).trans (aP.put _ _ _))
theorem Pq {c:Bool} {s':St} (h:Ai E f s o=some (c,s')):aP s s':=by
 unfold Ai at h;split at h
 ·rename_i r hr;cases h;exact RT hr
 ·exact LW h
theorem LX {c:Bool} {s0:St} {left:List Nat} {g:Nat→Bool × St} (h:zi E s o=some (c,s0,left,g)):aP s s0∧∀ i,aP s (g i).2:=by
 unfold zi at h;split at h
 ·unfold Fa at h;split at h
  ·split at h
   ·split at h
    ·cases h;exact ⟨aP.put _ _ _,fun i=>(aP.cj _ _).trans (aP.put _ _ _)⟩
    ·cases h
   ·cases h
  ·cases h
 ·cases h
theorem yh {K:St→Prop} {ops:List Oper} (h:iu E f ops o K s):iu E f ops o (fun s'=>K s'∧aP s s') s:=by
 unfold iu at *;split at h
 ·rename_i hb;obtain ⟨h1,h2⟩:=h.out;exact fj.mk h1 ⟨h2,Pq hb⟩
 ·rename_i hb;obtain ⟨h1,h2,h3⟩:=h.out;obtain ⟨k1,k2⟩:=LX hb;exact fj.mk h1 ⟨fun e=>⟨h2 e,k1⟩,fun i hi=>let ⟨q1,q2⟩:=(h3 i hi).out; fj.mk q1 ⟨q2,k2 i⟩⟩
 ·exact Hq h
theorem qE {K K':St→Prop} {ops:List Oper} (h:iw E f ops o K s) (hK:∀ s,K s→K' s):iw E f ops o K' s:=by
 unfold iw at *;split at h
 ·exact ⟨h.1,qD h.2 hK⟩
 ·exact qD h hK
theorem kB {cut wk:Bool}:∀ {l:List Operand} {s s':St} {c:Bool},j8 cut wk l s=(c,s')→aP s s'
 |[],s,s',c,h=>by
  simp only [j8] at h;cases h;exact aP.refl _
 |.tmp t :: l,s,s',c,h=>by
  unfold j8 at h;split at h
  ·rename_i c1 s1 h1;cases h2:j8 cut wk l s1 with
   |mk c2 s2=>
   rw [h2] at h;simp only [Prod.mk.injEq] at h;obtain ⟨_,rfl⟩:=h;exact (mD h1).trans (kB h2)
  ·exact kB h
 |.const _ :: l,s,s',c,h=>kB (l:=l) h
 |.global _ :: l,s,s',c,h=>kB (l:=l) h
 |.func _ :: l,s,s',c,h=>kB (l:=l) h
theorem RU {s s':St} {o:Oper} {c:Bool} (h:Ox E f s o=some (c,s')):aP s s':=by
 unfold Ox at h;split at h
 ·split at h
  ·injection h with h;exact kB h
  ·cases h
 ·cases h
theorem Hr {K:St→Prop} {ops:List Oper} (h:iw E f ops o K s):iw E f ops o (fun s'=>K s'∧aP s s') s:=by
 unfold iw at *;split at h
 ·rename_i c s' hz;exact ⟨h.1,qD (yh h.2) fun s2 h2=>⟨h2.1,(RU hz).trans h2.2⟩⟩
 ·exact yh h
theorem Dr {s s':St} {l:Loc} {sz:Nat} {e:TypeId} (h:zA s l sz e=some s'):aP s s':=by
 unfold zA at h;split at h
 ·cases h; exact aP.fq _ _
 unfold xP at h;cases Lc:Nat.ble 196608 sz with
 |true=>rw [Lc] at h; cases h; exact aP.fq _ _
 |false=>
 rw [Lc] at h;cases l with
 |slot t=>
  simp only at h;split at h
  ·cases h; exact ⟨⟨[_],rfl⟩,⟨[],rfl⟩,rfl⟩
  ·cases h
 |box k i=>
  simp only at h;split at h
  ·split at h
   ·cases h; exact ⟨⟨[],rfl⟩,⟨[_],rfl⟩,rfl⟩
   ·cases h
  ·cases h
 |row id i=>
  simp only at h;split at h
  ·split at h
   ·cases h; exact ⟨⟨[],rfl⟩,⟨[],rfl⟩,rfl⟩
   ·cases h
  ·cases h
theorem oU:∀ {l:List (Loc × Nat × TypeId)} {s s':St},jg l s=some s'→aP s s'
 |[],s,s',h=>by
  simp only [jg] at h;cases h;exact aP.refl _
 |(l,sz,e) :: r,s,s',h=>by
  unfold jg at h;split at h
  ·rename_i s1 h1;exact (Dr h1).trans (oU h)
  ·cases h
theorem uz:∀ {l:List (Loc × Nat × TypeId)} {s:St},aP s (mq l s)
 |[],s=>aP.refl _
 |(l,sz,e) :: r,s=>by
  unfold mq;split
  ·rename_i s1 h1;exact (Dr h1).trans uz
  ·exact uz
theorem Pr {s s':St} {o:Oper} {c:Bool} (h:Fs E f o s=some (c,s')):aP s s':=by
 unfold Fs at h;split at h
 ·cases h; exact aP.refl _
 ·split at h
  ·exact mD h
  ·split at h
   ·cases h; exact aP.refl _
   ·split at h
    ·exact Ld h
    ·split at h
     ·cases h; exact uz
     ·cases h
theorem Ds {K K':St→Prop} {ops:List Oper} (hK:∀ s,K s→K' s):∀ {l:List Oper} {s:St},tX E f ops l K s→tX E f ops l K' s
 |[],s,h=>hK s h
 |_ :: _,_,h=>qE h fun s' h'=>by
  unfold Fv at *;split at h'
  ·exact ⟨h'.1,Ds hK h'.2⟩
  ·exact h'.elim
theorem Dt {K K':St→Prop} {ops:List Oper} (hK:∀ s,K s→K' s) {T:DT} {s:St} (h:yW E f ops T K s):yW E f ops T K' s:=
 iG (ops:=⟨ops⟩) hK T s h
theorem FM {K:St→Prop} {ops:List Oper}:∀ {l:List Oper} {s:St},tX E f ops l K s→tX E f ops l (fun s'=>K s'∧aP s s') s
 |[],s,h=>⟨h,aP.refl s⟩
 |o :: l,s,h=>by
  simp only [tX] at *;refine qE (Hr h) fun s' hh=>?_
  obtain ⟨h1,h2⟩:=hh;unfold Fv at *;split at h1
  ·rename_i c s2 hp;exact ⟨h1.1,Ds (fun s3 h3=>⟨h3.1,(h2.trans (Pr hp)).trans h3.2⟩) (FM h1.2)⟩
  ·exact h1.elim
theorem yi {K:St→Prop} {ops:List Oper}:∀ {T:DT} {s:St},yW E f ops T K s→yW E f ops T (fun s'=>K s'∧aP s s') s
 |.done,s,h=>⟨h,aP.refl s⟩
 |.stop,_,_=>trivial
 |.take j C T,s,h=>by
  unfold yW at h ⊢;split
  ·rename_i oj hj;rw [hj] at h;exact da (pZ h) fun s' hh=>Dt (fun s2 h2=>⟨h2.1,hh.2.trans h2.2⟩) (yi hh.1)
  ·rename_i hj;rw [hj] at h;exact h
 |.al j W T,s,h=>by
  unfold yW at h ⊢;split
  ·rename_i oj hj;rw [hj] at h;exact ⟨h.1,da (pZ h.2) fun s' hh=>Dt (fun s2 h2=>⟨h2.1,hh.2.trans h2.2⟩) (yi hh.1)⟩
  ·rename_i hj;rw [hj] at h;exact h
 |.br i re C T more,s,h=>by
  unfold yW at h ⊢;refine ⟨?_,yi h.2⟩;have h:=h.1;split
  ·rename_i oj hj;rw [hj] at h;exact da (pZ h) fun s' hh=>⟨hh.1.1,Dt (fun s2 h2=>⟨h2.1,hh.2.trans h2.2⟩) (yi hh.1.2)⟩
  ·rename_i hj;rw [hj] at h;exact h
end ext
def ny (E:Env) (c:Code) (Q:Exit→St→Prop) (s:St):Prop:=gY E c (fun e s'=>Q e s'∧aP s s') s
section sound
variable {E:Env} {f:FuncId} {s:St} {X:Type} {fz:Bool} {call:uu X} {pK:qC X} {hH:Option X→Option X→Option X} {x:X}
def sJ (E:Env) (call:uu X):Prop:=∀ g args G K x,call g args G K=some x→dT E g args G (fun r G'=>K r G'=some x)
def AI (E:Env) (pK:qC X):Prop:=∀ id args G K x,pK id args G K=some x→oJ E id args G (fun b G'=>K b G'=some x)
theorem bl {α:Type} {c:Bool} {a:Option α} {x:α} (h:(bif c then a else none)=some x):c=true∧a=some x:=by
 cases c
 ·cases h
 ·exact ⟨rfl,h⟩
theorem bind_some {α β:Type} {a:Option α} {k:α→Option β} {x:β} (h:a.bind k=some x):∃ y,a=some y∧k y=some x:=by
 cases a with
 |none=>cases h
 |some y=>exact ⟨y,rfl,h⟩
theorem Ps {o:Oper} {n:Int} {len:Nat} {g:Nat→Oper} (h:Hn E s o=some (n,len,g)) {j:Nat} (hj:n=(j:Int)):an E f s (g j)=an E f s o:=by
 subst hj;unfold Hn at h;have YK:∀ k:IntKind,bJ E s.af (.const (.int k (j:Int)))=.v (.int k j):=fun k=>rfl
 split at h
 ·rename_i t x y ho;split at h
  ·rename_i k n i h1 h2;split at h
   ·injection h with h; injection h with e1 h; injection h with e2 h;subst h; subst e1;simp only [an,ho,YK,h1]
   ·cases h
  ·cases h
 ·rename_i t x y ho;split at h
  ·rename_i k n i h1 h2;split at h
   ·split at h
    ·split at h
     ·cases h
     ·injection h with h; injection h with e1 h; injection h with e2 h;subst h; subst e1;simp only [an,ho,YK,h1]
    ·injection h with h; injection h with e1 h; injection h with e2 h;subst h; subst e1;simp only [an,ho,YK,h1]
   ·cases h
  ·cases h
 ·cases h
theorem vS {o:Oper} {n:Int} {len:Nat} {g:Nat→Oper} (hi:Hn E s o=some (n,len,g)) {K:St→Option X}:∀ (m j:Nat),BL E fz f g n K s m j=some x→∃ c s',an E f s o=some (c,s')∧c=true∧K s'=some x
 |0,_,h=>by cases h
 |m+1,j,h=>by
  unfold BL at h;by_cases hn:n=(j:Int)
  ·rw [decide_eq_true hn,cond_true,Ps hi hn] at h;split at h
   ·rename_i c s' hs;obtain ⟨h1,h2⟩:=bl h;rw [dO] at h2;exact ⟨c,s',hs,h1,h2⟩
   ·cases h
  ·rw [decide_eq_false hn,cond_false] at h;exact vS hi m (j+1) h
theorem Du {ops:List Oper} {o:Oper} (h:ZC E f ops o s=true):Lp E f ops o s:=by
 unfold ZC at h;split at h
 ·rename_i t m k ok d ho hd;split at h
  ·rename_i c v b hg hs;rw [aal] at h;obtain ⟨rfl,h⟩:=h;have hn:=xZ hs;unfold Lp;rw [hg];simp only;have e:an E f s o=some (true,s.put o.dst (.v (if ok then .bG [v,.bool b] else v))):=by simp only [an,ho,hn]
   rw [hd] at e;rw [hd,e];refine ⟨rfl,?_⟩;unfold St.put;simp only;split
   ·rw [aG];exact FC h
   ·rfl
  ·exact FD h
 ·exact FD h
theorem vT {ops:List Oper}:∀ {l:List Nat} {s:St},vi E f ops l s=true→Fz E f ops l s
 |[],_,_=>trivial
 |k :: l,s,h=>by
  unfold vi at h;unfold Fz;rw [aal] at h;refine ⟨?_,vT h.2⟩;have h:=h.1;split at h
  ·rename_i hk
   first
    |exact Du h
    |rw [hk]; exact Du h
  ·rename_i hk
   first
    |trivial
    |rw [hk]; trivial
theorem zM (hc:sJ E call) (hr:AI E pK) {o:Oper} {K:St→Option X} (h:ZB E fz call pK f o K s=some x):nV E f o (fun s=>K s=some x) s:=by
 unfold nV;split
 ·rename_i y args tys ho;unfold ZB at h;rw [ho] at h;simp only at h;split at h
  ·rename_i h1 h2;rw [h1,h2];refine (hc _ _ _ _ _ h).mono fun r G' hk=>?_
   rw [dO] at hk;exact hk
  ·rename_i h1 h2;rw [h1,h2];refine (hr _ _ _ _ _ h).mono fun r G' hk=>?_
   rw [dO] at hk;exact hk
  ·cases h
 ·rename_i ho;unfold ZB at h;rw [ho] at h;cases h
 ·rename_i nc nd;unfold ZB at h;split at h
  ·rename_i ho;exact absurd ho (nc _ _ _)
  ·cases h
  ·rename_i y ho;split at h
   ·rename_i b s1 s2 hs;have hn:=LJ hs;have e:an E f s o=some (true,bif b then s1 else s2):=by simp only [an,ho,hn]
    rw [e];refine fj.mk rfl ?_;rw [dO,dO] at h;cases b <;> exact h
   ·cases h
  ·rename_i t m k ok ho;split at h
   ·rename_i c v b hs;obtain ⟨h1,h2⟩:=bl h;subst h1;rw [dO] at h2;have hn:=xZ hs;have e:an E f s o=some (true,s.put o.dst (.v (if ok then .bG [v,.bool b] else v))):=by simp only [an,ho,hn]
    rw [e];exact fj.mk rfl h2
   ·split at h
    ·rename_i c s' hs;obtain ⟨h1,h2⟩:=bl h;rw [dO] at h2;rw [hs];exact fj.mk h1 h2
    ·cases h
  ·rename_i t m k z ho;split at h
   ·rename_i c s' hd hs;obtain ⟨h1,h2⟩:=bl h;subst h1;rw [dO] at h2;have hn:=yd hs;have e:an E f s o=some (true,s'):=by simp only [an,ho,hd,hn]
    rw [e];exact fj.mk rfl h2
   ·cases h
  ·rename_i t m k z ho;split at h
   ·rename_i c s' hd hs;obtain ⟨h1,h2⟩:=bl h;subst h1;rw [dO] at h2;have hn:=yd hs;have e:an E f s o=some (true,s'):=by simp only [an,ho,hd,hn]
    rw [e];exact fj.mk rfl h2
   ·cases h
  ·rename_i args tys ho;split at h
   ·rename_i c s' hf;obtain ⟨h1,h2⟩:=bl h;rw [dO] at h2;have e:an E f s o=some (c,s'):=by simp only [an,ho,hf]
    rw [e];exact fj.mk h1 h2
   ·rename_i hf;split at h
    ·rename_i l hl;split at h
     ·rename_i b s1 c s2 hs;have MU:b=false→c=true:=fun e=>by subst e; exact (bl (show (bif c then vh fz s2 K else none)=some x from h)).1
      have hn:=Hj hs MU;have e:an E f s o=some (true,bif b then s1 else s2):=by simp only [an,ho,hf,hl,hn]
      rw [e];refine fj.mk rfl ?_;cases b with
      |true=>
       show K s1=some x;rw [← dO fz s1 K];exact h
      |false=>
       obtain ⟨h1,h2⟩:=bl (show (bif c then vh fz s2 K else none)=some x from h);rw [dO] at h2;exact h2
     ·split at h
      ·rename_i c s' hs;obtain ⟨h1,h2⟩:=bl h;rw [dO] at h2;rw [hs];exact fj.mk h1 h2
      ·cases h
    ·cases h
  ·rename_i args tys ho;split at h
   ·rename_i l hl;split at h
    ·rename_i c s' hs;obtain ⟨h1,h2⟩:=bl h;subst h1;rw [dO] at h2;have hn:=LL hs;have hf:jN E f s o=none:=by
      cases hf:jN E f s o with
      |none=>rfl
      |some r=>
       obtain ⟨_,_,h2⟩:=su hf;rw [ho] at h2;cases h2
     have e:an E f s o=some (true,s'):=by simp only [an,ho,hf,hl,hn]
     rw [e];exact fj.mk rfl h2
    ·split at h
     ·rename_i c s' hs;obtain ⟨h1,h2⟩:=bl h;rw [dO] at h2;rw [hs];exact fj.mk h1 h2
     ·cases h
   ·cases h
  ·split at h
   ·rename_i n len g hi;obtain ⟨c,s',hs,h1,h2⟩:=vS hi _ _ h;rw [hs];exact fj.mk h1 h2
   ·split at h
    ·rename_i c s' hs;obtain ⟨h1,h2⟩:=bl h;rw [dO] at h2;rw [hs];exact fj.mk h1 h2
    ·cases h
theorem nY (hc:sJ E call) (hr:AI E pK) {ops:List Oper} {o:Oper} {K:St→Option X} (h:uw E fz call pK f ops o K s=some x):cZ E f ops o (fun s=>K s=some x) s:=by
 unfold uw at h;unfold cZ;split at h
 ·rename_i hg;rw [hg];exact zM hc hr h
 ·rename_i j want hg;rw [hg];simp only;split at h
  ·cases h
  ·rename_i d hd;rw [hd];simp only;split at h
   ·rename_i b hb;rw [hb];simp only;cases want with
    |true=>
     simp only at h;rw [dO,dO] at h;refine ⟨fun e=>?_,fun e=>?_⟩
     ·subst e;exact zM hc hr h
     ·have e:b=false:=by simpa using e
      subst e;exact h
    |false=>
     simp only at h;rw [dO,dO] at h;refine ⟨fun e=>?_,fun e=>?_⟩
     ·subst e;exact zM hc hr h
     ·have e:b=true:=by simpa using e
      subst e;exact h
   ·rename_i hb;rw [hb];rw [dO] at h;exact h
   ·cases h
theorem EV (hc:sJ E call) (hr:AI E pK) {ops:List Oper} {o:Oper} {K:St→Option X} (h:Ho E fz call pK f ops o K s=some x):jh E f ops o (fun s=>K s=some x) s:=by
 unfold Ho at h;unfold jh;split at h
 ·rename_i s' h1 h2;rw [h1,h2];rw [dO] at h;exact h
 ·rename_i hn;split
  ·rename_i s' h1 h2;exact absurd h2 (hn s' h1)
  ·exact nY hc hr h
theorem vU (hc:sJ E call) (hr:AI E pK) {ops:List Oper} {o:Oper} {K:St→Option X} (h:BM E fz call pK f ops o K s=some x):iu E f ops o (fun s=>K s=some x) s:=by
 unfold BM at h;unfold iu;split at h
 ·rename_i c s' h1 h2;rw [h1,h2];obtain ⟨q1,q2⟩:=bl h;rw [dO] at q2;exact fj.mk q1 q2
 ·rename_i c s0 left g h1 h2 h3;rw [h1,h2,h3];obtain ⟨q1,q2⟩:=bl h;refine fj.mk q1 ?_;cases left with
  |nil=>
   simp only [List.isEmpty_nil,cond_true,dO] at q2;exact ⟨fun _=>q2,fun i hi=>by simp at hi⟩
  |cons i0 l=>
   simp only [List.isEmpty_cons,cond_false] at q2;refine ⟨fun e=>(by cases e),fun i hi=>?_⟩;obtain ⟨r1,r2⟩:=bl (Po q2 i hi);rw [dO] at r2;exact fj.mk r1 r2
 ·rename_i OF hn2;split
  ·rename_i c s' h1 h2
   first
    |exact absurd h2 (OF c s' h1)
    |exact absurd h2 (hn2 c s' h1)
  ·rename_i c s0 left g h1 h2 h3
   first
    |exact absurd h3 (hn2 c s0 left g h1 h2)
    |exact absurd h3 (OF c s0 left g h1 h2)
  ·exact EV hc hr h
theorem EW (hc:sJ E call) (hr:AI E pK) {ops:List Oper} {o:Oper} {K:St→Option X} (h:Hp E fz call pK f ops o K s=some x):iw E f ops o (fun s=>K s=some x) s:=by
 unfold Hp at h;unfold iw;split at h
 ·rename_i c s' hz;rw [hz];obtain ⟨h1,h2⟩:=bl h;exact ⟨h1,vU hc hr h2⟩
 ·rename_i hz;rw [hz];exact vU hc hr h
theorem Dv (hc:sJ E call) (hr:AI E pK) {ops:List Oper}:∀ {l:List Oper} {K:St→Option X} {s:St},U6 E fz call pK f ops l K s=some x→tX E f ops l (fun s=>K s=some x) s
 |[],_,_,h=>h
 |o :: l,K,s,h=>by
  unfold U6 at h;unfold tX;refine qE (EW hc hr h) fun s' h'=>?_
  unfold Fv;split at h'
  ·rename_i c s2 hp;rw [hp];cases c with
   |true=>exact ⟨rfl,Dv hc hr h'⟩
   |false=>cases h'
  ·cases h'
theorem mI (hc:sJ E call) (hr:AI E pK) (hm:AH hH) {ops:List Oper}:∀ {T:DT} {K:St→Option X} {s:St} {x:X},oT E fz call pK hH f ops T K s=some x→yW E f ops T (fun s=>K s=some x) s
 |.done,_,_,_,h=>h
 |.stop,_,_,_,_=>trivial
 |.take j C T,K,s,x,h=>by
  unfold oT at h;unfold yW;split at h
  ·rename_i hk;rw [hk];exact da (nY hc hr h) fun s' h'=>mI hc hr hm h'
  ·cases h
 |.al j W T,K,s,x,h=>by
  unfold oT at h;unfold yW;split at h
  ·rename_i hk;obtain ⟨h1,h2⟩:=bl h;rw [hk];exact ⟨h1,da (nY hc hr h2) fun s' h'=>mI hc hr hm h'⟩
  ·cases h
 |.br i re C T more,K,s,x,h=>by
  have first:∀ {x:X},(match nth ops i with
   |some oi=>uw E fz call pK f ops oi (fun s'=>bif vi E f ops re s' then oT E fz call pK hH f ops T K s' else none) s
   |none=>none)=some x→(match nth ops i with
   |some oi=>cZ E f ops oi (fun s'=>Fz E f ops re s'∧yW E f ops T (fun s=>K s=some x) s') s
   |none=>False):=by
   intro x h;split at h
   ·rename_i hk;refine da (nY hc hr h) fun s' h'=>?_
    obtain ⟨h1,h2⟩:=bl h';exact ⟨vT h1,mI hc hr hm h2⟩
   ·cases h
  unfold yW;cases more with
  |stop=>exact ⟨first h,trivial⟩
  |done=>obtain ⟨h1,h2⟩:=hm _ _ _ h; exact ⟨first h1,mI (T:=.done) hc hr hm h2⟩
  |take a b c=>obtain ⟨h1,h2⟩:=hm _ _ _ h; exact ⟨first h1,mI hc hr hm h2⟩
  |br a b c d e=>obtain ⟨h1,h2⟩:=hm _ _ _ h; exact ⟨first h1,mI hc hr hm h2⟩
  |al a b c=>obtain ⟨h1,h2⟩:=hm _ _ _ h; exact ⟨first h1,mI hc hr hm h2⟩
end sound
end Go.Am
namespace Go.Am
open Go
section
variable {C:ke} {ih:EvT}
def zN (C:ke) (ih:EvT):Prop:=∀ (f:FuncId) (p:Nat) (c:Code) (X:Type) (hH:Option X→Option X→Option X),AH hH→∀ (K:Exit→St→Option X) (s:St) (x:X),
 bW (C.D.dt f) c=true→ih f p c X hH K s=some x→ny C.D.toEnv c (fun e s'=>K e s'=some x) s
theorem qF {X:Type}:AH (zK (X:=X)):=fun a b x h=>by
 unfold zK at h;by_cases e:a=b
 ·rw [if_pos e] at h;exact ⟨h,e ▸ h⟩
 ·rw [if_neg e] at h;cases h
theorem p9 (hs:zN C ih) {X:Type} {hH:Option X→Option X→Option X} (hm:AH hH):sJ C.D.toEnv (FK C ih hH):=fun g args G K x h=>by
 unfold FK at h;obtain ⟨gJ,h⟩:=bl h;split at h
 ·rename_i fn hfn;split at h
  ·rename_i b hb;obtain ⟨hn,h⟩:=bl h;have fin:∀ {K':AV→List GO→Option X},ih g 1 b X hH (RJ C.D.toEnv fn K') (St.init fn.ntmps args G)=some x→dT C.D.toEnv g args G (fun r G'=>K' r G'=some x):=by
    intro K' h;refine dT.intro hfn hb (by simpa using hn) ((hs g 1 b X hH hm _ _ x (C.D.Xu g fn b gJ hfn hb) h).mono fun e s' hq=>?_);have hq:=hq.1;unfold RJ at hq;unfold Xr;cases e <;> first | (cases hq; done) | skip
    all_goals (simp only at hq ⊢)
    all_goals (split at hq <;> first | (cases hq; done) | skip)
    all_goals (rename_i hl; rw [hl]; simp only)
    all_goals (split at hq <;> first | (cases hq; done) | skip)
    all_goals (rename_i UT; rw [UT]; exact hq)
   cases hfz:C.D.B7 g 131072 with
   |true=>rw [hfz] at h; exact dT.frz (fin h)
   |false=>rw [hfz] at h; exact fin h
  ·cases h
 ·cases h
theorem Ja (Hs:∀ g e,C.Pn g=some e→aK C.D.toEnv g e) (hs:zN C ih) {X:Type} {hH:Option X→Option X→Option X} (hm:AH hH):sJ C.D.toEnv (FL C ih hH):=fun g args G K x h=>by
 unfold FL at h;split at h
 ·rename_i e he;obtain ⟨a,ha,h⟩:=bind_some h;obtain ⟨y,hy,h⟩:=bind_some h;refine dT.jM (e.ps.wu ha).1 (((Hs g e he a y hy) G).mono fun r G' hr=>?_);obtain ⟨rfl,rfl⟩:=hr;exact h
 ·split at h
  ·rename_i e he;split at h
   ·rename_i c r G' hf;obtain ⟨hc,h⟩:=bl h;subst hc;refine (e.ok args G r G' hf).mono fun r' Nd hh=>?_
    obtain ⟨rfl,rfl⟩:=hh;exact h
   ·cases h
  ·split at h
   ·rename_i e he;obtain ⟨a,ha,h⟩:=bind_some h;obtain ⟨y,hy,h⟩:=bind_some h;refine dT.jM (e.ps.wu ha).1 ((e.ok a y hy G).mono fun r G' hr=>?_);obtain ⟨z,rfl,hr⟩:=hr;exact (I6 e.outs z hr).trans h
   ·exact p9 hs hm g args G K x h
theorem Jb {n:Nat}:∀ {l:List Tmp},U7 n l=true→∀ t∈l,t < n
 |[],_,t,ht=>by simp at ht
 |a :: l,h,t,ht=>by
  simp only [U7,aal] at h;rcases aaT.1 ht with rfl|ht
  ·exact nt h.1
  ·exact Jb h.2 t ht
theorem LY (hs:zN C ih) {X:Type} {hH:Option X→Option X→Option X} (hm:AH hH):AI C.D.toEnv (U8 C ih hH):=fun id args G K x h=>by
 unfold U8 at h;split at h
 ·rename_i p fp sl n ps wG bd d hG;obtain ⟨hc,h⟩:=bl h;simp only [aal] at hc;obtain ⟨⟨⟨h1,h2⟩,h3⟩,h4⟩:=hc;refine oJ.intro hG (aas h1) (Jb h2) ((hs _ _ wG X hH hm _ _ x h3 h).mono fun e s1 hq=>?_);have hq:=hq.1;unfold He;cases e with
  |normal=>
   simp only at hq ⊢;split at hq
   ·rename_i p' fn sl' n' ps' U3 bd' d' hG1;rw [hG1];simp only;refine (hs _ _ bd X hH hm _ _ x h4 hq).mono fun e2 s2 nR=>?_
    have nR:LP id K e2 s2=some x:=nR.1;unfold LP at nR;unfold LH;split at nR
    ·rename_i hG2;rw [hG2];cases e2 <;> first | (cases nR; done) | exact nR
    ·cases nR
   ·cases hq
  |_=>cases hq
 ·cases h
theorem ny.of {E:Env} {c:Code} {Q Q':Exit→St→Prop} {s:St} (h:ny E c Q s) (hq:∀ e s',Q e s'→aP s s'→Q' e s'):gY E c Q' s:=
 gY.mono h fun e s' hh=>hq e s' hh.1 hh.2
theorem vj {s s':St} {e:Exit}:∀ {outs:List (XK × cr)} {o:JT outs},kY s outs e s'=some o→∃ (t:cr) (v:t.ps.T),t.dec s s'=some v∧∀ (α:Type) (K:Exit→St→α),Qp s outs o K=K e (t.st s v)
 |[],o,h=>by cases h
 |[x],o,h=>by
  obtain ⟨h1,h2⟩:=bl (show (bif x.1.is e then x.2.dec s s' else none)=some o from h);exact ⟨x.2,o,h2,fun _ K=>by rw [XK.M9 h1]; rfl⟩
 |x :: y :: l,o,h=>by
  have h:(bif x.1.is e then (x.2.dec s s').bind fun v=>some (.inl v) else (kY s (y :: l) e s').bind fun o=>some (.inr o))=some o:=h;cases hx:x.1.is e with
  |true=>
   rw [hx] at h;obtain ⟨v,h1,h2⟩:=bind_some h;cases h2;exact ⟨x.2,v,h1,fun _ K=>by rw [XK.M9 hx]; rfl⟩
  |false=>
   rw [hx] at h;obtain ⟨v,h1,h2⟩:=bind_some h;cases h2;obtain ⟨t,u,k1,k2⟩:=vj h1;exact ⟨t,u,k1,fun α K=>k2 α K⟩
theorem cr.oV (t:cr) (s:St) (v:t.ps.T):aP s (t.st s v):=by
 have h1:∀ (W:List Tmp) (b:bp),∃ pre,C7 W b=pre++b:=fun W b=>by
  induction W with
  |nil=>exact ⟨[],rfl⟩
  |cons t W ih=>obtain ⟨p,hp⟩:=ih; exact ⟨.put t .none :: p,by simp [C7,hp]⟩
 have h2:∀ (ts:List Tmp) (l:List AV) (b:bp),∃ pre,ui ts l b=pre++b:=fun ts=>by
  induction ts with
  |nil=>intro l b; exact ⟨[],by cases l <;> rfl⟩
  |cons t ts ih=>
   intro l b;cases l with
   |nil=>exact ⟨[],rfl⟩
   |cons a l=>obtain ⟨p,hp⟩:=ih l b; exact ⟨.put t (.v a) :: p,by simp [ui,hp]⟩
 have h3:∀ (bx:List (Nat × Nat)) (l:List AV) (b:dy),∃ pre,AA bx l b=pre++b:=fun bx=>by
  induction bx with
  |nil=>intro l b; exact ⟨[],rfl⟩
  |cons x bx ih=>
   obtain ⟨k,n⟩:=x;intro l b;obtain ⟨p,hp⟩:=ih (l.drop n) b;exact ⟨(k,l.take n) :: p,by simp [AA,hp]⟩
 have h4:∀ (l:List (Tmp × Nat × Nat)) (b:bp),∃ pre,uj l b=pre++b:=fun l b=>by
  induction l with
  |nil=>exact ⟨[],rfl⟩
  |cons x l ih=>obtain ⟨t,k,o⟩:=x; obtain ⟨p,hp⟩:=ih; exact ⟨.put t (.lp k o) :: p,by simp [uj,hp]⟩
 obtain ⟨p1,e1⟩:=h1 t.W s.af;obtain ⟨p2,e2⟩:=h2 t.sl (t.vC v) (C7 t.W s.af);obtain ⟨p3,e3⟩:=h3 t.bx ((t.vC v).drop t.sl.length) s.boxes;obtain ⟨p4,e4⟩:=h4 t.lps (p2++(p1++s.af));exact ⟨⟨p4++(p2++p1),by rw [show (t.st s v).af=uj t.lps (ui t.sl (t.vC v) (C7 t.W s.af)) from rfl,e2,e1,e4,List.append_assoc,List.append_assoc]⟩,⟨p3,e3⟩,rfl⟩
theorem gY.aer {E:Env} {c:Code} {s s1:St} {gh:List (Loc × Nat × TypeId)} {head:cr} {outs:List (XK × cr)} {rd:head.ps.T→Option (head.ps.T ⊕ JT outs)} {N:Nat} {v0:head.ps.T} {o:JT outs} {Q:Exit→St→Prop}
  (hg:Am.jg gh s=some s1) (h0:head.dec s1 s1=some v0) (hr:∀ v r,rd v=some r→ny E c (fun e s'=>AG s1 head outs e s'=some r) (head.st s1 v))
  (hl:aw rd N v0=some o) (hQ:∀ (t:cr) (v:t.ps.T) (e:Exit),(∀ (α:Type) (K:Exit→St→α),Qp s1 outs o K=K e (t.st s1 v))→Q e (t.st s1 v)∧aP s (t.st s1 v)) :
  ny E (.loop c) Q s:=fun R0 w β a F Ub Kj=>by
 obtain ⟨R,k1,k2,k3,_⟩:=lM Ub hg;have hf:cw R s1.ro F:=by rw [k3]; exact Kj.mono k2.ext
 obtain ⟨i1,i2⟩:=cr.HT (aP.refl s1) k1 k1 (Step.refl R w β s1.boxes) h0;refine lN (fun m a' w'=>∃ v R' β',aw rd m v=some o∧bk E R' w' β' (head.st s1 v) a'∧Step R w β s1.boxes R' w' β' (head.st s1 v).boxes) ?_ ⟨v0,_,β,hl,i1,i2⟩;rintro m a' w' ⟨v,R',β',hm,nD,ks⟩;cases m with
 |zero=>cases hm
 |succ m=>
  obtain ⟨r,h1,h2⟩:=bind_some (show ((rd v).bind fun o=>aaP (fun v'=>aw rd m v') (fun x=>some x) o)=some o from hm);refine wpIn_mono (hr v r h1 R' w' β' a' F nD (hf.mono ks.ext)) ?_;rintro e a2 w2 ⟨s2,R2,β2,⟨hK,hx⟩,Fu,EX,Hf⟩;have HW:aP s1 s2:=(head.oV s1 v).trans hx;have AE:=ks.trans EX;have out:∀ {u:JT outs},kY s1 outs e s2=some u→r=.inr u→Y9 E R0 w β s (fun e s'=>Q e s'∧aP s s') e a2 w2:=fun {u} hu hru=>by
   subst hru;cases h2;obtain ⟨t,v',q1,q2⟩:=vj hu;obtain ⟨j1,j2⟩:=cr.HT HW k1 Fu AE q1;exact ⟨t.st s1 v',_,β2,hQ t v' e q2,j1,k2.trans j2,k3⟩
  cases e with
  |normal=>
   obtain ⟨v',q1,q2⟩:=bind_some (show ((head.dec s1 s2).bind fun v=>some (.inl v))=some r from hK);cases q2;obtain ⟨j1,j2⟩:=cr.HT HW k1 Fu AE q1;exact ⟨m,aau m,v',_,β2,h2,j1,j2⟩
  |exit i=>obtain ⟨u,q1,q2⟩:=bind_some (show ((kY s1 outs (.exit i) s2).bind fun o=>some (.inr o))=some r from hK); exact out q1 (aae q2).symm
  |ret=>obtain ⟨u,q1,q2⟩:=bind_some (show ((kY s1 outs .ret s2).bind fun o=>some (.inr o))=some r from hK); exact out q1 (aae q2).symm
  |goto i=>obtain ⟨u,q1,q2⟩:=bind_some (show ((kY s1 outs (.goto i) s2).bind fun o=>some (.inr o))=some r from hK); exact out q1 (aae q2).symm
  |panic i=>obtain ⟨u,q1,q2⟩:=bind_some (show ((kY s1 outs (.panic i) s2).bind fun o=>some (.inr o))=some r from hK); exact out q1 (aae q2).symm
  |outgrown=>obtain ⟨u,q1,q2⟩:=bind_some (show ((kY s1 outs .outgrown s2).bind fun o=>some (.inr o))=some r from hK); exact out q1 (aae q2).symm
theorem gY.ZE {E:Env} {c:Code} {s s1:St} {gh:List (Loc × Nat × TypeId)} {head:cr} {outs:List (XK × cr)} {rd:(head.ps.T→Option (JT outs))→head.ps.T→Option (JT outs)} {N:Nat} {v0:head.ps.T} {o:JT outs} {Q:Exit→St→Prop}
  (hg:Am.jg gh s=some s1) (h0:head.dec s1 s1=some v0) (hr:∀ k v u,rd k v=some u→ny E c (fun e s'=>RL s1 head outs k e s'=some u) (head.st s1 v))
  (hl:eN rd N v0=some o) (hQ:∀ (t:cr) (v:t.ps.T) (e:Exit),(∀ (α:Type) (K:Exit→St→α),Qp s1 outs o K=K e (t.st s1 v))→Q e (t.st s1 v)∧aP s (t.st s1 v)) :
  ny E (.loop c) Q s:=fun R0 w β a F Ub Kj=>by
 obtain ⟨R,k1,k2,k3,_⟩:=lM Ub hg;have hf:cw R s1.ro F:=by rw [k3]; exact Kj.mono k2.ext
 obtain ⟨i1,i2⟩:=cr.HT (aP.refl s1) k1 k1 (Step.refl R w β s1.boxes) h0;refine lN (fun m a' w'=>∃ v R' β',eN rd m v=some o∧bk E R' w' β' (head.st s1 v) a'∧Step R w β s1.boxes R' w' β' (head.st s1 v).boxes) ?_ ⟨v0,_,β,hl,i1,i2⟩;rintro m a' w' ⟨v,R',β',hm,nD,ks⟩;cases m with
 |zero=>cases hm
 |succ m=>
  refine wpIn_mono (hr (eN rd m) v o hm R' w' β' a' F nD (hf.mono ks.ext)) ?_;rintro e a2 w2 ⟨s2,R2,β2,⟨hK,hx⟩,Fu,EX,Hf⟩;have HW:aP s1 s2:=(head.oV s1 v).trans hx;have AE:=ks.trans EX;have out:kY s1 outs e s2=some o→Y9 E R0 w β s (fun e s'=>Q e s'∧aP s s') e a2 w2:=fun hu=>by
   obtain ⟨t,v',q1,q2⟩:=vj hu;obtain ⟨j1,j2⟩:=cr.HT HW k1 Fu AE q1;exact ⟨t.st s1 v',_,β2,hQ t v' e q2,j1,k2.trans j2,k3⟩
  cases e with
  |normal=>
   obtain ⟨v',q1,q2⟩:=bind_some (show (head.dec s1 s2).bind (eN rd m)=some o from hK);obtain ⟨j1,j2⟩:=cr.HT HW k1 Fu AE q1;exact ⟨m,aau m,v',_,β2,q2,j1,j2⟩
  |exit i=>exact out hK
  |ret=>exact out hK
  |goto i=>exact out hK
  |panic i=>exact out hK
  |outgrown=>exact out hK
theorem gY.ZF {E:Env} {X:Type} {c:Code} {s s1:St} {gh:List (Loc × Nat × TypeId)} {head:cr} {K:Exit→St→Option X} {rd:(head.ps.T→Option X)→head.ps.T→Option X} {N:Nat} {v0:head.ps.T} {o:X}
  (hg:Am.jg gh s=some s1) (h0:head.dec s1 s1=some v0) (hr:∀ k v u,rd k v=some u→ny E c (fun e s'=>RN s1 head K k e s'=some u) (head.st s1 v))
  (hl:eN rd N v0=some o) :
  ny E (.loop c) (fun e s'=>K e s'=some o) s:=fun R0 w β a F Ub Kj=>by
 obtain ⟨R,k1,k2,k3,_⟩:=lM Ub hg;have hf:cw R s1.ro F:=by rw [k3]; exact Kj.mono k2.ext
 obtain ⟨i1,i2⟩:=cr.HT (aP.refl s1) k1 k1 (Step.refl R w β s1.boxes) h0;refine lN (fun m a' w'=>∃ v R' β',eN rd m v=some o∧bk E R' w' β' (head.st s1 v) a'∧Step R w β s1.boxes R' w' β' (head.st s1 v).boxes) ?_ ⟨v0,_,β,hl,i1,i2⟩;rintro m a' w' ⟨v,R',β',hm,nD,ks⟩;cases m with
 |zero=>cases hm
 |succ m=>
  refine wpIn_mono (hr (eN rd m) v o hm R' w' β' a' F nD (hf.mono ks.ext)) ?_;rintro e a2 w2 ⟨s2,R2,β2,⟨hK,hx⟩,Fu,EX,Hf⟩;have HW:aP s1 s2:=(head.oV s1 v).trans hx;have AE:=ks.trans EX;have out:K e s2=some o→Y9 E R0 w β s (fun e s'=>K e s'=some o∧aP s s') e a2 w2:=fun hu=>
   ⟨s2,R2,β2,⟨hu,(oU hg).trans HW⟩,Fu,k2.trans AE,Hf.trans k3⟩
  cases e with
  |normal=>
   obtain ⟨v',q1,q2⟩:=bind_some (show (head.dec s1 s2).bind (eN rd m)=some o from hK);obtain ⟨j1,j2⟩:=cr.HT HW k1 Fu AE q1;exact ⟨m,aau m,v',_,β2,q2,j1,j2⟩
  |exit i=>exact out hK
  |ret=>exact out hK
  |goto i=>exact out hK
  |panic i=>exact out hK
  |outgrown=>exact out hK
theorem AJ {s s':St} {t:Tmp} {sz:Nat} {e:TypeId} {c:Bool} (h:yf s t sz e=some (c,s')):s'.G.length=s.G.length∧aP s s':=by
 unfold yf at h
 repeat' (split at h)
 all_goals (first|(cases h; done) | skip)
 injection h with h;injection h with _ h;subst h;exact ⟨kr _ _ _,⟨⟨[_],rfl⟩,⟨[],rfl⟩,rfl⟩⟩
theorem gY.Ni {E:Env} {c:Code} {s s1:St} {tq:Tmp} {sz:Nat} {ty:TypeId} {head:cr} {outs:List (XK × cr)} {rd:head.ps.T→Option (head.ps.T ⊕ JT outs)} {N:Nat} {v0:head.ps.T} {o:JT outs} {Q:Exit→St→Prop}
  (hg:yf s tq sz ty=some (true,s1)) (h0:head.dec s1 s1=some v0) (hr:∀ v r,rd v=some r→∃ s2,AF (head.st s1 v) tq sz ty=some s2∧ny E c (fun e s'=>RR s1 head outs tq sz ty e s'=some r) s2)
  (hl:aw rd N v0=some o) (hQ:∀ (t:cr) (v:t.ps.T) (e:Exit),(∀ (α:Type) (K:Exit→St→α),Qp s1 outs o K=K e (t.st s1 v))→Q e (t.st s1 v)∧aP s (t.st s1 v)) :
  ny E (.loop c) Q s:=fun R0 w β a F Ub Kj=>by
 obtain ⟨R1,cv,ro,es,k1,k2,k3,k4,k5,k6,k7,k8,k9⟩:=FH Ub hg;have hnG:R0.obj.length=s1.G.length:=by rw [Ub.g.len,(AJ hg).1]
 cases N with
 |zero=>cases hl
 |succ N0=>
 obtain ⟨r0,aih,_⟩:=bind_some (show ((rd v0).bind fun o=>aaP (fun v'=>aw rd N0 v') (fun x=>some x) o)=some o from hl);obtain ⟨s20,aes,_⟩:=hr v0 r0 aih;obtain ⟨R4,i1,i2,i3,i4,i5⟩:=FI k1 hnG (aP.refl s1) (Ext.refl R1 w) (Step.refl R0 w β s.boxes) k1 k2 k7 k8 k9 h0 aes;refine lN (fun m a' w'=>∃ v R' β' s2,aw rd m v=some o∧AF (head.st s1 v) tq sz ty=some s2∧bk E R' w' β' s2 a'∧Step R0 w β s.boxes R' w' β' s2.boxes∧Ext R1 w R' w'∧s2.ro=s1.ro∧aP s1 s2) ?_ ⟨v0,R4,β,s20,hl,aes,i1,i2,i3,i4,(head.oV s1 v0).trans i5⟩;rintro m a' w' ⟨v,R',β',s2,hm,TX,nD,ks,hE,bD,hx0⟩;cases m with
 |zero=>cases hm
 |succ m=>
  obtain ⟨r,h1,h2⟩:=bind_some (show ((rd v).bind fun o=>aaP (fun v'=>aw rd m v') (fun x=>some x) o)=some o from hm);obtain ⟨s2',aet,hw⟩:=hr v r h1;rw [TX] at aet;cases aet;refine wpIn_mono (hw R' w' β' a' F nD (by rw [bD,k3]; exact Kj.mono ks.ext)) ?_;rintro e a2 w2 ⟨s3,R2,β2,⟨hK,hx⟩,Fu,EX,Hf⟩;have HW:aP s1 s3:=hx0.trans hx;have AE:=ks.trans EX;have hE2:=hE.trans EX.ext;have out:∀ {u:JT outs},kY s1 outs e s3=some u→r=.inr u→Y9 E R0 w β s (fun e s'=>Q e s'∧aP s s') e a2 w2:=fun {u} hu hru=>by
   subst hru;cases h2;obtain ⟨t,v',q1,q2⟩:=vj hu;obtain ⟨j1,j2,j3⟩:=cr.Zu HW k1 Fu hE2 q1;refine ⟨t.st s1 v',_,β2,hQ t v' e q2,j1,⟨⟨AE.ext.I,AE.ext.cell,fun id r bV=>?_,AE.ext.lp⟩,AE.os,AE.tape,AE.output,AE.size,AE.bh,fun b hb Ll=>?_,fun b o hi hb wy=>AE.im b o hi hb wy⟩,k3⟩
   ·obtain ⟨r',g1,g2⟩:=AE.ext.obj id r bV;have:=bA bV;exact ⟨r',kX.2 ⟨by omega,g1⟩,g2⟩
   ·rcases Ll with Ll|⟨k,cs,hk,rfl⟩
    ·exact AE.own b hb (.inl (uo Ll))
    ·obtain ⟨gr,kT⟩:=j3 k cs hk;exact AE.own _ hb (.inr ⟨k,gr,kT,rfl⟩)
  cases e with
  |normal=>
   have hK:(match yf s3 tq sz ty with
    |some (c,s2)=>bif c then (head.dec s1 s2).bind fun v=>some (.inl v) else none
    |none=>none:Option (head.ps.T ⊕ JT outs))=some r:=hK
   cases hu:yf s3 tq sz ty with
   |none=>rw [hu] at hK; cases hK
   |some x=>
    obtain ⟨cc,s4⟩:=x;rw [hu] at hK;cases cc with
    |false=>cases hK
    |true=>
     obtain ⟨v',q1,q2⟩:=bind_some (show ((head.dec s1 s4).bind fun v=>some (.inl v))=some r from hK);cases q2;obtain ⟨R3,cv3,ro3,es3,m1,m2,m3,m4,m5,m6,m7,m8,m9⟩:=FH Fu hu;have hs4:∃ s5,AF (head.st s1 v') tq sz ty=some s5:=by
      cases m with
      |zero=>cases h2
      |succ m0=>
       obtain ⟨r9,hr9,_⟩:=bind_some (show ((rd v').bind fun o=>aaP (fun v'=>aw rd m0 v') (fun x=>some x) o)=some o from h2);obtain ⟨s9,hs9,_⟩:=hr v' r9 hr9;exact ⟨s9,hs9⟩
     obtain ⟨s5,hs5⟩:=hs4;obtain ⟨R5,j1,j2,j3,j4,j5⟩:=FI k1 hnG (HW.trans m4) (hE2.trans m2.ext) AE m1 m2 m7 m8 m9 q1 hs5;exact ⟨m,aau m,v',R5,β2,s5,h2,hs5,j1,j2,j3,j4,(head.oV s1 v').trans j5⟩
  |exit i=>obtain ⟨u,q1,q2⟩:=bind_some (show ((kY s1 outs (.exit i) s3).bind fun o=>some (.inr o))=some r from hK); exact out q1 (aae q2).symm
  |ret=>obtain ⟨u,q1,q2⟩:=bind_some (show ((kY s1 outs .ret s3).bind fun o=>some (.inr o))=some r from hK); exact out q1 (aae q2).symm
  |goto i=>obtain ⟨u,q1,q2⟩:=bind_some (show ((kY s1 outs (.goto i) s3).bind fun o=>some (.inr o))=some r from hK); exact out q1 (aae q2).symm
  |panic i=>obtain ⟨u,q1,q2⟩:=bind_some (show ((kY s1 outs (.panic i) s3).bind fun o=>some (.inr o))=some r from hK); exact out q1 (aae q2).symm
  |outgrown=>obtain ⟨u,q1,q2⟩:=bind_some (show ((kY s1 outs .outgrown s3).bind fun o=>some (.inr o))=some r from hK); exact out q1 (aae q2).symm
end
def vV (E:Env):List Bool→Code→(Exit→St→Prop)→St→Prop
 |[],_,Q,s=>Q .normal s
 |true :: k,.seq x y,Q,s=>ny E x (Ar (vV E k y Q) Q) s
 |false :: k,.seq x _,Q,s=>vV E k x Q s
 |_ :: _,_,_,_=>False
def oW (E:Env):List Bool→Code→(Exit→St→Prop)→St→Prop
 |[],c,Q,s=>ny E c Q s
 |true :: k,.seq _ y,Q,s=>oW E k y Q s
 |false :: k,.seq x y,Q,s=>oW E k x (Ar (ny E y Q) Q) s
 |_ :: _,_,_,_=>False
def Nj (F:Fence) (P:Program):List Bool→Code→(Exit→Act→World→Prop)→Act→World→Prop
 |[],c,Q,a,w=>c.wpIn F 0 P Q a w
 |true :: k,.seq _ y,Q,a,w=>Nj F P k y Q a w
 |false :: k,.seq x y,Q,a,w=>Nj F P k x (Exit.then (fun a' w'=>y.wpIn F 0 P Q a' w') Q) a w
 |_ :: _,_,_,_,_=>False
section rot
variable {E:Env} {s1:St} {R:aj} {w:World} {β:Nat→Nat} {F:Fence}
def At (E:Env) (s1:St) (R:aj) (w:World) (β:Nat→Nat) (s:St) (a:Act) (w':World):Prop:=
 ∃ R' β',aP s1 s∧bk E R' w' β' s a∧Step R w β s1.boxes R' w' β' s.boxes∧s.ro=s1.ro
theorem ny.at {c:Code} {Q:Exit→St→Prop} {s:St} {a:Act} {w':World} {Φ:Exit→Act→World→Prop} (hf:cw R s1.ro F) (h:ny E c Q s) (tv:At E s1 R w β s a w') (hQ:∀ e s' a' w',Q e s'→At E s1 R w β s' a' w'→Φ e a' w'):c.wpIn F 0 E.P Φ a w':=by
 obtain ⟨R',β',hx,hr,ks,bD⟩:=tv;refine wpIn_mono (h R' w' β' a F hr (by rw [bD]; exact hf.mono ks.ext)) ?_;rintro e a2 w2 ⟨s2,R2,β2,⟨hq,HW⟩,Fu,EX,Hf⟩;exact hQ e s2 a2 w2 hq ⟨R2,β2,hx.trans HW,Fu,ks.trans EX,Hf.trans bD⟩
theorem oW.at (hf:cw R s1.ro F):∀ (k:List Bool) (c:Code) {Q:Exit→St→Prop} {s:St} {a:Act} {w':World} {Φ:Exit→Act→World→Prop},oW E k c Q s→At E s1 R w β s a w'→(∀ e s' a' w',Q e s'→At E s1 R w β s' a' w'→Φ e a' w')→Nj F E.P k c Φ a w'
 |[],c,Q,s,a,w',Φ,h,tv,hQ=>ny.at hf h tv hQ
 |true :: k,c,Q,s,a,w',Φ,h,tv,hQ=>by
  cases c with
  |seq x y=>exact oW.at hf k y h tv hQ
  |_=>exact h.elim
 |false :: k,c,Q,s,a,w',Φ,h,tv,hQ=>by
  cases c with
  |seq x y=>
   refine oW.at hf k x (Q:=Ar (ny E y Q) Q) h tv fun e s' a' w' hq wM=>?_
   cases e with
   |normal=>exact ny.at hf hq wM hQ
   |_=>exact hQ _ s' a' w' hq wM
  |_=>exact h.elim
theorem vV.at (hf:cw R s1.ro F):∀ (k:List Bool) (c:Code) {Q:Exit→St→Prop} {s:St} {a:Act} {w':World} {Φ:Exit→Act→World→Prop},vV E k c Q s→At E s1 R w β s a w' →
  (∀ s' a' w',Q .normal s'→At E s1 R w β s' a' w'→Nj F E.P k c Φ a' w')→(∀ e s' a' w',e≠.normal→Q e s'→At E s1 R w β s' a' w'→Φ e a' w')→c.wpIn F 0 E.P Φ a w'
 |[],c,Q,s,a,w',Φ,h,tv,hS,hQ=>hS s a w' h tv
 |true :: k,c,Q,s,a,w',Φ,h,tv,hS,hQ=>by
  cases c with
  |seq x y=>
   refine wpIn_seq (ny.at hf (show ny E x (Ar (vV E k y Q) Q) s from h) tv fun e s' a' w' hq wM=>?_);cases e with
   |normal=>exact vV.at hf k y hq wM hS hQ
   |exit i=>exact hQ _ s' a' w' (by simp) hq wM
   |ret=>exact hQ _ s' a' w' (by simp) hq wM
   |goto i=>exact hQ _ s' a' w' (by simp) hq wM
   |panic i=>exact hQ _ s' a' w' (by simp) hq wM
   |outgrown=>exact hQ _ s' a' w' (by simp) hq wM
  |_=>exact h.elim
 |false :: k,c,Q,s,a,w',Φ,h,tv,hS,hQ=>by
  cases c with
  |seq x y=>
   refine wpIn_seq (vV.at hf k x (Q:=Q) h tv hS fun e s' a' w' du hq wM=>?_);cases e with
   |normal=>exact absurd rfl du
   |exit i=>exact hQ _ s' a' w' du hq wM
   |ret=>exact hQ _ s' a' w' du hq wM
   |goto i=>exact hQ _ s' a' w' du hq wM
   |panic i=>exact hQ _ s' a' w' du hq wM
   |outgrown=>exact hQ _ s' a' w' du hq wM
  |_=>exact h.elim
end rot
theorem gY.Va {E:Env} {b:Code} {s s1:St} {gh:List (Loc × Nat × TypeId)} {head:cr} {outs:List (XK × cr)} {pre:St→Option (head.ps.T ⊕ JT outs)} {rd:head.ps.T→Option (head.ps.T ⊕ JT outs)} {N:Nat} {k:List Bool} {r0:head.ps.T ⊕ JT outs} {o:JT outs} {Q:Exit→St→Prop}
  (hg:Am.jg gh s=some s1) (h0:pre s1=some r0)
  (hp:∀ s2 r,pre s2=some r→vV E k b (fun e s'=>AG s1 head outs e s'=some r) s2)
  (hr:∀ v r,rd v=some r→oW E k b (fun e s'=>FJ pre (AG s1 head outs) e s'=some r) (head.st s1 v))
  (hl:aaP (fun v=>aw rd N v) (fun x=>some x) r0=some o) (hQ:∀ (t:cr) (v:t.ps.T) (e:Exit),(∀ (α:Type) (K:Exit→St→α),Qp s1 outs o K=K e (t.st s1 v))→Q e (t.st s1 v)∧aP s (t.st s1 v)) :
  ny E (.loop b) Q s:=fun R0 w β a F Ub Kj=>by
 obtain ⟨R,k1,k2,k3,_⟩:=lM Ub hg;have hf:cw R s1.ro F:=by rw [k3]; exact Kj.mono k2.ext
 refine lN (fun n a' w'=>∃ s2 r,pre s2=some r∧aaP (fun v=>aw rd n v) (fun x=>some x) r=some o∧At E s1 R w β s2 a' w') ?_ ⟨s1,r0,h0,hl,R,β,aP.refl s1,k1,Step.refl _ _ _ _,rfl⟩;rintro n a' w' ⟨s2,r,hpr,hlr,tv⟩
 -- a way out
 have out:∀ {e:Exit} {s3:St} {a3:Act} {w3:World} {r:head.ps.T ⊕ JT outs} {n:Nat},e≠.normal→AG s1 head outs e s3=some r→aaP (fun v=>aw rd n v) (fun x=>some x) r=some o→At E s1 R w β s3 a3 w3→Y9 E R0 w β s (fun e s'=>Q e s'∧aP s s') e a3 w3:=fun {e s3 a3 w3 r n} du hK hlr tv=>by
  obtain ⟨R3,β3,hx3,hr3,ZG,aij⟩:=tv;have key:∀ {u:JT outs},kY s1 outs e s3=some u→r=.inr u→Y9 E R0 w β s (fun e s'=>Q e s'∧aP s s') e a3 w3:=fun {u} hu hru=>by
   subst hru;obtain rfl:=aae hlr;obtain ⟨t,v',q1,q2⟩:=vj hu;obtain ⟨j1,j2⟩:=cr.HT hx3 k1 hr3 ZG q1;exact ⟨t.st s1 v',_,_,hQ t v' _ q2,j1,k2.trans j2,k3⟩
  cases e with
  |normal=>exact absurd rfl du
  |exit i=>obtain ⟨u,q1,q2⟩:=bind_some (show ((kY s1 outs (.exit i) s3).bind fun o=>some (.inr o))=some r from hK); exact key q1 (aae q2).symm
  |ret=>obtain ⟨u,q1,q2⟩:=bind_some (show ((kY s1 outs .ret s3).bind fun o=>some (.inr o))=some r from hK); exact key q1 (aae q2).symm
  |goto i=>obtain ⟨u,q1,q2⟩:=bind_some (show ((kY s1 outs (.goto i) s3).bind fun o=>some (.inr o))=some r from hK); exact key q1 (aae q2).symm
  |panic i=>obtain ⟨u,q1,q2⟩:=bind_some (show ((kY s1 outs (.panic i) s3).bind fun o=>some (.inr o))=some r from hK); exact key q1 (aae q2).symm
  |outgrown=>obtain ⟨u,q1,q2⟩:=bind_some (show ((kY s1 outs .outgrown s3).bind fun o=>some (.inr o))=some r from hK); exact key q1 (aae q2).symm
 refine vV.at hf k b (hp s2 r hpr) tv (fun s3 a3 w3 hK ZH=>?_) (fun e s3 a3 w3 du hK ZH=>?_)
 ·obtain ⟨v,q1,q2⟩:=bind_some (show ((head.dec s1 s3).bind fun v=>some (.inl v))=some r from hK);obtain rfl:=aae q2;have EE:aw rd n v=some o:=hlr;cases n with
  |zero=>cases EE
  |succ n=>
   obtain ⟨r',h1,h2⟩:=bind_some (show ((rd v).bind fun o=>aaP (fun v'=>aw rd n v') (fun x=>some x) o)=some o from EE);obtain ⟨R3,β3,hx3,hr3,ZG,aij⟩:=ZH;obtain ⟨j1,j2⟩:=cr.HT hx3 k1 hr3 ZG q1;refine oW.at hf k b (hr v r' h1) ⟨_,_,head.oV s1 v,j1,j2,rfl⟩ fun e s4 a4 w4 hK4 Pt=>?_
   cases e with
   |normal=>exact ⟨n,aau n,s4,r',hK4,h2,Pt⟩
   |exit i=>exact out (by simp) hK4 h2 Pt
   |ret=>exact out (by simp) hK4 h2 Pt
   |goto i=>exact out (by simp) hK4 h2 Pt
   |panic i=>exact out (by simp) hK4 h2 Pt
   |outgrown=>exact out (by simp) hK4 h2 Pt
 ·have:=out du hK hlr ZH;cases e with
  |normal=>exact absurd rfl du
  |_=>exact this
theorem wN {C:ke} {ih:EvT} (hs:zN C ih) {X:Type} {f:FuncId} {K:Exit→St→Option X}:∀ (k:List Bool) (q:Nat) (c:Code) (s:St) (x:X),bW (C.D.dt f) c=true→RS ih zK f K k q c s=some x→vV C.D.toEnv k c (fun e s'=>K e s'=some x) s
 |[],_,_,_,_,_,h=>h
 |true :: k,q,c,s,x,hd,h=>by
  cases c with
  |seq a b=>
   rw [bW,aal] at hd;refine (hs f _ a X zK qF _ s x hd.1 h).of fun e s' hq hx=>?_
   cases e with
   |normal=>exact ⟨wN hs k (2 * q+1) b s' x hd.2 hq,hx⟩
   |_=>exact ⟨hq,hx⟩
  |_=>cases h
 |false :: k,q,c,s,x,hd,h=>by
  cases c with
  |seq a b=>
   rw [bW,aal] at hd;exact wN hs k (2 * q) a s x hd.1 h
  |_=>cases h
theorem oW.mono {E:Env}:∀ (k:List Bool) (c:Code) {Q Q':Exit→St→Prop} {s:St},(∀ e s',Q e s'→Q' e s')→oW E k c Q s→oW E k c Q' s
 |[],c,Q,Q',s,hQ,h=>gY.mono h fun e s' hh=>⟨hQ e s' hh.1,hh.2⟩
 |true :: k,c,Q,Q',s,hQ,h=>by
  cases c with
  |seq x y=>exact oW.mono k y hQ h
  |_=>exact h.elim
 |false :: k,c,Q,Q',s,hQ,h=>by
  cases c with
  |seq x y=>
   refine oW.mono k x (Q:=Ar (ny E y Q) Q) (Q':=Ar (ny E y Q') Q') (fun e s' hq=>?_) h;cases e with
   |normal=>exact gY.mono hq fun e s' hh=>⟨hQ e s' hh.1,hh.2⟩
   |_=>exact hQ _ s' hq
  |_=>exact h.elim
theorem wO {C:ke} {ih:EvT} (hs:zN C ih) {X:Type} {f:FuncId}:∀ (k:List Bool) (q:Nat) (c:Code) (K:Exit→St→Option X) (s:St) (x:X),bW (C.D.dt f) c=true→U9 ih zK f k q c K s=some x→oW C.D.toEnv k c (fun e s'=>K e s'=some x) s
 |[],_,c,K,s,x,hd,h=>hs f _ c X zK qF K s x hd h
 |true :: k,q,c,K,s,x,hd,h=>by
  cases c with
  |seq a b=>
   rw [bW,aal] at hd;exact wO hs k (2 * q+1) b K s x hd.2 h
  |_=>cases h
 |false :: k,q,c,K,s,x,hd,h=>by
  cases c with
  |seq a b=>
   rw [bW,aal] at hd;refine oW.mono k a (fun e s' hq=>?_) (wO hs k (2 * q) a _ s x hd.1 h);cases e with
   |normal=>exact hs f _ b X zK qF K s' x hd.2 hq
   |_=>exact hq
  |_=>cases h
theorem Dw {C:ke} (Hs:∀ g e,C.Pn g=some e→aK C.D.toEnv g e) (n:Nat):zN C (ev C n):=by
 induction n using Nat.strongRecOn with
 |_ n ihn=>
 cases n with
 |zero=>intro f p c X hH _ K s x _ h; cases h
 |succ n=>
  have hs:=ihn n (aau n);have plain:∀ (f:FuncId) (p:Nat) (c:Code) (X:Type) (hH:Option X→Option X→Option X),AH hH→∀ (K:Exit→St→Option X) (s:St) (x:X),((∃ b,c=.loop b)→C.Hm f p=none) →
    bW (C.D.dt f) c=true→Dp C (ev C n) f p c X hH K s=some x→ny C.D.toEnv c (fun e s'=>K e s'=some x) s:=by
   intro f p c X hH hm K s x mn hd h;have FF:=Ja Hs hs hm;have aeu:=LY hs hm;unfold Dp at h;cases c with
   |skip=>exact gY.skip ⟨h,aP.refl s⟩
   |label l=>exact gY.label ⟨h,aP.refl s⟩
   |exit id=>exact gY.exit ⟨h,aP.refl s⟩
   |ret=>exact gY.ret ⟨h,aP.refl s⟩
   |seq a b=>
    rw [bW,aal] at hd;refine gY.seq ((hs f _ a X hH hm _ s x hd.1 h).of fun e s' hq hx=>?_);cases e with
    |normal=>exact (hs f _ b X hH hm _ s' x hd.2 hq).of fun e s2 nR HW=>⟨nR,hx.trans HW⟩
    |_=>exact ⟨hq,hx⟩
   |cond co a b=>
    rw [bW,aal] at hd;simp only at h;split at h
    ·rename_i t hb;refine gY.cond hb (fun e=>?_) (fun e=>?_)
     ·subst e; exact hs f _ a X hH hm _ s x hd.1 h
     ·subst e; exact hs f _ b X hH hm _ s x hd.2 h
    ·cases h
   |block id c=>
    refine gY.block ((hs f _ c X hH hm _ s x hd h).of fun e s' hq hx=>?_);cases e with
    |exit nN=>
     simp only [RI] at hq;refine ⟨fun e=>?_,fun e=>?_⟩
     ·subst e; rw [xn] at hq; exact ⟨hq,hx⟩
     ·rw [rW e] at hq; exact ⟨hq,hx⟩
    |_=>exact ⟨hq,hx⟩
   |scope c=>
    refine gY.scope ((hs f _ c X hH hm _ s x hd h).of fun e s' hq hx=>?_);cases e with
    |goto l=>cases hq
    |_=>exact ⟨hq,hx⟩
   |region id ops dr=>
    cases dr with
    |false=>exact gY.region (f:=f) (FM (Dv FF aeu h))
    |true=>
     simp only at h;rw [bW] at hd;split at h
     ·rename_i pl hT;rw [hT] at hd;exact gY.draw (f:=f) hd (yi (mI FF aeu hm h))
     ·cases h
   |loop b=>
    have XH:=mn ⟨b,rfl⟩;refine gY.loop (fun m s'=>m≤n+1∧ev C m f p (.loop b) X hH K s'=some x∧aP s s') ?_ (m:=n+1) ⟨Nat.le_refl _,?_,aP.refl s⟩
    ·rintro m s' ⟨YN,hr,hx⟩;cases m with
     |zero=>cases hr
     |succ m=>
      have nD:Dq C (ev C m) f p (.loop b) X hH K s'=some x:=hr;unfold Dq at nD;rw [XH] at nD;refine (ihn m (by omega) f _ b X hH hm _ s' x hd nD).of fun e s2 hq HW=>?_
      cases e with
      |normal=>exact ⟨m,aau m,by omega,hq,hx.trans HW⟩
      |_=>exact ⟨hq,hx.trans HW⟩
    ·show Dq C (ev C n) f p (.loop b) X hH K s=some x;unfold Dq;rw [XH];exact h
   |rangeFunc g ps wG bd=>
    simp only at h;split at h
    ·rename_i bD;split at h
     ·rename_i hf first cap hg
      refine gY.rangeFunc (4096 * p+f) bD hg ((FF _ _ _ _ _ h).mono fun r G' hq=>?_);unfold rfQ;split at hq
      ·rename_i busy pending fn sl nn pp aa bb dd done Hd;rw [Hd];simp only;obtain ⟨h1,h2⟩:=bl hq;refine ⟨by cases busy <;> cases done <;> simp_all,?_⟩;have UY:∀ (G:List GO) (m:List Nat),aP s ⟨s.af,s.boxes,G,m,s.ro,s.n⟩:=fun _ _=>⟨⟨[],rfl⟩,⟨[],rfl⟩,rfl⟩
       split at h2
       ·rw [dO] at h2; exact ⟨h2,UY _ _⟩
       ·rw [dO] at h2; exact gY.ret ⟨h2,UY _ _⟩
       ·rw [dO] at h2; exact gY.exit ⟨h2,UY _ _⟩
       ·cases h2
      ·cases hq
     ·cases h
    ·rename_i id bD;split at h
     ·rename_i bu0 p0 fn0 sl0 n0 ps0 as0 bd0 d0 dn0 aik;split at h
      ·rename_i hf first cap hg
       refine gY.LG (4096 * p+f) bD aik hg ((FF _ _ _ _ _ h).mono fun r G' hq=>?_);unfold Zv;split at hq
       ·rename_i busy pending fn sl nn pp aa bb dd done Hd;rw [Hd];simp only;obtain ⟨h1,h2⟩:=bl hq;refine ⟨by cases busy <;> cases done <;> simp_all,?_⟩;have UY:∀ (G:List GO) (m:List Nat),aP s ⟨s.af,s.boxes,G,m,s.ro,s.n⟩:=fun _ _=>⟨⟨[],rfl⟩,⟨[],rfl⟩,rfl⟩
        split at h2
        ·rw [dO] at h2; exact ⟨h2,UY _ _⟩
        ·rw [dO] at h2; exact gY.ret ⟨h2,UY _ _⟩
        ·rw [dO] at h2; exact gY.exit ⟨h2,UY _ _⟩
        ·cases h2
       ·cases hq
      ·cases h
     ·cases h
   |_=>cases h
  intro f p c X hH hm K s x hd h;change Dq C (ev C n) f p c X hH K s=some x at h;unfold Dq at h;split at h
  ·rename_i hc;exact plain f p c X hH hm K s x (fun _=>hc) hd h
  ·rename_i ct hct;split at h
   ·rename_i yj hc;generalize uy (kZ c []) yj=outs at h;cases Q5:RK c with
    |true=>rw [Q5] at h; cases h
    |false=>
    rw [Q5] at h;obtain ⟨o,h1,h2⟩:=bind_some (show (Dp C (ev C n) f p c (JT outs) zK (kY s outs) s).bind (fun o=>Qp s outs o K)=some x from h);have hp:=plain f p c (JT outs) zK qF (kY s outs) s o (fun ⟨b,hb⟩=>by subst hb; cases Q5) hd h1;refine gY.ah9 (s:=s) (Q':=fun e s'=>kY s outs e s'=some o) (gY.mono hp fun e s' hh=>⟨hh.2,hh.1⟩) fun e s' hq=>?_
    obtain ⟨t,v,q1,q2⟩:=vj hq;exact ⟨t,v,q1,(q2 _ K).symm.trans h2,t.oV s v⟩
   ·rename_i gh yk yj hc;split at h
    ·rename_i b;split at h
     ·rename_i s1 hg;generalize uy (kZ b []) yj=outs at h;generalize ux (kZ b []) yk=head at h;unfold XF at h;obtain ⟨v0,h0,h⟩:=bind_some h;obtain ⟨o,hl,h⟩:=bind_some h;refine gY.aer hg h0 (fun v r hr=>hs f _ b _ zK qF _ _ r hd hr) hl fun t v e jQ=>?_
      exact ⟨(jQ _ K).symm.trans h,(oU hg).trans (t.oV s1 v)⟩
     ·cases h
    ·cases h
   ·rename_i k gh yk yj hc;split at h
    ·rename_i b;split at h
     ·rename_i s1 hg;generalize uy (kZ b []) yj=outs at h;generalize ux (kZ b []) yk=head at h;unfold aeq at h;obtain ⟨o,hl,h⟩:=bind_some h;obtain ⟨r0,h0,hl⟩:=bind_some hl;refine gY.Va hg h0 (fun s2 r hr=>wN hs k (2 * p) b s2 r hd hr) (fun v r hr=>wO hs k (2 * p) b _ _ r hd hr) hl fun t v e jQ=>?_
      exact ⟨(jQ _ K).symm.trans h,(oU hg).trans (t.oV s1 v)⟩
     ·cases h
    ·cases h
   ·rename_i gh yk yj hc;split at h
    ·rename_i b;split at h
     ·rename_i s1 hg;generalize uy (kZ b []) yj=outs at h;generalize ux (kZ b []) yk=head at h;unfold RM at h;obtain ⟨v0,h0,h⟩:=bind_some h;obtain ⟨o,hl,h⟩:=bind_some h;refine gY.ZE hg h0 (fun k v u hu=>hs f _ b _ zK qF _ _ u hd hu) hl fun t v e jQ=>?_
      exact ⟨(jQ _ K).symm.trans h,(oU hg).trans (t.oV s1 v)⟩
     ·cases h
    ·cases h
   ·rename_i gh yk hc;split at h
    ·rename_i b;split at h
     ·rename_i s1 hg;generalize ux (kZ b []) yk=head at h;unfold RQ at h;obtain ⟨v0,h0,hl⟩:=bind_some h;exact gY.ZF hg h0 (fun k v u hu=>hs f _ b _ zK qF _ _ u hd hu) hl
     ·cases h
    ·cases h
   ·rename_i tq sz ty yk yj hc;split at h
    ·rename_i b;split at h
     ·rename_i cc s1 hg;cases cc with
      |false=>cases h
      |true=>
      generalize uy (kZ b []) yj=outs at h;generalize ux (kZ b []) yk=head at h;have h:LR C (ev C n) f p b s1 head outs tq sz ty K=some x:=h;unfold LR at h;obtain ⟨v0,h0,h⟩:=bind_some h;obtain ⟨o,hl,h⟩:=bind_some h;refine gY.Ni hg h0 (fun v r hr=>?_) hl fun t v e jQ=>?_
      ·cases bD:AF (head.st s1 v) tq sz ty with
       |none=>rw [bD] at hr; cases hr
       |some s2=>
        rw [bD] at hr;exact ⟨s2,rfl,hs f _ b _ zK qF _ _ r hd hr⟩
      ·exact ⟨(jQ _ K).symm.trans h,(AJ hg).2.trans (t.oV s1 v)⟩
     ·cases h
    ·cases h
   ·cases h
end Go.Am
namespace Go.Am
open Go
noncomputable def ke.fn (C:ke) (n:Nat) (g:FuncId) (ps:aU) (p:aL) (x:ps.T):Option p.T:=
 FK C (ev C n) zK g (ps.enc x) [] (fun r _=>p.dec r)
theorem ke.eE {C:ke} (Hs:∀ g e,C.Pn g=some e→aK C.D.toEnv g e) {n:Nat} {g:FuncId} {ps:aU} {p:aL} (h1:ps.under 0=true) (h2:p.under 0=true) :
  aK C.D.toEnv g ⟨ps,p,C.fn n g ps p⟩:=fun x y h=>by
 refine bU.mono (bU.of (p:=p) (Q:=fun z=>z=y) (ps.eK x h1) h2 ((p9 (Dw Hs n) qF g _ [] _ y h).mono fun r _ hr=>⟨y,hr,rfl⟩)) ?_;rintro r ⟨z,rfl,rfl⟩;rfl
noncomputable def ke.fnX (C:ke) (n:Nat) (g:FuncId) (ps:aU) (outs:List RF) (x:ps.T):Option (XT outs):=
 FK C (ev C n) zK g (ps.enc x) [] (fun r G=>Pj G r outs)
theorem ke.RV {C:ke} (Hs:∀ g e,C.Pn g=some e→aK C.D.toEnv g e) {n:Nat} {g:FuncId} {ps:aU} {outs:List RF} (h1:ps.under 0=true) (h2:outs.all RF.under=true) :
  ∀ x y,C.fnX n g ps outs x=some y→sH C.D.toEnv g (ps.enc x) outs (fun z=>z=y):=fun x y h=>
 sH.of (ps.eK x h1) (List.all_eq_true.1 h2) ((p9 (Dw Hs n) qF g _ [] _ y h).mono fun r G' hr=>⟨y,hr,rfl⟩)
theorem bU.env {E E':Env} {g:FuncId} {args:List AV} {Q:AV→Prop} (hP:E.P=E'.P) (hg:E.fm=E'.fm) (h:bU E g args Q) (Bb:E.lo=E'.lo:=by rfl) (hgx:E.gx=E'.gx:=by rfl):bU E' g args Q:=by
 have go:∀ {R:aj} {w:World} {x:Nat} {cs:List AV},qw E R w x cs↔qw E' R w x cs:=fun {R w x cs}=>by unfold qw; rw [hgx]
 have HT:∀ {R:aj} {w:World} {G:List GO},gG E R w G↔gG E' R w G:=fun {R w G}=>
  ⟨fun h=>⟨h.len,h.obj,h.inj,h.wf,fun g cs hh=>go.1 (h.fm g cs (by rw [hg]; exact hh)),by rw [← Bb]; exact h.lo⟩,fun h=>⟨h.len,h.obj,h.inj,h.wf,fun g cs hh=>go.2 (h.fm g cs (by rw [← hg]; exact hh)),by rw [Bb]; exact h.lo⟩⟩
 intro G;obtain ⟨h1,h2⟩:=h G;rw [hP] at h1 h2;refine ⟨h1,fun R w cs hr hl=>(h2 R w cs (HT.2 hr) hl).mono fun e w' he=>?_⟩;cases e with
 |returned c=>obtain ⟨r,G',R',k1,k2,k3,k4⟩:=he; exact ⟨r,G',R',k1,k2,HT.1 k3,k4⟩
 |panicked c=>exact he
 |outgrown=>exact he
theorem bU.more {E E':Env} {g:FuncId} {args:List AV} {Q:AV→Prop} (hP:E.P=E'.P) (hg:∀ g cs,E.fm g=some cs→E'.fm g=some cs) (h:bU E g args Q) (Bb:E.lo=E'.lo:=by rfl) (hgx:E.gx=fun _=>false:=by rfl):bU E' g args Q:=by
 intro G;obtain ⟨h1,h2⟩:=h G;rw [hP] at h1 h2;refine ⟨h1,fun R w cs hr hl=>(h2 R w cs ⟨hr.len,hr.obj,hr.inj,hr.wf,fun g cs hh=>⟨(hr.fm g cs (hg g cs hh)).1,fun hx=>by rw [hgx] at hx; cases hx⟩,by rw [Bb]; exact hr.lo⟩ hl).mono fun e w' he=>?_⟩;cases e with
 |returned c=>
  obtain ⟨r,G',R',k1,k2,k3,k4⟩:=he;exact ⟨r,G',R',k1,k2,⟨k3.len,k3.obj,k3.inj,k3.wf,fun g cs hh=>(hr.fm g cs hh).mono k4.ext,by rw [← Bb]; exact k3.lo⟩,k4⟩
 |panicked c=>exact he
 |outgrown=>exact he
def EY:List (Nat × bi)→FuncId→Option bi
 |[],_=>none
 |(a,e) :: l,g=>bif aaK a g then some e else EY l g
theorem ic {E:Env}:∀ {l:List (Nat × bi)},(∀ a e,(a,e)∈l→aK E a e)→∀ g e,EY l g=some e→aK E g e
 |[],_,g,e,h=>by cases h
 |(a,x) :: l,hl,g,e,h=>by
  unfold EY at h;cases hb:aaK a g with
  |true=>
   rw [hb] at h;cases h;rw [← aas hb];exact hl a _ (by simp)
  |false=>
   rw [hb] at h;exact ic (fun a e hm=>hl a e (by simp [hm])) g e h
theorem Ez {E:Env}:∀ g e,EY [] g=some e→aK E g e:=fun _ _ h=>by cases h
theorem kK {E:Env} {a:Nat} {x:bi} {l:List (Nat × bi)} (hx:aK E a x) (hl:∀ g e,EY l g=some e→aK E g e):∀ g e,EY ((a,x) :: l) g=some e→aK E g e:=fun g e h=>by
 unfold EY at h;cases hb:aaK a g with
 |true=>
  rw [hb] at h;cases h;rw [← aas hb];exact hx
 |false=>
  rw [hb] at h;exact hl g e h
def XI:List (Nat × de)→Nat→Option de
 |[],_=>none
 |(a,c) :: l,p=>bif aaK a p then some c else XI l p
def XJ:List (Nat × List (Nat × de))→FuncId→Nat→Option de
 |[],_,_=>none
 |(a,c) :: l,g,p=>bif aaK a g then XI c p else XJ l g p
def Nk:Option Unit→Option Unit→Option Unit
 |some _,some _=>some ()
 |_,_=>none
theorem LZ:AH Nk:=fun a b x h=>by
 cases a <;> cases b <;> first | (cases h; done) | exact ⟨rfl,rfl⟩
theorem dD {C:ke} (Hs:∀ g e,C.Pn g=some e→aK C.D.toEnv g e) {n:Nat} {g:FuncId} {args:List AV} {p:aL} {ok:p.T→Bool} (h1:aR 0 args=true) (h2:p.under 0=true)
  (h:FK C (ev C n) Nk g args [] (fun r _=>bif p.fits r&&ok (p.bB r) then some () else none)=some ()):bU C.D.toEnv g args (fun r=>∃ y,r=p.enc y∧ok y=true):=
 bU.of (p:=p) (Q:=fun y=>ok y=true) h1 h2 ((p9 (Dw Hs n) LZ g args [] _ () h).mono fun r _ hr=>by
  obtain ⟨k,_⟩:=bl hr;rw [aal] at k;exact ⟨p.bB r,by simp [aL.dec,k.1],k.2⟩)
end Go.Am
namespace Go.Am
open Go
def wP (w:World):aj:=⟨fun b _=>b < w.heap.size,[]⟩
mutual
def aL.wf:(p:aL)→p.T→Prop
 |.int k,(n:Int)=>k.min≤n∧n≤k.max
 |.bool,_=>True
 |.str,(s:List UInt8)=>s.length≤maxLen
 |.agg ps,x=>ps.wf x
 |.bG ps,x=>ps.wf x
 |.list _ p,(xs:List p.T)=>xs.length≤maxLen∧∀ x∈xs,p.wf x
 |.own _ _ p,(xs:List p.T)=>xs.length≤maxLen∧∀ x∈xs,p.wf x
 |.bt _ _ p,(x:Nat × List p.T)=>x.2.length≤maxLen∧∀ y∈x.2,p.wf y
 |.mw _,_=>True
 |.two _ _,_=>True
def aU.wf:(ps:aU)→ps.T→Prop
 |.nil,_=>True
 |.cons p .nil,x=>p.wf x
 |.cons p (.cons q ps),x=>p.wf x.1∧(aU.cons q ps).wf x.2
end
def oX:List aL→aU
 |[]=>.nil
 |p :: l=>.cons p (oX l)
def Pu {β:Type} (g:β→Option (List aL)):List β→Option (List aL)
 |[]=>some []
 |x :: l=>match g x,Pu g l with
  |some a,some b=>some (a++b)
  |_,_=>none
def yl {β:Type} (off len:β→Nat):Nat→List β→Option Nat
 |o,[]=>some o
 |o,x :: l=>bif aaK (off x) o then yl off len (o+len x) l else none
def isSome (n:Nat):Option Nat→Bool
 |some m=>aaK m n
 |none=>false
def yn (ag:Bool) (ps:List aL):Option aL:=match ag,ps with
 |true,ps=>some (.agg (oX ps))
 |false,[p]=>some p
 |_,_=>none
def Pv (P:Program):Nat→TypeId→Option (List aL)
 |0,_=>none
 |n+1,t=>match P.underlying t with
  |some .bool=>some [.bool]
  |some (.int k)=>some [.int k]
  |some .string=>some [.str]
  |some (.slice e)=>match Pv P n e,P.underlying e with
   |some ps,some u=>match yn (Go.Am.mZ u) ps with
    |some pe=>bif Nat.blt 0 (P.cellsOf e) then some [.list (P.cellsOf e) pe] else none
    |none=>none
   |_,_=>none
  |some (.struct fs)=>bif isSome (P.cellsOf t) (yl aa0 (fun f=>P.cellsOf f.type) 0 fs.toList) then Pu (fun f=>Pv P n f.type) fs.toList else none
  |some (.array m e)=>bif isSome (P.cellsOf t) (yl (fun i=>i * P.cellsOf e) (fun _=>P.cellsOf e) 0 (aax m)) then Pu (fun _=>Pv P n e) (aax m) else none
  |_=>none
def aim (a:AV):Prop:=a.ba=true∧a.cells=[a]∧a.closed=true
def wQ:List aL→List AV→Prop
 |[],[]=>True
 |p :: ps,a :: qa=>p.fits a=true∧(p.wf (p.bB a)∧aim a)∧wQ ps qa
 |_,_=>False
theorem wQ.append:∀ {ps qs:List aL} {qa bs:List AV},wQ ps qa→wQ qs bs→wQ (ps++qs) (qa++bs)
 |[],_,[],_,_,h=>h
 |_ :: _,_,_ :: _,_,k,h=>⟨k.1,k.2.1,wQ.append k.2.2 h⟩
 |[],_,_ :: _,_,h,_=>h.elim
 |_ :: _,_,[],_,h,_=>h.elim
theorem wQ.mk:∀ {ps:List aL} {qa:List AV},wQ ps qa→(oX ps).fits qa=true∧(oX ps).wf ((oX ps).bB qa)
 |[],[],_=>⟨rfl,trivial⟩
 |[p],[a],h=>⟨by
   change (p.fits a&&(List.isEmpty ([]:List AV)))=true;rw [h.1];rfl,h.2.1.1⟩
 |p :: q :: ps,a :: qa,h=>by
  obtain ⟨h1,h2⟩:=wQ.mk (ps:=q :: ps) h.2.2;refine ⟨?_,h.2.1.1,h2⟩;change (p.fits a&&(oX (q :: ps)).fits qa)=true;rw [h.1,h1];rfl
 |[],_ :: _,h=>h.elim
 |_ :: _,[],h=>h.elim
 |[_],_ :: _ :: _,h=>h.2.2.elim
theorem Jc {ag:Bool} {ps:List aL} {pe:aL} (h:yn ag ps=some pe) {qa:List AV} (hf:wQ ps qa) :
  ∃ e,(if ag then e=.agg qa else qa=[e])∧pe.fits e=true∧pe.wf (pe.bB e):=by
 unfold yn at h;split at h
 ·cases h;obtain ⟨h1,h2⟩:=hf.mk;exact ⟨.agg qa,rfl,h1,h2⟩
 ·rename_i p;cases h
  match qa,hf with
  |[a],hf=>exact ⟨a,rfl,hf.1,hf.2.1.1⟩
  |[],hf=>exact hf.elim
  |_ :: _ :: _,hf=>exact hf.2.2.elim
 ·cases h
theorem Nl:∀ {ps:List aL} {qa:List AV},wQ ps qa→∀ a∈qa,a.ba=true∧a.cells=[a]∧a.closed=true
 |[],[],_,a,ha=>by simp at ha
 |_ :: _,b :: qa,hf,a,ha=>by
  rcases aaT.1 ha with rfl|ha
  ·exact hf.2.1.2
  ·exact Nl hf.2.2 a ha
 |[],_ :: _,h,_,_=>h.elim
 |_ :: _,[],h,_,_=>h.elim
theorem Nn {pe:aL}:∀ {es:List AV},(∀ x∈es,pe.fits x=true∧pe.wf (pe.bB x))→allFit pe.fits es=true∧∀ x∈es.map pe.bB,pe.wf x
 |[],_=>⟨rfl,by simp⟩
 |a :: es,h=>by
  obtain ⟨h1,h2⟩:=Nn (es:=es) fun x hx=>h x (by simp [hx])
  refine ⟨by simp only [allFit,aal]; exact ⟨(h a (by simp)).1,h1⟩,fun x hx=>?_⟩;rcases aaT.1 hx with rfl|hx
  ·exact (h a (by simp)).2
  ·exact h2 x hx
section read
variable {H:Type} {enc:TypeId × Value→H} {P:Program} {w:World} {R:aj} {base:Nat} {spare:Nat→Bool} {held:Bool}
theorem oY {α β:Type} {f:α→Option β} {x:α} {l:List α} {r:List β} (h:(x :: l).mapM f=some r):∃ y ys,f x=some y∧l.mapM f=some ys∧r=y :: ys:=by
 rw [List.mapM_cons] at h;cases hx:f x with
 |none=>rw [hx] at h; cases h
 |some y=>
  rw [hx] at h;cases hl:l.mapM f with
  |none=>rw [hl] at h; cases h
  |some ys=>rw [hl] at h; cases h; exact ⟨y,ys,rfl,rfl,rfl⟩
theorem Dx {β:Type} {off len:β→Nat} {g:β→Option (List aL)} {cs:List Value} {f:β→Option (DataW H × List MemPlace)}
  (hf:∀ x ps y,g x=some ps→f x=some y→∃ qa,aW R w qa ((cs.drop (off x)).take (len x))∧wQ ps qa∧∀ v∈(cs.drop (off x)).take (len x),v.oneCell'=true) :
  ∀ {L:List β} {o m:Nat} {ps:List aL} {ys:List (DataW H × List MemPlace)},yl off len o L=some m→Pu g L=some ps→L.mapM f=some ys →
   o≤m∧∃ qa,aW R w qa ((cs.drop o).take (m - o))∧wQ ps qa∧∀ v∈(cs.drop o).take (m - o),v.oneCell'=true
 |[],o,m,ps,ys,ht,hp,_=>by
  simp only [yl] at ht;simp only [Pu] at hp;cases ht; cases hp;exact ⟨Nat.le_refl _,[],by simpa using aW.nil,trivial,by simp⟩
 |x :: L,o,m,ps,ys,ht,hp,hm=>by
  unfold yl at ht;cases hb:aaK (off x) o with
  |false=>rw [hb] at ht; cases ht
  |true=>
   rw [hb] at ht;have hb:=aas hb;unfold Pu at hp;split at hp
   ·rename_i pa pb h1 h2;cases hp;obtain ⟨y,Oz,k1,k2,rfl⟩:=oY hm;obtain ⟨qa,q1,q2,q3⟩:=hf x pa y h1 k1;obtain ⟨hle,bs,r1,r2,r3⟩:=Dx hf (show yl off len (o+len x) L=some m from ht) h2 k2;have e:(cs.drop o).take (m - o)=(cs.drop (off x)).take (len x)++(cs.drop (o+len x)).take (m - (o+len x)):=by
     rw [hb,show m - o=len x+(m - (o+len x)) by omega,List.take_add,List.drop_drop]
    rw [e];refine ⟨by omega,qa++bs,q1.append r1,q2.append r2,fun v hv=>?_⟩;rcases List.mem_append.1 hv with hv|hv
    ·exact q3 v hv
    ·exact r3 v hv
   ·cases hp
theorem rk {α β:Type} {f:α→Option β}:∀ {l:List α} {r:List β},l.mapM f=some r→∀ (i:Nat) (x:α),l[i]?=some x→∃ y,r[i]?=some y∧f x=some y
 |[],r,_,i,x,hx=>by simp at hx
 |a :: l,r,h,i,x,hx=>by
  obtain ⟨y,ys,h1,h2,rfl⟩:=oY h;cases i with
  |zero=>simp at hx; subst hx; exact ⟨y,by simp,h1⟩
  |succ i=>obtain ⟨z,h3,h4⟩:=rk h2 i x (by simpa using hx); exact ⟨z,by simpa using h3,h4⟩
theorem AK {α β:Type} {f:α→Option β}:∀ {l:List α} {r:List β},l.mapM f=some r→r.length=l.length
 |[],r,h=>by simp at h; subst h; rfl
 |a :: l,r,h=>by
  obtain ⟨y,ys,h1,h2,rfl⟩:=oY h;simp [AK h2]
theorem Vb {a:Addr} {v:Value} (h:w.cell? a=some v):a.block < w.heap.size:=by
 unfold World.cell? at h;split at h
 ·rename_i hb; exact bE hb
 ·cases h
theorem FN {e:TypeId} {ps:List aL} {pe:aL} {ag:Bool} {yo:Nat} (hp:∀ (cs:List Value) (y:DataW H × List MemPlace),aat enc P w base spare held yo e cs=some y→∃ qa,aW (wP w) w qa cs∧wQ ps qa∧∀ v∈cs,v.oneCell'=true) (he:yn ag ps=some pe) {b off len:Nat} {r:List (DataW H × List MemPlace)}
  (h:(aax len).mapM (fun i=>(w.cells? base ((⟨b,off,none⟩:Addr).add (i * P.cellsOf e)) (P.cellsOf e)).bind (aat enc P w base spare held yo e))=some r) :
  ∀ (m i:Nat),i+m=len→∃ es,jO (wP w) w b (off+i * P.cellsOf e) (P.cellsOf e) es∧es.length=m∧∀ x∈es,pe.fits x=true∧pe.wf (pe.bB x)
 |0,i,_=>⟨[],.nil,rfl,by simp⟩
 |m+1,i,hi=>by
  obtain ⟨es,h1,h2,h3⟩:=FN hp he h m (i+1) (by omega);obtain ⟨y,_,hy⟩:=rk h i i (by rw [aav (by omega)]);obtain ⟨cs,hc,hy⟩:=bind_some hy;obtain ⟨qa,q1,q2,q3⟩:=hp _ _ hy;obtain ⟨x,hx,f1,f2⟩:=Jc he q2;have qx:w.cells? base ((⟨b,off,none⟩:Addr).add (i * P.cellsOf e)) (P.cellsOf e)=some cs:=hc;unfold World.cells? at qx;split at qx
  ·have hlen:=AK qx;rw [List.length_range] at hlen;have mn:x.cells=qa∧x.ba=true∧x.closed=true:=by
    have xW:=Nl q2;cases ag with
    |true=>
     simp only [if_true] at hx;subst hx;refine ⟨rfl,rfl,?_⟩;show aN qa=true;clear h1 h2 h3 q1 q2 f1 f2
     induction qa with
     |nil=>rfl
     |cons a qa ih=>simp only [aN,aal]; exact ⟨(xW a (by simp)).2.2,ih (fun z hz=>xW z (by simp [hz]))⟩
    |false=>
     simp only [Bool.false_eq_true,if_false] at hx;subst hx;obtain ⟨k1,k2,k3⟩:=xW x (by simp);exact ⟨k2,k1,k3⟩
   have nS:∀ j v,cs[j]?=some v→w.cell? ⟨b,off+i * P.cellsOf e+j,none⟩=some v:=fun j v hv=>by
    have hj:j < P.cellsOf e:=by have:=(List.getElem?_eq_some_iff.1 hv).1; omega
    obtain ⟨v',k1,k2⟩:=rk qx j j (by rw [aav hj]);rw [hv] at k1;cases k1;rw [dI,dI] at k2;exact k2
   refine ⟨x :: es,.cons ?_ mn.2.1 mn.2.2 ?_ ?_,by simp [h2],fun z hz=>?_⟩
   ·rw [mn.1,q1.length,hlen]
   ·rw [mn.1];refine gz.make q1 q3 nS (fun j hj=>?_);have YQ:j < cs.length:=by rw [← q1.length]; exact hj
    exact Vb (nS j cs[j] (List.getElem?_eq_getElem YQ))
   ·rw [show off+i * P.cellsOf e+P.cellsOf e=off+(i+1) * P.cellsOf e by rw [Nat.add_mul]; omega];exact h1
   ·rcases aaT.1 hz with rfl|hz
    ·exact ⟨f1,f2⟩
    ·exact h3 z hz
  ·cases qx
theorem yp (HS:∀ b,spare b=true):∀ (n:Nat) {t:TypeId} {ps:List aL},Pv P n t=some ps→∀ {yo:Nat} {cs:List Value} {y:DataW H × List MemPlace},aat enc P w base spare held yo t cs=some y →
  ∃ qa,aW (wP w) w qa cs∧wQ ps qa∧∀ v∈cs,v.oneCell'=true
 |0,_,_,h,_,_,_,_=>by cases h
 |n+1,t,ps,h,0,_,_,hy=>by cases hy
 |n+1,t,ps,h,yo+1,cs,y,hy=>by
  unfold Pv at h;unfold aat at hy;split at h
  ·rename_i hu;cases h;rw [hu] at hy;cases cs with
   |nil=>cases hy
   |cons v l=>
    cases l with
    |cons v2 l=>(cases v <;> first | (cases hy; done) | (rename_i a; cases a <;> cases hy; done) | (rename_i a b; cases a <;> cases hy; done) | (rename_i a b c; cases a <;> first | (cases hy; done) | (cases b <;> first | (cases hy; done) | (cases c <;> cases hy))))
    |nil=>
     cases v with
     |bool b=>exact ⟨[.bool b],.one (.bool b),⟨rfl,⟨trivial,rfl,rfl,rfl⟩,trivial⟩,by simp [aay]⟩
     |pointer a=>cases a <;> cases hy
     |slice a b c=>cases a <;> first | (cases hy; done) | (cases b <;> first | (cases hy; done) | (cases c <;> cases hy))
     |map a=>cases a <;> cases hy
     |chan a=>cases a <;> cases hy
     |_=>cases hy
  ·rename_i k hu;cases h;rw [hu] at hy;cases cs with
   |nil=>cases hy
   |cons v l=>
    cases l with
    |cons v2 l=>(cases v <;> first | (cases hy; done) | (rename_i a; cases a <;> cases hy; done) | (rename_i a b; cases a <;> cases hy; done) | (rename_i a b c; cases a <;> first | (cases hy; done) | (cases b <;> first | (cases hy; done) | (cases c <;> cases hy))))
    |nil=>
     cases v with
     |int k' i=>
      have hy:(if k'=k∧(Lit.int k i).wf=true then some (.lit (.int k i),[]) else none)=some y:=hy;split at hy
      ·rename_i hc;obtain ⟨rfl,hw⟩:=hc;exact ⟨[.int k' i],.one (.int k' i),⟨decide_eq_true rfl,⟨by have h:=hw; simp [Lit.wf] at h; exact h,rfl,rfl,rfl⟩,trivial⟩,by simp [aay]⟩
      ·cases hy
     |pointer a=>cases a <;> cases hy
     |slice a b c=>cases a <;> first | (cases hy; done) | (cases b <;> first | (cases hy; done) | (cases c <;> cases hy))
     |map a=>cases a <;> cases hy
     |chan a=>cases a <;> cases hy
     |_=>cases hy
  ·rename_i hu;cases h;rw [hu] at hy;cases cs with
   |nil=>cases hy
   |cons v l=>
    cases l with
    |cons v2 l=>(cases v <;> first | (cases hy; done) | (rename_i a; cases a <;> cases hy; done) | (rename_i a b; cases a <;> cases hy; done) | (rename_i a b c; cases a <;> first | (cases hy; done) | (cases b <;> first | (cases hy; done) | (cases c <;> cases hy))))
    |nil=>
     cases v with
     |string s=>
      have hy:(if s.size≤maxLen then some (.lit (.string s.data.toList),[]) else none)=some y:=hy;split at hy
      ·rename_i hc;exact ⟨[.str s.data.toList],.one (.str s.data.toList),⟨rfl,⟨by simpa [aL.wf,aL.bB,AV.YB] using hc,rfl,rfl,rfl⟩,trivial⟩,by simp [aay]⟩
      ·cases hy
     |pointer a=>cases a <;> cases hy
     |slice a b c=>cases a <;> first | (cases hy; done) | (cases b <;> first | (cases hy; done) | (cases c <;> cases hy))
     |map a=>cases a <;> cases hy
     |chan a=>cases a <;> cases hy
     |_=>cases hy
  ·rename_i e hu;rw [hu] at hy;split at h
   ·rename_i ps' u h1 h2;split at h
    ·rename_i pe h3;obtain ⟨hz,h⟩:=bl h;cases h;have hz:=Nat.le_of_ble_eq_true hz;cases cs with
     |nil=>cases hy
     |cons v l=>
      cases l with
      |cons v2 l=>(cases v <;> first | (cases hy; done) | (rename_i a; cases a <;> cases hy; done) | (rename_i a b; cases a <;> cases hy; done) | (rename_i a b c; cases a <;> first | (cases hy; done) | (cases b <;> first | (cases hy; done) | (cases c <;> cases hy))))
      |nil=>
       cases v with
       |slice a len cap=>
        cases a with
        |none=>
         have hz:len=0∧cap=0:=by
          cases len with
          |zero=>cases cap with
           |zero=>exact ⟨rfl,rfl⟩
           |succ _=>cases hy
          |succ _=>cases hy
         obtain ⟨rfl,rfl⟩:=hz;exact ⟨[.list .gZ (P.cellsOf e) []],.one .kS,⟨by simp [aL.fits,allFit],⟨⟨Nat.zero_le _,fun x hx=>by change x∈([]:List pe.T) at hx; cases hx⟩,rfl,rfl,rfl⟩,trivial⟩,by simp [aay]⟩
        |some a=>
         have hy:(if base≤a.block∧len≤cap∧cap≤maxLen then
          ((aax len).mapM (fun i=>(w.cells? base (a.add (i * P.cellsOf e)) (P.cellsOf e)).bind (aat enc P w base spare held yo e))).bind fun No=>
           (if spare a.block then (aax (cap - len)).mapM (fun j=>(w.cells? base (a.add ((len+j) * P.cellsOf e)) (P.cellsOf e)).bind (aat enc P w base spare held yo e)) else some []).map fun rest=>
            (DataW.slice (No.map (·.1)) (rest.map (·.1)),MemPlace.row a ((No.length+rest.length) * P.cellsOf e)++(No++rest).flatMap (·.2))
          else none)=some y:=hy
         split at hy
         ·rename_i hc;obtain ⟨No,k1,hy⟩:=bind_some hy;rw [if_pos (HS _)] at hy;by_cases jy:cap=0
          ·subst jy;have A3:len=0:=Nat.le_zero.1 hc.2.1;subst A3;exact ⟨[.list .gZ (P.cellsOf e) []],.one .qt,⟨by simp [aL.fits,allFit],⟨⟨Nat.zero_le _,fun x hx=>by change x∈([]:List pe.T) at hx; cases hx⟩,rfl,rfl,rfl⟩,trivial⟩,by simp [aay]⟩
          ·have RW:a.spot=none:=by
            have Zq:∃ y,(w.cells? base (a.add (0 * P.cellsOf e)) (P.cellsOf e)).bind (aat enc P w base spare held yo e)=some y:=by
             by_cases A3:len=0
             ·subst A3;cases hr:(aax (cap - 0)).mapM (fun j=>(w.cells? base (a.add ((0+j) * P.cellsOf e)) (P.cellsOf e)).bind (aat enc P w base spare held yo e)) with
              |none=>rw [hr] at hy; cases hy
              |some r=>
               obtain ⟨z,_,hz⟩:=rk hr 0 0 (by rw [aav (by omega)]);exact ⟨z,hz⟩
             ·obtain ⟨z,_,hz⟩:=rk k1 0 0 (by rw [aav (by omega)]);exact ⟨z,hz⟩
            obtain ⟨z,ZI⟩:=Zq;obtain ⟨cs,xw,_⟩:=bind_some ZI;unfold World.cells? at xw;split at xw
            ·obtain ⟨v,_,hv⟩:=rk xw 0 0 (by rw [aav (by omega)]);rw [Nat.zero_mul] at hv;unfold World.cell? at hv;split at hv
             ·split at hv
              ·cases hv
              ·rename_i hs;simpa [Addr.add] using hs
             ·cases hv
            ·cases xw
           obtain ⟨b,off,spot⟩:=a;have RW:spot=none:=RW;subst RW;obtain ⟨es,q1,q2,q3⟩:=FN (fun cs y hy=>yp HS n h1 hy) h3 k1 len 0 (by omega);rw [Nat.zero_mul,Nat.add_zero] at q1;obtain ⟨f1,f2⟩:=Nn q3;refine ⟨[.list .gZ (P.cellsOf e) es],.one (.list q1 q2.symm hc.2.1 trivial),⟨?_,⟨⟨?_,f2⟩,rfl,rfl,rfl⟩,trivial⟩,by simp [aay]⟩
           ·simp only [aL.fits,aal,Bool.or_eq_true];exact ⟨.inl (Nat.beq_refl _),f1⟩
           ·have:es.length≤maxLen:=by rw [q2]; omega
            show (es.map pe.bB).length≤maxLen;rw [List.length_map];exact this
         ·cases hy
       |pointer a=>cases a <;> cases hy
       |map a=>cases a <;> cases hy
       |chan a=>cases a <;> cases hy
       |_=>cases hy
    ·cases h
   ·cases h
  ·rename_i fs hu;rw [hu] at hy;have hy:(if cs.length=P.cellsOf t then (fs.toList.mapM fun f=>aat enc P w base spare held yo f.type ((cs.drop f.offset).take (P.cellsOf f.type))).map fun xs=>(.agg (xs.map (·.1)),xs.flatMap (·.2)) else none)=some y:=hy;split at hy
   ·rename_i hl;obtain ⟨h1,h2⟩:=bl h;cases hm:fs.toList.mapM fun f=>aat enc P w base spare held yo f.type ((cs.drop f.offset).take (P.cellsOf f.type)) with
    |none=>rw [hm] at hy; cases hy
    |some ys=>
     cases ht:yl aa0 (fun f=>P.cellsOf f.type) 0 fs.toList with
     |none=>rw [ht] at h1; cases h1
     |some m=>
      rw [ht] at h1;have h1:=aas (show aaK m (P.cellsOf t)=true from h1);obtain ⟨_,qa,q1,q2,q3⟩:=Dx (R:=wP w) (w:=w) (off:=aa0) (len:=fun f=>P.cellsOf f.type) (cs:=cs) (fun x ps y hx ZJ=>yp HS n hx ZJ) ht h2 hm;rw [h1,← hl] at q1 q3;simp only [List.drop_zero,Nat.sub_zero,List.take_length] at q1 q3;exact ⟨qa,q1,q2,q3⟩
   ·cases hy
  ·rename_i m e hu;rw [hu] at hy;have hy:(if cs.length=P.cellsOf t then ((aax m).mapM fun i=>aat enc P w base spare held yo e ((cs.drop (i * P.cellsOf e)).take (P.cellsOf e))).map fun xs=>(.agg (xs.map (·.1)),xs.flatMap (·.2)) else none)=some y:=hy;split at hy
   ·rename_i hl;obtain ⟨h1,h2⟩:=bl h;cases hm:(aax m).mapM fun i=>aat enc P w base spare held yo e ((cs.drop (i * P.cellsOf e)).take (P.cellsOf e)) with
    |none=>rw [hm] at hy; cases hy
    |some ys=>
     cases ht:yl (fun i=>i * P.cellsOf e) (fun _=>P.cellsOf e) 0 (aax m) with
     |none=>rw [ht] at h1; cases h1
     |some k=>
      rw [ht] at h1;have h1:=aas (show aaK k (P.cellsOf t)=true from h1);obtain ⟨_,qa,q1,q2,q3⟩:=Dx (R:=wP w) (w:=w) (off:=fun i=>i * P.cellsOf e) (len:=fun _=>P.cellsOf e) (cs:=cs) (fun x ps y hx ZJ=>yp HS n hx ZJ) ht h2 hm;rw [h1,← hl] at q1 q3;simp only [List.drop_zero,Nat.sub_zero,List.take_length] at q1 q3;exact ⟨qa,q1,q2,q3⟩
   ·cases hy
  ·cases h
def ZK (P:Program) (n:Nat) (t:TypeId):Option aL:=match P.underlying t with
 |some u=>match Pv P n t with
  |some ps=>yn (Go.Am.mZ u) ps
  |none=>none
 |none=>none
theorem Vc (HS:∀ b,spare b=true) {n:Nat} {t:TypeId} {p:aL} (hp:ZK P n t=some p) {v:Value} {d:DataW H} {pl:List MemPlace} {r:Reach} {base':Nat} (ht:DataW.Trod enc P w base spare held t v d pl) (gJ:aaA P w r base' t v) :
  ∃ x:p.T,Rel (wP w) w (p.enc x) v∧p.wf x:=by
 obtain ⟨yo,ht⟩:=ht;have fin:∀ {a:AV},p.fits a=true→p.wf (p.bB a)→Rel (wP w) w a v→∃ x:p.T,Rel (wP w) w (p.enc x) v∧p.wf x:=fun {a} h1 h2 h3=>⟨p.bB a,(p.eg h1).jM _ _ _ h3,h2⟩
 unfold ZK at hp;split at hp
 ·rename_i u hu;split at hp
  ·rename_i ps h1;obtain ⟨qa,q1,q2,q3⟩:=yp HS n h1 ht;obtain ⟨x,hx,f1,f2⟩:=Jc hp q2;cases GA:Go.Am.mZ u with
   |true=>
    rw [GA] at hx;simp only [if_true] at hx;subst hx;have:∃ cs,v=.agg cs:=by
     unfold aaA at gJ;rw [hu] at gJ;cases u <;> first | (cases GA; done) | (obtain ⟨cs,h,_⟩:=gJ; exact ⟨cs,h⟩)
    obtain ⟨⟨cs⟩,rfl⟩:=this;exact fin f1 f2 (.agg q1 q3)
   |false=>
    rw [GA] at hx;simp only [Bool.false_eq_true,if_false] at hx;subst hx;have hv:v.cells.toList=[v]:=by
     cases v with
     |agg cs=>
      exfalso;unfold aaA at gJ;rw [hu] at gJ;cases u <;> first | (cases GA; done) | (simp [Cell.okWide,Cell.ok,hu] at gJ)
     |_=>rfl
    rw [hv] at q1;cases q1 with
    |cons q1 _=>exact fin f1 f2 q1
  ·cases hp
 ·cases hp
def Jd (P:Program) (n:Nat):List TypeId→Option (List aL)
 |[]=>some []
 |t :: l=>match ZK P n t,Jd P n l with
  |some p,some r=>some (p :: r)
  |_,_=>none
theorem Je (HS:∀ b,spare b=true) {n:Nat} {r:Reach} {base':Nat}:∀ {ts:List TypeId} {ps:List aL} {vs:List Value} {ds:List (DataW H)} {pl:List MemPlace},Jd P n ts=some ps→aaM enc P w base spare held ts vs ds pl →
  (∀ (j:Nat) t v,ts[j]?=some t→vs[j]?=some v→aaA P w r base' t v)→∃ x:(oX ps).T,aW (wP w) w ((oX ps).enc x) vs∧(oX ps).wf x
 |[],ps,vs,ds,pl,hp,ht,_=>by
  simp only [Jd] at hp;cases hp;cases vs with
  |nil=>exact ⟨(),.nil,trivial⟩
  |cons _ _=>cases ds <;> exact ht.elim
 |t :: ts,ps,vs,ds,pl,hp,ht,gJ=>by
  unfold Jd at hp;split at hp
  ·rename_i p r h1 h2;cases hp;cases vs with
   |nil=>cases ds <;> exact ht.elim
   |cons v vs=>
    cases ds with
    |nil=>exact ht.elim
    |cons d ds=>
     obtain ⟨p1,p2,k1,k2,_⟩:=ht;obtain ⟨x,q1,q2⟩:=Vc HS h1 k1 (gJ 0 t v rfl rfl);obtain ⟨y,q3,q4⟩:=Je HS h2 k2 (fun j t v hj hv=>gJ (j+1) t v (by simpa using hj) (by simpa using hv));cases r with
     |nil=>
      cases q3;exact ⟨x,.one q1,q2⟩
     |cons p' r=>exact ⟨(x,y),.cons q1 q3,q2,q4⟩
  ·cases hp
end read
end Go.Am
namespace Go.Am
open Go Go.RowKit Go.WideShapes Go.ChangeShapes
section
variable {H:Type} {enc:TypeId × Value→H} {P:Program}
theorem L0 {f:Func} {s:ChangeSpec} {apart fresh handsOn again:Bool} {W W':World} {args:Array Value} {v:Value} {ds gs:List (DataW H)} {before pa pv:List MemPlace}
  (hW:DataW.Whole enc P f.params.toList s.vars apart W args.toList ds gs before)
  (GW:∀ (b:Nat) (sp:Nat→Bool) (hd:Bool),aaM enc P W' b sp hd f.resultTypes.toList (v.resultList f.resultTypes.size) (s.fn H (ds++gs)).results [])
  (vK:∀ sp:Nat→Bool,(∀ p∈before,sp p.block=true)→aaM enc P W' 0 sp true f.params.toList args.toList (s.fn H (ds++gs)).args pa)
  (Jf:∀ sp:Nat→Bool,(∀ p∈before,sp p.block=true)→DataW.TrodVars enc P W' sp s.vars (s.fn H (ds++gs)).vars pv)
  (Qk:before=pa++pv) (hb:Below W.heap.size W W')
  (gJ:∀ (j:Nat) (t:TypeId) (r:Value),f.resultTypes[j]?=some t→(v.resultList f.resultTypes.size)[j]?=some r→aaA P W' .any 0 t r) :
  s.post enc P f apart fresh handsOn again W args v W':=by
 have cI:∀ p∈before,p.block < W.heap.size:=fun p hp=>hW.lt p hp
 have hold:∀ p∈before,(fun b=>decide (b < W.heap.size)) p.block=true:=fun p hp=>by simpa using cI p hp
 refine ⟨ds,gs,before,[],pa,pv,hW,GW _ _ _,vK _ hold,Jf _ hold,World.keptBut_mono (fun p hp=>⟨hp,?_⟩) (hb.frame (·∈before)),fun _=>?_⟩
 ·rw [Qk,List.mem_append] at hp;exact Or.inr hp
 ·obtain ⟨_,_,_,_,_,hz,hn⟩:=hW;refine ⟨gJ,_,_,([]++pa)++pv,⟨[]++pa,pv,trodAll_append (vK _ (fun _ _=>rfl)) (GW _ _ _),Jf _ (fun _ _=>rfl),rfl,?_,?_⟩,?_⟩
  ·intro b off hp;have KS:MemPlace.cell b off∈before:=by rw [Qk]; simpa using hp
   rw [hb.frozen (cI _ KS)];exact hz b off KS
  ·intro ha;have:=hn ha;rw [Qk] at this;simpa using this
  ·intro p hp _;rw [Qk];simpa using hp
theorem vW (hl:laidOutB P=true) {W W':World} (hb:Below W.heap.size W W') {sp:Nat→Bool}:∀ {ts:List TypeId} {vs:List Value} {ds:List (DataW H)} {pl:List MemPlace},
  (∀ t∈ts,P.readableRec t=true∧t < P.types.size)→aaM enc P W 0 (fun _=>true) true ts vs ds pl→(∀ p∈pl,p.block < W.heap.size)→(∀ p∈pl,sp p.block=true) →
  aaM enc P W' 0 sp true ts vs ds pl
 |[],[],[],_,_,h,_,_=>h
 |t :: ts,v :: vs,d :: ds,pl,hr,h,cI,HS=>by
  obtain ⟨p,q,h1,h2,rfl⟩:=h;refine ⟨p,q,?_,vW hl hb (fun t ht=>hr t (by simp [ht])) h2 (fun x hx=>cI x (by simp [hx])) (fun x hx=>HS x (by simp [hx])),rfl⟩;exact WideElems.Trod_stays hl (hr t (by simp)).1 (hr t (by simp)).2 h1 (fun x hx=>hb.same (cI x (by simp [hx]))) (fun x hx=>HS x (by simp [hx]))
 |[],[],_ :: _,_,_,h,_,_=>h.elim
 |[],_ :: _,_,_,_,h,_,_=>h.elim
 |_ :: _,[],_,_,_,h,_,_=>h.elim
 |_ :: _,_ :: _,[],_,_,h,_,_=>h.elim
theorem Pw {E:Env} {f:FuncId} {fn:Func} {s:ChangeSpec} {ps:List aL} {apart fresh handsOn again:Bool} {W:World} {base:Nat} {args:Array Value} {ds gs:List (DataW H)} {before:List MemPlace} {n tb:Nat}
  (ain:∀ x,(oX ps).wf x→bU E f ((oX ps).enc x) (fun r=>r=.bool true)) (aew:Jd E.P n fn.params.toList=some ps)
  (Ve:∀ (j:Nat) t v,fn.params[j]?=some t→args[j]?=some v→aaA E.P W .any base t v)
  (hW:DataW.Whole enc E.P fn.params.toList s.vars apart W args.toList ds gs before) (aex:∀ g cs,E.fm g=some cs→gz (wP W) W g 0 cs)
  (Jf:s.vars=[]) (HS:∀ ds:List (DataW H),ds.length=fn.params.toList.length→s.fn H ds={ results:=[.lit (.bool true)],args:=ds })
  (GW:fn.resultTypes=#[tb]) (hub:E.P.underlying tb=some .bool) (hl:laidOutB E.P=true) (hr:∀ t∈fn.params.toList,E.P.readableRec t=true∧t < E.P.types.size) (Bb:E.lo=0:=by rfl) (hgx:∀ g cs,E.fm g=some cs→E.gx g=true→g < W.heap.size∧W.cell? ⟨g,cs.length,none⟩=none:=by intro _ _ _ h; exact Bool.noConfusion (show false=true from h)) :
  Calls E.P f args W fun e W'=>∃ v,e=.returned v∧s.post enc E.P fn apart fresh handsOn again W args v W':=by
 have hW0:=hW;obtain ⟨p,q,hA,hV,rfl,hfz,hnd⟩:=hW;obtain ⟨rfl,rfl⟩:gs=[]∧q=[]:=by
  rw [Jf] at hV;cases gs with
  |nil=>exact ⟨rfl,hV⟩
  |cons g r=>exact absurd hV (by intro h; cases h)
 obtain ⟨x,hx,hwf⟩:=Je (fun _=>rfl) (n:=n) aew hA (r:=.any) (base':=base) (fun j t v hj hv=>Ve j t v (by simpa using hj) (by simpa using hv));have hlen:ds.length=fn.params.toList.length:=by
  clear Ve hfz hnd hW0 hx hwf HS aew hr;revert hA;generalize fn.params.toList=ts;generalize args.toList=vs;generalize p=pl;clear p;intro hA
  induction ts generalizing vs ds pl with
  |nil=>cases vs <;> cases ds <;> first | rfl | exact hA.elim
  |cons t ts ih=>
   cases vs with
   |nil=>cases ds <;> exact hA.elim
   |cons v vs=>
    cases ds with
    |nil=>exact hA.elim
    |cons d ds=>
     obtain ⟨p,q,_,h2,_⟩:=hA;simp [ih vs q h2]
 have hG:gG E (wP W) W []:=⟨rfl,fun id go ro h=>by simp [nth] at h,fun i j ri rj b h=>by simp [wP,nth] at h,fun b o h=>h,fun g cs hg=>⟨aex g cs hg,fun hx=>hgx g cs hg hx⟩,by rw [Bb]; exact Nat.zero_le _⟩;have hc:=(ain x hwf []);refine (callsIn_wide.1 (hc.2 (wP W) W args.toList hG hx)).mono fun e W' he=>?_
 cases e with
 |panicked c=>exact he.elim
 |outgrown=>exact he.elim
 |returned c=>
  obtain ⟨r,G',R',⟨_,rfl⟩,fT,_,st⟩:=he;cases fT;have hb:Below W.heap.size W W':=⟨st.os,st.tape,st.output,st.size,fun k hk=>st.bh k hk fun ho=>by
   obtain ⟨id,ro,h1,_⟩:=iF ho;simp [wP,nth] at h1⟩
  have cI:∀ y∈p,y.block < W.heap.size:=fun y hy=>by simpa using hW0.lt y (by simpa using hy)
  have e1:s.fn H (ds++[])={ results:=[.lit (.bool true)],args:=ds }:=by rw [List.append_nil]; exact HS ds hlen
  refine ⟨_,rfl,L0 (pa:=p) (pv:=[]) hW0 ?_ ?_ ?_ rfl hb ?_⟩
  ·intro b sp hd;rw [e1,GW];exact trodAll_mk1 (shut_bool hub true)
  ·intro sp aip;rw [e1];exact vW hl hb hr hA cI (fun y hy=>aip y (by simpa using hy))
  ·intro sp _;rw [e1,Jf];rfl
  ·intro j t r hj nD;rw [GW] at hj nD;cases j with
   |succ j=>simp at hj
   |zero=>
    simp at hj;subst hj;have:r=.bool true:=by simpa [Value.resultList] using nD.symm
    subst this;simp [aaA,Cell.okWide,Cell.ok,hub]
end
end Go.Am
namespace Go.Am
open Go
section
variable {P:Program} {W:World}
end
end Go.Am
namespace Go.Am
open Go
theorem cK {p:aL} (hp:p.plain=true) (l:List p.T):allFit p.fits (List.map p.enc l)=true:=by
 induction l with
 |nil=>rfl
 |cons x l ih=>simp [allFit,ih,(p.bq x hp).1]
theorem eY {p:aL} (hp:p.plain=true) (l:List p.T):List.map p.bB (List.map p.enc l)=l:=by
 induction l with
 |nil=>rfl
 |cons x l ih=>simp [ih,(p.bq x hp).2]
end Go.Am
namespace Go.Am
open Go Go.RowKit
section
variable {E:Env} {R:aj} {w w':World}
theorem Plain.of {P : Program} {g : FuncId} {fn : Func} (h : P.funcs[g]? = some fn) (h1 : fn.body.isNone = false) (h2 : (fn.name == "runtime.NumGoroutine") = false) : Plain P g := ⟨fn, h, h1, h2⟩
end
def p2 (a b:aL):aU:=.cons a (.cons b .nil)
def p1 (a:aL):aU:=.cons a .nil
def Dy:List UInt8 × List UInt8→Option Int
 |(s,[c])=>some (s.count c:Nat)
 |_=>none
def L4:bi:=⟨p2 .str .str,.int .i64,Dy⟩
section
variable {E:Env}
end
end Go.Am
