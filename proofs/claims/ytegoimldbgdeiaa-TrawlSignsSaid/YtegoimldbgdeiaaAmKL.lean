/- The abstract machine: what the evaluator finds is so. -/
import Derived.Test.YtegoimldbgdeiaaAmKK
import GoSem.ClaimJoined
import Derived.Below
import Derived.ChangeSame
import Derived.Carry
import Derived.RowKit
import Derived.FnData
import Derived.Lib.Builder
import Derived.Lib.UnsafeStr
set_option linter.all false
namespace Go.Am
open Go
section ext
variable {E:Env} {f:FuncId} {s s':St} {o:Oper}
theorem aG.put (s:St) (d:Option Tmp) (x:SV):aG s (s.put d x):=by
 cases d with
 |none=>exact aG.refl s
 |some d=>
  simp only [St.put];split
  ·exact ⟨⟨[_],rfl⟩,⟨[],rfl⟩,rfl⟩
  ·exact aG.refl s
theorem aG.bG (s:St) (G:List GO):aG s (s.bG G):=⟨⟨[],rfl⟩,⟨[],rfl⟩,rfl⟩
theorem aG.dW (s:St) (o:GO):aG s (s.dW o):=⟨⟨[],rfl⟩,⟨[],rfl⟩,rfl⟩
theorem aG.vD (s:St) (d:Nat) (cs:List AV):aG s (s.vD d cs):=⟨⟨[],rfl⟩,⟨[_],rfl⟩,rfl⟩
theorem aG.kill (s:St) (d:Nat):aG s (s.kill d):=⟨⟨[_],rfl⟩,⟨[],rfl⟩,rfl⟩
theorem JG {c:Bool} {s':St} (h:iz E f s o=some (c,s')):aG s s':=by
 unfold iz at h
 repeat' (split at h)
 all_goals (first|(cases h; done) | skip)
 all_goals (injection h with h; injection h with _ h; subst h; exact (aG.bG _ _).trans (aG.put _ _ _))
theorem GQ {t:TypeId} {p x:SV} {c:Bool} {s':St} (h:gj E s t p x=some (c,s')):aG s s':=by
 have store:∀ {t:TypeId} {p x:SV} {s':St},ik E s t p x=some s'→aG s s':=by
  intro t p x s' h;unfold ik at h
  repeat' (split at h)
  all_goals (first|(cases h; done) | skip)
  all_goals (injection h with h; subst h)
  ·exact aG.vD _ _ _
  ·exact aG.bG _ _
 unfold gj at h
 repeat' (split at h)
 all_goals (first|(cases h; done) | skip)
 all_goals (injection h with h; injection h with _ h; subst h)
 all_goals (first|exact aG.bG _ _ | exact store (by assumption))
theorem GR {t:TypeId} {p x:SV} {c:Bool} {s':St} (h:kq E s t p x=some (c,s')):aG s s':=by
 unfold kq at h;split at h
 ·rename_i hs;injection h with h; injection h with _ h;subst h;exact (aG.bG s (rZ s p x).2.2).trans (GQ (s:=s.bG (rZ s p x).2.2) hs)
 ·cases h
theorem GS {c:Bool} (h:ak E f s o=some (c,s')):aG s s':=by
 have alloc:∀ {el:TypeId} {cs:List AV} {c:Bool} {s':St},fJ E f s o.dst el cs=some (c,s')→aG s s':=by
  intro el cs c s' h;unfold fJ at h
  repeat' (split at h)
  all_goals (first|(cases h; done) | skip)
  ·injection h with h; injection h with _ h; subst h; exact (aG.dW _ _).trans (aG.put _ _ _)
  ·injection h with h; injection h with _ h; subst h; exact ((aG.kill _ _).trans (aG.vD _ _ _)).trans (aG.put _ _ _)
 have store:∀ {t:TypeId} {p x:SV} {s':St},ik E s t p x=some s'→aG s s':=by
  intro t p x s' h;unfold ik at h
  repeat' (split at h)
  all_goals (first|(cases h; done) | skip)
  all_goals (injection h with h; subst h)
  ·exact aG.vD _ _ _
  ·exact aG.bG _ _
 have Sr:∀ {t:TypeId} {p x:SV} {c:Bool} {s':St},gj E s t p x=some (c,s')→aG s s':=by
  intro t p x c s' h;unfold gj at h
  repeat' (split at h)
  all_goals (first|(cases h; done) | skip)
  all_goals (injection h with h; injection h with _ h; subst h)
  all_goals (first|exact aG.bG _ _ | exact store (by assumption))
 have blt:∀ {b:Builtin} {l:List AV} {tys:List TypeId} {c:Bool} {s':St},bQ E s o.dst b l tys=some (c,s')→aG s s':=by
  intro b l tys c s' h;unfold bQ at h
  repeat' (split at h)
  all_goals (first|(cases h; done) | skip)
  all_goals (injection h with h; injection h with _ h; subst h)
  all_goals (first|exact aG.put _ _ _ | exact (aG.bG _ _).trans (aG.put _ _ _) | exact aG.bG _ _)
 have update:∀ {t:TypeId} {m k x:SV} {s':St},fL E s t m k x=some s'→aG s s':=by
  intro t m k x s' h;unfold fL at h
  repeat' (split at h)
  all_goals (first|(cases h; done) | skip)
  all_goals (injection h with h; subst h; exact aG.bG _ _)
 have next:∀ {x:SV} {s':St},mK s o.dst x=some s'→aG s s':=by
  intro x s' h;unfold mK at h;split at h
  ·split at h
   ·rename_i l pos hg;cases hb:Nat.blt pos l.length <;> rw [hb] at h <;> simp only [cond_true,cond_false] at h <;> cases h
    ·exact aG.put _ _ _
    ·exact (aG.bG _ _).trans (aG.put _ _ _)
   ·cases h
  ·cases h
 have Gb:∀ {t:TypeId} {m k:SV} {c:Bool} {v:AV} {s':St},gW E s t m k=some (c,v,s')→aG s s':=by
  intro t m k c v s' h;unfold gW at h
  repeat' (split at h)
  all_goals (first|(cases h; done) | skip)
  all_goals (injection h with h; injection h with _ h; injection h with _ h; subst h; exact aG.bG _ _)
 have Gc:∀ {m st x:SV} {c:Bool} {s':St},eR s m st x=some (c,s')→aG s s':=by
  intro m st x c s' h;unfold eR at h
  repeat' (split at h)
  all_goals (first|(cases h; done) | skip)
  all_goals (injection h with h; injection h with _ h; subst h; exact aG.bG _ _)
 unfold ak oD at h
 repeat' (split at h)
 all_goals (first|(cases h; done) | exact alloc h | exact blt h | (rename_i hf; cases h; exact JG hf) | skip)
 all_goals (injection h with h; injection h with _ h; subst h)
 all_goals (first|exact aG.put _ _ _ | exact (aG.dW _ _).trans (aG.put _ _ _) | exact (aG.bG _ _).trans (aG.put _ _ _) | skip)
 all_goals (first|exact GR (by assumption) | exact update (by assumption) | exact (Gb (by assumption)).trans (aG.put _ _ _) | exact Gc (by assumption) | exact next (by assumption))
theorem cR.iy {g:FuncId} {args QU:List AV} {G:List GO} {Q:AV→List GO→Prop} (hw:cM args QU) (h:cR E g QU G Q):cR E g args G Q:=
 ⟨h.1,fun R w cs hg hl=>h.2 R w cs hg (hw.rel hl)⟩
theorem Ev {K:St→Prop} (h:kS E f o K s):kS E f o (fun s'=>K s'∧aG s s') s:=by
 unfold kS at *;split
 ·rename_i x args tys ho;rw [ho] at h;simp only at h;split at h
  ·exact h.mono fun r G' hk=>⟨hk,(aG.bG _ _).trans (aG.put _ _ _)⟩
  ·exact h.mono fun r G' hk=>⟨hk,(aG.bG _ _).trans (aG.put _ _ _)⟩
  ·exact h
 ·rename_i ho;rw [ho] at h;exact h
 ·rename_i nc nd;split at h
  ·rename_i ho;exact absurd ho (nc _ _ _)
  ·exact h.elim
  ·split at h
   ·rename_i c s' hs;obtain ⟨hc,hk⟩:=h.out;exact dR.mk hc ⟨hk,GS hs⟩
   ·exact h.elim
theorem mQ {K:St→Prop} {ops:List Oper} (h:cb E f ops o K s):cb E f ops o (fun s'=>K s'∧aG s s') s:=by
 unfold cb at *;split
 ·rename_i hg;rw [hg] at h;exact Ev h
 ·rename_i j want hg;rw [hg] at h;simp only at h;split
  ·rename_i hd;rw [hd] at h;exact h
  ·rename_i d hd;rw [hd] at h;simp only at h;split
   ·rename_i b hb;rw [hb] at h;simp only at h;refine ⟨fun e=>?_,fun e=>⟨h.2 e,(aG.put _ _ _).trans (aG.put _ _ _)⟩⟩;exact vi (Ev (h.1 e)) fun s' hh=>⟨hh.1,(aG.put _ _ _).trans hh.2⟩
   ·rename_i hb;rw [hb] at h;exact ⟨h,aG.put _ _ _⟩
   ·rename_i hb kM;split at h
    ·rename_i b Gl;exact absurd Gl (hb b)
    ·rename_i Gl;exact absurd Gl kM
    ·exact h
theorem AN {K K':St→Prop} {ops:List Oper} (h:gM E f ops o K s) (hK:∀ s,K s→K' s):gM E f ops o K' s:=by
 unfold gM at *;split
 ·rename_i s' h1 h2;rw [h1,h2] at h;exact hK _ h
 ·rename_i hn;split at h
  ·rename_i s' h1 h2;exact absurd h2 (hn s' h1)
  ·exact cg h hK
theorem wV {s':St} (h:j9 E f s o=some s'):aG s s':=by
 unfold j9 at h
 repeat' (split at h)
 all_goals (first|(cases h; done) | skip)
 all_goals (injection h with h; subst h; exact (aG.dW _ _).trans (aG.put _ _ _))
theorem CY {K:St→Prop} {ops:List Oper} (h:gM E f ops o K s):gM E f ops o (fun s'=>K s'∧aG s s') s:=by
 unfold gM at *;split
 ·rename_i s' h1 h2;rw [h1,h2] at h;exact ⟨h,wV h2⟩
 ·rename_i hn;split at h
  ·rename_i s' h1 h2;exact absurd h2 (hn s' h1)
  ·exact mQ h
theorem nB {K K':St→Prop} {ops:List Oper} (h:fT E f ops o K s) (hK:∀ s,K s→K' s):fT E f ops o K' s:=by
 unfold fT at *;split at h
 ·obtain ⟨h1,h2⟩:=h.out;exact dR.mk h1 (hK _ h2)
 ·obtain ⟨h1,h2,h3⟩:=h.out;exact dR.mk h1 ⟨fun e=>hK _ (h2 e),fun i hi=>let ⟨k1,k2⟩:=(h3 i hi).out; dR.mk k1 (hK _ k2)⟩
 ·exact AN h hK
theorem GU {c:Bool} {s':St} (h:r8 E f s o=some (c,s')):aG s s':=by
 unfold r8 at h
 repeat' (split at h)
 all_goals (first|(cases h; done) | skip)
 all_goals (injection h with h; injection h with _ h; subst h; exact (aG.bG _ _).trans (aG.put _ _ _))
theorem L6 {c:Bool} {s':St} (h:Fs E f s o=some (c,s')):aG s s':=by
 unfold Fs at h
 repeat' (split at h)
 all_goals (first|(cases h; done) | skip)
 all_goals (injection h with h; injection h with _ h; subst h; exact (aG.bG _ _).trans (aG.put _ _ _))
theorem JH {c:Bool} {s':St} (h:vG E f s o=some (c,s')):aG s s':=by
 unfold vG at h;split at h
 ·rename_i r hr;cases h;exact L6 hr
 ·exact GU h
theorem GV {c:Bool} {s0:St} {left:List Nat} {g:Nat→Bool × St} (h:uP E s o=some (c,s0,left,g)):aG s s0∧∀ i,aG s (g i).2:=by
 unfold uP at h;split at h
 ·unfold A7 at h;split at h
  ·split at h
   ·split at h
    ·cases h;exact ⟨aG.put _ _ _,fun i=>(aG.bG _ _).trans (aG.put _ _ _)⟩
    ·cases h
   ·cases h
  ·cases h
 ·cases h
theorem tT {K:St→Prop} {ops:List Oper} (h:fT E f ops o K s):fT E f ops o (fun s'=>K s'∧aG s s') s:=by
 unfold fT at *;split at h
 ·rename_i hb;obtain ⟨h1,h2⟩:=h.out;exact dR.mk h1 ⟨h2,JH hb⟩
 ·rename_i hb;obtain ⟨h1,h2,h3⟩:=h.out;obtain ⟨k1,k2⟩:=GV hb;exact dR.mk h1 ⟨fun e=>⟨h2 e,k1⟩,fun i hi=>let ⟨q1,q2⟩:=(h3 i hi).out; dR.mk q1 ⟨q2,k2 i⟩⟩
 ·exact CY h
theorem nC {K K':St→Prop} {ops:List Oper} (h:fU E f ops o K s) (hK:∀ s,K s→K' s):fU E f ops o K' s:=by
 unfold fU at *;split at h
 ·exact ⟨h.1,nB h.2 hK⟩
 ·exact nB h hK
theorem iZ {cut wk:Bool}:∀ {l:List Operand} {s s':St} {c:Bool},iH cut wk l s=(c,s')→aG s s'
 |[],s,s',c,h=>by
  simp only [iH] at h;cases h;exact aG.refl _
 |.tmp t :: l,s,s',c,h=>by
  unfold iH at h;split at h
  ·rename_i c1 s1 h1;cases h2:iH cut wk l s1 with
   |mk c2 s2=>
   rw [h2] at h;simp only [Prod.mk.injEq] at h;obtain ⟨_,rfl⟩:=h;exact (kf h1).trans (iZ h2)
  ·exact iZ h
 |.const _ :: l,s,s',c,h=>iZ (l:=l) h
 |.global _ :: l,s,s',c,h=>iZ (l:=l) h
 |.func _ :: l,s,s',c,h=>iZ (l:=l) h
theorem L7 {s s':St} {o:Oper} {c:Bool} (h:IP E f s o=some (c,s')):aG s s':=by
 unfold IP at h;split at h
 ·split at h
  ·injection h with h;exact iZ h
  ·cases h
 ·cases h
theorem CZ {K:St→Prop} {ops:List Oper} (h:fU E f ops o K s):fU E f ops o (fun s'=>K s'∧aG s s') s:=by
 unfold fU at *;split at h
 ·rename_i c s' hz;exact ⟨h.1,nB (tT h.2) fun s2 h2=>⟨h2.1,(L7 hz).trans h2.2⟩⟩
 ·exact tT h
theorem zv {s s':St} {l:Loc} {sz:Nat} {e:TypeId} (h:vf s l sz e=some s'):aG s s':=by
 unfold vf at h;split at h
 ·cases h; exact aG.dW _ _
 unfold tD at h;cases F7:Nat.ble 196608 sz with
 |true=>rw [F7] at h; cases h; exact aG.dW _ _
 |false=>
 rw [F7] at h;cases l with
 |slot t=>
  simp only at h;split at h
  ·cases h; exact ⟨⟨[_],rfl⟩,⟨[],rfl⟩,rfl⟩
  ·cases h
 |box k i=>
  simp only at h;split at h
  ·split at h
   ·cases h; exact ⟨⟨[],rfl⟩,⟨[_],rfl⟩,rfl⟩
   ·cases h
  ·cases h
 |row id i=>
  simp only at h;split at h
  ·split at h
   ·cases h; exact ⟨⟨[],rfl⟩,⟨[],rfl⟩,rfl⟩
   ·cases h
  ·cases h
theorem lV:∀ {l:List (Loc × Nat × TypeId)} {s s':St},gK l s=some s'→aG s s'
 |[],s,s',h=>by
  simp only [gK] at h;cases h;exact aG.refl _
 |(l,sz,e) :: r,s,s',h=>by
  unfold gK at h;split at h
  ·rename_i s1 h1;exact (zv h1).trans (lV h)
  ·cases h
theorem qC:∀ {l:List (Loc × Nat × TypeId)} {s:St},aG s (jY l s)
 |[],s=>aG.refl _
 |(l,sz,e) :: r,s=>by
  unfold jY;split
  ·rename_i s1 h1;exact (zv h1).trans qC
  ·exact qC
theorem JI {s s':St} {o:Oper} {c:Bool} (h:Bs E f o s=some (c,s')):aG s s':=by
 unfold Bs at h;split at h
 ·cases h; exact aG.refl _
 ·split at h
  ·exact kf h
  ·split at h
   ·cases h; exact aG.refl _
   ·split at h
    ·exact F8 h
    ·split at h
     ·cases h; exact qC
     ·cases h
theorem zw {K K':St→Prop} {ops:List Oper} (hK:∀ s,K s→K' s):∀ {l:List Oper} {s:St},qg E f ops l K s→qg E f ops l K' s
 |[],s,h=>hK s h
 |_ :: _,_,h=>nC h fun s' h'=>by
  unfold Bu at *;split at h'
  ·exact ⟨h'.1,zw hK h'.2⟩
  ·exact h'.elim
theorem zx {K K':St→Prop} {ops:List Oper} (hK:∀ s,K s→K' s) {T:DT} {s:St} (h:uJ E f ops T K s):uJ E f ops T K' s:=
 gb (ops:=⟨ops⟩) hK T s h
theorem BL {K:St→Prop} {ops:List Oper}:∀ {l:List Oper} {s:St},qg E f ops l K s→qg E f ops l (fun s'=>K s'∧aG s s') s
 |[],s,h=>⟨h,aG.refl s⟩
 |o :: l,s,h=>by
  simp only [qg] at *;refine nC (CZ h) fun s' hh=>?_
  obtain ⟨h1,h2⟩:=hh;unfold Bu at *;split at h1
  ·rename_i c s2 hp;exact ⟨h1.1,zw (fun s3 h3=>⟨h3.1,(h2.trans (JI hp)).trans h3.2⟩) (BL h1.2)⟩
  ·exact h1.elim
theorem tU {K:St→Prop} {ops:List Oper}:∀ {T:DT} {s:St},uJ E f ops T K s→uJ E f ops T (fun s'=>K s'∧aG s s') s
 |.done,s,h=>⟨h,aG.refl s⟩
 |.stop,_,_=>trivial
 |.take j C T,s,h=>by
  unfold uJ at h ⊢;split
  ·rename_i oj hj;rw [hj] at h;exact cg (mQ h) fun s' hh=>zx (fun s2 h2=>⟨h2.1,hh.2.trans h2.2⟩) (tU hh.1)
  ·rename_i hj;rw [hj] at h;exact h
 |.al j W T,s,h=>by
  unfold uJ at h ⊢;split
  ·rename_i oj hj;rw [hj] at h;exact ⟨h.1,cg (mQ h.2) fun s' hh=>zx (fun s2 h2=>⟨h2.1,hh.2.trans h2.2⟩) (tU hh.1)⟩
  ·rename_i hj;rw [hj] at h;exact h
 |.br i re C T more,s,h=>by
  unfold uJ at h ⊢;refine ⟨?_,tU h.2⟩;have h:=h.1;split
  ·rename_i oj hj;rw [hj] at h;exact cg (mQ h) fun s' hh=>⟨hh.1.1,zx (fun s2 h2=>⟨h2.1,hh.2.trans h2.2⟩) (tU hh.1.2)⟩
  ·rename_i hj;rw [hj] at h;exact h
end ext
def kA (E:Env) (c:Code) (Q:Exit→St→Prop) (s:St):Prop:=fE E c (fun e s'=>Q e s'∧aG s s') s
section sound
variable {E:Env} {f:FuncId} {s:St} {X:Type} {fz:Bool} {call:qy X} {mP:nA X} {fF:Option X→Option X→Option X} {x:X}
def pf (E:Env) (call:qy X):Prop:=∀ g args G K x,call g args G K=some x→cR E g args G (fun r G'=>K r G'=some x)
def wj (E:Env) (mP:nA X):Prop:=∀ id args G K x,mP id args G K=some x→lK E id args G (fun b G'=>K b G'=some x)
theorem aY {α:Type} {c:Bool} {a:Option α} {x:α} (h:(bif c then a else none)=some x):c=true∧a=some x:=by
 cases c
 ·cases h
 ·exact ⟨rfl,h⟩
theorem bind_some {α β:Type} {a:Option α} {k:α→Option β} {x:β} (h:a.bind k=some x):∃ y,a=some y∧k y=some x:=by
 cases a with
 |none=>cases h
 |some y=>exact ⟨y,rfl,h⟩
theorem JJ {o:Oper} {n:Int} {len:Nat} {g:Nat→Oper} (h:CV E s o=some (n,len,g)) {j:Nat} (hj:n=(j:Int)):ak E f s (g j)=ak E f s o:=by
 subst hj;unfold CV at h;have RN:∀ k:IntKind,bw E s.ae (.const (.int k (j:Int)))=.v (.int k j):=fun k=>rfl
 split at h
 ·rename_i t x y ho;split at h
  ·rename_i k n i h1 h2;split at h
   ·injection h with h; injection h with e1 h; injection h with e2 h;subst h; subst e1;simp only [ak,ho,RN,h1]
   ·cases h
  ·cases h
 ·rename_i t x y ho;split at h
  ·rename_i k n i h1 h2;split at h
   ·split at h
    ·split at h
     ·cases h
     ·injection h with h; injection h with e1 h; injection h with e2 h;subst h; subst e1;simp only [ak,ho,RN,h1]
    ·injection h with h; injection h with e1 h; injection h with e2 h;subst h; subst e1;simp only [ak,ho,RN,h1]
   ·cases h
  ·cases h
 ·cases h
theorem rU {o:Oper} {n:Int} {len:Nat} {g:Nat→Oper} (hi:CV E s o=some (n,len,g)) {K:St→Option X}:∀ (m j:Nat),xw E fz f g n K s m j=some x→∃ c s',ak E f s o=some (c,s')∧c=true∧K s'=some x
 |0,_,h=>by cases h
 |m+1,j,h=>by
  unfold xw at h;by_cases hn:n=(j:Int)
  ·rw [decide_eq_true hn,cond_true,JJ hi hn] at h;split at h
   ·rename_i c s' hs;obtain ⟨h1,h2⟩:=aY h;rw [cP] at h2;exact ⟨c,s',hs,h1,h2⟩
   ·cases h
  ·rw [decide_eq_false hn,cond_false] at h;exact rU hi m (j+1) h
theorem zy {ops:List Oper} {o:Oper} (h:SS E f ops o s=true):Gk E f ops o s:=by
 unfold SS at h;split at h
 ·rename_i t m k ok d ho hd;split at h
  ·rename_i c v b hg hs;rw [Bool.and_eq_true] at h;obtain ⟨rfl,h⟩:=h;have hn:=tO hs;unfold Gk;rw [hg];simp only;have e:ak E f s o=some (true,s.put o.dst (.v (if ok then .bD [v,.bool b] else v))):=by simp only [ak,ho,hn]
   rw [hd] at e;rw [hd,e];refine ⟨rfl,?_⟩;unfold St.put;simp only;split
   ·rw [aA];exact BB h
   ·rfl
  ·exact BC h
 ·exact BC h
theorem rV {ops:List Oper}:∀ {l:List Nat} {s:St},q8 E f ops l s=true→By E f ops l s
 |[],_,_=>trivial
 |k :: l,s,h=>by
  unfold q8 at h;unfold By;rw [Bool.and_eq_true] at h;refine ⟨?_,rV h.2⟩;have h:=h.1;split at h
  ·rename_i hk
   first
    |exact zy h
    |rw [hk]; exact zy h
  ·rename_i hk
   first
    |trivial
    |rw [hk]; trivial
theorem vp (hc:pf E call) (hr:wj E mP) {o:Oper} {K:St→Option X} (h:SR E fz call mP f o K s=some x):kS E f o (fun s=>K s=some x) s:=by
 unfold kS;split
 ·rename_i y args tys ho;unfold SR at h;rw [ho] at h;simp only at h;split at h
  ·rename_i h1 h2;rw [h1,h2];refine (hc _ _ _ _ _ h).mono fun r G' hk=>?_
   rw [cP] at hk;exact hk
  ·rename_i h1 h2;rw [h1,h2];refine (hr _ _ _ _ _ h).mono fun r G' hk=>?_
   rw [cP] at hk;exact hk
  ·cases h
 ·rename_i ho;unfold SR at h;rw [ho] at h;cases h
 ·rename_i nc nd;unfold SR at h;split at h
  ·rename_i ho;exact absurd ho (nc _ _ _)
  ·cases h
  ·rename_i y ho;split at h
   ·rename_i b s1 s2 hs;have hn:=GG hs;have e:ak E f s o=some (true,bif b then s1 else s2):=by simp only [ak,ho,hn]
    rw [e];refine dR.mk rfl ?_;rw [cP,cP] at h;cases b <;> exact h
   ·cases h
  ·rename_i t m k ok ho;split at h
   ·rename_i c v b hs;obtain ⟨h1,h2⟩:=aY h;subst h1;rw [cP] at h2;have hn:=tO hs;have e:ak E f s o=some (true,s.put o.dst (.v (if ok then .bD [v,.bool b] else v))):=by simp only [ak,ho,hn]
    rw [e];exact dR.mk rfl h2
   ·split at h
    ·rename_i c s' hs;obtain ⟨h1,h2⟩:=aY h;rw [cP] at h2;rw [hs];exact dR.mk h1 h2
    ·cases h
  ·rename_i t m k z ho;split at h
   ·rename_i c s' hd hs;obtain ⟨h1,h2⟩:=aY h;subst h1;rw [cP] at h2;have hn:=tP hs;have e:ak E f s o=some (true,s'):=by simp only [ak,ho,hd,hn]
    rw [e];exact dR.mk rfl h2
   ·cases h
  ·rename_i t m k z ho;split at h
   ·rename_i c s' hd hs;obtain ⟨h1,h2⟩:=aY h;subst h1;rw [cP] at h2;have hn:=tP hs;have e:ak E f s o=some (true,s'):=by simp only [ak,ho,hd,hn]
    rw [e];exact dR.mk rfl h2
   ·cases h
  ·rename_i args tys ho;split at h
   ·rename_i c s' hf;obtain ⟨h1,h2⟩:=aY h;rw [cP] at h2;have e:ak E f s o=some (c,s'):=by simp only [ak,ho,hf]
    rw [e];exact dR.mk h1 h2
   ·rename_i hf;split at h
    ·rename_i l hl;split at h
     ·rename_i b s1 c s2 hs;have FQ:b=false→c=true:=fun e=>by subst e; exact (aY (show (bif c then qZ fz s2 K else none)=some x from h)).1
      have hn:=CR hs FQ;have e:ak E f s o=some (true,bif b then s1 else s2):=by simp only [ak,ho,hf,hl,hn]
      rw [e];refine dR.mk rfl ?_;cases b with
      |true=>
       show K s1=some x;rw [← cP fz s1 K];exact h
      |false=>
       obtain ⟨h1,h2⟩:=aY (show (bif c then qZ fz s2 K else none)=some x from h);rw [cP] at h2;exact h2
     ·split at h
      ·rename_i c s' hs;obtain ⟨h1,h2⟩:=aY h;rw [cP] at h2;rw [hs];exact dR.mk h1 h2
      ·cases h
    ·cases h
  ·rename_i args tys ho;split at h
   ·rename_i l hl;split at h
    ·rename_i c s' hs;obtain ⟨h1,h2⟩:=aY h;subst h1;rw [cP] at h2;have hn:=GH hs;have hf:iz E f s o=none:=by
      cases hf:iz E f s o with
      |none=>rfl
      |some r=>
       obtain ⟨_,_,h2⟩:=oS hf;rw [ho] at h2;cases h2
     have e:ak E f s o=some (true,s'):=by simp only [ak,ho,hf,hl,hn]
     rw [e];exact dR.mk rfl h2
    ·split at h
     ·rename_i c s' hs;obtain ⟨h1,h2⟩:=aY h;rw [cP] at h2;rw [hs];exact dR.mk h1 h2
     ·cases h
   ·cases h
  ·split at h
   ·rename_i n len g hi;obtain ⟨c,s',hs,h1,h2⟩:=rU hi _ _ h;rw [hs];exact dR.mk h1 h2
   ·split at h
    ·rename_i c s' hs;obtain ⟨h1,h2⟩:=aY h;rw [cP] at h2;rw [hs];exact dR.mk h1 h2
    ·cases h
theorem kV (hc:pf E call) (hr:wj E mP) {ops:List Oper} {o:Oper} {K:St→Option X} (h:qz E fz call mP f ops o K s=some x):cb E f ops o (fun s=>K s=some x) s:=by
 unfold qz at h;unfold cb;split at h
 ·rename_i hg;rw [hg];exact vp hc hr h
 ·rename_i j want hg;rw [hg];simp only;split at h
  ·cases h
  ·rename_i d hd;rw [hd];simp only;split at h
   ·rename_i b hb;rw [hb];simp only;cases want with
    |true=>
     simp only at h;rw [cP,cP] at h;refine ⟨fun e=>?_,fun e=>?_⟩
     ·subst e;exact vp hc hr h
     ·have e:b=false:=by simpa using e
      subst e;exact h
    |false=>
     simp only at h;rw [cP,cP] at h;refine ⟨fun e=>?_,fun e=>?_⟩
     ·subst e;exact vp hc hr h
     ·have e:b=true:=by simpa using e
      subst e;exact h
   ·rename_i hb;rw [hb];rw [cP] at h;exact h
   ·cases h
theorem AO (hc:pf E call) (hr:wj E mP) {ops:List Oper} {o:Oper} {K:St→Option X} (h:CW E fz call mP f ops o K s=some x):gM E f ops o (fun s=>K s=some x) s:=by
 unfold CW at h;unfold gM;split at h
 ·rename_i s' h1 h2;rw [h1,h2];rw [cP] at h;exact h
 ·rename_i hn;split
  ·rename_i s' h1 h2;exact absurd h2 (hn s' h1)
  ·exact kV hc hr h
theorem rW (hc:pf E call) (hr:wj E mP) {ops:List Oper} {o:Oper} {K:St→Option X} (h:xx E fz call mP f ops o K s=some x):fT E f ops o (fun s=>K s=some x) s:=by
 unfold xx at h;unfold fT;split at h
 ·rename_i c s' h1 h2;rw [h1,h2];obtain ⟨q1,q2⟩:=aY h;rw [cP] at q2;exact dR.mk q1 q2
 ·rename_i c s0 left g h1 h2 h3;rw [h1,h2,h3];obtain ⟨q1,q2⟩:=aY h;refine dR.mk q1 ?_;cases left with
  |nil=>
   simp only [List.isEmpty_nil,cond_true,cP] at q2;exact ⟨fun _=>q2,fun i hi=>by simp at hi⟩
  |cons i0 l=>
   simp only [List.isEmpty_cons,cond_false] at q2;refine ⟨fun e=>(by cases e),fun i hi=>?_⟩;obtain ⟨r1,r2⟩:=aY (JF q2 i hi);rw [cP] at r2;exact dR.mk r1 r2
 ·rename_i IX hn2;split
  ·rename_i c s' h1 h2
   first
    |exact absurd h2 (IX c s' h1)
    |exact absurd h2 (hn2 c s' h1)
  ·rename_i c s0 left g h1 h2 h3
   first
    |exact absurd h3 (hn2 c s0 left g h1 h2)
    |exact absurd h3 (IX c s0 left g h1 h2)
  ·exact AO hc hr h
theorem AP (hc:pf E call) (hr:wj E mP) {ops:List Oper} {o:Oper} {K:St→Option X} (h:CX E fz call mP f ops o K s=some x):fU E f ops o (fun s=>K s=some x) s:=by
 unfold CX at h;unfold fU;split at h
 ·rename_i c s' hz;rw [hz];obtain ⟨h1,h2⟩:=aY h;exact ⟨h1,rW hc hr h2⟩
 ·rename_i hz;rw [hz];exact rW hc hr h
theorem zz (hc:pf E call) (hr:wj E mP) {ops:List Oper}:∀ {l:List Oper} {K:St→Option X} {s:St},OH E fz call mP f ops l K s=some x→qg E f ops l (fun s=>K s=some x) s
 |[],_,_,h=>h
 |o :: l,K,s,h=>by
  unfold OH at h;unfold qg;refine nC (AP hc hr h) fun s' h'=>?_
  unfold Bu;split at h'
  ·rename_i c s2 hp;rw [hp];cases c with
   |true=>exact ⟨rfl,zz hc hr h'⟩
   |false=>cases h'
  ·cases h'
theorem kl (hc:pf E call) (hr:wj E mP) (hm:wi fF) {ops:List Oper}:∀ {T:DT} {K:St→Option X} {s:St} {x:X},oT E fz call mP fF f ops T K s=some x→uJ E f ops T (fun s=>K s=some x) s
 |.done,_,_,_,h=>h
 |.stop,_,_,_,_=>trivial
 |.take j C T,K,s,x,h=>by
  unfold oT at h;unfold uJ;split at h
  ·rename_i hk;rw [hk];exact cg (kV hc hr h) fun s' h'=>kl hc hr hm h'
  ·cases h
 |.al j W T,K,s,x,h=>by
  unfold oT at h;unfold uJ;split at h
  ·rename_i hk;obtain ⟨h1,h2⟩:=aY h;rw [hk];exact ⟨h1,cg (kV hc hr h2) fun s' h'=>kl hc hr hm h'⟩
  ·cases h
 |.br i re C T more,K,s,x,h=>by
  have first:∀ {x:X},(match nth ops i with
   |some oi=>qz E fz call mP f ops oi (fun s'=>bif q8 E f ops re s' then oT E fz call mP fF f ops T K s' else none) s
   |none=>none)=some x→(match nth ops i with
   |some oi=>cb E f ops oi (fun s'=>By E f ops re s'∧uJ E f ops T (fun s=>K s=some x) s') s
   |none=>False):=by
   intro x h;split at h
   ·rename_i hk;refine cg (kV hc hr h) fun s' h'=>?_
    obtain ⟨h1,h2⟩:=aY h';exact ⟨rV h1,kl hc hr hm h2⟩
   ·cases h
  unfold uJ;cases more with
  |stop=>exact ⟨first h,trivial⟩
  |done=>obtain ⟨h1,h2⟩:=hm _ _ _ h; exact ⟨first h1,kl (T:=.done) hc hr hm h2⟩
  |take a b c=>obtain ⟨h1,h2⟩:=hm _ _ _ h; exact ⟨first h1,kl hc hr hm h2⟩
  |br a b c d e=>obtain ⟨h1,h2⟩:=hm _ _ _ h; exact ⟨first h1,kl hc hr hm h2⟩
  |al a b c=>obtain ⟨h1,h2⟩:=hm _ _ _ h; exact ⟨first h1,kl hc hr hm h2⟩
end sound
end Go.Am
namespace Go.Am
open Go
section
variable {C:iN} {ih:Wi}
def vq (C:iN) (ih:Wi):Prop:=∀ (f:FuncId) (p:Nat) (c:Code) (X:Type) (fF:Option X→Option X→Option X),wi fF→∀ (K:Exit→St→Option X) (s:St) (x:X),
 bF (C.D.dt f) c=true→ih f p c X fF K s=some x→kA C.D.toEnv c (fun e s'=>K e s'=some x) s
theorem nD {X:Type}:wi (vo (X:=X)):=fun a b x h=>by
 unfold vo at h;by_cases e:a=b
 ·rw [if_pos e] at h;exact ⟨h,e ▸ h⟩
 ·rw [if_neg e] at h;cases h
theorem mR (hs:vq C ih) {X:Type} {fF:Option X→Option X→Option X} (hm:wi fF):pf C.D.toEnv (BJ C ih fF):=fun g args G K x h=>by
 unfold BJ at h;obtain ⟨fa,h⟩:=aY h;split at h
 ·rename_i fn hfn;split at h
  ·rename_i b hb;obtain ⟨hn,h⟩:=aY h;have fin:∀ {K':AV→List GO→Option X},ih g 1 b X fF (LV C.D.toEnv fn K') (St.init fn.ntmps args G)=some x→cR C.D.toEnv g args G (fun r G'=>K' r G'=some x):=by
    intro K' h;refine cR.intro hfn hb (by simpa using hn) ((hs g 1 b X fF hm _ _ x (C.D.QI g fn b fa hfn hb) h).mono fun e s' hq=>?_);have hq:=hq.1;unfold LV at hq;unfold QF;cases e <;> first | (cases hq; done) | skip
    all_goals (simp only at hq ⊢)
    all_goals (split at hq <;> first | (cases hq; done) | skip)
    all_goals (rename_i hl; rw [hl]; simp only)
    all_goals (split at hq <;> first | (cases hq; done) | skip)
    all_goals (rename_i Ov; rw [Ov]; exact hq)
   cases ZR:C.D.xJ g 131072 with
   |true=>rw [ZR] at h; exact cR.frz (fin h)
   |false=>rw [ZR] at h; exact fin h
  ·cases h
 ·cases h
theorem Ew (C0:∀ g e,C.JE g=some e→aE C.D.toEnv g e) (hs:vq C ih) {X:Type} {fF:Option X→Option X→Option X} (hm:wi fF):pf C.D.toEnv (BK C ih fF):=fun g args G K x h=>by
 unfold BK at h;split at h
 ·rename_i e he;obtain ⟨a,ha,h⟩:=bind_some h;obtain ⟨y,hy,h⟩:=bind_some h;refine cR.iy (e.ps.sa ha).1 (((C0 g e he a y hy) G).mono fun r G' hr=>?_);obtain ⟨rfl,rfl⟩:=hr;exact h
 ·split at h
  ·rename_i e he;split at h
   ·rename_i c r G' hf;obtain ⟨hc,h⟩:=aY h;subst hc;refine (e.ok args G r G' hf).mono fun r' HX hh=>?_
    obtain ⟨rfl,rfl⟩:=hh;exact h
   ·cases h
  ·split at h
   ·rename_i e he;obtain ⟨a,ha,h⟩:=bind_some h;obtain ⟨y,hy,h⟩:=bind_some h;refine cR.iy (e.ps.sa ha).1 ((e.ok a y hy G).mono fun r G' hr=>?_);obtain ⟨z,rfl,hr⟩:=hr;exact (Es e.outs z hr).trans h
   ·exact mR hs hm g args G K x h
theorem Ex {n:Nat}:∀ {l:List Tmp},OI n l=true→∀ t∈l,t < n
 |[],_,t,ht=>by simp at ht
 |a :: l,h,t,ht=>by
  simp only [OI,Bool.and_eq_true] at h;rcases List.mem_cons.1 ht with rfl|ht
  ·exact kw h.1
  ·exact Ex h.2 t ht
theorem GW (hs:vq C ih) {X:Type} {fF:Option X→Option X→Option X} (hm:wi fF):wj C.D.toEnv (OJ C ih fF):=fun id args G K x h=>by
 unfold OJ at h;split at h
 ·rename_i p fp sl n ps ss bd d hG;obtain ⟨hc,h⟩:=aY h;simp only [Bool.and_eq_true] at hc;obtain ⟨⟨⟨h1,h2⟩,h3⟩,h4⟩:=hc;refine lK.intro hG (Nat.eq_of_beq_eq_true h1) (Ex h2) ((hs _ _ ss X fF hm _ _ x h3 h).mono fun e s1 hq=>?_);have hq:=hq.1;unfold CM;cases e with
  |normal=>
   simp only at hq ⊢;split at hq
   ·rename_i p' fn Wb n' XG OE Wf d' hG1;rw [hG1];simp only;refine (hs _ _ bd X fF hm _ _ x h4 hq).mono fun e2 s2 kO=>?_
    have kO:GM id K e2 s2=some x:=kO.1;unfold GM at kO;unfold GD;split at kO
    ·rename_i Xw;rw [Xw];cases e2 <;> first | (cases kO; done) | exact kO
    ·cases kO
   ·cases hq
  |_=>cases hq
 ·cases h
theorem kA.of {E:Env} {c:Code} {Q Q':Exit→St→Prop} {s:St} (h:kA E c Q s) (hq:∀ e s',Q e s'→aG s s'→Q' e s'):fE E c Q' s:=
 fE.mono h fun e s' hh=>hq e s' hh.1 hh.2
theorem q9 {s s':St} {e:Exit}:∀ {outs:List (XK × bI)} {o:JT outs},jr s outs e s'=some o→∃ (t:bI) (v:t.ps.T),t.dec s s'=some v∧∀ (α:Type) (K:Exit→St→α),KA s outs o K=K e (t.st s v)
 |[],o,h=>by cases h
 |[x],o,h=>by
  obtain ⟨h1,h2⟩:=aY (show (bif x.1.is e then x.2.dec s s' else none)=some o from h);exact ⟨x.2,o,h2,fun _ K=>by rw [XK.HT h1]; rfl⟩
 |x :: y :: l,o,h=>by
  have h:(bif x.1.is e then (x.2.dec s s').bind fun v=>some (.inl v) else (jr s (y :: l) e s').bind fun o=>some (.inr o))=some o:=h;cases hx:x.1.is e with
  |true=>
   rw [hx] at h;obtain ⟨v,h1,h2⟩:=bind_some h;cases h2;exact ⟨x.2,v,h1,fun _ K=>by rw [XK.HT hx]; rfl⟩
  |false=>
   rw [hx] at h;obtain ⟨v,h1,h2⟩:=bind_some h;cases h2;obtain ⟨t,u,k1,k2⟩:=q9 h1;exact ⟨t,u,k1,fun α K=>k2 α K⟩
theorem bI.lW (t:bI) (s:St) (v:t.ps.T):aG s (t.st s v):=by
 have h1:∀ (W:List Tmp) (b:ba),∃ pre,za W b=pre++b:=fun W b=>by
  induction W with
  |nil=>exact ⟨[],rfl⟩
  |cons t W ih=>obtain ⟨p,hp⟩:=ih; exact ⟨.put t .none :: p,by simp [za,hp]⟩
 have h2:∀ (ts:List Tmp) (l:List AV) (b:ba),∃ pre,qo ts l b=pre++b:=fun ts=>by
  induction ts with
  |nil=>intro l b; exact ⟨[],by cases l <;> rfl⟩
  |cons t ts ih=>
   intro l b;cases l with
   |nil=>exact ⟨[],rfl⟩
   |cons a l=>obtain ⟨p,hp⟩:=ih l b; exact ⟨.put t (.v a) :: p,by simp [qo,hp]⟩
 have h3:∀ (bx:List (Nat × Nat)) (l:List AV) (b:cD),∃ pre,vY bx l b=pre++b:=fun bx=>by
  induction bx with
  |nil=>intro l b; exact ⟨[],rfl⟩
  |cons x bx ih=>
   obtain ⟨k,n⟩:=x;intro l b;obtain ⟨p,hp⟩:=ih (l.drop n) b;exact ⟨(k,l.take n) :: p,by simp [vY,hp]⟩
 have h4:∀ (l:List (Tmp × Nat × Nat)) (b:ba),∃ pre,qp l b=pre++b:=fun l b=>by
  induction l with
  |nil=>exact ⟨[],rfl⟩
  |cons x l ih=>obtain ⟨t,k,o⟩:=x; obtain ⟨p,hp⟩:=ih; exact ⟨.put t (.lp k o) :: p,by simp [qp,hp]⟩
 obtain ⟨p1,e1⟩:=h1 t.W s.ae;obtain ⟨p2,e2⟩:=h2 t.sl (t.rJ v) (za t.W s.ae);obtain ⟨p3,e3⟩:=h3 t.bx ((t.rJ v).drop t.sl.length) s.boxes;obtain ⟨p4,e4⟩:=h4 t.Wd (p2++(p1++s.ae));exact ⟨⟨p4++(p2++p1),by rw [show (t.st s v).ae=qp t.Wd (qo t.sl (t.rJ v) (za t.W s.ae)) from rfl,e2,e1,e4,List.append_assoc,List.append_assoc]⟩,⟨p3,e3⟩,rfl⟩
theorem fE.XW {E:Env} {c:Code} {s s1:St} {gh:List (Loc × Nat × TypeId)} {head:bI} {outs:List (XK × bI)} {rd:head.ps.T→Option (head.ps.T ⊕ JT outs)} {N:Nat} {v0:head.ps.T} {o:JT outs} {Q:Exit→St→Prop}
  (hg:Am.gK gh s=some s1) (h0:head.dec s1 s1=some v0) (hr:∀ v r,rd v=some r→kA E c (fun e s'=>wh s1 head outs e s'=some r) (head.st s1 v))
  (hl:ar rd N v0=some o) (hQ:∀ (t:bI) (v:t.ps.T) (e:Exit),(∀ (α:Type) (K:Exit→St→α),KA s1 outs o K=K e (t.st s1 v))→Q e (t.st s1 v)∧aG s (t.st s1 v)) :
  kA E (.loop c) Q s:=fun R0 w β a F NF E5=>by
 obtain ⟨R,k1,k2,k3,_⟩:=jL NF hg;have hf:bL R s1.ro F:=by rw [k3]; exact E5.mono k2.ext
 obtain ⟨i1,i2⟩:=bI.Dm (aG.refl s1) k1 k1 (Step.refl R w β s1.boxes) h0;refine jM (fun m a' w'=>∃ v R' β',ar rd m v=some o∧aX E R' w' β' (head.st s1 v) a'∧Step R w β s1.boxes R' w' β' (head.st s1 v).boxes) ?_ ⟨v0,_,β,hl,i1,i2⟩;rintro m a' w' ⟨v,R',β',hm,lF,e9⟩;cases m with
 |zero=>cases hm
 |succ m=>
  obtain ⟨r,h1,h2⟩:=bind_some (show ((rd v).bind fun o=>Sum.elim (fun v'=>ar rd m v') (fun x=>some x) o)=some o from hm);refine wpIn_mono (hr v r h1 R' w' β' a' F lF (hf.mono e9.ext)) ?_;rintro e a2 w2 ⟨s2,R2,β2,⟨hK,hx⟩,yp,AQ,CN⟩;have Dp:aG s1 s2:=(head.lW s1 v).trans hx;have st2:=e9.trans AQ;have out:∀ {u:JT outs},jr s1 outs e s2=some u→r=.inr u→Sn E R0 w β s (fun e s'=>Q e s'∧aG s s') e a2 w2:=fun {u} hu hru=>by
   subst hru;cases h2;obtain ⟨t,v',q1,q2⟩:=q9 hu;obtain ⟨j1,j2⟩:=bI.Dm Dp k1 yp st2 q1;exact ⟨t.st s1 v',_,β2,hQ t v' e q2,j1,k2.trans j2,k3⟩
  cases e with
  |normal=>
   obtain ⟨v',q1,q2⟩:=bind_some (show ((head.dec s1 s2).bind fun v=>some (.inl v))=some r from hK);cases q2;obtain ⟨j1,j2⟩:=bI.Dm Dp k1 yp st2 q1;exact ⟨m,Nat.lt_succ_self m,v',_,β2,h2,j1,j2⟩
  |exit i=>obtain ⟨u,q1,q2⟩:=bind_some (show ((jr s1 outs (.exit i) s2).bind fun o=>some (.inr o))=some r from hK); exact out q1 (Option.some.inj q2).symm
  |ret=>obtain ⟨u,q1,q2⟩:=bind_some (show ((jr s1 outs .ret s2).bind fun o=>some (.inr o))=some r from hK); exact out q1 (Option.some.inj q2).symm
  |goto i=>obtain ⟨u,q1,q2⟩:=bind_some (show ((jr s1 outs (.goto i) s2).bind fun o=>some (.inr o))=some r from hK); exact out q1 (Option.some.inj q2).symm
  |panic i=>obtain ⟨u,q1,q2⟩:=bind_some (show ((jr s1 outs (.panic i) s2).bind fun o=>some (.inr o))=some r from hK); exact out q1 (Option.some.inj q2).symm
  |outgrown=>obtain ⟨u,q1,q2⟩:=bind_some (show ((jr s1 outs .outgrown s2).bind fun o=>some (.inr o))=some r from hK); exact out q1 (Option.some.inj q2).symm
theorem fE.SX {E:Env} {c:Code} {s s1:St} {gh:List (Loc × Nat × TypeId)} {head:bI} {outs:List (XK × bI)} {rd:(head.ps.T→Option (JT outs))→head.ps.T→Option (JT outs)} {N:Nat} {v0:head.ps.T} {o:JT outs} {Q:Exit→St→Prop}
  (hg:Am.gK gh s=some s1) (h0:head.dec s1 s1=some v0) (hr:∀ k v u,rd k v=some u→kA E c (fun e s'=>LX s1 head outs k e s'=some u) (head.st s1 v))
  (hl:dC rd N v0=some o) (hQ:∀ (t:bI) (v:t.ps.T) (e:Exit),(∀ (α:Type) (K:Exit→St→α),KA s1 outs o K=K e (t.st s1 v))→Q e (t.st s1 v)∧aG s (t.st s1 v)) :
  kA E (.loop c) Q s:=fun R0 w β a F NF E5=>by
 obtain ⟨R,k1,k2,k3,_⟩:=jL NF hg;have hf:bL R s1.ro F:=by rw [k3]; exact E5.mono k2.ext
 obtain ⟨i1,i2⟩:=bI.Dm (aG.refl s1) k1 k1 (Step.refl R w β s1.boxes) h0;refine jM (fun m a' w'=>∃ v R' β',dC rd m v=some o∧aX E R' w' β' (head.st s1 v) a'∧Step R w β s1.boxes R' w' β' (head.st s1 v).boxes) ?_ ⟨v0,_,β,hl,i1,i2⟩;rintro m a' w' ⟨v,R',β',hm,lF,e9⟩;cases m with
 |zero=>cases hm
 |succ m=>
  refine wpIn_mono (hr (dC rd m) v o hm R' w' β' a' F lF (hf.mono e9.ext)) ?_;rintro e a2 w2 ⟨s2,R2,β2,⟨hK,hx⟩,yp,AQ,CN⟩;have Dp:aG s1 s2:=(head.lW s1 v).trans hx;have st2:=e9.trans AQ;have out:jr s1 outs e s2=some o→Sn E R0 w β s (fun e s'=>Q e s'∧aG s s') e a2 w2:=fun hu=>by
   obtain ⟨t,v',q1,q2⟩:=q9 hu;obtain ⟨j1,j2⟩:=bI.Dm Dp k1 yp st2 q1;exact ⟨t.st s1 v',_,β2,hQ t v' e q2,j1,k2.trans j2,k3⟩
  cases e with
  |normal=>
   obtain ⟨v',q1,q2⟩:=bind_some (show (head.dec s1 s2).bind (dC rd m)=some o from hK);obtain ⟨j1,j2⟩:=bI.Dm Dp k1 yp st2 q1;exact ⟨m,Nat.lt_succ_self m,v',_,β2,q2,j1,j2⟩
  |exit i=>exact out hK
  |ret=>exact out hK
  |goto i=>exact out hK
  |panic i=>exact out hK
  |outgrown=>exact out hK
theorem fE.SY {E:Env} {X:Type} {c:Code} {s s1:St} {gh:List (Loc × Nat × TypeId)} {head:bI} {K:Exit→St→Option X} {rd:(head.ps.T→Option X)→head.ps.T→Option X} {N:Nat} {v0:head.ps.T} {o:X}
  (hg:Am.gK gh s=some s1) (h0:head.dec s1 s1=some v0) (hr:∀ k v u,rd k v=some u→kA E c (fun e s'=>LZ s1 head K k e s'=some u) (head.st s1 v))
  (hl:dC rd N v0=some o) :
  kA E (.loop c) (fun e s'=>K e s'=some o) s:=fun R0 w β a F NF E5=>by
 obtain ⟨R,k1,k2,k3,_⟩:=jL NF hg;have hf:bL R s1.ro F:=by rw [k3]; exact E5.mono k2.ext
 obtain ⟨i1,i2⟩:=bI.Dm (aG.refl s1) k1 k1 (Step.refl R w β s1.boxes) h0;refine jM (fun m a' w'=>∃ v R' β',dC rd m v=some o∧aX E R' w' β' (head.st s1 v) a'∧Step R w β s1.boxes R' w' β' (head.st s1 v).boxes) ?_ ⟨v0,_,β,hl,i1,i2⟩;rintro m a' w' ⟨v,R',β',hm,lF,e9⟩;cases m with
 |zero=>cases hm
 |succ m=>
  refine wpIn_mono (hr (dC rd m) v o hm R' w' β' a' F lF (hf.mono e9.ext)) ?_;rintro e a2 w2 ⟨s2,R2,β2,⟨hK,hx⟩,yp,AQ,CN⟩;have Dp:aG s1 s2:=(head.lW s1 v).trans hx;have st2:=e9.trans AQ;have out:K e s2=some o→Sn E R0 w β s (fun e s'=>K e s'=some o∧aG s s') e a2 w2:=fun hu=>
   ⟨s2,R2,β2,⟨hu,(lV hg).trans Dp⟩,yp,k2.trans st2,CN.trans k3⟩
  cases e with
  |normal=>
   obtain ⟨v',q1,q2⟩:=bind_some (show (head.dec s1 s2).bind (dC rd m)=some o from hK);obtain ⟨j1,j2⟩:=bI.Dm Dp k1 yp st2 q1;exact ⟨m,Nat.lt_succ_self m,v',_,β2,q2,j1,j2⟩
  |exit i=>exact out hK
  |ret=>exact out hK
  |goto i=>exact out hK
  |panic i=>exact out hK
  |outgrown=>exact out hK
theorem wo {s s':St} {t:Tmp} {sz:Nat} {e:TypeId} {c:Bool} (h:tR s t sz e=some (c,s')):s'.G.length=s.G.length∧aG s s':=by
 unfold tR at h
 repeat' (split at h)
 all_goals (first|(cases h; done) | skip)
 injection h with h;injection h with _ h;subst h;exact ⟨iR _ _ _,⟨⟨[_],rfl⟩,⟨[],rfl⟩,rfl⟩⟩
theorem fE.H3 {E:Env} {c:Code} {s s1:St} {tq:Tmp} {sz:Nat} {ty:TypeId} {head:bI} {outs:List (XK × bI)} {rd:head.ps.T→Option (head.ps.T ⊕ JT outs)} {N:Nat} {v0:head.ps.T} {o:JT outs} {Q:Exit→St→Prop}
  (hg:tR s tq sz ty=some (true,s1)) (h0:head.dec s1 s1=some v0) (hr:∀ v r,rd v=some r→∃ s2,wg (head.st s1 v) tq sz ty=some s2∧kA E c (fun e s'=>L4 s1 head outs tq sz ty e s'=some r) s2)
  (hl:ar rd N v0=some o) (hQ:∀ (t:bI) (v:t.ps.T) (e:Exit),(∀ (α:Type) (K:Exit→St→α),KA s1 outs o K=K e (t.st s1 v))→Q e (t.st s1 v)∧aG s (t.st s1 v)) :
  kA E (.loop c) Q s:=fun R0 w β a F NF E5=>by
 obtain ⟨R1,cv,ro,es,k1,k2,k3,k4,k5,k6,k7,k8,k9⟩:=BG NF hg;have hnG:R0.obj.length=s1.G.length:=by rw [NF.g.len,(wo hg).1]
 cases N with
 |zero=>cases hl
 |succ N0=>
 obtain ⟨r0,abl,_⟩:=bind_some (show ((rd v0).bind fun o=>Sum.elim (fun v'=>ar rd N0 v') (fun x=>some x) o)=some o from hl);obtain ⟨s20,XX,_⟩:=hr v0 r0 abl;obtain ⟨R4,i1,i2,i3,i4,i5⟩:=BH k1 hnG (aG.refl s1) (Ext.refl R1 w) (Step.refl R0 w β s.boxes) k1 k2 k7 k8 k9 h0 XX;refine jM (fun m a' w'=>∃ v R' β' s2,ar rd m v=some o∧wg (head.st s1 v) tq sz ty=some s2∧aX E R' w' β' s2 a'∧Step R0 w β s.boxes R' w' β' s2.boxes∧Ext R1 w R' w'∧s2.ro=s1.ro∧aG s1 s2) ?_ ⟨v0,R4,β,s20,hl,XX,i1,i2,i3,i4,(head.lW s1 v0).trans i5⟩;rintro m a' w' ⟨v,R',β',s2,hm,I1,lF,e9,hE,bn,SZ⟩;cases m with
 |zero=>cases hm
 |succ m=>
  obtain ⟨r,h1,h2⟩:=bind_some (show ((rd v).bind fun o=>Sum.elim (fun v'=>ar rd m v') (fun x=>some x) o)=some o from hm);obtain ⟨s2',XY,hw⟩:=hr v r h1;rw [I1] at XY;cases XY;refine wpIn_mono (hw R' w' β' a' F lF (by rw [bn,k3]; exact E5.mono e9.ext)) ?_;rintro e a2 w2 ⟨s3,R2,β2,⟨hK,hx⟩,yp,AQ,CN⟩;have Dp:aG s1 s3:=SZ.trans hx;have st2:=e9.trans AQ;have hE2:=hE.trans AQ.ext;have out:∀ {u:JT outs},jr s1 outs e s3=some u→r=.inr u→Sn E R0 w β s (fun e s'=>Q e s'∧aG s s') e a2 w2:=fun {u} hu hru=>by
   subst hru;cases h2;obtain ⟨t,v',q1,q2⟩:=q9 hu;obtain ⟨j1,j2,j3⟩:=bI.SK Dp k1 yp hE2 q1;refine ⟨t.st s1 v',_,β2,hQ t v' e q2,j1,⟨⟨st2.ext.I,st2.ext.cell,fun id r hid=>?_,st2.ext.lp⟩,st2.os,st2.tape,st2.output,st2.size,st2.aZ,fun b hb Gg=>?_,fun b o hi hb sf=>st2.im b o hi hb sf⟩,k3⟩
   ·obtain ⟨r',g1,g2⟩:=st2.ext.obj id r hid;have:=bi hid;exact ⟨r',jq.2 ⟨by omega,g1⟩,g2⟩
   ·rcases Gg with Gg|⟨k,cs,hk,rfl⟩
    ·exact st2.own b hb (.inl (qt Gg))
    ·obtain ⟨eP,jy⟩:=j3 k cs hk;exact st2.own _ hb (.inr ⟨k,eP,jy,rfl⟩)
  cases e with
  |normal=>
   have hK:(match tR s3 tq sz ty with
    |some (c,s2)=>bif c then (head.dec s1 s2).bind fun v=>some (.inl v) else none
    |none=>none:Option (head.ps.T ⊕ JT outs))=some r:=hK
   cases hu:tR s3 tq sz ty with
   |none=>rw [hu] at hK; cases hK
   |some x=>
    obtain ⟨cc,s4⟩:=x;rw [hu] at hK;cases cc with
    |false=>cases hK
    |true=>
     obtain ⟨v',q1,q2⟩:=bind_some (show ((head.dec s1 s4).bind fun v=>some (.inl v))=some r from hK);cases q2;obtain ⟨R3,cv3,ro3,es3,m1,m2,m3,m4,m5,m6,m7,m8,m9⟩:=BG yp hu;have hs4:∃ s5,wg (head.st s1 v') tq sz ty=some s5:=by
      cases m with
      |zero=>cases h2
      |succ m0=>
       obtain ⟨r9,hr9,_⟩:=bind_some (show ((rd v').bind fun o=>Sum.elim (fun v'=>ar rd m0 v') (fun x=>some x) o)=some o from h2);obtain ⟨s9,hs9,_⟩:=hr v' r9 hr9;exact ⟨s9,hs9⟩
     obtain ⟨s5,hs5⟩:=hs4;obtain ⟨R5,j1,j2,j3,j4,j5⟩:=BH k1 hnG (Dp.trans m4) (hE2.trans m2.ext) st2 m1 m2 m7 m8 m9 q1 hs5;exact ⟨m,Nat.lt_succ_self m,v',R5,β2,s5,h2,hs5,j1,j2,j3,j4,(head.lW s1 v').trans j5⟩
  |exit i=>obtain ⟨u,q1,q2⟩:=bind_some (show ((jr s1 outs (.exit i) s3).bind fun o=>some (.inr o))=some r from hK); exact out q1 (Option.some.inj q2).symm
  |ret=>obtain ⟨u,q1,q2⟩:=bind_some (show ((jr s1 outs .ret s3).bind fun o=>some (.inr o))=some r from hK); exact out q1 (Option.some.inj q2).symm
  |goto i=>obtain ⟨u,q1,q2⟩:=bind_some (show ((jr s1 outs (.goto i) s3).bind fun o=>some (.inr o))=some r from hK); exact out q1 (Option.some.inj q2).symm
  |panic i=>obtain ⟨u,q1,q2⟩:=bind_some (show ((jr s1 outs (.panic i) s3).bind fun o=>some (.inr o))=some r from hK); exact out q1 (Option.some.inj q2).symm
  |outgrown=>obtain ⟨u,q1,q2⟩:=bind_some (show ((jr s1 outs .outgrown s3).bind fun o=>some (.inr o))=some r from hK); exact out q1 (Option.some.inj q2).symm
end
def rX (E:Env):List Bool→Code→(Exit→St→Prop)→St→Prop
 |[],_,Q,s=>Q .normal s
 |true :: k,.seq x y,Q,s=>kA E x (vQ (rX E k y Q) Q) s
 |false :: k,.seq x _,Q,s=>rX E k x Q s
 |_ :: _,_,_,_=>False
def lX (E:Env):List Bool→Code→(Exit→St→Prop)→St→Prop
 |[],c,Q,s=>kA E c Q s
 |true :: k,.seq _ y,Q,s=>lX E k y Q s
 |false :: k,.seq x y,Q,s=>lX E k x (vQ (kA E y Q) Q) s
 |_ :: _,_,_,_=>False
def H4 (F:Fence) (P:Program):List Bool→Code→(Exit→Act→World→Prop)→Act→World→Prop
 |[],c,Q,a,w=>c.wpIn F 0 P Q a w
 |true :: k,.seq _ y,Q,a,w=>H4 F P k y Q a w
 |false :: k,.seq x y,Q,a,w=>H4 F P k x (Exit.then (fun a' w'=>y.wpIn F 0 P Q a' w') Q) a w
 |_ :: _,_,_,_,_=>False
section rot
variable {E:Env} {s1:St} {R:ai} {w:World} {β:Nat→Nat} {F:Fence}
def At (E:Env) (s1:St) (R:ai) (w:World) (β:Nat→Nat) (s:St) (a:Act) (w':World):Prop:=
 ∃ R' β',aG s1 s∧aX E R' w' β' s a∧Step R w β s1.boxes R' w' β' s.boxes∧s.ro=s1.ro
theorem kA.at {c:Code} {Q:Exit→St→Prop} {s:St} {a:Act} {w':World} {Φ:Exit→Act→World→Prop} (hf:bL R s1.ro F) (h:kA E c Q s) (pL:At E s1 R w β s a w') (hQ:∀ e s' a' w',Q e s'→At E s1 R w β s' a' w'→Φ e a' w'):c.wpIn F 0 E.P Φ a w':=by
 obtain ⟨R',β',hx,hr,e9,bn⟩:=pL;refine wpIn_mono (h R' w' β' a F hr (by rw [bn]; exact hf.mono e9.ext)) ?_;rintro e a2 w2 ⟨s2,R2,β2,⟨hq,Dp⟩,yp,AQ,CN⟩;exact hQ e s2 a2 w2 hq ⟨R2,β2,hx.trans Dp,yp,e9.trans AQ,CN.trans bn⟩
theorem lX.at (hf:bL R s1.ro F):∀ (k:List Bool) (c:Code) {Q:Exit→St→Prop} {s:St} {a:Act} {w':World} {Φ:Exit→Act→World→Prop},lX E k c Q s→At E s1 R w β s a w'→(∀ e s' a' w',Q e s'→At E s1 R w β s' a' w'→Φ e a' w')→H4 F E.P k c Φ a w'
 |[],c,Q,s,a,w',Φ,h,pL,hQ=>kA.at hf h pL hQ
 |true :: k,c,Q,s,a,w',Φ,h,pL,hQ=>by
  cases c with
  |seq x y=>exact lX.at hf k y h pL hQ
  |_=>exact h.elim
 |false :: k,c,Q,s,a,w',Φ,h,pL,hQ=>by
  cases c with
  |seq x y=>
   refine lX.at hf k x (Q:=vQ (kA E y Q) Q) h pL fun e s' a' w' hq sA=>?_
   cases e with
   |normal=>exact kA.at hf hq sA hQ
   |_=>exact hQ _ s' a' w' hq sA
  |_=>exact h.elim
theorem rX.at (hf:bL R s1.ro F):∀ (k:List Bool) (c:Code) {Q:Exit→St→Prop} {s:St} {a:Act} {w':World} {Φ:Exit→Act→World→Prop},rX E k c Q s→At E s1 R w β s a w' →
  (∀ s' a' w',Q .normal s'→At E s1 R w β s' a' w'→H4 F E.P k c Φ a' w')→(∀ e s' a' w',e≠.normal→Q e s'→At E s1 R w β s' a' w'→Φ e a' w')→c.wpIn F 0 E.P Φ a w'
 |[],c,Q,s,a,w',Φ,h,pL,hS,hQ=>hS s a w' h pL
 |true :: k,c,Q,s,a,w',Φ,h,pL,hS,hQ=>by
  cases c with
  |seq x y=>
   refine wpIn_seq (kA.at hf (show kA E x (vQ (rX E k y Q) Q) s from h) pL fun e s' a' w' hq sA=>?_);cases e with
   |normal=>exact rX.at hf k y hq sA hS hQ
   |exit i=>exact hQ _ s' a' w' (by simp) hq sA
   |ret=>exact hQ _ s' a' w' (by simp) hq sA
   |goto i=>exact hQ _ s' a' w' (by simp) hq sA
   |panic i=>exact hQ _ s' a' w' (by simp) hq sA
   |outgrown=>exact hQ _ s' a' w' (by simp) hq sA
  |_=>exact h.elim
 |false :: k,c,Q,s,a,w',Φ,h,pL,hS,hQ=>by
  cases c with
  |seq x y=>
   refine wpIn_seq (rX.at hf k x (Q:=Q) h pL hS fun e s' a' w' cz hq sA=>?_);cases e with
   |normal=>exact absurd rfl cz
   |exit i=>exact hQ _ s' a' w' cz hq sA
   |ret=>exact hQ _ s' a' w' cz hq sA
   |goto i=>exact hQ _ s' a' w' cz hq sA
   |panic i=>exact hQ _ s' a' w' cz hq sA
   |outgrown=>exact hQ _ s' a' w' cz hq sA
  |_=>exact h.elim
end rot
theorem fE.OL {E:Env} {b:Code} {s s1:St} {gh:List (Loc × Nat × TypeId)} {head:bI} {outs:List (XK × bI)} {pre:St→Option (head.ps.T ⊕ JT outs)} {rd:head.ps.T→Option (head.ps.T ⊕ JT outs)} {N:Nat} {k:List Bool} {r0:head.ps.T ⊕ JT outs} {o:JT outs} {Q:Exit→St→Prop}
  (hg:Am.gK gh s=some s1) (h0:pre s1=some r0)
  (hp:∀ s2 r,pre s2=some r→rX E k b (fun e s'=>wh s1 head outs e s'=some r) s2)
  (hr:∀ v r,rd v=some r→lX E k b (fun e s'=>BI pre (wh s1 head outs) e s'=some r) (head.st s1 v))
  (hl:Sum.elim (fun v=>ar rd N v) (fun x=>some x) r0=some o) (hQ:∀ (t:bI) (v:t.ps.T) (e:Exit),(∀ (α:Type) (K:Exit→St→α),KA s1 outs o K=K e (t.st s1 v))→Q e (t.st s1 v)∧aG s (t.st s1 v)) :
  kA E (.loop b) Q s:=fun R0 w β a F NF E5=>by
 obtain ⟨R,k1,k2,k3,_⟩:=jL NF hg;have hf:bL R s1.ro F:=by rw [k3]; exact E5.mono k2.ext
 refine jM (fun n a' w'=>∃ s2 r,pre s2=some r∧Sum.elim (fun v=>ar rd n v) (fun x=>some x) r=some o∧At E s1 R w β s2 a' w') ?_ ⟨s1,r0,h0,hl,R,β,aG.refl s1,k1,Step.refl _ _ _ _,rfl⟩;rintro n a' w' ⟨s2,r,XA,ZS,pL⟩
 -- a way out
 have out:∀ {e:Exit} {s3:St} {a3:Act} {w3:World} {r:head.ps.T ⊕ JT outs} {n:Nat},e≠.normal→wh s1 head outs e s3=some r→Sum.elim (fun v=>ar rd n v) (fun x=>some x) r=some o→At E s1 R w β s3 a3 w3→Sn E R0 w β s (fun e s'=>Q e s'∧aG s s') e a3 w3:=fun {e s3 a3 w3 r n} cz hK ZS pL=>by
  obtain ⟨R3,β3,hx3,Xu,S0,abn⟩:=pL;have key:∀ {u:JT outs},jr s1 outs e s3=some u→r=.inr u→Sn E R0 w β s (fun e s'=>Q e s'∧aG s s') e a3 w3:=fun {u} hu hru=>by
   subst hru;obtain rfl:=Option.some.inj ZS;obtain ⟨t,v',q1,q2⟩:=q9 hu;obtain ⟨j1,j2⟩:=bI.Dm hx3 k1 Xu S0 q1;exact ⟨t.st s1 v',_,_,hQ t v' _ q2,j1,k2.trans j2,k3⟩
  cases e with
  |normal=>exact absurd rfl cz
  |exit i=>obtain ⟨u,q1,q2⟩:=bind_some (show ((jr s1 outs (.exit i) s3).bind fun o=>some (.inr o))=some r from hK); exact key q1 (Option.some.inj q2).symm
  |ret=>obtain ⟨u,q1,q2⟩:=bind_some (show ((jr s1 outs .ret s3).bind fun o=>some (.inr o))=some r from hK); exact key q1 (Option.some.inj q2).symm
  |goto i=>obtain ⟨u,q1,q2⟩:=bind_some (show ((jr s1 outs (.goto i) s3).bind fun o=>some (.inr o))=some r from hK); exact key q1 (Option.some.inj q2).symm
  |panic i=>obtain ⟨u,q1,q2⟩:=bind_some (show ((jr s1 outs (.panic i) s3).bind fun o=>some (.inr o))=some r from hK); exact key q1 (Option.some.inj q2).symm
  |outgrown=>obtain ⟨u,q1,q2⟩:=bind_some (show ((jr s1 outs .outgrown s3).bind fun o=>some (.inr o))=some r from hK); exact key q1 (Option.some.inj q2).symm
 refine rX.at hf k b (hp s2 r XA) pL (fun s3 a3 w3 hK S1=>?_) (fun e s3 a3 w3 cz hK S1=>?_)
 ·obtain ⟨v,q1,q2⟩:=bind_some (show ((head.dec s1 s3).bind fun v=>some (.inl v))=some r from hK);obtain rfl:=Option.some.inj q2;have Ax:ar rd n v=some o:=ZS;cases n with
  |zero=>cases Ax
  |succ n=>
   obtain ⟨r',h1,h2⟩:=bind_some (show ((rd v).bind fun o=>Sum.elim (fun v'=>ar rd n v') (fun x=>some x) o)=some o from Ax);obtain ⟨R3,β3,hx3,Xu,S0,abn⟩:=S1;obtain ⟨j1,j2⟩:=bI.Dm hx3 k1 Xu S0 q1;refine lX.at hf k b (hr v r' h1) ⟨_,_,head.lW s1 v,j1,j2,rfl⟩ fun e s4 a4 w4 Wj JK=>?_
   cases e with
   |normal=>exact ⟨n,Nat.lt_succ_self n,s4,r',Wj,h2,JK⟩
   |exit i=>exact out (by simp) Wj h2 JK
   |ret=>exact out (by simp) Wj h2 JK
   |goto i=>exact out (by simp) Wj h2 JK
   |panic i=>exact out (by simp) Wj h2 JK
   |outgrown=>exact out (by simp) Wj h2 JK
 ·have:=out cz hK ZS S1;cases e with
  |normal=>exact absurd rfl cz
  |_=>exact this
theorem sB {C:iN} {ih:Wi} (hs:vq C ih) {X:Type} {f:FuncId} {K:Exit→St→Option X}:∀ (k:List Bool) (q:Nat) (c:Code) (s:St) (x:X),bF (C.D.dt f) c=true→L5 ih vo f K k q c s=some x→rX C.D.toEnv k c (fun e s'=>K e s'=some x) s
 |[],_,_,_,_,_,h=>h
 |true :: k,q,c,s,x,hd,h=>by
  cases c with
  |seq a b=>
   rw [bF,Bool.and_eq_true] at hd;refine (hs f _ a X vo nD _ s x hd.1 h).of fun e s' hq hx=>?_
   cases e with
   |normal=>exact ⟨sB hs k (2 * q+1) b s' x hd.2 hq,hx⟩
   |_=>exact ⟨hq,hx⟩
  |_=>cases h
 |false :: k,q,c,s,x,hd,h=>by
  cases c with
  |seq a b=>
   rw [bF,Bool.and_eq_true] at hd;exact sB hs k (2 * q) a s x hd.1 h
  |_=>cases h
theorem lX.mono {E:Env}:∀ (k:List Bool) (c:Code) {Q Q':Exit→St→Prop} {s:St},(∀ e s',Q e s'→Q' e s')→lX E k c Q s→lX E k c Q' s
 |[],c,Q,Q',s,hQ,h=>fE.mono h fun e s' hh=>⟨hQ e s' hh.1,hh.2⟩
 |true :: k,c,Q,Q',s,hQ,h=>by
  cases c with
  |seq x y=>exact lX.mono k y hQ h
  |_=>exact h.elim
 |false :: k,c,Q,Q',s,hQ,h=>by
  cases c with
  |seq x y=>
   refine lX.mono k x (Q:=vQ (kA E y Q) Q) (Q':=vQ (kA E y Q') Q') (fun e s' hq=>?_) h;cases e with
   |normal=>exact fE.mono hq fun e s' hh=>⟨hQ e s' hh.1,hh.2⟩
   |_=>exact hQ _ s' hq
  |_=>exact h.elim
theorem sC {C:iN} {ih:Wi} (hs:vq C ih) {X:Type} {f:FuncId}:∀ (k:List Bool) (q:Nat) (c:Code) (K:Exit→St→Option X) (s:St) (x:X),bF (C.D.dt f) c=true→OK ih vo f k q c K s=some x→lX C.D.toEnv k c (fun e s'=>K e s'=some x) s
 |[],_,c,K,s,x,hd,h=>hs f _ c X vo nD K s x hd h
 |true :: k,q,c,K,s,x,hd,h=>by
  cases c with
  |seq a b=>
   rw [bF,Bool.and_eq_true] at hd;exact sC hs k (2 * q+1) b K s x hd.2 h
  |_=>cases h
 |false :: k,q,c,K,s,x,hd,h=>by
  cases c with
  |seq a b=>
   rw [bF,Bool.and_eq_true] at hd;refine lX.mono k a (fun e s' hq=>?_) (sC hs k (2 * q) a _ s x hd.1 h);cases e with
   |normal=>exact hs f _ b X vo nD K s' x hd.2 hq
   |_=>exact hq
  |_=>cases h
theorem zA {C:iN} (C0:∀ g e,C.JE g=some e→aE C.D.toEnv g e) (n:Nat):vq C (ev C n):=by
 induction n using Nat.strongRecOn with
 |_ n ihn=>
 cases n with
 |zero=>intro f p c X fF _ K s x _ h; cases h
 |succ n=>
  have hs:=ihn n (Nat.lt_succ_self n);have plain:∀ (f:FuncId) (p:Nat) (c:Code) (X:Type) (fF:Option X→Option X→Option X),wi fF→∀ (K:Exit→St→Option X) (s:St) (x:X),((∃ b,c=.loop b)→C.CU f p=none) →
    bF (C.D.dt f) c=true→zt C (ev C n) f p c X fF K s=some x→kA C.D.toEnv c (fun e s'=>K e s'=some x) s:=by
   intro f p c X fF hm K s x jX hd h;have BE:=Ew C0 hs hm;have XZ:=GW hs hm;unfold zt at h;cases c with
   |skip=>exact fE.skip ⟨h,aG.refl s⟩
   |label l=>exact fE.label ⟨h,aG.refl s⟩
   |exit id=>exact fE.exit ⟨h,aG.refl s⟩
   |ret=>exact fE.ret ⟨h,aG.refl s⟩
   |seq a b=>
    rw [bF,Bool.and_eq_true] at hd;refine fE.seq ((hs f _ a X fF hm _ s x hd.1 h).of fun e s' hq hx=>?_);cases e with
    |normal=>exact (hs f _ b X fF hm _ s' x hd.2 hq).of fun e s2 kO Dp=>⟨kO,hx.trans Dp⟩
    |_=>exact ⟨hq,hx⟩
   |cond co a b=>
    rw [bF,Bool.and_eq_true] at hd;simp only at h;split at h
    ·rename_i t hb;refine fE.cond hb (fun e=>?_) (fun e=>?_)
     ·subst e; exact hs f _ a X fF hm _ s x hd.1 h
     ·subst e; exact hs f _ b X fF hm _ s x hd.2 h
    ·cases h
   |block id c=>
    refine fE.block ((hs f _ c X fF hm _ s x hd h).of fun e s' hq hx=>?_);cases e with
    |exit j7=>
     simp only [LU] at hq;refine ⟨fun e=>?_,fun e=>?_⟩
     ·subst e; rw [sY] at hq; exact ⟨hq,hx⟩
     ·rw [oE e] at hq; exact ⟨hq,hx⟩
    |_=>exact ⟨hq,hx⟩
   |scope c=>
    refine fE.scope ((hs f _ c X fF hm _ s x hd h).of fun e s' hq hx=>?_);cases e with
    |goto l=>cases hq
    |_=>exact ⟨hq,hx⟩
   |region id ops dr=>
    cases dr with
    |false=>exact fE.region (f:=f) (BL (zz BE XZ h))
    |true=>
     simp only at h;rw [bF] at hd;split at h
     ·rename_i pl hT;rw [hT] at hd;exact fE.draw (f:=f) hd (tU (kl BE XZ hm h))
     ·cases h
   |loop b=>
    have QV:=jX ⟨b,rfl⟩;refine fE.loop (fun m s'=>m≤n+1∧ev C m f p (.loop b) X fF K s'=some x∧aG s s') ?_ (m:=n+1) ⟨Nat.le_refl _,?_,aG.refl s⟩
    ·rintro m s' ⟨RS,hr,hx⟩;cases m with
     |zero=>cases hr
     |succ m=>
      have lF:zu C (ev C m) f p (.loop b) X fF K s'=some x:=hr;unfold zu at lF;rw [QV] at lF;refine (ihn m (by omega) f _ b X fF hm _ s' x hd lF).of fun e s2 hq Dp=>?_
      cases e with
      |normal=>exact ⟨m,Nat.lt_succ_self m,by omega,hq,hx.trans Dp⟩
      |_=>exact ⟨hq,hx.trans Dp⟩
    ·show zu C (ev C n) f p (.loop b) X fF K s=some x;unfold zu;rw [QV];exact h
   |rangeFunc g ps ss bd=>
    simp only at h;split at h
    ·rename_i bn;split at h
     ·rename_i hf first cap hg
      refine fE.rangeFunc (4096 * p+f) bn hg ((BE _ _ _ _ _ h).mono fun r G' hq=>?_);unfold rfQ;split at hq
      ·rename_i busy pending fn sl nn pp aa bb dd done CL;rw [CL];simp only;obtain ⟨h1,h2⟩:=aY hq;refine ⟨by cases busy <;> cases done <;> simp_all,?_⟩;have Oz:∀ (G:List GO) (m:List Nat),aG s ⟨s.ae,s.boxes,G,m,s.ro,s.n⟩:=fun _ _=>⟨⟨[],rfl⟩,⟨[],rfl⟩,rfl⟩
       split at h2
       ·rw [cP] at h2; exact ⟨h2,Oz _ _⟩
       ·rw [cP] at h2; exact fE.ret ⟨h2,Oz _ _⟩
       ·rw [cP] at h2; exact fE.exit ⟨h2,Oz _ _⟩
       ·cases h2
      ·cases hq
     ·cases h
    ·rename_i id bn;split at h
     ·rename_i bu0 p0 fn0 sl0 n0 ps0 as0 bd0 d0 dn0 abo;split at h
      ·rename_i hf first cap hg
       refine fE.GC (4096 * p+f) bn abo hg ((BE _ _ _ _ _ h).mono fun r G' hq=>?_);unfold SL;split at hq
       ·rename_i busy pending fn sl nn pp aa bb dd done CL;rw [CL];simp only;obtain ⟨h1,h2⟩:=aY hq;refine ⟨by cases busy <;> cases done <;> simp_all,?_⟩;have Oz:∀ (G:List GO) (m:List Nat),aG s ⟨s.ae,s.boxes,G,m,s.ro,s.n⟩:=fun _ _=>⟨⟨[],rfl⟩,⟨[],rfl⟩,rfl⟩
        split at h2
        ·rw [cP] at h2; exact ⟨h2,Oz _ _⟩
        ·rw [cP] at h2; exact fE.ret ⟨h2,Oz _ _⟩
        ·rw [cP] at h2; exact fE.exit ⟨h2,Oz _ _⟩
        ·cases h2
       ·cases hq
      ·cases h
     ·cases h
   |_=>cases h
  intro f p c X fF hm K s x hd h;change zu C (ev C n) f p c X fF K s=some x at h;unfold zu at h;split at h
  ·rename_i hc;exact plain f p c X fF hm K s x (fun _=>hc) hd h
  ·rename_i ct hct;split at h
   ·rename_i tV hc;generalize qB (js c []) tV=outs at h;cases Le:LW c with
    |true=>rw [Le] at h; cases h
    |false=>
    rw [Le] at h;obtain ⟨o,h1,h2⟩:=bind_some (show (zt C (ev C n) f p c (JT outs) vo (jr s outs) s).bind (fun o=>KA s outs o K)=some x from h);have hp:=plain f p c (JT outs) vo nD (jr s outs) s o (fun ⟨b,hb⟩=>by subst hb; cases Le) hd h1;refine fE.abe (s:=s) (Q':=fun e s'=>jr s outs e s'=some o) (fE.mono hp fun e s' hh=>⟨hh.2,hh.1⟩) fun e s' hq=>?_
    obtain ⟨t,v,q1,q2⟩:=q9 hq;exact ⟨t,v,q1,(q2 _ K).symm.trans h2,t.lW s v⟩
   ·rename_i gh tW tV hc;split at h
    ·rename_i b;split at h
     ·rename_i s1 hg;generalize qB (js b []) tV=outs at h;generalize qA (js b []) tW=head at h;unfold QT at h;obtain ⟨v0,h0,h⟩:=bind_some h;obtain ⟨o,hl,h⟩:=bind_some h;refine fE.XW hg h0 (fun v r hr=>hs f _ b _ vo nD _ _ r hd hr) hl fun t v e iB=>?_
      exact ⟨(iB _ K).symm.trans h,(lV hg).trans (t.lW s1 v)⟩
     ·cases h
    ·cases h
   ·rename_i k gh tW tV hc;split at h
    ·rename_i b;split at h
     ·rename_i s1 hg;generalize qB (js b []) tV=outs at h;generalize qA (js b []) tW=head at h;unfold XV at h;obtain ⟨o,hl,h⟩:=bind_some h;obtain ⟨r0,h0,hl⟩:=bind_some hl;refine fE.OL hg h0 (fun s2 r hr=>sB hs k (2 * p) b s2 r hd hr) (fun v r hr=>sC hs k (2 * p) b _ _ r hd hr) hl fun t v e iB=>?_
      exact ⟨(iB _ K).symm.trans h,(lV hg).trans (t.lW s1 v)⟩
     ·cases h
    ·cases h
   ·rename_i gh tW tV hc;split at h
    ·rename_i b;split at h
     ·rename_i s1 hg;generalize qB (js b []) tV=outs at h;generalize qA (js b []) tW=head at h;unfold LY at h;obtain ⟨v0,h0,h⟩:=bind_some h;obtain ⟨o,hl,h⟩:=bind_some h;refine fE.SX hg h0 (fun k v u hu=>hs f _ b _ vo nD _ _ u hd hu) hl fun t v e iB=>?_
      exact ⟨(iB _ K).symm.trans h,(lV hg).trans (t.lW s1 v)⟩
     ·cases h
    ·cases h
   ·rename_i gh tW hc;split at h
    ·rename_i b;split at h
     ·rename_i s1 hg;generalize qA (js b []) tW=head at h;unfold L0 at h;obtain ⟨v0,h0,hl⟩:=bind_some h;exact fE.SY hg h0 (fun k v u hu=>hs f _ b _ vo nD _ _ u hd hu) hl
     ·cases h
    ·cases h
   ·rename_i tq sz ty tW tV hc;split at h
    ·rename_i b;split at h
     ·rename_i cc s1 hg;cases cc with
      |false=>cases h
      |true=>
      generalize qB (js b []) tV=outs at h;generalize qA (js b []) tW=head at h;have h:GP C (ev C n) f p b s1 head outs tq sz ty K=some x:=h;unfold GP at h;obtain ⟨v0,h0,h⟩:=bind_some h;obtain ⟨o,hl,h⟩:=bind_some h;refine fE.H3 hg h0 (fun v r hr=>?_) hl fun t v e iB=>?_
      ·cases bn:wg (head.st s1 v) tq sz ty with
       |none=>rw [bn] at hr; cases hr
       |some s2=>
        rw [bn] at hr;exact ⟨s2,rfl,hs f _ b _ vo nD _ _ r hd hr⟩
      ·exact ⟨(iB _ K).symm.trans h,(wo hg).2.trans (t.lW s1 v)⟩
     ·cases h
    ·cases h
   ·cases h
end Go.Am
namespace Go.Am
open Go
noncomputable def iN.fn (C:iN) (n:Nat) (g:FuncId) (ps:aK) (p:aM) (x:ps.T):Option p.T:=
 BJ C (ev C n) vo g (ps.enc x) [] (fun r _=>p.dec r)
theorem iN.df {C:iN} (C0:∀ g e,C.JE g=some e→aE C.D.toEnv g e) {n:Nat} {g:FuncId} {ps:aK} {p:aM} (h1:ps.under 0=true) (h2:p.under 0=true) :
  aE C.D.toEnv g ⟨ps,p,C.fn n g ps p⟩:=fun x y h=>by
 refine bE.mono (bE.of (p:=p) (Q:=fun z=>z=y) (ps.du x h1) h2 ((mR (zA C0 n) nD g _ [] _ y h).mono fun r _ hr=>⟨y,hr,rfl⟩)) ?_;rintro r ⟨z,rfl,rfl⟩;rfl
noncomputable def iN.fnX (C:iN) (n:Nat) (g:FuncId) (ps:aK) (outs:List RF) (x:ps.T):Option (XT outs):=
 BJ C (ev C n) vo g (ps.enc x) [] (fun r G=>JA G r outs)
theorem iN.L8 {C:iN} (C0:∀ g e,C.JE g=some e→aE C.D.toEnv g e) {n:Nat} {g:FuncId} {ps:aK} {outs:List RF} (h1:ps.under 0=true) (h2:outs.all RF.under=true) :
  ∀ x y,C.fnX n g ps outs x=some y→pd C.D.toEnv g (ps.enc x) outs (fun z=>z=y):=fun x y h=>
 pd.of (ps.du x h1) (List.all_eq_true.1 h2) ((mR (zA C0 n) nD g _ [] _ y h).mono fun r G' hr=>⟨y,hr,rfl⟩)
theorem bE.env {E E':Env} {g:FuncId} {args:List AV} {Q:AV→Prop} (hP:E.P=E'.P) (hg:E.dV=E'.dV) (h:bE E g args Q) (wQ:E.lo=E'.lo:=by rfl) (X0:E.gx=E'.gx:=by rfl):bE E' g args Q:=by
 have go:∀ {R:ai} {w:World} {x:Nat} {cs:List AV},nq E R w x cs↔nq E' R w x cs:=fun {R w x cs}=>by unfold nq; rw [X0]
 have Dm:∀ {R:ai} {w:World} {G:List GO},fj E R w G↔fj E' R w G:=fun {R w G}=>
  ⟨fun h=>⟨h.len,h.obj,h.inj,h.wf,fun g cs hh=>go.1 (h.dV g cs (by rw [hg]; exact hh)),by rw [← wQ]; exact h.lo⟩,fun h=>⟨h.len,h.obj,h.inj,h.wf,fun g cs hh=>go.2 (h.dV g cs (by rw [← hg]; exact hh)),by rw [wQ]; exact h.lo⟩⟩
 intro G;obtain ⟨h1,h2⟩:=h G;rw [hP] at h1 h2;refine ⟨h1,fun R w cs hr hl=>(h2 R w cs (Dm.2 hr) hl).mono fun e w' he=>?_⟩;cases e with
 |returned c=>obtain ⟨r,G',R',k1,k2,k3,k4⟩:=he; exact ⟨r,G',R',k1,k2,Dm.1 k3,k4⟩
 |panicked c=>exact he
 |outgrown=>exact he
theorem bE.more {E E':Env} {g:FuncId} {args:List AV} {Q:AV→Prop} (hP:E.P=E'.P) (hg:∀ g cs,E.dV g=some cs→E'.dV g=some cs) (h:bE E g args Q) (wQ:E.lo=E'.lo:=by rfl) (X0:E.gx=fun _=>false:=by rfl):bE E' g args Q:=by
 intro G;obtain ⟨h1,h2⟩:=h G;rw [hP] at h1 h2;refine ⟨h1,fun R w cs hr hl=>(h2 R w cs ⟨hr.len,hr.obj,hr.inj,hr.wf,fun g cs hh=>⟨(hr.dV g cs (hg g cs hh)).1,fun hx=>by rw [X0] at hx; cases hx⟩,by rw [wQ]; exact hr.lo⟩ hl).mono fun e w' he=>?_⟩;cases e with
 |returned c=>
  obtain ⟨r,G',R',k1,k2,k3,k4⟩:=he;exact ⟨r,G',R',k1,k2,⟨k3.len,k3.obj,k3.inj,k3.wf,fun g cs hh=>(hr.dV g cs hh).mono k4.ext,by rw [← wQ]; exact k3.lo⟩,k4⟩
 |panicked c=>exact he
 |outgrown=>exact he
def AR:List (Nat × bf)→FuncId→Option bf
 |[],_=>none
 |(a,e) :: l,g=>bif Nat.beq a g then some e else AR l g
theorem fP {E:Env}:∀ {l:List (Nat × bf)},(∀ a e,(a,e)∈l→aE E a e)→∀ g e,AR l g=some e→aE E g e
 |[],_,g,e,h=>by cases h
 |(a,x) :: l,hl,g,e,h=>by
  unfold AR at h;cases hb:Nat.beq a g with
  |true=>
   rw [hb] at h;cases h;rw [← Nat.eq_of_beq_eq_true hb];exact hl a _ (by simp)
  |false=>
   rw [hb] at h;exact fP (fun a e hm=>hl a e (by simp [hm])) g e h
theorem C1 {E:Env}:∀ g e,AR [] g=some e→aE E g e:=fun _ _ h=>by cases h
theorem kE {E:Env} {a:Nat} {x:bf} {l:List (Nat × bf)} (hx:aE E a x) (hl:∀ g e,AR l g=some e→aE E g e):∀ g e,AR ((a,x) :: l) g=some e→aE E g e:=fun g e h=>by
 unfold AR at h;cases hb:Nat.beq a g with
 |true=>
  rw [hb] at h;cases h;rw [← Nat.eq_of_beq_eq_true hb];exact hx
 |false=>
  rw [hb] at h;exact hl g e h
def QW:List (Nat × cC)→Nat→Option cC
 |[],_=>none
 |(a,c) :: l,p=>bif Nat.beq a p then some c else QW l p
def QX:List (Nat × List (Nat × cC))→FuncId→Nat→Option cC
 |[],_,_=>none
 |(a,c) :: l,g,p=>bif Nat.beq a g then QW c p else QX l g p
def H5:Option Unit→Option Unit→Option Unit
 |some _,some _=>some ()
 |_,_=>none
theorem GX:wi H5:=fun a b x h=>by
 cases a <;> cases b <;> first | (cases h; done) | exact ⟨rfl,rfl⟩
theorem cE {C:iN} (C0:∀ g e,C.JE g=some e→aE C.D.toEnv g e) {n:Nat} {g:FuncId} {args:List AV} {p:aM} {ok:p.T→Bool} (h1:aI 0 args=true) (h2:p.under 0=true)
  (h:BJ C (ev C n) H5 g args [] (fun r _=>bif p.fits r&&ok (p.bp r) then some () else none)=some ()):bE C.D.toEnv g args (fun r=>∃ y,r=p.enc y∧ok y=true):=
 bE.of (p:=p) (Q:=fun y=>ok y=true) h1 h2 ((mR (zA C0 n) GX g args [] _ () h).mono fun r _ hr=>by
  obtain ⟨k,_⟩:=aY hr;rw [Bool.and_eq_true] at k;exact ⟨p.bp r,by simp [aM.dec,k.1],k.2⟩)
end Go.Am
namespace Go.Am
open Go
def sD (w:World):ai:=⟨fun b _=>b < w.heap.size,[]⟩
mutual
def aM.wf:(p:aM)→p.T→Prop
 |.int k,(n:Int)=>k.min≤n∧n≤k.max
 |.bool,_=>True
 |.str,(s:List UInt8)=>s.length≤maxLen
 |.agg ps,x=>ps.wf x
 |.bD ps,x=>ps.wf x
 |.list _ p,(xs:List p.T)=>xs.length≤maxLen∧∀ x∈xs,p.wf x
 |.own _ _ p,(xs:List p.T)=>xs.length≤maxLen∧∀ x∈xs,p.wf x
 |.bc _ _ p,(x:Nat × List p.T)=>x.2.length≤maxLen∧∀ y∈x.2,p.wf y
 |.j6 _,_=>True
 |.two _ _,_=>True
def aK.wf:(ps:aK)→ps.T→Prop
 |.nil,_=>True
 |.cons p .nil,x=>p.wf x
 |.cons p (.cons q ps),x=>p.wf x.1∧(aK.cons q ps).wf x.2
end
def lY:List aM→aK
 |[]=>.nil
 |p :: l=>.cons p (lY l)
def JL {β:Type} (g:β→Option (List aM)):List β→Option (List aM)
 |[]=>some []
 |x :: l=>match g x,JL g l with
  |some a,some b=>some (a++b)
  |_,_=>none
def tX {β:Type} (off len:β→Nat):Nat→List β→Option Nat
 |o,[]=>some o
 |o,x :: l=>bif Nat.beq (off x) o then tX off len (o+len x) l else none
def isSome (n:Nat):Option Nat→Bool
 |some m=>Nat.beq m n
 |none=>false
def tY (ag:Bool) (ps:List aM):Option aM:=match ag,ps with
 |true,ps=>some (.agg (lY ps))
 |false,[p]=>some p
 |_,_=>none
def JM (P:Program):Nat→TypeId→Option (List aM)
 |0,_=>none
 |n+1,t=>match P.underlying t with
  |some .bool=>some [.bool]
  |some (.int k)=>some [.int k]
  |some .string=>some [.str]
  |some (.slice e)=>match JM P n e,P.underlying e with
   |some ps,some u=>match tY (Go.Am.kp u) ps with
    |some pe=>bif Nat.blt 0 (P.cellsOf e) then some [.list (P.cellsOf e) pe] else none
    |none=>none
   |_,_=>none
  |some (.struct fs)=>bif isSome (P.cellsOf t) (tX Field.offset (fun f=>P.cellsOf f.type) 0 fs.toList) then JL (fun f=>JM P n f.type) fs.toList else none
  |some (.array m e)=>bif isSome (P.cellsOf t) (tX (fun i=>i * P.cellsOf e) (fun _=>P.cellsOf e) 0 (List.range m)) then JL (fun _=>JM P n e) (List.range m) else none
  |_=>none
def abq (a:AV):Prop:=a.aS=true∧a.cells=[a]∧a.closed=true
def sE:List aM→List AV→Prop
 |[],[]=>True
 |p :: ps,a :: mS=>p.fits a=true∧(p.wf (p.bp a)∧abq a)∧sE ps mS
 |_,_=>False
theorem sE.append:∀ {ps qs:List aM} {mS bs:List AV},sE ps mS→sE qs bs→sE (ps++qs) (mS++bs)
 |[],_,[],_,_,h=>h
 |_ :: _,_,_ :: _,_,k,h=>⟨k.1,k.2.1,sE.append k.2.2 h⟩
 |[],_,_ :: _,_,h,_=>h.elim
 |_ :: _,_,[],_,h,_=>h.elim
theorem sE.mk:∀ {ps:List aM} {mS:List AV},sE ps mS→(lY ps).fits mS=true∧(lY ps).wf ((lY ps).bp mS)
 |[],[],_=>⟨rfl,trivial⟩
 |[p],[a],h=>⟨by
   change (p.fits a&&(List.isEmpty ([]:List AV)))=true;rw [h.1];rfl,h.2.1.1⟩
 |p :: q :: ps,a :: mS,h=>by
  obtain ⟨h1,h2⟩:=sE.mk (ps:=q :: ps) h.2.2;refine ⟨?_,h.2.1.1,h2⟩;change (p.fits a&&(lY (q :: ps)).fits mS)=true;rw [h.1,h1];rfl
 |[],_ :: _,h=>h.elim
 |_ :: _,[],h=>h.elim
 |[_],_ :: _ :: _,h=>h.2.2.elim
theorem Ey {ag:Bool} {ps:List aM} {pe:aM} (h:tY ag ps=some pe) {mS:List AV} (hf:sE ps mS) :
  ∃ e,(if ag then e=.agg mS else mS=[e])∧pe.fits e=true∧pe.wf (pe.bp e):=by
 unfold tY at h;split at h
 ·cases h;obtain ⟨h1,h2⟩:=hf.mk;exact ⟨.agg mS,rfl,h1,h2⟩
 ·rename_i p;cases h
  match mS,hf with
  |[a],hf=>exact ⟨a,rfl,hf.1,hf.2.1.1⟩
  |[],hf=>exact hf.elim
  |_ :: _ :: _,hf=>exact hf.2.2.elim
 ·cases h
theorem H6:∀ {ps:List aM} {mS:List AV},sE ps mS→∀ a∈mS,a.aS=true∧a.cells=[a]∧a.closed=true
 |[],[],_,a,ha=>by simp at ha
 |_ :: _,b :: mS,hf,a,ha=>by
  rcases List.mem_cons.1 ha with rfl|ha
  ·exact hf.2.1.2
  ·exact H6 hf.2.2 a ha
 |[],_ :: _,h,_,_=>h.elim
 |_ :: _,[],h,_,_=>h.elim
theorem H7 {pe:aM}:∀ {es:List AV},(∀ x∈es,pe.fits x=true∧pe.wf (pe.bp x))→allFit pe.fits es=true∧∀ x∈es.map pe.bp,pe.wf x
 |[],_=>⟨rfl,by simp⟩
 |a :: es,h=>by
  obtain ⟨h1,h2⟩:=H7 (es:=es) fun x hx=>h x (by simp [hx])
  refine ⟨by simp only [allFit,Bool.and_eq_true]; exact ⟨(h a (by simp)).1,h1⟩,fun x hx=>?_⟩;rcases List.mem_cons.1 hx with rfl|hx
  ·exact (h a (by simp)).2
  ·exact h2 x hx
section read
variable {H:Type} {enc:TypeId × Value→H} {P:Program} {w:World} {R:ai} {base:Nat} {spare:Nat→Bool} {held:Bool}
theorem lZ {α β:Type} {f:α→Option β} {x:α} {l:List α} {r:List β} (h:(x :: l).mapM f=some r):∃ y ys,f x=some y∧l.mapM f=some ys∧r=y :: ys:=by
 rw [List.mapM_cons] at h;cases hx:f x with
 |none=>rw [hx] at h; cases h
 |some y=>
  rw [hx] at h;cases hl:l.mapM f with
  |none=>rw [hl] at h; cases h
  |some ys=>rw [hl] at h; cases h; exact ⟨y,ys,rfl,rfl,rfl⟩
theorem zB {β:Type} {off len:β→Nat} {g:β→Option (List aM)} {cs:List Value} {f:β→Option (DataW H × List MemPlace)}
  (hf:∀ x ps y,g x=some ps→f x=some y→∃ mS,aL R w mS ((cs.drop (off x)).take (len x))∧sE ps mS∧∀ v∈(cs.drop (off x)).take (len x),v.oneCell'=true) :
  ∀ {L:List β} {o m:Nat} {ps:List aM} {ys:List (DataW H × List MemPlace)},tX off len o L=some m→JL g L=some ps→L.mapM f=some ys →
   o≤m∧∃ mS,aL R w mS ((cs.drop o).take (m - o))∧sE ps mS∧∀ v∈(cs.drop o).take (m - o),v.oneCell'=true
 |[],o,m,ps,ys,ht,hp,_=>by
  simp only [tX] at ht;simp only [JL] at hp;cases ht; cases hp;exact ⟨Nat.le_refl _,[],by simpa using aL.nil,trivial,by simp⟩
 |x :: L,o,m,ps,ys,ht,hp,hm=>by
  unfold tX at ht;cases hb:Nat.beq (off x) o with
  |false=>rw [hb] at ht; cases ht
  |true=>
   rw [hb] at ht;have hb:=Nat.eq_of_beq_eq_true hb;unfold JL at hp;split at hp
   ·rename_i pa pb h1 h2;cases hp;obtain ⟨y,IR,k1,k2,rfl⟩:=lZ hm;obtain ⟨mS,q1,q2,q3⟩:=hf x pa y h1 k1;obtain ⟨hle,bs,r1,r2,r3⟩:=zB hf (show tX off len (o+len x) L=some m from ht) h2 k2;have e:(cs.drop o).take (m - o)=(cs.drop (off x)).take (len x)++(cs.drop (o+len x)).take (m - (o+len x)):=by
     rw [hb,show m - o=len x+(m - (o+len x)) by omega,List.take_add,List.drop_drop]
    rw [e];refine ⟨by omega,mS++bs,q1.append r1,q2.append r2,fun v hv=>?_⟩;rcases List.mem_append.1 hv with hv|hv
    ·exact q3 v hv
    ·exact r3 v hv
   ·cases hp
theorem nW {α β:Type} {f:α→Option β}:∀ {l:List α} {r:List β},l.mapM f=some r→∀ (i:Nat) (x:α),l[i]?=some x→∃ y,r[i]?=some y∧f x=some y
 |[],r,_,i,x,hx=>by simp at hx
 |a :: l,r,h,i,x,hx=>by
  obtain ⟨y,ys,h1,h2,rfl⟩:=lZ h;cases i with
  |zero=>simp at hx; subst hx; exact ⟨y,by simp,h1⟩
  |succ i=>obtain ⟨z,h3,h4⟩:=nW h2 i x (by simpa using hx); exact ⟨z,by simpa using h3,h4⟩
theorem mapM_length {α β:Type} {f:α→Option β}:∀ {l:List α} {r:List β},l.mapM f=some r→r.length=l.length
 |[],r,h=>by simp at h; subst h; rfl
 |a :: l,r,h=>by
  obtain ⟨y,ys,h1,h2,rfl⟩:=lZ h;simp [mapM_length h2]
theorem OM {a:Addr} {v:Value} (h:w.cell? a=some v):a.block < w.heap.size:=by
 unfold World.cell? at h;split at h
 ·rename_i hb; exact bt hb
 ·cases h
theorem BM {e:TypeId} {ps:List aM} {pe:aM} {ag:Bool} {tZ:Nat} (hp:∀ (cs:List Value) (y:DataW H × List MemPlace),DataW.trod enc P w base spare held tZ e cs=some y→∃ mS,aL (sD w) w mS cs∧sE ps mS∧∀ v∈cs,v.oneCell'=true) (he:tY ag ps=some pe) {b off len:Nat} {r:List (DataW H × List MemPlace)}
  (h:(List.range len).mapM (fun i=>(w.cells? base ((⟨b,off,none⟩:Addr).add (i * P.cellsOf e)) (P.cellsOf e)).bind (DataW.trod enc P w base spare held tZ e))=some r) :
  ∀ (m i:Nat),i+m=len→∃ es,iA (sD w) w b (off+i * P.cellsOf e) (P.cellsOf e) es∧es.length=m∧∀ x∈es,pe.fits x=true∧pe.wf (pe.bp x)
 |0,i,_=>⟨[],.nil,rfl,by simp⟩
 |m+1,i,hi=>by
  obtain ⟨es,h1,h2,h3⟩:=BM hp he h m (i+1) (by omega);obtain ⟨y,_,hy⟩:=nW h i i (by rw [List.getElem?_range (by omega)]);obtain ⟨cs,hc,hy⟩:=bind_some hy;obtain ⟨mS,q1,q2,q3⟩:=hp _ _ hy;obtain ⟨x,hx,f1,f2⟩:=Ey he q2;have nr:w.cells? base ((⟨b,off,none⟩:Addr).add (i * P.cellsOf e)) (P.cellsOf e)=some cs:=hc;unfold World.cells? at nr;split at nr
  ·have hlen:=mapM_length nr;rw [List.length_range] at hlen;have jX:x.cells=mS∧x.aS=true∧x.closed=true:=by
    have tL:=H6 q2;cases ag with
    |true=>
     simp only [if_true] at hx;subst hx;refine ⟨rfl,rfl,?_⟩;show aF mS=true;clear h1 h2 h3 q1 q2 f1 f2
     induction mS with
     |nil=>rfl
     |cons a mS ih=>simp only [aF,Bool.and_eq_true]; exact ⟨(tL a (by simp)).2.2,ih (fun z hz=>tL z (by simp [hz]))⟩
    |false=>
     simp only [Bool.false_eq_true,if_false] at hx;subst hx;obtain ⟨k1,k2,k3⟩:=tL x (by simp);exact ⟨k2,k1,k3⟩
   have kP:∀ j v,cs[j]?=some v→w.cell? ⟨b,off+i * P.cellsOf e+j,none⟩=some v:=fun j v hv=>by
    have hj:j < P.cellsOf e:=by have:=(List.getElem?_eq_some_iff.1 hv).1; omega
    obtain ⟨v',k1,k2⟩:=nW nr j j (by rw [List.getElem?_range hj]);rw [hv] at k1;cases k1;rw [cr,cr] at k2;exact k2
   refine ⟨x :: es,.cons ?_ jX.2.1 jX.2.2 ?_ ?_,by simp [h2],fun z hz=>?_⟩
   ·rw [jX.1,q1.length,hlen]
   ·rw [jX.1];refine fg.make q1 q3 kP (fun j hj=>?_);have RV:j < cs.length:=by rw [← q1.length]; exact hj
    exact OM (kP j cs[j] (List.getElem?_eq_getElem RV))
   ·rw [show off+i * P.cellsOf e+P.cellsOf e=off+(i+1) * P.cellsOf e by rw [Nat.add_mul]; omega];exact h1
   ·rcases List.mem_cons.1 hz with rfl|hz
    ·exact ⟨f1,f2⟩
    ·exact h3 z hz
  ·cases nr
theorem ua (Dk:∀ b,spare b=true):∀ (n:Nat) {t:TypeId} {ps:List aM},JM P n t=some ps→∀ {tZ:Nat} {cs:List Value} {y:DataW H × List MemPlace},DataW.trod enc P w base spare held tZ t cs=some y →
  ∃ mS,aL (sD w) w mS cs∧sE ps mS∧∀ v∈cs,v.oneCell'=true
 |0,_,_,h,_,_,_,_=>by cases h
 |n+1,t,ps,h,0,_,_,hy=>by cases hy
 |n+1,t,ps,h,tZ+1,cs,y,hy=>by
  unfold JM at h;unfold DataW.trod at hy;split at h
  ·rename_i hu;cases h;rw [hu] at hy;cases cs with
   |nil=>cases hy
   |cons v l=>
    cases l with
    |cons v2 l=>(cases v <;> first | (cases hy; done) | (rename_i a; cases a <;> cases hy; done) | (rename_i a b; cases a <;> cases hy; done) | (rename_i a b c; cases a <;> first | (cases hy; done) | (cases b <;> first | (cases hy; done) | (cases c <;> cases hy))))
    |nil=>
     cases v with
     |bool b=>exact ⟨[.bool b],.one (.bool b),⟨rfl,⟨trivial,rfl,rfl,rfl⟩,trivial⟩,by simp [Value.oneCell']⟩
     |pointer a=>cases a <;> cases hy
     |slice a b c=>cases a <;> first | (cases hy; done) | (cases b <;> first | (cases hy; done) | (cases c <;> cases hy))
     |map a=>cases a <;> cases hy
     |chan a=>cases a <;> cases hy
     |_=>cases hy
  ·rename_i k hu;cases h;rw [hu] at hy;cases cs with
   |nil=>cases hy
   |cons v l=>
    cases l with
    |cons v2 l=>(cases v <;> first | (cases hy; done) | (rename_i a; cases a <;> cases hy; done) | (rename_i a b; cases a <;> cases hy; done) | (rename_i a b c; cases a <;> first | (cases hy; done) | (cases b <;> first | (cases hy; done) | (cases c <;> cases hy))))
    |nil=>
     cases v with
     |int k' i=>
      have hy:(if k'=k∧(Lit.int k i).wf=true then some (.lit (.int k i),[]) else none)=some y:=hy;split at hy
      ·rename_i hc;obtain ⟨rfl,hw⟩:=hc;exact ⟨[.int k' i],.one (.int k' i),⟨decide_eq_true rfl,⟨by have h:=hw; simp [Lit.wf] at h; exact h,rfl,rfl,rfl⟩,trivial⟩,by simp [Value.oneCell']⟩
      ·cases hy
     |pointer a=>cases a <;> cases hy
     |slice a b c=>cases a <;> first | (cases hy; done) | (cases b <;> first | (cases hy; done) | (cases c <;> cases hy))
     |map a=>cases a <;> cases hy
     |chan a=>cases a <;> cases hy
     |_=>cases hy
  ·rename_i hu;cases h;rw [hu] at hy;cases cs with
   |nil=>cases hy
   |cons v l=>
    cases l with
    |cons v2 l=>(cases v <;> first | (cases hy; done) | (rename_i a; cases a <;> cases hy; done) | (rename_i a b; cases a <;> cases hy; done) | (rename_i a b c; cases a <;> first | (cases hy; done) | (cases b <;> first | (cases hy; done) | (cases c <;> cases hy))))
    |nil=>
     cases v with
     |string s=>
      have hy:(if s.size≤maxLen then some (.lit (.string s.data.toList),[]) else none)=some y:=hy;split at hy
      ·rename_i hc;exact ⟨[.str s.data.toList],.one (.str s.data.toList),⟨rfl,⟨by simpa [aM.wf,aM.bp,AV.RD] using hc,rfl,rfl,rfl⟩,trivial⟩,by simp [Value.oneCell']⟩
      ·cases hy
     |pointer a=>cases a <;> cases hy
     |slice a b c=>cases a <;> first | (cases hy; done) | (cases b <;> first | (cases hy; done) | (cases c <;> cases hy))
     |map a=>cases a <;> cases hy
     |chan a=>cases a <;> cases hy
     |_=>cases hy
  ·rename_i e hu;rw [hu] at hy;split at h
   ·rename_i XG u h1 h2;split at h
    ·rename_i pe h3;obtain ⟨hz,h⟩:=aY h;cases h;have hz:=Nat.le_of_ble_eq_true hz;cases cs with
     |nil=>cases hy
     |cons v l=>
      cases l with
      |cons v2 l=>(cases v <;> first | (cases hy; done) | (rename_i a; cases a <;> cases hy; done) | (rename_i a b; cases a <;> cases hy; done) | (rename_i a b c; cases a <;> first | (cases hy; done) | (cases b <;> first | (cases hy; done) | (cases c <;> cases hy))))
      |nil=>
       cases v with
       |slice a len cap=>
        cases a with
        |none=>
         have hz:len=0∧cap=0:=by
          cases len with
          |zero=>cases cap with
           |zero=>exact ⟨rfl,rfl⟩
           |succ _=>cases hy
          |succ _=>cases hy
         obtain ⟨rfl,rfl⟩:=hz;exact ⟨[.list .ea (P.cellsOf e) []],.one .jl,⟨by simp [aM.fits,allFit],⟨⟨Nat.zero_le _,fun x hx=>by change x∈([]:List pe.T) at hx; cases hx⟩,rfl,rfl,rfl⟩,trivial⟩,by simp [Value.oneCell']⟩
        |some a=>
         have hy:(if base≤a.block∧len≤cap∧cap≤maxLen then
          ((List.range len).mapM (fun i=>(w.cells? base (a.add (i * P.cellsOf e)) (P.cellsOf e)).bind (DataW.trod enc P w base spare held tZ e))).bind fun H8=>
           (if spare a.block then (List.range (cap - len)).mapM (fun j=>(w.cells? base (a.add ((len+j) * P.cellsOf e)) (P.cellsOf e)).bind (DataW.trod enc P w base spare held tZ e)) else some []).map fun rest=>
            (DataW.slice (H8.map (·.1)) (rest.map (·.1)),MemPlace.row a ((H8.length+rest.length) * P.cellsOf e)++(H8++rest).flatMap (·.2))
          else none)=some y:=hy
         split at hy
         ·rename_i hc;obtain ⟨H8,k1,hy⟩:=bind_some hy;rw [if_pos (Dk _)] at hy;by_cases gC:cap=0
          ·subst gC;have wI:len=0:=Nat.le_zero.1 hc.2.1;subst wI;exact ⟨[.list .ea (P.cellsOf e) []],.one .nj,⟨by simp [aM.fits,allFit],⟨⟨Nat.zero_le _,fun x hx=>by change x∈([]:List pe.T) at hx; cases hx⟩,rfl,rfl,rfl⟩,trivial⟩,by simp [Value.oneCell']⟩
          ·have L9:a.spot=none:=by
            have SG:∃ y,(w.cells? base (a.add (0 * P.cellsOf e)) (P.cellsOf e)).bind (DataW.trod enc P w base spare held tZ e)=some y:=by
             by_cases wI:len=0
             ·subst wI;cases hr:(List.range (cap - 0)).mapM (fun j=>(w.cells? base (a.add ((0+j) * P.cellsOf e)) (P.cellsOf e)).bind (DataW.trod enc P w base spare held tZ e)) with
              |none=>rw [hr] at hy; cases hy
              |some r=>
               obtain ⟨z,_,hz⟩:=nW hr 0 0 (by rw [List.getElem?_range (by omega)]);exact ⟨z,hz⟩
             ·obtain ⟨z,_,hz⟩:=nW k1 0 0 (by rw [List.getElem?_range (by omega)]);exact ⟨z,hz⟩
            obtain ⟨z,S2⟩:=SG;obtain ⟨cs,tc,_⟩:=bind_some S2;unfold World.cells? at tc;split at tc
            ·obtain ⟨v,_,hv⟩:=nW tc 0 0 (by rw [List.getElem?_range (by omega)]);rw [Nat.zero_mul] at hv;unfold World.cell? at hv;split at hv
             ·split at hv
              ·cases hv
              ·rename_i hs;simpa [Addr.add] using hs
             ·cases hv
            ·cases tc
           obtain ⟨b,off,spot⟩:=a;have L9:spot=none:=L9;subst L9;obtain ⟨es,q1,q2,q3⟩:=BM (fun cs y hy=>ua Dk n h1 hy) h3 k1 len 0 (by omega);rw [Nat.zero_mul,Nat.add_zero] at q1;obtain ⟨f1,f2⟩:=H7 q3;refine ⟨[.list .ea (P.cellsOf e) es],.one (.list q1 q2.symm hc.2.1 trivial),⟨?_,⟨⟨?_,f2⟩,rfl,rfl,rfl⟩,trivial⟩,by simp [Value.oneCell']⟩
           ·simp only [aM.fits,Bool.and_eq_true,Bool.or_eq_true];exact ⟨.inl (Nat.beq_refl _),f1⟩
           ·have:es.length≤maxLen:=by rw [q2]; omega
            show (es.map pe.bp).length≤maxLen;rw [List.length_map];exact this
         ·cases hy
       |pointer a=>cases a <;> cases hy
       |map a=>cases a <;> cases hy
       |chan a=>cases a <;> cases hy
       |_=>cases hy
    ·cases h
   ·cases h
  ·rename_i fs hu;rw [hu] at hy;have hy:(if cs.length=P.cellsOf t then (fs.toList.mapM fun f=>DataW.trod enc P w base spare held tZ f.type ((cs.drop f.offset).take (P.cellsOf f.type))).map fun xs=>(.agg (xs.map (·.1)),xs.flatMap (·.2)) else none)=some y:=hy;split at hy
   ·rename_i hl;obtain ⟨h1,h2⟩:=aY h;cases hm:fs.toList.mapM fun f=>DataW.trod enc P w base spare held tZ f.type ((cs.drop f.offset).take (P.cellsOf f.type)) with
    |none=>rw [hm] at hy; cases hy
    |some ys=>
     cases ht:tX Field.offset (fun f=>P.cellsOf f.type) 0 fs.toList with
     |none=>rw [ht] at h1; cases h1
     |some m=>
      rw [ht] at h1;have h1:=Nat.eq_of_beq_eq_true (show Nat.beq m (P.cellsOf t)=true from h1);obtain ⟨_,mS,q1,q2,q3⟩:=zB (R:=sD w) (w:=w) (off:=Field.offset) (len:=fun f=>P.cellsOf f.type) (cs:=cs) (fun x ps y hx hy'=>ua Dk n hx hy') ht h2 hm;rw [h1,← hl] at q1 q3;simp only [List.drop_zero,Nat.sub_zero,List.take_length] at q1 q3;exact ⟨mS,q1,q2,q3⟩
   ·cases hy
  ·rename_i m e hu;rw [hu] at hy;have hy:(if cs.length=P.cellsOf t then ((List.range m).mapM fun i=>DataW.trod enc P w base spare held tZ e ((cs.drop (i * P.cellsOf e)).take (P.cellsOf e))).map fun xs=>(.agg (xs.map (·.1)),xs.flatMap (·.2)) else none)=some y:=hy;split at hy
   ·rename_i hl;obtain ⟨h1,h2⟩:=aY h;cases hm:(List.range m).mapM fun i=>DataW.trod enc P w base spare held tZ e ((cs.drop (i * P.cellsOf e)).take (P.cellsOf e)) with
    |none=>rw [hm] at hy; cases hy
    |some ys=>
     cases ht:tX (fun i=>i * P.cellsOf e) (fun _=>P.cellsOf e) 0 (List.range m) with
     |none=>rw [ht] at h1; cases h1
     |some k=>
      rw [ht] at h1;have h1:=Nat.eq_of_beq_eq_true (show Nat.beq k (P.cellsOf t)=true from h1);obtain ⟨_,mS,q1,q2,q3⟩:=zB (R:=sD w) (w:=w) (off:=fun i=>i * P.cellsOf e) (len:=fun _=>P.cellsOf e) (cs:=cs) (fun x ps y hx hy'=>ua Dk n hx hy') ht h2 hm;rw [h1,← hl] at q1 q3;simp only [List.drop_zero,Nat.sub_zero,List.take_length] at q1 q3;exact ⟨mS,q1,q2,q3⟩
   ·cases hy
  ·cases h
def S3 (P:Program) (n:Nat) (t:TypeId):Option aM:=match P.underlying t with
 |some u=>match JM P n t with
  |some ps=>tY (Go.Am.kp u) ps
  |none=>none
 |none=>none
theorem ON (Dk:∀ b,spare b=true) {n:Nat} {t:TypeId} {p:aM} (hp:S3 P n t=some p) {v:Value} {d:DataW H} {pl:List MemPlace} {r:Reach} {base':Nat} (ht:DataW.Trod enc P w base spare held t v d pl) (fa:Value.okWide P w r base' t v) :
  ∃ x:p.T,Rel (sD w) w (p.enc x) v∧p.wf x:=by
 obtain ⟨tZ,ht⟩:=ht;have fin:∀ {a:AV},p.fits a=true→p.wf (p.bp a)→Rel (sD w) w a v→∃ x:p.T,Rel (sD w) w (p.enc x) v∧p.wf x:=fun {a} h1 h2 h3=>⟨p.bp a,(p.cV h1).iy _ _ _ h3,h2⟩
 unfold S3 at hp;split at hp
 ·rename_i u hu;split at hp
  ·rename_i ps h1;obtain ⟨mS,q1,q2,q3⟩:=ua Dk n h1 ht;obtain ⟨x,hx,f1,f2⟩:=Ey hp q2;cases Cf:Go.Am.kp u with
   |true=>
    rw [Cf] at hx;simp only [if_true] at hx;subst hx;have:∃ cs,v=.agg cs:=by
     unfold Value.okWide at fa;rw [hu] at fa;cases u <;> first | (cases Cf; done) | (obtain ⟨cs,h,_⟩:=fa; exact ⟨cs,h⟩)
    obtain ⟨⟨cs⟩,rfl⟩:=this;exact fin f1 f2 (.agg q1 q3)
   |false=>
    rw [Cf] at hx;simp only [Bool.false_eq_true,if_false] at hx;subst hx;have hv:v.cells.toList=[v]:=by
     cases v with
     |agg cs=>
      exfalso;unfold Value.okWide at fa;rw [hu] at fa;cases u <;> first | (cases Cf; done) | (simp [Cell.okWide,Cell.ok,hu] at fa)
     |_=>rfl
    rw [hv] at q1;cases q1 with
    |cons q1 _=>exact fin f1 f2 q1
  ·cases hp
 ·cases hp
def Ez (P:Program) (n:Nat):List TypeId→Option (List aM)
 |[]=>some []
 |t :: l=>match S3 P n t,Ez P n l with
  |some p,some r=>some (p :: r)
  |_,_=>none
theorem EA (Dk:∀ b,spare b=true) {n:Nat} {r:Reach} {base':Nat}:∀ {ts:List TypeId} {ps:List aM} {vs:List Value} {ds:List (DataW H)} {pl:List MemPlace},Ez P n ts=some ps→DataW.TrodAll enc P w base spare held ts vs ds pl →
  (∀ (j:Nat) t v,ts[j]?=some t→vs[j]?=some v→Value.okWide P w r base' t v)→∃ x:(lY ps).T,aL (sD w) w ((lY ps).enc x) vs∧(lY ps).wf x
 |[],ps,vs,ds,pl,hp,ht,_=>by
  simp only [Ez] at hp;cases hp;cases vs with
  |nil=>exact ⟨(),.nil,trivial⟩
  |cons _ _=>cases ds <;> exact ht.elim
 |t :: ts,ps,vs,ds,pl,hp,ht,fa=>by
  unfold Ez at hp;split at hp
  ·rename_i p r h1 h2;cases hp;cases vs with
   |nil=>cases ds <;> exact ht.elim
   |cons v vs=>
    cases ds with
    |nil=>exact ht.elim
    |cons d ds=>
     obtain ⟨p1,p2,k1,k2,_⟩:=ht;obtain ⟨x,q1,q2⟩:=ON Dk h1 k1 (fa 0 t v rfl rfl);obtain ⟨y,q3,q4⟩:=EA Dk h2 k2 (fun j t v hj hv=>fa (j+1) t v (by simpa using hj) (by simpa using hv));cases r with
     |nil=>
      cases q3;exact ⟨x,.one q1,q2⟩
     |cons p' r=>exact ⟨(x,y),.cons q1 q3,q2,q4⟩
  ·cases hp
end read
end Go.Am
namespace Go.Am
open Go Go.RowKit Go.WideShapes Go.ChangeShapes
section
variable {H:Type} {enc:TypeId × Value→H} {P:Program}
theorem GY {f:Func} {s:ChangeSpec} {apart fresh handsOn again:Bool} {W W':World} {args:Array Value} {v:Value} {ds gs:List (DataW H)} {before pa pv:List MemPlace}
  (hW:DataW.Whole enc P f.params.toList s.vars apart W args.toList ds gs before)
  (Cx:∀ (b:Nat) (sp:Nat→Bool) (hd:Bool),DataW.TrodAll enc P W' b sp hd f.resultTypes.toList (v.resultList f.resultTypes.size) (s.fn H (ds++gs)).results [])
  (rN:∀ sp:Nat→Bool,(∀ p∈before,sp p.block=true)→DataW.TrodAll enc P W' 0 sp true f.params.toList args.toList (s.fn H (ds++gs)).args pa)
  (EB:∀ sp:Nat→Bool,(∀ p∈before,sp p.block=true)→DataW.TrodVars enc P W' sp s.vars (s.fn H (ds++gs)).vars pv)
  (Ku:before=pa++pv) (hb:Below W.heap.size W W')
  (fa:∀ (j:Nat) (t:TypeId) (r:Value),f.resultTypes[j]?=some t→(v.resultList f.resultTypes.size)[j]?=some r→Value.okWide P W' .any 0 t r) :
  s.post enc P f apart fresh handsOn again W args v W':=by
 have bO:∀ p∈before,p.block < W.heap.size:=fun p hp=>hW.lt p hp
 have hold:∀ p∈before,(fun b=>decide (b < W.heap.size)) p.block=true:=fun p hp=>by simpa using bO p hp
 refine ⟨ds,gs,before,[],pa,pv,hW,Cx _ _ _,rN _ hold,EB _ hold,World.keptBut_mono (fun p hp=>⟨hp,?_⟩) (hb.frame (·∈before)),fun _=>?_⟩
 ·rw [Ku,List.mem_append] at hp;exact Or.inr hp
 ·obtain ⟨_,_,_,_,_,hz,hn⟩:=hW;refine ⟨fa,_,_,([]++pa)++pv,⟨[]++pa,pv,trodAll_append (rN _ (fun _ _=>rfl)) (Cx _ _ _),EB _ (fun _ _=>rfl),rfl,?_,?_⟩,?_⟩
  ·intro b off hp;have Dj:MemPlace.cell b off∈before:=by rw [Ku]; simpa using hp
   rw [hb.frozen (bO _ Dj)];exact hz b off Dj
  ·intro ha;have:=hn ha;rw [Ku] at this;simpa using this
  ·intro p hp _;rw [Ku];simpa using hp
theorem rY (hl:laidOutB P=true) {W W':World} (hb:Below W.heap.size W W') {sp:Nat→Bool}:∀ {ts:List TypeId} {vs:List Value} {ds:List (DataW H)} {pl:List MemPlace},
  (∀ t∈ts,P.readableRec t=true∧t < P.types.size)→DataW.TrodAll enc P W 0 (fun _=>true) true ts vs ds pl→(∀ p∈pl,p.block < W.heap.size)→(∀ p∈pl,sp p.block=true) →
  DataW.TrodAll enc P W' 0 sp true ts vs ds pl
 |[],[],[],_,_,h,_,_=>h
 |t :: ts,v :: vs,d :: ds,pl,hr,h,bO,Dk=>by
  obtain ⟨p,q,h1,h2,rfl⟩:=h;refine ⟨p,q,?_,rY hl hb (fun t ht=>hr t (by simp [ht])) h2 (fun x hx=>bO x (by simp [hx])) (fun x hx=>Dk x (by simp [hx])),rfl⟩;exact WideElems.Trod_stays hl (hr t (by simp)).1 (hr t (by simp)).2 h1 (fun x hx=>hb.same (bO x (by simp [hx]))) (fun x hx=>Dk x (by simp [hx]))
 |[],[],_ :: _,_,_,h,_,_=>h.elim
 |[],_ :: _,_,_,_,h,_,_=>h.elim
 |_ :: _,[],_,_,_,h,_,_=>h.elim
 |_ :: _,_ :: _,[],_,_,h,_,_=>h.elim
theorem JN {E:Env} {f:FuncId} {fn:Func} {s:ChangeSpec} {ps:List aM} {apart fresh handsOn again:Bool} {W:World} {base:Nat} {args:Array Value} {ds gs:List (DataW H)} {before:List MemPlace} {n tb:Nat}
  (abt:∀ x,(lY ps).wf x→bE E f ((lY ps).enc x) (fun r=>r=.bool true)) (X1:Ez E.P n fn.params.toList=some ps)
  (OO:∀ (j:Nat) t v,fn.params[j]?=some t→args[j]?=some v→Value.okWide E.P W .any base t v)
  (hW:DataW.Whole enc E.P fn.params.toList s.vars apart W args.toList ds gs before) (X2:∀ g cs,E.dV g=some cs→fg (sD W) W g 0 cs)
  (EB:s.vars=[]) (Dk:∀ ds:List (DataW H),ds.length=fn.params.toList.length→s.fn H ds={ results:=[.lit (.bool true)],args:=ds })
  (Cx:fn.resultTypes=#[tb]) (hub:E.P.underlying tb=some .bool) (hl:laidOutB E.P=true) (hr:∀ t∈fn.params.toList,E.P.readableRec t=true∧t < E.P.types.size) (wQ:E.lo=0:=by rfl) (X0:∀ g cs,E.dV g=some cs→E.gx g=true→g < W.heap.size∧W.cell? ⟨g,cs.length,none⟩=none:=by intro _ _ _ h; exact Bool.noConfusion (show false=true from h)) :
  Calls E.P f args W fun e W'=>∃ v,e=.returned v∧s.post enc E.P fn apart fresh handsOn again W args v W':=by
 have hW0:=hW;obtain ⟨p,q,hA,hV,rfl,ZR,hnd⟩:=hW;obtain ⟨rfl,rfl⟩:gs=[]∧q=[]:=by
  rw [EB] at hV;cases gs with
  |nil=>exact ⟨rfl,hV⟩
  |cons g r=>exact absurd hV (by intro h; cases h)
 obtain ⟨x,hx,hwf⟩:=EA (fun _=>rfl) (n:=n) X1 hA (r:=.any) (base':=base) (fun j t v hj hv=>OO j t v (by simpa using hj) (by simpa using hv));have hlen:ds.length=fn.params.toList.length:=by
  clear OO ZR hnd hW0 hx hwf Dk X1 hr;revert hA;generalize fn.params.toList=ts;generalize args.toList=vs;generalize p=pl;clear p;intro hA
  induction ts generalizing vs ds pl with
  |nil=>cases vs <;> cases ds <;> first | rfl | exact hA.elim
  |cons t ts ih=>
   cases vs with
   |nil=>cases ds <;> exact hA.elim
   |cons v vs=>
    cases ds with
    |nil=>exact hA.elim
    |cons d ds=>
     obtain ⟨p,q,_,h2,_⟩:=hA;simp [ih vs q h2]
 have hG:fj E (sD W) W []:=⟨rfl,fun id go ro h=>by simp [nth] at h,fun i j ri rj b h=>by simp [sD,nth] at h,fun b o h=>h,fun g cs hg=>⟨X2 g cs hg,fun hx=>X0 g cs hg hx⟩,by rw [wQ]; exact Nat.zero_le _⟩;have hc:=(abt x hwf []);refine (callsIn_wide.1 (hc.2 (sD W) W args.toList hG hx)).mono fun e W' he=>?_
 cases e with
 |panicked c=>exact he.elim
 |outgrown=>exact he.elim
 |returned c=>
  obtain ⟨r,G',R',⟨_,rfl⟩,dm,_,st⟩:=he;cases dm;have hb:Below W.heap.size W W':=⟨st.os,st.tape,st.output,st.size,fun k hk=>st.aZ k hk fun ho=>by
   obtain ⟨id,ro,h1,_⟩:=ga ho;simp [sD,nth] at h1⟩
  have bO:∀ y∈p,y.block < W.heap.size:=fun y hy=>by simpa using hW0.lt y (by simpa using hy)
  have e1:s.fn H (ds++[])={ results:=[.lit (.bool true)],args:=ds }:=by rw [List.append_nil]; exact Dk ds hlen
  refine ⟨_,rfl,GY (pa:=p) (pv:=[]) hW0 ?_ ?_ ?_ rfl hb ?_⟩
  ·intro b sp hd;rw [e1,Cx];exact trodAll_mk1 (shut_bool hub true)
  ·intro sp abv;rw [e1];exact rY hl hb hr hA bO (fun y hy=>abv y (by simpa using hy))
  ·intro sp _;rw [e1,EB];rfl
  ·intro j t r hj lF;rw [Cx] at hj lF;cases j with
   |succ j=>simp at hj
   |zero=>
    simp at hj;subst hj;have:r=.bool true:=by simpa [Value.resultList] using lF.symm
    subst this;simp [Value.okWide,Cell.okWide,Cell.ok,hub]
end
end Go.Am
namespace Go.Am
open Go
section
variable {P:Program} {W:World}
end
end Go.Am
namespace Go.Am
open Go
theorem cF {p:aM} (hp:p.plain=true) (l:List p.T):allFit p.fits (List.map p.enc l)=true:=by
 induction l with
 |nil=>rfl
 |cons x l ih=>simp [allFit,ih,(p.bg x hp).1]
theorem eT {p:aM} (hp:p.plain=true) (l:List p.T):List.map p.bp (List.map p.enc l)=l:=by
 induction l with
 |nil=>rfl
 |cons x l ih=>simp [ih,(p.bg x hp).2]
end Go.Am
namespace Go.Am
open Go Go.RowKit
section
variable {E:Env} {R:ai} {w w':World}
theorem Plain.of {P : Program} {g : FuncId} {fn : Func} (h : P.funcs[g]? = some fn) (h1 : fn.body.isNone = false) (h2 : (fn.name == "runtime.NumGoroutine") = false) : Plain P g := ⟨fn, h, h1, h2⟩
end
def p2 (a b:aM):aK:=.cons a (.cons b .nil)
def p1 (a:aM):aK:=.cons a .nil
def zC:List UInt8 × List UInt8→Option Int
 |(s,[c])=>some (s.count c:Nat)
 |_=>none
def GZ:bf:=⟨p2 .str .str,.int .i64,zC⟩
section
variable {E:Env}
end
end Go.Am
