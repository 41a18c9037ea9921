/- The abstract machine: what the evaluator finds is so. -/
import Derived.Test.YtegoimldbgdeiaaAmKJ
import GoSem.ClaimJoined
import Derived.Below
import Derived.ChangeSame
import Derived.Carry
import Derived.RowKit
import Derived.FnData
import Derived.Lib.Builder
import Derived.Lib.UnsafeStr
import Derived.Shelf.Strings.Builder1
set_option linter.all false
namespace Go.Am
open Go
section ext
variable {E:Env} {f:FuncId} {s s':St} {o:Oper}
theorem aJ.put (s:St) (d:Option Tmp) (x:SV):aJ s (s.put d x):=by
 cases d with
 | none=>exact aJ.refl s
 | some d=>
  simp only [St.put]
  split
  ·exact ⟨⟨[_],rfl⟩,⟨[],rfl⟩,rfl⟩
  ·exact aJ.refl s
theorem aJ.bF (s:St) (G:List GO):aJ s (s.bF G):=⟨⟨[],rfl⟩,⟨[],rfl⟩,rfl⟩
theorem aJ.dA (s:St) (o:GO):aJ s (s.dA o):=⟨⟨[],rfl⟩,⟨[],rfl⟩,rfl⟩
theorem aJ.sx (s:St) (d:Nat) (cs:List AV):aJ s (s.sx d cs):=⟨⟨[],rfl⟩,⟨[_],rfl⟩,rfl⟩
theorem aJ.kill (s:St) (d:Nat):aJ s (s.kill d):=⟨⟨[_],rfl⟩,⟨[],rfl⟩,rfl⟩
theorem Ef {c:Bool} {s':St} (h:gi E f s o=some (c,s')):aJ s s':=by
 unfold gi at h
 repeat' (split at h)
 all_goals (first | (cases h; done) | skip)
 all_goals (injection h with h; injection h with _ h; subst h; exact (aJ.bF _ _).trans (aJ.put _ _ _))
theorem B8 {c:Bool} (h:an E f s o=some (c,s')):aJ s s':=by
 have alloc:∀ {el:TypeId} {cs:List AV} {c:Bool} {s':St},eP E f s o.dst el cs=some (c,s')→aJ s s':=by
  intro el cs c s' h
  unfold eP at h
  repeat' (split at h)
  all_goals (first | (cases h; done) | skip)
  ·injection h with h; injection h with _ h; subst h; exact (aJ.dA _ _).trans (aJ.put _ _ _)
  ·injection h with h; injection h with _ h; subst h; exact ((aJ.kill _ _).trans (aJ.sx _ _ _)).trans (aJ.put _ _ _)
 have store:∀ {t:TypeId} {p x:SV} {s':St},iU E s t p x=some s'→aJ s s':=by
  intro t p x s' h
  unfold iU at h
  repeat' (split at h)
  all_goals (first | (cases h; done) | skip)
  all_goals (injection h with h; subst h)
  ·exact aJ.sx _ _ _
  ·exact aJ.bF _ _
 have By:∀ {t:TypeId} {p x:SV} {c:Bool} {s':St},iV E s t p x=some (c,s')→aJ s s':=by
  intro t p x c s' h
  unfold iV at h
  repeat' (split at h)
  all_goals (first | (cases h; done) | skip)
  all_goals (injection h with h; injection h with _ h; subst h)
  all_goals (first | exact aJ.bF _ _ | exact store (by assumption))
 have blt:∀ {b:Builtin} {l:List AV} {tys:List TypeId} {c:Bool} {s':St},bw E s o.dst b l tys=some (c,s')→aJ s s':=by
  intro b l tys c s' h
  unfold bw at h
  repeat' (split at h)
  all_goals (first | (cases h; done) | skip)
  all_goals (injection h with h; injection h with _ h; subst h)
  all_goals (first | exact aJ.put _ _ _ | exact (aJ.bF _ _).trans (aJ.put _ _ _) | exact aJ.bF _ _)
 have update:∀ {t:TypeId} {m k x:SV} {s':St},eR E s t m k x=some s'→aJ s s':=by
  intro t m k x s' h
  unfold eR at h
  repeat' (split at h)
  all_goals (first | (cases h; done) | skip)
  all_goals (injection h with h; subst h; exact aJ.bF _ _)
 have next:∀ {x:SV} {s':St},kE s o.dst x=some s'→aJ s s':=by
  intro x s' h
  unfold kE at h
  split at h
  ·split at h
   ·rename_i l pos hg
    cases hb:Nat.blt pos l.length <;> rw [hb] at h <;> simp only [cond_true,cond_false] at h <;> cases h
    ·exact aJ.put _ _ _
    ·exact (aJ.bF _ _).trans (aJ.put _ _ _)
   ·cases h
  ·cases h
 have Bz:∀ {t:TypeId} {m k:SV} {c:Bool} {v:AV} {s':St},fR E s t m k=some (c,v,s')→aJ s s':=by
  intro t m k c v s' h
  unfold fR at h
  repeat' (split at h)
  all_goals (first | (cases h; done) | skip)
  all_goals (injection h with h; injection h with _ h; injection h with _ h; subst h; exact aJ.bF _ _)
 have BA:∀ {m st x:SV} {c:Bool} {s':St},dO s m st x=some (c,s')→aJ s s':=by
  intro m st x c s' h
  unfold dO at h
  repeat' (split at h)
  all_goals (first | (cases h; done) | skip)
  all_goals (injection h with h; injection h with _ h; subst h; exact aJ.bF _ _)
 unfold an at h
 repeat' (split at h)
 all_goals (first | (cases h; done) | exact alloc h | exact blt h | (rename_i hf; cases h; exact Ef hf) | skip)
 all_goals (injection h with h; injection h with _ h; subst h)
 all_goals (first | exact aJ.put _ _ _ | exact (aJ.dA _ _).trans (aJ.put _ _ _) | skip)
 all_goals (first | exact By (by assumption) | exact update (by assumption) | exact (Bz (by assumption)).trans (aJ.put _ _ _) | exact BA (by assumption) | exact next (by assumption))
theorem cA.gf {g:FuncId} {args J8:List AV} {G:List GO} {Q:AV→List GO→Prop} (hw:ca args J8) (h:cA E g J8 G Q):cA E g args G Q:=
 ⟨h.1,fun R w cs hg hl=>h.2 R w cs hg (hw.rel hl)⟩
theorem Ad {K:St→Prop} (h:jw E f o K s):jw E f o (fun s'=>K s'∧aJ s s') s:=by
 unfold jw at *
 split
 ·rename_i x args tys ho
  rw [ho] at h
  simp only at h
  split at h
  ·exact h.mono fun r G' hk=>⟨hk,(aJ.bF _ _).trans (aJ.put _ _ _)⟩
  ·exact h.mono fun r G' hk=>⟨hk,(aJ.bF _ _).trans (aJ.put _ _ _)⟩
  ·exact h
 ·rename_i ho
  rw [ho] at h
  exact h
 ·rename_i nc nd
  split at h
  ·rename_i ho
   exact absurd ho (nc _ _ _)
  ·exact h.elim
  ·split at h
   ·rename_i c s' hs
    obtain ⟨hc,hk⟩:=h.out
    exact cX.mk hc ⟨hk,B8 hs⟩
   ·exact h.elim
theorem kL {K:St→Prop} {ops:List Oper} (h:bL E f ops o K s):bL E f ops o (fun s'=>K s'∧aJ s s') s:=by
 unfold bL at *
 split
 ·rename_i hg
  rw [hg] at h
  exact Ad h
 ·rename_i j want hg
  rw [hg] at h
  simp only at h
  split
  ·rename_i hd
   rw [hd] at h
   exact h
  ·rename_i d hd
   rw [hd] at h
   simp only at h
   split
   ·rename_i b hb
    rw [hb] at h
    simp only at h
    refine ⟨fun e=>?_,fun e=>⟨h.2 e,(aJ.put _ _ _).trans (aJ.put _ _ _)⟩⟩
    exact rn (Ad (h.1 e)) fun s' hh=>⟨hh.1,(aJ.put _ _ _).trans hh.2⟩
   ·rename_i hb
    rw [hb] at h
    exact ⟨h,aJ.put _ _ _⟩
   ·rename_i hb kF
    split at h
    ·rename_i b EJ
     exact absurd EJ (hb b)
    ·rename_i EJ
     exact absurd EJ kF
    ·exact h
theorem vU {K K':St→Prop} {ops:List Oper} (h:fK E f ops o K s) (hK:∀ s,K s→K' s):fK E f ops o K' s:=by
 unfold fK at *
 split
 ·rename_i s' h1 h2
  rw [h1,h2] at h
  exact hK _ h
 ·rename_i hn
  split at h
  ·rename_i s' h1 h2
   exact absurd h2 (hn s' h1)
  ·exact bM h hK
theorem sO {s':St} (h:iE E f s o=some s'):aJ s s':=by
 unfold iE at h
 repeat' (split at h)
 all_goals (first | (cases h; done) | skip)
 all_goals (injection h with h; subst h; exact (aJ.dA _ _).trans (aJ.put _ _ _))
theorem yx {K:St→Prop} {ops:List Oper} (h:fK E f ops o K s):fK E f ops o (fun s'=>K s'∧aJ s s') s:=by
 unfold fK at *
 split
 ·rename_i s' h1 h2
  rw [h1,h2] at h
  exact ⟨h,sO h2⟩
 ·rename_i hn
  split at h
  ·rename_i s' h1 h2
   exact absurd h2 (hn s' h1)
  ·exact kL h
theorem ld {K K':St→Prop} {ops:List Oper} (h:eY E f ops o K s) (hK:∀ s,K s→K' s):eY E f ops o K' s:=by
 unfold eY at *
 split at h
 ·obtain ⟨h1,h2⟩:=h.out
  exact cX.mk h1 (hK _ h2)
 ·obtain ⟨h1,h2,h3⟩:=h.out
  exact cX.mk h1 ⟨fun e=>hK _ (h2 e),fun i hi=>let ⟨k1,k2⟩:=(h3 i hi).out; cX.mk k1 (hK _ k2)⟩
 ·exact vU h hK
theorem Eg {c:Bool} {s':St} (h:rR E f s o=some (c,s')):aJ s s':=by
 unfold rR at h
 repeat' (split at h)
 all_goals (first | (cases h; done) | skip)
 all_goals (injection h with h; injection h with _ h; subst h; exact (aJ.bF _ _).trans (aJ.put _ _ _))
theorem B9 {c:Bool} {s0:St} {left:List Nat} {g:Nat→Bool × St} (h:qP E s o=some (c,s0,left,g)):aJ s s0∧∀ i,aJ s (g i).2:=by
 unfold qP at h
 split at h
 ·unfold we at h
  split at h
  ·split at h
   ·split at h
    ·cases h
     exact ⟨aJ.put _ _ _,fun i=>(aJ.bF _ _).trans (aJ.put _ _ _)⟩
    ·cases h
   ·cases h
  ·cases h
 ·cases h
theorem qt {K:St→Prop} {ops:List Oper} (h:eY E f ops o K s):eY E f ops o (fun s'=>K s'∧aJ s s') s:=by
 unfold eY at *
 split at h
 ·rename_i hb
  obtain ⟨h1,h2⟩:=h.out
  exact cX.mk h1 ⟨h2,Eg hb⟩
 ·rename_i hb
  obtain ⟨h1,h2,h3⟩:=h.out
  obtain ⟨k1,k2⟩:=B9 hb
  exact cX.mk h1 ⟨fun e=>⟨h2 e,k1⟩,fun i hi=>let ⟨q1,q2⟩:=(h3 i hi).out; cX.mk q1 ⟨q2,k2 i⟩⟩
 ·exact yx h
theorem lf {K K':St→Prop} {ops:List Oper} (h:eZ E f ops o K s) (hK:∀ s,K s→K' s):eZ E f ops o K' s:=by
 unfold eZ at *
 split at h
 ·exact ⟨h.1,ld h.2 hK⟩
 ·exact ld h hK
theorem gJ {cut wk:Bool}:∀ {l:List Operand} {s s':St} {c:Bool},gv cut wk l s=(c,s')→aJ s s'
 | [],s,s',c,h=>by
  simp only [gv] at h
  cases h
  exact aJ.refl _
 | .tmp t :: l,s,s',c,h=>by
  unfold gv at h
  split at h
  ·rename_i c1 s1 h1
   cases h2:gv cut wk l s1 with
   | mk c2 s2=>
   rw [h2] at h
   simp only [Prod.mk.injEq] at h
   obtain ⟨_,rfl⟩:=h
   exact (iJ h1).trans (gJ h2)
  ·exact gJ h
 | .const _ :: l,s,s',c,h=>gJ (l:=l) h
 | .global _ :: l,s,s',c,h=>gJ (l:=l) h
 | .func _ :: l,s,s',c,h=>gJ (l:=l) h
theorem Gc {s s':St} {o:Oper} {c:Bool} (h:Du E f s o=some (c,s')):aJ s s':=by
 unfold Du at h
 split at h
 ·split at h
  ·injection h with h
   exact gJ h
  ·cases h
 ·cases h
theorem yy {K:St→Prop} {ops:List Oper} (h:eZ E f ops o K s):eZ E f ops o (fun s'=>K s'∧aJ s s') s:=by
 unfold eZ at *
 split at h
 ·rename_i c s' hz
  exact ⟨h.1,ld (qt h.2) fun s2 h2=>⟨h2.1,(Gc hz).trans h2.2⟩⟩
 ·exact qt h
theorem vd {s s':St} {l:Loc} {sz:Nat} {e:TypeId} (h:nm s l sz e=some s'):aJ s s':=by
 unfold nm at h
 cases Bu:Nat.ble 196608 sz with
 | true=>rw [Bu] at h; cases h; exact aJ.dA _ _
 | false=>
 rw [Bu] at h
 cases l with
 | slot t=>
  simp only at h
  split at h
  ·cases h; exact ⟨⟨[_],rfl⟩,⟨[],rfl⟩,rfl⟩
  ·cases h
 | box k i=>
  simp only at h
  split at h
  ·split at h
   ·cases h; exact ⟨⟨[],rfl⟩,⟨[_],rfl⟩,rfl⟩
   ·cases h
  ·cases h
 | row id i=>
  simp only at h
  split at h
  ·split at h
   ·cases h; exact ⟨⟨[],rfl⟩,⟨[],rfl⟩,rfl⟩
   ·cases h
  ·cases h
theorem j9:∀ {l:List (Loc × Nat × TypeId)} {s s':St},fJ l s=some s'→aJ s s'
 | [],s,s',h=>by
  simp only [fJ] at h
  cases h
  exact aJ.refl _
 | (l,sz,e) :: r,s,s',h=>by
  unfold fJ at h
  split at h
  ·rename_i s1 h1
   exact (vd h1).trans (j9 h)
  ·cases h
theorem nN:∀ {l:List (Loc × Nat × TypeId)} {s:St},aJ s (iB l s)
 | [],s=>aJ.refl _
 | (l,sz,e) :: r,s=>by
  unfold iB
  split
  ·rename_i s1 h1
   exact (vd h1).trans nN
  ·exact nN
theorem Eh {s s':St} {o:Oper} (h:wJ E f o s=some s'):aJ s s':=by
 unfold wJ at h
 split at h
 ·cases h; exact aJ.refl _
 ·split at h
  ·split at h
   ·rename_i hz
    cases h
    exact iJ hz
   ·cases h
  ·split at h
   ·cases h; exact aJ.refl _
   ·split at h
    ·exact Bv h
    ·split at h
     ·cases h; exact nN
     ·cases h
theorem vf {K K':St→Prop} {ops:List Oper} (hK:∀ s,K s→K' s):∀ {l:List Oper} {s:St},nt E f ops l K s→nt E f ops l K' s
 | [],s,h=>hK s h
 | _ :: _,_,h=>lf h fun s' h'=>by
  unfold wK at *
  split at h'
  ·exact vf hK h'
  ·exact h'.elim
theorem vg {K K':St→Prop} {ops:List Oper} (hK:∀ s,K s→K' s) {T:DT} {s:St} (h:qK E f ops T K s):qK E f ops T K' s:=
 fc (ops:=⟨ops⟩) hK T s h
theorem xd {K:St→Prop} {ops:List Oper}:∀ {l:List Oper} {s:St},nt E f ops l K s→nt E f ops l (fun s'=>K s'∧aJ s s') s
 | [],s,h=>⟨h,aJ.refl s⟩
 | o :: l,s,h=>by
  simp only [nt] at *
  refine lf (yy h) fun s' hh=>?_
  obtain ⟨h1,h2⟩:=hh
  unfold wK at *
  split at h1
  ·rename_i s2 hp
   exact vf (fun s3 h3=>⟨h3.1,(h2.trans (Eh hp)).trans h3.2⟩) (xd h1)
  ·exact h1.elim
theorem qu {K:St→Prop} {ops:List Oper}:∀ {T:DT} {s:St},qK E f ops T K s→qK E f ops T (fun s'=>K s'∧aJ s s') s
 | .done,s,h=>⟨h,aJ.refl s⟩
 | .stop,_,_=>trivial
 | .take j C T,s,h=>by
  unfold qK at h ⊢
  split
  ·rename_i oj hj
   rw [hj] at h
   exact bM (kL h) fun s' hh=>vg (fun s2 h2=>⟨h2.1,hh.2.trans h2.2⟩) (qu hh.1)
  ·rename_i hj
   rw [hj] at h
   exact h
 | .al j W T,s,h=>by
  unfold qK at h ⊢
  split
  ·rename_i oj hj
   rw [hj] at h
   exact ⟨h.1,bM (kL h.2) fun s' hh=>vg (fun s2 h2=>⟨h2.1,hh.2.trans h2.2⟩) (qu hh.1)⟩
  ·rename_i hj
   rw [hj] at h
   exact h
 | .br i re C T more,s,h=>by
  unfold qK at h ⊢
  refine ⟨?_,qu h.2⟩
  have h:=h.1
  split
  ·rename_i oj hj
   rw [hj] at h
   exact bM (kL h) fun s' hh=>⟨hh.1.1,vg (fun s2 h2=>⟨h2.1,hh.2.trans h2.2⟩) (qu hh.1.2)⟩
  ·rename_i hj
   rw [hj] at h
   exact h
end ext
def ka (E:Env) (c:Code) (Q:Exit→St→Prop) (s:St):Prop:=eS E c (fun e s'=>Q e s'∧aJ s s') s
section sound
variable {E:Env} {f:FuncId} {s:St} {X:Type} {fz:Bool} {call:nK X} {kK:k9 X} {eM:Option X→Option X→Option X} {x:X}
def mu (E:Env) (call:nK X):Prop:=∀ g args G K x,call g args G K=some x→cA E g args G (fun r G'=>K r G'=some x)
def so (E:Env) (kK:k9 X):Prop:=∀ id args G K x,kK id args G K=some x→jV E id args G (fun b G'=>K b G'=some x)
theorem aQ {α:Type} {c:Bool} {a:Option α} {x:α} (h:(bif c then a else none)=some x):c=true∧a=some x:=by
 cases c
 ·cases h
 ·exact ⟨rfl,h⟩
theorem bind_some {α β:Type} {a:Option α} {k:α→Option β} {x:β} (h:a.bind k=some x):∃ y,a=some y∧k y=some x:=by
 cases a with
 | none=>cases h
 | some y=>exact ⟨y,rfl,h⟩
theorem Ei {o:Oper} {n:Int} {len:Nat} {g:Nat→Oper} (h:yt E s o=some (n,len,g)) {j:Nat} (hj:n=(j:Int)):an E f s (g j)=an E f s o:=by
 subst hj
 unfold yt at h
 have KT:∀ k:IntKind,bc E s.ae (.const (.int k (j:Int)))=.v (.int k j):=fun k=>rfl
 split at h
 ·rename_i t x y ho
  split at h
  ·rename_i k n i h1 h2
   split at h
   ·injection h with h; injection h with e1 h; injection h with e2 h
    subst h; subst e1
    simp only [an,ho,KT,h1]
   ·cases h
  ·cases h
 ·rename_i t x y ho
  split at h
  ·rename_i k n i h1 h2
   split at h
   ·split at h
    ·split at h
     ·cases h
     ·injection h with h; injection h with e1 h; injection h with e2 h
      subst h; subst e1
      simp only [an,ho,KT,h1]
    ·injection h with h; injection h with e1 h; injection h with e2 h
     subst h; subst e1
     simp only [an,ho,KT,h1]
   ·cases h
  ·cases h
 ·cases h
theorem oN {o:Oper} {n:Int} {len:Nat} {g:Nat→Oper} (hi:yt E s o=some (n,len,g)) {K:St→Option X}:∀ (m j:Nat),tc E fz f g n K s m j=some x→∃ c s',an E f s o=some (c,s')∧c=true∧K s'=some x
 | 0,_,h=>by cases h
 | m+1,j,h=>by
  unfold tc at h
  by_cases hn:n=(j:Int)
  ·rw [decide_eq_true hn,cond_true,Ei hi hn] at h
   split at h
   ·rename_i c s' hs
    obtain ⟨h1,h2⟩:=aQ h
    rw [cg] at h2
    exact ⟨c,s',hs,h1,h2⟩
   ·cases h
  ·rw [decide_eq_false hn,cond_false] at h
   exact oN hi m (j+1) h
theorem vh {ops:List Oper} {o:Oper} (h:LQ E f ops o s=true):BH E f ops o s:=by
 unfold LQ at h
 split at h
 ·rename_i t m k ok d ho hd
  split at h
  ·rename_i c v b hg hs
   rw [Bool.and_eq_true] at h
   obtain ⟨rfl,h⟩:=h
   have hn:=ql hs
   unfold BH
   rw [hg]
   simp only
   have e:an E f s o=some (true,s.put o.dst (.v (if ok then .bk [v,.bool b] else v))):=by simp only [an,ho,hn]
   rw [hd] at e
   rw [hd,e]
   refine ⟨rfl,?_⟩
   unfold St.put
   simp only
   split
   ·rw [aw]
    exact wS h
   ·rfl
  ·exact wT h
 ·exact wT h
theorem oO {ops:List Oper}:∀ {l:List Nat} {s:St},oh E f ops l s=true→wP E f ops l s
 | [],_,_=>trivial
 | k :: l,s,h=>by
  unfold oh at h
  unfold wP
  rw [Bool.and_eq_true] at h
  refine ⟨?_,oO h.2⟩
  have h:=h.1
  split at h
  ·rename_i hk
   first
    | exact vh h
    | rw [hk]; exact vh h
  ·rename_i hk
   first
    | trivial
    | rw [hk]; trivial
theorem rB (hc:mu E call) (hr:so E kK) {o:Oper} {K:St→Option X} (h:LP E fz call kK f o K s=some x):jw E f o (fun s=>K s=some x) s:=by
 unfold jw
 split
 ·rename_i y args tys ho
  unfold LP at h
  rw [ho] at h
  simp only at h
  split at h
  ·rename_i h1 h2
   rw [h1,h2]
   refine (hc _ _ _ _ _ h).mono fun r G' hk=>?_
   rw [cg] at hk
   exact hk
  ·rename_i h1 h2
   rw [h1,h2]
   refine (hr _ _ _ _ _ h).mono fun r G' hk=>?_
   rw [cg] at hk
   exact hk
  ·cases h
 ·rename_i ho
  unfold LP at h
  rw [ho] at h
  cases h
 ·rename_i nc nd
  unfold LP at h
  split at h
  ·rename_i ho
   exact absurd ho (nc _ _ _)
  ·cases h
  ·rename_i y ho
   split at h
   ·rename_i b s1 s2 hs
    have hn:=B1 hs
    have e:an E f s o=some (true,bif b then s1 else s2):=by simp only [an,ho,hn]
    rw [e]
    refine cX.mk rfl ?_
    rw [cg,cg] at h
    cases b <;> exact h
   ·cases h
  ·rename_i t m k ok ho
   split at h
   ·rename_i c v b hs
    obtain ⟨h1,h2⟩:=aQ h
    subst h1
    rw [cg] at h2
    have hn:=ql hs
    have e:an E f s o=some (true,s.put o.dst (.v (if ok then .bk [v,.bool b] else v))):=by simp only [an,ho,hn]
    rw [e]
    exact cX.mk rfl h2
   ·split at h
    ·rename_i c s' hs
     obtain ⟨h1,h2⟩:=aQ h
     rw [cg] at h2
     rw [hs]
     exact cX.mk h1 h2
    ·cases h
  ·rename_i t m k z ho
   split at h
   ·rename_i c s' hd hs
    obtain ⟨h1,h2⟩:=aQ h
    subst h1
    rw [cg] at h2
    have hn:=qm hs
    have e:an E f s o=some (true,s'):=by simp only [an,ho,hd,hn]
    rw [e]
    exact cX.mk rfl h2
   ·cases h
  ·rename_i t m k z ho
   split at h
   ·rename_i c s' hd hs
    obtain ⟨h1,h2⟩:=aQ h
    subst h1
    rw [cg] at h2
    have hn:=qm hs
    have e:an E f s o=some (true,s'):=by simp only [an,ho,hd,hn]
    rw [e]
    exact cX.mk rfl h2
   ·cases h
  ·rename_i args tys ho
   split at h
   ·rename_i c s' hf
    obtain ⟨h1,h2⟩:=aQ h
    rw [cg] at h2
    have e:an E f s o=some (c,s'):=by simp only [an,ho,hf]
    rw [e]
    exact cX.mk h1 h2
   ·rename_i hf
    split at h
    ·rename_i l hl
     split at h
     ·rename_i b s1 c s2 hs
      have Bi:b=false→c=true:=fun e=>by subst e; exact (aQ (show (bif c then og fz s2 K else none)=some x from h)).1
      have hn:=yn hs Bi
      have e:an E f s o=some (true,bif b then s1 else s2):=by simp only [an,ho,hf,hl,hn]
      rw [e]
      refine cX.mk rfl ?_
      cases b with
      | true=>
       show K s1=some x
       rw [← cg fz s1 K]
       exact h
      | false=>
       obtain ⟨h1,h2⟩:=aQ (show (bif c then og fz s2 K else none)=some x from h)
       rw [cg] at h2
       exact h2
     ·split at h
      ·rename_i c s' hs
       obtain ⟨h1,h2⟩:=aQ h
       rw [cg] at h2
       rw [hs]
       exact cX.mk h1 h2
      ·cases h
    ·cases h
  ·rename_i args tys ho
   split at h
   ·rename_i l hl
    split at h
    ·rename_i c s' hs
     obtain ⟨h1,h2⟩:=aQ h
     subst h1
     rw [cg] at h2
     have hn:=B2 hs
     have hf:gi E f s o=none:=by
      cases hf:gi E f s o with
      | none=>rfl
      | some r=>
       obtain ⟨_,_,h2⟩:=mj hf
       rw [ho] at h2
       cases h2
     have e:an E f s o=some (true,s'):=by simp only [an,ho,hf,hl,hn]
     rw [e]
     exact cX.mk rfl h2
    ·split at h
     ·rename_i c s' hs
      obtain ⟨h1,h2⟩:=aQ h
      rw [cg] at h2
      rw [hs]
      exact cX.mk h1 h2
     ·cases h
   ·cases h
  ·split at h
   ·rename_i n len g hi
    obtain ⟨c,s',hs,h1,h2⟩:=oN hi _ _ h
    rw [hs]
    exact cX.mk h1 h2
   ·split at h
    ·rename_i c s' hs
     obtain ⟨h1,h2⟩:=aQ h
     rw [cg] at h2
     rw [hs]
     exact cX.mk h1 h2
    ·cases h
theorem jA (hc:mu E call) (hr:so E kK) {ops:List Oper} {o:Oper} {K:St→Option X} (h:nL E fz call kK f ops o K s=some x):bL E f ops o (fun s=>K s=some x) s:=by
 unfold nL at h
 unfold bL
 split at h
 ·rename_i hg
  rw [hg]
  exact rB hc hr h
 ·rename_i j want hg
  rw [hg]
  simp only
  split at h
  ·cases h
  ·rename_i d hd
   rw [hd]
   simp only
   split at h
   ·rename_i b hb
    rw [hb]
    simp only
    cases want with
    | true=>
     simp only at h
     rw [cg,cg] at h
     refine ⟨fun e=>?_,fun e=>?_⟩
     ·subst e
      exact rB hc hr h
     ·have e:b=false:=by simpa using e
      subst e
      exact h
    | false=>
     simp only at h
     rw [cg,cg] at h
     refine ⟨fun e=>?_,fun e=>?_⟩
     ·subst e
      exact rB hc hr h
     ·have e:b=true:=by simpa using e
      subst e
      exact h
   ·rename_i hb
    rw [hb]
    rw [cg] at h
    exact h
   ·cases h
theorem vV (hc:mu E call) (hr:so E kK) {ops:List Oper} {o:Oper} {K:St→Option X} (h:yu E fz call kK f ops o K s=some x):fK E f ops o (fun s=>K s=some x) s:=by
 unfold yu at h
 unfold fK
 split at h
 ·rename_i s' h1 h2
  rw [h1,h2]
  rw [cg] at h
  exact h
 ·rename_i hn
  split
  ·rename_i s' h1 h2
   exact absurd h2 (hn s' h1)
  ·exact jA hc hr h
theorem oP (hc:mu E call) (hr:so E kK) {ops:List Oper} {o:Oper} {K:St→Option X} (h:td E fz call kK f ops o K s=some x):eY E f ops o (fun s=>K s=some x) s:=by
 unfold td at h
 unfold eY
 split at h
 ·rename_i c s' h1 h2
  rw [h1,h2]
  obtain ⟨q1,q2⟩:=aQ h
  rw [cg] at q2
  exact cX.mk q1 q2
 ·rename_i c s0 left g h1 h2 h3
  rw [h1,h2,h3]
  obtain ⟨q1,q2⟩:=aQ h
  refine cX.mk q1 ?_
  cases left with
  | nil=>
   simp only [List.isEmpty_nil,cond_true,cg] at q2
   exact ⟨fun _=>q2,fun i hi=>by simp at hi⟩
  | cons i0 l=>
   simp only [List.isEmpty_cons,cond_false] at q2
   refine ⟨fun e=>(by cases e),fun i hi=>?_⟩
   obtain ⟨r1,r2⟩:=aQ (Ee q2 i hi)
   rw [cg] at r2
   exact cX.mk r1 r2
 ·rename_i EE Up
  split
  ·rename_i c s' h1 h2
   first
    | exact absurd h2 (EE c s' h1)
    | exact absurd h2 (Up c s' h1)
  ·rename_i c s0 left g h1 h2 h3
   first
    | exact absurd h3 (Up c s0 left g h1 h2)
    | exact absurd h3 (EE c s0 left g h1 h2)
  ·exact vV hc hr h
theorem vW (hc:mu E call) (hr:so E kK) {ops:List Oper} {o:Oper} {K:St→Option X} (h:yw E fz call kK f ops o K s=some x):eZ E f ops o (fun s=>K s=some x) s:=by
 unfold yw at h
 unfold eZ
 split at h
 ·rename_i c s' hz
  rw [hz]
  obtain ⟨h1,h2⟩:=aQ h
  exact ⟨h1,oP hc hr h2⟩
 ·rename_i hz
  rw [hz]
  exact oP hc hr h
theorem vi (hc:mu E call) (hr:so E kK) {ops:List Oper}:∀ {l:List Oper} {K:St→Option X} {s:St},Ij E fz call kK f ops l K s=some x→nt E f ops l (fun s=>K s=some x) s
 | [],_,_,h=>h
 | o :: l,K,s,h=>by
  unfold Ij at h
  unfold nt
  refine lf (vW hc hr h) fun s' h'=>?_
  unfold wK
  split at h'
  ·rename_i s2 hp
   rw [hp]
   exact vi hc hr h'
  ·cases h'
theorem iO (hc:mu E call) (hr:so E kK) (hm:sm eM) {ops:List Oper}:∀ {T:DT} {K:St→Option X} {s:St} {x:X},oT E fz call kK eM f ops T K s=some x→qK E f ops T (fun s=>K s=some x) s
 | .done,_,_,_,h=>h
 | .stop,_,_,_,_=>trivial
 | .take j C T,K,s,x,h=>by
  unfold oT at h
  unfold qK
  split at h
  ·rename_i hk
   rw [hk]
   exact bM (jA hc hr h) fun s' h'=>iO hc hr hm h'
  ·cases h
 | .al j W T,K,s,x,h=>by
  unfold oT at h
  unfold qK
  split at h
  ·rename_i hk
   obtain ⟨h1,h2⟩:=aQ h
   rw [hk]
   exact ⟨h1,bM (jA hc hr h2) fun s' h'=>iO hc hr hm h'⟩
  ·cases h
 | .br i re C T more,K,s,x,h=>by
  have first:∀ {x:X},(match nth ops i with
   | some oi=>nL E fz call kK f ops oi (fun s'=>bif oh E f ops re s' then oT E fz call kK eM f ops T K s' else none) s
   | none=>none)=some x→(match nth ops i with
   | some oi=>bL E f ops oi (fun s'=>wP E f ops re s'∧qK E f ops T (fun s=>K s=some x) s') s
   | none=>False):=by
   intro x h
   split at h
   ·rename_i hk
    refine bM (jA hc hr h) fun s' h'=>?_
    obtain ⟨h1,h2⟩:=aQ h'
    exact ⟨oO h1,iO hc hr hm h2⟩
   ·cases h
  unfold qK
  cases more with
  | stop=>exact ⟨first h,trivial⟩
  | done=>obtain ⟨h1,h2⟩:=hm _ _ _ h; exact ⟨first h1,iO (T:=.done) hc hr hm h2⟩
  | take a b c=>obtain ⟨h1,h2⟩:=hm _ _ _ h; exact ⟨first h1,iO hc hr hm h2⟩
  | br a b c d e=>obtain ⟨h1,h2⟩:=hm _ _ _ h; exact ⟨first h1,iO hc hr hm h2⟩
  | al a b c=>obtain ⟨h1,h2⟩:=hm _ _ _ h; exact ⟨first h1,iO hc hr hm h2⟩
end sound
end Go.Am
namespace Go.Am
open Go
section
variable {C:kZ} {ih:N1}
def rC (C:kZ) (ih:N1):Prop:=∀ (f:FuncId) (p:Nat) (c:Code) (X:Type) (eM:Option X→Option X→Option X),sm eM→∀ (K:Exit→St→Option X) (s:St) (x:X),
 bi (C.D.dt f) c=true→ih f p c X eM K s=some x→ka C.D.toEnv c (fun e s'=>K e s'=some x) s
theorem mw {X:Type}:sm (vT (X:=X)):=fun a b x h=>by
 unfold vT at h
 by_cases e:a=b
 ·rw [if_pos e] at h
  exact ⟨h,e ▸ h⟩
 ·rw [if_neg e] at h
  cases h
theorem kM (hs:rC C ih) {X:Type} {eM:Option X→Option X→Option X} (hm:sm eM):mu C.D.toEnv (wY C ih eM):=fun g args G K x h=>by
 unfold wY at h
 obtain ⟨eW,h⟩:=aQ h
 split at h
 ·rename_i fn Uq
  split at h
  ·rename_i b hb
   obtain ⟨hn,h⟩:=aQ h
   have fin:∀ {K':AV→List GO→Option X},ih g 1 b X eM (F5 C.D.toEnv fn K') (St.init fn.ntmps args G)=some x→cA C.D.toEnv g args G (fun r G'=>K' r G'=some x):=by
    intro K' h
    refine cA.intro Uq hb (by simpa using hn) ((hs g 1 b X eM hm _ _ x (C.D.JS g fn b eW Uq hb) h).mono fun e s' hq=>?_)
    have hq:=hq.1
    unfold F5 at hq
    unfold JP
    cases e <;> first | (cases hq; done) | skip
    all_goals (simp only at hq ⊢)
    all_goals (split at hq <;> first | (cases hq; done) | skip)
    all_goals (rename_i hl; rw [hl]; simp only)
    all_goals (split at hq <;> first | (cases hq; done) | skip)
    all_goals (rename_i H6; rw [H6]; exact hq)
   cases QS:C.D.vE g 131072 with
   | true=>rw [QS] at h; exact cA.VO (fin h)
   | false=>rw [QS] at h; exact fin h
  ·cases h
 ·cases h
theorem Ae (yz:∀ g e,C.F3 g=some e→aO C.D.toEnv g e) (hs:rC C ih) {X:Type} {eM:Option X→Option X→Option X} (hm:sm eM):mu C.D.toEnv (wZ C ih eM):=fun g args G K x h=>by
 unfold wZ at h
 split at h
 ·rename_i e he
  obtain ⟨a,ha,h⟩:=bind_some h
  obtain ⟨y,hy,h⟩:=bind_some h
  refine cA.gf (e.ps.oX ha).1 (((yz g e he a y hy) G).mono fun r G' hr=>?_)
  obtain ⟨rfl,rfl⟩:=hr
  exact h
 ·split at h
  ·rename_i e he
   split at h
   ·rename_i c r G' hf
    obtain ⟨hc,h⟩:=aQ h
    subst hc
    refine (e.ok args G r G' hf).mono fun r' J1 hh=>?_
    obtain ⟨rfl,rfl⟩:=hh
    exact h
   ·cases h
  ·split at h
   ·rename_i e he
    obtain ⟨a,ha,h⟩:=bind_some h
    obtain ⟨y,hy,h⟩:=bind_some h
    refine cA.gf (e.ps.oX ha).1 ((e.ok a y hy G).mono fun r G' hr=>?_)
    obtain ⟨z,rfl,hr⟩:=hr
    exact (Ab e.outs z hr).trans h
   ·exact kM hs hm g args G K x h
theorem Af {n:Nat}:∀ {l:List Tmp},Ik n l=true→∀ t∈l,t < n
 | [],_,t,ht=>by simp at ht
 | a :: l,h,t,ht=>by
  simp only [Ik,Bool.and_eq_true] at h
  rcases List.mem_cons.1 ht with rfl | ht
  ·exact jf h.1
  ·exact Af h.2 t ht
theorem Ca (hs:rC C ih) {X:Type} {eM:Option X→Option X→Option X} (hm:sm eM):so C.D.toEnv (Il C ih eM):=fun id args G K x h=>by
 unfold Il at h
 split at h
 ·rename_i p fp sl n ps pi bd d hG
  obtain ⟨hc,h⟩:=aQ h
  simp only [Bool.and_eq_true] at hc
  obtain ⟨⟨⟨h1,h2⟩,h3⟩,h4⟩:=hc
  refine jV.intro hG (Nat.eq_of_beq_eq_true h1) (Af h2) ((hs _ _ pi X eM hm _ _ x h3 h).mono fun e s1 hq=>?_)
  have hq:=hq.1
  unfold yj
  cases e with
  | normal=>
   simp only at hq ⊢
   split at hq
   ·rename_i p' fn NV n' Pf Ih NZ d' Se
    rw [Se]
    simp only
    refine (hs _ _ bd X eM hm _ _ x h4 hq).mono fun e2 s2 mV=>?_
    have mV:B6 id K e2 s2=some x:=mV.1
    unfold B6 at mV
    unfold BZ
    split at mV
    ·rename_i O5
     rw [O5]
     cases e2 <;> first | (cases mV; done) | exact mV
    ·cases mV
   ·cases hq
  | _=>cases hq
 ·cases h
theorem ka.of {E:Env} {c:Code} {Q Q':Exit→St→Prop} {s:St} (h:ka E c Q s) (hq:∀ e s',Q e s'→aJ s s'→Q' e s'):eS E c Q' s:=
 eS.mono h fun e s' hh=>hq e s' hh.1 hh.2
theorem qv {s s':St} {e:Exit}:∀ {outs:List (XK × bR)} {o:JT outs},kA s outs e s'=some o→∃ (t:bR) (v:t.ps.T),t.dec s s'=some v∧∀ (α:Type) (K:Exit→St→α),Hz s outs o K=K e (t.st s v)
 | [],o,h=>by cases h
 | [x],o,h=>by
  obtain ⟨h1,h2⟩:=aQ (show (bif x.1.is e then x.2.dec s s' else none)=some o from h)
  exact ⟨x.2,o,h2,fun _ K=>by rw [XK.CW h1]; rfl⟩
 | x :: y :: l,o,h=>by
  have h:(bif x.1.is e then (x.2.dec s s').bind fun v=>some (.inl v) else (kA s (y :: l) e s').bind fun o=>some (.inr o))=some o:=h
  cases hx:x.1.is e with
  | true=>
   rw [hx] at h
   obtain ⟨v,h1,h2⟩:=bind_some h
   cases h2
   exact ⟨x.2,v,h1,fun _ K=>by rw [XK.CW hx]; rfl⟩
  | false=>
   rw [hx] at h
   obtain ⟨v,h1,h2⟩:=bind_some h
   cases h2
   obtain ⟨t,u,k1,k2⟩:=qv h1
   exact ⟨t,u,k1,fun α K=>k2 α K⟩
theorem bR.nO (t:bR) (s:St) (v:t.ps.T):aJ s (t.st s v):=by
 have h1:∀ (W:List Tmp) (b:aT),∃ pre,uN W b=pre++b:=fun W b=>by
  induction W with
  | nil=>exact ⟨[],rfl⟩
  | cons t W ih=>obtain ⟨p,hp⟩:=ih; exact ⟨.put t .none :: p,by simp [uN,hp]⟩
 have h2:∀ (ts:List Tmp) (l:List AV) (b:aT),∃ pre,nE ts l b=pre++b:=fun ts=>by
  induction ts with
  | nil=>intro l b; exact ⟨[],by cases l <;> rfl⟩
  | cons t ts ih=>
   intro l b
   cases l with
   | nil=>exact ⟨[],rfl⟩
   | cons a l=>obtain ⟨p,hp⟩:=ih l b; exact ⟨.put t (.v a) :: p,by simp [nE,hp]⟩
 have h3:∀ (bx:List (Nat × Nat)) (l:List AV) (b:ck),∃ pre,sh bx l b=pre++b:=fun bx=>by
  induction bx with
  | nil=>intro l b; exact ⟨[],rfl⟩
  | cons x bx ih=>
   obtain ⟨k,n⟩:=x
   intro l b
   obtain ⟨p,hp⟩:=ih (l.drop n) b
   exact ⟨(k,l.take n) :: p,by simp [sh,hp]⟩
 have h4:∀ (l:List (Tmp × Nat × Nat)) (b:aT),∃ pre,nF l b=pre++b:=fun l b=>by
  induction l with
  | nil=>exact ⟨[],rfl⟩
  | cons x l ih=>obtain ⟨t,k,o⟩:=x; obtain ⟨p,hp⟩:=ih; exact ⟨.put t (.lp k o) :: p,by simp [nF,hp]⟩
 obtain ⟨p1,e1⟩:=h1 t.W s.ae
 obtain ⟨p2,e2⟩:=h2 t.sl (t.oz v) (uN t.W s.ae)
 obtain ⟨p3,e3⟩:=h3 t.bx ((t.oz v).drop t.sl.length) s.boxes
 obtain ⟨p4,e4⟩:=h4 t.NX (p2++(p1++s.ae))
 exact ⟨⟨p4++(p2++p1),by rw [show (t.st s v).ae=nF t.NX (nE t.sl (t.oz v) (uN t.W s.ae)) from rfl,e2,e1,e4,List.append_assoc,List.append_assoc]⟩,⟨p3,e3⟩,rfl⟩
theorem eS.Pr {E:Env} {c:Code} {s s1:St} {gh:List (Loc × Nat × TypeId)} {head:bR} {outs:List (XK × bR)} {rd:head.ps.T→Option (head.ps.T ⊕ JT outs)} {N:Nat} {v0:head.ps.T} {o:JT outs} {Q:Exit→St→Prop}
  (hg:Am.fJ gh s=some s1) (h0:head.dec s1 s1=some v0) (hr:∀ v r,rd v=some r→ka E c (fun e s'=>sk s1 head outs e s'=some r) (head.st s1 v))
  (hl:a8 rd N v0=some o) (hQ:∀ (t:bR) (v:t.ps.T) (e:Exit),(∀ (α:Type) (K:Exit→St→α),Hz s1 outs o K=K e (t.st s1 v))→Q e (t.st s1 v)∧aJ s (t.st s1 v)) :
  ka E (.loop c) Q s:=fun R0 w β a F LS EI=>by
 obtain ⟨R,k1,k2,k3,_⟩:=iq LS hg
 have hf:bo R s1.ro F:=by rw [k3]; exact EI.mono k2.ext
 obtain ⟨i1,i2⟩:=bR.xS (aJ.refl s1) k1 k1 (Step.refl R w β s1.boxes) h0
 refine jU (fun m a' w'=>∃ v R' β',a8 rd m v=some o∧aV E R' w' β' (head.st s1 v) a'∧Step R w β s1.boxes R' w' β' (head.st s1 v).boxes) ?_ ⟨v0,_,β,hl,i1,i2⟩
 rintro m a' w' ⟨v,R',β',hm,ky,jE⟩
 cases m with
 | zero=>cases hm
 | succ m=>
  obtain ⟨r,h1,h2⟩:=bind_some (show ((rd v).bind fun o=>Sum.elim (fun v'=>a8 rd m v') (fun x=>some x) o)=some o from hm)
  refine wpIn_mono (hr v r h1 R' w' β' a' F ky (hf.mono jE.ext)) ?_
  rintro e a2 w2 ⟨s2,R2,β2,⟨hK,hx⟩,wI,Cb,z8⟩
  have Cc:aJ s1 s2:=(head.nO s1 v).trans hx
  have EM:=jE.trans Cb
  have out:∀ {u:JT outs},kA s1 outs e s2=some u→r=.inr u→NS E R0 w β s (fun e s'=>Q e s'∧aJ s s') e a2 w2:=fun {u} hu hru=>by
   subst hru
   cases h2
   obtain ⟨t,v',q1,q2⟩:=qv hu
   obtain ⟨j1,j2⟩:=bR.xS Cc k1 wI EM q1
   exact ⟨t.st s1 v',_,β2,hQ t v' e q2,j1,k2.trans j2,k3⟩
  cases e with
  | normal=>
   obtain ⟨v',q1,q2⟩:=bind_some (show ((head.dec s1 s2).bind fun v=>some (.inl v))=some r from hK)
   cases q2
   obtain ⟨j1,j2⟩:=bR.xS Cc k1 wI EM q1
   exact ⟨m,Nat.lt_succ_self m,v',_,β2,h2,j1,j2⟩
  | exit i=>obtain ⟨u,q1,q2⟩:=bind_some (show ((kA s1 outs (.exit i) s2).bind fun o=>some (.inr o))=some r from hK); exact out q1 (Option.some.inj q2).symm
  | ret=>obtain ⟨u,q1,q2⟩:=bind_some (show ((kA s1 outs .ret s2).bind fun o=>some (.inr o))=some r from hK); exact out q1 (Option.some.inj q2).symm
  | goto i=>obtain ⟨u,q1,q2⟩:=bind_some (show ((kA s1 outs (.goto i) s2).bind fun o=>some (.inr o))=some r from hK); exact out q1 (Option.some.inj q2).symm
  | panic i=>obtain ⟨u,q1,q2⟩:=bind_some (show ((kA s1 outs (.panic i) s2).bind fun o=>some (.inr o))=some r from hK); exact out q1 (Option.some.inj q2).symm
  | outgrown=>obtain ⟨u,q1,q2⟩:=bind_some (show ((kA s1 outs .outgrown s2).bind fun o=>some (.inr o))=some r from hK); exact out q1 (Option.some.inj q2).symm
theorem eS.LU {E:Env} {c:Code} {s s1:St} {gh:List (Loc × Nat × TypeId)} {head:bR} {outs:List (XK × bR)} {rd:(head.ps.T→Option (JT outs))→head.ps.T→Option (JT outs)} {N:Nat} {v0:head.ps.T} {o:JT outs} {Q:Exit→St→Prop}
  (hg:Am.fJ gh s=some s1) (h0:head.dec s1 s1=some v0) (hr:∀ k v u,rd k v=some u→ka E c (fun e s'=>F7 s1 head outs k e s'=some u) (head.st s1 v))
  (hl:dJ rd N v0=some o) (hQ:∀ (t:bR) (v:t.ps.T) (e:Exit),(∀ (α:Type) (K:Exit→St→α),Hz s1 outs o K=K e (t.st s1 v))→Q e (t.st s1 v)∧aJ s (t.st s1 v)) :
  ka E (.loop c) Q s:=fun R0 w β a F LS EI=>by
 obtain ⟨R,k1,k2,k3,_⟩:=iq LS hg
 have hf:bo R s1.ro F:=by rw [k3]; exact EI.mono k2.ext
 obtain ⟨i1,i2⟩:=bR.xS (aJ.refl s1) k1 k1 (Step.refl R w β s1.boxes) h0
 refine jU (fun m a' w'=>∃ v R' β',dJ rd m v=some o∧aV E R' w' β' (head.st s1 v) a'∧Step R w β s1.boxes R' w' β' (head.st s1 v).boxes) ?_ ⟨v0,_,β,hl,i1,i2⟩
 rintro m a' w' ⟨v,R',β',hm,ky,jE⟩
 cases m with
 | zero=>cases hm
 | succ m=>
  refine wpIn_mono (hr (dJ rd m) v o hm R' w' β' a' F ky (hf.mono jE.ext)) ?_
  rintro e a2 w2 ⟨s2,R2,β2,⟨hK,hx⟩,wI,Cb,z8⟩
  have Cc:aJ s1 s2:=(head.nO s1 v).trans hx
  have EM:=jE.trans Cb
  have out:kA s1 outs e s2=some o→NS E R0 w β s (fun e s'=>Q e s'∧aJ s s') e a2 w2:=fun hu=>by
   obtain ⟨t,v',q1,q2⟩:=qv hu
   obtain ⟨j1,j2⟩:=bR.xS Cc k1 wI EM q1
   exact ⟨t.st s1 v',_,β2,hQ t v' e q2,j1,k2.trans j2,k3⟩
  cases e with
  | normal=>
   obtain ⟨v',q1,q2⟩:=bind_some (show (head.dec s1 s2).bind (dJ rd m)=some o from hK)
   obtain ⟨j1,j2⟩:=bR.xS Cc k1 wI EM q1
   exact ⟨m,Nat.lt_succ_self m,v',_,β2,q2,j1,j2⟩
  | exit i=>exact out hK
  | ret=>exact out hK
  | goto i=>exact out hK
  | panic i=>exact out hK
  | outgrown=>exact out hK
theorem eS.LV {E:Env} {X:Type} {c:Code} {s s1:St} {gh:List (Loc × Nat × TypeId)} {head:bR} {K:Exit→St→Option X} {rd:(head.ps.T→Option X)→head.ps.T→Option X} {N:Nat} {v0:head.ps.T} {o:X}
  (hg:Am.fJ gh s=some s1) (h0:head.dec s1 s1=some v0) (hr:∀ k v u,rd k v=some u→ka E c (fun e s'=>F9 s1 head K k e s'=some u) (head.st s1 v))
  (hl:dJ rd N v0=some o) :
  ka E (.loop c) (fun e s'=>K e s'=some o) s:=fun R0 w β a F LS EI=>by
 obtain ⟨R,k1,k2,k3,_⟩:=iq LS hg
 have hf:bo R s1.ro F:=by rw [k3]; exact EI.mono k2.ext
 obtain ⟨i1,i2⟩:=bR.xS (aJ.refl s1) k1 k1 (Step.refl R w β s1.boxes) h0
 refine jU (fun m a' w'=>∃ v R' β',dJ rd m v=some o∧aV E R' w' β' (head.st s1 v) a'∧Step R w β s1.boxes R' w' β' (head.st s1 v).boxes) ?_ ⟨v0,_,β,hl,i1,i2⟩
 rintro m a' w' ⟨v,R',β',hm,ky,jE⟩
 cases m with
 | zero=>cases hm
 | succ m=>
  refine wpIn_mono (hr (dJ rd m) v o hm R' w' β' a' F ky (hf.mono jE.ext)) ?_
  rintro e a2 w2 ⟨s2,R2,β2,⟨hK,hx⟩,wI,Cb,z8⟩
  have Cc:aJ s1 s2:=(head.nO s1 v).trans hx
  have EM:=jE.trans Cb
  have out:K e s2=some o→NS E R0 w β s (fun e s'=>K e s'=some o∧aJ s s') e a2 w2:=fun hu=>
   ⟨s2,R2,β2,⟨hu,(j9 hg).trans Cc⟩,wI,k2.trans EM,z8.trans k3⟩
  cases e with
  | normal=>
   obtain ⟨v',q1,q2⟩:=bind_some (show (head.dec s1 s2).bind (dJ rd m)=some o from hK)
   obtain ⟨j1,j2⟩:=bR.xS Cc k1 wI EM q1
   exact ⟨m,Nat.lt_succ_self m,v',_,β2,q2,j1,j2⟩
  | exit i=>exact out hK
  | ret=>exact out hK
  | goto i=>exact out hK
  | panic i=>exact out hK
  | outgrown=>exact out hK
end
def oQ (E:Env):List Bool→Code→(Exit→St→Prop)→St→Prop
 | [],_,Q,s=>Q .normal s
 | true :: k,.seq x y,Q,s=>ka E x (r8 (oQ E k y Q) Q) s
 | false :: k,.seq x _,Q,s=>oQ E k x Q s
 | _ :: _,_,_,_=>False
def kb (E:Env):List Bool→Code→(Exit→St→Prop)→St→Prop
 | [],c,Q,s=>ka E c Q s
 | true :: k,.seq _ y,Q,s=>kb E k y Q s
 | false :: k,.seq x y,Q,s=>kb E k x (r8 (ka E y Q) Q) s
 | _ :: _,_,_,_=>False
def C3 (F:Fence) (P:Program):List Bool→Code→(Exit→Act→World→Prop)→Act→World→Prop
 | [],c,Q,a,w=>c.wpIn F 0 P Q a w
 | true :: k,.seq _ y,Q,a,w=>C3 F P k y Q a w
 | false :: k,.seq x y,Q,a,w=>C3 F P k x (Exit.then (fun a' w'=>y.wpIn F 0 P Q a' w') Q) a w
 | _ :: _,_,_,_,_=>False
section So
variable {E:Env} {s1:St} {R:aj} {w:World} {β:Nat→Nat} {F:Fence}
def At (E:Env) (s1:St) (R:aj) (w:World) (β:Nat→Nat) (s:St) (a:Act) (w':World):Prop:=
 ∃ R' β',aJ s1 s∧aV E R' w' β' s a∧Step R w β s1.boxes R' w' β' s.boxes∧s.ro=s1.ro
theorem ka.at {c:Code} {Q:Exit→St→Prop} {s:St} {a:Act} {w':World} {Φ:Exit→Act→World→Prop} (hf:bo R s1.ro F) (h:ka E c Q s) (mL:At E s1 R w β s a w') (hQ:∀ e s' a' w',Q e s'→At E s1 R w β s' a' w'→Φ e a' w'):c.wpIn F 0 E.P Φ a w':=by
 obtain ⟨R',β',hx,hr,jE,bA⟩:=mL
 refine wpIn_mono (h R' w' β' a F hr (by rw [bA]; exact hf.mono jE.ext)) ?_
 rintro e a2 w2 ⟨s2,R2,β2,⟨hq,Cc⟩,wI,Cb,z8⟩
 exact hQ e s2 a2 w2 hq ⟨R2,β2,hx.trans Cc,wI,jE.trans Cb,z8.trans bA⟩
theorem kb.at (hf:bo R s1.ro F):∀ (k:List Bool) (c:Code) {Q:Exit→St→Prop} {s:St} {a:Act} {w':World} {Φ:Exit→Act→World→Prop},kb E k c Q s→At E s1 R w β s a w'→(∀ e s' a' w',Q e s'→At E s1 R w β s' a' w'→Φ e a' w')→C3 F E.P k c Φ a w'
 | [],c,Q,s,a,w',Φ,h,mL,hQ=>ka.at hf h mL hQ
 | true :: k,c,Q,s,a,w',Φ,h,mL,hQ=>by
  cases c with
  | seq x y=>exact kb.at hf k y h mL hQ
  | _=>exact h.elim
 | false :: k,c,Q,s,a,w',Φ,h,mL,hQ=>by
  cases c with
  | seq x y=>
   refine kb.at hf k x (Q:=r8 (ka E y Q) Q) h mL fun e s' a' w' hq pq=>?_
   cases e with
   | normal=>exact ka.at hf hq pq hQ
   | _=>exact hQ _ s' a' w' hq pq
  | _=>exact h.elim
theorem oQ.at (hf:bo R s1.ro F):∀ (k:List Bool) (c:Code) {Q:Exit→St→Prop} {s:St} {a:Act} {w':World} {Φ:Exit→Act→World→Prop},oQ E k c Q s→At E s1 R w β s a w' →
  (∀ s' a' w',Q .normal s'→At E s1 R w β s' a' w'→C3 F E.P k c Φ a' w')→(∀ e s' a' w',e≠.normal→Q e s'→At E s1 R w β s' a' w'→Φ e a' w')→c.wpIn F 0 E.P Φ a w'
 | [],c,Q,s,a,w',Φ,h,mL,hS,hQ=>hS s a w' h mL
 | true :: k,c,Q,s,a,w',Φ,h,mL,hS,hQ=>by
  cases c with
  | seq x y=>
   refine wpIn_seq (ka.at hf (show ka E x (r8 (oQ E k y Q) Q) s from h) mL fun e s' a' w' hq pq=>?_)
   cases e with
   | normal=>exact oQ.at hf k y hq pq hS hQ
   | exit i=>exact hQ _ s' a' w' (by simp) hq pq
   | ret=>exact hQ _ s' a' w' (by simp) hq pq
   | goto i=>exact hQ _ s' a' w' (by simp) hq pq
   | panic i=>exact hQ _ s' a' w' (by simp) hq pq
   | outgrown=>exact hQ _ s' a' w' (by simp) hq pq
  | _=>exact h.elim
 | false :: k,c,Q,s,a,w',Φ,h,mL,hS,hQ=>by
  cases c with
  | seq x y=>
   refine wpIn_seq (oQ.at hf k x (Q:=Q) h mL hS fun e s' a' w' cq hq pq=>?_)
   cases e with
   | normal=>exact absurd rfl cq
   | exit i=>exact hQ _ s' a' w' cq hq pq
   | ret=>exact hQ _ s' a' w' cq hq pq
   | goto i=>exact hQ _ s' a' w' cq hq pq
   | panic i=>exact hQ _ s' a' w' cq hq pq
   | outgrown=>exact hQ _ s' a' w' cq hq pq
  | _=>exact h.elim
end So
theorem eS.Io {E:Env} {b:Code} {s s1:St} {gh:List (Loc × Nat × TypeId)} {head:bR} {outs:List (XK × bR)} {pre:St→Option (head.ps.T ⊕ JT outs)} {rd:head.ps.T→Option (head.ps.T ⊕ JT outs)} {N:Nat} {k:List Bool} {r0:head.ps.T ⊕ JT outs} {o:JT outs} {Q:Exit→St→Prop}
  (hg:Am.fJ gh s=some s1) (h0:pre s1=some r0)
  (hp:∀ s2 r,pre s2=some r→oQ E k b (fun e s'=>sk s1 head outs e s'=some r) s2)
  (hr:∀ v r,rd v=some r→kb E k b (fun e s'=>wX pre (sk s1 head outs) e s'=some r) (head.st s1 v))
  (hl:Sum.elim (fun v=>a8 rd N v) (fun x=>some x) r0=some o) (hQ:∀ (t:bR) (v:t.ps.T) (e:Exit),(∀ (α:Type) (K:Exit→St→α),Hz s1 outs o K=K e (t.st s1 v))→Q e (t.st s1 v)∧aJ s (t.st s1 v)) :
  ka E (.loop b) Q s:=fun R0 w β a F LS EI=>by
 obtain ⟨R,k1,k2,k3,_⟩:=iq LS hg
 have hf:bo R s1.ro F:=by rw [k3]; exact EI.mono k2.ext
 refine jU (fun n a' w'=>∃ s2 r,pre s2=some r∧Sum.elim (fun v=>a8 rd n v) (fun x=>some x) r=some o∧At E s1 R w β s2 a' w') ?_ ⟨s1,r0,h0,hl,R,β,aJ.refl s1,k1,Step.refl _ _ _ _,rfl⟩
 rintro n a' w' ⟨s2,r,O9,QT,mL⟩
 -- a way out
 have out:∀ {e:Exit} {s3:St} {a3:Act} {w3:World} {r:head.ps.T ⊕ JT outs} {n:Nat},e≠.normal→sk s1 head outs e s3=some r→Sum.elim (fun v=>a8 rd n v) (fun x=>some x) r=some o→At E s1 R w β s3 a3 w3→NS E R0 w β s (fun e s'=>Q e s'∧aJ s s') e a3 w3:=fun {e s3 a3 w3 r n} cq hK QT mL=>by
  obtain ⟨R3,β3,Sp,O3,LW,Sq⟩:=mL
  have key:∀ {u:JT outs},kA s1 outs e s3=some u→r=.inr u→NS E R0 w β s (fun e s'=>Q e s'∧aJ s s') e a3 w3:=fun {u} hu hru=>by
   subst hru
   obtain rfl:=Option.some.inj QT
   obtain ⟨t,v',q1,q2⟩:=qv hu
   obtain ⟨j1,j2⟩:=bR.xS Sp k1 O3 LW q1
   exact ⟨t.st s1 v',_,_,hQ t v' _ q2,j1,k2.trans j2,k3⟩
  cases e with
  | normal=>exact absurd rfl cq
  | exit i=>obtain ⟨u,q1,q2⟩:=bind_some (show ((kA s1 outs (.exit i) s3).bind fun o=>some (.inr o))=some r from hK); exact key q1 (Option.some.inj q2).symm
  | ret=>obtain ⟨u,q1,q2⟩:=bind_some (show ((kA s1 outs .ret s3).bind fun o=>some (.inr o))=some r from hK); exact key q1 (Option.some.inj q2).symm
  | goto i=>obtain ⟨u,q1,q2⟩:=bind_some (show ((kA s1 outs (.goto i) s3).bind fun o=>some (.inr o))=some r from hK); exact key q1 (Option.some.inj q2).symm
  | panic i=>obtain ⟨u,q1,q2⟩:=bind_some (show ((kA s1 outs (.panic i) s3).bind fun o=>some (.inr o))=some r from hK); exact key q1 (Option.some.inj q2).symm
  | outgrown=>obtain ⟨u,q1,q2⟩:=bind_some (show ((kA s1 outs .outgrown s3).bind fun o=>some (.inr o))=some r from hK); exact key q1 (Option.some.inj q2).symm
 refine oQ.at hf k b (hp s2 r O9) mL (fun s3 a3 w3 hK LX=>?_) (fun e s3 a3 w3 cq hK LX=>?_)
 ·obtain ⟨v,q1,q2⟩:=bind_some (show ((head.dec s1 s3).bind fun v=>some (.inl v))=some r from hK)
  obtain rfl:=Option.some.inj q2
  have yM:a8 rd n v=some o:=QT
  cases n with
  | zero=>cases yM
  | succ n=>
   obtain ⟨r',h1,h2⟩:=bind_some (show ((rd v).bind fun o=>Sum.elim (fun v'=>a8 rd n v') (fun x=>some x) o)=some o from yM)
   obtain ⟨R3,β3,Sp,O3,LW,Sq⟩:=LX
   obtain ⟨j1,j2⟩:=bR.xS Sp k1 O3 LW q1
   refine kb.at hf k b (hr v r' h1) ⟨_,_,head.nO s1 v,j1,j2,rfl⟩ fun e s4 a4 w4 N2 Ej=>?_
   cases e with
   | normal=>exact ⟨n,Nat.lt_succ_self n,s4,r',N2,h2,Ej⟩
   | exit i=>exact out (by simp) N2 h2 Ej
   | ret=>exact out (by simp) N2 h2 Ej
   | goto i=>exact out (by simp) N2 h2 Ej
   | panic i=>exact out (by simp) N2 h2 Ej
   | outgrown=>exact out (by simp) N2 h2 Ej
 ·have:=out cq hK QT LX
  cases e with
  | normal=>exact absurd rfl cq
  | _=>exact this
theorem pt {C:kZ} {ih:N1} (hs:rC C ih) {X:Type} {f:FuncId} {K:Exit→St→Option X}:∀ (k:List Bool) (q:Nat) (c:Code) (s:St) (x:X),bi (C.D.dt f) c=true→Gb ih vT f K k q c s=some x→oQ C.D.toEnv k c (fun e s'=>K e s'=some x) s
 | [],_,_,_,_,_,h=>h
 | true :: k,q,c,s,x,hd,h=>by
  cases c with
  | seq a b=>
   rw [bi,Bool.and_eq_true] at hd
   refine (hs f _ a X vT mw _ s x hd.1 h).of fun e s' hq hx=>?_
   cases e with
   | normal=>exact ⟨pt hs k (2 * q+1) b s' x hd.2 hq,hx⟩
   | _=>exact ⟨hq,hx⟩
  | _=>cases h
 | false :: k,q,c,s,x,hd,h=>by
  cases c with
  | seq a b=>
   rw [bi,Bool.and_eq_true] at hd
   exact pt hs k (2 * q) a s x hd.1 h
  | _=>cases h
theorem kb.mono {E:Env}:∀ (k:List Bool) (c:Code) {Q Q':Exit→St→Prop} {s:St},(∀ e s',Q e s'→Q' e s')→kb E k c Q s→kb E k c Q' s
 | [],c,Q,Q',s,hQ,h=>eS.mono h fun e s' hh=>⟨hQ e s' hh.1,hh.2⟩
 | true :: k,c,Q,Q',s,hQ,h=>by
  cases c with
  | seq x y=>exact kb.mono k y hQ h
  | _=>exact h.elim
 | false :: k,c,Q,Q',s,hQ,h=>by
  cases c with
  | seq x y=>
   refine kb.mono k x (Q:=r8 (ka E y Q) Q) (Q':=r8 (ka E y Q') Q') (fun e s' hq=>?_) h
   cases e with
   | normal=>exact eS.mono hq fun e s' hh=>⟨hQ e s' hh.1,hh.2⟩
   | _=>exact hQ _ s' hq
  | _=>exact h.elim
theorem pu {C:kZ} {ih:N1} (hs:rC C ih) {X:Type} {f:FuncId}:∀ (k:List Bool) (q:Nat) (c:Code) (K:Exit→St→Option X) (s:St) (x:X),bi (C.D.dt f) c=true→Im ih vT f k q c K s=some x→kb C.D.toEnv k c (fun e s'=>K e s'=some x) s
 | [],_,c,K,s,x,hd,h=>hs f _ c X vT mw K s x hd h
 | true :: k,q,c,K,s,x,hd,h=>by
  cases c with
  | seq a b=>
   rw [bi,Bool.and_eq_true] at hd
   exact pu hs k (2 * q+1) b K s x hd.2 h
  | _=>cases h
 | false :: k,q,c,K,s,x,hd,h=>by
  cases c with
  | seq a b=>
   rw [bi,Bool.and_eq_true] at hd
   refine kb.mono k a (fun e s' hq=>?_) (pu hs k (2 * q) a _ s x hd.1 h)
   cases e with
   | normal=>exact hs f _ b X vT mw K s' x hd.2 hq
   | _=>exact hq
  | _=>cases h
theorem vj {C:kZ} (yz:∀ g e,C.F3 g=some e→aO C.D.toEnv g e) (n:Nat):rC C (ev C n):=by
 induction n using Nat.strongRecOn with
 | _ n ihn=>
 cases n with
 | zero=>intro f p c X eM _ K s x _ h; cases h
 | succ n=>
  have hs:=ihn n (Nat.lt_succ_self n)
  have plain:∀ (f:FuncId) (p:Nat) (c:Code) (X:Type) (eM:Option X→Option X→Option X),sm eM→∀ (K:Exit→St→Option X) (s:St) (x:X),((∃ b,c=.loop b)→C.B5 f p=none) →
    bi (C.D.dt f) c=true→vb C (ev C n) f p c X eM K s=some x→ka C.D.toEnv c (fun e s'=>K e s'=some x) s:=by
   intro f p c X eM hm K s x jb hd h
   have wV:=Ae yz hs hm
   have Ps:=Ca hs hm
   unfold vb at h
   cases c with
   | skip=>exact eS.skip ⟨h,aJ.refl s⟩
   | label l=>exact eS.label ⟨h,aJ.refl s⟩
   | exit id=>exact eS.exit ⟨h,aJ.refl s⟩
   | ret=>exact eS.ret ⟨h,aJ.refl s⟩
   | seq a b=>
    rw [bi,Bool.and_eq_true] at hd
    refine eS.seq ((hs f _ a X eM hm _ s x hd.1 h).of fun e s' hq hx=>?_)
    cases e with
    | normal=>exact (hs f _ b X eM hm _ s' x hd.2 hq).of fun e s2 mV Cc=>⟨mV,hx.trans Cc⟩
    | _=>exact ⟨hq,hx⟩
   | cond co a b=>
    rw [bi,Bool.and_eq_true] at hd
    simp only at h
    split at h
    ·rename_i t hb
     refine eS.cond hb (fun e=>?_) (fun e=>?_)
     ·subst e; exact hs f _ a X eM hm _ s x hd.1 h
     ·subst e; exact hs f _ b X eM hm _ s x hd.2 h
    ·cases h
   | block id c=>
    refine eS.block ((hs f _ c X eM hm _ s x hd h).of fun e s' hq hx=>?_)
    cases e with
    | exit iS=>
     simp only [F4] at hq
     refine ⟨fun e=>?_,fun e=>?_⟩
     ·subst e; rw [pJ] at hq; exact ⟨hq,hx⟩
     ·rw [lV e] at hq; exact ⟨hq,hx⟩
    | _=>exact ⟨hq,hx⟩
   | scope c=>
    refine eS.scope ((hs f _ c X eM hm _ s x hd h).of fun e s' hq hx=>?_)
    cases e with
    | goto l=>cases hq
    | _=>exact ⟨hq,hx⟩
   | region id ops dr=>
    cases dr with
    | false=>exact eS.region (f:=f) (xd (vi wV Ps h))
    | true=>
     simp only at h
     rw [bi] at hd
     split at h
     ·rename_i pl hT
      rw [hT] at hd
      exact eS.draw (f:=f) hd (qu (iO wV Ps hm h))
     ·cases h
   | loop b=>
    have J9:=jb ⟨b,rfl⟩
    refine eS.loop (fun m s'=>m≤n+1∧ev C m f p (.loop b) X eM K s'=some x∧aJ s s') ?_ (m:=n+1) ⟨Nat.le_refl _,?_,aJ.refl s⟩
    ·rintro m s' ⟨KX,hr,hx⟩
     cases m with
     | zero=>cases hr
     | succ m=>
      have ky:vc C (ev C m) f p (.loop b) X eM K s'=some x:=hr
      unfold vc at ky
      rw [J9] at ky
      refine (ihn m (by omega) f _ b X eM hm _ s' x hd ky).of fun e s2 hq Cc=>?_
      cases e with
      | normal=>exact ⟨m,Nat.lt_succ_self m,by omega,hq,hx.trans Cc⟩
      | _=>exact ⟨hq,hx.trans Cc⟩
    ·show vc C (ev C n) f p (.loop b) X eM K s=some x
     unfold vc
     rw [J9]
     exact h
   | rangeFunc g ps pi bd=>
    simp only at h
    split at h
    ·rename_i bA
     split at h
     ·rename_i hf first cap hg
      refine eS.rangeFunc (4096 * p+f) bA hg ((wV _ _ _ _ _ h).mono fun r G' hq=>?_)
      unfold R6
      split at hq
      ·rename_i busy pending fn sl nn pp aa bb dd done BW
       rw [BW]
       simp only
       obtain ⟨h1,h2⟩:=aQ hq
       refine ⟨by cases busy <;> cases done <;> simp_all,?_⟩
       have Ia:∀ (G:List GO) (m:List Nat),aJ s ⟨s.ae,s.boxes,G,m,s.ro,s.n⟩:=fun _ _=>⟨⟨[],rfl⟩,⟨[],rfl⟩,rfl⟩
       split at h2
       ·rw [cg] at h2; exact ⟨h2,Ia _ _⟩
       ·rw [cg] at h2; exact eS.ret ⟨h2,Ia _ _⟩
       ·rw [cg] at h2; exact eS.exit ⟨h2,Ia _ _⟩
       ·cases h2
      ·cases hq
     ·cases h
    ·rename_i id bA
     split at h
     ·rename_i Uc p0 Ud Ue n0 Uf Ug Uh d0 Ui Sr
      split at h
      ·rename_i hf first cap hg
       refine eS.BY (4096 * p+f) bA Sr hg ((wV _ _ _ _ _ h).mono fun r G' hq=>?_)
       unfold LH
       split at hq
       ·rename_i busy pending fn sl nn pp aa bb dd done BW
        rw [BW]
        simp only
        obtain ⟨h1,h2⟩:=aQ hq
        refine ⟨by cases busy <;> cases done <;> simp_all,?_⟩
        have Ia:∀ (G:List GO) (m:List Nat),aJ s ⟨s.ae,s.boxes,G,m,s.ro,s.n⟩:=fun _ _=>⟨⟨[],rfl⟩,⟨[],rfl⟩,rfl⟩
        split at h2
        ·rw [cg] at h2; exact ⟨h2,Ia _ _⟩
        ·rw [cg] at h2; exact eS.ret ⟨h2,Ia _ _⟩
        ·rw [cg] at h2; exact eS.exit ⟨h2,Ia _ _⟩
        ·cases h2
       ·cases hq
      ·cases h
     ·cases h
   | _=>cases h
  intro f p c X eM hm K s x hd h
  change vc C (ev C n) f p c X eM K s=some x at h
  unfold vc at h
  split at h
  ·rename_i hc
   exact plain f p c X eM hm K s x (fun _=>hc) hd h
  ·rename_i ct XO
   split at h
   ·rename_i vk hc
    generalize qq (ji c []) vk=outs at h
    cases Fo:F6 c with
    | true=>rw [Fo] at h; cases h
    | false=>
    rw [Fo] at h
    obtain ⟨o,h1,h2⟩:=bind_some (show (vb C (ev C n) f p c (JT outs) vT (kA s outs) s).bind (fun o=>Hz s outs o K)=some x from h)
    have hp:=plain f p c (JT outs) vT mw (kA s outs) s o (fun ⟨b,hb⟩=>by subst hb; cases Fo) hd h1
    refine eS.Si (s:=s) (Q':=fun e s'=>kA s outs e s'=some o) (eS.mono hp fun e s' hh=>⟨hh.2,hh.1⟩) fun e s' hq=>?_
    obtain ⟨t,v,q1,q2⟩:=qv hq
    exact ⟨t,v,q1,(q2 _ K).symm.trans h2,t.nO s v⟩
   ·rename_i gh vl vk hc
    split at h
    ·rename_i b
     split at h
     ·rename_i s1 hg
      generalize qq (ji b []) vk=outs at h
      generalize qp (ji b []) vl=head at h
      unfold J7 at h
      obtain ⟨v0,h0,h⟩:=bind_some h
      obtain ⟨o,hl,h⟩:=bind_some h
      refine eS.Pr hg h0 (fun v r hr=>hs f _ b _ vT mw _ _ r hd hr) hl fun t v e gR=>?_
      exact ⟨(gR _ K).symm.trans h,(j9 hg).trans (t.nO s1 v)⟩
     ·cases h
    ·cases h
   ·rename_i k gh vl vk hc
    split at h
    ·rename_i b
     split at h
     ·rename_i s1 hg
      generalize qq (ji b []) vk=outs at h
      generalize qp (ji b []) vl=head at h
      unfold Pq at h
      obtain ⟨o,hl,h⟩:=bind_some h
      obtain ⟨r0,h0,hl⟩:=bind_some hl
      refine eS.Io hg h0 (fun s2 r hr=>pt hs k (2 * p) b s2 r hd hr) (fun v r hr=>pu hs k (2 * p) b _ _ r hd hr) hl fun t v e gR=>?_
      exact ⟨(gR _ K).symm.trans h,(j9 hg).trans (t.nO s1 v)⟩
     ·cases h
    ·cases h
   ·rename_i gh vl vk hc
    split at h
    ·rename_i b
     split at h
     ·rename_i s1 hg
      generalize qq (ji b []) vk=outs at h
      generalize qp (ji b []) vl=head at h
      unfold F8 at h
      obtain ⟨v0,h0,h⟩:=bind_some h
      obtain ⟨o,hl,h⟩:=bind_some h
      refine eS.LU hg h0 (fun k v u hu=>hs f _ b _ vT mw _ _ u hd hu) hl fun t v e gR=>?_
      exact ⟨(gR _ K).symm.trans h,(j9 hg).trans (t.nO s1 v)⟩
     ·cases h
    ·cases h
   ·rename_i gh vl hc
    split at h
    ·rename_i b
     split at h
     ·rename_i s1 hg
      generalize qp (ji b []) vl=head at h
      unfold Ga at h
      obtain ⟨v0,h0,hl⟩:=bind_some h
      exact eS.LV hg h0 (fun k v u hu=>hs f _ b _ vT mw _ _ u hd hu) hl
     ·cases h
    ·cases h
   ·cases h
end Go.Am
namespace Go.Am
open Go
noncomputable def kZ.fn (C:kZ) (n:Nat) (g:FuncId) (ps:aC) (p:ah) (x:ps.T):Option p.T:=
 wY C (ev C n) vT g (ps.enc x) [] (fun r _=>p.dec r)
theorem kZ.fW {C:kZ} (yz:∀ g e,C.F3 g=some e→aO C.D.toEnv g e) {n:Nat} {g:FuncId} {ps:aC} {p:ah} (h1:ps.under 0=true) (h2:p.under 0=true) :
  aO C.D.toEnv g ⟨ps,p,C.fn n g ps p⟩:=fun x y h=>by
 refine bg.mono (bg.of (p:=p) (Q:=fun z=>z=y) (ps.cK x h1) h2 ((kM (vj yz n) mw g _ [] _ y h).mono fun r _ hr=>⟨y,hr,rfl⟩)) ?_
 rintro r ⟨z,rfl,rfl⟩
 rfl
noncomputable def kZ.Ur (C:kZ) (n:Nat) (g:FuncId) (ps:aC) (outs:List RF) (x:ps.T):Option (XT outs):=
 wY C (ev C n) vT g (ps.enc x) [] (fun r G=>Eb G r outs)
theorem kZ.LY {C:kZ} (yz:∀ g e,C.F3 g=some e→aO C.D.toEnv g e) {n:Nat} {g:FuncId} {ps:aC} {outs:List RF} (h1:ps.under 0=true) (h2:outs.all RF.under=true) :
  ∀ x y,C.Ur n g ps outs x=some y→nJ C.D.toEnv g (ps.enc x) outs (fun z=>z=y):=fun x y h=>
 nJ.of (ps.cK x h1) (List.all_eq_true.1 h2) ((kM (vj yz n) mw g _ [] _ y h).mono fun r G' hr=>⟨y,hr,rfl⟩)
theorem bg.env {E E':Env} {g:FuncId} {args:List AV} {Q:AV→Prop} (hP:E.P=E'.P) (hg:E.dD=E'.dD) (h:bg E g args Q) (tU:E.lo=E'.lo:=by rfl) (Pt:E.gx=E'.gx:=by rfl):bg E' g args Q:=by
 have go:∀ {R:aj} {w:World} {x:Nat} {cs:List AV},kV E R w x cs↔kV E' R w x cs:=fun {R w x cs}=>by unfold kV; rw [Pt]
 have xS:∀ {R:aj} {w:World} {G:List GO},dP E R w G↔dP E' R w G:=fun {R w G}=>
  ⟨fun h=>⟨h.len,h.obj,h.inj,h.wf,fun g cs hh=>go.1 (h.dD g cs (by rw [hg]; exact hh)),by rw [← tU]; exact h.lo⟩,fun h=>⟨h.len,h.obj,h.inj,h.wf,fun g cs hh=>go.2 (h.dD g cs (by rw [← hg]; exact hh)),by rw [tU]; exact h.lo⟩⟩
 intro G
 obtain ⟨h1,h2⟩:=h G
 rw [hP] at h1 h2
 refine ⟨h1,fun R w cs hr hl=>(h2 R w cs (xS.2 hr) hl).mono fun e w' he=>?_⟩
 cases e with
 | returned c=>obtain ⟨r,G',R',k1,k2,k3,k4⟩:=he; exact ⟨r,G',R',k1,k2,xS.1 k3,k4⟩
 | panicked c=>exact he
 | outgrown=>exact he
theorem bg.more {E E':Env} {g:FuncId} {args:List AV} {Q:AV→Prop} (hP:E.P=E'.P) (hg:∀ g cs,E.dD g=some cs→E'.dD g=some cs) (h:bg E g args Q) (tU:E.lo=E'.lo:=by rfl) (Pt:E.gx=fun _=>false:=by rfl):bg E' g args Q:=by
 intro G
 obtain ⟨h1,h2⟩:=h G
 rw [hP] at h1 h2
 refine ⟨h1,fun R w cs hr hl=>(h2 R w cs ⟨hr.len,hr.obj,hr.inj,hr.wf,fun g cs hh=>⟨(hr.dD g cs (hg g cs hh)).1,fun hx=>by rw [Pt] at hx; cases hx⟩,by rw [tU]; exact hr.lo⟩ hl).mono fun e w' he=>?_⟩
 cases e with
 | returned c=>
  obtain ⟨r,G',R',k1,k2,k3,k4⟩:=he
  exact ⟨r,G',R',k1,k2,⟨k3.len,k3.obj,k3.inj,k3.wf,fun g cs hh=>(hr.dD g cs hh).mono k4.ext,by rw [← tU]; exact k3.lo⟩,k4⟩
 | panicked c=>exact he
 | outgrown=>exact he
def Ek:List (Nat × bS)→FuncId→Option bS
 | [],_=>none
 | (a,e) :: l,g=>bif Nat.beq a g then some e else Ek l g
theorem bV {E:Env}:∀ {l:List (Nat × bS)},(∀ a e,(a,e)∈l→aO E a e)→∀ g e,Ek l g=some e→aO E g e
 | [],_,g,e,h=>by cases h
 | (a,x) :: l,hl,g,e,h=>by
  unfold Ek at h
  cases hb:Nat.beq a g with
  | true=>
   rw [hb] at h
   cases h
   rw [← Nat.eq_of_beq_eq_true hb]
   exact hl a _ (by simp)
  | false=>
   rw [hb] at h
   exact bV (fun a e hm=>hl a e (by simp [hm])) g e h
def Ka:List (Nat × eL)→Nat→Option eL
 | [],_=>none
 | (a,c) :: l,p=>bif Nat.beq a p then some c else Ka l p
def Kb:List (Nat × List (Nat × eL))→FuncId→Nat→Option eL
 | [],_,_=>none
 | (a,c) :: l,g,p=>bif Nat.beq a g then Ka c p else Kb l g p
def C4:Option Unit→Option Unit→Option Unit
 | some _,some _=>some ()
 | _,_=>none
theorem Cd:sm C4:=fun a b x h=>by
 cases a <;> cases b <;> first | (cases h; done) | exact ⟨rfl,rfl⟩
theorem bX {C:kZ} (yz:∀ g e,C.F3 g=some e→aO C.D.toEnv g e) {n:Nat} {g:FuncId} {args:List AV} {p:ah} {ok:p.T→Bool} (h1:aA 0 args=true) (h2:p.under 0=true)
  (h:wY C (ev C n) C4 g args [] (fun r _=>bif p.fits r&&ok (p.a7 r) then some () else none)=some ()):bg C.D.toEnv g args (fun r=>∃ y,r=p.enc y∧ok y=true):=
 bg.of (p:=p) (Q:=fun y=>ok y=true) h1 h2 ((kM (vj yz n) Cd g args [] _ () h).mono fun r _ hr=>by
  obtain ⟨k,_⟩:=aQ hr
  rw [Bool.and_eq_true] at k
  exact ⟨p.a7 r,by simp [ah.dec,k.1],k.2⟩)
end Go.Am
namespace Go.Am
open Go
def pw (w:World):aj:=⟨fun b _=>b < w.heap.size,[]⟩
mutual
def ah.wf:(p:ah)→p.T→Prop
 | .int k,(n:Int)=>k.min≤n∧n≤k.max
 | .bool,_=>True
 | .str,(s:List UInt8)=>s.length≤maxLen
 | .agg ps,x=>ps.wf x
 | .bk ps,x=>ps.wf x
 | .list _ p,(xs:List p.T)=>xs.length≤maxLen∧∀ x∈xs,p.wf x
 | .own _ _ p,(xs:List p.T)=>xs.length≤maxLen∧∀ x∈xs,p.wf x
 | .aU _ _ p,(x:Nat × List p.T)=>x.2.length≤maxLen∧∀ y∈x.2,p.wf y
 | .py _,_=>True
 | .two _ _,_=>True
def aC.wf:(ps:aC)→ps.T→Prop
 | .nil,_=>True
 | .cons p .nil,x=>p.wf x
 | .cons p (.cons q ps),x=>p.wf x.1∧(aC.cons q ps).wf x.2
end
def kd:List ah→aC
 | []=>.nil
 | p :: l=>.cons p (kd l)
def El {β:Type} (g:β→Option (List ah)):List β→Option (List ah)
 | []=>some []
 | x :: l=>match g x,El g l with
  | some a,some b=>some (a++b)
  | _,_=>none
def qw {β:Type} (off len:β→Nat):Nat→List β→Option Nat
 | o,[]=>some o
 | o,x :: l=>bif Nat.beq (off x) o then qw off len (o+len x) l else none
def isSome (n:Nat):Option Nat→Bool
 | some m=>Nat.beq m n
 | none=>false
def qx (ag:Bool) (ps:List ah):Option ah:=match ag,ps with
 | true,ps=>some (.agg (kd ps))
 | false,[p]=>some p
 | _,_=>none
def Em (P:Program):Nat→TypeId→Option (List ah)
 | 0,_=>none
 | n+1,t=>match P.underlying t with
  | some .bool=>some [.bool]
  | some (.int k)=>some [.int k]
  | some .string=>some [.str]
  | some (.slice e)=>match Em P n e,P.underlying e with
   | some ps,some u=>match qx (Go.Am.iT u) ps with
    | some pe=>bif Nat.blt 0 (P.cellsOf e) then some [.list (P.cellsOf e) pe] else none
    | none=>none
   | _,_=>none
  | some (.struct fs)=>bif isSome (P.cellsOf t) (qw Field.offset (fun f=>P.cellsOf f.type) 0 fs.toList) then El (fun f=>Em P n f.type) fs.toList else none
  | some (.array m e)=>bif isSome (P.cellsOf t) (qw (fun i=>i * P.cellsOf e) (fun _=>P.cellsOf e) 0 (List.range m)) then El (fun _=>Em P n e) (List.range m) else none
  | _=>none
def Ss (a:AV):Prop:=a.aL=true∧a.cells=[a]∧a.closed=true
def px:List ah→List AV→Prop
 | [],[]=>True
 | p :: ps,a :: kN=>p.fits a=true∧(p.wf (p.a7 a)∧Ss a)∧px ps kN
 | _,_=>False
theorem px.append:∀ {ps qs:List ah} {kN bs:List AV},px ps kN→px qs bs→px (ps++qs) (kN++bs)
 | [],_,[],_,_,h=>h
 | _ :: _,_,_ :: _,_,k,h=>⟨k.1,k.2.1,px.append k.2.2 h⟩
 | [],_,_ :: _,_,h,_=>h.elim
 | _ :: _,_,[],_,h,_=>h.elim
theorem px.mk:∀ {ps:List ah} {kN:List AV},px ps kN→(kd ps).fits kN=true∧(kd ps).wf ((kd ps).a7 kN)
 | [],[],_=>⟨rfl,trivial⟩
 | [p],[a],h=>⟨by
   change (p.fits a&&(List.isEmpty ([]:List AV)))=true
   rw [h.1]
   rfl,h.2.1.1⟩
 | p :: q :: ps,a :: kN,h=>by
  obtain ⟨h1,h2⟩:=px.mk (ps:=q :: ps) h.2.2
  refine ⟨?_,h.2.1.1,h2⟩
  change (p.fits a&&(kd (q :: ps)).fits kN)=true
  rw [h.1,h1]
  rfl
 | [],_ :: _,h=>h.elim
 | _ :: _,[],h=>h.elim
 | [_],_ :: _ :: _,h=>h.2.2.elim
theorem Ag {ag:Bool} {ps:List ah} {pe:ah} (h:qx ag ps=some pe) {kN:List AV} (hf:px ps kN) :
  ∃ e,(if ag then e=.agg kN else kN=[e])∧pe.fits e=true∧pe.wf (pe.a7 e):=by
 unfold qx at h
 split at h
 ·cases h
  obtain ⟨h1,h2⟩:=hf.mk
  exact ⟨.agg kN,rfl,h1,h2⟩
 ·rename_i p
  cases h
  match kN,hf with
  | [a],hf=>exact ⟨a,rfl,hf.1,hf.2.1.1⟩
  | [],hf=>exact hf.elim
  | _ :: _ :: _,hf=>exact hf.2.2.elim
 ·cases h
theorem C5:∀ {ps:List ah} {kN:List AV},px ps kN→∀ a∈kN,a.aL=true∧a.cells=[a]∧a.closed=true
 | [],[],_,a,ha=>by simp at ha
 | _ :: _,b :: kN,hf,a,ha=>by
  rcases List.mem_cons.1 ha with rfl | ha
  ·exact hf.2.1.2
  ·exact C5 hf.2.2 a ha
 | [],_ :: _,h,_,_=>h.elim
 | _ :: _,[],h,_,_=>h.elim
theorem C6 {pe:ah}:∀ {es:List AV},(∀ x∈es,pe.fits x=true∧pe.wf (pe.a7 x))→allFit pe.fits es=true∧∀ x∈es.map pe.a7,pe.wf x
 | [],_=>⟨rfl,by simp⟩
 | a :: es,h=>by
  obtain ⟨h1,h2⟩:=C6 (es:=es) fun x hx=>h x (by simp [hx])
  refine ⟨by simp only [allFit,Bool.and_eq_true]; exact ⟨(h a (by simp)).1,h1⟩,fun x hx=>?_⟩
  rcases List.mem_cons.1 hx with rfl | hx
  ·exact (h a (by simp)).2
  ·exact h2 x hx
section read
variable {H:Type} {enc:TypeId × Value→H} {P:Program} {w:World} {R:aj} {base:Nat} {spare:Nat→Bool} {held:Bool}
theorem ke {α β:Type} {f:α→Option β} {x:α} {l:List α} {r:List β} (h:(x :: l).mapM f=some r):∃ y ys,f x=some y∧l.mapM f=some ys∧r=y :: ys:=by
 rw [List.mapM_cons] at h
 cases hx:f x with
 | none=>rw [hx] at h; cases h
 | some y=>
  rw [hx] at h
  cases hl:l.mapM f with
  | none=>rw [hl] at h; cases h
  | some ys=>rw [hl] at h; cases h; exact ⟨y,ys,rfl,rfl,rfl⟩
theorem vm {β:Type} {off len:β→Nat} {g:β→Option (List ah)} {cs:List Value} {f:β→Option (DataW H × List MemPlace)}
  (hf:∀ x ps y,g x=some ps→f x=some y→∃ kN,aE R w kN ((cs.drop (off x)).take (len x))∧px ps kN∧∀ v∈(cs.drop (off x)).take (len x),v.oneCell'=true) :
  ∀ {L:List β} {o m:Nat} {ps:List ah} {ys:List (DataW H × List MemPlace)},qw off len o L=some m→El g L=some ps→L.mapM f=some ys →
   o≤m∧∃ kN,aE R w kN ((cs.drop o).take (m - o))∧px ps kN∧∀ v∈(cs.drop o).take (m - o),v.oneCell'=true
 | [],o,m,ps,ys,ht,hp,_=>by
  simp only [qw] at ht
  simp only [El] at hp
  cases ht; cases hp
  exact ⟨Nat.le_refl _,[],by simpa using aE.nil,trivial,by simp⟩
 | x :: L,o,m,ps,ys,ht,hp,hm=>by
  unfold qw at ht
  cases hb:Nat.beq (off x) o with
  | false=>rw [hb] at ht; cases ht
  | true=>
   rw [hb] at ht
   have hb:=Nat.eq_of_beq_eq_true hb
   unfold El at hp
   split at hp
   ·rename_i pa pb h1 h2
    cases hp
    obtain ⟨y,Dw,k1,k2,rfl⟩:=ke hm
    obtain ⟨kN,q1,q2,q3⟩:=hf x pa y h1 k1
    obtain ⟨hle,bs,r1,r2,r3⟩:=vm hf (show qw off len (o+len x) L=some m from ht) h2 k2
    have e:(cs.drop o).take (m - o)=(cs.drop (off x)).take (len x)++(cs.drop (o+len x)).take (m - (o+len x)):=by
     rw [hb,show m - o=len x+(m - (o+len x)) by omega,List.take_add,List.drop_drop]
    rw [e]
    refine ⟨by omega,kN++bs,q1.append r1,q2.append r2,fun v hv=>?_⟩
    rcases List.mem_append.1 hv with hv | hv
    ·exact q3 v hv
    ·exact r3 v hv
   ·cases hp
theorem lE {α β:Type} {f:α→Option β}:∀ {l:List α} {r:List β},l.mapM f=some r→∀ (i:Nat) (x:α),l[i]?=some x→∃ y,r[i]?=some y∧f x=some y
 | [],r,_,i,x,hx=>by simp at hx
 | a :: l,r,h,i,x,hx=>by
  obtain ⟨y,ys,h1,h2,rfl⟩:=ke h
  cases i with
  | zero=>simp at hx; subst hx; exact ⟨y,by simp,h1⟩
  | succ i=>obtain ⟨z,h3,h4⟩:=lE h2 i x (by simpa using hx); exact ⟨z,by simpa using h3,h4⟩
theorem sq {α β:Type} {f:α→Option β}:∀ {l:List α} {r:List β},l.mapM f=some r→r.length=l.length
 | [],r,h=>by simp at h; subst h; rfl
 | a :: l,r,h=>by
  obtain ⟨y,ys,h1,h2,rfl⟩:=ke h
  simp [sq h2]
theorem Ip {a:Addr} {v:Value} (h:w.cell? a=some v):a.block < w.heap.size:=by
 unfold World.cell? at h
 split at h
 ·rename_i hb; exact aY hb
 ·cases h
theorem xe {e:TypeId} {ps:List ah} {pe:ah} {ag:Bool} {qy:Nat} (hp:∀ (cs:List Value) (y:DataW H × List MemPlace),DataW.trod enc P w base spare held qy e cs=some y→∃ kN,aE (pw w) w kN cs∧px ps kN∧∀ v∈cs,v.oneCell'=true) (he:qx ag ps=some pe) {b off len:Nat} {r:List (DataW H × List MemPlace)}
  (h:(List.range len).mapM (fun i=>(w.cells? base ((⟨b,off,none⟩:Addr).add (i * P.cellsOf e)) (P.cellsOf e)).bind (DataW.trod enc P w base spare held qy e))=some r) :
  ∀ (m i:Nat),i+m=len→∃ es,gj (pw w) w b (off+i * P.cellsOf e) (P.cellsOf e) es∧es.length=m∧∀ x∈es,pe.fits x=true∧pe.wf (pe.a7 x)
 | 0,i,_=>⟨[],.nil,rfl,by simp⟩
 | m+1,i,hi=>by
  obtain ⟨es,h1,h2,h3⟩:=xe hp he h m (i+1) (by omega)
  obtain ⟨y,_,hy⟩:=lE h i i (by rw [List.getElem?_range (by omega)])
  obtain ⟨cs,hc,hy⟩:=bind_some hy
  obtain ⟨kN,q1,q2,q3⟩:=hp _ _ hy
  obtain ⟨x,hx,f1,f2⟩:=Ag he q2
  have kW:w.cells? base ((⟨b,off,none⟩:Addr).add (i * P.cellsOf e)) (P.cellsOf e)=some cs:=hc
  unfold World.cells? at kW
  split at kW
  ·have hlen:=sq kW
   rw [List.length_range] at hlen
   have jb:x.cells=kN∧x.aL=true∧x.closed=true:=by
    have qi:=C5 q2
    cases ag with
    | true=>
     simp only [if_true] at hx
     subst hx
     refine ⟨rfl,rfl,?_⟩
     show aM kN=true
     clear h1 h2 h3 q1 q2 f1 f2
     induction kN with
     | nil=>rfl
     | cons a kN ih=>simp only [aM,Bool.and_eq_true]; exact ⟨(qi a (by simp)).2.2,ih (fun z hz=>qi z (by simp [hz]))⟩
    | false=>
     simp only [Bool.false_eq_true,if_false] at hx
     subst hx
     obtain ⟨k1,k2,k3⟩:=qi x (by simp)
     exact ⟨k2,k1,k3⟩
   have jt:∀ j v,cs[j]?=some v→w.cell? ⟨b,off+i * P.cellsOf e+j,none⟩=some v:=fun j v hv=>by
    have hj:j < P.cellsOf e:=by have:=(List.getElem?_eq_some_iff.1 hv).1; omega
    obtain ⟨v',k1,k2⟩:=lE kW j j (by rw [List.getElem?_range hj])
    rw [hv] at k1
    cases k1
    rw [bY,bY] at k2
    exact k2
   refine ⟨x :: es,.cons ?_ jb.2.1 jb.2.2 ?_ ?_,by simp [h2],fun z hz=>?_⟩
   ·rw [jb.1,q1.length,hlen]
   ·rw [jb.1]
    refine eu.make q1 q3 jt (fun j hj=>?_)
    have Hq:j < cs.length:=by rw [← q1.length]; exact hj
    exact Ip (jt j cs[j] (List.getElem?_eq_getElem Hq))
   ·rw [show off+i * P.cellsOf e+P.cellsOf e=off+(i+1) * P.cellsOf e by rw [Nat.add_mul]; omega]
    exact h1
   ·rcases List.mem_cons.1 hz with rfl | hz
    ·exact ⟨f1,f2⟩
    ·exact h3 z hz
  ·cases kW
theorem qz (yP:∀ b,spare b=true):∀ (n:Nat) {t:TypeId} {ps:List ah},Em P n t=some ps→∀ {qy:Nat} {cs:List Value} {y:DataW H × List MemPlace},DataW.trod enc P w base spare held qy t cs=some y →
  ∃ kN,aE (pw w) w kN cs∧px ps kN∧∀ v∈cs,v.oneCell'=true
 | 0,_,_,h,_,_,_,_=>by cases h
 | n+1,t,ps,h,0,_,_,hy=>by cases hy
 | n+1,t,ps,h,qy+1,cs,y,hy=>by
  unfold Em at h
  unfold DataW.trod at hy
  split at h
  ·rename_i hu
   cases h
   rw [hu] at hy
   cases cs with
   | nil=>cases hy
   | cons v l=>
    cases l with
    | cons v2 l=>(cases v <;> first | (cases hy; done) | (rename_i a; cases a <;> cases hy; done) | (rename_i a b; cases a <;> cases hy; done) | (rename_i a b c; cases a <;> first | (cases hy; done) | (cases b <;> first | (cases hy; done) | (cases c <;> cases hy))))
    | nil=>
     cases v with
     | bool b=>exact ⟨[.bool b],.one (.bool b),⟨rfl,⟨trivial,rfl,rfl,rfl⟩,trivial⟩,by simp [Value.oneCell']⟩
     | pointer a=>cases a <;> cases hy
     | slice a b c=>cases a <;> first | (cases hy; done) | (cases b <;> first | (cases hy; done) | (cases c <;> cases hy))
     | map a=>cases a <;> cases hy
     | chan a=>cases a <;> cases hy
     | _=>cases hy
  ·rename_i k hu
   cases h
   rw [hu] at hy
   cases cs with
   | nil=>cases hy
   | cons v l=>
    cases l with
    | cons v2 l=>(cases v <;> first | (cases hy; done) | (rename_i a; cases a <;> cases hy; done) | (rename_i a b; cases a <;> cases hy; done) | (rename_i a b c; cases a <;> first | (cases hy; done) | (cases b <;> first | (cases hy; done) | (cases c <;> cases hy))))
    | nil=>
     cases v with
     | int k' i=>
      have hy:(if k'=k∧(Lit.int k i).wf=true then some (.lit (.int k i),[]) else none)=some y:=hy
      split at hy
      ·rename_i hc
       obtain ⟨rfl,hw⟩:=hc
       exact ⟨[.int k' i],.one (.int k' i),⟨decide_eq_true rfl,⟨by have h:=hw; simp [Lit.wf] at h; exact h,rfl,rfl,rfl⟩,trivial⟩,by simp [Value.oneCell']⟩
      ·cases hy
     | pointer a=>cases a <;> cases hy
     | slice a b c=>cases a <;> first | (cases hy; done) | (cases b <;> first | (cases hy; done) | (cases c <;> cases hy))
     | map a=>cases a <;> cases hy
     | chan a=>cases a <;> cases hy
     | _=>cases hy
  ·rename_i hu
   cases h
   rw [hu] at hy
   cases cs with
   | nil=>cases hy
   | cons v l=>
    cases l with
    | cons v2 l=>(cases v <;> first | (cases hy; done) | (rename_i a; cases a <;> cases hy; done) | (rename_i a b; cases a <;> cases hy; done) | (rename_i a b c; cases a <;> first | (cases hy; done) | (cases b <;> first | (cases hy; done) | (cases c <;> cases hy))))
    | nil=>
     cases v with
     | string s=>
      have hy:(if s.size≤maxLen then some (.lit (.string s.data.toList),[]) else none)=some y:=hy
      split at hy
      ·rename_i hc
       exact ⟨[.str s.data.toList],.one (.str s.data.toList),⟨rfl,⟨by simpa [ah.wf,ah.a7,AV.KK] using hc,rfl,rfl,rfl⟩,trivial⟩,by simp [Value.oneCell']⟩
      ·cases hy
     | pointer a=>cases a <;> cases hy
     | slice a b c=>cases a <;> first | (cases hy; done) | (cases b <;> first | (cases hy; done) | (cases c <;> cases hy))
     | map a=>cases a <;> cases hy
     | chan a=>cases a <;> cases hy
     | _=>cases hy
  ·rename_i e hu
   rw [hu] at hy
   split at h
   ·rename_i Pf u h1 h2
    split at h
    ·rename_i pe h3
     obtain ⟨hz,h⟩:=aQ h
     cases h
     have hz:=Nat.le_of_ble_eq_true hz
     cases cs with
     | nil=>cases hy
     | cons v l=>
      cases l with
      | cons v2 l=>(cases v <;> first | (cases hy; done) | (rename_i a; cases a <;> cases hy; done) | (rename_i a b; cases a <;> cases hy; done) | (rename_i a b c; cases a <;> first | (cases hy; done) | (cases b <;> first | (cases hy; done) | (cases c <;> cases hy))))
      | nil=>
       cases v with
       | slice a len cap=>
        cases a with
        | none=>
         have hz:len=0∧cap=0:=by
          cases len with
          | zero=>cases cap with
           | zero=>exact ⟨rfl,rfl⟩
           | succ _=>cases hy
          | succ _=>cases hy
         obtain ⟨rfl,rfl⟩:=hz
         exact ⟨[.list .kr (P.cellsOf e) []],.one .ib,⟨by simp [ah.fits,allFit],⟨⟨Nat.zero_le _,fun x hx=>by change x∈([]:List pe.T) at hx; cases hx⟩,rfl,rfl,rfl⟩,trivial⟩,by simp [Value.oneCell']⟩
        | some a=>
         have hy:(if base≤a.block∧len≤cap∧cap≤maxLen then
          ((List.range len).mapM (fun i=>(w.cells? base (a.add (i * P.cellsOf e)) (P.cellsOf e)).bind (DataW.trod enc P w base spare held qy e))).bind fun C7=>
           (if spare a.block then (List.range (cap - len)).mapM (fun j=>(w.cells? base (a.add ((len+j) * P.cellsOf e)) (P.cellsOf e)).bind (DataW.trod enc P w base spare held qy e)) else some []).map fun rest=>
            (DataW.slice (C7.map (·.1)) (rest.map (·.1)),MemPlace.row a ((C7.length+rest.length) * P.cellsOf e)++(C7++rest).flatMap (·.2))
          else none)=some y:=hy
         split at hy
         ·rename_i hc
          obtain ⟨C7,k1,hy⟩:=bind_some hy
          rw [if_pos (yP _)] at hy
          by_cases ig:cap=0
          ·subst ig
           have sB:len=0:=Nat.le_zero.1 hc.2.1
           subst sB
           exact ⟨[.list .kr (P.cellsOf e) []],.one .lT,⟨by simp [ah.fits,allFit],⟨⟨Nat.zero_le _,fun x hx=>by change x∈([]:List pe.T) at hx; cases hx⟩,rfl,rfl,rfl⟩,trivial⟩,by simp [Value.oneCell']⟩
          ·have Gd:a.spot=none:=by
            have LB:∃ y,(w.cells? base (a.add (0 * P.cellsOf e)) (P.cellsOf e)).bind (DataW.trod enc P w base spare held qy e)=some y:=by
             by_cases sB:len=0
             ·subst sB
              cases hr:(List.range (cap - 0)).mapM (fun j=>(w.cells? base (a.add ((0+j) * P.cellsOf e)) (P.cellsOf e)).bind (DataW.trod enc P w base spare held qy e)) with
              | none=>rw [hr] at hy; cases hy
              | some r=>
               obtain ⟨z,_,hz⟩:=lE hr 0 0 (by rw [List.getElem?_range (by omega)])
               exact ⟨z,hz⟩
             ·obtain ⟨z,_,hz⟩:=lE k1 0 0 (by rw [List.getElem?_range (by omega)])
              exact ⟨z,hz⟩
            obtain ⟨z,VU⟩:=LB
            obtain ⟨cs,pP,_⟩:=bind_some VU
            unfold World.cells? at pP
            split at pP
            ·obtain ⟨v,_,hv⟩:=lE pP 0 0 (by rw [List.getElem?_range (by omega)])
             rw [Nat.zero_mul] at hv
             unfold World.cell? at hv
             split at hv
             ·split at hv
              ·cases hv
              ·rename_i hs
               simpa [Addr.add] using hs
             ·cases hv
            ·cases pP
           obtain ⟨b,off,spot⟩:=a
           have Gd:spot=none:=Gd
           subst Gd
           obtain ⟨es,q1,q2,q3⟩:=xe (fun cs y hy=>qz yP n h1 hy) h3 k1 len 0 (by omega)
           rw [Nat.zero_mul,Nat.add_zero] at q1
           obtain ⟨f1,f2⟩:=C6 q3
           refine ⟨[.list .kr (P.cellsOf e) es],.one (.list q1 q2.symm hc.2.1 trivial),⟨?_,⟨⟨?_,f2⟩,rfl,rfl,rfl⟩,trivial⟩,by simp [Value.oneCell']⟩
           ·simp only [ah.fits,Bool.and_eq_true,Bool.or_eq_true]
            exact ⟨.inl (Nat.beq_refl _),f1⟩
           ·have:es.length≤maxLen:=by rw [q2]; omega
            show (es.map pe.a7).length≤maxLen
            rw [List.length_map]
            exact this
         ·cases hy
       | pointer a=>cases a <;> cases hy
       | map a=>cases a <;> cases hy
       | chan a=>cases a <;> cases hy
       | _=>cases hy
    ·cases h
   ·cases h
  ·rename_i fs hu
   rw [hu] at hy
   have hy:(if cs.length=P.cellsOf t then (fs.toList.mapM fun f=>DataW.trod enc P w base spare held qy f.type ((cs.drop f.offset).take (P.cellsOf f.type))).map fun xs=>(.agg (xs.map (·.1)),xs.flatMap (·.2)) else none)=some y:=hy
   split at hy
   ·rename_i hl
    obtain ⟨h1,h2⟩:=aQ h
    cases hm:fs.toList.mapM fun f=>DataW.trod enc P w base spare held qy f.type ((cs.drop f.offset).take (P.cellsOf f.type)) with
    | none=>rw [hm] at hy; cases hy
    | some ys=>
     cases ht:qw Field.offset (fun f=>P.cellsOf f.type) 0 fs.toList with
     | none=>rw [ht] at h1; cases h1
     | some m=>
      rw [ht] at h1
      have h1:=Nat.eq_of_beq_eq_true (show Nat.beq m (P.cellsOf t)=true from h1)
      obtain ⟨_,kN,q1,q2,q3⟩:=vm (R:=pw w) (w:=w) (off:=Field.offset) (len:=fun f=>P.cellsOf f.type) (cs:=cs) (fun x ps y hx Su=>qz yP n hx Su) ht h2 hm
      rw [h1,← hl] at q1 q3
      simp only [List.drop_zero,Nat.sub_zero,List.take_length] at q1 q3
      exact ⟨kN,q1,q2,q3⟩
   ·cases hy
  ·rename_i m e hu
   rw [hu] at hy
   have hy:(if cs.length=P.cellsOf t then ((List.range m).mapM fun i=>DataW.trod enc P w base spare held qy e ((cs.drop (i * P.cellsOf e)).take (P.cellsOf e))).map fun xs=>(.agg (xs.map (·.1)),xs.flatMap (·.2)) else none)=some y:=hy
   split at hy
   ·rename_i hl
    obtain ⟨h1,h2⟩:=aQ h
    cases hm:(List.range m).mapM fun i=>DataW.trod enc P w base spare held qy e ((cs.drop (i * P.cellsOf e)).take (P.cellsOf e)) with
    | none=>rw [hm] at hy; cases hy
    | some ys=>
     cases ht:qw (fun i=>i * P.cellsOf e) (fun _=>P.cellsOf e) 0 (List.range m) with
     | none=>rw [ht] at h1; cases h1
     | some k=>
      rw [ht] at h1
      have h1:=Nat.eq_of_beq_eq_true (show Nat.beq k (P.cellsOf t)=true from h1)
      obtain ⟨_,kN,q1,q2,q3⟩:=vm (R:=pw w) (w:=w) (off:=fun i=>i * P.cellsOf e) (len:=fun _=>P.cellsOf e) (cs:=cs) (fun x ps y hx Su=>qz yP n hx Su) ht h2 hm
      rw [h1,← hl] at q1 q3
      simp only [List.drop_zero,Nat.sub_zero,List.take_length] at q1 q3
      exact ⟨kN,q1,q2,q3⟩
   ·cases hy
  ·cases h
def LZ (P:Program) (n:Nat) (t:TypeId):Option ah:=match P.underlying t with
 | some u=>match Em P n t with
  | some ps=>qx (Go.Am.iT u) ps
  | none=>none
 | none=>none
theorem Iq (yP:∀ b,spare b=true) {n:Nat} {t:TypeId} {p:ah} (hp:LZ P n t=some p) {v:Value} {d:DataW H} {pl:List MemPlace} {r:Reach} {base':Nat} (ht:DataW.Trod enc P w base spare held t v d pl) (eW:Value.okWide P w r base' t v) :
  ∃ x:p.T,Rel (pw w) w (p.enc x) v∧p.wf x:=by
 obtain ⟨qy,ht⟩:=ht
 have fin:∀ {a:AV},p.fits a=true→p.wf (p.a7 a)→Rel (pw w) w a v→∃ x:p.T,Rel (pw w) w (p.enc x) v∧p.wf x:=fun {a} h1 h2 h3=>⟨p.a7 a,(p.cz h1).gf _ _ _ h3,h2⟩
 unfold LZ at hp
 split at hp
 ·rename_i u hu
  split at hp
  ·rename_i ps h1
   obtain ⟨kN,q1,q2,q3⟩:=qz yP n h1 ht
   obtain ⟨x,hx,f1,f2⟩:=Ag hp q2
   cases xA:Go.Am.iT u with
   | true=>
    rw [xA] at hx
    simp only [if_true] at hx
    subst hx
    have:∃ cs,v=.agg cs:=by
     unfold Value.okWide at eW
     rw [hu] at eW
     cases u <;> first | (cases xA; done) | (obtain ⟨cs,h,_⟩:=eW; exact ⟨cs,h⟩)
    obtain ⟨⟨cs⟩,rfl⟩:=this
    exact fin f1 f2 (.agg q1 q3)
   | false=>
    rw [xA] at hx
    simp only [Bool.false_eq_true,if_false] at hx
    subst hx
    have hv:v.cells.toList=[v]:=by
     cases v with
     | agg cs=>
      exfalso
      unfold Value.okWide at eW
      rw [hu] at eW
      cases u <;> first | (cases xA; done) | (simp [Cell.okWide,Cell.ok,hu] at eW)
     | _=>rfl
    rw [hv] at q1
    cases q1 with
    | cons q1 _=>exact fin f1 f2 q1
  ·cases hp
 ·cases hp
def Ah (P:Program) (n:Nat):List TypeId→Option (List ah)
 | []=>some []
 | t :: l=>match LZ P n t,Ah P n l with
  | some p,some r=>some (p :: r)
  | _,_=>none
theorem Ai (yP:∀ b,spare b=true) {n:Nat} {r:Reach} {base':Nat}:∀ {ts:List TypeId} {ps:List ah} {vs:List Value} {ds:List (DataW H)} {pl:List MemPlace},Ah P n ts=some ps→DataW.TrodAll enc P w base spare held ts vs ds pl →
  (∀ (j:Nat) t v,ts[j]?=some t→vs[j]?=some v→Value.okWide P w r base' t v)→∃ x:(kd ps).T,aE (pw w) w ((kd ps).enc x) vs∧(kd ps).wf x
 | [],ps,vs,ds,pl,hp,ht,_=>by
  simp only [Ah] at hp
  cases hp
  cases vs with
  | nil=>exact ⟨(),.nil,trivial⟩
  | cons _ _=>cases ds <;> exact ht.elim
 | t :: ts,ps,vs,ds,pl,hp,ht,eW=>by
  unfold Ah at hp
  split at hp
  ·rename_i p r h1 h2
   cases hp
   cases vs with
   | nil=>cases ds <;> exact ht.elim
   | cons v vs=>
    cases ds with
    | nil=>exact ht.elim
    | cons d ds=>
     obtain ⟨p1,p2,k1,k2,_⟩:=ht
     obtain ⟨x,q1,q2⟩:=Iq yP h1 k1 (eW 0 t v rfl rfl)
     obtain ⟨y,q3,q4⟩:=Ai yP h2 k2 (fun j t v hj hv=>eW (j+1) t v (by simpa using hj) (by simpa using hv))
     cases r with
     | nil=>
      cases q3
      exact ⟨x,.one q1,q2⟩
     | cons p' r=>exact ⟨(x,y),.cons q1 q3,q2,q4⟩
  ·cases hp
end read
end Go.Am
namespace Go.Am
open Go Go.RowKit Go.WideShapes Go.ChangeShapes
section
variable {H:Type} {enc:TypeId × Value→H} {P:Program}
theorem Ce {f:Func} {s:ChangeSpec} {apart fresh handsOn again:Bool} {W W':World} {args:Array Value} {v:Value} {ds gs:List (DataW H)} {before pa pv:List MemPlace}
  (hW:DataW.Whole enc P f.params.toList s.vars apart W args.toList ds gs before)
  (BF:∀ (b:Nat) (sp:Nat→Bool) (hd:Bool),DataW.TrodAll enc P W' b sp hd f.resultTypes.toList (v.resultList f.resultTypes.size) (s.fn H (ds++gs)).results [])
  (oF:∀ sp:Nat→Bool,(∀ p∈before,sp p.block=true)→DataW.TrodAll enc P W' 0 sp true f.params.toList args.toList (s.fn H (ds++gs)).args pa)
  (Aj:∀ sp:Nat→Bool,(∀ p∈before,sp p.block=true)→DataW.TrodVars enc P W' sp s.vars (s.fn H (ds++gs)).vars pv)
  (EF:before=pa++pv) (hb:Below W.heap.size W W')
  (eW:∀ (j:Nat) (t:TypeId) (r:Value),f.resultTypes[j]?=some t→(v.resultList f.resultTypes.size)[j]?=some r→Value.okWide P W' .any 0 t r) :
  s.post enc P f apart fresh handsOn again W args v W':=by
 have bK:∀ p∈before,p.block < W.heap.size:=fun p hp=>hW.lt p hp
 have hold:∀ p∈before,(fun b=>decide (b < W.heap.size)) p.block=true:=fun p hp=>by simpa using bK p hp
 refine ⟨ds,gs,before,[],pa,pv,hW,BF _ _ _,oF _ hold,Aj _ hold,World.keptBut_mono (fun p hp=>⟨hp,?_⟩) (hb.frame (·∈before)),fun _=>?_⟩
 ·rw [EF,List.mem_append] at hp
  exact Or.inr hp
 ·obtain ⟨_,_,_,_,_,hz,hn⟩:=hW
  refine ⟨eW,_,_,([]++pa)++pv,⟨[]++pa,pv,trodAll_append (oF _ (fun _ _=>rfl)) (BF _ _ _),Aj _ (fun _ _=>rfl),rfl,?_,?_⟩,?_⟩
  ·intro b off hp
   have Bc:MemPlace.cell b off∈before:=by rw [EF]; simpa using hp
   rw [hb.frozen (bK _ Bc)]
   exact hz b off Bc
  ·intro ha
   have:=hn ha
   rw [EF] at this
   simpa using this
  ·intro p hp _
   rw [EF]
   simpa using hp
theorem oR (hl:laidOutB P=true) {W W':World} (hb:Below W.heap.size W W') {sp:Nat→Bool}:∀ {ts:List TypeId} {vs:List Value} {ds:List (DataW H)} {pl:List MemPlace},
  (∀ t∈ts,P.readableRec t=true∧t < P.types.size)→DataW.TrodAll enc P W 0 (fun _=>true) true ts vs ds pl→(∀ p∈pl,p.block < W.heap.size)→(∀ p∈pl,sp p.block=true) →
  DataW.TrodAll enc P W' 0 sp true ts vs ds pl
 | [],[],[],_,_,h,_,_=>h
 | t :: ts,v :: vs,d :: ds,pl,hr,h,bK,yP=>by
  obtain ⟨p,q,h1,h2,rfl⟩:=h
  refine ⟨p,q,?_,oR hl hb (fun t ht=>hr t (by simp [ht])) h2 (fun x hx=>bK x (by simp [hx])) (fun x hx=>yP x (by simp [hx])),rfl⟩
  exact WideElems.Trod_stays hl (hr t (by simp)).1 (hr t (by simp)).2 h1 (fun x hx=>hb.same (bK x (by simp [hx]))) (fun x hx=>yP x (by simp [hx]))
 | [],[],_ :: _,_,_,h,_,_=>h.elim
 | [],_ :: _,_,_,_,h,_,_=>h.elim
 | _ :: _,[],_,_,_,h,_,_=>h.elim
 | _ :: _,_ :: _,[],_,_,h,_,_=>h.elim
theorem En {E:Env} {f:FuncId} {fn:Func} {s:ChangeSpec} {ps:List ah} {apart fresh handsOn again:Bool} {W:World} {base:Nat} {args:Array Value} {ds gs:List (DataW H)} {before:List MemPlace} {n tb:Nat}
  (Sv:∀ x,(kd ps).wf x→bg E f ((kd ps).enc x) (fun r=>r=.bool true)) (Pu:Ah E.P n fn.params.toList=some ps)
  (Ir:∀ (j:Nat) t v,fn.params[j]?=some t→args[j]?=some v→Value.okWide E.P W .any base t v)
  (hW:DataW.Whole enc E.P fn.params.toList s.vars apart W args.toList ds gs before) (Pv:∀ g cs,E.dD g=some cs→eu (pw W) W g 0 cs)
  (Aj:s.vars=[]) (yP:∀ ds:List (DataW H),ds.length=fn.params.toList.length→s.fn H ds={ results:=[.lit (.bool true)],args:=ds })
  (BF:fn.resultTypes=#[tb]) (Us:E.P.underlying tb=some .bool) (hl:laidOutB E.P=true) (hr:∀ t∈fn.params.toList,E.P.readableRec t=true∧t < E.P.types.size) (tU:E.lo=0:=by rfl) (Pt:∀ g cs,E.dD g=some cs→E.gx g=true→g < W.heap.size∧W.cell? ⟨g,cs.length,none⟩=none:=by intro _ _ _ h; exact Bool.noConfusion (show false=true from h)) :
  Calls E.P f args W fun e W'=>∃ v,e=.returned v∧s.post enc E.P fn apart fresh handsOn again W args v W':=by
 have Sw:=hW
 obtain ⟨p,q,hA,hV,rfl,QS,VV⟩:=hW
 obtain ⟨rfl,rfl⟩:gs=[]∧q=[]:=by
  rw [Aj] at hV
  cases gs with
  | nil=>exact ⟨rfl,hV⟩
  | cons g r=>exact absurd hV (by intro h; cases h)
 obtain ⟨x,hx,Ut⟩:=Ai (fun _=>rfl) (n:=n) Pu hA (r:=.any) (base':=base) (fun j t v hj hv=>Ir j t v (by simpa using hj) (by simpa using hv))
 have hlen:ds.length=fn.params.toList.length:=by
  clear Ir QS VV Sw hx Ut yP Pu hr
  revert hA
  generalize fn.params.toList=ts
  generalize args.toList=vs
  generalize p=pl
  clear p
  intro hA
  induction ts generalizing vs ds pl with
  | nil=>cases vs <;> cases ds <;> first | rfl | exact hA.elim
  | cons t ts ih=>
   cases vs with
   | nil=>cases ds <;> exact hA.elim
   | cons v vs=>
    cases ds with
    | nil=>exact hA.elim
    | cons d ds=>
     obtain ⟨p,q,_,h2,_⟩:=hA
     simp [ih vs q h2]
 have hG:dP E (pw W) W []:=⟨rfl,fun id go ro h=>by simp [nth] at h,fun i j ri rj b h=>by simp [pw,nth] at h,fun b o h=>h,fun g cs hg=>⟨Pv g cs hg,fun hx=>Pt g cs hg hx⟩,by rw [tU]; exact Nat.zero_le _⟩
 have hc:=(Sv x Ut [])
 refine (callsIn_wide.1 (hc.2 (pw W) W args.toList hG hx)).mono fun e W' he=>?_
 cases e with
 | panicked c=>exact he.elim
 | outgrown=>exact he.elim
 | returned c=>
  obtain ⟨r,G',R',⟨_,rfl⟩,dv,_,st⟩:=he
  cases dv
  have hb:Below W.heap.size W W':=⟨st.os,st.tape,st.output,st.size,fun k hk=>st.aW k hk fun ho=>by
   obtain ⟨id,ro,h1,_⟩:=fb ho
   simp [pw,nth] at h1⟩
  have bK:∀ y∈p,y.block < W.heap.size:=fun y hy=>by simpa using Sw.lt y (by simpa using hy)
  have e1:s.fn H (ds++[])={ results:=[.lit (.bool true)],args:=ds }:=by rw [List.append_nil]; exact yP ds hlen
  refine ⟨_,rfl,Ce (pa:=p) (pv:=[]) Sw ?_ ?_ ?_ rfl hb ?_⟩
  ·intro b sp hd
   rw [e1,BF]
   exact trodAll_mk1 (shut_bool Us true)
  ·intro sp Sx
   rw [e1]
   exact oR hl hb hr hA bK (fun y hy=>Sx y (by simpa using hy))
  ·intro sp _
   rw [e1,Aj]
   rfl
  ·intro j t r hj ky
   rw [BF] at hj ky
   cases j with
   | succ j=>simp at hj
   | zero=>
    simp at hj
    subst hj
    have:r=.bool true:=by simpa [Value.resultList] using ky.symm
    subst this
    simp [Value.okWide,Cell.okWide,Cell.ok,Us]
end
end Go.Am
namespace Go.Am
open Go
section
variable {P:Program} {W:World}
end
end Go.Am
namespace Go.Am
open Go
theorem cH {p:ah} (hp:p.plain=true) (l:List p.T):allFit p.fits (List.map p.enc l)=true:=by
 induction l with
 | nil=>rfl
 | cons x l ih=>simp [allFit,ih,(p.ba x hp).1]
theorem e8 {p:ah} (hp:p.plain=true) (l:List p.T):List.map p.a7 (List.map p.enc l)=l:=by
 induction l with
 | nil=>rfl
 | cons x l ih=>simp [ih,(p.ba x hp).2]
end Go.Am
namespace Go.Am
open Go Go.RowKit
section
variable {E:Env} {R:aj} {w w':World}
theorem Plain.of {P : Program} {g : FuncId} {fn : Func} (h : P.funcs[g]? = some fn) (h1 : fn.body.isNone = false) (h2 : (fn.name == "runtime.NumGoroutine") = false) : Plain P g := ⟨fn, h, h1, h2⟩
end
def p2 (a b:ah):aC:=.cons a (.cons b .nil)
def p1 (a:ah):aC:=.cons a .nil
def vn:List UInt8 × List UInt8→Option Int
 | (s,[c])=>some (s.count c:Nat)
 | _=>none
def Cf:bS:=⟨p2 .str .str,.int .i64,vn⟩
section
variable {E:Env}
end
end Go.Am
namespace Go.Am
open Go Go.RowKit Go.Proofs Go.Shelf
section
variable {E:Env} {R:aj} {w w':World}
theorem dP.xS {G:List GO} (h:dP E R w G):aV E R w (fun _=>0) ⟨[],fu,G,[],none,0⟩ { tmps:=#[],defers:=[] }:=
 ⟨h,⟨fun k cs hk=>by simp [fu,de] at hk,fun k k' cs eO hk=>by simp [fu,de] at hk⟩,fun i hi=>absurd rfl hi,rfl,trivial⟩
theorem Ak (a:Addr) (n:Nat) (b o:Nat):(w.freeze a n).cell? ⟨b,o,none⟩=w.cell? ⟨b,o,none⟩:=by
 unfold World.freeze
 split
 ·rfl
 ·simp only [World.cell?,Array.getElem?_modify]
  by_cases e:a.block=b
  ·subst e
   simp only [if_true]
   cases h:w.heap[a.block]? with
   | none=>rfl
   | some x=>cases x <;> simp
  ·simp [e]
theorem Al {a:Addr} {n:Nat} {b:Nat} (h:b≠a.block):(w.freeze a n).heap[b]?=w.heap[b]?:=by
 unfold World.freeze
 split
 ·rfl
 ·simp only [Array.getElem?_modify]
  rw [if_neg (Ne.symm h)]
theorem An (a:Addr) (n:Nat):(w.freeze a n).heap.size=w.heap.size:=by
 unfold World.freeze
 split <;> simp
theorem dP.frozen {G:List GO} (hg:dP E R w G) {t f sz el g c n:Nat} (XP:nth G t=some (.tok f sz el)) (hr:nth R.obj t=some (.tok f g c)) {cur:Array Value} {fz:Nat × Nat} (hc:w.heap[g]?=some (.cells cur el fz)) :
  dP E R (w.drew.freeze ⟨g,0,none⟩ n) (ax G t .dead)∧Step R w (fun _=>0) fu R (w.drew.freeze ⟨g,0,none⟩ n) (fun _=>0) fu:=by
 have hl:Live R g:=⟨t,_,hr,rfl⟩
 have aW:∀ b,b≠g→(w.drew.freeze ⟨g,0,none⟩ n).heap[b]?=w.heap[b]?:=fun b hb=>Al (w:=w.drew) (a:=⟨g,0,none⟩) hb
 have eC:(w.drew.freeze ⟨g,0,none⟩ n).heap.size=w.heap.size:=An (w:=w.drew) _ _
 have e:Ext R w R (w.drew.freeze ⟨g,0,none⟩ n):=⟨fun _ _ h=>h,fun b o _=>Ak (w:=w.drew) _ _ b o,fun _ ro h=>⟨ro,h,bZ.refl ro⟩,fun b r hb=>⟨r,by
  by_cases e:b=g
  ·subst e; rw [hc] at hb; cases hb
  ·rw [aW b e]; exact hb,rfl,rfl,rfl,rfl,rfl⟩⟩
 have QU:∀ (v:World) (a:Addr) (m:Nat),(v.freeze a m).os=v.os∧(v.freeze a m).tape=v.tape∧(v.freeze a m).output=v.output∧(v.freeze a m).drawn=v.drawn:=by
  intro v a m
  unfold World.freeze
  split <;> exact ⟨rfl,rfl,rfl,rfl⟩
 refine ⟨⟨by rw [gD]; exact hg.len,fun id go ro q1 q2=>?_,hg.inj,fun b o hi=>by rw [eC]; exact hg.wf b o hi,fun x cs hx=>(hg.dD x cs hx).mono e,by rw [(QU _ _ _).2.2.2]; exact Nat.le_succ_of_le hg.lo⟩,⟨e,(QU _ _ _).1,(QU _ _ _).2.1,(QU _ _ _).2.2.1,by rw [eC]; exact Nat.le_refl _,fun b hb hn=>aW b (fun e=>hn (e ▸ .inl hl)),fun _ _ ho=>ho,fun _ _ hi _ _=>hi⟩⟩
 rcases cP q1 with ⟨rfl,rfl,_⟩ | ⟨cq,q1⟩
 ·rw [hr] at q2
  cases q2
  show g < _
  rw [eC]
  exact aY hc
 ·refine (hg.obj id go ro q1 q2).mono e (fun b hb=>aW b (fun e=>cq ?_)) (fun _ _ _ hi=>hi)
  subst e
  exact hg.inj t id _ _ b hr q2 rfl hb
end
end Go.Am
