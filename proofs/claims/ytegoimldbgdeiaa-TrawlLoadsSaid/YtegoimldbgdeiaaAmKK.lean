/- The abstract machine: what the evaluator finds is so. -/
import Derived.Test.YtegoimldbgdeiaaAmKJ
import GoSem.ClaimJoined
import Derived.Below
import Derived.ChangeSame
import Derived.Carry
import Derived.RowKit
import Derived.FnData
import Derived.Lib.Builder
import Derived.Lib.UnsafeStr
import Derived.Shelf.Strings.Builder1
set_option linter.all false
namespace Go.Am
open Go
section ext
variable {E:Env} {f:FuncId} {s s':St} {o:Oper}
theorem aJ.put (s:St) (d:Option Tmp) (x:SV):aJ s (s.put d x):=by
 cases d with
 | none=>exact aJ.refl s
 | some d=>
  simp only [St.put]
  split
  ·exact ⟨⟨[_],rfl⟩,⟨[],rfl⟩,rfl⟩
  ·exact aJ.refl s
theorem aJ.bF (s:St) (G:List GO):aJ s (s.bF G):=⟨⟨[],rfl⟩,⟨[],rfl⟩,rfl⟩
theorem aJ.dy (s:St) (o:GO):aJ s (s.dy o):=⟨⟨[],rfl⟩,⟨[],rfl⟩,rfl⟩
theorem aJ.sr (s:St) (d:Nat) (cs:List AV):aJ s (s.sr d cs):=⟨⟨[],rfl⟩,⟨[_],rfl⟩,rfl⟩
theorem aJ.kill (s:St) (d:Nat):aJ s (s.kill d):=⟨⟨[_],rfl⟩,⟨[],rfl⟩,rfl⟩
theorem Ej {c:Bool} {s':St} (h:gb E f s o=some (c,s')):aJ s s':=by
 unfold gb at h
 repeat' (split at h)
 all_goals (first | (cases h; done) | skip)
 all_goals (injection h with h; injection h with _ h; subst h; exact (aJ.bF _ _).trans (aJ.put _ _ _))
theorem B3 {c:Bool} (h:ak E f s o=some (c,s')):aJ s s':=by
 have alloc:∀ {el:TypeId} {cs:List AV} {c:Bool} {s':St},eN E f s o.dst el cs=some (c,s')→aJ s s':=by
  intro el cs c s' h
  unfold eN at h
  repeat' (split at h)
  all_goals (first | (cases h; done) | skip)
  ·injection h with h; injection h with _ h; subst h; exact (aJ.dy _ _).trans (aJ.put _ _ _)
  ·injection h with h; injection h with _ h; subst h; exact ((aJ.kill _ _).trans (aJ.sr _ _ _)).trans (aJ.put _ _ _)
 have store:∀ {t:TypeId} {p x:SV} {s':St},iU E s t p x=some s'→aJ s s':=by
  intro t p x s' h
  unfold iU at h
  repeat' (split at h)
  all_goals (first | (cases h; done) | skip)
  all_goals (injection h with h; subst h)
  ·exact aJ.sr _ _ _
  ·exact aJ.bF _ _
 have Bu:∀ {t:TypeId} {p x:SV} {c:Bool} {s':St},iV E s t p x=some (c,s')→aJ s s':=by
  intro t p x c s' h
  unfold iV at h
  repeat' (split at h)
  all_goals (first | (cases h; done) | skip)
  all_goals (injection h with h; injection h with _ h; subst h)
  all_goals (first | exact aJ.bF _ _ | exact store (by assumption))
 have blt:∀ {b:Builtin} {l:List AV} {tys:List TypeId} {c:Bool} {s':St},bw E s o.dst b l tys=some (c,s')→aJ s s':=by
  intro b l tys c s' h
  unfold bw at h
  repeat' (split at h)
  all_goals (first | (cases h; done) | skip)
  all_goals (injection h with h; injection h with _ h; subst h)
  all_goals (first | exact aJ.put _ _ _ | exact (aJ.bF _ _).trans (aJ.put _ _ _) | exact aJ.bF _ _)
 have update:∀ {t:TypeId} {m k x:SV} {s':St},eP E s t m k x=some s'→aJ s s':=by
  intro t m k x s' h
  unfold eP at h
  repeat' (split at h)
  all_goals (first | (cases h; done) | skip)
  all_goals (injection h with h; subst h; exact aJ.bF _ _)
 have next:∀ {x:SV} {s':St},kC s o.dst x=some s'→aJ s s':=by
  intro x s' h
  unfold kC at h
  split at h
  ·split at h
   ·rename_i l pos hg
    cases hb:Nat.blt pos l.length <;> rw [hb] at h <;> simp only [cond_true,cond_false] at h <;> cases h
    ·exact aJ.put _ _ _
    ·exact (aJ.bF _ _).trans (aJ.put _ _ _)
   ·cases h
  ·cases h
 have Bv:∀ {t:TypeId} {m k:SV} {c:Bool} {v:AV} {s':St},fO E s t m k=some (c,v,s')→aJ s s':=by
  intro t m k c v s' h
  unfold fO at h
  repeat' (split at h)
  all_goals (first | (cases h; done) | skip)
  all_goals (injection h with h; injection h with _ h; injection h with _ h; subst h; exact aJ.bF _ _)
 have Bw:∀ {m st x:SV} {c:Bool} {s':St},dO s m st x=some (c,s')→aJ s s':=by
  intro m st x c s' h
  unfold dO at h
  repeat' (split at h)
  all_goals (first | (cases h; done) | skip)
  all_goals (injection h with h; injection h with _ h; subst h; exact aJ.bF _ _)
 unfold ak at h
 repeat' (split at h)
 all_goals (first | (cases h; done) | exact alloc h | exact blt h | (rename_i hf; cases h; exact Ej hf) | skip)
 all_goals (injection h with h; injection h with _ h; subst h)
 all_goals (first | exact aJ.put _ _ _ | exact (aJ.dy _ _).trans (aJ.put _ _ _) | skip)
 all_goals (first | exact Bu (by assumption) | exact update (by assumption) | exact (Bv (by assumption)).trans (aJ.put _ _ _) | exact Bw (by assumption) | exact next (by assumption))
theorem cB.ga {g:FuncId} {args J4:List AV} {G:List GO} {Q:AV→List GO→Prop} (hw:cg args J4) (h:cB E g J4 G Q):cB E g args G Q:=
 ⟨h.1,fun R w cs hg hl=>h.2 R w cs hg (hw.rel hl)⟩
theorem Ac {K:St→Prop} (h:jw E f o K s):jw E f o (fun s'=>K s'∧aJ s s') s:=by
 unfold jw at *
 split
 ·rename_i x args tys ho
  rw [ho] at h
  simp only at h
  split at h
  ·exact h.mono fun r G' hk=>⟨hk,(aJ.bF _ _).trans (aJ.put _ _ _)⟩
  ·exact h.mono fun r G' hk=>⟨hk,(aJ.bF _ _).trans (aJ.put _ _ _)⟩
  ·exact h
 ·rename_i ho
  rw [ho] at h
  exact h
 ·rename_i nc nd
  split at h
  ·rename_i ho
   exact absurd ho (nc _ _ _)
  ·exact h.elim
  ·split at h
   ·rename_i c s' hs
    obtain ⟨hc,hk⟩:=h.out
    exact cX.mk hc ⟨hk,B3 hs⟩
   ·exact h.elim
theorem kJ {K:St→Prop} {ops:List Oper} (h:bL E f ops o K s):bL E f ops o (fun s'=>K s'∧aJ s s') s:=by
 unfold bL at *
 split
 ·rename_i hg
  rw [hg] at h
  exact Ac h
 ·rename_i j want hg
  rw [hg] at h
  simp only at h
  split
  ·rename_i hd
   rw [hd] at h
   exact h
  ·rename_i d hd
   rw [hd] at h
   simp only at h
   split
   ·rename_i b hb
    rw [hb] at h
    simp only at h
    refine ⟨fun e=>?_,fun e=>⟨h.2 e,(aJ.put _ _ _).trans (aJ.put _ _ _)⟩⟩
    exact rm (Ac (h.1 e)) fun s' hh=>⟨hh.1,(aJ.put _ _ _).trans hh.2⟩
   ·rename_i hb
    rw [hb] at h
    exact ⟨h,aJ.put _ _ _⟩
   ·rename_i hb kD
    split at h
    ·rename_i b EO
     exact absurd EO (hb b)
    ·rename_i EO
     exact absurd EO kD
    ·exact h
theorem vQ {K K':St→Prop} {ops:List Oper} (h:fH E f ops o K s) (hK:∀ s,K s→K' s):fH E f ops o K' s:=by
 unfold fH at *
 split
 ·rename_i s' h1 h2
  rw [h1,h2] at h
  exact hK _ h
 ·rename_i hn
  split at h
  ·rename_i s' h1 h2
   exact absurd h2 (hn s' h1)
  ·exact bM h hK
theorem sL {s':St} (h:iD E f s o=some s'):aJ s s':=by
 unfold iD at h
 repeat' (split at h)
 all_goals (first | (cases h; done) | skip)
 all_goals (injection h with h; subst h; exact (aJ.dy _ _).trans (aJ.put _ _ _))
theorem yu {K:St→Prop} {ops:List Oper} (h:fH E f ops o K s):fH E f ops o (fun s'=>K s'∧aJ s s') s:=by
 unfold fH at *
 split
 ·rename_i s' h1 h2
  rw [h1,h2] at h
  exact ⟨h,sL h2⟩
 ·rename_i hn
  split at h
  ·rename_i s' h1 h2
   exact absurd h2 (hn s' h1)
  ·exact kJ h
theorem kZ {K K':St→Prop} {ops:List Oper} (h:eW E f ops o K s) (hK:∀ s,K s→K' s):eW E f ops o K' s:=by
 unfold eW at *
 split at h
 ·obtain ⟨h1,h2⟩:=h.out
  exact cX.mk h1 (hK _ h2)
 ·obtain ⟨h1,h2,h3⟩:=h.out
  exact cX.mk h1 ⟨fun e=>hK _ (h2 e),fun i hi=>let ⟨k1,k2⟩:=(h3 i hi).out; cX.mk k1 (hK _ k2)⟩
 ·exact vQ h hK
theorem Ek {c:Bool} {s':St} (h:rL E f s o=some (c,s')):aJ s s':=by
 unfold rL at h
 repeat' (split at h)
 all_goals (first | (cases h; done) | skip)
 all_goals (injection h with h; injection h with _ h; subst h; exact (aJ.bF _ _).trans (aJ.put _ _ _))
theorem B4 {c:Bool} {s0:St} {left:List Nat} {g:Nat→Bool × St} (h:qP E s o=some (c,s0,left,g)):aJ s s0∧∀ i,aJ s (g i).2:=by
 unfold qP at h
 split at h
 ·unfold wh at h
  split at h
  ·split at h
   ·split at h
    ·cases h
     exact ⟨aJ.put _ _ _,fun i=>(aJ.bF _ _).trans (aJ.put _ _ _)⟩
    ·cases h
   ·cases h
  ·cases h
 ·cases h
theorem qt {K:St→Prop} {ops:List Oper} (h:eW E f ops o K s):eW E f ops o (fun s'=>K s'∧aJ s s') s:=by
 unfold eW at *
 split at h
 ·rename_i hb
  obtain ⟨h1,h2⟩:=h.out
  exact cX.mk h1 ⟨h2,Ek hb⟩
 ·rename_i hb
  obtain ⟨h1,h2,h3⟩:=h.out
  obtain ⟨k1,k2⟩:=B4 hb
  exact cX.mk h1 ⟨fun e=>⟨h2 e,k1⟩,fun i hi=>let ⟨q1,q2⟩:=(h3 i hi).out; cX.mk q1 ⟨q2,k2 i⟩⟩
 ·exact yu h
theorem k9 {K K':St→Prop} {ops:List Oper} (h:eX E f ops o K s) (hK:∀ s,K s→K' s):eX E f ops o K' s:=by
 unfold eX at *
 split at h
 ·exact ⟨h.1,kZ h.2 hK⟩
 ·exact kZ h hK
theorem gG {cut wk:Bool}:∀ {l:List Operand} {s s':St} {c:Bool},gq cut wk l s=(c,s')→aJ s s'
 | [],s,s',c,h=>by
  simp only [gq] at h
  cases h
  exact aJ.refl _
 | .tmp t :: l,s,s',c,h=>by
  unfold gq at h
  split at h
  ·rename_i c1 s1 h1
   cases h2:gq cut wk l s1 with
   | mk c2 s2=>
   rw [h2] at h
   simp only [Prod.mk.injEq] at h
   obtain ⟨_,rfl⟩:=h
   exact (iI h1).trans (gG h2)
  ·exact gG h
 | .const _ :: l,s,s',c,h=>gG (l:=l) h
 | .global _ :: l,s,s',c,h=>gG (l:=l) h
 | .func _ :: l,s,s',c,h=>gG (l:=l) h
theorem Gd {s s':St} {o:Oper} {c:Bool} (h:Dy E f s o=some (c,s')):aJ s s':=by
 unfold Dy at h
 split at h
 ·split at h
  ·injection h with h
   exact gG h
  ·cases h
 ·cases h
theorem yw {K:St→Prop} {ops:List Oper} (h:eX E f ops o K s):eX E f ops o (fun s'=>K s'∧aJ s s') s:=by
 unfold eX at *
 split at h
 ·rename_i c s' hz
  exact ⟨h.1,kZ (qt h.2) fun s2 h2=>⟨h2.1,(Gd hz).trans h2.2⟩⟩
 ·exact qt h
theorem uZ {s s':St} {l:Loc} {sz:Nat} {e:TypeId} (h:ng s l sz e=some s'):aJ s s':=by
 unfold ng at h
 cases Bq:Nat.ble 196608 sz with
 | true=>rw [Bq] at h; cases h; exact aJ.dy _ _
 | false=>
 rw [Bq] at h
 cases l with
 | slot t=>
  simp only at h
  split at h
  ·cases h; exact ⟨⟨[_],rfl⟩,⟨[],rfl⟩,rfl⟩
  ·cases h
 | box k i=>
  simp only at h
  split at h
  ·split at h
   ·cases h; exact ⟨⟨[],rfl⟩,⟨[_],rfl⟩,rfl⟩
   ·cases h
  ·cases h
 | row id i=>
  simp only at h
  split at h
  ·split at h
   ·cases h; exact ⟨⟨[],rfl⟩,⟨[],rfl⟩,rfl⟩
   ·cases h
  ·cases h
theorem j9:∀ {l:List (Loc × Nat × TypeId)} {s s':St},fG l s=some s'→aJ s s'
 | [],s,s',h=>by
  simp only [fG] at h
  cases h
  exact aJ.refl _
 | (l,sz,e) :: r,s,s',h=>by
  unfold fG at h
  split at h
  ·rename_i s1 h1
   exact (uZ h1).trans (j9 h)
  ·cases h
theorem nI:∀ {l:List (Loc × Nat × TypeId)} {s:St},aJ s (iA l s)
 | [],s=>aJ.refl _
 | (l,sz,e) :: r,s=>by
  unfold iA
  split
  ·rename_i s1 h1
   exact (uZ h1).trans nI
  ·exact nI
theorem El {s s':St} {o:Oper} (h:wK E f o s=some s'):aJ s s':=by
 unfold wK at h
 split at h
 ·cases h; exact aJ.refl _
 ·split at h
  ·split at h
   ·rename_i hz
    cases h
    exact iI hz
   ·cases h
  ·split at h
   ·cases h; exact aJ.refl _
   ·split at h
    ·exact Br h
    ·split at h
     ·cases h; exact nI
     ·cases h
theorem u4 {K K':St→Prop} {ops:List Oper} (hK:∀ s,K s→K' s):∀ {l:List Oper} {s:St},nm E f ops l K s→nm E f ops l K' s
 | [],s,h=>hK s h
 | _ :: _,_,h=>k9 h fun s' h'=>by
  unfold wM at *
  split at h'
  ·exact u4 hK h'
  ·exact h'.elim
theorem u6 {K K':St→Prop} {ops:List Oper} (hK:∀ s,K s→K' s) {T:DT} {s:St} (h:qJ E f ops T K s):qJ E f ops T K' s:=
 e9 (ops:=⟨ops⟩) hK T s h
theorem xe {K:St→Prop} {ops:List Oper}:∀ {l:List Oper} {s:St},nm E f ops l K s→nm E f ops l (fun s'=>K s'∧aJ s s') s
 | [],s,h=>⟨h,aJ.refl s⟩
 | o :: l,s,h=>by
  simp only [nm] at *
  refine k9 (yw h) fun s' hh=>?_
  obtain ⟨h1,h2⟩:=hh
  unfold wM at *
  split at h1
  ·rename_i s2 hp
   exact u4 (fun s3 h3=>⟨h3.1,(h2.trans (El hp)).trans h3.2⟩) (xe h1)
  ·exact h1.elim
theorem qu {K:St→Prop} {ops:List Oper}:∀ {T:DT} {s:St},qJ E f ops T K s→qJ E f ops T (fun s'=>K s'∧aJ s s') s
 | .done,s,h=>⟨h,aJ.refl s⟩
 | .stop,_,_=>trivial
 | .take j C T,s,h=>by
  unfold qJ at h ⊢
  split
  ·rename_i oj hj
   rw [hj] at h
   exact bM (kJ h) fun s' hh=>u6 (fun s2 h2=>⟨h2.1,hh.2.trans h2.2⟩) (qu hh.1)
  ·rename_i hj
   rw [hj] at h
   exact h
 | .al j W T,s,h=>by
  unfold qJ at h ⊢
  split
  ·rename_i oj hj
   rw [hj] at h
   exact ⟨h.1,bM (kJ h.2) fun s' hh=>u6 (fun s2 h2=>⟨h2.1,hh.2.trans h2.2⟩) (qu hh.1)⟩
  ·rename_i hj
   rw [hj] at h
   exact h
 | .br i re C T more,s,h=>by
  unfold qJ at h ⊢
  refine ⟨?_,qu h.2⟩
  have h:=h.1
  split
  ·rename_i oj hj
   rw [hj] at h
   exact bM (kJ h) fun s' hh=>⟨hh.1.1,u6 (fun s2 h2=>⟨h2.1,hh.2.trans h2.2⟩) (qu hh.1.2)⟩
  ·rename_i hj
   rw [hj] at h
   exact h
end ext
def ka (E:Env) (c:Code) (Q:Exit→St→Prop) (s:St):Prop:=eQ E c (fun e s'=>Q e s'∧aJ s s') s
section sound
variable {E:Env} {f:FuncId} {s:St} {X:Type} {fz:Bool} {call:nG X} {kI:kY X} {eK:Option X→Option X→Option X} {x:X}
def mq (E:Env) (call:nG X):Prop:=∀ g args G K x,call g args G K=some x→cB E g args G (fun r G'=>K r G'=some x)
def sg (E:Env) (kI:kY X):Prop:=∀ id args G K x,kI id args G K=some x→jV E id args G (fun b G'=>K b G'=some x)
theorem aQ {α:Type} {c:Bool} {a:Option α} {x:α} (h:(bif c then a else none)=some x):c=true∧a=some x:=by
 cases c
 ·cases h
 ·exact ⟨rfl,h⟩
theorem bind_some {α β:Type} {a:Option α} {k:α→Option β} {x:β} (h:a.bind k=some x):∃ y,a=some y∧k y=some x:=by
 cases a with
 | none=>cases h
 | some y=>exact ⟨y,rfl,h⟩
theorem Em {o:Oper} {n:Int} {len:Nat} {g:Nat→Oper} (h:yp E s o=some (n,len,g)) {j:Nat} (hj:n=(j:Int)):ak E f s (g j)=ak E f s o:=by
 subst hj
 unfold yp at h
 have KQ:∀ k:IntKind,bc E s.ae (.const (.int k (j:Int)))=.v (.int k j):=fun k=>rfl
 split at h
 ·rename_i t x y ho
  split at h
  ·rename_i k n i h1 h2
   split at h
   ·injection h with h; injection h with e1 h; injection h with e2 h
    subst h; subst e1
    simp only [ak,ho,KQ,h1]
   ·cases h
  ·cases h
 ·rename_i t x y ho
  split at h
  ·rename_i k n i h1 h2
   split at h
   ·split at h
    ·split at h
     ·cases h
     ·injection h with h; injection h with e1 h; injection h with e2 h
      subst h; subst e1
      simp only [ak,ho,KQ,h1]
    ·injection h with h; injection h with e1 h; injection h with e2 h
     subst h; subst e1
     simp only [ak,ho,KQ,h1]
   ·cases h
  ·cases h
 ·cases h
theorem oK {o:Oper} {n:Int} {len:Nat} {g:Nat→Oper} (hi:yp E s o=some (n,len,g)) {K:St→Option X}:∀ (m j:Nat),s7 E fz f g n K s m j=some x→∃ c s',ak E f s o=some (c,s')∧c=true∧K s'=some x
 | 0,_,h=>by cases h
 | m+1,j,h=>by
  unfold s7 at h
  by_cases hn:n=(j:Int)
  ·rw [decide_eq_true hn,cond_true,Em hi hn] at h
   split at h
   ·rename_i c s' hs
    obtain ⟨h1,h2⟩:=aQ h
    rw [ck] at h2
    exact ⟨c,s',hs,h1,h2⟩
   ·cases h
  ·rw [decide_eq_false hn,cond_false] at h
   exact oK hi m (j+1) h
theorem va {ops:List Oper} {o:Oper} (h:LN E f ops o s=true):BD E f ops o s:=by
 unfold LN at h
 split at h
 ·rename_i t m k ok d ho hd
  split at h
  ·rename_i c v b hg hs
   rw [Bool.and_eq_true] at h
   obtain ⟨rfl,h⟩:=h
   have hn:=ql hs
   unfold BD
   rw [hg]
   simp only
   have e:ak E f s o=some (true,s.put o.dst (.v (if ok then .bi [v,.bool b] else v))):=by simp only [ak,ho,hn]
   rw [hd] at e
   rw [hd,e]
   refine ⟨rfl,?_⟩
   unfold St.put
   simp only
   split
   ·rw [aw]
    exact wT h
   ·rfl
  ·exact wU h
 ·exact wU h
theorem oL {ops:List Oper}:∀ {l:List Nat} {s:St},oa E f ops l s=true→wQ E f ops l s
 | [],_,_=>trivial
 | k :: l,s,h=>by
  unfold oa at h
  unfold wQ
  rw [Bool.and_eq_true] at h
  refine ⟨?_,oL h.2⟩
  have h:=h.1
  split at h
  ·rename_i hk
   first
    | exact va h
    | rw [hk]; exact va h
  ·rename_i hk
   first
    | trivial
    | rw [hk]; trivial
theorem rA (hc:mq E call) (hr:sg E kI) {o:Oper} {K:St→Option X} (h:LM E fz call kI f o K s=some x):jw E f o (fun s=>K s=some x) s:=by
 unfold jw
 split
 ·rename_i y args tys ho
  unfold LM at h
  rw [ho] at h
  simp only at h
  split at h
  ·rename_i h1 h2
   rw [h1,h2]
   refine (hc _ _ _ _ _ h).mono fun r G' hk=>?_
   rw [ck] at hk
   exact hk
  ·rename_i h1 h2
   rw [h1,h2]
   refine (hr _ _ _ _ _ h).mono fun r G' hk=>?_
   rw [ck] at hk
   exact hk
  ·cases h
 ·rename_i ho
  unfold LM at h
  rw [ho] at h
  cases h
 ·rename_i nc nd
  unfold LM at h
  split at h
  ·rename_i ho
   exact absurd ho (nc _ _ _)
  ·cases h
  ·rename_i y ho
   split at h
   ·rename_i b s1 s2 hs
    have hn:=BW hs
    have e:ak E f s o=some (true,bif b then s1 else s2):=by simp only [ak,ho,hn]
    rw [e]
    refine cX.mk rfl ?_
    rw [ck,ck] at h
    cases b <;> exact h
   ·cases h
  ·rename_i t m k ok ho
   split at h
   ·rename_i c v b hs
    obtain ⟨h1,h2⟩:=aQ h
    subst h1
    rw [ck] at h2
    have hn:=ql hs
    have e:ak E f s o=some (true,s.put o.dst (.v (if ok then .bi [v,.bool b] else v))):=by simp only [ak,ho,hn]
    rw [e]
    exact cX.mk rfl h2
   ·split at h
    ·rename_i c s' hs
     obtain ⟨h1,h2⟩:=aQ h
     rw [ck] at h2
     rw [hs]
     exact cX.mk h1 h2
    ·cases h
  ·rename_i t m k z ho
   split at h
   ·rename_i c s' hd hs
    obtain ⟨h1,h2⟩:=aQ h
    subst h1
    rw [ck] at h2
    have hn:=qm hs
    have e:ak E f s o=some (true,s'):=by simp only [ak,ho,hd,hn]
    rw [e]
    exact cX.mk rfl h2
   ·cases h
  ·rename_i t m k z ho
   split at h
   ·rename_i c s' hd hs
    obtain ⟨h1,h2⟩:=aQ h
    subst h1
    rw [ck] at h2
    have hn:=qm hs
    have e:ak E f s o=some (true,s'):=by simp only [ak,ho,hd,hn]
    rw [e]
    exact cX.mk rfl h2
   ·cases h
  ·rename_i args tys ho
   split at h
   ·rename_i c s' hf
    obtain ⟨h1,h2⟩:=aQ h
    rw [ck] at h2
    have e:ak E f s o=some (c,s'):=by simp only [ak,ho,hf]
    rw [e]
    exact cX.mk h1 h2
   ·rename_i hf
    split at h
    ·rename_i l hl
     split at h
     ·rename_i b s1 c s2 hs
      have Be:b=false→c=true:=fun e=>by subst e; exact (aQ (show (bif c then n9 fz s2 K else none)=some x from h)).1
      have hn:=yl hs Be
      have e:ak E f s o=some (true,bif b then s1 else s2):=by simp only [ak,ho,hf,hl,hn]
      rw [e]
      refine cX.mk rfl ?_
      cases b with
      | true=>
       show K s1=some x
       rw [← ck fz s1 K]
       exact h
      | false=>
       obtain ⟨h1,h2⟩:=aQ (show (bif c then n9 fz s2 K else none)=some x from h)
       rw [ck] at h2
       exact h2
     ·split at h
      ·rename_i c s' hs
       obtain ⟨h1,h2⟩:=aQ h
       rw [ck] at h2
       rw [hs]
       exact cX.mk h1 h2
      ·cases h
    ·cases h
  ·rename_i args tys ho
   split at h
   ·rename_i l hl
    split at h
    ·rename_i c s' hs
     obtain ⟨h1,h2⟩:=aQ h
     subst h1
     rw [ck] at h2
     have hn:=BX hs
     have hf:gb E f s o=none:=by
      cases hf:gb E f s o with
      | none=>rfl
      | some r=>
       obtain ⟨_,_,h2⟩:=mg hf
       rw [ho] at h2
       cases h2
     have e:ak E f s o=some (true,s'):=by simp only [ak,ho,hf,hl,hn]
     rw [e]
     exact cX.mk rfl h2
    ·split at h
     ·rename_i c s' hs
      obtain ⟨h1,h2⟩:=aQ h
      rw [ck] at h2
      rw [hs]
      exact cX.mk h1 h2
     ·cases h
   ·cases h
  ·split at h
   ·rename_i n len g hi
    obtain ⟨c,s',hs,h1,h2⟩:=oK hi _ _ h
    rw [hs]
    exact cX.mk h1 h2
   ·split at h
    ·rename_i c s' hs
     obtain ⟨h1,h2⟩:=aQ h
     rw [ck] at h2
     rw [hs]
     exact cX.mk h1 h2
    ·cases h
theorem jA (hc:mq E call) (hr:sg E kI) {ops:List Oper} {o:Oper} {K:St→Option X} (h:nH E fz call kI f ops o K s=some x):bL E f ops o (fun s=>K s=some x) s:=by
 unfold nH at h
 unfold bL
 split at h
 ·rename_i hg
  rw [hg]
  exact rA hc hr h
 ·rename_i j want hg
  rw [hg]
  simp only
  split at h
  ·cases h
  ·rename_i d hd
   rw [hd]
   simp only
   split at h
   ·rename_i b hb
    rw [hb]
    simp only
    cases want with
    | true=>
     simp only at h
     rw [ck,ck] at h
     refine ⟨fun e=>?_,fun e=>?_⟩
     ·subst e
      exact rA hc hr h
     ·have e:b=false:=by simpa using e
      subst e
      exact h
    | false=>
     simp only at h
     rw [ck,ck] at h
     refine ⟨fun e=>?_,fun e=>?_⟩
     ·subst e
      exact rA hc hr h
     ·have e:b=true:=by simpa using e
      subst e
      exact h
   ·rename_i hb
    rw [hb]
    rw [ck] at h
    exact h
   ·cases h
theorem vR (hc:mq E call) (hr:sg E kI) {ops:List Oper} {o:Oper} {K:St→Option X} (h:yq E fz call kI f ops o K s=some x):fH E f ops o (fun s=>K s=some x) s:=by
 unfold yq at h
 unfold fH
 split at h
 ·rename_i s' h1 h2
  rw [h1,h2]
  rw [ck] at h
  exact h
 ·rename_i hn
  split
  ·rename_i s' h1 h2
   exact absurd h2 (hn s' h1)
  ·exact jA hc hr h
theorem oM (hc:mq E call) (hr:sg E kI) {ops:List Oper} {o:Oper} {K:St→Option X} (h:s8 E fz call kI f ops o K s=some x):eW E f ops o (fun s=>K s=some x) s:=by
 unfold s8 at h
 unfold eW
 split at h
 ·rename_i c s' h1 h2
  rw [h1,h2]
  obtain ⟨q1,q2⟩:=aQ h
  rw [ck] at q2
  exact cX.mk q1 q2
 ·rename_i c s0 left g h1 h2 h3
  rw [h1,h2,h3]
  obtain ⟨q1,q2⟩:=aQ h
  refine cX.mk q1 ?_
  cases left with
  | nil=>
   simp only [List.isEmpty_nil,cond_true,ck] at q2
   exact ⟨fun _=>q2,fun i hi=>by simp at hi⟩
  | cons i0 l=>
   simp only [List.isEmpty_cons,cond_false] at q2
   refine ⟨fun e=>(by cases e),fun i hi=>?_⟩
   obtain ⟨r1,r2⟩:=aQ (Ei q2 i hi)
   rw [ck] at r2
   exact cX.mk r1 r2
 ·rename_i EI Us
  split
  ·rename_i c s' h1 h2
   first
    | exact absurd h2 (EI c s' h1)
    | exact absurd h2 (Us c s' h1)
  ·rename_i c s0 left g h1 h2 h3
   first
    | exact absurd h3 (Us c s0 left g h1 h2)
    | exact absurd h3 (EI c s0 left g h1 h2)
  ·exact vR hc hr h
theorem vS (hc:mq E call) (hr:sg E kI) {ops:List Oper} {o:Oper} {K:St→Option X} (h:yt E fz call kI f ops o K s=some x):eX E f ops o (fun s=>K s=some x) s:=by
 unfold yt at h
 unfold eX
 split at h
 ·rename_i c s' hz
  rw [hz]
  obtain ⟨h1,h2⟩:=aQ h
  exact ⟨h1,oM hc hr h2⟩
 ·rename_i hz
  rw [hz]
  exact oM hc hr h
theorem vb (hc:mq E call) (hr:sg E kI) {ops:List Oper}:∀ {l:List Oper} {K:St→Option X} {s:St},Ia E fz call kI f ops l K s=some x→nm E f ops l (fun s=>K s=some x) s
 | [],_,_,h=>h
 | o :: l,K,s,h=>by
  unfold Ia at h
  unfold nm
  refine k9 (vS hc hr h) fun s' h'=>?_
  unfold wM
  split at h'
  ·rename_i s2 hp
   rw [hp]
   exact vb hc hr h'
  ·cases h'
theorem iN (hc:mq E call) (hr:sg E kI) (hm:sf eK) {ops:List Oper}:∀ {T:DT} {K:St→Option X} {s:St} {x:X},oT E fz call kI eK f ops T K s=some x→qJ E f ops T (fun s=>K s=some x) s
 | .done,_,_,_,h=>h
 | .stop,_,_,_,_=>trivial
 | .take j C T,K,s,x,h=>by
  unfold oT at h
  unfold qJ
  split at h
  ·rename_i hk
   rw [hk]
   exact bM (jA hc hr h) fun s' h'=>iN hc hr hm h'
  ·cases h
 | .al j W T,K,s,x,h=>by
  unfold oT at h
  unfold qJ
  split at h
  ·rename_i hk
   obtain ⟨h1,h2⟩:=aQ h
   rw [hk]
   exact ⟨h1,bM (jA hc hr h2) fun s' h'=>iN hc hr hm h'⟩
  ·cases h
 | .br i re C T more,K,s,x,h=>by
  have first:∀ {x:X},(match nth ops i with
   | some oi=>nH E fz call kI f ops oi (fun s'=>bif oa E f ops re s' then oT E fz call kI eK f ops T K s' else none) s
   | none=>none)=some x→(match nth ops i with
   | some oi=>bL E f ops oi (fun s'=>wQ E f ops re s'∧qJ E f ops T (fun s=>K s=some x) s') s
   | none=>False):=by
   intro x h
   split at h
   ·rename_i hk
    refine bM (jA hc hr h) fun s' h'=>?_
    obtain ⟨h1,h2⟩:=aQ h'
    exact ⟨oL h1,iN hc hr hm h2⟩
   ·cases h
  unfold qJ
  cases more with
  | stop=>exact ⟨first h,trivial⟩
  | done=>obtain ⟨h1,h2⟩:=hm _ _ _ h; exact ⟨first h1,iN (T:=.done) hc hr hm h2⟩
  | take a b c=>obtain ⟨h1,h2⟩:=hm _ _ _ h; exact ⟨first h1,iN hc hr hm h2⟩
  | br a b c d e=>obtain ⟨h1,h2⟩:=hm _ _ _ h; exact ⟨first h1,iN hc hr hm h2⟩
  | al a b c=>obtain ⟨h1,h2⟩:=hm _ _ _ h; exact ⟨first h1,iN hc hr hm h2⟩
end sound
end Go.Am
namespace Go.Am
open Go
section
variable {C:kz} {ih:N7}
def rB (C:kz) (ih:N7):Prop:=∀ (f:FuncId) (p:Nat) (c:Code) (X:Type) (eK:Option X→Option X→Option X),sf eK→∀ (K:Exit→St→Option X) (s:St) (x:X),
 bh (C.D.dt f) c=true→ih f p c X eK K s=some x→ka C.D.toEnv c (fun e s'=>K e s'=some x) s
theorem mr {X:Type}:sf (vP (X:=X)):=fun a b x h=>by
 unfold vP at h
 by_cases e:a=b
 ·rw [if_pos e] at h
  exact ⟨h,e ▸ h⟩
 ·rw [if_neg e] at h
  cases h
theorem kK (hs:rB C ih) {X:Type} {eK:Option X→Option X→Option X} (hm:sf eK):mq C.D.toEnv (wZ C ih eK):=fun g args G K x h=>by
 unfold wZ at h
 obtain ⟨eT,h⟩:=aQ h
 split at h
 ·rename_i fn Ut
  split at h
  ·rename_i b hb
   obtain ⟨hn,h⟩:=aQ h
   have fin:∀ {K':AV→List GO→Option X},ih g 1 b X eK (F6 C.D.toEnv fn K') (St.init fn.ntmps args G)=some x→cB C.D.toEnv g args G (fun r G'=>K' r G'=some x):=by
    intro K' h
    refine cB.intro Ut hb (by simpa using hn) ((hs g 1 b X eK hm _ _ x (C.D.JN g fn b eT Ut hb) h).mono fun e s' hq=>?_)
    have hq:=hq.1
    unfold F6 at hq
    unfold JK
    cases e <;> first | (cases hq; done) | skip
    all_goals (simp only at hq ⊢)
    all_goals (split at hq <;> first | (cases hq; done) | skip)
    all_goals (rename_i hl; rw [hl]; simp only)
    all_goals (split at hq <;> first | (cases hq; done) | skip)
    all_goals (rename_i HX; rw [HX]; exact hq)
   cases QX:C.D.vA g 131072 with
   | true=>rw [QX] at h; exact cB.VW (fin h)
   | false=>rw [QX] at h; exact fin h
  ·cases h
 ·cases h
theorem Ad (yx:∀ g e,C.F4 g=some e→aM C.D.toEnv g e) (hs:rB C ih) {X:Type} {eK:Option X→Option X→Option X} (hm:sf eK):mq C.D.toEnv (xd C ih eK):=fun g args G K x h=>by
 unfold xd at h
 split at h
 ·rename_i e he
  obtain ⟨a,ha,h⟩:=bind_some h
  obtain ⟨y,hy,h⟩:=bind_some h
  refine cB.ga (e.ps.oU ha).1 (((yx g e he a y hy) G).mono fun r G' hr=>?_)
  obtain ⟨rfl,rfl⟩:=hr
  exact h
 ·split at h
  ·rename_i e he
   split at h
   ·rename_i c r G' hf
    obtain ⟨hc,h⟩:=aQ h
    subst hc
    refine (e.ok args G r G' hf).mono fun r' JX hh=>?_
    obtain ⟨rfl,rfl⟩:=hh
    exact h
   ·cases h
  ·split at h
   ·rename_i e he
    obtain ⟨a,ha,h⟩:=bind_some h
    obtain ⟨y,hy,h⟩:=bind_some h
    refine cB.ga (e.ps.oU ha).1 ((e.ok a y hy G).mono fun r G' hr=>?_)
    obtain ⟨z,rfl,hr⟩:=hr
    exact (Aa e.outs z hr).trans h
   ·exact kK hs hm g args G K x h
theorem Ae {n:Nat}:∀ {l:List Tmp},Ib n l=true→∀ t∈l,t < n
 | [],_,t,ht=>by simp at ht
 | a :: l,h,t,ht=>by
  simp only [Ib,Bool.and_eq_true] at h
  rcases List.mem_cons.1 ht with rfl | ht
  ·exact jf h.1
  ·exact Ae h.2 t ht
theorem B5 (hs:rB C ih) {X:Type} {eK:Option X→Option X→Option X} (hm:sf eK):sg C.D.toEnv (Ic C ih eK):=fun id args G K x h=>by
 unfold Ic at h
 split at h
 ·rename_i p fp sl n ps pf bd d hG
  obtain ⟨hc,h⟩:=aQ h
  simp only [Bool.and_eq_true] at hc
  obtain ⟨⟨⟨h1,h2⟩,h3⟩,h4⟩:=hc
  refine jV.intro hG (Nat.eq_of_beq_eq_true h1) (Ae h2) ((hs _ _ pf X eK hm _ _ x h3 h).mono fun e s1 hq=>?_)
  have hq:=hq.1
  unfold yh
  cases e with
  | normal=>
   simp only at hq ⊢
   split at hq
   ·rename_i p' fn N1 n' Pn H8 N5 d' Sl
    rw [Sl]
    simp only
    refine (hs _ _ bd X eK hm _ _ x h4 hq).mono fun e2 s2 mR=>?_
    have mR:B1 id K e2 s2=some x:=mR.1
    unfold B1 at mR
    unfold BU
    split at mR
    ·rename_i Pc
     rw [Pc]
     cases e2 <;> first | (cases mR; done) | exact mR
    ·cases mR
   ·cases hq
  | _=>cases hq
 ·cases h
theorem ka.of {E:Env} {c:Code} {Q Q':Exit→St→Prop} {s:St} (h:ka E c Q s) (hq:∀ e s',Q e s'→aJ s s'→Q' e s'):eQ E c Q' s:=
 eQ.mono h fun e s' hh=>hq e s' hh.1 hh.2
theorem qv {s s':St} {e:Exit}:∀ {outs:List (XK × bU)} {o:JT outs},ky s outs e s'=some o→∃ (t:bU) (v:t.ps.T),t.dec s s'=some v∧∀ (α:Type) (K:Exit→St→α),Hu s outs o K=K e (t.st s v)
 | [],o,h=>by cases h
 | [x],o,h=>by
  obtain ⟨h1,h2⟩:=aQ (show (bif x.1.is e then x.2.dec s s' else none)=some o from h)
  exact ⟨x.2,o,h2,fun _ K=>by rw [XK.CX h1]; rfl⟩
 | x :: y :: l,o,h=>by
  have h:(bif x.1.is e then (x.2.dec s s').bind fun v=>some (.inl v) else (ky s (y :: l) e s').bind fun o=>some (.inr o))=some o:=h
  cases hx:x.1.is e with
  | true=>
   rw [hx] at h
   obtain ⟨v,h1,h2⟩:=bind_some h
   cases h2
   exact ⟨x.2,v,h1,fun _ K=>by rw [XK.CX hx]; rfl⟩
  | false=>
   rw [hx] at h
   obtain ⟨v,h1,h2⟩:=bind_some h
   cases h2
   obtain ⟨t,u,k1,k2⟩:=qv h1
   exact ⟨t,u,k1,fun α K=>k2 α K⟩
theorem bU.nJ (t:bU) (s:St) (v:t.ps.T):aJ s (t.st s v):=by
 have h1:∀ (W:List Tmp) (b:aT),∃ pre,uG W b=pre++b:=fun W b=>by
  induction W with
  | nil=>exact ⟨[],rfl⟩
  | cons t W ih=>obtain ⟨p,hp⟩:=ih; exact ⟨.put t .none :: p,by simp [uG,hp]⟩
 have h2:∀ (ts:List Tmp) (l:List AV) (b:aT),∃ pre,nA ts l b=pre++b:=fun ts=>by
  induction ts with
  | nil=>intro l b; exact ⟨[],by cases l <;> rfl⟩
  | cons t ts ih=>
   intro l b
   cases l with
   | nil=>exact ⟨[],rfl⟩
   | cons a l=>obtain ⟨p,hp⟩:=ih l b; exact ⟨.put t (.v a) :: p,by simp [nA,hp]⟩
 have h3:∀ (bx:List (Nat × Nat)) (l:List AV) (b:cm),∃ pre,sa bx l b=pre++b:=fun bx=>by
  induction bx with
  | nil=>intro l b; exact ⟨[],rfl⟩
  | cons x bx ih=>
   obtain ⟨k,n⟩:=x
   intro l b
   obtain ⟨p,hp⟩:=ih (l.drop n) b
   exact ⟨(k,l.take n) :: p,by simp [sa,hp]⟩
 have h4:∀ (l:List (Tmp × Nat × Nat)) (b:aT),∃ pre,nB l b=pre++b:=fun l b=>by
  induction l with
  | nil=>exact ⟨[],rfl⟩
  | cons x l ih=>obtain ⟨t,k,o⟩:=x; obtain ⟨p,hp⟩:=ih; exact ⟨.put t (.lp k o) :: p,by simp [nB,hp]⟩
 obtain ⟨p1,e1⟩:=h1 t.W s.ae
 obtain ⟨p2,e2⟩:=h2 t.sl (t.ow v) (uG t.W s.ae)
 obtain ⟨p3,e3⟩:=h3 t.bx ((t.ow v).drop t.sl.length) s.boxes
 obtain ⟨p4,e4⟩:=h4 t.N3 (p2++(p1++s.ae))
 exact ⟨⟨p4++(p2++p1),by rw [show (t.st s v).ae=nB t.N3 (nA t.sl (t.ow v) (uG t.W s.ae)) from rfl,e2,e1,e4,List.append_assoc,List.append_assoc]⟩,⟨p3,e3⟩,rfl⟩
theorem eQ.Py {E:Env} {c:Code} {s s1:St} {gh:List (Loc × Nat × TypeId)} {head:bU} {outs:List (XK × bU)} {rd:head.ps.T→Option (head.ps.T ⊕ JT outs)} {N:Nat} {v0:head.ps.T} {o:JT outs} {Q:Exit→St→Prop}
  (hg:Am.fG gh s=some s1) (h0:head.dec s1 s1=some v0) (hr:∀ v r,rd v=some r→ka E c (fun e s'=>se s1 head outs e s'=some r) (head.st s1 v))
  (hl:a6 rd N v0=some o) (hQ:∀ (t:bU) (v:t.ps.T) (e:Exit),(∀ (α:Type) (K:Exit→St→α),Hu s1 outs o K=K e (t.st s1 v))→Q e (t.st s1 v)∧aJ s (t.st s1 v)) :
  ka E (.loop c) Q s:=fun R0 w β a F LP EN=>by
 obtain ⟨R,k1,k2,k3,_⟩:=ij LP hg
 have hf:bn R s1.ro F:=by rw [k3]; exact EN.mono k2.ext
 obtain ⟨i1,i2⟩:=bU.xQ (aJ.refl s1) k1 k1 (Step.refl R w β s1.boxes) h0
 refine jU (fun m a' w'=>∃ v R' β',a6 rd m v=some o∧aV E R' w' β' (head.st s1 v) a'∧Step R w β s1.boxes R' w' β' (head.st s1 v).boxes) ?_ ⟨v0,_,β,hl,i1,i2⟩
 rintro m a' w' ⟨v,R',β',hm,kv,jE⟩
 cases m with
 | zero=>cases hm
 | succ m=>
  obtain ⟨r,h1,h2⟩:=bind_some (show ((rd v).bind fun o=>Sum.elim (fun v'=>a6 rd m v') (fun x=>some x) o)=some o from hm)
  refine wpIn_mono (hr v r h1 R' w' β' a' F kv (hf.mono jE.ext)) ?_
  rintro e a2 w2 ⟨s2,R2,β2,⟨hK,hx⟩,wJ,B6,z7⟩
  have B7:aJ s1 s2:=(head.nJ s1 v).trans hx
  have EQ:=jE.trans B6
  have out:∀ {u:JT outs},ky s1 outs e s2=some u→r=.inr u→NY E R0 w β s (fun e s'=>Q e s'∧aJ s s') e a2 w2:=fun {u} hu hru=>by
   subst hru
   cases h2
   obtain ⟨t,v',q1,q2⟩:=qv hu
   obtain ⟨j1,j2⟩:=bU.xQ B7 k1 wJ EQ q1
   exact ⟨t.st s1 v',_,β2,hQ t v' e q2,j1,k2.trans j2,k3⟩
  cases e with
  | normal=>
   obtain ⟨v',q1,q2⟩:=bind_some (show ((head.dec s1 s2).bind fun v=>some (.inl v))=some r from hK)
   cases q2
   obtain ⟨j1,j2⟩:=bU.xQ B7 k1 wJ EQ q1
   exact ⟨m,Nat.lt_succ_self m,v',_,β2,h2,j1,j2⟩
  | exit i=>obtain ⟨u,q1,q2⟩:=bind_some (show ((ky s1 outs (.exit i) s2).bind fun o=>some (.inr o))=some r from hK); exact out q1 (Option.some.inj q2).symm
  | ret=>obtain ⟨u,q1,q2⟩:=bind_some (show ((ky s1 outs .ret s2).bind fun o=>some (.inr o))=some r from hK); exact out q1 (Option.some.inj q2).symm
  | goto i=>obtain ⟨u,q1,q2⟩:=bind_some (show ((ky s1 outs (.goto i) s2).bind fun o=>some (.inr o))=some r from hK); exact out q1 (Option.some.inj q2).symm
  | panic i=>obtain ⟨u,q1,q2⟩:=bind_some (show ((ky s1 outs (.panic i) s2).bind fun o=>some (.inr o))=some r from hK); exact out q1 (Option.some.inj q2).symm
  | outgrown=>obtain ⟨u,q1,q2⟩:=bind_some (show ((ky s1 outs .outgrown s2).bind fun o=>some (.inr o))=some r from hK); exact out q1 (Option.some.inj q2).symm
theorem eQ.LQ {E:Env} {c:Code} {s s1:St} {gh:List (Loc × Nat × TypeId)} {head:bU} {outs:List (XK × bU)} {rd:(head.ps.T→Option (JT outs))→head.ps.T→Option (JT outs)} {N:Nat} {v0:head.ps.T} {o:JT outs} {Q:Exit→St→Prop}
  (hg:Am.fG gh s=some s1) (h0:head.dec s1 s1=some v0) (hr:∀ k v u,rd k v=some u→ka E c (fun e s'=>F8 s1 head outs k e s'=some u) (head.st s1 v))
  (hl:dI rd N v0=some o) (hQ:∀ (t:bU) (v:t.ps.T) (e:Exit),(∀ (α:Type) (K:Exit→St→α),Hu s1 outs o K=K e (t.st s1 v))→Q e (t.st s1 v)∧aJ s (t.st s1 v)) :
  ka E (.loop c) Q s:=fun R0 w β a F LP EN=>by
 obtain ⟨R,k1,k2,k3,_⟩:=ij LP hg
 have hf:bn R s1.ro F:=by rw [k3]; exact EN.mono k2.ext
 obtain ⟨i1,i2⟩:=bU.xQ (aJ.refl s1) k1 k1 (Step.refl R w β s1.boxes) h0
 refine jU (fun m a' w'=>∃ v R' β',dI rd m v=some o∧aV E R' w' β' (head.st s1 v) a'∧Step R w β s1.boxes R' w' β' (head.st s1 v).boxes) ?_ ⟨v0,_,β,hl,i1,i2⟩
 rintro m a' w' ⟨v,R',β',hm,kv,jE⟩
 cases m with
 | zero=>cases hm
 | succ m=>
  refine wpIn_mono (hr (dI rd m) v o hm R' w' β' a' F kv (hf.mono jE.ext)) ?_
  rintro e a2 w2 ⟨s2,R2,β2,⟨hK,hx⟩,wJ,B6,z7⟩
  have B7:aJ s1 s2:=(head.nJ s1 v).trans hx
  have EQ:=jE.trans B6
  have out:ky s1 outs e s2=some o→NY E R0 w β s (fun e s'=>Q e s'∧aJ s s') e a2 w2:=fun hu=>by
   obtain ⟨t,v',q1,q2⟩:=qv hu
   obtain ⟨j1,j2⟩:=bU.xQ B7 k1 wJ EQ q1
   exact ⟨t.st s1 v',_,β2,hQ t v' e q2,j1,k2.trans j2,k3⟩
  cases e with
  | normal=>
   obtain ⟨v',q1,q2⟩:=bind_some (show (head.dec s1 s2).bind (dI rd m)=some o from hK)
   obtain ⟨j1,j2⟩:=bU.xQ B7 k1 wJ EQ q1
   exact ⟨m,Nat.lt_succ_self m,v',_,β2,q2,j1,j2⟩
  | exit i=>exact out hK
  | ret=>exact out hK
  | goto i=>exact out hK
  | panic i=>exact out hK
  | outgrown=>exact out hK
theorem eQ.LR {E:Env} {X:Type} {c:Code} {s s1:St} {gh:List (Loc × Nat × TypeId)} {head:bU} {K:Exit→St→Option X} {rd:(head.ps.T→Option X)→head.ps.T→Option X} {N:Nat} {v0:head.ps.T} {o:X}
  (hg:Am.fG gh s=some s1) (h0:head.dec s1 s1=some v0) (hr:∀ k v u,rd k v=some u→ka E c (fun e s'=>Ga s1 head K k e s'=some u) (head.st s1 v))
  (hl:dI rd N v0=some o) :
  ka E (.loop c) (fun e s'=>K e s'=some o) s:=fun R0 w β a F LP EN=>by
 obtain ⟨R,k1,k2,k3,_⟩:=ij LP hg
 have hf:bn R s1.ro F:=by rw [k3]; exact EN.mono k2.ext
 obtain ⟨i1,i2⟩:=bU.xQ (aJ.refl s1) k1 k1 (Step.refl R w β s1.boxes) h0
 refine jU (fun m a' w'=>∃ v R' β',dI rd m v=some o∧aV E R' w' β' (head.st s1 v) a'∧Step R w β s1.boxes R' w' β' (head.st s1 v).boxes) ?_ ⟨v0,_,β,hl,i1,i2⟩
 rintro m a' w' ⟨v,R',β',hm,kv,jE⟩
 cases m with
 | zero=>cases hm
 | succ m=>
  refine wpIn_mono (hr (dI rd m) v o hm R' w' β' a' F kv (hf.mono jE.ext)) ?_
  rintro e a2 w2 ⟨s2,R2,β2,⟨hK,hx⟩,wJ,B6,z7⟩
  have B7:aJ s1 s2:=(head.nJ s1 v).trans hx
  have EQ:=jE.trans B6
  have out:K e s2=some o→NY E R0 w β s (fun e s'=>K e s'=some o∧aJ s s') e a2 w2:=fun hu=>
   ⟨s2,R2,β2,⟨hu,(j9 hg).trans B7⟩,wJ,k2.trans EQ,z7.trans k3⟩
  cases e with
  | normal=>
   obtain ⟨v',q1,q2⟩:=bind_some (show (head.dec s1 s2).bind (dI rd m)=some o from hK)
   obtain ⟨j1,j2⟩:=bU.xQ B7 k1 wJ EQ q1
   exact ⟨m,Nat.lt_succ_self m,v',_,β2,q2,j1,j2⟩
  | exit i=>exact out hK
  | ret=>exact out hK
  | goto i=>exact out hK
  | panic i=>exact out hK
  | outgrown=>exact out hK
end
def oN (E:Env):List Bool→Code→(Exit→St→Prop)→St→Prop
 | [],_,Q,s=>Q .normal s
 | true :: k,.seq x y,Q,s=>ka E x (rV (oN E k y Q) Q) s
 | false :: k,.seq x _,Q,s=>oN E k x Q s
 | _ :: _,_,_,_=>False
def kb (E:Env):List Bool→Code→(Exit→St→Prop)→St→Prop
 | [],c,Q,s=>ka E c Q s
 | true :: k,.seq _ y,Q,s=>kb E k y Q s
 | false :: k,.seq x y,Q,s=>kb E k x (rV (ka E y Q) Q) s
 | _ :: _,_,_,_=>False
def C4 (F:Fence) (P:Program):List Bool→Code→(Exit→Act→World→Prop)→Act→World→Prop
 | [],c,Q,a,w=>c.wpIn F 0 P Q a w
 | true :: k,.seq _ y,Q,a,w=>C4 F P k y Q a w
 | false :: k,.seq x y,Q,a,w=>C4 F P k x (Exit.then (fun a' w'=>y.wpIn F 0 P Q a' w') Q) a w
 | _ :: _,_,_,_,_=>False
section Sw
variable {E:Env} {s1:St} {R:aj} {w:World} {β:Nat→Nat} {F:Fence}
def At (E:Env) (s1:St) (R:aj) (w:World) (β:Nat→Nat) (s:St) (a:Act) (w':World):Prop:=
 ∃ R' β',aJ s1 s∧aV E R' w' β' s a∧Step R w β s1.boxes R' w' β' s.boxes∧s.ro=s1.ro
theorem ka.at {c:Code} {Q:Exit→St→Prop} {s:St} {a:Act} {w':World} {Φ:Exit→Act→World→Prop} (hf:bn R s1.ro F) (h:ka E c Q s) (mH:At E s1 R w β s a w') (hQ:∀ e s' a' w',Q e s'→At E s1 R w β s' a' w'→Φ e a' w'):c.wpIn F 0 E.P Φ a w':=by
 obtain ⟨R',β',hx,hr,jE,bA⟩:=mH
 refine wpIn_mono (h R' w' β' a F hr (by rw [bA]; exact hf.mono jE.ext)) ?_
 rintro e a2 w2 ⟨s2,R2,β2,⟨hq,B7⟩,wJ,B6,z7⟩
 exact hQ e s2 a2 w2 hq ⟨R2,β2,hx.trans B7,wJ,jE.trans B6,z7.trans bA⟩
theorem kb.at (hf:bn R s1.ro F):∀ (k:List Bool) (c:Code) {Q:Exit→St→Prop} {s:St} {a:Act} {w':World} {Φ:Exit→Act→World→Prop},kb E k c Q s→At E s1 R w β s a w'→(∀ e s' a' w',Q e s'→At E s1 R w β s' a' w'→Φ e a' w')→C4 F E.P k c Φ a w'
 | [],c,Q,s,a,w',Φ,h,mH,hQ=>ka.at hf h mH hQ
 | true :: k,c,Q,s,a,w',Φ,h,mH,hQ=>by
  cases c with
  | seq x y=>exact kb.at hf k y h mH hQ
  | _=>exact h.elim
 | false :: k,c,Q,s,a,w',Φ,h,mH,hQ=>by
  cases c with
  | seq x y=>
   refine kb.at hf k x (Q:=rV (ka E y Q) Q) h mH fun e s' a' w' hq pn=>?_
   cases e with
   | normal=>exact ka.at hf hq pn hQ
   | _=>exact hQ _ s' a' w' hq pn
  | _=>exact h.elim
theorem oN.at (hf:bn R s1.ro F):∀ (k:List Bool) (c:Code) {Q:Exit→St→Prop} {s:St} {a:Act} {w':World} {Φ:Exit→Act→World→Prop},oN E k c Q s→At E s1 R w β s a w' →
  (∀ s' a' w',Q .normal s'→At E s1 R w β s' a' w'→C4 F E.P k c Φ a' w')→(∀ e s' a' w',e≠.normal→Q e s'→At E s1 R w β s' a' w'→Φ e a' w')→c.wpIn F 0 E.P Φ a w'
 | [],c,Q,s,a,w',Φ,h,mH,hS,hQ=>hS s a w' h mH
 | true :: k,c,Q,s,a,w',Φ,h,mH,hS,hQ=>by
  cases c with
  | seq x y=>
   refine wpIn_seq (ka.at hf (show ka E x (rV (oN E k y Q) Q) s from h) mH fun e s' a' w' hq pn=>?_)
   cases e with
   | normal=>exact oN.at hf k y hq pn hS hQ
   | exit i=>exact hQ _ s' a' w' (by simp) hq pn
   | ret=>exact hQ _ s' a' w' (by simp) hq pn
   | goto i=>exact hQ _ s' a' w' (by simp) hq pn
   | panic i=>exact hQ _ s' a' w' (by simp) hq pn
   | outgrown=>exact hQ _ s' a' w' (by simp) hq pn
  | _=>exact h.elim
 | false :: k,c,Q,s,a,w',Φ,h,mH,hS,hQ=>by
  cases c with
  | seq x y=>
   refine wpIn_seq (oN.at hf k x (Q:=Q) h mH hS fun e s' a' w' cr hq pn=>?_)
   cases e with
   | normal=>exact absurd rfl cr
   | exit i=>exact hQ _ s' a' w' cr hq pn
   | ret=>exact hQ _ s' a' w' cr hq pn
   | goto i=>exact hQ _ s' a' w' cr hq pn
   | panic i=>exact hQ _ s' a' w' cr hq pn
   | outgrown=>exact hQ _ s' a' w' cr hq pn
  | _=>exact h.elim
end Sw
theorem eQ.Ig {E:Env} {b:Code} {s s1:St} {gh:List (Loc × Nat × TypeId)} {head:bU} {outs:List (XK × bU)} {pre:St→Option (head.ps.T ⊕ JT outs)} {rd:head.ps.T→Option (head.ps.T ⊕ JT outs)} {N:Nat} {k:List Bool} {r0:head.ps.T ⊕ JT outs} {o:JT outs} {Q:Exit→St→Prop}
  (hg:Am.fG gh s=some s1) (h0:pre s1=some r0)
  (hp:∀ s2 r,pre s2=some r→oN E k b (fun e s'=>se s1 head outs e s'=some r) s2)
  (hr:∀ v r,rd v=some r→kb E k b (fun e s'=>wY pre (se s1 head outs) e s'=some r) (head.st s1 v))
  (hl:Sum.elim (fun v=>a6 rd N v) (fun x=>some x) r0=some o) (hQ:∀ (t:bU) (v:t.ps.T) (e:Exit),(∀ (α:Type) (K:Exit→St→α),Hu s1 outs o K=K e (t.st s1 v))→Q e (t.st s1 v)∧aJ s (t.st s1 v)) :
  ka E (.loop b) Q s:=fun R0 w β a F LP EN=>by
 obtain ⟨R,k1,k2,k3,_⟩:=ij LP hg
 have hf:bn R s1.ro F:=by rw [k3]; exact EN.mono k2.ext
 refine jU (fun n a' w'=>∃ s2 r,pre s2=some r∧Sum.elim (fun v=>a6 rd n v) (fun x=>some x) r=some o∧At E s1 R w β s2 a' w') ?_ ⟨s1,r0,h0,hl,R,β,aJ.refl s1,k1,Step.refl _ _ _ _,rfl⟩
 rintro n a' w' ⟨s2,r,Pg,QY,mH⟩
 -- a way out
 have out:∀ {e:Exit} {s3:St} {a3:Act} {w3:World} {r:head.ps.T ⊕ JT outs} {n:Nat},e≠.normal→se s1 head outs e s3=some r→Sum.elim (fun v=>a6 rd n v) (fun x=>some x) r=some o→At E s1 R w β s3 a3 w3→NY E R0 w β s (fun e s'=>Q e s'∧aJ s s') e a3 w3:=fun {e s3 a3 w3 r n} cr hK QY mH=>by
  obtain ⟨R3,β3,Sx,Pa,LS,Sy⟩:=mH
  have key:∀ {u:JT outs},ky s1 outs e s3=some u→r=.inr u→NY E R0 w β s (fun e s'=>Q e s'∧aJ s s') e a3 w3:=fun {u} hu hru=>by
   subst hru
   obtain rfl:=Option.some.inj QY
   obtain ⟨t,v',q1,q2⟩:=qv hu
   obtain ⟨j1,j2⟩:=bU.xQ Sx k1 Pa LS q1
   exact ⟨t.st s1 v',_,_,hQ t v' _ q2,j1,k2.trans j2,k3⟩
  cases e with
  | normal=>exact absurd rfl cr
  | exit i=>obtain ⟨u,q1,q2⟩:=bind_some (show ((ky s1 outs (.exit i) s3).bind fun o=>some (.inr o))=some r from hK); exact key q1 (Option.some.inj q2).symm
  | ret=>obtain ⟨u,q1,q2⟩:=bind_some (show ((ky s1 outs .ret s3).bind fun o=>some (.inr o))=some r from hK); exact key q1 (Option.some.inj q2).symm
  | goto i=>obtain ⟨u,q1,q2⟩:=bind_some (show ((ky s1 outs (.goto i) s3).bind fun o=>some (.inr o))=some r from hK); exact key q1 (Option.some.inj q2).symm
  | panic i=>obtain ⟨u,q1,q2⟩:=bind_some (show ((ky s1 outs (.panic i) s3).bind fun o=>some (.inr o))=some r from hK); exact key q1 (Option.some.inj q2).symm
  | outgrown=>obtain ⟨u,q1,q2⟩:=bind_some (show ((ky s1 outs .outgrown s3).bind fun o=>some (.inr o))=some r from hK); exact key q1 (Option.some.inj q2).symm
 refine oN.at hf k b (hp s2 r Pg) mH (fun s3 a3 w3 hK LU=>?_) (fun e s3 a3 w3 cr hK LU=>?_)
 ·obtain ⟨v,q1,q2⟩:=bind_some (show ((head.dec s1 s3).bind fun v=>some (.inl v))=some r from hK)
  obtain rfl:=Option.some.inj q2
  have yK:a6 rd n v=some o:=QY
  cases n with
  | zero=>cases yK
  | succ n=>
   obtain ⟨r',h1,h2⟩:=bind_some (show ((rd v).bind fun o=>Sum.elim (fun v'=>a6 rd n v') (fun x=>some x) o)=some o from yK)
   obtain ⟨R3,β3,Sx,Pa,LS,Sy⟩:=LU
   obtain ⟨j1,j2⟩:=bU.xQ Sx k1 Pa LS q1
   refine kb.at hf k b (hr v r' h1) ⟨_,_,head.nJ s1 v,j1,j2,rfl⟩ fun e s4 a4 w4 N8 En=>?_
   cases e with
   | normal=>exact ⟨n,Nat.lt_succ_self n,s4,r',N8,h2,En⟩
   | exit i=>exact out (by simp) N8 h2 En
   | ret=>exact out (by simp) N8 h2 En
   | goto i=>exact out (by simp) N8 h2 En
   | panic i=>exact out (by simp) N8 h2 En
   | outgrown=>exact out (by simp) N8 h2 En
 ·have:=out cr hK QY LU
  cases e with
  | normal=>exact absurd rfl cr
  | _=>exact this
theorem po {C:kz} {ih:N7} (hs:rB C ih) {X:Type} {f:FuncId} {K:Exit→St→Option X}:∀ (k:List Bool) (q:Nat) (c:Code) (s:St) (x:X),bh (C.D.dt f) c=true→Gc ih vP f K k q c s=some x→oN C.D.toEnv k c (fun e s'=>K e s'=some x) s
 | [],_,_,_,_,_,h=>h
 | true :: k,q,c,s,x,hd,h=>by
  cases c with
  | seq a b=>
   rw [bh,Bool.and_eq_true] at hd
   refine (hs f _ a X vP mr _ s x hd.1 h).of fun e s' hq hx=>?_
   cases e with
   | normal=>exact ⟨po hs k (2 * q+1) b s' x hd.2 hq,hx⟩
   | _=>exact ⟨hq,hx⟩
  | _=>cases h
 | false :: k,q,c,s,x,hd,h=>by
  cases c with
  | seq a b=>
   rw [bh,Bool.and_eq_true] at hd
   exact po hs k (2 * q) a s x hd.1 h
  | _=>cases h
theorem kb.mono {E:Env}:∀ (k:List Bool) (c:Code) {Q Q':Exit→St→Prop} {s:St},(∀ e s',Q e s'→Q' e s')→kb E k c Q s→kb E k c Q' s
 | [],c,Q,Q',s,hQ,h=>eQ.mono h fun e s' hh=>⟨hQ e s' hh.1,hh.2⟩
 | true :: k,c,Q,Q',s,hQ,h=>by
  cases c with
  | seq x y=>exact kb.mono k y hQ h
  | _=>exact h.elim
 | false :: k,c,Q,Q',s,hQ,h=>by
  cases c with
  | seq x y=>
   refine kb.mono k x (Q:=rV (ka E y Q) Q) (Q':=rV (ka E y Q') Q') (fun e s' hq=>?_) h
   cases e with
   | normal=>exact eQ.mono hq fun e s' hh=>⟨hQ e s' hh.1,hh.2⟩
   | _=>exact hQ _ s' hq
  | _=>exact h.elim
theorem pq {C:kz} {ih:N7} (hs:rB C ih) {X:Type} {f:FuncId}:∀ (k:List Bool) (q:Nat) (c:Code) (K:Exit→St→Option X) (s:St) (x:X),bh (C.D.dt f) c=true→Ie ih vP f k q c K s=some x→kb C.D.toEnv k c (fun e s'=>K e s'=some x) s
 | [],_,c,K,s,x,hd,h=>hs f _ c X vP mr K s x hd h
 | true :: k,q,c,K,s,x,hd,h=>by
  cases c with
  | seq a b=>
   rw [bh,Bool.and_eq_true] at hd
   exact pq hs k (2 * q+1) b K s x hd.2 h
  | _=>cases h
 | false :: k,q,c,K,s,x,hd,h=>by
  cases c with
  | seq a b=>
   rw [bh,Bool.and_eq_true] at hd
   refine kb.mono k a (fun e s' hq=>?_) (pq hs k (2 * q) a _ s x hd.1 h)
   cases e with
   | normal=>exact hs f _ b X vP mr K s' x hd.2 hq
   | _=>exact hq
  | _=>cases h
theorem vc {C:kz} (yx:∀ g e,C.F4 g=some e→aM C.D.toEnv g e) (n:Nat):rB C (ev C n):=by
 induction n using Nat.strongRecOn with
 | _ n ihn=>
 cases n with
 | zero=>intro f p c X eK _ K s x _ h; cases h
 | succ n=>
  have hs:=ihn n (Nat.lt_succ_self n)
  have plain:∀ (f:FuncId) (p:Nat) (c:Code) (X:Type) (eK:Option X→Option X→Option X),sf eK→∀ (K:Exit→St→Option X) (s:St) (x:X),((∃ b,c=.loop b)→C.B0 f p=none) →
    bh (C.D.dt f) c=true→uX C (ev C n) f p c X eK K s=some x→ka C.D.toEnv c (fun e s'=>K e s'=some x) s:=by
   intro f p c X eK hm K s x jb hd h
   have wW:=Ad yx hs hm
   have Pz:=B5 hs hm
   unfold uX at h
   cases c with
   | skip=>exact eQ.skip ⟨h,aJ.refl s⟩
   | label l=>exact eQ.label ⟨h,aJ.refl s⟩
   | exit id=>exact eQ.exit ⟨h,aJ.refl s⟩
   | ret=>exact eQ.ret ⟨h,aJ.refl s⟩
   | seq a b=>
    rw [bh,Bool.and_eq_true] at hd
    refine eQ.seq ((hs f _ a X eK hm _ s x hd.1 h).of fun e s' hq hx=>?_)
    cases e with
    | normal=>exact (hs f _ b X eK hm _ s' x hd.2 hq).of fun e s2 mR B7=>⟨mR,hx.trans B7⟩
    | _=>exact ⟨hq,hx⟩
   | cond co a b=>
    rw [bh,Bool.and_eq_true] at hd
    simp only at h
    split at h
    ·rename_i t hb
     refine eQ.cond hb (fun e=>?_) (fun e=>?_)
     ·subst e; exact hs f _ a X eK hm _ s x hd.1 h
     ·subst e; exact hs f _ b X eK hm _ s x hd.2 h
    ·cases h
   | block id c=>
    refine eQ.block ((hs f _ c X eK hm _ s x hd h).of fun e s' hq hx=>?_)
    cases e with
    | exit iR=>
     simp only [F5] at hq
     refine ⟨fun e=>?_,fun e=>?_⟩
     ·subst e; rw [pJ] at hq; exact ⟨hq,hx⟩
     ·rw [lS e] at hq; exact ⟨hq,hx⟩
    | _=>exact ⟨hq,hx⟩
   | scope c=>
    refine eQ.scope ((hs f _ c X eK hm _ s x hd h).of fun e s' hq hx=>?_)
    cases e with
    | goto l=>cases hq
    | _=>exact ⟨hq,hx⟩
   | region id ops dr=>
    cases dr with
    | false=>exact eQ.region (f:=f) (xe (vb wW Pz h))
    | true=>
     simp only at h
     rw [bh] at hd
     split at h
     ·rename_i pl hT
      rw [hT] at hd
      exact eQ.draw (f:=f) hd (qu (iN wW Pz hm h))
     ·cases h
   | loop b=>
    have J5:=jb ⟨b,rfl⟩
    refine eQ.loop (fun m s'=>m≤n+1∧ev C m f p (.loop b) X eK K s'=some x∧aJ s s') ?_ (m:=n+1) ⟨Nat.le_refl _,?_,aJ.refl s⟩
    ·rintro m s' ⟨KU,hr,hx⟩
     cases m with
     | zero=>cases hr
     | succ m=>
      have kv:uY C (ev C m) f p (.loop b) X eK K s'=some x:=hr
      unfold uY at kv
      rw [J5] at kv
      refine (ihn m (by omega) f _ b X eK hm _ s' x hd kv).of fun e s2 hq B7=>?_
      cases e with
      | normal=>exact ⟨m,Nat.lt_succ_self m,by omega,hq,hx.trans B7⟩
      | _=>exact ⟨hq,hx.trans B7⟩
    ·show uY C (ev C n) f p (.loop b) X eK K s=some x
     unfold uY
     rw [J5]
     exact h
   | rangeFunc g ps pf bd=>
    simp only at h
    split at h
    ·rename_i bA
     split at h
     ·rename_i hf first cap hg
      refine eQ.rangeFunc (4096 * p+f) bA hg ((wW _ _ _ _ _ h).mono fun r G' hq=>?_)
      unfold Sd
      split at hq
      ·rename_i busy pending fn sl nn pp aa bb dd done BR
       rw [BR]
       simp only
       obtain ⟨h1,h2⟩:=aQ hq
       refine ⟨by cases busy <;> cases done <;> simp_all,?_⟩
       have H3:∀ (G:List GO) (m:List Nat),aJ s ⟨s.ae,s.boxes,G,m,s.ro,s.n⟩:=fun _ _=>⟨⟨[],rfl⟩,⟨[],rfl⟩,rfl⟩
       split at h2
       ·rw [ck] at h2; exact ⟨h2,H3 _ _⟩
       ·rw [ck] at h2; exact eQ.ret ⟨h2,H3 _ _⟩
       ·rw [ck] at h2; exact eQ.exit ⟨h2,H3 _ _⟩
       ·cases h2
      ·cases hq
     ·cases h
    ·rename_i id bA
     split at h
     ·rename_i Uf p0 Ug Uh n0 Ui Uj Uk d0 Ul Sz
      split at h
      ·rename_i hf first cap hg
       refine eQ.BT (4096 * p+f) bA Sz hg ((wW _ _ _ _ _ h).mono fun r G' hq=>?_)
       unfold LD
       split at hq
       ·rename_i busy pending fn sl nn pp aa bb dd done BR
        rw [BR]
        simp only
        obtain ⟨h1,h2⟩:=aQ hq
        refine ⟨by cases busy <;> cases done <;> simp_all,?_⟩
        have H3:∀ (G:List GO) (m:List Nat),aJ s ⟨s.ae,s.boxes,G,m,s.ro,s.n⟩:=fun _ _=>⟨⟨[],rfl⟩,⟨[],rfl⟩,rfl⟩
        split at h2
        ·rw [ck] at h2; exact ⟨h2,H3 _ _⟩
        ·rw [ck] at h2; exact eQ.ret ⟨h2,H3 _ _⟩
        ·rw [ck] at h2; exact eQ.exit ⟨h2,H3 _ _⟩
        ·cases h2
       ·cases hq
      ·cases h
     ·cases h
   | _=>cases h
  intro f p c X eK hm K s x hd h
  change uY C (ev C n) f p c X eK K s=some x at h
  unfold uY at h
  split at h
  ·rename_i hc
   exact plain f p c X eK hm K s x (fun _=>hc) hd h
  ·rename_i ct XQ
   split at h
   ·rename_i vd hc
    generalize qq (ji c []) vd=outs at h
    cases Fp:F7 c with
    | true=>rw [Fp] at h; cases h
    | false=>
    rw [Fp] at h
    obtain ⟨o,h1,h2⟩:=bind_some (show (uX C (ev C n) f p c (JT outs) vP (ky s outs) s).bind (fun o=>Hu s outs o K)=some x from h)
    have hp:=plain f p c (JT outs) vP mr (ky s outs) s o (fun ⟨b,hb⟩=>by subst hb; cases Fp) hd h1
    refine eQ.Sp (s:=s) (Q':=fun e s'=>ky s outs e s'=some o) (eQ.mono hp fun e s' hh=>⟨hh.2,hh.1⟩) fun e s' hq=>?_
    obtain ⟨t,v,q1,q2⟩:=qv hq
    exact ⟨t,v,q1,(q2 _ K).symm.trans h2,t.nJ s v⟩
   ·rename_i gh vf vd hc
    split at h
    ·rename_i b
     split at h
     ·rename_i s1 hg
      generalize qq (ji b []) vd=outs at h
      generalize qp (ji b []) vf=head at h
      unfold J3 at h
      obtain ⟨v0,h0,h⟩:=bind_some h
      obtain ⟨o,hl,h⟩:=bind_some h
      refine eQ.Py hg h0 (fun v r hr=>hs f _ b _ vP mr _ _ r hd hr) hl fun t v e gO=>?_
      exact ⟨(gO _ K).symm.trans h,(j9 hg).trans (t.nJ s1 v)⟩
     ·cases h
    ·cases h
   ·rename_i k gh vf vd hc
    split at h
    ·rename_i b
     split at h
     ·rename_i s1 hg
      generalize qq (ji b []) vd=outs at h
      generalize qp (ji b []) vf=head at h
      unfold Px at h
      obtain ⟨o,hl,h⟩:=bind_some h
      obtain ⟨r0,h0,hl⟩:=bind_some hl
      refine eQ.Ig hg h0 (fun s2 r hr=>po hs k (2 * p) b s2 r hd hr) (fun v r hr=>pq hs k (2 * p) b _ _ r hd hr) hl fun t v e gO=>?_
      exact ⟨(gO _ K).symm.trans h,(j9 hg).trans (t.nJ s1 v)⟩
     ·cases h
    ·cases h
   ·rename_i gh vf vd hc
    split at h
    ·rename_i b
     split at h
     ·rename_i s1 hg
      generalize qq (ji b []) vd=outs at h
      generalize qp (ji b []) vf=head at h
      unfold F9 at h
      obtain ⟨v0,h0,h⟩:=bind_some h
      obtain ⟨o,hl,h⟩:=bind_some h
      refine eQ.LQ hg h0 (fun k v u hu=>hs f _ b _ vP mr _ _ u hd hu) hl fun t v e gO=>?_
      exact ⟨(gO _ K).symm.trans h,(j9 hg).trans (t.nJ s1 v)⟩
     ·cases h
    ·cases h
   ·rename_i gh vf hc
    split at h
    ·rename_i b
     split at h
     ·rename_i s1 hg
      generalize qp (ji b []) vf=head at h
      unfold Gb at h
      obtain ⟨v0,h0,hl⟩:=bind_some h
      exact eQ.LR hg h0 (fun k v u hu=>hs f _ b _ vP mr _ _ u hd hu) hl
     ·cases h
    ·cases h
   ·cases h
end Go.Am
namespace Go.Am
open Go
noncomputable def kz.fn (C:kz) (n:Nat) (g:FuncId) (ps:aD) (p:ah) (x:ps.T):Option p.T:=
 wZ C (ev C n) vP g (ps.enc x) [] (fun r _=>p.dec r)
theorem kz.fu {C:kz} (yx:∀ g e,C.F4 g=some e→aM C.D.toEnv g e) {n:Nat} {g:FuncId} {ps:aD} {p:ah} (h1:ps.under 0=true) (h2:p.under 0=true) :
  aM C.D.toEnv g ⟨ps,p,C.fn n g ps p⟩:=fun x y h=>by
 refine bg.mono (bg.of (p:=p) (Q:=fun z=>z=y) (ps.cJ x h1) h2 ((kK (vc yx n) mr g _ [] _ y h).mono fun r _ hr=>⟨y,hr,rfl⟩)) ?_
 rintro r ⟨z,rfl,rfl⟩
 rfl
noncomputable def kz.Uu (C:kz) (n:Nat) (g:FuncId) (ps:aD) (outs:List RF) (x:ps.T):Option (XT outs):=
 wZ C (ev C n) vP g (ps.enc x) [] (fun r G=>Ef G r outs)
theorem kz.LV {C:kz} (yx:∀ g e,C.F4 g=some e→aM C.D.toEnv g e) {n:Nat} {g:FuncId} {ps:aD} {outs:List RF} (h1:ps.under 0=true) (h2:outs.all RF.under=true) :
  ∀ x y,C.Uu n g ps outs x=some y→nF C.D.toEnv g (ps.enc x) outs (fun z=>z=y):=fun x y h=>
 nF.of (ps.cJ x h1) (List.all_eq_true.1 h2) ((kK (vc yx n) mr g _ [] _ y h).mono fun r G' hr=>⟨y,hr,rfl⟩)
theorem bg.env {E E':Env} {g:FuncId} {args:List AV} {Q:AV→Prop} (hP:E.P=E'.P) (hg:E.dC=E'.dC) (h:bg E g args Q) (tN:E.lo=E'.lo:=by rfl) (PA:E.gx=E'.gx:=by rfl):bg E' g args Q:=by
 have go:∀ {R:aj} {w:World} {x:Nat} {cs:List AV},kU E R w x cs↔kU E' R w x cs:=fun {R w x cs}=>by unfold kU; rw [PA]
 have xQ:∀ {R:aj} {w:World} {G:List GO},dP E R w G↔dP E' R w G:=fun {R w G}=>
  ⟨fun h=>⟨h.len,h.obj,h.inj,h.wf,fun g cs hh=>go.1 (h.dC g cs (by rw [hg]; exact hh)),by rw [← tN]; exact h.lo⟩,fun h=>⟨h.len,h.obj,h.inj,h.wf,fun g cs hh=>go.2 (h.dC g cs (by rw [← hg]; exact hh)),by rw [tN]; exact h.lo⟩⟩
 intro G
 obtain ⟨h1,h2⟩:=h G
 rw [hP] at h1 h2
 refine ⟨h1,fun R w cs hr hl=>(h2 R w cs (xQ.2 hr) hl).mono fun e w' he=>?_⟩
 cases e with
 | returned c=>obtain ⟨r,G',R',k1,k2,k3,k4⟩:=he; exact ⟨r,G',R',k1,k2,xQ.1 k3,k4⟩
 | panicked c=>exact he
 | outgrown=>exact he
theorem bg.more {E E':Env} {g:FuncId} {args:List AV} {Q:AV→Prop} (hP:E.P=E'.P) (hg:∀ g cs,E.dC g=some cs→E'.dC g=some cs) (h:bg E g args Q) (tN:E.lo=E'.lo:=by rfl) (PA:E.gx=fun _=>false:=by rfl):bg E' g args Q:=by
 intro G
 obtain ⟨h1,h2⟩:=h G
 rw [hP] at h1 h2
 refine ⟨h1,fun R w cs hr hl=>(h2 R w cs ⟨hr.len,hr.obj,hr.inj,hr.wf,fun g cs hh=>⟨(hr.dC g cs (hg g cs hh)).1,fun hx=>by rw [PA] at hx; cases hx⟩,by rw [tN]; exact hr.lo⟩ hl).mono fun e w' he=>?_⟩
 cases e with
 | returned c=>
  obtain ⟨r,G',R',k1,k2,k3,k4⟩:=he
  exact ⟨r,G',R',k1,k2,⟨k3.len,k3.obj,k3.inj,k3.wf,fun g cs hh=>(hr.dC g cs hh).mono k4.ext,by rw [← tN]; exact k3.lo⟩,k4⟩
 | panicked c=>exact he
 | outgrown=>exact he
def Eo:List (Nat × bV)→FuncId→Option bV
 | [],_=>none
 | (a,e) :: l,g=>bif Nat.beq a g then some e else Eo l g
theorem bR {E:Env}:∀ {l:List (Nat × bV)},(∀ a e,(a,e)∈l→aM E a e)→∀ g e,Eo l g=some e→aM E g e
 | [],_,g,e,h=>by cases h
 | (a,x) :: l,hl,g,e,h=>by
  unfold Eo at h
  cases hb:Nat.beq a g with
  | true=>
   rw [hb] at h
   cases h
   rw [← Nat.eq_of_beq_eq_true hb]
   exact hl a _ (by simp)
  | false=>
   rw [hb] at h
   exact bR (fun a e hm=>hl a e (by simp [hm])) g e h
def J6:List (Nat × eJ)→Nat→Option eJ
 | [],_=>none
 | (a,c) :: l,p=>bif Nat.beq a p then some c else J6 l p
def J7:List (Nat × List (Nat × eJ))→FuncId→Nat→Option eJ
 | [],_,_=>none
 | (a,c) :: l,g,p=>bif Nat.beq a g then J6 c p else J7 l g p
def C5:Option Unit→Option Unit→Option Unit
 | some _,some _=>some ()
 | _,_=>none
theorem B8:sf C5:=fun a b x h=>by
 cases a <;> cases b <;> first | (cases h; done) | exact ⟨rfl,rfl⟩
theorem bY {C:kz} (yx:∀ g e,C.F4 g=some e→aM C.D.toEnv g e) {n:Nat} {g:FuncId} {args:List AV} {p:ah} {ok:p.T→Bool} (h1:aA 0 args=true) (h2:p.under 0=true)
  (h:wZ C (ev C n) C5 g args [] (fun r _=>bif p.fits r&&ok (p.a8 r) then some () else none)=some ()):bg C.D.toEnv g args (fun r=>∃ y,r=p.enc y∧ok y=true):=
 bg.of (p:=p) (Q:=fun y=>ok y=true) h1 h2 ((kK (vc yx n) B8 g args [] _ () h).mono fun r _ hr=>by
  obtain ⟨k,_⟩:=aQ hr
  rw [Bool.and_eq_true] at k
  exact ⟨p.a8 r,by simp [ah.dec,k.1],k.2⟩)
end Go.Am
namespace Go.Am
open Go
def pt (w:World):aj:=⟨fun b _=>b < w.heap.size,[]⟩
mutual
def ah.wf:(p:ah)→p.T→Prop
 | .int k,(n:Int)=>k.min≤n∧n≤k.max
 | .bool,_=>True
 | .str,(s:List UInt8)=>s.length≤maxLen
 | .agg ps,x=>ps.wf x
 | .bi ps,x=>ps.wf x
 | .list _ p,(xs:List p.T)=>xs.length≤maxLen∧∀ x∈xs,p.wf x
 | .own _ _ p,(xs:List p.T)=>xs.length≤maxLen∧∀ x∈xs,p.wf x
 | .aU _ _ p,(x:Nat × List p.T)=>x.2.length≤maxLen∧∀ y∈x.2,p.wf y
 | .pz _,_=>True
 | .two _ _,_=>True
def aD.wf:(ps:aD)→ps.T→Prop
 | .nil,_=>True
 | .cons p .nil,x=>p.wf x
 | .cons p (.cons q ps),x=>p.wf x.1∧(aD.cons q ps).wf x.2
end
def kd:List ah→aD
 | []=>.nil
 | p :: l=>.cons p (kd l)
def Ep {β:Type} (g:β→Option (List ah)):List β→Option (List ah)
 | []=>some []
 | x :: l=>match g x,Ep g l with
  | some a,some b=>some (a++b)
  | _,_=>none
def qw {β:Type} (off len:β→Nat):Nat→List β→Option Nat
 | o,[]=>some o
 | o,x :: l=>bif Nat.beq (off x) o then qw off len (o+len x) l else none
def isSome (n:Nat):Option Nat→Bool
 | some m=>Nat.beq m n
 | none=>false
def qx (ag:Bool) (ps:List ah):Option ah:=match ag,ps with
 | true,ps=>some (.agg (kd ps))
 | false,[p]=>some p
 | _,_=>none
def Er (P:Program):Nat→TypeId→Option (List ah)
 | 0,_=>none
 | n+1,t=>match P.underlying t with
  | some .bool=>some [.bool]
  | some (.int k)=>some [.int k]
  | some .string=>some [.str]
  | some (.slice e)=>match Er P n e,P.underlying e with
   | some ps,some u=>match qx (Go.Am.iT u) ps with
    | some pe=>bif Nat.blt 0 (P.cellsOf e) then some [.list (P.cellsOf e) pe] else none
    | none=>none
   | _,_=>none
  | some (.struct fs)=>bif isSome (P.cellsOf t) (qw Field.offset (fun f=>P.cellsOf f.type) 0 fs.toList) then Ep (fun f=>Er P n f.type) fs.toList else none
  | some (.array m e)=>bif isSome (P.cellsOf t) (qw (fun i=>i * P.cellsOf e) (fun _=>P.cellsOf e) 0 (List.range m)) then Ep (fun _=>Er P n e) (List.range m) else none
  | _=>none
def SA (a:AV):Prop:=a.aL=true∧a.cells=[a]∧a.closed=true
def pu:List ah→List AV→Prop
 | [],[]=>True
 | p :: ps,a :: kL=>p.fits a=true∧(p.wf (p.a8 a)∧SA a)∧pu ps kL
 | _,_=>False
theorem pu.append:∀ {ps qs:List ah} {kL bs:List AV},pu ps kL→pu qs bs→pu (ps++qs) (kL++bs)
 | [],_,[],_,_,h=>h
 | _ :: _,_,_ :: _,_,k,h=>⟨k.1,k.2.1,pu.append k.2.2 h⟩
 | [],_,_ :: _,_,h,_=>h.elim
 | _ :: _,_,[],_,h,_=>h.elim
theorem pu.mk:∀ {ps:List ah} {kL:List AV},pu ps kL→(kd ps).fits kL=true∧(kd ps).wf ((kd ps).a8 kL)
 | [],[],_=>⟨rfl,trivial⟩
 | [p],[a],h=>⟨by
   change (p.fits a&&(List.isEmpty ([]:List AV)))=true
   rw [h.1]
   rfl,h.2.1.1⟩
 | p :: q :: ps,a :: kL,h=>by
  obtain ⟨h1,h2⟩:=pu.mk (ps:=q :: ps) h.2.2
  refine ⟨?_,h.2.1.1,h2⟩
  change (p.fits a&&(kd (q :: ps)).fits kL)=true
  rw [h.1,h1]
  rfl
 | [],_ :: _,h=>h.elim
 | _ :: _,[],h=>h.elim
 | [_],_ :: _ :: _,h=>h.2.2.elim
theorem Af {ag:Bool} {ps:List ah} {pe:ah} (h:qx ag ps=some pe) {kL:List AV} (hf:pu ps kL) :
  ∃ e,(if ag then e=.agg kL else kL=[e])∧pe.fits e=true∧pe.wf (pe.a8 e):=by
 unfold qx at h
 split at h
 ·cases h
  obtain ⟨h1,h2⟩:=hf.mk
  exact ⟨.agg kL,rfl,h1,h2⟩
 ·rename_i p
  cases h
  match kL,hf with
  | [a],hf=>exact ⟨a,rfl,hf.1,hf.2.1.1⟩
  | [],hf=>exact hf.elim
  | _ :: _ :: _,hf=>exact hf.2.2.elim
 ·cases h
theorem C6:∀ {ps:List ah} {kL:List AV},pu ps kL→∀ a∈kL,a.aL=true∧a.cells=[a]∧a.closed=true
 | [],[],_,a,ha=>by simp at ha
 | _ :: _,b :: kL,hf,a,ha=>by
  rcases List.mem_cons.1 ha with rfl | ha
  ·exact hf.2.1.2
  ·exact C6 hf.2.2 a ha
 | [],_ :: _,h,_,_=>h.elim
 | _ :: _,[],h,_,_=>h.elim
theorem C7 {pe:ah}:∀ {es:List AV},(∀ x∈es,pe.fits x=true∧pe.wf (pe.a8 x))→allFit pe.fits es=true∧∀ x∈es.map pe.a8,pe.wf x
 | [],_=>⟨rfl,by simp⟩
 | a :: es,h=>by
  obtain ⟨h1,h2⟩:=C7 (es:=es) fun x hx=>h x (by simp [hx])
  refine ⟨by simp only [allFit,Bool.and_eq_true]; exact ⟨(h a (by simp)).1,h1⟩,fun x hx=>?_⟩
  rcases List.mem_cons.1 hx with rfl | hx
  ·exact (h a (by simp)).2
  ·exact h2 x hx
section read
variable {H:Type} {enc:TypeId × Value→H} {P:Program} {w:World} {R:aj} {base:Nat} {spare:Nat→Bool} {held:Bool}
theorem ke {α β:Type} {f:α→Option β} {x:α} {l:List α} {r:List β} (h:(x :: l).mapM f=some r):∃ y ys,f x=some y∧l.mapM f=some ys∧r=y :: ys:=by
 rw [List.mapM_cons] at h
 cases hx:f x with
 | none=>rw [hx] at h; cases h
 | some y=>
  rw [hx] at h
  cases hl:l.mapM f with
  | none=>rw [hl] at h; cases h
  | some ys=>rw [hl] at h; cases h; exact ⟨y,ys,rfl,rfl,rfl⟩
theorem vg {β:Type} {off len:β→Nat} {g:β→Option (List ah)} {cs:List Value} {f:β→Option (DataW H × List MemPlace)}
  (hf:∀ x ps y,g x=some ps→f x=some y→∃ kL,aE R w kL ((cs.drop (off x)).take (len x))∧pu ps kL∧∀ v∈(cs.drop (off x)).take (len x),v.oneCell'=true) :
  ∀ {L:List β} {o m:Nat} {ps:List ah} {ys:List (DataW H × List MemPlace)},qw off len o L=some m→Ep g L=some ps→L.mapM f=some ys →
   o≤m∧∃ kL,aE R w kL ((cs.drop o).take (m - o))∧pu ps kL∧∀ v∈(cs.drop o).take (m - o),v.oneCell'=true
 | [],o,m,ps,ys,ht,hp,_=>by
  simp only [qw] at ht
  simp only [Ep] at hp
  cases ht; cases hp
  exact ⟨Nat.le_refl _,[],by simpa using aE.nil,trivial,by simp⟩
 | x :: L,o,m,ps,ys,ht,hp,hm=>by
  unfold qw at ht
  cases hb:Nat.beq (off x) o with
  | false=>rw [hb] at ht; cases ht
  | true=>
   rw [hb] at ht
   have hb:=Nat.eq_of_beq_eq_true hb
   unfold Ep at hp
   split at hp
   ·rename_i pa pb h1 h2
    cases hp
    obtain ⟨y,DA,k1,k2,rfl⟩:=ke hm
    obtain ⟨kL,q1,q2,q3⟩:=hf x pa y h1 k1
    obtain ⟨hle,bs,r1,r2,r3⟩:=vg hf (show qw off len (o+len x) L=some m from ht) h2 k2
    have e:(cs.drop o).take (m - o)=(cs.drop (off x)).take (len x)++(cs.drop (o+len x)).take (m - (o+len x)):=by
     rw [hb,show m - o=len x+(m - (o+len x)) by omega,List.take_add,List.drop_drop]
    rw [e]
    refine ⟨by omega,kL++bs,q1.append r1,q2.append r2,fun v hv=>?_⟩
    rcases List.mem_append.1 hv with hv | hv
    ·exact q3 v hv
    ·exact r3 v hv
   ·cases hp
theorem lC {α β:Type} {f:α→Option β}:∀ {l:List α} {r:List β},l.mapM f=some r→∀ (i:Nat) (x:α),l[i]?=some x→∃ y,r[i]?=some y∧f x=some y
 | [],r,_,i,x,hx=>by simp at hx
 | a :: l,r,h,i,x,hx=>by
  obtain ⟨y,ys,h1,h2,rfl⟩:=ke h
  cases i with
  | zero=>simp at hx; subst hx; exact ⟨y,by simp,h1⟩
  | succ i=>obtain ⟨z,h3,h4⟩:=lC h2 i x (by simpa using hx); exact ⟨z,by simpa using h3,h4⟩
theorem sh {α β:Type} {f:α→Option β}:∀ {l:List α} {r:List β},l.mapM f=some r→r.length=l.length
 | [],r,h=>by simp at h; subst h; rfl
 | a :: l,r,h=>by
  obtain ⟨y,ys,h1,h2,rfl⟩:=ke h
  simp [sh h2]
theorem Ih {a:Addr} {v:Value} (h:w.cell? a=some v):a.block < w.heap.size:=by
 unfold World.cell? at h
 split at h
 ·rename_i hb; exact aZ hb
 ·cases h
theorem xf {e:TypeId} {ps:List ah} {pe:ah} {ag:Bool} {qy:Nat} (hp:∀ (cs:List Value) (y:DataW H × List MemPlace),DataW.trod enc P w base spare held qy e cs=some y→∃ kL,aE (pt w) w kL cs∧pu ps kL∧∀ v∈cs,v.oneCell'=true) (he:qx ag ps=some pe) {b off len:Nat} {r:List (DataW H × List MemPlace)}
  (h:(List.range len).mapM (fun i=>(w.cells? base ((⟨b,off,none⟩:Addr).add (i * P.cellsOf e)) (P.cellsOf e)).bind (DataW.trod enc P w base spare held qy e))=some r) :
  ∀ (m i:Nat),i+m=len→∃ es,gd (pt w) w b (off+i * P.cellsOf e) (P.cellsOf e) es∧es.length=m∧∀ x∈es,pe.fits x=true∧pe.wf (pe.a8 x)
 | 0,i,_=>⟨[],.nil,rfl,by simp⟩
 | m+1,i,hi=>by
  obtain ⟨es,h1,h2,h3⟩:=xf hp he h m (i+1) (by omega)
  obtain ⟨y,_,hy⟩:=lC h i i (by rw [List.getElem?_range (by omega)])
  obtain ⟨cs,hc,hy⟩:=bind_some hy
  obtain ⟨kL,q1,q2,q3⟩:=hp _ _ hy
  obtain ⟨x,hx,f1,f2⟩:=Af he q2
  have kV:w.cells? base ((⟨b,off,none⟩:Addr).add (i * P.cellsOf e)) (P.cellsOf e)=some cs:=hc
  unfold World.cells? at kV
  split at kV
  ·have hlen:=sh kV
   rw [List.length_range] at hlen
   have jb:x.cells=kL∧x.aL=true∧x.closed=true:=by
    have qi:=C6 q2
    cases ag with
    | true=>
     simp only [if_true] at hx
     subst hx
     refine ⟨rfl,rfl,?_⟩
     show aN kL=true
     clear h1 h2 h3 q1 q2 f1 f2
     induction kL with
     | nil=>rfl
     | cons a kL ih=>simp only [aN,Bool.and_eq_true]; exact ⟨(qi a (by simp)).2.2,ih (fun z hz=>qi z (by simp [hz]))⟩
    | false=>
     simp only [Bool.false_eq_true,if_false] at hx
     subst hx
     obtain ⟨k1,k2,k3⟩:=qi x (by simp)
     exact ⟨k2,k1,k3⟩
   have jt:∀ j v,cs[j]?=some v→w.cell? ⟨b,off+i * P.cellsOf e+j,none⟩=some v:=fun j v hv=>by
    have hj:j < P.cellsOf e:=by have:=(List.getElem?_eq_some_iff.1 hv).1; omega
    obtain ⟨v',k1,k2⟩:=lC kV j j (by rw [List.getElem?_range hj])
    rw [hv] at k1
    cases k1
    rw [bZ,bZ] at k2
    exact k2
   refine ⟨x :: es,.cons ?_ jb.2.1 jb.2.2 ?_ ?_,by simp [h2],fun z hz=>?_⟩
   ·rw [jb.1,q1.length,hlen]
   ·rw [jb.1]
    refine eg.make q1 q3 jt (fun j hj=>?_)
    have Hl:j < cs.length:=by rw [← q1.length]; exact hj
    exact Ih (jt j cs[j] (List.getElem?_eq_getElem Hl))
   ·rw [show off+i * P.cellsOf e+P.cellsOf e=off+(i+1) * P.cellsOf e by rw [Nat.add_mul]; omega]
    exact h1
   ·rcases List.mem_cons.1 hz with rfl | hz
    ·exact ⟨f1,f2⟩
    ·exact h3 z hz
  ·cases kV
theorem qz (yN:∀ b,spare b=true):∀ (n:Nat) {t:TypeId} {ps:List ah},Er P n t=some ps→∀ {qy:Nat} {cs:List Value} {y:DataW H × List MemPlace},DataW.trod enc P w base spare held qy t cs=some y →
  ∃ kL,aE (pt w) w kL cs∧pu ps kL∧∀ v∈cs,v.oneCell'=true
 | 0,_,_,h,_,_,_,_=>by cases h
 | n+1,t,ps,h,0,_,_,hy=>by cases hy
 | n+1,t,ps,h,qy+1,cs,y,hy=>by
  unfold Er at h
  unfold DataW.trod at hy
  split at h
  ·rename_i hu
   cases h
   rw [hu] at hy
   cases cs with
   | nil=>cases hy
   | cons v l=>
    cases l with
    | cons v2 l=>(cases v <;> first | (cases hy; done) | (rename_i a; cases a <;> cases hy; done) | (rename_i a b; cases a <;> cases hy; done) | (rename_i a b c; cases a <;> first | (cases hy; done) | (cases b <;> first | (cases hy; done) | (cases c <;> cases hy))))
    | nil=>
     cases v with
     | bool b=>exact ⟨[.bool b],.one (.bool b),⟨rfl,⟨trivial,rfl,rfl,rfl⟩,trivial⟩,by simp [Value.oneCell']⟩
     | pointer a=>cases a <;> cases hy
     | slice a b c=>cases a <;> first | (cases hy; done) | (cases b <;> first | (cases hy; done) | (cases c <;> cases hy))
     | map a=>cases a <;> cases hy
     | chan a=>cases a <;> cases hy
     | _=>cases hy
  ·rename_i k hu
   cases h
   rw [hu] at hy
   cases cs with
   | nil=>cases hy
   | cons v l=>
    cases l with
    | cons v2 l=>(cases v <;> first | (cases hy; done) | (rename_i a; cases a <;> cases hy; done) | (rename_i a b; cases a <;> cases hy; done) | (rename_i a b c; cases a <;> first | (cases hy; done) | (cases b <;> first | (cases hy; done) | (cases c <;> cases hy))))
    | nil=>
     cases v with
     | int k' i=>
      have hy:(if k'=k∧(Lit.int k i).wf=true then some (.lit (.int k i),[]) else none)=some y:=hy
      split at hy
      ·rename_i hc
       obtain ⟨rfl,hw⟩:=hc
       exact ⟨[.int k' i],.one (.int k' i),⟨decide_eq_true rfl,⟨by have h:=hw; simp [Lit.wf] at h; exact h,rfl,rfl,rfl⟩,trivial⟩,by simp [Value.oneCell']⟩
      ·cases hy
     | pointer a=>cases a <;> cases hy
     | slice a b c=>cases a <;> first | (cases hy; done) | (cases b <;> first | (cases hy; done) | (cases c <;> cases hy))
     | map a=>cases a <;> cases hy
     | chan a=>cases a <;> cases hy
     | _=>cases hy
  ·rename_i hu
   cases h
   rw [hu] at hy
   cases cs with
   | nil=>cases hy
   | cons v l=>
    cases l with
    | cons v2 l=>(cases v <;> first | (cases hy; done) | (rename_i a; cases a <;> cases hy; done) | (rename_i a b; cases a <;> cases hy; done) | (rename_i a b c; cases a <;> first | (cases hy; done) | (cases b <;> first | (cases hy; done) | (cases c <;> cases hy))))
    | nil=>
     cases v with
     | string s=>
      have hy:(if s.size≤maxLen then some (.lit (.string s.data.toList),[]) else none)=some y:=hy
      split at hy
      ·rename_i hc
       exact ⟨[.str s.data.toList],.one (.str s.data.toList),⟨rfl,⟨by simpa [ah.wf,ah.a8,AV.KH] using hc,rfl,rfl,rfl⟩,trivial⟩,by simp [Value.oneCell']⟩
      ·cases hy
     | pointer a=>cases a <;> cases hy
     | slice a b c=>cases a <;> first | (cases hy; done) | (cases b <;> first | (cases hy; done) | (cases c <;> cases hy))
     | map a=>cases a <;> cases hy
     | chan a=>cases a <;> cases hy
     | _=>cases hy
  ·rename_i e hu
   rw [hu] at hy
   split at h
   ·rename_i Pn u h1 h2
    split at h
    ·rename_i pe h3
     obtain ⟨hz,h⟩:=aQ h
     cases h
     have hz:=Nat.le_of_ble_eq_true hz
     cases cs with
     | nil=>cases hy
     | cons v l=>
      cases l with
      | cons v2 l=>(cases v <;> first | (cases hy; done) | (rename_i a; cases a <;> cases hy; done) | (rename_i a b; cases a <;> cases hy; done) | (rename_i a b c; cases a <;> first | (cases hy; done) | (cases b <;> first | (cases hy; done) | (cases c <;> cases hy))))
      | nil=>
       cases v with
       | slice a len cap=>
        cases a with
        | none=>
         have hz:len=0∧cap=0:=by
          cases len with
          | zero=>cases cap with
           | zero=>exact ⟨rfl,rfl⟩
           | succ _=>cases hy
          | succ _=>cases hy
         obtain ⟨rfl,rfl⟩:=hz
         exact ⟨[.list .kq (P.cellsOf e) []],.one .hY,⟨by simp [ah.fits,allFit],⟨⟨Nat.zero_le _,fun x hx=>by change x∈([]:List pe.T) at hx; cases hx⟩,rfl,rfl,rfl⟩,trivial⟩,by simp [Value.oneCell']⟩
        | some a=>
         have hy:(if base≤a.block∧len≤cap∧cap≤maxLen then
          ((List.range len).mapM (fun i=>(w.cells? base (a.add (i * P.cellsOf e)) (P.cellsOf e)).bind (DataW.trod enc P w base spare held qy e))).bind fun C8=>
           (if spare a.block then (List.range (cap - len)).mapM (fun j=>(w.cells? base (a.add ((len+j) * P.cellsOf e)) (P.cellsOf e)).bind (DataW.trod enc P w base spare held qy e)) else some []).map fun rest=>
            (DataW.slice (C8.map (·.1)) (rest.map (·.1)),MemPlace.row a ((C8.length+rest.length) * P.cellsOf e)++(C8++rest).flatMap (·.2))
          else none)=some y:=hy
         split at hy
         ·rename_i hc
          obtain ⟨C8,k1,hy⟩:=bind_some hy
          rw [if_pos (yN _)] at hy
          by_cases ia:cap=0
          ·subst ia
           have sx:len=0:=Nat.le_zero.1 hc.2.1
           subst sx
           exact ⟨[.list .kq (P.cellsOf e) []],.one .lQ,⟨by simp [ah.fits,allFit],⟨⟨Nat.zero_le _,fun x hx=>by change x∈([]:List pe.T) at hx; cases hx⟩,rfl,rfl,rfl⟩,trivial⟩,by simp [Value.oneCell']⟩
          ·have Ge:a.spot=none:=by
            have Ly:∃ y,(w.cells? base (a.add (0 * P.cellsOf e)) (P.cellsOf e)).bind (DataW.trod enc P w base spare held qy e)=some y:=by
             by_cases sx:len=0
             ·subst sx
              cases hr:(List.range (cap - 0)).mapM (fun j=>(w.cells? base (a.add ((0+j) * P.cellsOf e)) (P.cellsOf e)).bind (DataW.trod enc P w base spare held qy e)) with
              | none=>rw [hr] at hy; cases hy
              | some r=>
               obtain ⟨z,_,hz⟩:=lC hr 0 0 (by rw [List.getElem?_range (by omega)])
               exact ⟨z,hz⟩
             ·obtain ⟨z,_,hz⟩:=lC k1 0 0 (by rw [List.getElem?_range (by omega)])
              exact ⟨z,hz⟩
            obtain ⟨z,V2⟩:=Ly
            obtain ⟨cs,pP,_⟩:=bind_some V2
            unfold World.cells? at pP
            split at pP
            ·obtain ⟨v,_,hv⟩:=lC pP 0 0 (by rw [List.getElem?_range (by omega)])
             rw [Nat.zero_mul] at hv
             unfold World.cell? at hv
             split at hv
             ·split at hv
              ·cases hv
              ·rename_i hs
               simpa [Addr.add] using hs
             ·cases hv
            ·cases pP
           obtain ⟨b,off,spot⟩:=a
           have Ge:spot=none:=Ge
           subst Ge
           obtain ⟨es,q1,q2,q3⟩:=xf (fun cs y hy=>qz yN n h1 hy) h3 k1 len 0 (by omega)
           rw [Nat.zero_mul,Nat.add_zero] at q1
           obtain ⟨f1,f2⟩:=C7 q3
           refine ⟨[.list .kq (P.cellsOf e) es],.one (.list q1 q2.symm hc.2.1 trivial),⟨?_,⟨⟨?_,f2⟩,rfl,rfl,rfl⟩,trivial⟩,by simp [Value.oneCell']⟩
           ·simp only [ah.fits,Bool.and_eq_true,Bool.or_eq_true]
            exact ⟨.inl (Nat.beq_refl _),f1⟩
           ·have:es.length≤maxLen:=by rw [q2]; omega
            show (es.map pe.a8).length≤maxLen
            rw [List.length_map]
            exact this
         ·cases hy
       | pointer a=>cases a <;> cases hy
       | map a=>cases a <;> cases hy
       | chan a=>cases a <;> cases hy
       | _=>cases hy
    ·cases h
   ·cases h
  ·rename_i fs hu
   rw [hu] at hy
   have hy:(if cs.length=P.cellsOf t then (fs.toList.mapM fun f=>DataW.trod enc P w base spare held qy f.type ((cs.drop f.offset).take (P.cellsOf f.type))).map fun xs=>(.agg (xs.map (·.1)),xs.flatMap (·.2)) else none)=some y:=hy
   split at hy
   ·rename_i hl
    obtain ⟨h1,h2⟩:=aQ h
    cases hm:fs.toList.mapM fun f=>DataW.trod enc P w base spare held qy f.type ((cs.drop f.offset).take (P.cellsOf f.type)) with
    | none=>rw [hm] at hy; cases hy
    | some ys=>
     cases ht:qw Field.offset (fun f=>P.cellsOf f.type) 0 fs.toList with
     | none=>rw [ht] at h1; cases h1
     | some m=>
      rw [ht] at h1
      have h1:=Nat.eq_of_beq_eq_true (show Nat.beq m (P.cellsOf t)=true from h1)
      obtain ⟨_,kL,q1,q2,q3⟩:=vg (R:=pt w) (w:=w) (off:=Field.offset) (len:=fun f=>P.cellsOf f.type) (cs:=cs) (fun x ps y hx SB=>qz yN n hx SB) ht h2 hm
      rw [h1,← hl] at q1 q3
      simp only [List.drop_zero,Nat.sub_zero,List.take_length] at q1 q3
      exact ⟨kL,q1,q2,q3⟩
   ·cases hy
  ·rename_i m e hu
   rw [hu] at hy
   have hy:(if cs.length=P.cellsOf t then ((List.range m).mapM fun i=>DataW.trod enc P w base spare held qy e ((cs.drop (i * P.cellsOf e)).take (P.cellsOf e))).map fun xs=>(.agg (xs.map (·.1)),xs.flatMap (·.2)) else none)=some y:=hy
   split at hy
   ·rename_i hl
    obtain ⟨h1,h2⟩:=aQ h
    cases hm:(List.range m).mapM fun i=>DataW.trod enc P w base spare held qy e ((cs.drop (i * P.cellsOf e)).take (P.cellsOf e)) with
    | none=>rw [hm] at hy; cases hy
    | some ys=>
     cases ht:qw (fun i=>i * P.cellsOf e) (fun _=>P.cellsOf e) 0 (List.range m) with
     | none=>rw [ht] at h1; cases h1
     | some k=>
      rw [ht] at h1
      have h1:=Nat.eq_of_beq_eq_true (show Nat.beq k (P.cellsOf t)=true from h1)
      obtain ⟨_,kL,q1,q2,q3⟩:=vg (R:=pt w) (w:=w) (off:=fun i=>i * P.cellsOf e) (len:=fun _=>P.cellsOf e) (cs:=cs) (fun x ps y hx SB=>qz yN n hx SB) ht h2 hm
      rw [h1,← hl] at q1 q3
      simp only [List.drop_zero,Nat.sub_zero,List.take_length] at q1 q3
      exact ⟨kL,q1,q2,q3⟩
   ·cases hy
  ·cases h
def LW (P:Program) (n:Nat) (t:TypeId):Option ah:=match P.underlying t with
 | some u=>match Er P n t with
  | some ps=>qx (Go.Am.iT u) ps
  | none=>none
 | none=>none
theorem Ii (yN:∀ b,spare b=true) {n:Nat} {t:TypeId} {p:ah} (hp:LW P n t=some p) {v:Value} {d:DataW H} {pl:List MemPlace} {r:Reach} {base':Nat} (ht:DataW.Trod enc P w base spare held t v d pl) (eT:Value.okWide P w r base' t v) :
  ∃ x:p.T,Rel (pt w) w (p.enc x) v∧p.wf x:=by
 obtain ⟨qy,ht⟩:=ht
 have fin:∀ {a:AV},p.fits a=true→p.wf (p.a8 a)→Rel (pt w) w a v→∃ x:p.T,Rel (pt w) w (p.enc x) v∧p.wf x:=fun {a} h1 h2 h3=>⟨p.a8 a,(p.cA h1).ga _ _ _ h3,h2⟩
 unfold LW at hp
 split at hp
 ·rename_i u hu
  split at hp
  ·rename_i ps h1
   obtain ⟨kL,q1,q2,q3⟩:=qz yN n h1 ht
   obtain ⟨x,hx,f1,f2⟩:=Af hp q2
   cases xy:Go.Am.iT u with
   | true=>
    rw [xy] at hx
    simp only [if_true] at hx
    subst hx
    have:∃ cs,v=.agg cs:=by
     unfold Value.okWide at eT
     rw [hu] at eT
     cases u <;> first | (cases xy; done) | (obtain ⟨cs,h,_⟩:=eT; exact ⟨cs,h⟩)
    obtain ⟨⟨cs⟩,rfl⟩:=this
    exact fin f1 f2 (.agg q1 q3)
   | false=>
    rw [xy] at hx
    simp only [Bool.false_eq_true,if_false] at hx
    subst hx
    have hv:v.cells.toList=[v]:=by
     cases v with
     | agg cs=>
      exfalso
      unfold Value.okWide at eT
      rw [hu] at eT
      cases u <;> first | (cases xy; done) | (simp [Cell.okWide,Cell.ok,hu] at eT)
     | _=>rfl
    rw [hv] at q1
    cases q1 with
    | cons q1 _=>exact fin f1 f2 q1
  ·cases hp
 ·cases hp
def Ag (P:Program) (n:Nat):List TypeId→Option (List ah)
 | []=>some []
 | t :: l=>match LW P n t,Ag P n l with
  | some p,some r=>some (p :: r)
  | _,_=>none
theorem Ah (yN:∀ b,spare b=true) {n:Nat} {r:Reach} {base':Nat}:∀ {ts:List TypeId} {ps:List ah} {vs:List Value} {ds:List (DataW H)} {pl:List MemPlace},Ag P n ts=some ps→DataW.TrodAll enc P w base spare held ts vs ds pl →
  (∀ (j:Nat) t v,ts[j]?=some t→vs[j]?=some v→Value.okWide P w r base' t v)→∃ x:(kd ps).T,aE (pt w) w ((kd ps).enc x) vs∧(kd ps).wf x
 | [],ps,vs,ds,pl,hp,ht,_=>by
  simp only [Ag] at hp
  cases hp
  cases vs with
  | nil=>exact ⟨(),.nil,trivial⟩
  | cons _ _=>cases ds <;> exact ht.elim
 | t :: ts,ps,vs,ds,pl,hp,ht,eT=>by
  unfold Ag at hp
  split at hp
  ·rename_i p r h1 h2
   cases hp
   cases vs with
   | nil=>cases ds <;> exact ht.elim
   | cons v vs=>
    cases ds with
    | nil=>exact ht.elim
    | cons d ds=>
     obtain ⟨p1,p2,k1,k2,_⟩:=ht
     obtain ⟨x,q1,q2⟩:=Ii yN h1 k1 (eT 0 t v rfl rfl)
     obtain ⟨y,q3,q4⟩:=Ah yN h2 k2 (fun j t v hj hv=>eT (j+1) t v (by simpa using hj) (by simpa using hv))
     cases r with
     | nil=>
      cases q3
      exact ⟨x,.one q1,q2⟩
     | cons p' r=>exact ⟨(x,y),.cons q1 q3,q2,q4⟩
  ·cases hp
end read
end Go.Am
namespace Go.Am
open Go Go.RowKit Go.WideShapes Go.ChangeShapes
section
variable {H:Type} {enc:TypeId × Value→H} {P:Program}
theorem B9 {f:Func} {s:ChangeSpec} {apart fresh handsOn again:Bool} {W W':World} {args:Array Value} {v:Value} {ds gs:List (DataW H)} {before pa pv:List MemPlace}
  (hW:DataW.Whole enc P f.params.toList s.vars apart W args.toList ds gs before)
  (BB:∀ (b:Nat) (sp:Nat→Bool) (hd:Bool),DataW.TrodAll enc P W' b sp hd f.resultTypes.toList (v.resultList f.resultTypes.size) (s.fn H (ds++gs)).results [])
  (oC:∀ sp:Nat→Bool,(∀ p∈before,sp p.block=true)→DataW.TrodAll enc P W' 0 sp true f.params.toList args.toList (s.fn H (ds++gs)).args pa)
  (Ai:∀ sp:Nat→Bool,(∀ p∈before,sp p.block=true)→DataW.TrodVars enc P W' sp s.vars (s.fn H (ds++gs)).vars pv)
  (EJ:before=pa++pv) (hb:Below W.heap.size W W')
  (eT:∀ (j:Nat) (t:TypeId) (r:Value),f.resultTypes[j]?=some t→(v.resultList f.resultTypes.size)[j]?=some r→Value.okWide P W' .any 0 t r) :
  s.post enc P f apart fresh handsOn again W args v W':=by
 have bK:∀ p∈before,p.block < W.heap.size:=fun p hp=>hW.lt p hp
 have hold:∀ p∈before,(fun b=>decide (b < W.heap.size)) p.block=true:=fun p hp=>by simpa using bK p hp
 refine ⟨ds,gs,before,[],pa,pv,hW,BB _ _ _,oC _ hold,Ai _ hold,World.keptBut_mono (fun p hp=>⟨hp,?_⟩) (hb.frame (·∈before)),fun _=>?_⟩
 ·rw [EJ,List.mem_append] at hp
  exact Or.inr hp
 ·obtain ⟨_,_,_,_,_,hz,hn⟩:=hW
  refine ⟨eT,_,_,([]++pa)++pv,⟨[]++pa,pv,trodAll_append (oC _ (fun _ _=>rfl)) (BB _ _ _),Ai _ (fun _ _=>rfl),rfl,?_,?_⟩,?_⟩
  ·intro b off hp
   have A8:MemPlace.cell b off∈before:=by rw [EJ]; simpa using hp
   rw [hb.frozen (bK _ A8)]
   exact hz b off A8
  ·intro ha
   have:=hn ha
   rw [EJ] at this
   simpa using this
  ·intro p hp _
   rw [EJ]
   simpa using hp
theorem oO (hl:laidOutB P=true) {W W':World} (hb:Below W.heap.size W W') {sp:Nat→Bool}:∀ {ts:List TypeId} {vs:List Value} {ds:List (DataW H)} {pl:List MemPlace},
  (∀ t∈ts,P.readableRec t=true∧t < P.types.size)→DataW.TrodAll enc P W 0 (fun _=>true) true ts vs ds pl→(∀ p∈pl,p.block < W.heap.size)→(∀ p∈pl,sp p.block=true) →
  DataW.TrodAll enc P W' 0 sp true ts vs ds pl
 | [],[],[],_,_,h,_,_=>h
 | t :: ts,v :: vs,d :: ds,pl,hr,h,bK,yN=>by
  obtain ⟨p,q,h1,h2,rfl⟩:=h
  refine ⟨p,q,?_,oO hl hb (fun t ht=>hr t (by simp [ht])) h2 (fun x hx=>bK x (by simp [hx])) (fun x hx=>yN x (by simp [hx])),rfl⟩
  exact WideElems.Trod_stays hl (hr t (by simp)).1 (hr t (by simp)).2 h1 (fun x hx=>hb.same (bK x (by simp [hx]))) (fun x hx=>yN x (by simp [hx]))
 | [],[],_ :: _,_,_,h,_,_=>h.elim
 | [],_ :: _,_,_,_,h,_,_=>h.elim
 | _ :: _,[],_,_,_,h,_,_=>h.elim
 | _ :: _,_ :: _,[],_,_,h,_,_=>h.elim
theorem Es {E:Env} {f:FuncId} {fn:Func} {s:ChangeSpec} {ps:List ah} {apart fresh handsOn again:Bool} {W:World} {base:Nat} {args:Array Value} {ds gs:List (DataW H)} {before:List MemPlace} {n tb:Nat}
  (SC:∀ x,(kd ps).wf x→bg E f ((kd ps).enc x) (fun r=>r=.bool true)) (PB:Ag E.P n fn.params.toList=some ps)
  (Ij:∀ (j:Nat) t v,fn.params[j]?=some t→args[j]?=some v→Value.okWide E.P W .any base t v)
  (hW:DataW.Whole enc E.P fn.params.toList s.vars apart W args.toList ds gs before) (PC:∀ g cs,E.dC g=some cs→eg (pt W) W g 0 cs)
  (Ai:s.vars=[]) (yN:∀ ds:List (DataW H),ds.length=fn.params.toList.length→s.fn H ds={ results:=[.lit (.bool true)],args:=ds })
  (BB:fn.resultTypes=#[tb]) (Uv:E.P.underlying tb=some .bool) (hl:laidOutB E.P=true) (hr:∀ t∈fn.params.toList,E.P.readableRec t=true∧t < E.P.types.size) (tN:E.lo=0:=by rfl) (PA:∀ g cs,E.dC g=some cs→E.gx g=true→g < W.heap.size∧W.cell? ⟨g,cs.length,none⟩=none:=by intro _ _ _ h; exact Bool.noConfusion (show false=true from h)) :
  Calls E.P f args W fun e W'=>∃ v,e=.returned v∧s.post enc E.P fn apart fresh handsOn again W args v W':=by
 have SD:=hW
 obtain ⟨p,q,hA,hV,rfl,QX,V3⟩:=hW
 obtain ⟨rfl,rfl⟩:gs=[]∧q=[]:=by
  rw [Ai] at hV
  cases gs with
  | nil=>exact ⟨rfl,hV⟩
  | cons g r=>exact absurd hV (by intro h; cases h)
 obtain ⟨x,hx,Uw⟩:=Ah (fun _=>rfl) (n:=n) PB hA (r:=.any) (base':=base) (fun j t v hj hv=>Ij j t v (by simpa using hj) (by simpa using hv))
 have hlen:ds.length=fn.params.toList.length:=by
  clear Ij QX V3 SD hx Uw yN PB hr
  revert hA
  generalize fn.params.toList=ts
  generalize args.toList=vs
  generalize p=pl
  clear p
  intro hA
  induction ts generalizing vs ds pl with
  | nil=>cases vs <;> cases ds <;> first | rfl | exact hA.elim
  | cons t ts ih=>
   cases vs with
   | nil=>cases ds <;> exact hA.elim
   | cons v vs=>
    cases ds with
    | nil=>exact hA.elim
    | cons d ds=>
     obtain ⟨p,q,_,h2,_⟩:=hA
     simp [ih vs q h2]
 have hG:dP E (pt W) W []:=⟨rfl,fun id go ro h=>by simp [nth] at h,fun i j ri rj b h=>by simp [pt,nth] at h,fun b o h=>h,fun g cs hg=>⟨PC g cs hg,fun hx=>PA g cs hg hx⟩,by rw [tN]; exact Nat.zero_le _⟩
 have hc:=(SC x Uw [])
 refine (callsIn_wide.1 (hc.2 (pt W) W args.toList hG hx)).mono fun e W' he=>?_
 cases e with
 | panicked c=>exact he.elim
 | outgrown=>exact he.elim
 | returned c=>
  obtain ⟨r,G',R',⟨_,rfl⟩,dv,_,st⟩:=he
  cases dv
  have hb:Below W.heap.size W W':=⟨st.os,st.tape,st.output,st.size,fun k hk=>st.aW k hk fun ho=>by
   obtain ⟨id,ro,h1,_⟩:=e8 ho
   simp [pt,nth] at h1⟩
  have bK:∀ y∈p,y.block < W.heap.size:=fun y hy=>by simpa using SD.lt y (by simpa using hy)
  have e1:s.fn H (ds++[])={ results:=[.lit (.bool true)],args:=ds }:=by rw [List.append_nil]; exact yN ds hlen
  refine ⟨_,rfl,B9 (pa:=p) (pv:=[]) SD ?_ ?_ ?_ rfl hb ?_⟩
  ·intro b sp hd
   rw [e1,BB]
   exact trodAll_mk1 (shut_bool Uv true)
  ·intro sp SE
   rw [e1]
   exact oO hl hb hr hA bK (fun y hy=>SE y (by simpa using hy))
  ·intro sp _
   rw [e1,Ai]
   rfl
  ·intro j t r hj kv
   rw [BB] at hj kv
   cases j with
   | succ j=>simp at hj
   | zero=>
    simp at hj
    subst hj
    have:r=.bool true:=by simpa [Value.resultList] using kv.symm
    subst this
    simp [Value.okWide,Cell.okWide,Cell.ok,Uv]
end
end Go.Am
namespace Go.Am
open Go
section
variable {P:Program} {W:World}
end
end Go.Am
namespace Go.Am
open Go
theorem cI {p:ah} (hp:p.plain=true) (l:List p.T):allFit p.fits (List.map p.enc l)=true:=by
 induction l with
 | nil=>rfl
 | cons x l ih=>simp [allFit,ih,(p.ba x hp).1]
theorem eZ {p:ah} (hp:p.plain=true) (l:List p.T):List.map p.a8 (List.map p.enc l)=l:=by
 induction l with
 | nil=>rfl
 | cons x l ih=>simp [ih,(p.ba x hp).2]
end Go.Am
namespace Go.Am
open Go Go.RowKit
section
variable {E:Env} {R:aj} {w w':World}
theorem Plain.of {P : Program} {g : FuncId} {fn : Func} (h : P.funcs[g]? = some fn) (h1 : fn.body.isNone = false) (h2 : (fn.name == "runtime.NumGoroutine") = false) : Plain P g := ⟨fn, h, h1, h2⟩
end
def p2 (a b:ah):aD:=.cons a (.cons b .nil)
def p1 (a:ah):aD:=.cons a .nil
def vh:List UInt8 × List UInt8→Option Int
 | (s,[c])=>some (s.count c:Nat)
 | _=>none
def Ca:bV:=⟨p2 .str .str,.int .i64,vh⟩
section
variable {E:Env}
end
end Go.Am
namespace Go.Am
open Go Go.RowKit Go.Proofs Go.Shelf
section
variable {E:Env} {R:aj} {w w':World}
theorem dP.xQ {G:List GO} (h:dP E R w G):aV E R w (fun _=>0) ⟨[],fm,G,[],none,0⟩ { tmps:=#[],defers:=[] }:=
 ⟨h,⟨fun k cs hk=>by simp [fm,de] at hk,fun k k' cs eM hk=>by simp [fm,de] at hk⟩,fun i hi=>absurd rfl hi,rfl,trivial⟩
theorem Aj (a:Addr) (n:Nat) (b o:Nat):(w.freeze a n).cell? ⟨b,o,none⟩=w.cell? ⟨b,o,none⟩:=by
 unfold World.freeze
 split
 ·rfl
 ·simp only [World.cell?,Array.getElem?_modify]
  by_cases e:a.block=b
  ·subst e
   simp only [if_true]
   cases h:w.heap[a.block]? with
   | none=>rfl
   | some x=>cases x <;> simp
  ·simp [e]
theorem Ak {a:Addr} {n:Nat} {b:Nat} (h:b≠a.block):(w.freeze a n).heap[b]?=w.heap[b]?:=by
 unfold World.freeze
 split
 ·rfl
 ·simp only [Array.getElem?_modify]
  rw [if_neg (Ne.symm h)]
theorem Al (a:Addr) (n:Nat):(w.freeze a n).heap.size=w.heap.size:=by
 unfold World.freeze
 split <;> simp
theorem dP.frozen {G:List GO} (hg:dP E R w G) {t f sz el g c n:Nat} (XR:nth G t=some (.tok f sz el)) (hr:nth R.obj t=some (.tok f g c)) {cur:Array Value} {fz:Nat × Nat} (hc:w.heap[g]?=some (.cells cur el fz)) :
  dP E R (w.drew.freeze ⟨g,0,none⟩ n) (ax G t .dead)∧Step R w (fun _=>0) fm R (w.drew.freeze ⟨g,0,none⟩ n) (fun _=>0) fm:=by
 have hl:Live R g:=⟨t,_,hr,rfl⟩
 have aW:∀ b,b≠g→(w.drew.freeze ⟨g,0,none⟩ n).heap[b]?=w.heap[b]?:=fun b hb=>Ak (w:=w.drew) (a:=⟨g,0,none⟩) hb
 have eA:(w.drew.freeze ⟨g,0,none⟩ n).heap.size=w.heap.size:=Al (w:=w.drew) _ _
 have e:Ext R w R (w.drew.freeze ⟨g,0,none⟩ n):=⟨fun _ _ h=>h,fun b o _=>Aj (w:=w.drew) _ _ b o,fun _ ro h=>⟨ro,h,b9.refl ro⟩,fun b r hb=>⟨r,by
  by_cases e:b=g
  ·subst e; rw [hc] at hb; cases hb
  ·rw [aW b e]; exact hb,rfl,rfl,rfl,rfl,rfl⟩⟩
 have QZ:∀ (v:World) (a:Addr) (m:Nat),(v.freeze a m).os=v.os∧(v.freeze a m).tape=v.tape∧(v.freeze a m).output=v.output∧(v.freeze a m).drawn=v.drawn:=by
  intro v a m
  unfold World.freeze
  split <;> exact ⟨rfl,rfl,rfl,rfl⟩
 refine ⟨⟨by rw [gA]; exact hg.len,fun id go ro q1 q2=>?_,hg.inj,fun b o hi=>by rw [eA]; exact hg.wf b o hi,fun x cs hx=>(hg.dC x cs hx).mono e,by rw [(QZ _ _ _).2.2.2]; exact Nat.le_succ_of_le hg.lo⟩,⟨e,(QZ _ _ _).1,(QZ _ _ _).2.1,(QZ _ _ _).2.2.1,by rw [eA]; exact Nat.le_refl _,fun b hb hn=>aW b (fun e=>hn (e ▸ .inl hl)),fun _ _ ho=>ho,fun _ _ hi _ _=>hi⟩⟩
 rcases cO q1 with ⟨rfl,rfl,_⟩ | ⟨cr,q1⟩
 ·rw [hr] at q2
  cases q2
  show g < _
  rw [eA]
  exact aZ hc
 ·refine (hg.obj id go ro q1 q2).mono e (fun b hb=>aW b (fun e=>cr ?_)) (fun _ _ _ hi=>hi)
  subst e
  exact hg.inj t id _ _ b hr q2 rfl hb
end
end Go.Am
