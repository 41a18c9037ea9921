/- The abstract machine: what the evaluator finds is so. -/
import Derived.Test.YtegoimldbgdeiaaAmKJ
import GoSem.ClaimJoined
import Derived.Below
import Derived.ChangeSame
import Derived.Carry
import Derived.RowKit
import Derived.FnData
import Derived.Lib.Builder
import Derived.Lib.UnsafeStr
import Derived.Shelf.Strings.Builder1
set_option linter.all false
namespace Go.Am
open Go
section ext
variable {E:Env} {f:FuncId} {s s':St} {o:Oper}
theorem aO.put (s:St) (d:Option Tmp) (x:SV):aO s (s.put d x):=by
 cases d with
 | none=>exact aO.refl s
 | some d=>
  simp only [St.put]
  split
  ·exact ⟨⟨[_],rfl⟩,⟨[],rfl⟩,rfl⟩
  ·exact aO.refl s
theorem aO.bO (s:St) (G:List GO):aO s (s.bO G):=⟨⟨[],rfl⟩,⟨[],rfl⟩,rfl⟩
theorem aO.dH (s:St) (o:GO):aO s (s.dH o):=⟨⟨[],rfl⟩,⟨[],rfl⟩,rfl⟩
theorem aO.sM (s:St) (d:Nat) (cs:List AV):aO s (s.sM d cs):=⟨⟨[],rfl⟩,⟨[_],rfl⟩,rfl⟩
theorem aO.kill (s:St) (d:Nat):aO s (s.kill d):=⟨⟨[_],rfl⟩,⟨[],rfl⟩,rfl⟩
theorem Fm {c:Bool} {s':St} (h:gk E f s o=some (c,s')):aO s s':=by
 unfold gk at h
 repeat' (split at h)
 all_goals (first | (cases h; done) | skip)
 all_goals (injection h with h; injection h with _ h; subst h; exact (aO.bO _ _).trans (aO.put _ _ _))
theorem CS {c:Bool} (h:an E f s o=some (c,s')):aO s s':=by
 have alloc:∀ {el:TypeId} {cs:List AV} {c:Bool} {s':St},eR E f s o.dst el cs=some (c,s')→aO s s':=by
  intro el cs c s' h
  unfold eR at h
  repeat' (split at h)
  all_goals (first | (cases h; done) | skip)
  ·injection h with h; injection h with _ h; subst h; exact (aO.dH _ _).trans (aO.put _ _ _)
  ·injection h with h; injection h with _ h; subst h; exact ((aO.kill _ _).trans (aO.sM _ _ _)).trans (aO.put _ _ _)
 have store:∀ {t:TypeId} {p x:SV} {s':St},iW E s t p x=some s'→aO s s':=by
  intro t p x s' h
  unfold iW at h
  repeat' (split at h)
  all_goals (first | (cases h; done) | skip)
  all_goals (injection h with h; subst h)
  ·exact aO.sM _ _ _
  ·exact aO.bO _ _
 have Cj:∀ {t:TypeId} {p x:SV} {c:Bool} {s':St},iX E s t p x=some (c,s')→aO s s':=by
  intro t p x c s' h
  unfold iX at h
  repeat' (split at h)
  all_goals (first | (cases h; done) | skip)
  all_goals (injection h with h; injection h with _ h; subst h)
  all_goals (first | exact aO.bO _ _ | exact store (by assumption))
 have blt:∀ {b:Builtin} {l:List AV} {tys:List TypeId} {c:Bool} {s':St},bG E s o.dst b l tys=some (c,s')→aO s s':=by
  intro b l tys c s' h
  unfold bG at h
  repeat' (split at h)
  all_goals (first | (cases h; done) | skip)
  all_goals (injection h with h; injection h with _ h; subst h)
  all_goals (first | exact aO.put _ _ _ | exact (aO.bO _ _).trans (aO.put _ _ _) | exact aO.bO _ _)
 have update:∀ {t:TypeId} {m k x:SV} {s':St},eT E s t m k x=some s'→aO s s':=by
  intro t m k x s' h
  unfold eT at h
  repeat' (split at h)
  all_goals (first | (cases h; done) | skip)
  all_goals (injection h with h; subst h; exact aO.bO _ _)
 have next:∀ {x:SV} {s':St},kG s o.dst x=some s'→aO s s':=by
  intro x s' h
  unfold kG at h
  split at h
  ·split at h
   ·rename_i l pos hg
    cases hb:Nat.blt pos l.length <;> rw [hb] at h <;> simp only [cond_true,cond_false] at h <;> cases h
    ·exact aO.put _ _ _
    ·exact (aO.bO _ _).trans (aO.put _ _ _)
   ·cases h
  ·cases h
 have Ck:∀ {t:TypeId} {m k:SV} {c:Bool} {v:AV} {s':St},fV E s t m k=some (c,v,s')→aO s s':=by
  intro t m k c v s' h
  unfold fV at h
  repeat' (split at h)
  all_goals (first | (cases h; done) | skip)
  all_goals (injection h with h; injection h with _ h; injection h with _ h; subst h; exact aO.bO _ _)
 have Cl:∀ {m st x:SV} {c:Bool} {s':St},dV s m st x=some (c,s')→aO s s':=by
  intro m st x c s' h
  unfold dV at h
  repeat' (split at h)
  all_goals (first | (cases h; done) | skip)
  all_goals (injection h with h; injection h with _ h; subst h; exact aO.bO _ _)
 unfold an at h
 repeat' (split at h)
 all_goals (first | (cases h; done) | exact alloc h | exact blt h | (rename_i hf; cases h; exact Fm hf) | skip)
 all_goals (injection h with h; injection h with _ h; subst h)
 all_goals (first | exact aO.put _ _ _ | exact (aO.dH _ _).trans (aO.put _ _ _) | skip)
 all_goals (first | exact Cj (by assumption) | exact update (by assumption) | exact (Ck (by assumption)).trans (aO.put _ _ _) | exact Cl (by assumption) | exact next (by assumption))
theorem cH.gj {g:FuncId} {args Lo:List AV} {G:List GO} {Q:AV→List GO→Prop} (hw:cu args Lo) (h:cH E g Lo G Q):cH E g args G Q:=
 ⟨h.1,fun R w cs hg hl=>h.2 R w cs hg (hw.rel hl)⟩
theorem AW {K:St→Prop} (h:jz E f o K s):jz E f o (fun s'=>K s'∧aO s s') s:=by
 unfold jz at *
 split
 ·rename_i x args tys ho
  rw [ho] at h
  simp only at h
  split at h
  ·exact h.mono fun r G' hk=>⟨hk,(aO.bO _ _).trans (aO.put _ _ _)⟩
  ·exact h.mono fun r G' hk=>⟨hk,(aO.bO _ _).trans (aO.put _ _ _)⟩
  ·exact h
 ·rename_i ho
  rw [ho] at h
  exact h
 ·rename_i nc nd
  split at h
  ·rename_i ho
   exact absurd ho (nc _ _ _)
  ·exact h.elim
  ·split at h
   ·rename_i c s' hs
    obtain ⟨hc,hk⟩:=h.out
    exact dq.mk hc ⟨hk,CS hs⟩
   ·exact h.elim
theorem kM {K:St→Prop} {ops:List Oper} (h:bU E f ops o K s):bU E f ops o (fun s'=>K s'∧aO s s') s:=by
 unfold bU at *
 split
 ·rename_i hg
  rw [hg] at h
  exact AW h
 ·rename_i j want hg
  rw [hg] at h
  simp only at h
  split
  ·rename_i hd
   rw [hd] at h
   exact h
  ·rename_i d hd
   rw [hd] at h
   simp only at h
   split
   ·rename_i b hb
    rw [hb] at h
    simp only at h
    refine ⟨fun e=>?_,fun e=>⟨h.2 e,(aO.put _ _ _).trans (aO.put _ _ _)⟩⟩
    exact rP (AW (h.1 e)) fun s' hh=>⟨hh.1,(aO.put _ _ _).trans hh.2⟩
   ·rename_i hb
    rw [hb] at h
    exact ⟨h,aO.put _ _ _⟩
   ·rename_i hb li
    split at h
    ·rename_i b DK
     exact absurd DK (hb b)
    ·rename_i DK
     exact absurd DK li
    ·exact h
theorem wW {K K':St→Prop} {ops:List Oper} (h:fN E f ops o K s) (hK:∀ s,K s→K' s):fN E f ops o K' s:=by
 unfold fN at *
 split
 ·rename_i s' h1 h2
  rw [h1,h2] at h
  exact hK _ h
 ·rename_i hn
  split at h
  ·rename_i s' h1 h2
   exact absurd h2 (hn s' h1)
  ·exact bV h hK
theorem s8 {s':St} (h:iE E f s o=some s'):aO s s':=by
 unfold iE at h
 repeat' (split at h)
 all_goals (first | (cases h; done) | skip)
 all_goals (injection h with h; subst h; exact (aO.dH _ _).trans (aO.put _ _ _))
theorem zl {K:St→Prop} {ops:List Oper} (h:fN E f ops o K s):fN E f ops o (fun s'=>K s'∧aO s s') s:=by
 unfold fN at *
 split
 ·rename_i s' h1 h2
  rw [h1,h2] at h
  exact ⟨h,s8 h2⟩
 ·rename_i hn
  split at h
  ·rename_i s' h1 h2
   exact absurd h2 (hn s' h1)
  ·exact kM h
theorem lf {K K':St→Prop} {ops:List Oper} (h:e9 E f ops o K s) (hK:∀ s,K s→K' s):e9 E f ops o K' s:=by
 unfold e9 at *
 split at h
 ·obtain ⟨h1,h2⟩:=h.out
  exact dq.mk h1 (hK _ h2)
 ·obtain ⟨h1,h2,h3⟩:=h.out
  exact dq.mk h1 ⟨fun e=>hK _ (h2 e),fun i hi=>let ⟨k1,k2⟩:=(h3 i hi).out; dq.mk k1 (hK _ k2)⟩
 ·exact wW h hK
theorem Fo {c:Bool} {s':St} (h:sb E f s o=some (c,s')):aO s s':=by
 unfold sb at h
 repeat' (split at h)
 all_goals (first | (cases h; done) | skip)
 all_goals (injection h with h; injection h with _ h; subst h; exact (aO.bO _ _).trans (aO.put _ _ _))
theorem CT {c:Bool} {s0:St} {left:List Nat} {g:Nat→Bool × St} (h:rv E s o=some (c,s0,left,g)):aO s s0∧∀ i,aO s (g i).2:=by
 unfold rv at h
 split at h
 ·unfold xg at h
  split at h
  ·split at h
   ·split at h
    ·cases h
     exact ⟨aO.put _ _ _,fun i=>(aO.bO _ _).trans (aO.put _ _ _)⟩
    ·cases h
   ·cases h
  ·cases h
 ·cases h
theorem qF {K:St→Prop} {ops:List Oper} (h:e9 E f ops o K s):e9 E f ops o (fun s'=>K s'∧aO s s') s:=by
 unfold e9 at *
 split at h
 ·rename_i hb
  obtain ⟨h1,h2⟩:=h.out
  exact dq.mk h1 ⟨h2,Fo hb⟩
 ·rename_i hb
  obtain ⟨h1,h2,h3⟩:=h.out
  obtain ⟨k1,k2⟩:=CT hb
  exact dq.mk h1 ⟨fun e=>⟨h2 e,k1⟩,fun i hi=>let ⟨q1,q2⟩:=(h3 i hi).out; dq.mk q1 ⟨q2,k2 i⟩⟩
 ·exact zl h
theorem lg {K K':St→Prop} {ops:List Oper} (h:fa E f ops o K s) (hK:∀ s,K s→K' s):fa E f ops o K' s:=by
 unfold fa at *
 split at h
 ·exact ⟨h.1,lf h.2 hK⟩
 ·exact lf h hK
theorem gK {cut wk:Bool}:∀ {l:List Operand} {s s':St} {c:Bool},gv cut wk l s=(c,s')→aO s s'
 | [],s,s',c,h=>by
  simp only [gv] at h
  cases h
  exact aO.refl _
 | .tmp t :: l,s,s',c,h=>by
  unfold gv at h
  split at h
  ·rename_i c1 s1 h1
   cases h2:gv cut wk l s1 with
   | mk c2 s2=>
   rw [h2] at h
   simp only [Prod.mk.injEq] at h
   obtain ⟨_,rfl⟩:=h
   exact (iJ h1).trans (gK h2)
  ·exact gK h
 | .const _ :: l,s,s',c,h=>gK (l:=l) h
 | .global _ :: l,s,s',c,h=>gK (l:=l) h
 | .func _ :: l,s,s',c,h=>gK (l:=l) h
theorem Hq {s s':St} {o:Oper} {c:Bool} (h:Ez E f s o=some (c,s')):aO s s':=by
 unfold Ez at h
 split at h
 ·split at h
  ·injection h with h
   exact gK h
  ·cases h
 ·cases h
theorem zm {K:St→Prop} {ops:List Oper} (h:fa E f ops o K s):fa E f ops o (fun s'=>K s'∧aO s s') s:=by
 unfold fa at *
 split at h
 ·rename_i c s' hz
  exact ⟨h.1,lf (qF h.2) fun s2 h2=>⟨h2.1,(Hq hz).trans h2.2⟩⟩
 ·exact qF h
theorem vz {s s':St} {l:Loc} {sz:Nat} {e:TypeId} (h:nw s l sz e=some s'):aO s s':=by
 unfold nw at h
 cases Cf:Nat.ble 196608 sz with
 | true=>rw [Cf] at h; cases h; exact aO.dH _ _
 | false=>
 rw [Cf] at h
 cases l with
 | slot t=>
  simp only at h
  split at h
  ·cases h; exact ⟨⟨[_],rfl⟩,⟨[],rfl⟩,rfl⟩
  ·cases h
 | box k i=>
  simp only at h
  split at h
  ·split at h
   ·cases h; exact ⟨⟨[],rfl⟩,⟨[_],rfl⟩,rfl⟩
   ·cases h
  ·cases h
 | row id i=>
  simp only at h
  split at h
  ·split at h
   ·cases h; exact ⟨⟨[],rfl⟩,⟨[],rfl⟩,rfl⟩
   ·cases h
  ·cases h
theorem kg:∀ {l:List (Loc × Nat × TypeId)} {s s':St},fM l s=some s'→aO s s'
 | [],s,s',h=>by
  simp only [fM] at h
  cases h
  exact aO.refl _
 | (l,sz,e) :: r,s,s',h=>by
  unfold fM at h
  split at h
  ·rename_i s1 h1
   exact (vz h1).trans (kg h)
  ·cases h
theorem nS:∀ {l:List (Loc × Nat × TypeId)} {s:St},aO s (iB l s)
 | [],s=>aO.refl _
 | (l,sz,e) :: r,s=>by
  unfold iB
  split
  ·rename_i s1 h1
   exact (vz h1).trans nS
  ·exact nS
theorem Fp {s s':St} {o:Oper} (h:xD E f o s=some s'):aO s s':=by
 unfold xD at h
 split at h
 ·cases h; exact aO.refl _
 ·split at h
  ·split at h
   ·rename_i hz
    cases h
    exact iJ hz
   ·cases h
  ·split at h
   ·cases h; exact aO.refl _
   ·split at h
    ·exact Cg h
    ·split at h
     ·cases h; exact nS
     ·cases h
theorem vA {K K':St→Prop} {ops:List Oper} (hK:∀ s,K s→K' s):∀ {l:List Oper} {s:St},nB E f ops l K s→nB E f ops l K' s
 | [],s,h=>hK s h
 | _ :: _,_,h=>lg h fun s' h'=>by
  unfold xF at *
  split at h'
  ·exact vA hK h'
  ·exact h'.elim
theorem vB {K K':St→Prop} {ops:List Oper} (hK:∀ s,K s→K' s) {T:DT} {s:St} (h:rb E f ops T K s):rb E f ops T K' s:=
 fg (ops:=⟨ops⟩) hK T s h
theorem xU {K:St→Prop} {ops:List Oper}:∀ {l:List Oper} {s:St},nB E f ops l K s→nB E f ops l (fun s'=>K s'∧aO s s') s
 | [],s,h=>⟨h,aO.refl s⟩
 | o :: l,s,h=>by
  simp only [nB] at *
  refine lg (zm h) fun s' hh=>?_
  obtain ⟨h1,h2⟩:=hh
  unfold xF at *
  split at h1
  ·rename_i s2 hp
   exact vA (fun s3 h3=>⟨h3.1,(h2.trans (Fp hp)).trans h3.2⟩) (xU h1)
  ·exact h1.elim
theorem qG {K:St→Prop} {ops:List Oper}:∀ {T:DT} {s:St},rb E f ops T K s→rb E f ops T (fun s'=>K s'∧aO s s') s
 | .done,s,h=>⟨h,aO.refl s⟩
 | .stop,_,_=>trivial
 | .take j C T,s,h=>by
  unfold rb at h ⊢
  split
  ·rename_i oj hj
   rw [hj] at h
   exact bV (kM h) fun s' hh=>vB (fun s2 h2=>⟨h2.1,hh.2.trans h2.2⟩) (qG hh.1)
  ·rename_i hj
   rw [hj] at h
   exact h
 | .al j W T,s,h=>by
  unfold rb at h ⊢
  split
  ·rename_i oj hj
   rw [hj] at h
   exact ⟨h.1,bV (kM h.2) fun s' hh=>vB (fun s2 h2=>⟨h2.1,hh.2.trans h2.2⟩) (qG hh.1)⟩
  ·rename_i hj
   rw [hj] at h
   exact h
 | .br i re C T more,s,h=>by
  unfold rb at h ⊢
  refine ⟨?_,qG h.2⟩
  have h:=h.1
  split
  ·rename_i oj hj
   rw [hj] at h
   exact bV (kM h) fun s' hh=>⟨hh.1.1,vB (fun s2 h2=>⟨h2.1,hh.2.trans h2.2⟩) (qG hh.1.2)⟩
  ·rename_i hj
   rw [hj] at h
   exact h
end ext
def kh (E:Env) (c:Code) (Q:Exit→St→Prop) (s:St):Prop:=eV E c (fun e s'=>Q e s'∧aO s s') s
section sound
variable {E:Env} {f:FuncId} {s:St} {X:Type} {fz:Bool} {call:nQ X} {kL:ld X} {eN:Option X→Option X→Option X} {x:X}
def mB (E:Env) (call:nQ X):Prop:=∀ g args G K x,call g args G K=some x→cH E g args G (fun r G'=>K r G'=some x)
def sG (E:Env) (kL:ld X):Prop:=∀ id args G K x,kL id args G K=some x→j4 E id args G (fun b G'=>K b G'=some x)
theorem aT {α:Type} {c:Bool} {a:Option α} {x:α} (h:(bif c then a else none)=some x):c=true∧a=some x:=by
 cases c
 ·cases h
 ·exact ⟨rfl,h⟩
theorem bind_some {α β:Type} {a:Option α} {k:α→Option β} {x:β} (h:a.bind k=some x):∃ y,a=some y∧k y=some x:=by
 cases a with
 | none=>cases h
 | some y=>exact ⟨y,rfl,h⟩
theorem Fq {o:Oper} {n:Int} {len:Nat} {g:Nat→Oper} (h:zi E s o=some (n,len,g)) {j:Nat} (hj:n=(j:Int)):an E f s (g j)=an E f s o:=by
 subst hj
 unfold zi at h
 have Mg:∀ k:IntKind,bi E s.ae (.const (.int k (j:Int)))=.v (.int k j):=fun k=>rfl
 split at h
 ·rename_i t x y ho
  split at h
  ·rename_i k n i h1 h2
   split at h
   ·injection h with h; injection h with e1 h; injection h with e2 h
    subst h; subst e1
    simp only [an,ho,Mg,h1]
   ·cases h
  ·cases h
 ·rename_i t x y ho
  split at h
  ·rename_i k n i h1 h2
   split at h
   ·split at h
    ·split at h
     ·cases h
     ·injection h with h; injection h with e1 h; injection h with e2 h
      subst h; subst e1
      simp only [an,ho,Mg,h1]
    ·injection h with h; injection h with e1 h; injection h with e2 h
     subst h; subst e1
     simp only [an,ho,Mg,h1]
   ·cases h
  ·cases h
 ·cases h
theorem oV {o:Oper} {n:Int} {len:Nat} {g:Nat→Oper} (hi:zi E s o=some (n,len,g)) {K:St→Option X}:∀ (m j:Nat),tB E fz f g n K s m j=some x→∃ c s',an E f s o=some (c,s')∧c=true∧K s'=some x
 | 0,_,h=>by cases h
 | m+1,j,h=>by
  unfold tB at h
  by_cases hn:n=(j:Int)
  ·rw [decide_eq_true hn,cond_true,Fq hi hn] at h
   split at h
   ·rename_i c s' hs
    obtain ⟨h1,h2⟩:=aT h
    rw [cz] at h2
    exact ⟨c,s',hs,h1,h2⟩
   ·cases h
  ·rw [decide_eq_false hn,cond_false] at h
   exact oV hi m (j+1) h
theorem vC {ops:List Oper} {o:Oper} (h:Na E f ops o s=true):Cs E f ops o s:=by
 unfold Na at h
 split at h
 ·rename_i t m k ok d ho hd
  split at h
  ·rename_i c v b hg hs
   rw [Bool.and_eq_true] at h
   obtain ⟨rfl,h⟩:=h
   have hn:=qz hs
   unfold Cs
   rw [hg]
   simp only
   have e:an E f s o=some (true,s.put o.dst (.v (if ok then .bh [v,.bool b] else v))):=by simp only [an,ho,hn]
   rw [hd] at e
   rw [hd,e]
   refine ⟨rfl,?_⟩
   unfold St.put
   simp only
   split
   ·rw [ay]
    exact xM h
   ·rfl
  ·exact xN h
 ·exact xN h
theorem oW {ops:List Oper}:∀ {l:List Nat} {s:St},ov E f ops l s=true→xJ E f ops l s
 | [],_,_=>trivial
 | k :: l,s,h=>by
  unfold ov at h
  unfold xJ
  rw [Bool.and_eq_true] at h
  refine ⟨?_,oW h.2⟩
  have h:=h.1
  split at h
  ·rename_i hk
   first
    | exact vC h
    | rw [hk]; exact vC h
  ·rename_i hk
   first
    | trivial
    | rw [hk]; trivial
theorem rV (hc:mB E call) (hr:sG E kL) {o:Oper} {K:St→Option X} (h:M9 E fz call kL f o K s=some x):jz E f o (fun s=>K s=some x) s:=by
 unfold jz
 split
 ·rename_i y args tys ho
  unfold M9 at h
  rw [ho] at h
  simp only at h
  split at h
  ·rename_i h1 h2
   rw [h1,h2]
   refine (hc _ _ _ _ _ h).mono fun r G' hk=>?_
   rw [cz] at hk
   exact hk
  ·rename_i h1 h2
   rw [h1,h2]
   refine (hr _ _ _ _ _ h).mono fun r G' hk=>?_
   rw [cz] at hk
   exact hk
  ·cases h
 ·rename_i ho
  unfold M9 at h
  rw [ho] at h
  cases h
 ·rename_i nc nd
  unfold M9 at h
  split at h
  ·rename_i ho
   exact absurd ho (nc _ _ _)
  ·cases h
  ·rename_i y ho
   split at h
   ·rename_i b s1 s2 hs
    have hn:=CL hs
    have e:an E f s o=some (true,bif b then s1 else s2):=by simp only [an,ho,hn]
    rw [e]
    refine dq.mk rfl ?_
    rw [cz,cz] at h
    cases b <;> exact h
   ·cases h
  ·rename_i t m k ok ho
   split at h
   ·rename_i c v b hs
    obtain ⟨h1,h2⟩:=aT h
    subst h1
    rw [cz] at h2
    have hn:=qz hs
    have e:an E f s o=some (true,s.put o.dst (.v (if ok then .bh [v,.bool b] else v))):=by simp only [an,ho,hn]
    rw [e]
    exact dq.mk rfl h2
   ·split at h
    ·rename_i c s' hs
     obtain ⟨h1,h2⟩:=aT h
     rw [cz] at h2
     rw [hs]
     exact dq.mk h1 h2
    ·cases h
  ·rename_i t m k z ho
   split at h
   ·rename_i c s' hd hs
    obtain ⟨h1,h2⟩:=aT h
    subst h1
    rw [cz] at h2
    have hn:=qA hs
    have e:an E f s o=some (true,s'):=by simp only [an,ho,hd,hn]
    rw [e]
    exact dq.mk rfl h2
   ·cases h
  ·rename_i t m k z ho
   split at h
   ·rename_i c s' hd hs
    obtain ⟨h1,h2⟩:=aT h
    subst h1
    rw [cz] at h2
    have hn:=qA hs
    have e:an E f s o=some (true,s'):=by simp only [an,ho,hd,hn]
    rw [e]
    exact dq.mk rfl h2
   ·cases h
  ·rename_i args tys ho
   split at h
   ·rename_i c s' hf
    obtain ⟨h1,h2⟩:=aT h
    rw [cz] at h2
    have e:an E f s o=some (c,s'):=by simp only [an,ho,hf]
    rw [e]
    exact dq.mk h1 h2
   ·rename_i hf
    split at h
    ·rename_i l hl
     split at h
     ·rename_i b s1 c s2 hs
      have B3:b=false→c=true:=fun e=>by subst e; exact (aT (show (bif c then ou fz s2 K else none)=some x from h)).1
      have hn:=ze hs B3
      have e:an E f s o=some (true,bif b then s1 else s2):=by simp only [an,ho,hf,hl,hn]
      rw [e]
      refine dq.mk rfl ?_
      cases b with
      | true=>
       show K s1=some x
       rw [← cz fz s1 K]
       exact h
      | false=>
       obtain ⟨h1,h2⟩:=aT (show (bif c then ou fz s2 K else none)=some x from h)
       rw [cz] at h2
       exact h2
     ·split at h
      ·rename_i c s' hs
       obtain ⟨h1,h2⟩:=aT h
       rw [cz] at h2
       rw [hs]
       exact dq.mk h1 h2
      ·cases h
    ·cases h
  ·rename_i args tys ho
   split at h
   ·rename_i l hl
    split at h
    ·rename_i c s' hs
     obtain ⟨h1,h2⟩:=aT h
     subst h1
     rw [cz] at h2
     have hn:=CM hs
     have hf:gk E f s o=none:=by
      cases hf:gk E f s o with
      | none=>rfl
      | some r=>
       obtain ⟨_,_,h2⟩:=mq hf
       rw [ho] at h2
       cases h2
     have e:an E f s o=some (true,s'):=by simp only [an,ho,hf,hl,hn]
     rw [e]
     exact dq.mk rfl h2
    ·split at h
     ·rename_i c s' hs
      obtain ⟨h1,h2⟩:=aT h
      rw [cz] at h2
      rw [hs]
      exact dq.mk h1 h2
     ·cases h
   ·cases h
  ·split at h
   ·rename_i n len g hi
    obtain ⟨c,s',hs,h1,h2⟩:=oV hi _ _ h
    rw [hs]
    exact dq.mk h1 h2
   ·split at h
    ·rename_i c s' hs
     obtain ⟨h1,h2⟩:=aT h
     rw [cz] at h2
     rw [hs]
     exact dq.mk h1 h2
    ·cases h
theorem jD (hc:mB E call) (hr:sG E kL) {ops:List Oper} {o:Oper} {K:St→Option X} (h:nR E fz call kL f ops o K s=some x):bU E f ops o (fun s=>K s=some x) s:=by
 unfold nR at h
 unfold bU
 split at h
 ·rename_i hg
  rw [hg]
  exact rV hc hr h
 ·rename_i j want hg
  rw [hg]
  simp only
  split at h
  ·cases h
  ·rename_i d hd
   rw [hd]
   simp only
   split at h
   ·rename_i b hb
    rw [hb]
    simp only
    cases want with
    | true=>
     simp only at h
     rw [cz,cz] at h
     refine ⟨fun e=>?_,fun e=>?_⟩
     ·subst e
      exact rV hc hr h
     ·have e:b=false:=by simpa using e
      subst e
      exact h
    | false=>
     simp only at h
     rw [cz,cz] at h
     refine ⟨fun e=>?_,fun e=>?_⟩
     ·subst e
      exact rV hc hr h
     ·have e:b=true:=by simpa using e
      subst e
      exact h
   ·rename_i hb
    rw [hb]
    rw [cz] at h
    exact h
   ·cases h
theorem wX (hc:mB E call) (hr:sG E kL) {ops:List Oper} {o:Oper} {K:St→Option X} (h:zj E fz call kL f ops o K s=some x):fN E f ops o (fun s=>K s=some x) s:=by
 unfold zj at h
 unfold fN
 split at h
 ·rename_i s' h1 h2
  rw [h1,h2]
  rw [cz] at h
  exact h
 ·rename_i hn
  split
  ·rename_i s' h1 h2
   exact absurd h2 (hn s' h1)
  ·exact jD hc hr h
theorem oX (hc:mB E call) (hr:sG E kL) {ops:List Oper} {o:Oper} {K:St→Option X} (h:tC E fz call kL f ops o K s=some x):e9 E f ops o (fun s=>K s=some x) s:=by
 unfold tC at h
 unfold e9
 split at h
 ·rename_i c s' h1 h2
  rw [h1,h2]
  obtain ⟨q1,q2⟩:=aT h
  rw [cz] at q2
  exact dq.mk q1 q2
 ·rename_i c s0 left g h1 h2 h3
  rw [h1,h2,h3]
  obtain ⟨q1,q2⟩:=aT h
  refine dq.mk q1 ?_
  cases left with
  | nil=>
   simp only [List.isEmpty_nil,cond_true,cz] at q2
   exact ⟨fun _=>q2,fun i hi=>by simp at hi⟩
  | cons i0 l=>
   simp only [List.isEmpty_cons,cond_false] at q2
   refine ⟨fun e=>(by cases e),fun i hi=>?_⟩
   obtain ⟨r1,r2⟩:=aT (Fl q2 i hi)
   rw [cz] at r2
   exact dq.mk r1 r2
 ·rename_i FQ WV
  split
  ·rename_i c s' h1 h2
   first
    | exact absurd h2 (FQ c s' h1)
    | exact absurd h2 (WV c s' h1)
  ·rename_i c s0 left g h1 h2 h3
   first
    | exact absurd h3 (WV c s0 left g h1 h2)
    | exact absurd h3 (FQ c s0 left g h1 h2)
  ·exact wX hc hr h
theorem wY (hc:mB E call) (hr:sG E kL) {ops:List Oper} {o:Oper} {K:St→Option X} (h:zk E fz call kL f ops o K s=some x):fa E f ops o (fun s=>K s=some x) s:=by
 unfold zk at h
 unfold fa
 split at h
 ·rename_i c s' hz
  rw [hz]
  obtain ⟨h1,h2⟩:=aT h
  exact ⟨h1,oX hc hr h2⟩
 ·rename_i hz
  rw [hz]
  exact oX hc hr h
theorem vD (hc:mB E call) (hr:sG E kL) {ops:List Oper}:∀ {l:List Oper} {K:St→Option X} {s:St},Jw E fz call kL f ops l K s=some x→nB E f ops l (fun s=>K s=some x) s
 | [],_,_,h=>h
 | o :: l,K,s,h=>by
  unfold Jw at h
  unfold nB
  refine lg (wY hc hr h) fun s' h'=>?_
  unfold xF
  split at h'
  ·rename_i s2 hp
   rw [hp]
   exact vD hc hr h'
  ·cases h'
theorem iO (hc:mB E call) (hr:sG E kL) (hm:sF eN) {ops:List Oper}:∀ {T:DT} {K:St→Option X} {s:St} {x:X},oT E fz call kL eN f ops T K s=some x→rb E f ops T (fun s=>K s=some x) s
 | .done,_,_,_,h=>h
 | .stop,_,_,_,_=>trivial
 | .take j C T,K,s,x,h=>by
  unfold oT at h
  unfold rb
  split at h
  ·rename_i hk
   rw [hk]
   exact bV (jD hc hr h) fun s' h'=>iO hc hr hm h'
  ·cases h
 | .al j W T,K,s,x,h=>by
  unfold oT at h
  unfold rb
  split at h
  ·rename_i hk
   obtain ⟨h1,h2⟩:=aT h
   rw [hk]
   exact ⟨h1,bV (jD hc hr h2) fun s' h'=>iO hc hr hm h'⟩
  ·cases h
 | .br i re C T more,K,s,x,h=>by
  have first:∀ {x:X},(match nth ops i with
   | some oi=>nR E fz call kL f ops oi (fun s'=>bif ov E f ops re s' then oT E fz call kL eN f ops T K s' else none) s
   | none=>none)=some x→(match nth ops i with
   | some oi=>bU E f ops oi (fun s'=>xJ E f ops re s'∧rb E f ops T (fun s=>K s=some x) s') s
   | none=>False):=by
   intro x h
   split at h
   ·rename_i hk
    refine bV (jD hc hr h) fun s' h'=>?_
    obtain ⟨h1,h2⟩:=aT h'
    exact ⟨oW h1,iO hc hr hm h2⟩
   ·cases h
  unfold rb
  cases more with
  | stop=>exact ⟨first h,trivial⟩
  | done=>obtain ⟨h1,h2⟩:=hm _ _ _ h; exact ⟨first h1,iO (T:=.done) hc hr hm h2⟩
  | take a b c=>obtain ⟨h1,h2⟩:=hm _ _ _ h; exact ⟨first h1,iO hc hr hm h2⟩
  | br a b c d e=>obtain ⟨h1,h2⟩:=hm _ _ _ h; exact ⟨first h1,iO hc hr hm h2⟩
  | al a b c=>obtain ⟨h1,h2⟩:=hm _ _ _ h; exact ⟨first h1,iO hc hr hm h2⟩
end sound
end Go.Am
namespace Go.Am
open Go
section
variable {C:hJ} {ih:P4}
def rW (C:hJ) (ih:P4):Prop:=∀ (f:FuncId) (p:Nat) (c:Code) (X:Type) (eN:Option X→Option X→Option X),sF eN→∀ (K:Exit→St→Option X) (s:St) (x:X),
 bl (C.D.dt f) c=true→ih f p c X eN K s=some x→kh C.D.toEnv c (fun e s'=>K e s'=some x) s
theorem mC {X:Type}:sF (wV (X:=X)):=fun a b x h=>by
 unfold wV at h
 by_cases e:a=b
 ·rw [if_pos e] at h
  exact ⟨h,e ▸ h⟩
 ·rw [if_neg e] at h
  cases h
theorem kN (hs:rW C ih) {X:Type} {eN:Option X→Option X→Option X} (hm:sF eN):mB C.D.toEnv (xS C ih eN):=fun g args G K x h=>by
 unfold xS at h
 obtain ⟨eY,h⟩:=aT h
 split at h
 ·rename_i fn WW
  split at h
  ·rename_i b hb
   obtain ⟨hn,h⟩:=aT h
   have fin:∀ {K':AV→List GO→Option X},ih g 1 b X eN (Hj C.D.toEnv fn K') (St.init fn.ntmps args G)=some x→cH C.D.toEnv g args G (fun r G'=>K' r G'=some x):=by
    intro K' h
    refine cH.intro WW hb (by simpa using hn) ((hs g 1 b X eN hm _ _ x (C.D.K9 g fn b eY WW hb) h).mono fun e s' hq=>?_)
    have hq:=hq.1
    unfold Hj at hq
    unfold K6
    cases e <;> first | (cases hq; done) | skip
    all_goals (simp only at hq ⊢)
    all_goals (split at hq <;> first | (cases hq; done) | skip)
    all_goals (rename_i hl; rw [hl]; simp only)
    all_goals (split at hq <;> first | (cases hq; done) | skip)
    all_goals (rename_i Jl; rw [Jl]; exact hq)
   cases Tf:C.D.wG g 131072 with
   | true=>rw [Tf] at h; exact cH.YC (fin h)
   | false=>rw [Tf] at h; exact fin h
  ·cases h
 ·cases h
theorem AX (zn:∀ g e,C.Hh g=some e→aD C.D.toEnv g e) (hs:rW C ih) {X:Type} {eN:Option X→Option X→Option X} (hm:sF eN):mB C.D.toEnv (xT C ih eN):=fun g args G K x h=>by
 unfold xT at h
 split at h
 ·rename_i e he
  obtain ⟨a,ha,h⟩:=bind_some h
  obtain ⟨y,hy,h⟩:=bind_some h
  refine cH.gj (e.ps.pj ha).1 (((zn g e he a y hy) G).mono fun r G' hr=>?_)
  obtain ⟨rfl,rfl⟩:=hr
  exact h
 ·split at h
  ·rename_i e he
   split at h
   ·rename_i c r G' hf
    obtain ⟨hc,h⟩:=aT h
    subst hc
    refine (e.ok args G r G' hf).mono fun r' Lh hh=>?_
    obtain ⟨rfl,rfl⟩:=hh
    exact h
   ·cases h
  ·split at h
   ·rename_i e he
    obtain ⟨a,ha,h⟩:=bind_some h
    obtain ⟨y,hy,h⟩:=bind_some h
    refine cH.gj (e.ps.pj ha).1 ((e.ok a y hy G).mono fun r G' hr=>?_)
    obtain ⟨z,rfl,hr⟩:=hr
    exact (AT e.outs z hr).trans h
   ·exact kN hs hm g args G K x h
theorem AY {n:Nat}:∀ {l:List Tmp},Jx n l=true→∀ t∈l,t < n
 | [],_,t,ht=>by simp at ht
 | a :: l,h,t,ht=>by
  simp only [Jx,Bool.and_eq_true] at h
  rcases List.mem_cons.1 ht with rfl | ht
  ·exact jh h.1
  ·exact AY h.2 t ht
theorem CU (hs:rW C ih) {X:Type} {eN:Option X→Option X→Option X} (hm:sF eN):sG C.D.toEnv (Jy C ih eN):=fun id args G K x h=>by
 unfold Jy at h
 split at h
 ·rename_i p fp sl n ps py bd d hG
  obtain ⟨hc,h⟩:=aT h
  simp only [Bool.and_eq_true] at hc
  obtain ⟨⟨⟨h1,h2⟩,h3⟩,h4⟩:=hc
  refine j4.intro hG (Nat.eq_of_beq_eq_true h1) (AY h2) ((hs _ _ py X eN hm _ _ x h3 h).mono fun e s1 hq=>?_)
  have hq:=hq.1
  unfold y7
  cases e with
  | normal=>
   simp only at hq ⊢
   split at hq
   ·rename_i p' fn PY n' Rn Ju P2 d' UH
    rw [UH]
    simp only
    refine (hs _ _ bd X eN hm _ _ x h4 hq).mono fun e2 s2 nf=>?_
    have nf:CQ id K e2 s2=some x:=nf.1
    unfold CQ at nf
    unfold CJ
    split at nf
    ·rename_i Rd
     rw [Rd]
     cases e2 <;> first | (cases nf; done) | exact nf
    ·cases nf
   ·cases hq
  | _=>cases hq
 ·cases h
theorem kh.of {E:Env} {c:Code} {Q Q':Exit→St→Prop} {s:St} (h:kh E c Q s) (hq:∀ e s',Q e s'→aO s s'→Q' e s'):eV E c Q' s:=
 eV.mono h fun e s' hh=>hq e s' hh.1 hh.2
theorem qH {s s':St} {e:Exit}:∀ {outs:List (XK × b9)} {o:JT outs},kC s outs e s'=some o→∃ (t:b9) (v:t.ps.T),t.dec s s'=some v∧∀ (α:Type) (K:Exit→St→α),IR s outs o K=K e (t.st s v)
 | [],o,h=>by cases h
 | [x],o,h=>by
  obtain ⟨h1,h2⟩:=aT (show (bif x.1.is e then x.2.dec s s' else none)=some o from h)
  exact ⟨x.2,o,h2,fun _ K=>by rw [XK.DS h1]; rfl⟩
 | x :: y :: l,o,h=>by
  have h:(bif x.1.is e then (x.2.dec s s').bind fun v=>some (.inl v) else (kC s (y :: l) e s').bind fun o=>some (.inr o))=some o:=h
  cases hx:x.1.is e with
  | true=>
   rw [hx] at h
   obtain ⟨v,h1,h2⟩:=bind_some h
   cases h2
   exact ⟨x.2,v,h1,fun _ K=>by rw [XK.DS hx]; rfl⟩
  | false=>
   rw [hx] at h
   obtain ⟨v,h1,h2⟩:=bind_some h
   cases h2
   obtain ⟨t,u,k1,k2⟩:=qH h1
   exact ⟨t,u,k1,fun α K=>k2 α K⟩
theorem b9.nT (t:b9) (s:St) (v:t.ps.T):aO s (t.st s v):=by
 have h1:∀ (W:List Tmp) (b:aW),∃ pre,vf W b=pre++b:=fun W b=>by
  induction W with
  | nil=>exact ⟨[],rfl⟩
  | cons t W ih=>obtain ⟨p,hp⟩:=ih; exact ⟨.put t .none :: p,by simp [vf,hp]⟩
 have h2:∀ (ts:List Tmp) (l:List AV) (b:aW),∃ pre,nJ ts l b=pre++b:=fun ts=>by
  induction ts with
  | nil=>intro l b; exact ⟨[],by cases l <;> rfl⟩
  | cons t ts ih=>
   intro l b
   cases l with
   | nil=>exact ⟨[],rfl⟩
   | cons a l=>obtain ⟨p,hp⟩:=ih l b; exact ⟨.put t (.v a) :: p,by simp [nJ,hp]⟩
 have h3:∀ (bx:List (Nat × Nat)) (l:List AV) (b:cA),∃ pre,sB bx l b=pre++b:=fun bx=>by
  induction bx with
  | nil=>intro l b; exact ⟨[],rfl⟩
  | cons x bx ih=>
   obtain ⟨k,n⟩:=x
   intro l b
   obtain ⟨p,hp⟩:=ih (l.drop n) b
   exact ⟨(k,l.take n) :: p,by simp [sB,hp]⟩
 have h4:∀ (l:List (Tmp × Nat × Nat)) (b:aW),∃ pre,nK l b=pre++b:=fun l b=>by
  induction l with
  | nil=>exact ⟨[],rfl⟩
  | cons x l ih=>obtain ⟨t,k,o⟩:=x; obtain ⟨p,hp⟩:=ih; exact ⟨.put t (.lp k o) :: p,by simp [nK,hp]⟩
 obtain ⟨p1,e1⟩:=h1 t.W s.ae
 obtain ⟨p2,e2⟩:=h2 t.sl (t.oG v) (vf t.W s.ae)
 obtain ⟨p3,e3⟩:=h3 t.bx ((t.oG v).drop t.sl.length) s.boxes
 obtain ⟨p4,e4⟩:=h4 t.P0 (p2++(p1++s.ae))
 exact ⟨⟨p4++(p2++p1),by rw [show (t.st s v).ae=nK t.P0 (nJ t.sl (t.oG v) (vf t.W s.ae)) from rfl,e2,e1,e4,List.append_assoc,List.append_assoc]⟩,⟨p3,e3⟩,rfl⟩
theorem eV.Rz {E:Env} {c:Code} {s s1:St} {gh:List (Loc × Nat × TypeId)} {head:b9} {outs:List (XK × b9)} {rd:head.ps.T→Option (head.ps.T ⊕ JT outs)} {N:Nat} {v0:head.ps.T} {o:JT outs} {Q:Exit→St→Prop}
  (hg:Am.fM gh s=some s1) (h0:head.dec s1 s1=some v0) (hr:∀ v r,rd v=some r→kh E c (fun e s'=>sE s1 head outs e s'=some r) (head.st s1 v))
  (hl:aF rd N v0=some o) (hQ:∀ (t:b9) (v:t.ps.T) (e:Exit),(∀ (α:Type) (K:Exit→St→α),IR s1 outs o K=K e (t.st s1 v))→Q e (t.st s1 v)∧aO s (t.st s1 v)) :
  kh E (.loop c) Q s:=fun R0 w β a F Nc FV=>by
 obtain ⟨R,k1,k2,k3,_⟩:=il Nc hg
 have hf:bw R s1.ro F:=by rw [k3]; exact FV.mono k2.ext
 obtain ⟨i1,i2⟩:=b9.yM (aO.refl s1) k1 k1 (Step.refl R w β s1.boxes) h0
 refine j3 (fun m a' w'=>∃ v R' β',aF rd m v=some o∧aY E R' w' β' (head.st s1 v) a'∧Step R w β s1.boxes R' w' β' (head.st s1 v).boxes) ?_ ⟨v0,_,β,hl,i1,i2⟩
 rintro m a' w' ⟨v,R',β',hm,kA,jI⟩
 cases m with
 | zero=>cases hm
 | succ m=>
  obtain ⟨r,h1,h2⟩:=bind_some (show ((rd v).bind fun o=>Sum.elim (fun v'=>aF rd m v') (fun x=>some x) o)=some o from hm)
  refine wpIn_mono (hr v r h1 R' w' β' a' F kA (hf.mono jI.ext)) ?_
  rintro e a2 w2 ⟨s2,R2,β2,⟨hK,hx⟩,xC,CV,AR⟩
  have CW:aO s1 s2:=(head.nT s1 v).trans hx
  have FX:=jI.trans CV
  have out:∀ {u:JT outs},kC s1 outs e s2=some u→r=.inr u→PV E R0 w β s (fun e s'=>Q e s'∧aO s s') e a2 w2:=fun {u} hu hru=>by
   subst hru
   cases h2
   obtain ⟨t,v',q1,q2⟩:=qH hu
   obtain ⟨j1,j2⟩:=b9.yM CW k1 xC FX q1
   exact ⟨t.st s1 v',_,β2,hQ t v' e q2,j1,k2.trans j2,k3⟩
  cases e with
  | normal=>
   obtain ⟨v',q1,q2⟩:=bind_some (show ((head.dec s1 s2).bind fun v=>some (.inl v))=some r from hK)
   cases q2
   obtain ⟨j1,j2⟩:=b9.yM CW k1 xC FX q1
   exact ⟨m,Nat.lt_succ_self m,v',_,β2,h2,j1,j2⟩
  | exit i=>obtain ⟨u,q1,q2⟩:=bind_some (show ((kC s1 outs (.exit i) s2).bind fun o=>some (.inr o))=some r from hK); exact out q1 (Option.some.inj q2).symm
  | ret=>obtain ⟨u,q1,q2⟩:=bind_some (show ((kC s1 outs .ret s2).bind fun o=>some (.inr o))=some r from hK); exact out q1 (Option.some.inj q2).symm
  | goto i=>obtain ⟨u,q1,q2⟩:=bind_some (show ((kC s1 outs (.goto i) s2).bind fun o=>some (.inr o))=some r from hK); exact out q1 (Option.some.inj q2).symm
  | panic i=>obtain ⟨u,q1,q2⟩:=bind_some (show ((kC s1 outs (.panic i) s2).bind fun o=>some (.inr o))=some r from hK); exact out q1 (Option.some.inj q2).symm
  | outgrown=>obtain ⟨u,q1,q2⟩:=bind_some (show ((kC s1 outs .outgrown s2).bind fun o=>some (.inr o))=some r from hK); exact out q1 (Option.some.inj q2).symm
theorem eV.Nd {E:Env} {c:Code} {s s1:St} {gh:List (Loc × Nat × TypeId)} {head:b9} {outs:List (XK × b9)} {rd:(head.ps.T→Option (JT outs))→head.ps.T→Option (JT outs)} {N:Nat} {v0:head.ps.T} {o:JT outs} {Q:Exit→St→Prop}
  (hg:Am.fM gh s=some s1) (h0:head.dec s1 s1=some v0) (hr:∀ k v u,rd k v=some u→kh E c (fun e s'=>Hl s1 head outs k e s'=some u) (head.st s1 v))
  (hl:dQ rd N v0=some o) (hQ:∀ (t:b9) (v:t.ps.T) (e:Exit),(∀ (α:Type) (K:Exit→St→α),IR s1 outs o K=K e (t.st s1 v))→Q e (t.st s1 v)∧aO s (t.st s1 v)) :
  kh E (.loop c) Q s:=fun R0 w β a F Nc FV=>by
 obtain ⟨R,k1,k2,k3,_⟩:=il Nc hg
 have hf:bw R s1.ro F:=by rw [k3]; exact FV.mono k2.ext
 obtain ⟨i1,i2⟩:=b9.yM (aO.refl s1) k1 k1 (Step.refl R w β s1.boxes) h0
 refine j3 (fun m a' w'=>∃ v R' β',dQ rd m v=some o∧aY E R' w' β' (head.st s1 v) a'∧Step R w β s1.boxes R' w' β' (head.st s1 v).boxes) ?_ ⟨v0,_,β,hl,i1,i2⟩
 rintro m a' w' ⟨v,R',β',hm,kA,jI⟩
 cases m with
 | zero=>cases hm
 | succ m=>
  refine wpIn_mono (hr (dQ rd m) v o hm R' w' β' a' F kA (hf.mono jI.ext)) ?_
  rintro e a2 w2 ⟨s2,R2,β2,⟨hK,hx⟩,xC,CV,AR⟩
  have CW:aO s1 s2:=(head.nT s1 v).trans hx
  have FX:=jI.trans CV
  have out:kC s1 outs e s2=some o→PV E R0 w β s (fun e s'=>Q e s'∧aO s s') e a2 w2:=fun hu=>by
   obtain ⟨t,v',q1,q2⟩:=qH hu
   obtain ⟨j1,j2⟩:=b9.yM CW k1 xC FX q1
   exact ⟨t.st s1 v',_,β2,hQ t v' e q2,j1,k2.trans j2,k3⟩
  cases e with
  | normal=>
   obtain ⟨v',q1,q2⟩:=bind_some (show (head.dec s1 s2).bind (dQ rd m)=some o from hK)
   obtain ⟨j1,j2⟩:=b9.yM CW k1 xC FX q1
   exact ⟨m,Nat.lt_succ_self m,v',_,β2,q2,j1,j2⟩
  | exit i=>exact out hK
  | ret=>exact out hK
  | goto i=>exact out hK
  | panic i=>exact out hK
  | outgrown=>exact out hK
theorem eV.Nf {E:Env} {X:Type} {c:Code} {s s1:St} {gh:List (Loc × Nat × TypeId)} {head:b9} {K:Exit→St→Option X} {rd:(head.ps.T→Option X)→head.ps.T→Option X} {N:Nat} {v0:head.ps.T} {o:X}
  (hg:Am.fM gh s=some s1) (h0:head.dec s1 s1=some v0) (hr:∀ k v u,rd k v=some u→kh E c (fun e s'=>Hn s1 head K k e s'=some u) (head.st s1 v))
  (hl:dQ rd N v0=some o) :
  kh E (.loop c) (fun e s'=>K e s'=some o) s:=fun R0 w β a F Nc FV=>by
 obtain ⟨R,k1,k2,k3,_⟩:=il Nc hg
 have hf:bw R s1.ro F:=by rw [k3]; exact FV.mono k2.ext
 obtain ⟨i1,i2⟩:=b9.yM (aO.refl s1) k1 k1 (Step.refl R w β s1.boxes) h0
 refine j3 (fun m a' w'=>∃ v R' β',dQ rd m v=some o∧aY E R' w' β' (head.st s1 v) a'∧Step R w β s1.boxes R' w' β' (head.st s1 v).boxes) ?_ ⟨v0,_,β,hl,i1,i2⟩
 rintro m a' w' ⟨v,R',β',hm,kA,jI⟩
 cases m with
 | zero=>cases hm
 | succ m=>
  refine wpIn_mono (hr (dQ rd m) v o hm R' w' β' a' F kA (hf.mono jI.ext)) ?_
  rintro e a2 w2 ⟨s2,R2,β2,⟨hK,hx⟩,xC,CV,AR⟩
  have CW:aO s1 s2:=(head.nT s1 v).trans hx
  have FX:=jI.trans CV
  have out:K e s2=some o→PV E R0 w β s (fun e s'=>K e s'=some o∧aO s s') e a2 w2:=fun hu=>
   ⟨s2,R2,β2,⟨hu,(kg hg).trans CW⟩,xC,k2.trans FX,AR.trans k3⟩
  cases e with
  | normal=>
   obtain ⟨v',q1,q2⟩:=bind_some (show (head.dec s1 s2).bind (dQ rd m)=some o from hK)
   obtain ⟨j1,j2⟩:=b9.yM CW k1 xC FX q1
   exact ⟨m,Nat.lt_succ_self m,v',_,β2,q2,j1,j2⟩
  | exit i=>exact out hK
  | ret=>exact out hK
  | goto i=>exact out hK
  | panic i=>exact out hK
  | outgrown=>exact out hK
end
def oY (E:Env):List Bool→Code→(Exit→St→Prop)→St→Prop
 | [],_,Q,s=>Q .normal s
 | true :: k,.seq x y,Q,s=>kh E x (sq (oY E k y Q) Q) s
 | false :: k,.seq x _,Q,s=>oY E k x Q s
 | _ :: _,_,_,_=>False
def ki (E:Env):List Bool→Code→(Exit→St→Prop)→St→Prop
 | [],c,Q,s=>kh E c Q s
 | true :: k,.seq _ y,Q,s=>ki E k y Q s
 | false :: k,.seq x y,Q,s=>ki E k x (sq (kh E y Q) Q) s
 | _ :: _,_,_,_=>False
def D0 (F:Fence) (P:Program):List Bool→Code→(Exit→Act→World→Prop)→Act→World→Prop
 | [],c,Q,a,w=>c.wpIn F 0 P Q a w
 | true :: k,.seq _ y,Q,a,w=>D0 F P k y Q a w
 | false :: k,.seq x y,Q,a,w=>D0 F P k x (Exit.then (fun a' w'=>y.wpIn F 0 P Q a' w') Q) a w
 | _ :: _,_,_,_,_=>False
section UR
variable {E:Env} {s1:St} {R:ak} {w:World} {β:Nat→Nat} {F:Fence}
def At (E:Env) (s1:St) (R:ak) (w:World) (β:Nat→Nat) (s:St) (a:Act) (w':World):Prop:=
 ∃ R' β',aO s1 s∧aY E R' w' β' s a∧Step R w β s1.boxes R' w' β' s.boxes∧s.ro=s1.ro
theorem kh.at {c:Code} {Q:Exit→St→Prop} {s:St} {a:Act} {w':World} {Φ:Exit→Act→World→Prop} (hf:bw R s1.ro F) (h:kh E c Q s) (mR:At E s1 R w β s a w') (hQ:∀ e s' a' w',Q e s'→At E s1 R w β s' a' w'→Φ e a' w'):c.wpIn F 0 E.P Φ a w':=by
 obtain ⟨R',β',hx,hr,jI,bI⟩:=mR
 refine wpIn_mono (h R' w' β' a F hr (by rw [bI]; exact hf.mono jI.ext)) ?_
 rintro e a2 w2 ⟨s2,R2,β2,⟨hq,CW⟩,xC,CV,AR⟩
 exact hQ e s2 a2 w2 hq ⟨R2,β2,hx.trans CW,xC,jI.trans CV,AR.trans bI⟩
theorem ki.at (hf:bw R s1.ro F):∀ (k:List Bool) (c:Code) {Q:Exit→St→Prop} {s:St} {a:Act} {w':World} {Φ:Exit→Act→World→Prop},ki E k c Q s→At E s1 R w β s a w'→(∀ e s' a' w',Q e s'→At E s1 R w β s' a' w'→Φ e a' w')→D0 F E.P k c Φ a w'
 | [],c,Q,s,a,w',Φ,h,mR,hQ=>kh.at hf h mR hQ
 | true :: k,c,Q,s,a,w',Φ,h,mR,hQ=>by
  cases c with
  | seq x y=>exact ki.at hf k y h mR hQ
  | _=>exact h.elim
 | false :: k,c,Q,s,a,w',Φ,h,mR,hQ=>by
  cases c with
  | seq x y=>
   refine ki.at hf k x (Q:=sq (kh E y Q) Q) h mR fun e s' a' w' hq pD=>?_
   cases e with
   | normal=>exact kh.at hf hq pD hQ
   | _=>exact hQ _ s' a' w' hq pD
  | _=>exact h.elim
theorem oY.at (hf:bw R s1.ro F):∀ (k:List Bool) (c:Code) {Q:Exit→St→Prop} {s:St} {a:Act} {w':World} {Φ:Exit→Act→World→Prop},oY E k c Q s→At E s1 R w β s a w' →
  (∀ s' a' w',Q .normal s'→At E s1 R w β s' a' w'→D0 F E.P k c Φ a' w')→(∀ e s' a' w',e≠.normal→Q e s'→At E s1 R w β s' a' w'→Φ e a' w')→c.wpIn F 0 E.P Φ a w'
 | [],c,Q,s,a,w',Φ,h,mR,hS,hQ=>hS s a w' h mR
 | true :: k,c,Q,s,a,w',Φ,h,mR,hS,hQ=>by
  cases c with
  | seq x y=>
   refine wpIn_seq (kh.at hf (show kh E x (sq (oY E k y Q) Q) s from h) mR fun e s' a' w' hq pD=>?_)
   cases e with
   | normal=>exact oY.at hf k y hq pD hS hQ
   | exit i=>exact hQ _ s' a' w' (by simp) hq pD
   | ret=>exact hQ _ s' a' w' (by simp) hq pD
   | goto i=>exact hQ _ s' a' w' (by simp) hq pD
   | panic i=>exact hQ _ s' a' w' (by simp) hq pD
   | outgrown=>exact hQ _ s' a' w' (by simp) hq pD
  | _=>exact h.elim
 | false :: k,c,Q,s,a,w',Φ,h,mR,hS,hQ=>by
  cases c with
  | seq x y=>
   refine wpIn_seq (oY.at hf k x (Q:=Q) h mR hS fun e s' a' w' cM hq pD=>?_)
   cases e with
   | normal=>exact absurd rfl cM
   | exit i=>exact hQ _ s' a' w' cM hq pD
   | ret=>exact hQ _ s' a' w' cM hq pD
   | goto i=>exact hQ _ s' a' w' cM hq pD
   | panic i=>exact hQ _ s' a' w' cM hq pD
   | outgrown=>exact hQ _ s' a' w' cM hq pD
  | _=>exact h.elim
end UR
theorem eV.JA {E:Env} {b:Code} {s s1:St} {gh:List (Loc × Nat × TypeId)} {head:b9} {outs:List (XK × b9)} {pre:St→Option (head.ps.T ⊕ JT outs)} {rd:head.ps.T→Option (head.ps.T ⊕ JT outs)} {N:Nat} {k:List Bool} {r0:head.ps.T ⊕ JT outs} {o:JT outs} {Q:Exit→St→Prop}
  (hg:Am.fM gh s=some s1) (h0:pre s1=some r0)
  (hp:∀ s2 r,pre s2=some r→oY E k b (fun e s'=>sE s1 head outs e s'=some r) s2)
  (hr:∀ v r,rd v=some r→ki E k b (fun e s'=>xR pre (sE s1 head outs) e s'=some r) (head.st s1 v))
  (hl:Sum.elim (fun v=>aF rd N v) (fun x=>some x) r0=some o) (hQ:∀ (t:b9) (v:t.ps.T) (e:Exit),(∀ (α:Type) (K:Exit→St→α),IR s1 outs o K=K e (t.st s1 v))→Q e (t.st s1 v)∧aO s (t.st s1 v)) :
  kh E (.loop b) Q s:=fun R0 w β a F Nc FV=>by
 obtain ⟨R,k1,k2,k3,_⟩:=il Nc hg
 have hf:bw R s1.ro F:=by rw [k3]; exact FV.mono k2.ext
 refine j3 (fun n a' w'=>∃ s2 r,pre s2=some r∧Sum.elim (fun v=>aF rd n v) (fun x=>some x) r=some o∧At E s1 R w β s2 a' w') ?_ ⟨s1,r0,h0,hl,R,β,aO.refl s1,k1,Step.refl _ _ _ _,rfl⟩
 rintro n a' w' ⟨s2,r,Rh,Tg,mR⟩
 -- a way out
 have out:∀ {e:Exit} {s3:St} {a3:Act} {w3:World} {r:head.ps.T ⊕ JT outs} {n:Nat},e≠.normal→sE s1 head outs e s3=some r→Sum.elim (fun v=>aF rd n v) (fun x=>some x) r=some o→At E s1 R w β s3 a3 w3→PV E R0 w β s (fun e s'=>Q e s'∧aO s s') e a3 w3:=fun {e s3 a3 w3 r n} cM hK Tg mR=>by
  obtain ⟨R3,β3,US,Rb,Ng,UT⟩:=mR
  have key:∀ {u:JT outs},kC s1 outs e s3=some u→r=.inr u→PV E R0 w β s (fun e s'=>Q e s'∧aO s s') e a3 w3:=fun {u} hu hru=>by
   subst hru
   obtain rfl:=Option.some.inj Tg
   obtain ⟨t,v',q1,q2⟩:=qH hu
   obtain ⟨j1,j2⟩:=b9.yM US k1 Rb Ng q1
   exact ⟨t.st s1 v',_,_,hQ t v' _ q2,j1,k2.trans j2,k3⟩
  cases e with
  | normal=>exact absurd rfl cM
  | exit i=>obtain ⟨u,q1,q2⟩:=bind_some (show ((kC s1 outs (.exit i) s3).bind fun o=>some (.inr o))=some r from hK); exact key q1 (Option.some.inj q2).symm
  | ret=>obtain ⟨u,q1,q2⟩:=bind_some (show ((kC s1 outs .ret s3).bind fun o=>some (.inr o))=some r from hK); exact key q1 (Option.some.inj q2).symm
  | goto i=>obtain ⟨u,q1,q2⟩:=bind_some (show ((kC s1 outs (.goto i) s3).bind fun o=>some (.inr o))=some r from hK); exact key q1 (Option.some.inj q2).symm
  | panic i=>obtain ⟨u,q1,q2⟩:=bind_some (show ((kC s1 outs (.panic i) s3).bind fun o=>some (.inr o))=some r from hK); exact key q1 (Option.some.inj q2).symm
  | outgrown=>obtain ⟨u,q1,q2⟩:=bind_some (show ((kC s1 outs .outgrown s3).bind fun o=>some (.inr o))=some r from hK); exact key q1 (Option.some.inj q2).symm
 refine oY.at hf k b (hp s2 r Rh) mR (fun s3 a3 w3 hK Nh=>?_) (fun e s3 a3 w3 cM hK Nh=>?_)
 ·obtain ⟨v,q1,q2⟩:=bind_some (show ((head.dec s1 s3).bind fun v=>some (.inl v))=some r from hK)
  obtain rfl:=Option.some.inj q2
  have zC:aF rd n v=some o:=Tg
  cases n with
  | zero=>cases zC
  | succ n=>
   obtain ⟨r',h1,h2⟩:=bind_some (show ((rd v).bind fun o=>Sum.elim (fun v'=>aF rd n v') (fun x=>some x) o)=some o from zC)
   obtain ⟨R3,β3,US,Rb,Ng,UT⟩:=Nh
   obtain ⟨j1,j2⟩:=b9.yM US k1 Rb Ng q1
   refine ki.at hf k b (hr v r' h1) ⟨_,_,head.nT s1 v,j1,j2,rfl⟩ fun e s4 a4 w4 P5 Fs=>?_
   cases e with
   | normal=>exact ⟨n,Nat.lt_succ_self n,s4,r',P5,h2,Fs⟩
   | exit i=>exact out (by simp) P5 h2 Fs
   | ret=>exact out (by simp) P5 h2 Fs
   | goto i=>exact out (by simp) P5 h2 Fs
   | panic i=>exact out (by simp) P5 h2 Fs
   | outgrown=>exact out (by simp) P5 h2 Fs
 ·have:=out cM hK Tg Nh
  cases e with
  | normal=>exact absurd rfl cM
  | _=>exact this
theorem pE {C:hJ} {ih:P4} (hs:rW C ih) {X:Type} {f:FuncId} {K:Exit→St→Option X}:∀ (k:List Bool) (q:Nat) (c:Code) (s:St) (x:X),bl (C.D.dt f) c=true→Hp ih wV f K k q c s=some x→oY C.D.toEnv k c (fun e s'=>K e s'=some x) s
 | [],_,_,_,_,_,h=>h
 | true :: k,q,c,s,x,hd,h=>by
  cases c with
  | seq a b=>
   rw [bl,Bool.and_eq_true] at hd
   refine (hs f _ a X wV mC _ s x hd.1 h).of fun e s' hq hx=>?_
   cases e with
   | normal=>exact ⟨pE hs k (2 * q+1) b s' x hd.2 hq,hx⟩
   | _=>exact ⟨hq,hx⟩
  | _=>cases h
 | false :: k,q,c,s,x,hd,h=>by
  cases c with
  | seq a b=>
   rw [bl,Bool.and_eq_true] at hd
   exact pE hs k (2 * q) a s x hd.1 h
  | _=>cases h
theorem ki.mono {E:Env}:∀ (k:List Bool) (c:Code) {Q Q':Exit→St→Prop} {s:St},(∀ e s',Q e s'→Q' e s')→ki E k c Q s→ki E k c Q' s
 | [],c,Q,Q',s,hQ,h=>eV.mono h fun e s' hh=>⟨hQ e s' hh.1,hh.2⟩
 | true :: k,c,Q,Q',s,hQ,h=>by
  cases c with
  | seq x y=>exact ki.mono k y hQ h
  | _=>exact h.elim
 | false :: k,c,Q,Q',s,hQ,h=>by
  cases c with
  | seq x y=>
   refine ki.mono k x (Q:=sq (kh E y Q) Q) (Q':=sq (kh E y Q') Q') (fun e s' hq=>?_) h
   cases e with
   | normal=>exact eV.mono hq fun e s' hh=>⟨hQ e s' hh.1,hh.2⟩
   | _=>exact hQ _ s' hq
  | _=>exact h.elim
theorem pF {C:hJ} {ih:P4} (hs:rW C ih) {X:Type} {f:FuncId}:∀ (k:List Bool) (q:Nat) (c:Code) (K:Exit→St→Option X) (s:St) (x:X),bl (C.D.dt f) c=true→Jz ih wV f k q c K s=some x→ki C.D.toEnv k c (fun e s'=>K e s'=some x) s
 | [],_,c,K,s,x,hd,h=>hs f _ c X wV mC K s x hd h
 | true :: k,q,c,K,s,x,hd,h=>by
  cases c with
  | seq a b=>
   rw [bl,Bool.and_eq_true] at hd
   exact pF hs k (2 * q+1) b K s x hd.2 h
  | _=>cases h
 | false :: k,q,c,K,s,x,hd,h=>by
  cases c with
  | seq a b=>
   rw [bl,Bool.and_eq_true] at hd
   refine ki.mono k a (fun e s' hq=>?_) (pF hs k (2 * q) a _ s x hd.1 h)
   cases e with
   | normal=>exact hs f _ b X wV mC K s' x hd.2 hq
   | _=>exact hq
  | _=>cases h
theorem vE {C:hJ} (zn:∀ g e,C.Hh g=some e→aD C.D.toEnv g e) (n:Nat):rW C (ev C n):=by
 induction n using Nat.strongRecOn with
 | _ n ihn=>
 cases n with
 | zero=>intro f p c X eN _ K s x _ h; cases h
 | succ n=>
  have hs:=ihn n (Nat.lt_succ_self n)
  have plain:∀ (f:FuncId) (p:Nat) (c:Code) (X:Type) (eN:Option X→Option X→Option X),sF eN→∀ (K:Exit→St→Option X) (s:St) (x:X),((∃ b,c=.loop b)→C.CP f p=none) →
    bl (C.D.dt f) c=true→vx C (ev C n) f p c X eN K s=some x→kh C.D.toEnv c (fun e s'=>K e s'=some x) s:=by
   intro f p c X eN hm K s x jd hd h
   have xP:=AX zn hs hm
   have RA:=CU hs hm
   unfold vx at h
   cases c with
   | skip=>exact eV.skip ⟨h,aO.refl s⟩
   | label l=>exact eV.label ⟨h,aO.refl s⟩
   | exit id=>exact eV.exit ⟨h,aO.refl s⟩
   | ret=>exact eV.ret ⟨h,aO.refl s⟩
   | seq a b=>
    rw [bl,Bool.and_eq_true] at hd
    refine eV.seq ((hs f _ a X eN hm _ s x hd.1 h).of fun e s' hq hx=>?_)
    cases e with
    | normal=>exact (hs f _ b X eN hm _ s' x hd.2 hq).of fun e s2 nf CW=>⟨nf,hx.trans CW⟩
    | _=>exact ⟨hq,hx⟩
   | cond co a b=>
    rw [bl,Bool.and_eq_true] at hd
    simp only at h
    split at h
    ·rename_i t hb
     refine eV.cond hb (fun e=>?_) (fun e=>?_)
     ·subst e; exact hs f _ a X eN hm _ s x hd.1 h
     ·subst e; exact hs f _ b X eN hm _ s x hd.2 h
    ·cases h
   | block id c=>
    refine eV.block ((hs f _ c X eN hm _ s x hd h).of fun e s' hq hx=>?_)
    cases e with
    | exit iS=>
     simp only [Hi] at hq
     refine ⟨fun e=>?_,fun e=>?_⟩
     ·subst e; rw [pV] at hq; exact ⟨hq,hx⟩
     ·rw [ma e] at hq; exact ⟨hq,hx⟩
    | _=>exact ⟨hq,hx⟩
   | scope c=>
    refine eV.scope ((hs f _ c X eN hm _ s x hd h).of fun e s' hq hx=>?_)
    cases e with
    | goto l=>cases hq
    | _=>exact ⟨hq,hx⟩
   | region id ops dr=>
    cases dr with
    | false=>exact eV.region (f:=f) (xU (vD xP RA h))
    | true=>
     simp only at h
     rw [bl] at hd
     split at h
     ·rename_i pl hT
      rw [hT] at hd
      exact eV.draw (f:=f) hd (qG (iO xP RA hm h))
     ·cases h
   | loop b=>
    have Lp:=jd ⟨b,rfl⟩
    refine eV.loop (fun m s'=>m≤n+1∧ev C m f p (.loop b) X eN K s'=some x∧aO s s') ?_ (m:=n+1) ⟨Nat.le_refl _,?_,aO.refl s⟩
    ·rintro m s' ⟨Mj,hr,hx⟩
     cases m with
     | zero=>cases hr
     | succ m=>
      have kA:vy C (ev C m) f p (.loop b) X eN K s'=some x:=hr
      unfold vy at kA
      rw [Lp] at kA
      refine (ihn m (by omega) f _ b X eN hm _ s' x hd kA).of fun e s2 hq CW=>?_
      cases e with
      | normal=>exact ⟨m,Nat.lt_succ_self m,by omega,hq,hx.trans CW⟩
      | _=>exact ⟨hq,hx.trans CW⟩
    ·show vy C (ev C n) f p (.loop b) X eN K s=some x
     unfold vy
     rw [Lp]
     exact h
   | rangeFunc g ps py bd=>
    simp only at h
    split at h
    ·rename_i bI
     split at h
     ·rename_i hf first cap hg
      refine eV.rangeFunc (4096 * p+f) bI hg ((xP _ _ _ _ _ h).mono fun r G' hq=>?_)
      unfold Uy
      split at hq
      ·rename_i busy pending fn sl nn pp aa bb dd done CG
       rw [CG]
       simp only
       obtain ⟨h1,h2⟩:=aT hq
       refine ⟨by cases busy <;> cases done <;> simp_all,?_⟩
       have Jp:∀ (G:List GO) (m:List Nat),aO s ⟨s.ae,s.boxes,G,m,s.ro,s.n⟩:=fun _ _=>⟨⟨[],rfl⟩,⟨[],rfl⟩,rfl⟩
       split at h2
       ·rw [cz] at h2; exact ⟨h2,Jp _ _⟩
       ·rw [cz] at h2; exact eV.ret ⟨h2,Jp _ _⟩
       ·rw [cz] at h2; exact eV.exit ⟨h2,Jp _ _⟩
       ·cases h2
      ·cases hq
     ·cases h
    ·rename_i id bI
     split at h
     ·rename_i WH p0 WI WJ n0 WK WL WM d0 WN UU
      split at h
      ·rename_i hf first cap hg
       refine eV.CI (4096 * p+f) bI UU hg ((xP _ _ _ _ _ h).mono fun r G' hq=>?_)
       unfold M2
       split at hq
       ·rename_i busy pending fn sl nn pp aa bb dd done CG
        rw [CG]
        simp only
        obtain ⟨h1,h2⟩:=aT hq
        refine ⟨by cases busy <;> cases done <;> simp_all,?_⟩
        have Jp:∀ (G:List GO) (m:List Nat),aO s ⟨s.ae,s.boxes,G,m,s.ro,s.n⟩:=fun _ _=>⟨⟨[],rfl⟩,⟨[],rfl⟩,rfl⟩
        split at h2
        ·rw [cz] at h2; exact ⟨h2,Jp _ _⟩
        ·rw [cz] at h2; exact eV.ret ⟨h2,Jp _ _⟩
        ·rw [cz] at h2; exact eV.exit ⟨h2,Jp _ _⟩
        ·cases h2
       ·cases hq
      ·cases h
     ·cases h
   | _=>cases h
  intro f p c X eN hm K s x hd h
  change vy C (ev C n) f p c X eN K s=some x at h
  unfold vy at h
  split at h
  ·rename_i hc
   exact plain f p c X eN hm K s x (fun _=>hc) hd h
  ·rename_i ct hct
   split at h
   ·rename_i vF hc
    generalize qE (jk c []) vF=outs at h
    cases Gx:Hk c with
    | true=>rw [Gx] at h; cases h
    | false=>
    rw [Gx] at h
    obtain ⟨o,h1,h2⟩:=bind_some (show (vx C (ev C n) f p c (JT outs) wV (kC s outs) s).bind (fun o=>IR s outs o K)=some x from h)
    have hp:=plain f p c (JT outs) wV mC (kC s outs) s o (fun ⟨b,hb⟩=>by subst hb; cases Gx) hd h1
    refine eV.UL (s:=s) (Q':=fun e s'=>kC s outs e s'=some o) (eV.mono hp fun e s' hh=>⟨hh.2,hh.1⟩) fun e s' hq=>?_
    obtain ⟨t,v,q1,q2⟩:=qH hq
    exact ⟨t,v,q1,(q2 _ K).symm.trans h2,t.nT s v⟩
   ·rename_i gh vG vF hc
    split at h
    ·rename_i b
     split at h
     ·rename_i s1 hg
      generalize qE (jk b []) vF=outs at h
      generalize qD (jk b []) vG=head at h
      unfold Ln at h
      obtain ⟨v0,h0,h⟩:=bind_some h
      obtain ⟨o,hl,h⟩:=bind_some h
      refine eV.Rz hg h0 (fun v r hr=>hs f _ b _ wV mC _ _ r hd hr) hl fun t v e gS=>?_
      exact ⟨(gS _ K).symm.trans h,(kg hg).trans (t.nT s1 v)⟩
     ·cases h
    ·cases h
   ·rename_i k gh vG vF hc
    split at h
    ·rename_i b
     split at h
     ·rename_i s1 hg
      generalize qE (jk b []) vF=outs at h
      generalize qD (jk b []) vG=head at h
      unfold Ry at h
      obtain ⟨o,hl,h⟩:=bind_some h
      obtain ⟨r0,h0,hl⟩:=bind_some hl
      refine eV.JA hg h0 (fun s2 r hr=>pE hs k (2 * p) b s2 r hd hr) (fun v r hr=>pF hs k (2 * p) b _ _ r hd hr) hl fun t v e gS=>?_
      exact ⟨(gS _ K).symm.trans h,(kg hg).trans (t.nT s1 v)⟩
     ·cases h
    ·cases h
   ·rename_i gh vG vF hc
    split at h
    ·rename_i b
     split at h
     ·rename_i s1 hg
      generalize qE (jk b []) vF=outs at h
      generalize qD (jk b []) vG=head at h
      unfold Hm at h
      obtain ⟨v0,h0,h⟩:=bind_some h
      obtain ⟨o,hl,h⟩:=bind_some h
      refine eV.Nd hg h0 (fun k v u hu=>hs f _ b _ wV mC _ _ u hd hu) hl fun t v e gS=>?_
      exact ⟨(gS _ K).symm.trans h,(kg hg).trans (t.nT s1 v)⟩
     ·cases h
    ·cases h
   ·rename_i gh vG hc
    split at h
    ·rename_i b
     split at h
     ·rename_i s1 hg
      generalize qD (jk b []) vG=head at h
      unfold Ho at h
      obtain ⟨v0,h0,hl⟩:=bind_some h
      exact eV.Nf hg h0 (fun k v u hu=>hs f _ b _ wV mC _ _ u hd hu) hl
     ·cases h
    ·cases h
   ·cases h
end Go.Am
namespace Go.Am
open Go
noncomputable def hJ.fn (C:hJ) (n:Nat) (g:FuncId) (ps:aH) (p:ah) (x:ps.T):Option p.T:=
 xS C (ev C n) wV g (ps.enc x) [] (fun r _=>p.dec r)
theorem hJ.cS {C:hJ} (zn:∀ g e,C.Hh g=some e→aD C.D.toEnv g e) {n:Nat} {g:FuncId} {ps:aH} {p:ah} (h1:ps.under 0=true) (h2:p.under 0=true) :
  aD C.D.toEnv g ⟨ps,p,C.fn n g ps p⟩:=fun x y h=>by
 refine bk.mono (bk.of (p:=p) (Q:=fun z=>z=y) (ps.cQ x h1) h2 ((kN (vE zn n) mC g _ [] _ y h).mono fun r _ hr=>⟨y,hr,rfl⟩)) ?_
 rintro r ⟨z,rfl,rfl⟩
 rfl
noncomputable def hJ.WX (C:hJ) (n:Nat) (g:FuncId) (ps:aH) (outs:List RF) (x:ps.T):Option (XT outs):=
 xS C (ev C n) wV g (ps.enc x) [] (fun r G=>Fi G r outs)
theorem hJ.Ni {C:hJ} (zn:∀ g e,C.Hh g=some e→aD C.D.toEnv g e) {n:Nat} {g:FuncId} {ps:aH} {outs:List RF} (h1:ps.under 0=true) (h2:outs.all RF.under=true) :
  ∀ x y,C.WX n g ps outs x=some y→nP C.D.toEnv g (ps.enc x) outs (fun z=>z=y):=fun x y h=>
 nP.of (ps.cQ x h1) (List.all_eq_true.1 h2) ((kN (vE zn n) mC g _ [] _ y h).mono fun r G' hr=>⟨y,hr,rfl⟩)
theorem bk.env {E E':Env} {g:FuncId} {args:List AV} {Q:AV→Prop} (hP:E.P=E'.P) (hg:E.dK=E'.dK) (h:bk E g args Q) (uo:E.lo=E'.lo:=by rfl) (RB:E.gx=E'.gx:=by rfl):bk E' g args Q:=by
 have go:∀ {R:ak} {w:World} {x:Nat} {cs:List AV},kX E R w x cs↔kX E' R w x cs:=fun {R w x cs}=>by unfold kX; rw [RB]
 have yM:∀ {R:ak} {w:World} {G:List GO},dW E R w G↔dW E' R w G:=fun {R w G}=>
  ⟨fun h=>⟨h.len,h.obj,h.inj,h.wf,fun g cs hh=>go.1 (h.dK g cs (by rw [hg]; exact hh)),by rw [← uo]; exact h.lo⟩,fun h=>⟨h.len,h.obj,h.inj,h.wf,fun g cs hh=>go.2 (h.dK g cs (by rw [← hg]; exact hh)),by rw [uo]; exact h.lo⟩⟩
 intro G
 obtain ⟨h1,h2⟩:=h G
 rw [hP] at h1 h2
 refine ⟨h1,fun R w cs hr hl=>(h2 R w cs (yM.2 hr) hl).mono fun e w' he=>?_⟩
 cases e with
 | returned c=>obtain ⟨r,G',R',k1,k2,k3,k4⟩:=he; exact ⟨r,G',R',k1,k2,yM.1 k3,k4⟩
 | panicked c=>exact he
 | outgrown=>exact he
theorem bk.more {E E':Env} {g:FuncId} {args:List AV} {Q:AV→Prop} (hP:E.P=E'.P) (hg:∀ g cs,E.dK g=some cs→E'.dK g=some cs) (h:bk E g args Q) (uo:E.lo=E'.lo:=by rfl) (RB:E.gx=fun _=>false:=by rfl):bk E' g args Q:=by
 intro G
 obtain ⟨h1,h2⟩:=h G
 rw [hP] at h1 h2
 refine ⟨h1,fun R w cs hr hl=>(h2 R w cs ⟨hr.len,hr.obj,hr.inj,hr.wf,fun g cs hh=>⟨(hr.dK g cs (hg g cs hh)).1,fun hx=>by rw [RB] at hx; cases hx⟩,by rw [uo]; exact hr.lo⟩ hl).mono fun e w' he=>?_⟩
 cases e with
 | returned c=>
  obtain ⟨r,G',R',k1,k2,k3,k4⟩:=he
  exact ⟨r,G',R',k1,k2,⟨k3.len,k3.obj,k3.inj,k3.wf,fun g cs hh=>(hr.dK g cs hh).mono k4.ext,by rw [← uo]; exact k3.lo⟩,k4⟩
 | panicked c=>exact he
 | outgrown=>exact he
def Ft:List (Nat × bf)→FuncId→Option bf
 | [],_=>none
 | (a,e) :: l,g=>bif Nat.beq a g then some e else Ft l g
theorem bD {E:Env}:∀ {l:List (Nat × bf)},(∀ a e,(a,e)∈l→aD E a e)→∀ g e,Ft l g=some e→aD E g e
 | [],_,g,e,h=>by cases h
 | (a,x) :: l,hl,g,e,h=>by
  unfold Ft at h
  cases hb:Nat.beq a g with
  | true=>
   rw [hb] at h
   cases h
   rw [← Nat.eq_of_beq_eq_true hb]
   exact hl a _ (by simp)
  | false=>
   rw [hb] at h
   exact bD (fun a e hm=>hl a e (by simp [hm])) g e h
def Lq:List (Nat × cR)→Nat→Option cR
 | [],_=>none
 | (a,c) :: l,p=>bif Nat.beq a p then some c else Lq l p
def Lr:List (Nat × List (Nat × cR))→FuncId→Nat→Option cR
 | [],_,_=>none
 | (a,c) :: l,g,p=>bif Nat.beq a g then Lq c p else Lr l g p
def D1:Option Unit→Option Unit→Option Unit
 | some _,some _=>some ()
 | _,_=>none
theorem CX:sF D1:=fun a b x h=>by
 cases a <;> cases b <;> first | (cases h; done) | exact ⟨rfl,rfl⟩
theorem ck {C:hJ} (zn:∀ g e,C.Hh g=some e→aD C.D.toEnv g e) {n:Nat} {g:FuncId} {args:List AV} {p:ah} {ok:p.T→Bool} (h1:aE 0 args=true) (h2:p.under 0=true)
  (h:xS C (ev C n) D1 g args [] (fun r _=>bif p.fits r&&ok (p.ba r) then some () else none)=some ()):bk C.D.toEnv g args (fun r=>∃ y,r=p.enc y∧ok y=true):=
 bk.of (p:=p) (Q:=fun y=>ok y=true) h1 h2 ((kN (vE zn n) CX g args [] _ () h).mono fun r _ hr=>by
  obtain ⟨k,_⟩:=aT hr
  rw [Bool.and_eq_true] at k
  exact ⟨p.ba r,by simp [ah.dec,k.1],k.2⟩)
end Go.Am
namespace Go.Am
open Go
def pG (w:World):ak:=⟨fun b _=>b < w.heap.size,[]⟩
mutual
def ah.wf:(p:ah)→p.T→Prop
 | .int k,(n:Int)=>k.min≤n∧n≤k.max
 | .bool,_=>True
 | .str,(s:List UInt8)=>s.length≤maxLen
 | .agg ps,x=>ps.wf x
 | .bh ps,x=>ps.wf x
 | .list _ p,(xs:List p.T)=>xs.length≤maxLen∧∀ x∈xs,p.wf x
 | .own _ _ p,(xs:List p.T)=>xs.length≤maxLen∧∀ x∈xs,p.wf x
 | .aX _ _ p,(x:Nat × List p.T)=>x.2.length≤maxLen∧∀ y∈x.2,p.wf y
 | .oH _,_=>True
 | .two _ _,_=>True
def aH.wf:(ps:aH)→ps.T→Prop
 | .nil,_=>True
 | .cons p .nil,x=>p.wf x
 | .cons p (.cons q ps),x=>p.wf x.1∧(aH.cons q ps).wf x.2
end
def kj:List ah→aH
 | []=>.nil
 | p :: l=>.cons p (kj l)
def Fu {β:Type} (g:β→Option (List ah)):List β→Option (List ah)
 | []=>some []
 | x :: l=>match g x,Fu g l with
  | some a,some b=>some (a++b)
  | _,_=>none
def qI {β:Type} (off len:β→Nat):Nat→List β→Option Nat
 | o,[]=>some o
 | o,x :: l=>bif Nat.beq (off x) o then qI off len (o+len x) l else none
def isSome (n:Nat):Option Nat→Bool
 | some m=>Nat.beq m n
 | none=>false
def qJ (ag:Bool) (ps:List ah):Option ah:=match ag,ps with
 | true,ps=>some (.agg (kj ps))
 | false,[p]=>some p
 | _,_=>none
def Fv (P:Program):Nat→TypeId→Option (List ah)
 | 0,_=>none
 | n+1,t=>match P.underlying t with
  | some .bool=>some [.bool]
  | some (.int k)=>some [.int k]
  | some .string=>some [.str]
  | some (.slice e)=>match Fv P n e,P.underlying e with
   | some ps,some u=>match qJ (Go.Am.iV u) ps with
    | some pe=>bif Nat.blt 0 (P.cellsOf e) then some [.list (P.cellsOf e) pe] else none
    | none=>none
   | _,_=>none
  | some (.struct fs)=>bif isSome (P.cellsOf t) (qI Field.offset (fun f=>P.cellsOf f.type) 0 fs.toList) then Fu (fun f=>Fv P n f.type) fs.toList else none
  | some (.array m e)=>bif isSome (P.cellsOf t) (qI (fun i=>i * P.cellsOf e) (fun _=>P.cellsOf e) 0 (List.range m)) then Fu (fun _=>Fv P n e) (List.range m) else none
  | _=>none
def UW (a:AV):Prop:=a.aP=true∧a.cells=[a]∧a.closed=true
def pH:List ah→List AV→Prop
 | [],[]=>True
 | p :: ps,a :: kO=>p.fits a=true∧(p.wf (p.ba a)∧UW a)∧pH ps kO
 | _,_=>False
theorem pH.append:∀ {ps qs:List ah} {kO bs:List AV},pH ps kO→pH qs bs→pH (ps++qs) (kO++bs)
 | [],_,[],_,_,h=>h
 | _ :: _,_,_ :: _,_,k,h=>⟨k.1,k.2.1,pH.append k.2.2 h⟩
 | [],_,_ :: _,_,h,_=>h.elim
 | _ :: _,_,[],_,h,_=>h.elim
theorem pH.mk:∀ {ps:List ah} {kO:List AV},pH ps kO→(kj ps).fits kO=true∧(kj ps).wf ((kj ps).ba kO)
 | [],[],_=>⟨rfl,trivial⟩
 | [p],[a],h=>⟨by
   change (p.fits a&&(List.isEmpty ([]:List AV)))=true
   rw [h.1]
   rfl,h.2.1.1⟩
 | p :: q :: ps,a :: kO,h=>by
  obtain ⟨h1,h2⟩:=pH.mk (ps:=q :: ps) h.2.2
  refine ⟨?_,h.2.1.1,h2⟩
  change (p.fits a&&(kj (q :: ps)).fits kO)=true
  rw [h.1,h1]
  rfl
 | [],_ :: _,h=>h.elim
 | _ :: _,[],h=>h.elim
 | [_],_ :: _ :: _,h=>h.2.2.elim
theorem AZ {ag:Bool} {ps:List ah} {pe:ah} (h:qJ ag ps=some pe) {kO:List AV} (hf:pH ps kO) :
  ∃ e,(if ag then e=.agg kO else kO=[e])∧pe.fits e=true∧pe.wf (pe.ba e):=by
 unfold qJ at h
 split at h
 ·cases h
  obtain ⟨h1,h2⟩:=hf.mk
  exact ⟨.agg kO,rfl,h1,h2⟩
 ·rename_i p
  cases h
  match kO,hf with
  | [a],hf=>exact ⟨a,rfl,hf.1,hf.2.1.1⟩
  | [],hf=>exact hf.elim
  | _ :: _ :: _,hf=>exact hf.2.2.elim
 ·cases h
theorem D2:∀ {ps:List ah} {kO:List AV},pH ps kO→∀ a∈kO,a.aP=true∧a.cells=[a]∧a.closed=true
 | [],[],_,a,ha=>by simp at ha
 | _ :: _,b :: kO,hf,a,ha=>by
  rcases List.mem_cons.1 ha with rfl | ha
  ·exact hf.2.1.2
  ·exact D2 hf.2.2 a ha
 | [],_ :: _,h,_,_=>h.elim
 | _ :: _,[],h,_,_=>h.elim
theorem D3 {pe:ah}:∀ {es:List AV},(∀ x∈es,pe.fits x=true∧pe.wf (pe.ba x))→allFit pe.fits es=true∧∀ x∈es.map pe.ba,pe.wf x
 | [],_=>⟨rfl,by simp⟩
 | a :: es,h=>by
  obtain ⟨h1,h2⟩:=D3 (es:=es) fun x hx=>h x (by simp [hx])
  refine ⟨by simp only [allFit,Bool.and_eq_true]; exact ⟨(h a (by simp)).1,h1⟩,fun x hx=>?_⟩
  rcases List.mem_cons.1 hx with rfl | hx
  ·exact (h a (by simp)).2
  ·exact h2 x hx
section read
variable {H:Type} {enc:TypeId × Value→H} {P:Program} {w:World} {R:ak} {base:Nat} {spare:Nat→Bool} {held:Bool}
theorem kl {α β:Type} {f:α→Option β} {x:α} {l:List α} {r:List β} (h:(x :: l).mapM f=some r):∃ y ys,f x=some y∧l.mapM f=some ys∧r=y :: ys:=by
 rw [List.mapM_cons] at h
 cases hx:f x with
 | none=>rw [hx] at h; cases h
 | some y=>
  rw [hx] at h
  cases hl:l.mapM f with
  | none=>rw [hl] at h; cases h
  | some ys=>rw [hl] at h; cases h; exact ⟨y,ys,rfl,rfl,rfl⟩
theorem vH {β:Type} {off len:β→Nat} {g:β→Option (List ah)} {cs:List Value} {f:β→Option (DataW H × List MemPlace)}
  (hf:∀ x ps y,g x=some ps→f x=some y→∃ kO,aI R w kO ((cs.drop (off x)).take (len x))∧pH ps kO∧∀ v∈(cs.drop (off x)).take (len x),v.oneCell'=true) :
  ∀ {L:List β} {o m:Nat} {ps:List ah} {ys:List (DataW H × List MemPlace)},qI off len o L=some m→Fu g L=some ps→L.mapM f=some ys →
   o≤m∧∃ kO,aI R w kO ((cs.drop o).take (m - o))∧pH ps kO∧∀ v∈(cs.drop o).take (m - o),v.oneCell'=true
 | [],o,m,ps,ys,ht,hp,_=>by
  simp only [qI] at ht
  simp only [Fu] at hp
  cases ht; cases hp
  exact ⟨Nat.le_refl _,[],by simpa using aI.nil,trivial,by simp⟩
 | x :: L,o,m,ps,ys,ht,hp,hm=>by
  unfold qI at ht
  cases hb:Nat.beq (off x) o with
  | false=>rw [hb] at ht; cases ht
  | true=>
   rw [hb] at ht
   have hb:=Nat.eq_of_beq_eq_true hb
   unfold Fu at hp
   split at hp
   ·rename_i pa pb h1 h2
    cases hp
    obtain ⟨y,EB,k1,k2,rfl⟩:=kl hm
    obtain ⟨kO,q1,q2,q3⟩:=hf x pa y h1 k1
    obtain ⟨hle,bs,r1,r2,r3⟩:=vH hf (show qI off len (o+len x) L=some m from ht) h2 k2
    have e:(cs.drop o).take (m - o)=(cs.drop (off x)).take (len x)++(cs.drop (o+len x)).take (m - (o+len x)):=by
     rw [hb,show m - o=len x+(m - (o+len x)) by omega,List.take_add,List.drop_drop]
    rw [e]
    refine ⟨by omega,kO++bs,q1.append r1,q2.append r2,fun v hv=>?_⟩
    rcases List.mem_append.1 hv with hv | hv
    ·exact q3 v hv
    ·exact r3 v hv
   ·cases hp
theorem lF {α β:Type} {f:α→Option β}:∀ {l:List α} {r:List β},l.mapM f=some r→∀ (i:Nat) (x:α),l[i]?=some x→∃ y,r[i]?=some y∧f x=some y
 | [],r,_,i,x,hx=>by simp at hx
 | a :: l,r,h,i,x,hx=>by
  obtain ⟨y,ys,h1,h2,rfl⟩:=kl h
  cases i with
  | zero=>simp at hx; subst hx; exact ⟨y,by simp,h1⟩
  | succ i=>obtain ⟨z,h3,h4⟩:=lF h2 i x (by simpa using hx); exact ⟨z,by simpa using h3,h4⟩
theorem sH {α β:Type} {f:α→Option β}:∀ {l:List α} {r:List β},l.mapM f=some r→r.length=l.length
 | [],r,h=>by simp at h; subst h; rfl
 | a :: l,r,h=>by
  obtain ⟨y,ys,h1,h2,rfl⟩:=kl h
  simp [sH h2]
theorem JB {a:Addr} {v:Value} (h:w.cell? a=some v):a.block < w.heap.size:=by
 unfold World.cell? at h
 split at h
 ·rename_i hb; exact a8 hb
 ·cases h
theorem xV {e:TypeId} {ps:List ah} {pe:ah} {ag:Bool} {qK:Nat} (hp:∀ (cs:List Value) (y:DataW H × List MemPlace),DataW.trod enc P w base spare held qK e cs=some y→∃ kO,aI (pG w) w kO cs∧pH ps kO∧∀ v∈cs,v.oneCell'=true) (he:qJ ag ps=some pe) {b off len:Nat} {r:List (DataW H × List MemPlace)}
  (h:(List.range len).mapM (fun i=>(w.cells? base ((⟨b,off,none⟩:Addr).add (i * P.cellsOf e)) (P.cellsOf e)).bind (DataW.trod enc P w base spare held qK e))=some r) :
  ∀ (m i:Nat),i+m=len→∃ es,gl (pG w) w b (off+i * P.cellsOf e) (P.cellsOf e) es∧es.length=m∧∀ x∈es,pe.fits x=true∧pe.wf (pe.ba x)
 | 0,i,_=>⟨[],.nil,rfl,by simp⟩
 | m+1,i,hi=>by
  obtain ⟨es,h1,h2,h3⟩:=xV hp he h m (i+1) (by omega)
  obtain ⟨y,_,hy⟩:=lF h i i (by rw [List.getElem?_range (by omega)])
  obtain ⟨cs,hc,hy⟩:=bind_some hy
  obtain ⟨kO,q1,q2,q3⟩:=hp _ _ hy
  obtain ⟨x,hx,f1,f2⟩:=AZ he q2
  have kY:w.cells? base ((⟨b,off,none⟩:Addr).add (i * P.cellsOf e)) (P.cellsOf e)=some cs:=hc
  unfold World.cells? at kY
  split at kY
  ·have hlen:=sH kY
   rw [List.length_range] at hlen
   have jd:x.cells=kO∧x.aP=true∧x.closed=true:=by
    have qw:=D2 q2
    cases ag with
    | true=>
     simp only [if_true] at hx
     subst hx
     refine ⟨rfl,rfl,?_⟩
     show aR kO=true
     clear h1 h2 h3 q1 q2 f1 f2
     induction kO with
     | nil=>rfl
     | cons a kO ih=>simp only [aR,Bool.and_eq_true]; exact ⟨(qw a (by simp)).2.2,ih (fun z hz=>qw z (by simp [hz]))⟩
    | false=>
     simp only [Bool.false_eq_true,if_false] at hx
     subst hx
     obtain ⟨k1,k2,k3⟩:=qw x (by simp)
     exact ⟨k2,k1,k3⟩
   have jw:∀ j v,cs[j]?=some v→w.cell? ⟨b,off+i * P.cellsOf e+j,none⟩=some v:=fun j v hv=>by
    have hj:j < P.cellsOf e:=by have:=(List.getElem?_eq_some_iff.1 hv).1; omega
    obtain ⟨v',k1,k2⟩:=lF kY j j (by rw [List.getElem?_range hj])
    rw [hv] at k1
    cases k1
    rw [cn,cn] at k2
    exact k2
   refine ⟨x :: es,.cons ?_ jd.2.1 jd.2.2 ?_ ?_,by simp [h2],fun z hz=>?_⟩
   ·rw [jd.1,q1.length,hlen]
   ·rw [jd.1]
    refine ew.make q1 q3 jw (fun j hj=>?_)
    have IH:j < cs.length:=by rw [← q1.length]; exact hj
    exact JB (jw j cs[j] (List.getElem?_eq_getElem IH))
   ·rw [show off+i * P.cellsOf e+P.cellsOf e=off+(i+1) * P.cellsOf e by rw [Nat.add_mul]; omega]
    exact h1
   ·rcases List.mem_cons.1 hz with rfl | hz
    ·exact ⟨f1,f2⟩
    ·exact h3 z hz
  ·cases kY
theorem qL (zF:∀ b,spare b=true):∀ (n:Nat) {t:TypeId} {ps:List ah},Fv P n t=some ps→∀ {qK:Nat} {cs:List Value} {y:DataW H × List MemPlace},DataW.trod enc P w base spare held qK t cs=some y →
  ∃ kO,aI (pG w) w kO cs∧pH ps kO∧∀ v∈cs,v.oneCell'=true
 | 0,_,_,h,_,_,_,_=>by cases h
 | n+1,t,ps,h,0,_,_,hy=>by cases hy
 | n+1,t,ps,h,qK+1,cs,y,hy=>by
  unfold Fv at h
  unfold DataW.trod at hy
  split at h
  ·rename_i hu
   cases h
   rw [hu] at hy
   cases cs with
   | nil=>cases hy
   | cons v l=>
    cases l with
    | cons v2 l=>(cases v <;> first | (cases hy; done) | (rename_i a; cases a <;> cases hy; done) | (rename_i a b; cases a <;> cases hy; done) | (rename_i a b c; cases a <;> first | (cases hy; done) | (cases b <;> first | (cases hy; done) | (cases c <;> cases hy))))
    | nil=>
     cases v with
     | bool b=>exact ⟨[.bool b],.one (.bool b),⟨rfl,⟨trivial,rfl,rfl,rfl⟩,trivial⟩,by simp [Value.oneCell']⟩
     | pointer a=>cases a <;> cases hy
     | slice a b c=>cases a <;> first | (cases hy; done) | (cases b <;> first | (cases hy; done) | (cases c <;> cases hy))
     | map a=>cases a <;> cases hy
     | chan a=>cases a <;> cases hy
     | _=>cases hy
  ·rename_i k hu
   cases h
   rw [hu] at hy
   cases cs with
   | nil=>cases hy
   | cons v l=>
    cases l with
    | cons v2 l=>(cases v <;> first | (cases hy; done) | (rename_i a; cases a <;> cases hy; done) | (rename_i a b; cases a <;> cases hy; done) | (rename_i a b c; cases a <;> first | (cases hy; done) | (cases b <;> first | (cases hy; done) | (cases c <;> cases hy))))
    | nil=>
     cases v with
     | int k' i=>
      have hy:(if k'=k∧(Lit.int k i).wf=true then some (.lit (.int k i),[]) else none)=some y:=hy
      split at hy
      ·rename_i hc
       obtain ⟨rfl,hw⟩:=hc
       exact ⟨[.int k' i],.one (.int k' i),⟨decide_eq_true rfl,⟨by have h:=hw; simp [Lit.wf] at h; exact h,rfl,rfl,rfl⟩,trivial⟩,by simp [Value.oneCell']⟩
      ·cases hy
     | pointer a=>cases a <;> cases hy
     | slice a b c=>cases a <;> first | (cases hy; done) | (cases b <;> first | (cases hy; done) | (cases c <;> cases hy))
     | map a=>cases a <;> cases hy
     | chan a=>cases a <;> cases hy
     | _=>cases hy
  ·rename_i hu
   cases h
   rw [hu] at hy
   cases cs with
   | nil=>cases hy
   | cons v l=>
    cases l with
    | cons v2 l=>(cases v <;> first | (cases hy; done) | (rename_i a; cases a <;> cases hy; done) | (rename_i a b; cases a <;> cases hy; done) | (rename_i a b c; cases a <;> first | (cases hy; done) | (cases b <;> first | (cases hy; done) | (cases c <;> cases hy))))
    | nil=>
     cases v with
     | string s=>
      have hy:(if s.size≤maxLen then some (.lit (.string s.data.toList),[]) else none)=some y:=hy
      split at hy
      ·rename_i hc
       exact ⟨[.str s.data.toList],.one (.str s.data.toList),⟨rfl,⟨by simpa [ah.wf,ah.ba,AV.L7] using hc,rfl,rfl,rfl⟩,trivial⟩,by simp [Value.oneCell']⟩
      ·cases hy
     | pointer a=>cases a <;> cases hy
     | slice a b c=>cases a <;> first | (cases hy; done) | (cases b <;> first | (cases hy; done) | (cases c <;> cases hy))
     | map a=>cases a <;> cases hy
     | chan a=>cases a <;> cases hy
     | _=>cases hy
  ·rename_i e hu
   rw [hu] at hy
   split at h
   ·rename_i Rn u h1 h2
    split at h
    ·rename_i pe h3
     obtain ⟨hz,h⟩:=aT h
     cases h
     have hz:=Nat.le_of_ble_eq_true hz
     cases cs with
     | nil=>cases hy
     | cons v l=>
      cases l with
      | cons v2 l=>(cases v <;> first | (cases hy; done) | (rename_i a; cases a <;> cases hy; done) | (rename_i a b; cases a <;> cases hy; done) | (rename_i a b c; cases a <;> first | (cases hy; done) | (cases b <;> first | (cases hy; done) | (cases c <;> cases hy))))
      | nil=>
       cases v with
       | slice a len cap=>
        cases a with
        | none=>
         have hz:len=0∧cap=0:=by
          cases len with
          | zero=>cases cap with
           | zero=>exact ⟨rfl,rfl⟩
           | succ _=>cases hy
          | succ _=>cases hy
         obtain ⟨rfl,rfl⟩:=hz
         exact ⟨[.list .iU (P.cellsOf e) []],.one .ia,⟨by simp [ah.fits,allFit],⟨⟨Nat.zero_le _,fun x hx=>by change x∈([]:List pe.T) at hx; cases hx⟩,rfl,rfl,rfl⟩,trivial⟩,by simp [Value.oneCell']⟩
        | some a=>
         have hy:(if base≤a.block∧len≤cap∧cap≤maxLen then
          ((List.range len).mapM (fun i=>(w.cells? base (a.add (i * P.cellsOf e)) (P.cellsOf e)).bind (DataW.trod enc P w base spare held qK e))).bind fun D4=>
           (if spare a.block then (List.range (cap - len)).mapM (fun j=>(w.cells? base (a.add ((len+j) * P.cellsOf e)) (P.cellsOf e)).bind (DataW.trod enc P w base spare held qK e)) else some []).map fun rest=>
            (DataW.slice (D4.map (·.1)) (rest.map (·.1)),MemPlace.row a ((D4.length+rest.length) * P.cellsOf e)++(D4++rest).flatMap (·.2))
          else none)=some y:=hy
         split at hy
         ·rename_i hc
          obtain ⟨D4,k1,hy⟩:=bind_some hy
          rw [if_pos (zF _)] at hy
          by_cases ic:cap=0
          ·subst ic
           have sQ:len=0:=Nat.le_zero.1 hc.2.1
           subst sQ
           exact ⟨[.list .iU (P.cellsOf e) []],.one .lY,⟨by simp [ah.fits,allFit],⟨⟨Nat.zero_le _,fun x hx=>by change x∈([]:List pe.T) at hx; cases hx⟩,rfl,rfl,rfl⟩,trivial⟩,by simp [Value.oneCell']⟩
          ·have Hr:a.spot=none:=by
            have MX:∃ y,(w.cells? base (a.add (0 * P.cellsOf e)) (P.cellsOf e)).bind (DataW.trod enc P w base spare held qK e)=some y:=by
             by_cases sQ:len=0
             ·subst sQ
              cases hr:(List.range (cap - 0)).mapM (fun j=>(w.cells? base (a.add ((0+j) * P.cellsOf e)) (P.cellsOf e)).bind (DataW.trod enc P w base spare held qK e)) with
              | none=>rw [hr] at hy; cases hy
              | some r=>
               obtain ⟨z,_,hz⟩:=lF hr 0 0 (by rw [List.getElem?_range (by omega)])
               exact ⟨z,hz⟩
             ·obtain ⟨z,_,hz⟩:=lF k1 0 0 (by rw [List.getElem?_range (by omega)])
              exact ⟨z,hz⟩
            obtain ⟨z,YI⟩:=MX
            obtain ⟨cs,qa,_⟩:=bind_some YI
            unfold World.cells? at qa
            split at qa
            ·obtain ⟨v,_,hv⟩:=lF qa 0 0 (by rw [List.getElem?_range (by omega)])
             rw [Nat.zero_mul] at hv
             unfold World.cell? at hv
             split at hv
             ·split at hv
              ·cases hv
              ·rename_i hs
               simpa [Addr.add] using hs
             ·cases hv
            ·cases qa
           obtain ⟨b,off,spot⟩:=a
           have Hr:spot=none:=Hr
           subst Hr
           obtain ⟨es,q1,q2,q3⟩:=xV (fun cs y hy=>qL zF n h1 hy) h3 k1 len 0 (by omega)
           rw [Nat.zero_mul,Nat.add_zero] at q1
           obtain ⟨f1,f2⟩:=D3 q3
           refine ⟨[.list .iU (P.cellsOf e) es],.one (.list q1 q2.symm hc.2.1 trivial),⟨?_,⟨⟨?_,f2⟩,rfl,rfl,rfl⟩,trivial⟩,by simp [Value.oneCell']⟩
           ·simp only [ah.fits,Bool.and_eq_true,Bool.or_eq_true]
            exact ⟨.inl (Nat.beq_refl _),f1⟩
           ·have:es.length≤maxLen:=by rw [q2]; omega
            show (es.map pe.ba).length≤maxLen
            rw [List.length_map]
            exact this
         ·cases hy
       | pointer a=>cases a <;> cases hy
       | map a=>cases a <;> cases hy
       | chan a=>cases a <;> cases hy
       | _=>cases hy
    ·cases h
   ·cases h
  ·rename_i fs hu
   rw [hu] at hy
   have hy:(if cs.length=P.cellsOf t then (fs.toList.mapM fun f=>DataW.trod enc P w base spare held qK f.type ((cs.drop f.offset).take (P.cellsOf f.type))).map fun xs=>(.agg (xs.map (·.1)),xs.flatMap (·.2)) else none)=some y:=hy
   split at hy
   ·rename_i hl
    obtain ⟨h1,h2⟩:=aT h
    cases hm:fs.toList.mapM fun f=>DataW.trod enc P w base spare held qK f.type ((cs.drop f.offset).take (P.cellsOf f.type)) with
    | none=>rw [hm] at hy; cases hy
    | some ys=>
     cases ht:qI Field.offset (fun f=>P.cellsOf f.type) 0 fs.toList with
     | none=>rw [ht] at h1; cases h1
     | some m=>
      rw [ht] at h1
      have h1:=Nat.eq_of_beq_eq_true (show Nat.beq m (P.cellsOf t)=true from h1)
      obtain ⟨_,kO,q1,q2,q3⟩:=vH (R:=pG w) (w:=w) (off:=Field.offset) (len:=fun f=>P.cellsOf f.type) (cs:=cs) (fun x ps y hx UX=>qL zF n hx UX) ht h2 hm
      rw [h1,← hl] at q1 q3
      simp only [List.drop_zero,Nat.sub_zero,List.take_length] at q1 q3
      exact ⟨kO,q1,q2,q3⟩
   ·cases hy
  ·rename_i m e hu
   rw [hu] at hy
   have hy:(if cs.length=P.cellsOf t then ((List.range m).mapM fun i=>DataW.trod enc P w base spare held qK e ((cs.drop (i * P.cellsOf e)).take (P.cellsOf e))).map fun xs=>(.agg (xs.map (·.1)),xs.flatMap (·.2)) else none)=some y:=hy
   split at hy
   ·rename_i hl
    obtain ⟨h1,h2⟩:=aT h
    cases hm:(List.range m).mapM fun i=>DataW.trod enc P w base spare held qK e ((cs.drop (i * P.cellsOf e)).take (P.cellsOf e)) with
    | none=>rw [hm] at hy; cases hy
    | some ys=>
     cases ht:qI (fun i=>i * P.cellsOf e) (fun _=>P.cellsOf e) 0 (List.range m) with
     | none=>rw [ht] at h1; cases h1
     | some k=>
      rw [ht] at h1
      have h1:=Nat.eq_of_beq_eq_true (show Nat.beq k (P.cellsOf t)=true from h1)
      obtain ⟨_,kO,q1,q2,q3⟩:=vH (R:=pG w) (w:=w) (off:=fun i=>i * P.cellsOf e) (len:=fun _=>P.cellsOf e) (cs:=cs) (fun x ps y hx UX=>qL zF n hx UX) ht h2 hm
      rw [h1,← hl] at q1 q3
      simp only [List.drop_zero,Nat.sub_zero,List.take_length] at q1 q3
      exact ⟨kO,q1,q2,q3⟩
   ·cases hy
  ·cases h
def Nj (P:Program) (n:Nat) (t:TypeId):Option ah:=match P.underlying t with
 | some u=>match Fv P n t with
  | some ps=>qJ (Go.Am.iV u) ps
  | none=>none
 | none=>none
theorem JC (zF:∀ b,spare b=true) {n:Nat} {t:TypeId} {p:ah} (hp:Nj P n t=some p) {v:Value} {d:DataW H} {pl:List MemPlace} {r:Reach} {base':Nat} (ht:DataW.Trod enc P w base spare held t v d pl) (eY:Value.okWide P w r base' t v) :
  ∃ x:p.T,Rel (pG w) w (p.enc x) v∧p.wf x:=by
 obtain ⟨qK,ht⟩:=ht
 have fin:∀ {a:AV},p.fits a=true→p.wf (p.ba a)→Rel (pG w) w a v→∃ x:p.T,Rel (pG w) w (p.enc x) v∧p.wf x:=fun {a} h1 h2 h3=>⟨p.ba a,(p.cG h1).gj _ _ _ h3,h2⟩
 unfold Nj at hp
 split at hp
 ·rename_i u hu
  split at hp
  ·rename_i ps h1
   obtain ⟨kO,q1,q2,q3⟩:=qL zF n h1 ht
   obtain ⟨x,hx,f1,f2⟩:=AZ hp q2
   cases yt:Go.Am.iV u with
   | true=>
    rw [yt] at hx
    simp only [if_true] at hx
    subst hx
    have:∃ cs,v=.agg cs:=by
     unfold Value.okWide at eY
     rw [hu] at eY
     cases u <;> first | (cases yt; done) | (obtain ⟨cs,h,_⟩:=eY; exact ⟨cs,h⟩)
    obtain ⟨⟨cs⟩,rfl⟩:=this
    exact fin f1 f2 (.agg q1 q3)
   | false=>
    rw [yt] at hx
    simp only [Bool.false_eq_true,if_false] at hx
    subst hx
    have hv:v.cells.toList=[v]:=by
     cases v with
     | agg cs=>
      exfalso
      unfold Value.okWide at eY
      rw [hu] at eY
      cases u <;> first | (cases yt; done) | (simp [Cell.okWide,Cell.ok,hu] at eY)
     | _=>rfl
    rw [hv] at q1
    cases q1 with
    | cons q1 _=>exact fin f1 f2 q1
  ·cases hp
 ·cases hp
def A0 (P:Program) (n:Nat):List TypeId→Option (List ah)
 | []=>some []
 | t :: l=>match Nj P n t,A0 P n l with
  | some p,some r=>some (p :: r)
  | _,_=>none
theorem A1 (zF:∀ b,spare b=true) {n:Nat} {r:Reach} {base':Nat}:∀ {ts:List TypeId} {ps:List ah} {vs:List Value} {ds:List (DataW H)} {pl:List MemPlace},A0 P n ts=some ps→DataW.TrodAll enc P w base spare held ts vs ds pl →
  (∀ (j:Nat) t v,ts[j]?=some t→vs[j]?=some v→Value.okWide P w r base' t v)→∃ x:(kj ps).T,aI (pG w) w ((kj ps).enc x) vs∧(kj ps).wf x
 | [],ps,vs,ds,pl,hp,ht,_=>by
  simp only [A0] at hp
  cases hp
  cases vs with
  | nil=>exact ⟨(),.nil,trivial⟩
  | cons _ _=>cases ds <;> exact ht.elim
 | t :: ts,ps,vs,ds,pl,hp,ht,eY=>by
  unfold A0 at hp
  split at hp
  ·rename_i p r h1 h2
   cases hp
   cases vs with
   | nil=>cases ds <;> exact ht.elim
   | cons v vs=>
    cases ds with
    | nil=>exact ht.elim
    | cons d ds=>
     obtain ⟨p1,p2,k1,k2,_⟩:=ht
     obtain ⟨x,q1,q2⟩:=JC zF h1 k1 (eY 0 t v rfl rfl)
     obtain ⟨y,q3,q4⟩:=A1 zF h2 k2 (fun j t v hj hv=>eY (j+1) t v (by simpa using hj) (by simpa using hv))
     cases r with
     | nil=>
      cases q3
      exact ⟨x,.one q1,q2⟩
     | cons p' r=>exact ⟨(x,y),.cons q1 q3,q2,q4⟩
  ·cases hp
end read
end Go.Am
namespace Go.Am
open Go Go.RowKit Go.WideShapes Go.ChangeShapes
section
variable {H:Type} {enc:TypeId × Value→H} {P:Program}
theorem CY {f:Func} {s:ChangeSpec} {apart fresh handsOn again:Bool} {W W':World} {args:Array Value} {v:Value} {ds gs:List (DataW H)} {before pa pv:List MemPlace}
  (hW:DataW.Whole enc P f.params.toList s.vars apart W args.toList ds gs before)
  (Cq:∀ (b:Nat) (sp:Nat→Bool) (hd:Bool),DataW.TrodAll enc P W' b sp hd f.resultTypes.toList (v.resultList f.resultTypes.size) (s.fn H (ds++gs)).results [])
  (oM:∀ sp:Nat→Bool,(∀ p∈before,sp p.block=true)→DataW.TrodAll enc P W' 0 sp true f.params.toList args.toList (s.fn H (ds++gs)).args pa)
  (A2:∀ sp:Nat→Bool,(∀ p∈before,sp p.block=true)→DataW.TrodVars enc P W' sp s.vars (s.fn H (ds++gs)).vars pv)
  (FR:before=pa++pv) (hb:Below W.heap.size W W')
  (eY:∀ (j:Nat) (t:TypeId) (r:Value),f.resultTypes[j]?=some t→(v.resultList f.resultTypes.size)[j]?=some r→Value.okWide P W' .any 0 t r) :
  s.post enc P f apart fresh handsOn again W args v W':=by
 have bT:∀ p∈before,p.block < W.heap.size:=fun p hp=>hW.lt p hp
 have hold:∀ p∈before,(fun b=>decide (b < W.heap.size)) p.block=true:=fun p hp=>by simpa using bT p hp
 refine ⟨ds,gs,before,[],pa,pv,hW,Cq _ _ _,oM _ hold,A2 _ hold,World.keptBut_mono (fun p hp=>⟨hp,?_⟩) (hb.frame (·∈before)),fun _=>?_⟩
 ·rw [FR,List.mem_append] at hp
  exact Or.inr hp
 ·obtain ⟨_,_,_,_,_,hz,hn⟩:=hW
  refine ⟨eY,_,_,([]++pa)++pv,⟨[]++pa,pv,trodAll_append (oM _ (fun _ _=>rfl)) (Cq _ _ _),A2 _ (fun _ _=>rfl),rfl,?_,?_⟩,?_⟩
  ·intro b off hp
   have BX:MemPlace.cell b off∈before:=by rw [FR]; simpa using hp
   rw [hb.frozen (bT _ BX)]
   exact hz b off BX
  ·intro ha
   have:=hn ha
   rw [FR] at this
   simpa using this
  ·intro p hp _
   rw [FR]
   simpa using hp
theorem oZ (hl:laidOutB P=true) {W W':World} (hb:Below W.heap.size W W') {sp:Nat→Bool}:∀ {ts:List TypeId} {vs:List Value} {ds:List (DataW H)} {pl:List MemPlace},
  (∀ t∈ts,P.readableRec t=true∧t < P.types.size)→DataW.TrodAll enc P W 0 (fun _=>true) true ts vs ds pl→(∀ p∈pl,p.block < W.heap.size)→(∀ p∈pl,sp p.block=true) →
  DataW.TrodAll enc P W' 0 sp true ts vs ds pl
 | [],[],[],_,_,h,_,_=>h
 | t :: ts,v :: vs,d :: ds,pl,hr,h,bT,zF=>by
  obtain ⟨p,q,h1,h2,rfl⟩:=h
  refine ⟨p,q,?_,oZ hl hb (fun t ht=>hr t (by simp [ht])) h2 (fun x hx=>bT x (by simp [hx])) (fun x hx=>zF x (by simp [hx])),rfl⟩
  exact WideElems.Trod_stays hl (hr t (by simp)).1 (hr t (by simp)).2 h1 (fun x hx=>hb.same (bT x (by simp [hx]))) (fun x hx=>zF x (by simp [hx]))
 | [],[],_ :: _,_,_,h,_,_=>h.elim
 | [],_ :: _,_,_,_,h,_,_=>h.elim
 | _ :: _,[],_,_,_,h,_,_=>h.elim
 | _ :: _,_ :: _,[],_,_,h,_,_=>h.elim
theorem Fw {E:Env} {f:FuncId} {fn:Func} {s:ChangeSpec} {ps:List ah} {apart fresh handsOn again:Bool} {W:World} {base:Nat} {args:Array Value} {ds gs:List (DataW H)} {before:List MemPlace} {n tb:Nat}
  (UY:∀ x,(kj ps).wf x→bk E f ((kj ps).enc x) (fun r=>r=.bool true)) (RC:A0 E.P n fn.params.toList=some ps)
  (JD:∀ (j:Nat) t v,fn.params[j]?=some t→args[j]?=some v→Value.okWide E.P W .any base t v)
  (hW:DataW.Whole enc E.P fn.params.toList s.vars apart W args.toList ds gs before) (RD:∀ g cs,E.dK g=some cs→ew (pG W) W g 0 cs)
  (A2:s.vars=[]) (zF:∀ ds:List (DataW H),ds.length=fn.params.toList.length→s.fn H ds={ results:=[.lit (.bool true)],args:=ds })
  (Cq:fn.resultTypes=#[tb]) (WY:E.P.underlying tb=some .bool) (hl:laidOutB E.P=true) (hr:∀ t∈fn.params.toList,E.P.readableRec t=true∧t < E.P.types.size) (uo:E.lo=0:=by rfl) (RB:∀ g cs,E.dK g=some cs→E.gx g=true→g < W.heap.size∧W.cell? ⟨g,cs.length,none⟩=none:=by intro _ _ _ h; exact Bool.noConfusion (show false=true from h)) :
  Calls E.P f args W fun e W'=>∃ v,e=.returned v∧s.post enc E.P fn apart fresh handsOn again W args v W':=by
 have UZ:=hW
 obtain ⟨p,q,hA,hV,rfl,Tf,YJ⟩:=hW
 obtain ⟨rfl,rfl⟩:gs=[]∧q=[]:=by
  rw [A2] at hV
  cases gs with
  | nil=>exact ⟨rfl,hV⟩
  | cons g r=>exact absurd hV (by intro h; cases h)
 obtain ⟨x,hx,WZ⟩:=A1 (fun _=>rfl) (n:=n) RC hA (r:=.any) (base':=base) (fun j t v hj hv=>JD j t v (by simpa using hj) (by simpa using hv))
 have hlen:ds.length=fn.params.toList.length:=by
  clear JD Tf YJ UZ hx WZ zF RC hr
  revert hA
  generalize fn.params.toList=ts
  generalize args.toList=vs
  generalize p=pl
  clear p
  intro hA
  induction ts generalizing vs ds pl with
  | nil=>cases vs <;> cases ds <;> first | rfl | exact hA.elim
  | cons t ts ih=>
   cases vs with
   | nil=>cases ds <;> exact hA.elim
   | cons v vs=>
    cases ds with
    | nil=>exact hA.elim
    | cons d ds=>
     obtain ⟨p,q,_,h2,_⟩:=hA
     simp [ih vs q h2]
 have hG:dW E (pG W) W []:=⟨rfl,fun id go ro h=>by simp [nth] at h,fun i j ri rj b h=>by simp [pG,nth] at h,fun b o h=>h,fun g cs hg=>⟨RD g cs hg,fun hx=>RB g cs hg hx⟩,by rw [uo]; exact Nat.zero_le _⟩
 have hc:=(UY x WZ [])
 refine (callsIn_wide.1 (hc.2 (pG W) W args.toList hG hx)).mono fun e W' he=>?_
 cases e with
 | panicked c=>exact he.elim
 | outgrown=>exact he.elim
 | returned c=>
  obtain ⟨r,G',R',⟨_,rfl⟩,dF,_,st⟩:=he
  cases dF
  have hb:Below W.heap.size W W':=⟨st.os,st.tape,st.output,st.size,fun k hk=>st.aZ k hk fun ho=>by
   obtain ⟨id,ro,h1,_⟩:=fc ho
   simp [pG,nth] at h1⟩
  have bT:∀ y∈p,y.block < W.heap.size:=fun y hy=>by simpa using UZ.lt y (by simpa using hy)
  have e1:s.fn H (ds++[])={ results:=[.lit (.bool true)],args:=ds }:=by rw [List.append_nil]; exact zF ds hlen
  refine ⟨_,rfl,CY (pa:=p) (pv:=[]) UZ ?_ ?_ ?_ rfl hb ?_⟩
  ·intro b sp hd
   rw [e1,Cq]
   exact trodAll_mk1 (shut_bool WY true)
  ·intro sp U0
   rw [e1]
   exact oZ hl hb hr hA bT (fun y hy=>U0 y (by simpa using hy))
  ·intro sp _
   rw [e1,A2]
   rfl
  ·intro j t r hj kA
   rw [Cq] at hj kA
   cases j with
   | succ j=>simp at hj
   | zero=>
    simp at hj
    subst hj
    have:r=.bool true:=by simpa [Value.resultList] using kA.symm
    subst this
    simp [Value.okWide,Cell.okWide,Cell.ok,WY]
end
end Go.Am
namespace Go.Am
open Go
section
variable {P:Program} {W:World}
end
end Go.Am
namespace Go.Am
open Go
theorem cm {p:ah} (hp:p.plain=true) (l:List p.T):allFit p.fits (List.map p.enc l)=true:=by
 induction l with
 | nil=>rfl
 | cons x l ih=>simp [allFit,ih,(p.bc x hp).1]
theorem dY {p:ah} (hp:p.plain=true) (l:List p.T):List.map p.ba (List.map p.enc l)=l:=by
 induction l with
 | nil=>rfl
 | cons x l ih=>simp [ih,(p.bc x hp).2]
end Go.Am
namespace Go.Am
open Go Go.RowKit
section
variable {E:Env} {R:ak} {w w':World}
theorem Plain.of {P : Program} {g : FuncId} {fn : Func} (h : P.funcs[g]? = some fn) (h1 : fn.body.isNone = false) (h2 : (fn.name == "runtime.NumGoroutine") = false) : Plain P g := ⟨fn, h, h1, h2⟩
end
def p2 (a b:ah):aH:=.cons a (.cons b .nil)
def p1 (a:ah):aH:=.cons a .nil
def vI:List UInt8 × List UInt8→Option Int
 | (s,[c])=>some (s.count c:Nat)
 | _=>none
def CZ:bf:=⟨p2 .str .str,.int .i64,vI⟩
section
variable {E:Env}
end
end Go.Am
namespace Go.Am
open Go Go.RowKit Go.Proofs Go.Shelf
section
variable {E:Env} {R:ak} {w w':World}
theorem dW.yM {G:List GO} (h:dW E R w G):aY E R w (fun _=>0) ⟨[],fw,G,[],none,0⟩ { tmps:=#[],defers:=[] }:=
 ⟨h,⟨fun k cs hk=>by simp [fw,dy] at hk,fun k k' cs eQ hk=>by simp [fw,dy] at hk⟩,fun i hi=>absurd rfl hi,rfl,trivial⟩
theorem A3 (a:Addr) (n:Nat) (b o:Nat):(w.freeze a n).cell? ⟨b,o,none⟩=w.cell? ⟨b,o,none⟩:=by
 unfold World.freeze
 split
 ·rfl
 ·simp only [World.cell?,Array.getElem?_modify]
  by_cases e:a.block=b
  ·subst e
   simp only [if_true]
   cases h:w.heap[a.block]? with
   | none=>rfl
   | some x=>cases x <;> simp
  ·simp [e]
theorem A4 {a:Addr} {n:Nat} {b:Nat} (h:b≠a.block):(w.freeze a n).heap[b]?=w.heap[b]?:=by
 unfold World.freeze
 split
 ·rfl
 ·simp only [Array.getElem?_modify]
  rw [if_neg (Ne.symm h)]
theorem A5 (a:Addr) (n:Nat):(w.freeze a n).heap.size=w.heap.size:=by
 unfold World.freeze
 split <;> simp
theorem dW.frozen {G:List GO} (hg:dW E R w G) {t f sz el g c n:Nat} (_ht:nth G t=some (.tok f sz el)) (hr:nth R.obj t=some (.tok f g c)) {cur:Array Value} {fz:Nat × Nat} (hc:w.heap[g]?=some (.cells cur el fz)) :
  dW E R (w.drew.freeze ⟨g,0,none⟩ n) (az G t .dead)∧Step R w (fun _=>0) fw R (w.drew.freeze ⟨g,0,none⟩ n) (fun _=>0) fw:=by
 have hl:Live R g:=⟨t,_,hr,rfl⟩
 have aZ:∀ b,b≠g→(w.drew.freeze ⟨g,0,none⟩ n).heap[b]?=w.heap[b]?:=fun b hb=>A4 (w:=w.drew) (a:=⟨g,0,none⟩) hb
 have eC:(w.drew.freeze ⟨g,0,none⟩ n).heap.size=w.heap.size:=A5 (w:=w.drew) _ _
 have e:Ext R w R (w.drew.freeze ⟨g,0,none⟩ n):=⟨fun _ _ h=>h,fun b o _=>A3 (w:=w.drew) _ _ b o,fun _ ro h=>⟨ro,h,cp.refl ro⟩,fun b r hb=>⟨r,by
  by_cases e:b=g
  ·subst e; rw [hc] at hb; cases hb
  ·rw [aZ b e]; exact hb,rfl,rfl,rfl,rfl,rfl⟩⟩
 have Th:∀ (v:World) (a:Addr) (m:Nat),(v.freeze a m).os=v.os∧(v.freeze a m).tape=v.tape∧(v.freeze a m).output=v.output∧(v.freeze a m).drawn=v.drawn:=by
  intro v a m
  unfold World.freeze
  split <;> exact ⟨rfl,rfl,rfl,rfl⟩
 refine ⟨⟨by rw [gE]; exact hg.len,fun id go ro q1 q2=>?_,hg.inj,fun b o hi=>by rw [eC]; exact hg.wf b o hi,fun x cs hx=>(hg.dK x cs hx).mono e,by rw [(Th _ _ _).2.2.2]; exact Nat.le_succ_of_le hg.lo⟩,⟨e,(Th _ _ _).1,(Th _ _ _).2.1,(Th _ _ _).2.2.1,by rw [eC]; exact Nat.le_refl _,fun b hb hn=>aZ b (fun e=>hn (e ▸ .inl hl)),fun _ _ ho=>ho,fun _ _ hi _ _=>hi⟩⟩
 rcases cY q1 with ⟨rfl,rfl,_⟩ | ⟨cM,q1⟩
 ·rw [hr] at q2
  cases q2
  show g < _
  rw [eC]
  exact a8 hc
 ·refine (hg.obj id go ro q1 q2).mono e (fun b hb=>aZ b (fun e=>cM ?_)) (fun _ _ _ hi=>hi)
  subst e
  exact hg.inj t id _ _ b hr q2 rfl hb
end
end Go.Am
