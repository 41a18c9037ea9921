/- The abstract machine: regions in the order of the text,calls,control. -/
import Derived.Test.YtophnjjjmikmeaaGreatAmKG
import Derived.RangeFuncCalls
import Derived.RangeFuncRecord
import Derived.RangeFuncIn
import Derived.OrdersIn
set_option linter.all false
namespace Go.Am
open Go
def bL (R:af) (ro:Option Nat) (F:Fence):Prop:=match ro with
 | none=>F=Fence.wide
 | some id=>∃ b,nth R.obj id=some (.bw b)∧F=Fence.wide.inRound b
theorem bL.mono {R R':af} {w w':World} (e:Ext R w R' w') {ro:Option Nat} {F:Fence} (h:bL R ro F):bL R' ro F:=by
 cases ro with
 | none=>exact h
 | some id=>obtain ⟨b,h1,h2⟩:=h; exact ⟨b,e.bw h1,h2⟩
theorem bL.fn {R:af} {ro:Option Nat} {F:Fence} (h:bL R ro F) (f:FuncId):F.fn f:=by
 cases ro with
 | none=>rw [show F=Fence.wide from h]; trivial
 | some id=>obtain ⟨b,_,h2⟩:=h; rw [h2]; trivial
theorem bL.depth {R:af} {ro:Option Nat} {F:Fence} (h:bL R ro F):F.depth=none:=by
 cases ro with
 | none=>rw [show F=Fence.wide from h]; rfl
 | some id=>obtain ⟨b,_,h2⟩:=h; rw [h2]; rfl
theorem bL.calls {R:af} {ro:Option Nat} {F:Fence} (h:bL R ro F) {n:Nat} {P:Program} {f:FuncId} {args:Array Value} {w:World} {Q:Ending→World→Prop} (hc:CallsIn Fence.wide n P f args w Q):CallsIn F n P f args w Q:=by
 cases ro with
 | none=>rw [show F=Fence.wide from h]; exact hc
 | some id=>obtain ⟨b,_,h2⟩:=h; rw [h2]; exact hc
def Qu (E:Env) (R:af) (w:World) (β:Nat→Nat) (s:St) (Q:Exit→St→Prop):Exit→Act→World→Prop:=
 fun e a' w'=>∃ s' R' β',Q e s'∧aQ E R' w' β' s' a'∧Step R w β s.boxes R' w' β' s'.boxes∧s'.ro=s.ro
def eH (E:Env) (c:Code) (Q:Exit→St→Prop) (s:St):Prop:=
 ∀ (R:af) (w:World) (β:Nat→Nat) (a:Act) (F:Fence),aQ E R w β s a→bL R s.ro F→c.wpIn F 0 E.P (Qu E R w β s Q) a w
theorem eH.mono {E:Env} {c:Code} {Q Q':Exit→St→Prop} {s:St} (h:eH E c Q s) (hq:∀ e s,Q e s→Q' e s):eH E c Q' s:=
 fun R w β a F hr hf=>wpIn_mono (h R w β a F hr hf) fun e _ _ ⟨s',R',β',h1,h2⟩=>⟨s',R',β',hq e s' h1,h2⟩
section rules
variable {E:Env} {Q:Exit→St→Prop} {s:St}
theorem eH.skip (h:Q .normal s):eH E .skip Q s:=fun _ _ _ _ _ hr _=>wpIn_skip ⟨s,_,_,h,hr,Step.refl _ _ _ _,rfl⟩
theorem eH.label {l:Nat} (h:Q .normal s):eH E (.label l) Q s:=fun _ _ _ _ _ hr _=>wpIn_label ⟨s,_,_,h,hr,Step.refl _ _ _ _,rfl⟩
theorem eH.exit {id:Nat} (h:Q (.exit id) s):eH E (.exit id) Q s:=fun _ _ _ _ _ hr _=>wpIn_exit ⟨s,_,_,h,hr,Step.refl _ _ _ _,rfl⟩
theorem eH.ret (h:Q .ret s):eH E .ret Q s:=fun _ _ _ _ _ hr _=>wpIn_ret ⟨s,_,_,h,hr,Step.refl _ _ _ _,rfl⟩
def tE (N:St→Prop) (Q:Exit→St→Prop):Exit→St→Prop
 | .normal,s=>N s
 | e,s=>Q e s
theorem eH.seq {x y:Code} (h:eH E x (tE (eH E y Q) Q) s):eH E (.seq x y) Q s:=fun R w β a F hr hf=>by
 refine wpIn_seq (wpIn_mono (h R w β a F hr hf) ?_)
 rintro e a' w' ⟨s',R',β',hq,iE,gy,aU⟩
 cases e with
 | normal=>
  refine wpIn_mono (hq R' w' β' a' F iE (by rw [aU]; exact hf.mono gy.ext)) ?_
  rintro e Yd Mp ⟨AH,I7,Pb,JK,vW,oV,tF⟩
  exact ⟨AH,I7,Pb,JK,vW,gy.trans oV,tF.trans aU⟩
 | _=>exact ⟨s',R',β',hq,iE,gy,aU⟩
theorem eH.cond {c:Operand} {x y:Code} {b:Bool} (hc:bp E s.ae c=.v (.bool b)) (h1:b=true→eH E x Q s) (h2:b=false→eH E y Q s):eH E (.cond c x y) Q s:=fun R w β a F hr hf=>by
 have rc:=aJ hr c
 rw [hc] at rc
 have hb:a.eval c=.bool b:=by
  have Z9:Rel R w (.bool b) (a.eval c):=rc
  generalize a.eval c=v at Z9
  cases Z9
  rfl
 exact wpIn_cond_split hb (fun e=>h1 e R w β a F hr hf) (fun e=>h2 e R w β a F hr hf)
def Qv (id:Nat) (Q:Exit→St→Prop):Exit→St→Prop
 | .exit gZ,s=>(gZ=id→Q .normal s)∧(gZ≠id→Q (.exit gZ) s)
 | e,s=>Q e s
theorem eH.block {id:Nat} {c:Code} (h:eH E c (Qv id Q) s):eH E (.block id c) Q s:=fun R w β a F hr hf=>by
 refine wpIn_block (wpIn_mono (h R w β a F hr hf) ?_)
 rintro e a' w' ⟨s',R',β',hq,rest⟩
 cases e with
 | exit gZ=>
  by_cases e:gZ=id
  ·simp only [Exit.inBlock,e,if_true]
   exact ⟨s',R',β',hq.1 e,rest⟩
  ·simp only [Exit.inBlock,e,if_false]
   exact ⟨s',R',β',hq.2 e,rest⟩
 | _=>exact ⟨s',R',β',hq,rest⟩
theorem iJ {F:Fence} {n:Nat} {P:Program} {Q:Exit→Act→World→Prop} {c:Code} (I:Nat→Act→World→Prop)
  (round:∀ m a w,I m a w→c.wpIn F n P (Exit.then (fun a' w'=>∃ m',m' < m∧I m' a' w') Q) a w):∀ {m:Nat} {a:Act} {w:World},I m a w→(Code.loop c).wpIn F n P Q a w:=by
 intro m a w h₀ b k cs aU hb hr
 have key:∀ j a w,I j a w →
   ∃ e a' w',Q e a' w'∧ArrivesIn (Machine.fenced P F) P (lone (b.atR a (.code c :: .inLoop c :: k)) cs w) b k cs e a' w':=by
  intro j
  induction j using Nat.strongRecOn with
  | _ j ih=>
   intro a w hI
   obtain ⟨e,a₁,w₁,hq,pH⟩:=round j a w hI b (.inLoop c :: k) cs aU hb hr
   cases e with
   | normal=>
    obtain ⟨m',bK,hI₁⟩:=hq
    obtain ⟨e₂,a₂,w₂,hq₂,UK⟩:=ih m' bK a₁ w₁ hI₁
    exact ⟨e₂,a₂,w₂,hq₂,.of_steps (StepsIn.trans pH (.one (fenced_calm hb hr rfl) stepR_inLoop)) UK⟩
   | exit id=>exact ⟨_,a₁,w₁,hq,.pass (x:=.inLoop c) rfl (fun _ _=>.inl (by simp)) pH⟩
   | goto l=>exact ⟨_,a₁,w₁,hq,.pass (x:=.inLoop c) rfl (fun _ _=>.inl (by simp)) pH⟩
   | ret=>exact ⟨_,a₁,w₁,hq,.pass (x:=.inLoop c) rfl (fun _ _=>.inl (by simp)) pH⟩
   | panic ch=>exact ⟨_,a₁,w₁,hq,.pass (x:=.inLoop c) rfl (fun _ _=>.inl (by simp)) pH⟩
   | outgrown=>exact ⟨_,a₁,w₁,hq,.pass (x:=.inLoop c) rfl (fun _ _=>.inl (by simp)) pH⟩
 obtain ⟨e,a',w',hq,pH⟩:=key _ a w h₀
 exact ⟨e,a',w',hq,.of_steps (.one (fenced_calm hb hr rfl) stepR_loop) pH⟩
theorem eH.loop {c:Code} (I:Nat→St→Prop) (round:∀ m s,I m s→eH E c (tE (fun s'=>∃ m',m' < m∧I m' s') Q) s) {m:Nat} (h:I m s):eH E (.loop c) Q s:=fun R w β a F hr hf=>by
 refine iJ (fun m a' w'=>∃ s' R' β',I m s'∧aQ E R' w' β' s' a'∧Step R w β s.boxes R' w' β' s'.boxes∧s'.ro=s.ro) ?_ ⟨s,R,β,h,hr,Step.refl _ _ _ _,rfl⟩
 rintro m a' w' ⟨s',R',β',hI,iE,gy,aU⟩
 refine wpIn_mono (round m s' hI R' w' β' a' F iE (by rw [aU]; exact hf.mono gy.ext)) ?_
 rintro e Yd Mp ⟨AH,I7,Pb,hq,vW,oV,tF⟩
 cases e with
 | normal=>
  obtain ⟨m',bK,hI'⟩:=hq
  exact ⟨m',bK,AH,I7,Pb,hI',vW,gy.trans oV,tF.trans aU⟩
 | _=>exact ⟨AH,I7,Pb,hq,vW,gy.trans oV,tF.trans aU⟩
end rules
def noGoto (Q:Exit→Act→World→Prop):Exit→Act→World→Prop
 | .goto _,_,_=>False
 | e,a,w=>Q e a w
section scopes
variable {P:Program} {b:Frame} {a:Act} {k:List Item} {cs:List Frame} {w:World} {Q:Exit→Act→World→Prop} {F:Fence} {n:Nat}
theorem gM {c:Code}:step P (lone (b.atR a (.code (.scope c) :: k)) cs w)=.next (lone (b.atR a (.code c :: .inScope c :: k)) cs w):=
 step_lone_go (by simp [stepG,stepG.exec,Frame.atR])
theorem yF {c:Code}:step P (lone (b.atR a (.inScope c :: k)) cs w)=.next (lone (b.atR a k) cs w):=
 step_lone_go (by simp [stepG,stepG.exec,Frame.atR])
theorem EE {c:Code} (h:c.wpIn F n P (noGoto Q) a w):(Code.scope c).wpIn F n P Q a w:=by
 intro b k cs aU hb hr
 have h0:(lone (b.atR a (.code (.scope c) :: k)) cs w).fenced P F:=fenced_calm hb hr rfl
 obtain ⟨e,a₁,w₁,hq,pH⟩:=h b (.inScope c :: k) cs aU hb hr
 cases e with
 | normal=>exact ⟨.normal,a₁,w₁,hq,.head h0 gM (StepsIn.trans pH (.one (fenced_calm hb hr rfl) yF))⟩
 | exit id=>
  have hx:exitTo id (.inScope c :: k)=exitTo id k:=by simp [exitTo]
  exact ⟨.exit id,a₁,w₁,hq,fun k' hk=>.head h0 gM (pH.1 k' (by rw [hx]; exact hk)),
    fun iE hk=>let ⟨k₁,h1,h2⟩:=pH.2 iE (by rw [hx]; exact hk); ⟨k₁,h1,.head h0 gM h2⟩⟩
 | goto l=>exact hq.elim
 | ret=>exact ⟨_,a₁,w₁,hq,.of_steps (.one h0 gM) pH⟩
 | panic ch=>exact ⟨_,a₁,w₁,hq,.of_steps (.one h0 gM) pH⟩
 | outgrown=>exact ⟨_,a₁,w₁,hq,.of_steps (.one h0 gM) pH⟩
end scopes
def Qw (Q:Exit→St→Prop):Exit→St→Prop
 | .goto _,_=>False
 | e,s=>Q e s
theorem eH.scope {E:Env} {c:Code} {Q:Exit→St→Prop} {s:St} (h:eH E c (Qw Q) s):eH E (.scope c) Q s:=fun R w β a F hr hf=>by
 refine EE (wpIn_mono (h R w β a F hr hf) ?_)
 rintro e a' w' ⟨s',R',β',hq,rest⟩
 cases e with
 | goto l=>exact hq.elim
 | _=>exact ⟨s',R',β',hq,rest⟩
def gN:cp:=[]
def Gl (E:Env) (R:af) (w:World) (Q:AV→List GO→Prop):Ending→World→Prop
 | .returned c,w'=>∃ r G' R',Q r G'∧Rel R' w' r c∧dN E R' w' G'∧Step R w (fun _=>0) gN R' w' (fun _=>0) gN
 | _,_=>False
def AS (E:Env) (R:af) (w:World) (Q:Bool→List GO→Prop):Ending→World→Prop
 | .returned c,w'=>∃ r G' R',Q r G'∧c=.bool r∧dN E R' w' G'∧Step R w (fun _=>0) gN R' w' (fun _=>0) gN
 | _,_=>False
def kf (E:Env) (id:Nat) (args:List AV) (G:List GO) (Q:Bool→List GO→Prop):Prop:=
 ∀ (R:af) (w:World) (cs:List Value) (b:Nat),dN E R w G→aC R w args cs→nth R.obj id=some (.bw b) →
  ∃ r:Loop,w.heap[b]?=some (.loop r)∧cs.length=r.params.size ∧
   RoundIn Fence.wide 0 E.P b r.fn ((r.params.zip ⟨cs⟩).foldl (fun tmps (t,a)=>tmps.setIfInBounds t a) r.tmps) r.assign r.body w (AS E R w Q)
theorem kf.mono {E:Env} {id:Nat} {args:List AV} {G:List GO} {Q Q':Bool→List GO→Prop} (h:kf E id args G Q) (hq:∀ r G',Q r G'→Q' r G'):kf E id args G Q':=
 fun R w cs b hg hl hb=>by
  obtain ⟨r,h1,h2,h3⟩:=h R w cs b hg hl hb
  refine ⟨r,h1,h2,h3.mono fun e w' he=>?_⟩
  cases e with
  | returned c=>obtain ⟨r,G',R',k1,k2⟩:=he; exact ⟨r,G',R',hq _ _ k1,k2⟩
  | _=>exact he
def Plain (P : Program) (g : FuncId) : Prop := ∃ fn, P.funcs[g]? = some fn ∧ fn.body.isNone = false ∧ (fn.name == "runtime.NumGoroutine") = false
def cJ (E:Env) (g:FuncId) (args:List AV) (G:List GO) (Q:AV→List GO→Prop):Prop:=
 Plain E.P g∧∀ (R:af) (w:World) (cs:List Value),dN E R w G→aC R w args cs→CallsIn Fence.wide 0 E.P g ⟨cs⟩ w (Gl E R w Q)
theorem cJ.mono {E:Env} {g:FuncId} {args:List AV} {G:List GO} {Q Q':AV→List GO→Prop} (h:cJ E g args G Q) (hq:∀ r G',Q r G'→Q' r G'):cJ E g args G Q':=
 ⟨h.1,fun R w cs hg hl=>(h.2 R w cs hg hl).mono fun e _ he=>by
  cases e with
  | returned c=>obtain ⟨r,G',R',h1,h2⟩:=he; exact ⟨r,G',R',hq _ _ h1,h2⟩
  | _=>exact he⟩
theorem eC {R:af} {β:Nat→Nat} {b:Nat} (h:Own R β gN b):Live R b:=by
 rcases h with h | ⟨k,cs,hk,_⟩
 ·exact h
 ·simp [gN,cX] at hk
section calls
variable {E:Env} {R R':af} {w w':World} {β:Nat→Nat} {s:St} {a:Act} {o:Oper}
theorem aQ.oq (h:aQ E R w β s a) {G':List GO} (hg:dN E R' w' G') (st:Step R w (fun _=>0) gN R' w' (fun _=>0) gN) :
  aQ E R' w' β (s.bn G') a∧Step R w β s.boxes R' w' β s.boxes:=by
 have vC:∀ k cs,cX s.boxes k=some cs→β k < w.heap.size∧¬ Live R (β k):=fun k cs hk=>⟨h.cU (.inr ⟨k,cs,hk,rfl⟩),(h.b.box k cs hk).2.2⟩
 have live:∀ b,b < w.heap.size→Live R' b→Live R b:=fun b hb hl=>eC (st.own b hb (.inl hl))
 refine ⟨⟨hg,h.b.bY st.ext (fun k cs hk=>?_) (fun k cs o hk hi=>?_) (fun k cs hk hl=>live _ (vC k cs hk).1 hl),h.t.mono st.ext,h.n,h.d.mono st.ext⟩,?_⟩
 ·obtain ⟨h1,h2⟩:=vC k cs hk
  exact st.bY _ h1 (fun ho=>h2 (eC ho))
 ·obtain ⟨h1,h2⟩:=vC k cs hk
  exact st.im _ o hi h1 (fun ho=>h2 (eC ho))
 ·refine ⟨st.ext,st.os,st.tape,st.output,st.size,fun b hb hn=>st.bY b hb (fun ho=>hn (.inl (eC ho))),fun b hb ho=>?_,fun b o hi hb hn=>st.im b o hi hb (fun ho=>hn (.inl (eC ho)))⟩
  rcases ho with ho | ho
  ·exact .inl (live b hb ho)
  ·exact .inr ho
theorem jL {P:Program} {g:FuncId} (h:Plain P g) (args:Array Value) (w:World):(callFunc g args).run P w=.ok (.enter g args) w:=by
 obtain ⟨fn,h1,h2,h3⟩:=h
 unfold callFunc
 simp only [Sem.run_bind,run_program,Result.andThen_ok,h1,h2,h3,Bool.false_eq_true,if_false,Sem.run_pure]
def nE (E:Env) (R:af) (w:World) (β:Nat→Nat) (s:St) (K:St→Prop) (a':Act) (w':World):Prop:=
 ∃ s' R' β',K s'∧aQ E R' w' β' s' a'∧Step R w β s.boxes R' w' β' s'.boxes∧s'.ro=s.ro
@[simp] theorem ic (s:St) (d:Option Tmp) (x:SV):(s.put d x).ro=s.ro:=by
 cases d with
 | none=>rfl
 | some d=>
  simp only [St.put]
  split <;> rfl
theorem JL {f:FuncId} {c:Bool} {s':St} (h:gu E f s o=some (c,s')):s'.ro=s.ro:=by
 unfold gu at h
 repeat' (split at h)
 all_goals (first | (cases h; done) | skip)
 all_goals (injection h with h; injection h with _ h; subst h; simp [St.bn])
theorem HM {t:TypeId} {p x:SV} {c:Bool} {s':St} (h:er E s t p x=some (c,s')):s'.ro=s.ro:=by
 have store:∀ {t:TypeId} {p x:SV} {s':St},gl E s t p x=some s'→s'.ro=s.ro:=by
  intro t p x s' h
  unfold gl at h
  repeat' (split at h)
  all_goals (first | (cases h; done) | skip)
  all_goals (injection h with h; subst h; rfl)
 unfold er at h
 repeat' (split at h)
 all_goals (first | (cases h; done) | skip)
 all_goals (injection h with h; injection h with _ h; subst h)
 all_goals (first | rfl | exact store (by assumption))
theorem HN {f:FuncId} {c:Bool} {s':St} (h:ao E f s o=some (c,s')):s'.ro=s.ro:=by
 have alloc:∀ {el:TypeId} {cs:List AV} {c:Bool} {s':St},eL E f s o.dst el cs=some (c,s')→s'.ro=s.ro:=by
  intro el cs c s' h
  unfold eL at h
  repeat' (split at h)
  all_goals (first | (cases h; done) | skip)
  all_goals (injection h with h; injection h with _ h; subst h; simp [St.df,St.ta,St.kill])
 have store:∀ {t:TypeId} {p x:SV} {s':St},gl E s t p x=some s'→s'.ro=s.ro:=by
  intro t p x s' h
  unfold gl at h
  repeat' (split at h)
  all_goals (first | (cases h; done) | skip)
  all_goals (injection h with h; subst h; rfl)
 have Qx:∀ {t:TypeId} {p x:SV} {c:Bool} {s':St},er E s t p x=some (c,s')→s'.ro=s.ro:=by
  intro t p x c s' h
  unfold er at h
  repeat' (split at h)
  all_goals (first | (cases h; done) | skip)
  all_goals (injection h with h; injection h with _ h; subst h)
  all_goals (first | rfl | exact store (by assumption))
 have Qy:∀ {t:TypeId} {p x:SV} {c:Bool} {s':St},jl E s t p x=some (c,s')→s'.ro=s.ro:=by
  intro t p x c s' h
  unfold jl at h
  split at h
  ·rename_i hs
   injection h with h; injection h with _ h
   subst h
   exact HM (s:=s.bn (pn s p x).2.2) hs
  ·cases h
 have blt:∀ {b:Builtin} {l:List AV} {tys:List TypeId} {c:Bool} {s':St},bS E s o.dst b l tys=some (c,s')→s'.ro=s.ro:=by
  intro b l tys c s' h
  unfold bS at h
  repeat' (split at h)
  all_goals (first | (cases h; done) | skip)
  all_goals (injection h with h; injection h with _ h; subst h; simp [St.bn])
 have update:∀ {t:TypeId} {m k x:SV} {s':St},eN E s t m k x=some s'→s'.ro=s.ro:=by
  intro t m k x s' h
  unfold eN at h
  repeat' (split at h)
  all_goals (first | (cases h; done) | skip)
  all_goals (injection h with h; subst h; rfl)
 have next:∀ {x:SV} {s':St},kQ s o.dst x=some s'→s'.ro=s.ro:=by
  intro x s' h
  unfold kQ at h
  split at h
  ·split at h
   ·rename_i l pos hg
    cases hb:Nat.blt pos l.length <;> rw [hb] at h <;> simp only [cond_true,cond_false] at h <;> cases h <;> simp [St.bn]
   ·cases h
  ·cases h
 have EF:∀ {t:TypeId} {m k:SV} {c:Bool} {v:AV} {s':St},fL E s t m k=some (c,v,s')→s'.ro=s.ro:=by
  intro t m k c v s' h
  unfold fL at h
  repeat' (split at h)
  all_goals (first | (cases h; done) | skip)
  all_goals (injection h with h; injection h with _ h; injection h with _ h; subst h; rfl)
 have EG:∀ {m st x:SV} {c:Bool} {s':St},dM s m st x=some (c,s')→s'.ro=s.ro:=by
  intro m st x c s' h
  unfold dM at h
  repeat' (split at h)
  all_goals (first | (cases h; done) | skip)
  all_goals (injection h with h; injection h with _ h; subst h; rfl)
 unfold ao mi at h
 repeat' (split at h)
 all_goals (first | (cases h; done) | exact alloc h | exact blt h | (rename_i hf; cases h; exact JL hf) | skip)
 all_goals (injection h with h; injection h with _ h; subst h)
 all_goals (first | (simp; done) | (simp [St.df]; done) | (simp [St.bn]; done) | skip)
 all_goals (first | exact Qy (by assumption) | exact update (by assumption) | exact (ic _ _ _).trans (EF (by assumption)) | exact EG (by assumption) | exact next (by assumption))
theorem Cr {f:FuncId} {F:Fence} {s':St} {K:St→Prop} {Qc:Exit→Act→World→Prop} (h:aQ E R w β s a) (hf:bL R s.ro F) (hs:ao E f s o=some (true,s')) (hK:K s')
  (nd:∀ c,o.op≠.defer c) (N:Act→World→Prop) (hN:∀ a' w',nE E R w β s K a' w'→N a' w'):o.wpIn F 0 E.P a w N Qc:=by
 obtain ⟨nx,x,w',R',β',h1,h2,h3,h4⟩:=Cn h hs
 refine ⟨fun f _=>hf.fn f,?_⟩
 rw [Oper.semAt_eq _ _ _ nd,h1]
 have:N (a.put o.dst x) w':=hN _ _ ⟨s',R',β',hK,h3,h4,HN hs⟩
 rcases h2 with rfl | ⟨rfl,rfl⟩
 ·exact this
 ·exact this
theorem HO {F:Fence} {K:St→Prop} {Qc:Exit→Act→World→Prop} (h:aQ E R w β s a) (hf:bL R s.ro F) {fo:Operand} {args:Array Operand} {tys:Array TypeId} (ho:o.op=.call { callee:=.value fo,args:=args,argTypes:=tys })
  {g:FuncId} {first cap l:List AV} (Ye:bp E s.ae fo=.v (.fn g first cap)) (hl:kN E s.ae args.toList=some l)
  (hc:cJ E g (first++l++cap) s.G (fun r G'=>K ((s.bn G').put o.dst (.v r)))) (N:Act→World→Prop) (hN:∀ a' w',nE E R w β s K a' w'→N a' w'):o.wpIn F 0 E.P a w N Qc:=by
 refine ⟨fun f _=>hf.fn f,?_⟩
 have rf:=aJ h fo
 rw [Ye] at rf
 have UL:Rel R w (.fn g first cap) (a.eval fo):=rf
 have rl:=eO h hl
 generalize Qz:a.eval fo=fv at UL
 cases UL with
 | @fn _ _ _ vs us h1 h2=>
 have ba:(o.semAt F.round a.eval).run E.P w=.ok (.enter g ⟨vs++args.toList.map a.eval++us⟩) w:=by
  rw [Oper.semAt_eq _ _ _ (fun c e=>by rw [ho] at e; cases e)]
  simp only [execOp,ho,resolve,Qz,Deferred.ofValue,Sem.run_bind,Sem.run_pure,Result.andThen_ok,invoke,j8]
  have:=jL hc.1 (⟨vs⟩++⟨args.toList.map a.eval⟩++⟨us⟩) w
  simpa using this
 rw [ba]
 refine ⟨fun e=>by rw [hf.depth] at e; simp at e,hf.calls ?_⟩
 refine (hc.2 R w (vs++args.toList.map a.eval++us) h.g ((h1.append rl).append h2)).mono ?_
 intro e Mp he
 cases e with
 | returned c=>
  obtain ⟨r,G',R',hK,hr,hg,st⟩:=he
  obtain ⟨q1,q2⟩:=h.oq hg st
  exact hN _ _ ⟨_,R',β,hK,q1.put o.dst (x:=.v r) hr,by rw [aS]; exact q2,by rw [ic]; rfl⟩
 | panicked c=>exact he.elim
 | outgrown=>exact he.elim
theorem bL.rounds {R:af} {ro:Option Nat} {F:Fence} (h:bL R ro F) {n:Nat} {P:Program} {l:Nat} {f:FuncId} {tmps:Array Value} {pI bd:Code} {w:World} {Q:Ending→World→Prop}
  (hc:RoundIn Fence.wide n P l f tmps pI bd w Q):RoundIn F n P l f tmps pI bd w Q:=by
 cases ro with
 | none=>rw [show F=Fence.wide from h]; exact hc
 | some id=>obtain ⟨b,_,h2⟩:=h; rw [h2]; exact hc
theorem EH {F:Fence} {K:St→Prop} {Qc:Exit→Act→World→Prop} (h:aQ E R w β s a) (hf:bL R s.ro F) {fo:Operand} {args:Array Operand} {tys:Array TypeId} (ho:o.op=.call { callee:=.value fo,args:=args,argTypes:=tys })
  {id:Nat} {l:List AV} (Ye:bp E s.ae fo=.v (.yield id)) (hl:kN E s.ae args.toList=some l)
  (hc:kf E id l s.G (fun b G'=>K ((s.bn G').put o.dst (.v (.bool b))))) (N:Act→World→Prop) (hN:∀ a' w',nE E R w β s K a' w'→N a' w'):o.wpIn F 0 E.P a w N Qc:=by
 refine ⟨fun f _=>hf.fn f,?_⟩
 have rf:=aJ h fo
 rw [Ye] at rf
 have UL:Rel R w (.yield id) (a.eval fo):=rf
 have rl:=eO h hl
 generalize Qz:a.eval fo=fv at UL
 cases UL with
 | @yield _ b hb=>
 obtain ⟨r,AP,vN,UM⟩:=hc R w (args.toList.map a.eval) b h.g rl hb
 have ba:(o.semAt F.round a.eval).run E.P w=.ok (.round b r.fn ((r.params.zip ⟨args.toList.map a.eval⟩).foldl (fun tmps (t,a)=>tmps.setIfInBounds t a) r.tmps) r.assign r.body) w:=by
  rw [Oper.semAt_eq _ _ _ (fun c e=>by rw [ho] at e; cases e)]
  simp only [execOp,ho,resolve,Qz,Deferred.ofValue,Sem.run_bind,Sem.run_pure,Result.andThen_ok,invoke,j8]
  have:=run_yield (P:=E.P) AP (args:=⟨args.toList.map a.eval⟩) vN
  simpa using this
 rw [ba]
 refine ⟨fun e=>by rw [hf.depth] at e; simp at e,hf.rounds (UM.mono ?_)⟩
 intro e Mp he
 cases e with
 | returned c=>
  obtain ⟨r,G',R',hK,rfl,hg,st⟩:=he
  obtain ⟨q1,q2⟩:=h.oq hg st
  exact hN _ _ ⟨_,R',β,hK,q1.put o.dst (x:=.v (.bool r)) (Rel.bool r),by rw [aS]; exact q2,by rw [ic]; rfl⟩
 | panicked c=>exact he.elim
 | outgrown=>exact he.elim
end calls
def nF (ops:List Oper) (j:Nat):Option Tmp:=match nth ops j with
 | some o=>o.dst
 | none=>none
def di:Bool→Prop→Prop
 | true,p=>p
 | false,_=>False
theorem di.mk {c:Bool} {p:Prop} (h:c=true) (hp:p):di c p:=by subst h; exact hp
theorem di.out {c:Bool} {p:Prop} (h:di c p):c=true∧p:=by
 cases c
 ·exact h.elim
 ·exact ⟨rfl,h⟩
def jM (E:Env) (f:FuncId) (o:Oper) (K:St→Prop) (s:St):Prop:=
 match o.op with
 | .call { callee:=.value x,args,.. }=>match bp E s.ae x,kN E s.ae args.toList with
  | .v (.fn g first cap),some l=>cJ E g (first++l++cap) s.G (fun r G'=>K ((s.bn G').put o.dst (.v r)))
  | .v (.yield id),some l=>kf E id l s.G (fun b G'=>K ((s.bn G').put o.dst (.v (.bool b))))
  | _,_=>False
 | .defer _=>False
 | _=>match ao E f s o with
  | some (c,s')=>di c (K s')
  | none=>False
def b9 (E:Env) (f:FuncId) (ops:List Oper) (o:Oper) (K:St→Prop) (s:St):Prop:=
 match o.guard with
 | none=>jM E f o K s
 | some (j,want)=>match nF ops j with
  | none=>False
  | some d=>match lk s.ae d with
   | .v (.bool b)=>(b=want→jM E f o K (s.put (some d) (.v (.bool want))))∧(b=!want→K ((s.put (some d) (.v (.bool (!want)))).put o.dst (.v fu)))
   | .v (.bF [])=>K (s.put o.dst (.v fu))
   | _=>False
def fD (E:Env) (f:FuncId) (ops:List Oper) (o:Oper) (K:St→Prop) (s:St):Prop:=
 match o.guard,iU E f s o with
 | none,some s'=>K s'
 | _,_=>b9 E f ops o K s
def eV (E:Env) (f:FuncId) (ops:List Oper) (o:Oper) (K:St→Prop) (s:St):Prop:=
 match o.guard,te E f s o,sh E s o with
 | none,some (c,s'),_=>di c (K s')
 | none,none,some (c,s0,left,g)=>di c ((left=[]→K s0)∧∀ i∈left,di (g i).1 (K (g i).2))
 | _,_,_=>fD E f ops o K s
def eX (E:Env) (f:FuncId) (ops:List Oper) (o:Oper) (K:St→Prop) (s:St):Prop:=
 match Hk E f s o with
 | some (c,s')=>c=true∧eV E f ops o K s'
 | none=>eV E f ops o K s
def zA (E:Env) (f:FuncId) (o:Oper) (K:St→Prop) (s:St):Prop:=match zz E f o s with
 | some (c,s')=>c=true∧K s'
 | none=>False
def nG (E:Env) (f:FuncId) (ops:List Oper):List Oper→(St→Prop)→St→Prop
 | [],K,s=>K s
 | o :: rest,K,s=>eX E f ops o (zA E f o (nG E f ops rest K)) s
section regions
variable {E:Env} {R:af} {w:World} {β:Nat→Nat} {s:St} {a:Act}
theorem zB {f:FuncId} {o:Oper} {F:Fence} {K:St→Prop} {Qc:Exit→Act→World→Prop} (h:aQ E R w β s a) (hf:bL R s.ro F) (ha:jM E f o K s) (N:Act→World→Prop) (hN:∀ a' w',nE E R w β s K a' w'→N a' w') :
  o.wpIn F 0 E.P a w N Qc:=by
 unfold jM at ha
 split at ha
 ·rename_i x args tys ho
  split at ha
  ·rename_i g first cap l h1 h2
   exact HO h hf ho h1 h2 ha N hN
  ·rename_i id l h1 h2
   exact EH h hf ho h1 h2 ha N hN
  ·exact ha.elim
 ·exact ha.elim
 ·rename_i nc nd
  split at ha
  ·rename_i c s' hs
   obtain ⟨rfl,hK⟩:=ha.out
   exact Cr h hf hs hK (fun c e=>nd c e) N hN
  ·exact ha.elim
theorem aQ.Cs (h:aQ E R w β s a) {d:Tmp} {b t:Bool} (hd:lk s.ae d=.v (.bool b)) (e:b=t):aQ E R w β (s.put (some d) (.v (.bool t))) a:=by
 subst e
 simp only [St.put]
 split
 ·refine ⟨h.g,h.b,fun i hi=>?_,h.n,h.d⟩
  by_cases e:d=i
  ·subst e
   rw [ax]
   have:=h.t d (by rw [hd]; simp)
   rw [hd] at this
   exact this
  ·rw [aI e] at hi ⊢
   exact h.t i hi
 ·exact h
theorem EI (h:aQ E R w β s a) {ops:Array Oper} {j:Nat} {d:Tmp} {b:Bool} (hj:nF ops.toList j=some d) (hd:lk s.ae d=.v (.bool b)):yielded ops a.tmps j=some b:=by
 unfold nF at hj
 split at hj
 ·rename_i o ho
  rw [aG] at ho
  have mY:ops[j]?=some o:=by simpa using ho
  obtain ⟨c,h1,h2⟩:=h.t d (by rw [hd]; simp)
  rw [hd] at h2
  have UN:Rel R w (.bool b) c:=h2
  cases UN
  simp [yielded,mY,hj,h1]
 ·cases hj
theorem yG (h:aQ E R w β s a) {ops:Array Oper} {j:Nat} {d:Tmp} (hj:nF ops.toList j=some d) (hd:lk s.ae d=.v (.bF [])):yielded ops a.tmps j=none:=by
 unfold nF at hj
 split at hj
 ·rename_i o ho
  rw [aG] at ho
  have mY:ops[j]?=some o:=by simpa using ho
  obtain ⟨c,h1,h2⟩:=h.t d (by rw [hd]; simp)
  rw [hd] at h2
  have UN:Rel R w (.bF []) c:=h2
  cases UN
  simp [yielded,mY,hj,h1]
 ·cases hj
theorem qT {f:FuncId} {o:Oper} {F:Fence} {ops:Array Oper} {K:St→Prop} {Qc:Exit→Act→World→Prop} (h:aQ E R w β s a) (hf:bL R s.ro F) (ha:b9 E f ops.toList o K s) (N:Act→World→Prop) (hN:∀ a' w',nE E R w β s K a' w'→N a' w') :
  (if Region.wanted o (yielded ops a.tmps) then o.wpIn F 0 E.P a w N Qc else (∀ f,o.about E.P w a.eval=some f→F.fn f)∧N (a.put o.dst undef) w):=by
 unfold b9 at ha
 split at ha
 ·rename_i hg
  have:Region.wanted o (yielded ops a.tmps)=true:=by simp [Region.wanted,hg]
  rw [if_pos this]
  exact zB h hf ha N hN
 ·rename_i j want hg
  split at ha
  ·exact ha.elim
  ·rename_i d hd
   split at ha
   ·rename_i b hb
    have hy:=EI h hd hb
    by_cases hw:b=want
    ·have:Region.wanted o (yielded ops a.tmps)=true:=by simp [Region.wanted,hg,hy,hw]
     rw [if_pos this]
     exact zB (h.Cs hb hw) (by rw [ic]; exact hf) (ha.1 hw) N (fun a' w' hh=>hN a' w' (by
      obtain ⟨s',R',β',q1,q2,q3,q4⟩:=hh
      exact ⟨s',R',β',q1,q2,by rw [aS] at q3; exact q3,by rw [ic] at q4; exact q4⟩))
    ·have hbw:b=!want:=by cases b <;> cases want <;> simp_all
     have:¬ Region.wanted o (yielded ops a.tmps)=true:=by simp [Region.wanted,hg,hy,hw]
     rw [if_neg this]
     refine ⟨fun f _=>hf.fn f,hN _ _ ⟨_,R,β,ha.2 hbw,(h.Cs hb hbw).put o.dst (x:=.v fu) (Rel.bF .nil),by rw [aS,aS]; exact Step.refl _ _ _ _,by rw [ic,ic]⟩⟩
   ·rename_i hb
    have hy:=yG h hd hb
    have:¬ Region.wanted o (yielded ops a.tmps)=true:=by simp [Region.wanted,hg,hy]
    rw [if_neg this]
    exact ⟨fun f _=>hf.fn f,hN _ _ ⟨_,R,β,ha,h.put o.dst (x:=.v fu) (Rel.bF .nil),by rw [aS]; exact Step.refl _ _ _ _,by rw [ic]⟩⟩
   ·exact ha.elim
theorem yH {f:FuncId} {o:Oper} {F:Fence} {ops:Array Oper} {K:St→Prop} {Qc:Exit→Act→World→Prop} (h:aQ E R w β s a) (hf:bL R s.ro F) (ha:fD E f ops.toList o K s) (N:Act→World→Prop) (hN:∀ a' w',nE E R w β s K a' w'→N a' w') :
  (if Region.wanted o (yielded ops a.tmps) then o.wpIn F 0 E.P a w N Qc else (∀ f,o.about E.P w a.eval=some f→F.fn f)∧N (a.put o.dst undef) w):=by
 unfold fD at ha
 split at ha
 ·rename_i s' hg hb
  have:Region.wanted o (yielded ops a.tmps)=true:=by simp [Region.wanted,hg]
  rw [if_pos this]
  unfold iU at hb
  split at hb
  ·rename_i t len parts ho
   split at hb
   ·rename_i d hd
    split at hb
    ·split at hb
     ·rename_i i hi
      split at hb
      ·rename_i elem a6 ag mQ z esz es hk hv
       cases hb
       obtain ⟨nx,x,w',R',β',h1,h2,h3,h4⟩:=ss h t len parts ho hv hi hk
       refine ⟨fun f _=>hf.fn f,?_⟩
       rw [Oper.semAt_eq _ _ _ (fun c e=>by rw [ho] at e; cases e),h1]
       rw [hd] at h3 h4
       have eB:N (a.put o.dst x) w':=hN _ _ ⟨_,R',β',ha,by rw [hd]; exact h3,h4,by rw [ic]; rfl⟩
       rcases h2 with rfl | ⟨rfl,rfl⟩
       ·exact eB
       ·exact eB
      ·rename_i elem esz ag mQ z hk _
       split at hb
       rotate_left
       ·cases hb
       rename_i cs hv
       cases hb
       obtain ⟨nx,x,w',R',β',h1,h2,h3,h4⟩:=sr h t len parts ho hv hi hk
       refine ⟨fun f _=>hf.fn f,?_⟩
       rw [Oper.semAt_eq _ _ _ (fun c e=>by rw [ho] at e; cases e),h1]
       rw [hd] at h3 h4
       have eB:N (a.put o.dst x) w':=hN _ _ ⟨_,R',β',ha,by rw [hd]; exact h3,h4,by rw [ic]; rfl⟩
       rcases h2 with rfl | ⟨rfl,rfl⟩
       ·exact eB
       ·exact eB
      ·cases hb
     ·cases hb
    ·split at hb
     ·split at hb
      ·rename_i i hi
       split at hb
       ·rename_i elem a6 ag mQ z esz es hk hv
        split at hb
        ·rename_i hle
         cases hb
         obtain ⟨nx,x,w',R',β',h1,h2,h3,h4⟩:=sA h t len parts ho hv hi hk (Nat.le_of_ble_eq_true hle)
         refine ⟨fun f _=>hf.fn f,?_⟩
         rw [Oper.semAt_eq _ _ _ (fun c e=>by rw [ho] at e; cases e),h1]
         rw [hd] at h3 h4
         have eB:N (a.put o.dst x) w':=hN _ _ ⟨_,R',β',ha,by rw [hd]; exact h3,h4,by rw [ic]; rfl⟩
         rcases h2 with rfl | ⟨rfl,rfl⟩
         ·exact eB
         ·exact eB
        ·cases hb
       ·cases hb
      ·cases hb
     ·split at hb
      ·split at hb
       ·rename_i i hi
        split at hb
        ·rename_i elem a6 ag mQ z esz es hk hv
         split at hb
         ·rename_i hle
          cases hb
          obtain ⟨nx,x,w',R',β',h1,h2,h3,h4⟩:=su h t len parts ho hv hi hk (Nat.le_of_ble_eq_true hle)
          refine ⟨fun f _=>hf.fn f,?_⟩
          rw [Oper.semAt_eq _ _ _ (fun c e=>by rw [ho] at e; cases e),h1]
          rw [hd] at h3 h4
          have eB:N (a.put o.dst x) w':=hN _ _ ⟨_,R',β',ha,by rw [hd]; exact h3,h4,by rw [ic]; rfl⟩
          rcases h2 with rfl | ⟨rfl,rfl⟩
          ·exact eB
          ·exact eB
         ·cases hb
        ·cases hb
       ·cases hb
      ·cases hb
   ·cases hb
  ·cases hb
 ·exact qT h hf ha N hN
theorem HP {f:FuncId} {o:Oper} {c:Bool} {s':St} (h:pt E f s o=some (c,s')):s'.ro=s.ro∧∀ d,o.op≠.defer d:=by
 unfold pt at h
 split at h
 ·split at h
  ·split at h
   ·rename_i t m k ok ho
    refine ⟨?_,fun d e=>by rw [ho] at e; cases e⟩
    repeat' (split at h)
    all_goals (first | (cases h; done) | skip)
    all_goals (injection h with h; injection h with _ h; subst h; simp [St.bn])
   ·cases h
  ·cases h
 ·cases h
theorem MM {f:FuncId} {o:Oper} {c:Bool} {s':St} (h:DY E f s o=some (c,s')):s'.ro=s.ro∧∀ d,o.op≠.defer d:=by
 unfold DY at h
 split at h
 ·rename_i t x lo d ho hd
  refine ⟨?_,fun d e=>by rw [ho] at e; cases e⟩
  repeat' (split at h)
  all_goals (first | (cases h; done) | skip)
  all_goals (injection h with h; injection h with _ h; subst h; simp [St.bn])
 ·cases h
theorem JM {f:FuncId} {o:Oper} {c:Bool} {s':St} (h:te E f s o=some (c,s')):s'.ro=s.ro∧∀ d,o.op≠.defer d:=by
 unfold te at h
 split at h
 ·rename_i r hr
  cases h
  exact MM hr
 ·exact HP h
theorem HQ {o:Oper} {c:Bool} {s0:St} {left:List Nat} {g:Nat→Bool × St} (h:sh E s o=some (c,s0,left,g)):(∃ x,o.op=.next x false∧zd E s o.dst (bp E s.ae x)=some (c,s0,left,g))∧s0.ro=s.ro∧∀ i,(g i).2.ro=s.ro:=by
 unfold sh at h
 split at h
 ·rename_i x ho
  refine ⟨⟨x,ho,h⟩,?_⟩
  unfold zd at h
  split at h
  ·split at h
   ·split at h
    ·cases h
     exact ⟨ic _ _ _,fun i=>ic _ _ _⟩
    ·cases h
   ·cases h
  ·cases h
 ·cases h
theorem sG {f:FuncId} {F:Fence} {o:Oper} {s':St} {K:St→Prop} {Qc:Exit→Act→World→Prop} (hf:bL R s.ro F) (hd:bB E R w β s a o s') (hK:K s') (aU:s'.ro=s.ro)
  (nd:∀ c,o.op≠.defer c) (N:Act→World→Prop) (hN:∀ a' w',nE E R w β s K a' w'→N a' w'):o.wpIn F 0 E.P a w N Qc:=by
 obtain ⟨nx,x,w',R',β',h1,h2,h3,h4⟩:=hd
 refine ⟨fun f _=>hf.fn f,?_⟩
 rw [Oper.semAt_eq _ _ _ nd,h1]
 have:N (a.put o.dst x) w':=hN _ _ ⟨s',R',β',hK,h3,h4,aU⟩
 rcases h2 with rfl | ⟨rfl,rfl⟩
 ·exact this
 ·exact this
theorem oW {f:FuncId} {o:Oper} {F:Fence} {ops:Array Oper} {K:St→Prop} {Qc:Exit→Act→World→Prop} (h:aQ E R w β s a) (hf:bL R s.ro F) (ha:eV E f ops.toList o K s) (N:Act→World→Prop) (hN:∀ a' w',nE E R w β s K a' w'→N a' w') :
  (if Region.wanted o (yielded ops a.tmps) then o.wpIn F 0 E.P a w N Qc else (∀ f,o.about E.P w a.eval=some f→F.fn f)∧N (a.put o.dst undef) w):=by
 unfold eV at ha
 split at ha
 ·rename_i c s' hg hb
  have:Region.wanted o (yielded ops a.tmps)=true:=by simp [Region.wanted,hg]
  rw [if_pos this]
  obtain ⟨rfl,hK⟩:=ha.out
  obtain ⟨k1,k2⟩:=JM hb
  exact sG (f:=f) hf (Ew h hb) hK k1 k2 N hN
 ·rename_i c s0 left g hg _ hb
  have:Region.wanted o (yielded ops a.tmps)=true:=by simp [Region.wanted,hg]
  rw [if_pos this]
  obtain ⟨rfl,hK1,hK2⟩:=ha.out
  obtain ⟨⟨x,ho,hm⟩,k1,k2⟩:=HQ hb
  have nd:∀ c,o.op≠.defer c:=fun c e=>by rw [ho] at e; cases e
  rcases Et h x ho hm with ⟨hl,hd⟩ | ⟨i,hi,hd⟩
  ·exact sG (f:=f) hf hd (hK1 hl) k1 nd N hN
  ·obtain ⟨q1,q2⟩:=(hK2 i hi).out
   exact sG (f:=f) hf (hd q1) q2 (k2 i) nd N hN
 ·exact yH h hf ha N hN
theorem yI {f:FuncId} {o:Oper} {F:Fence} {ops:Array Oper} {K:St→Prop} {Qc:Exit→Act→World→Prop} (h:aQ E R w β s a) (hf:bL R s.ro F) (ha:eX E f ops.toList o K s) (N:Act→World→Prop) (hN:∀ a' w',nE E R w β s K a' w'→N a' w') :
  (if Region.wanted o (yielded ops a.tmps) then o.wpIn F 0 E.P a w N Qc else (∀ f,o.about E.P w a.eval=some f→F.fn f)∧N (a.put o.dst undef) w):=by
 unfold eX at ha
 split at ha
 ·rename_i c s' hz
  obtain ⟨rfl,ha⟩:=ha
  obtain ⟨R1,k1,k2,k3⟩:=JI h hz
  refine oW k1 (by rw [k3]; exact hf.mono k2.ext) ha N ?_
  rintro a' w' ⟨s2,R',β',q1,q2,q3,q4⟩
  exact hN a' w' ⟨s2,R',β',q1,q2,k2.trans q3,q4.trans k3⟩
 ·exact oW h hf ha N hN
theorem vX {f:FuncId} {F:Fence} {ops:Array Oper} {K:St→Prop} {Qc:Exit→Act→World→Prop} (hQ:∀ a' w',nE E R w β s K a' w'→Qc .normal a' w') :
  ∀ (l:List Nat) (os:List Oper),l.map (fun i=>ops[i]?)=os.map some→∀ (R1:af) (w1:World) (β1:Nat→Nat) (s1:St) (a1:Act),aQ E R1 w1 β1 s1 a1→Step R w β s.boxes R1 w1 β1 s1.boxes→s1.ro=s.ro→bL R1 s1.ro F →
   nG E f ops.toList os K s1→wpOpsIn F 0 E.P ops Qc l a1 w1
 | [],os,hm,R1,w1,β1,s1,a1,hr,gy,aU,_,ha=>by
  have:os=[]:=by simpa using hm.symm
  subst this
  exact hQ _ _ ⟨s1,R1,β1,ha,hr,gy,aU⟩
 | i :: l,[],hm,_,_,_,_,_,_,_,_,_,_=>by simp at hm
 | i :: l,o :: os,hm,R1,w1,β1,s1,a1,hr,gy,aU,hf,ha=>by
  simp only [List.map_cons,List.cons.injEq] at hm
  obtain ⟨hi,hm⟩:=hm
  simp only [wpOpsIn,hi]
  refine yI hr hf (show eX E f ops.toList o (zA E f o (nG E f ops.toList os K)) s1 from ha) _ ?_
  rintro a' w' ⟨s',R',β',q1,q2,q3,q4⟩
  unfold zA at q1
  split at q1
  ·rename_i c s2 hp
   obtain ⟨rfl,q1⟩:=q1
   obtain ⟨R2,p1,p2,p3,_⟩:=HL q2 hp
   exact vX hQ l os hm R2 w' β' s2 a' p1 ((gy.trans q3).trans p2) (p3.trans (q4.trans aU)) (by rw [p3,q4]; exact hf.mono (q3.ext.trans p2.ext)) q1
  ·exact q1.elim
theorem HR (ops:Array Oper):(List.range ops.size).map (fun i=>ops[i]?)=ops.toList.map some:=by
 apply List.ext_getElem?
 intro i
 simp only [List.getElem?_map]
 by_cases hi:i < ops.size
 ·rw [List.getElem?_range hi]
  simp [hi]
 ·rw [List.getElem?_eq_none (by simp; omega),List.getElem?_eq_none (by simp; omega)]
  rfl
theorem eH.region {f:FuncId} {id:Nat} {ops:Array Oper} {Q:Exit→St→Prop} {s:St} (h:nG E f ops.toList ops.toList (Q .normal) s):eH E (.region id ops false) Q s:=fun R w β a F hr hf=>by
 refine wpIn_region (vX (R:=R) (w:=w) (β:=β) (s:=s) (K:=Q .normal) (f:=f) ?_ _ _ (HR ops) R w β s a hr (Step.refl _ _ _ _) rfl hf h)
 rintro a' w' ⟨s',R',β',h1,h2⟩
 exact ⟨s',R',β',h1,h2⟩
end regions
end Go.Am
namespace Go.Am
open Go
def TD:Nat→List AV→a8
 | _,[]=>[]
 | n,a :: l=>.put n (.v a) :: TD (n+1) l
def St.init (ntmps:Nat) (args:List AV) (G:List GO):St:=
 ⟨TD 0 args,[],G,[],none,max ntmps args.length⟩
def nH:List Nat→List GO→Option (List GO)
 | [],G=>some G
 | id :: l,G=>match nth G id with
  | some (.defers true)=>nH l (au G id (.defers false))
  | _=>none
def EJ (E:Env) (s:St):List ResultVar→Option (List AV)
 | []=>some []
 | .tmp t :: l=>match lk s.ae t,EJ E s l with
  | .v a,some r=>some (a :: r)
  | _,_=>none
 | .cell p t :: l=>match qk E s t (lk s.ae p),EJ E s l with
  | some a,some r=>some (a :: r)
  | _,_=>none
def JN (E:Env) (s:St) (fn:Func):Option AV:=match EJ E s fn.results.toList with
 | some [a]=>some a
 | some l=>some (.bF l)
 | none=>none
def Pc (E:Env) (fn:Func) (Q:AV→List GO→Prop):Exit→St→Prop
 | .normal,s | .ret,s=>match nH s.marks s.G with
  | some G=>match JN E (s.bn G) fn with
   | some r=>Q r G
   | none=>False
  | none=>False
 | _,_=>False
section fns
variable {E:Env} {R:af} {w:World} {β:Nat→Nat} {s:St} {a:Act}
def vY (tmps:Array Value):ResultVar→Sem Value
 | .tmp t=>pure (tmps.getD t undef)
 | .cell p t=>do loadVar t (← asAddr (tmps.getD p undef))
theorem vZ (fn:Func) (tmps:Array Value):results fn tmps=(do
  let vs ← fn.results.mapM (vY tmps)
  pure (if h:vs.size=1 then vs[0] else .tuple vs)):=by
 unfold results
 congr 1
theorem qU (h:aQ E R w β s a):∀ {l:List ResultVar} {r:List AV},EJ E s l=some r →
  ∃ vs,(l.mapM (vY a.tmps)).run E.P w=.ok vs w∧aC R w r vs
 | [],r,hl=>by
  simp [EJ] at hl
  subst hl
  exact ⟨[],by simp,.nil⟩
 | .tmp t :: l,r,hl=>by
  unfold EJ at hl
  split at hl
  ·rename_i x r' h1 h2
   cases hl
   obtain ⟨vs,g1,g2⟩:=qU h h2
   obtain ⟨c,k1,k2⟩:=h.t t (by rw [h1]; simp)
   rw [h1] at k2
   have hg:a.tmps.getD t undef=c:=by simp [Array.getD_eq_getD_getElem?,k1]
   refine ⟨c :: vs,?_,.cons k2 g2⟩
   simp only [List.mapM_cons,Sem.run_bind,Sem.run_pure,Result.andThen_ok,vY,hg,g1]
  ·cases hl
 | .cell p t :: l,r,hl=>by
  unfold EJ at hl
  split at hl
  ·rename_i v r' h1 h2
   ·cases hl
    obtain ⟨vs,g1,g2⟩:=qU h h2
    obtain ⟨c,k1,k2⟩:=h.t p (fun e=>by rw [e] at h1; unfold qk at h1; split at h1 <;> simp_all [mf])
    have hg:a.tmps.getD p undef=c:=by simp [Array.getD_eq_getD_getElem?,k1]
    unfold qk at h1
    split at h1
    ·rename_i i cs off hi hc
     split at h1
     ·rename_i l' hs
      obtain ⟨b,o',us,e,q1,q2,q3⟩:=tg h k2 hc
      obtain ⟨m1,m2,m3,m4⟩:=mn hs q1 q2
      obtain ⟨c',mO,dh⟩:=kR (E:=E) hi (b:=b) (off:=o'+off) m1 m2 m3 (fun j y hy=>by rw [Nat.add_assoc]; exact q3 _ _ (m4 j y hy)) h1
      refine ⟨c' :: vs,?_,.cons dh g2⟩
      have ha:(asAddr c).run E.P w=.ok ⟨b,o'+off,none⟩ w:=by rw [e]; rfl
      have QA:(vY a.tmps (.cell p t)).run E.P w=.ok c' w:=by
       simp only [vY,Sem.run_bind,hg,ha,Result.andThen_ok,mO]
      simp only [List.mapM_cons,Sem.run_bind,Sem.run_pure,Result.andThen_ok,QA,g1]
     ·cases h1
    ·cases h1
  ·cases hl
theorem JO (h:aQ E R w β s a) {fn:Func} {r:AV} (hr:JN E s fn=some r):∃ c,(results fn a.tmps).run E.P w=.ok c w∧Rel R w r c:=by
 unfold JN at hr
 split at hr
 ·rename_i x hl
  cases hr
  obtain ⟨vs,g1,g2⟩:=qU h hl
  cases g2 with
  | @cons _ c _ _ g2 g3=>
  cases g3
  refine ⟨c,?_,g2⟩
  rw [vZ,Array.mapM_eq_mapM_toList]
  simp only [Sem.run_bind,Sem.run_map]
  rw [g1]
  simp
 ·rename_i l cg hl
  cases hr
  obtain ⟨vs,g1,g2⟩:=qU h hl
  refine ⟨.tuple ⟨vs⟩,?_,.bF g2⟩
  have hlen:vs.length≠1:=by
   rw [← g2.length]
   intro e
   match l,e with
   | [x],_=>exact cg x rfl
  rw [vZ,Array.mapM_eq_mapM_toList]
  simp only [Sem.run_bind,Sem.run_map]
  rw [g1]
  simp [hlen]
 ·cases hr
theorem HS (fn:Func) (Q:Ending→World→Prop):∀ {marks:List Nat} {G G':List GO} {R:af} {w:World} {β:Nat→Nat} {s:St} {a:Act},aQ E R w β (s.bn G) a→oL R marks a.defers→nH marks G=some G' →
  (∀ w' ,aQ E R w' β (s.bn G') a→Step R w β s.boxes R w' β s.boxes→∃ v,(results fn a.tmps).run E.P w'=.ok v w'∧Q (.returned v) w')→LeavesInM Fence.wide 0 E.P fn a.tmps Q a.defers .returning w:=by
 intro marks
 have key:∀ (marks:List Nat) (ds:List Deferred) (G G':List GO) (R:af) (w:World) (β:Nat→Nat) (s:St) (a:Act),aQ E R w β (s.bn G) a→oL R marks ds→nH marks G=some G' →
   (∀ w' ,aQ E R w' β (s.bn G') a→Step R w β s.boxes R w' β s.boxes→∃ v,(results fn a.tmps).run E.P w'=.ok v w'∧Q (.returned v) w')→LeavesInM Fence.wide 0 E.P fn a.tmps Q ds .returning w:=by
  intro marks
  induction marks with
  | nil=>
   intro ds G G' R w β s a hr hd hl hq
   cases ds with
   | cons _ _=>exact hd.elim
   | nil=>
    simp [nH] at hl
    subst hl
    obtain ⟨v,h1,h2⟩:=hq w hr (Step.refl _ _ _ _)
    exact ⟨v,h1,h2⟩
  | cons id marks ih=>
   intro ds G G' R w β s a hr hd hl hq
   cases ds with
   | nil=>exact hd.elim
   | cons d ds=>
    obtain ⟨⟨b,hb,rfl⟩,hd⟩:=hd
    unfold nH at hl
    split at hl
    ·rename_i hg
     have EL:w.heap[b]?=some (.deferred (some [])):=hr.g.obj id _ _ hg hb
     have bK:=bj EL
     have Jj:(Instr.takeDeferred b).run E.P w=.ok [] (World.put w b (.deferred none)):=by
      simp only [Instr.takeDeferred,getObj,setObj,Sem.run_bind,Sem.run,EL,Result.andThen_ok,Sem.run_pure]
      rfl
     obtain ⟨q1,q2⟩:=hr.setObj (s:=s.bn G) (x':=.deferred none) (go':=.defers false) hb EL trivial trivial (fun _ e=>by cases e) (gz w b _ bK)
     refine ⟨by simp,.inl ⟨b,_,rfl,Jj,?_⟩⟩
     refine ih ds (au G id (.defers false)) G' R _ β s a q1 hd hl (fun w' iE gy=>?_)
     exact hq w' iE (q2.trans gy)
    ·cases hl
 intro G G' R w β s a hr hd hl hq
 exact key marks a.defers G G' R w β s a hr hd hl hq
end fns
end Go.Am
namespace Go.Am
open Go
section intro
variable {E:Env} {R R':af} {w w':World} {β β':Nat→Nat}
theorem v8 {bx FX:cp} (h:Step R w β bx R' w' β' FX) (hn:∀ k cs,cX bx k≠some cs):Step R w (fun _=>0) gN R' w' (fun _=>0) gN:=by
 have own:∀ b,Own R β bx b→Live R b:=fun b ho=>by
  rcases ho with ho | ⟨k,cs,hk,_⟩
  ·exact ho
  ·exact absurd hk (hn k cs)
 exact ⟨h.ext,h.os,h.tape,h.output,h.size,fun b hb nu=>h.bY b hb (fun ho=>nu (.inl (own b ho))),fun b hb ho=>.inl (own b (h.own b hb (.inl (eC ho)))),fun b o hi hb nu=>h.im b o hi hb (fun ho=>nu (.inl (own b ho)))⟩
theorem JP:∀ {l:List AV} {n i:Nat},(i < n∨n+l.length≤i→lk (TD n l) i=.none)∧(∀ a,l[i - n]?=some a→n≤i→lk (TD n l) i=.v a)
 | [],n,i=>⟨fun _=>rfl,fun a h=>by simp at h⟩
 | b :: l,n,i=>by
  obtain ⟨h1,h2⟩:=JP (l:=l) (n:=n+1) (i:=i)
  refine ⟨fun h=>?_,fun a h hn=>?_⟩
  ·simp only [List.length_cons] at h
   simp only [TD]
   rw [aI (by omega)]
   exact h1 (by omega)
  ·simp only [TD]
   by_cases e:n=i
   ·subst e
    rw [ax]
    simp at h
    rw [h]
   ·rw [aI e]
    refine h2 a ?_ (by omega)
    have:i - n=(i - (n+1))+1:=by omega
    rw [this] at h
    simpa using h
theorem JQ {ntmps:Nat} {args:List AV} {cs:List Value} {G:List GO} (hg:dN E R w G) (hl:aC R w args cs) :
  aQ E R w (fun _=>0) (St.init ntmps args G) { tmps:=⟨cs⟩++Array.replicate (ntmps - (⟨cs⟩:Array Value).size) undef,defers:=[] }:=by
 have hlen:=hl.length
 refine ⟨hg,⟨fun k c hk=>?_,fun k k' c c' hk _ _=>?_⟩,fun i hi=>?_,?_,trivial⟩
 ·simp [St.init,cX] at hk
 ·simp [St.init,cX] at hk
 ·simp only [St.init] at hi ⊢
  obtain ⟨h1,h2⟩:=JP (l:=args) (n:=0) (i:=i)
  by_cases bK:i < args.length
  ·have hy:args[i]?=some args[i]:=List.getElem?_eq_getElem bK
   obtain ⟨c,k1,k2⟩:=hl.get hy
   rw [h2 _ (by rw [Nat.sub_zero]; exact hy) (Nat.zero_le _)]
   refine ⟨c,?_,k2⟩
   rw [Array.getElem?_append_left (by simp; omega)]
   simpa using k1
  ·exact absurd (h1 (by omega)) hi
 ·simp [St.init]
  omega
theorem EM {ntmps:Nat} {args:List AV} {G:List GO} (k:Nat) (cs:List AV):cX (St.init ntmps args G).boxes k≠some cs:=by
 simp [St.init,cX]
theorem cJ.intro {g : FuncId} {fn : Func} {c : Code} {args : List AV} {G : List GO} {Q : AV → List GO → Prop} (hf : E.P.funcs[g]? = some fn) (hb : fn.body = some c) (hn : (fn.name == "runtime.NumGoroutine") = false)
  (h:eH E c (Pc E fn Q) (St.init fn.ntmps args G)):cJ E g args G Q:=by
 refine ⟨⟨fn,hf,by simp [hb],hn⟩,fun R w cs hg hl=>?_⟩
 refine callsIn_of_wp_marks hf hb trivial (wpIn_mono (h R w (fun _=>0) _ Fence.wide (JQ hg hl) rfl) ?_)
 rintro e a' w' ⟨s',R',β',hq,hr,gy,aU⟩
 have fin:(match nH s'.marks s'.G with
  | some G=>match JN E (s'.bn G) fn with
   | some r=>Q r G
   | none=>False
  | none=>False)→LeavesInM Fence.wide 0 E.P fn a'.tmps (Gl E R w Q) a'.defers .returning w':=by
  intro hq
  split at hq
  ·rename_i G2 UO
   split at hq
   ·rename_i r AT
    refine HS fn (Gl E R w Q) (s:=s') (G:=s'.G) hr hr.d UO (fun Mp vW oV=>?_)
    obtain ⟨v,h1,h2⟩:=JO vW AT
    exact ⟨v,h1,r,G2,R',hq,h2,vW.g,v8 (gy.trans oV) EM⟩
   ·exact hq.elim
  ·exact hq.elim
 cases e with
 | normal=>exact fin hq
 | ret=>exact fin hq
 | exit _=>exact hq.elim
 | goto _=>exact hq.elim
 | panic _=>exact hq.elim
 | outgrown=>exact hq.elim
end intro
end Go.Am
namespace Go.Am
open Go
def St.eY (s:St) (pre:a8) (preB:cp) (G:List GO):St:=⟨pre++s.ae,preB++s.boxes,G,s.marks,s.ro,s.n⟩
def TE (al:Bool) (dst:Option Tmp) (pre:a8):Prop:=
 pre=[]∨∃ d x,dst=some d∧(pre=[.put d x]∨(al=true∧pre=[.put d x,.kill d]))
def bM (al w:Bool) (dst:Option Tmp) (s t s' t':St):Prop:=
 ∃ pre preB G,TE al dst pre∧(w=false→preB=[]∧G=s.G∧∃ x,s'=s.put dst x∧t'=t.put dst x)∧s'=s.eY pre preB G∧t'=t.eY pre preB G
section
variable {E:Env} {s t:St} {o:Oper}
theorem kU (s:St) (d:Tmp) (x:SV):s.put (some d) x=bif Nat.blt d s.n then s.eY [.put d x] [] s.G else s:=by
 cases h:Nat.blt d s.n <;> simp [St.put,h,St.eY]
theorem bM.put {al w:Bool} (hn:s.n=t.n) (hG:s.G=t.G) (dst:Option Tmp) (x:SV):bM al w dst s t (s.put dst x) (t.put dst x):=by
 cases dst with
 | none=>exact ⟨[],[],s.G,.inl rfl,fun _=>⟨rfl,rfl,x,rfl,rfl⟩,rfl,by rw [hG]; rfl⟩
 | some d=>
  have hx:∃ y,s.put (some d) x=s.put (some d) y∧t.put (some d) x=t.put (some d) y:=⟨x,rfl,rfl⟩
  revert hx
  generalize hs:s.put (some d) x=s'
  generalize ht:t.put (some d) x=t'
  intro hx
  rw [kU] at hs ht
  rw [← hn] at ht
  revert hs ht
  cases Nat.blt d s.n with
  | true=>exact fun hs ht=>⟨[.put d x],[],s.G,.inr ⟨d,x,rfl,.inl rfl⟩,fun _=>⟨rfl,rfl,hx⟩,hs.symm,by rw [hG]; exact ht.symm⟩
  | false=>exact fun hs ht=>⟨[],[],s.G,.inl rfl,fun _=>⟨rfl,rfl,hx⟩,hs.symm,by rw [hG]; exact ht.symm⟩
theorem bM.cV {al:Bool} (hn:s.n=t.n) (G:List GO) (dst:Option Tmp) (x:SV):bM al true dst s t ((s.bn G).put dst x) ((t.bn G).put dst x):=by
 cases dst with
 | none=>exact ⟨[],[],G,.inl rfl,fun h=>(by cases h),rfl,rfl⟩
 | some d=>
  rw [kU,kU,show (t.bn G).n=(s.bn G).n from hn.symm]
  cases Nat.blt d (s.bn G).n with
  | true=>exact ⟨[.put d x],[],G,.inr ⟨d,x,rfl,.inl rfl⟩,fun h=>(by cases h),rfl,rfl⟩
  | false=>exact ⟨[],[],G,.inl rfl,fun h=>(by cases h),rfl,rfl⟩
theorem bM.bn {al:Bool} (G:List GO) (dst:Option Tmp):bM al true dst s t (s.bn G) (t.bn G):=⟨[],[],G,.inl rfl,fun h=>(by cases h),rfl,rfl⟩
theorem bM.ta {al:Bool} (hG:s.G=t.G) (dst:Option Tmp) (d:Nat) (cs:List AV):bM al true dst s t (s.ta d cs) (t.ta d cs):=
 ⟨[],[(d,cs)],s.G,.inl rfl,fun h=>(by cases h),rfl,(by rw [hG]; rfl)⟩
theorem fU {a b:a8}:∀ {l:List Operand},(∀ y∈l,bp E a y=bp E b y)→kN E a l=kN E b l
 | [],_=>rfl
 | x :: l,h=>by
  simp only [kN]
  rw [h x (by simp),fU (l:=l) (fun y hy=>h y (by simp [hy]))]
theorem lV {a b:a8}:∀ {l:List (Nat × Operand)},(∀ p∈l,bp E a p.2=bp E b p.2)→L4 E a l=L4 E b l
 | [],_=>rfl
 | (i,x) :: l,h=>by
  simp only [L4]
  rw [h (i,x) (by simp),lV (l:=l) (fun y hy=>h y (by simp [hy]))]
theorem yJ (hG:s.G=t.G) (p:SV) (hB:∀ k off,p=.lp k off→cX s.boxes k=cX t.boxes k):mf s p=mf t p:=by
 unfold mf
 rw [hG]
 cases p with
 | lp k off=>simp only [hB k off rfl]
 | v a=>cases a <;> rfl
 | _=>rfl
theorem Ct (hG:s.G=t.G) (ty:TypeId) (p:SV) (hB:∀ k off,p=.lp k off→cX s.boxes k=cX t.boxes k):qk E s ty p=qk E t ty p:=by
 unfold qk
 rw [yJ hG p hB]
theorem tG (hG:s.G=t.G) (id f i sz:Nat) (ty:TypeId):vh E s id f i sz ty=vh E t id f i sz ty:=by
 unfold vh
 rw [hG]
theorem tH (hG:s.G=t.G) (id j f i sz:Nat) (ty:TypeId):vi E s id j f i sz ty=vi E t id j f i sz ty:=by
 unfold vi
 rw [hG]
theorem Cu (hG:s.G=t.G) (ty:TypeId) (p:SV) (hB:∀ k off,p=.lp k off→cX s.boxes k=cX t.boxes k):zb E s ty p=zb E t ty p:=by
 unfold zb
 split
 ·rw [tG hG]
 ·rw [tH hG]
 ·rw [Ct hG _ _ hB]
theorem Cv (hG:s.G=t.G) (esz:Nat) (d x:AV):qo s esz d x=qo t esz d x:=by
 unfold qo
 rw [hG]
theorem tJ {f:FuncId} {dst:Option Tmp} {el:TypeId} {cs:List AV} {c:Bool} {s':St} (hn:s.n=t.n) (hG:s.G=t.G) (h:eL E f s dst el cs=some (c,s')) :
  ∃ t',eL E f t dst el cs=some (c,t')∧bM true true dst s t s' t':=by
 unfold eL at *
 cases dst with
 | none=>cases h
 | some d=>
  simp only at *
  split at h
  ·rename_i hg
   injection h with h
   injection h with h1 h2
   subst h1 h2
   rw [if_pos hg]
   refine ⟨_,rfl,?_⟩
   have:=bM.cV (al:=true) hn (s.G++[.row cs el]) (some d) (.v (.ptr s.G.length 0))
   rw [hG] at this
   have e:s.df (.row cs el)=s.bn (t.G++[.row cs el]):=by rw [← hG]; rfl
   rw [e,hG]
   exact this
  ·rename_i hg
   rw [if_neg hg,← hn]
   split at h
   ·rename_i hb
    injection h with h
    injection h with h1 h2
    subst h1 h2
    refine ⟨_,rfl,[.put d (.lp d 0),.kill d],[(d,cs)],s.G,.inr ⟨d,_,rfl,.inr ⟨rfl,rfl⟩⟩,fun h=>(by cases h),?_,?_⟩
    ·simp [St.put,St.ta,St.kill,hb,St.eY]
    ·simp only [St.put,St.ta,St.kill,← hn,hb,St.eY,hG]
     rfl
   ·cases h
theorem Cw {ty:TypeId} {p x:SV} {s':St} {al:Bool} {dst:Option Tmp} (hG:s.G=t.G) (hB:∀ k off,p=.lp k off→cX s.boxes k=cX t.boxes k) (h:gl E s ty p x=some s') :
  ∃ t',gl E t ty p x=some t'∧bM al true dst s t s' t':=by
 unfold gl at *
 split at h
 ·split at h
  ·rename_i hc
   rw [if_pos hc]
   split at h
   ·rw [← hB _ _ rfl]
    split at h
    ·split at h
     ·rename_i HT
      cases h
      simp only [HT,if_true]
      exact ⟨_,rfl,.ta hG _ _ _⟩
     ·cases h
    ·cases h
   ·rw [← hG]
    split at h
    ·split at h
     ·rename_i HT
      cases h
      simp only [HT,if_true]
      exact ⟨_,rfl,.bn _ _⟩
     ·cases h
    ·cases h
   ·cases h
  ·cases h
 ·cases h
theorem Cx {ty:TypeId} {p x:SV} {c:Bool} {s':St} {al:Bool} {dst:Option Tmp} (hG:s.G=t.G) (hB:∀ k off,p=.lp k off→cX s.boxes k=cX t.boxes k) (h:er E s ty p x=some (c,s')) :
  ∃ t',er E t ty p x=some (c,t')∧bM al true dst s t s' t':=by
 unfold er at *
 split at h
 ·rw [← hG]
  split at h
  ·split at h
   ·rename_i h1 h2 hc
    simp only [hc,if_true]
    split at h
    ·rename_i HT
     injection h with h; injection h with e1 e2
     subst e1; subst e2
     simp only [HT,if_true]
     exact ⟨_,rfl,.bn _ _⟩
    ·rename_i HT
     rw [if_neg HT,← tG hG]
     split at h
     ·rename_i hg
      split at h
      ·rename_i Yf
       injection h with h; injection h with e1 e2
       subst e1; subst e2
       simp only [Yf,if_true]
       exact ⟨_,rfl,.bn _ _⟩
      ·cases h
     ·cases h
   ·cases h
  ·cases h
 ·rw [← hG]
  split at h
  ·split at h
   ·rename_i h1 h2 hc
    simp only [hc,if_true]
    split at h
    ·rename_i HT
     injection h with h; injection h with e1 e2
     subst e1; subst e2
     simp only [HT,if_true]
     exact ⟨_,rfl,.bn _ _⟩
    ·rename_i HT
     rw [if_neg HT,← tH hG]
     split at h
     ·rename_i hg
      split at h
      ·rename_i Yf
       injection h with h; injection h with e1 e2
       subst e1; subst e2
       simp only [Yf,if_true]
       exact ⟨_,rfl,.bn _ _⟩
      ·cases h
     ·cases h
   ·cases h
  ·cases h
 ·split at h
  ·rename_i s1 hs
   injection h with h; injection h with e1 e2
   subst e1; subst e2
   obtain ⟨t',h3,h4⟩:=Cw (al:=al) (dst:=dst) hG hB hs
   simp only [h3]
   exact ⟨_,rfl,h4⟩
  ·cases h
theorem EN (hG:s.G=t.G) (p x:SV):pn s p x=pn t p x:=by unfold pn; rw [hG]
theorem Cy {ty:TypeId} {p x:SV} {c:Bool} {s':St} {al:Bool} {dst:Option Tmp} (hG:s.G=t.G) (hB:∀ k off,p=.lp k off→cX s.boxes k=cX t.boxes k) (h:jl E s ty p x=some (c,s')) :
  ∃ t',jl E t ty p x=some (c,t')∧bM al true dst s t s' t':=by
 unfold jl at *
 rw [← EN hG]
 split at h
 ·rename_i c1 s1 hs
  injection h with h; injection h with e1 e2
  subst e1; subst e2
  obtain ⟨t',h3,pre,preB,G,h4,_,h5,h6⟩:=Cx (s:=s.bn (pn s p x).2.2) (t:=t.bn (pn s p x).2.2) (al:=al) (dst:=dst) rfl hB hs
  rw [h3]
  exact ⟨_,rfl,pre,preB,G,h4,(fun h=>by cases h),h5,h6⟩
 ·cases h
def bV:Op→Bool
 | .alloc _=>true
 | .box _ _=>true
 | _=>false
def sb:Op→Bool
 | .move _ | .assign _ | .pick _ _ _ | .build _ _ | .buildSlice _ _ _ | .load _ _ | .binOp _ _ _ _ _ | .unOp _ _ _ | .convert _ _ _ | .makeFunc _ _ _ | .fieldAddr _ _ _ | .field _ _ _
 | .indexAddr _ _ _ | .index _ _ _ | .slice _ _ _ _ _ | .extract _ _ | .lookup _ _ _ _ | .nilCheck _=>true
 | .call { callee:=.builtin .len,.. }=>true
 | .call { callee:=.builtin .max,.. }=>true
 | .call { callee:=.builtin .min,.. }=>true
 | _=>false
def QB:Op→Bool
 | .load _ _=>true
 | .lookup _ _ _ _=>true
 | .call _=>true
 | .convert _ _ _=>true
 | _=>false
def MN:Builtin→Bool
 | .append | .copy | .clear=>true
 | _=>false
theorem yK {dst:Option Tmp} {b:Builtin} {l:List AV} {tys:List TypeId} {c:Bool} {s':St} {al:Bool} (hn:s.n=t.n) (hG:s.G=t.G) (h:bS E s dst b l tys=some (c,s')) :
  ∃ t',bS E t dst b l tys=some (c,t')∧bM al (MN b) dst s t s' t':=by
 obtain ⟨sl,bx,G,m,ro,n⟩:=s
 obtain ⟨TF,FX,G',m',jm,n'⟩:=t
 have hc:=fun esz d x=>Cv (s:=⟨sl,bx,G,m,ro,n⟩) (t:=⟨TF,FX,G',m',jm,n'⟩) hG esz d x
 simp only at hn hG
 subst hn hG
 unfold bS at h ⊢
 simp only [← hc]
 cases b
 all_goals (try (cases h; done))
 all_goals (try simp only at h ⊢)
 all_goals (try (split at h <;> first | (cases h; done) | simp only at h ⊢))
 all_goals (repeat' (split at h))
 all_goals (first | (cases h; done) | skip)
 all_goals (injection h with h; injection h with h1 h2; subst h1 h2)
 all_goals (try simp only [if_true, *])
 all_goals (first | exact ⟨_,rfl,.put (by rfl) (by rfl) _ _⟩ | exact ⟨_,rfl,.cV (by rfl) _ _ _⟩ | exact ⟨_,rfl,.bn _ _⟩)
theorem wg (hG:s.G=t.G) (a b:TypeId) (x:SV):lI E s a b x=lI E t a b x:=by
 unfold lI
 rw [hG]
theorem yL (hG:s.G=t.G) (ty:TypeId) (m k:SV):kP E s ty m k=kP E t ty m k:=by
 have:mapOf s=mapOf t:=by funext m; unfold mapOf; rw [hG]
 unfold kP iT
 rw [this,hG]
theorem qV {ty:TypeId} {m k x:SV} {s':St} {al:Bool} {dst:Option Tmp} (hG:s.G=t.G) (h:eN E s ty m k x=some s') :
  ∃ t',eN E t ty m k x=some t'∧bM al true dst s t s' t':=by
 unfold eN at *
 rw [← hG]
 repeat' (split at h)
 all_goals (first | (cases h; done) | skip)
 cases h
 simp only [*]
 exact ⟨_,rfl,.bn _ _⟩
theorem EO {dst:Option Tmp} {x:SV} {s':St} {al:Bool} (hn:s.n=t.n) (hG:s.G=t.G) (h:kQ s dst x=some s') :
  ∃ t',kQ t dst x=some t'∧bM al true dst s t s' t':=by
 unfold kQ at *
 rw [← hG]
 split at h
 ·split at h
  ·rename_i l pos hg
   cases hb:Nat.blt pos l.length with
   | true=>
    rw [hb] at h
    simp only [cond_true] at h ⊢
    cases h
    exact ⟨_,rfl,.cV hn _ _ _⟩
   | false=>
    rw [hb] at h
    simp only [cond_false] at h ⊢
    cases h
    obtain ⟨pre,preB,G,p1,p2,p3⟩:=bM.put (al:=al) (w:=true) hn hG dst (.v (.bF [.bool false]))
    exact ⟨_,rfl,pre,preB,G,p1,p2,p3⟩
  ·cases h
 ·cases h
theorem my {f:FuncId} {r:Bool × St} (h:gu E f s o=some r):∃ args tys,o.op=.call { callee:=.builtin .append,args:=args,argTypes:=tys }:=by
 unfold gu at h
 split at h
 ·split at h
  ·split at h
   ·rename_i args tys ho
    exact ⟨args,tys,ho⟩
   ·cases h
  ·cases h
 ·cases h
theorem wh {f:FuncId} {c:Bool} {s':St} {al:Bool} (hn:s.n=t.n) (hG:s.G=t.G) (dP:∀ y∈o.op.operands,bp E s.ae y=bp E t.ae y)
  (h:gu E f s o=some (c,s')):∃ t',gu E f t o=some (c,t')∧bM al true o.dst s t s' t':=by
 obtain ⟨args,tys,ho⟩:=my h
 have h1:kN E s.ae args.toList=kN E t.ae args.toList:=fU fun y hy=>dP y (by rw [ho]; simp [Op.operands,Call.operands]; simpa using hy)
 unfold gu at h ⊢
 rw [ho] at h ⊢
 simp only [h1,hG] at h ⊢
 repeat' (split at h)
 all_goals (first | (cases h; done) | skip)
 injection h with h; injection h with h2 h3
 subst h2 h3
 simp only [*,if_true]
 refine ⟨_,rfl,?_⟩
 exact bM.cV hn _ _ _
theorem uw {f:FuncId} (hn:s.n=t.n) (hG:s.G=t.G) (dP:∀ y∈o.op.operands,bp E s.ae y=bp E t.ae y) (h:gu E f s o=none):gu E f t o=none:=by
 cases ht:gu E f t o with
 | none=>rfl
 | some r=>
  obtain ⟨t',h1,_⟩:=wh (s:=t) (t:=s) (al:=false) hn.symm hG.symm (fun y hy=>(dP y hy).symm) (c:=r.1) (s':=r.2) ht
  rw [h] at h1
  cases h1
theorem qW {f:FuncId} {c:Bool} {s':St} (hn:s.n=t.n) (hG:s.G=t.G) (hB:∀ k off,(∃ y∈o.op.operands,bp E s.ae y=.lp k off)→cX s.boxes k=cX t.boxes k) (dP:∀ y∈o.op.operands,bp E s.ae y=bp E t.ae y)
  (h:ao E f s o=some (c,s')):∃ t',ao E f t o=some (c,t')∧bM (bV o.op) (!sb o.op) o.dst s t s' t':=by
 obtain ⟨dst,op,ty,pos,after,guard⟩:=o
 cases op
 case move x=>
  simp only [ao,dP x (by simp [Op.operands])] at h ⊢
  split at h
  all_goals (injection h with h; injection h with h1 h2; subst h1 h2; (try simp only [*]); exact ⟨_,rfl,.put hn hG _ _⟩)
 case assign x=>
  simp only [ao,dP x (by simp [Op.operands])] at h ⊢
  split at h
  all_goals (injection h with h; injection h with h1 h2; subst h1 h2; (try simp only [*]); exact ⟨_,rfl,.put hn hG _ _⟩)
 case pick x y z=>
  simp only [ao,dP x (by simp [Op.operands]),dP y (by simp [Op.operands]),dP z (by simp [Op.operands])] at h ⊢
  split at h
  ·injection h with h; injection h with h1 h2; subst h1 h2; (try simp only [*]); exact ⟨_,rfl,.put hn hG _ _⟩
  ·cases h
 case alloc e=>
  simp only [ao] at h ⊢
  repeat' (split at h)
  all_goals (first | (cases h; done) | skip)
  simp only [*]
  exact tJ hn hG h
 case box e x=>
  simp only [ao,dP x (by simp [Op.operands])] at h ⊢
  repeat' (split at h)
  all_goals (first | (cases h; done) | skip)
  simp only [*]
  exact tJ hn hG h
 case build ty ps=>
  have he:mg E s ty ps.toList=mg E t ty ps.toList:=by
   unfold mg
   rw [lV (fun p hp=>dP p.2 (by simp only [Op.operands,List.mem_toArray,List.mem_map]; exact ⟨p,hp,rfl⟩))]
  simp only [ao,he] at h ⊢
  split at h
  ·injection h with h; injection h with h1 h2; subst h1 h2; (try simp only [*]); exact ⟨_,rfl,.put hn hG _ _⟩
  ·cases h
 case buildSlice ty len ps=>
  have he:b8 E s ty len ps.toList=b8 E t ty len ps.toList:=by
   unfold b8
   rw [lV (fun p hp=>dP p.2 (by simp only [Op.operands,List.mem_toArray,List.mem_map]; exact ⟨p,hp,rfl⟩))]
  simp only [ao,he] at h ⊢
  split at h
  ·injection h with h; injection h with h1 h2; subst h1 h2; (try simp only [*]); exact ⟨_,rfl,.put hn hG _ _⟩
  ·cases h
 case load ty x=>
  simp only [ao,dP x (by simp [Op.operands])] at h ⊢
  rw [Cu hG ty _ (fun k off e=>hB k off ⟨x,by simp [Op.operands],by rw [dP x (by simp [Op.operands])]; exact e⟩)] at h
  split at h
  ·injection h with h; injection h with h1 h2; subst h1 h2; (try simp only [*]); exact ⟨_,rfl,.put hn hG _ _⟩
  ·cases h
 case store ty x y=>
  simp only [ao,dP x (by simp [Op.operands]),dP y (by simp [Op.operands])] at h ⊢
  split at h
  ·rename_i s1 hs
   injection h with h; injection h with h1 h2; subst h1 h2
   obtain ⟨t',h3,h4⟩:=Cy (al:=false) (dst:=none) hG (fun k off e=>hB k off ⟨x,by simp [Op.operands],by rw [dP x (by simp [Op.operands])]; exact e⟩) hs
   rw [h3]
   exact ⟨_,rfl,h4⟩
  ·cases h
 case binOp op a x y b=>
  simp only [ao,dP x (by simp [Op.operands]),dP y (by simp [Op.operands])] at h ⊢
  repeat' (split at h)
  all_goals (first | (cases h; done) | skip)
  all_goals (injection h with h; injection h with h1 h2; subst h1 h2; (try simp only [*]); exact ⟨_,rfl,.put hn hG _ _⟩)
 case unOp op a x=>
  simp only [ao,dP x (by simp [Op.operands])] at h ⊢
  repeat' (split at h)
  all_goals (first | (cases h; done) | skip)
  all_goals (injection h with h; injection h with h1 h2; subst h1 h2; (try simp only [*]); exact ⟨_,rfl,.put hn hG _ _⟩)
 case nilCheck x=>
  simp only [ao,dP x (by simp [Op.operands])] at h ⊢
  repeat' (split at h)
  all_goals (first | (cases h; done) | skip)
  all_goals (injection h with h; injection h with h1 h2; subst h1 h2; (try simp only [*]); exact ⟨_,rfl,.put hn hG _ _⟩)
 case convert a b x=>
  simp only [ao,dP x (by simp [Op.operands]),wg hG] at h ⊢
  repeat' (split at h)
  all_goals (first | (cases h; done) | skip)
  all_goals (injection h with h; injection h with h1 h2; subst h1 h2; (try simp only [*]); exact ⟨_,rfl,.put hn hG _ _⟩)
 case makeFunc fo a b=>
  cases fo with
  | func g=>
   have h1:kN E s.ae a.toList=kN E t.ae a.toList:=fU fun y hy=>dP y (by simp only [Op.operands,Array.mem_append]; exact .inl (by simpa using hy))
   have h2:kN E s.ae b.toList=kN E t.ae b.toList:=fU fun y hy=>dP y (by simp only [Op.operands,Array.mem_append]; exact .inr (by simpa using hy))
   simp only [ao,h1,h2] at h ⊢
   repeat' (split at h)
   all_goals (first | (cases h; done) | skip)
   all_goals (injection h with h; injection h with h1 h2; subst h1 h2; (try simp only [*]); exact ⟨_,rfl,.put hn hG _ _⟩)
  | _=>simp [ao] at h
 case fieldAddr a x j=>
  simp only [ao,dP x (by simp [Op.operands])] at h ⊢
  repeat' (split at h)
  all_goals (first | (cases h; done) | skip)
  all_goals (injection h with h; injection h with h1 h2; subst h1 h2; (try simp only [*]); exact ⟨_,rfl,.put hn hG _ _⟩)
 case field a x j=>
  simp only [ao,dP x (by simp [Op.operands])] at h ⊢
  repeat' (split at h)
  all_goals (first | (cases h; done) | skip)
  all_goals (injection h with h; injection h with h1 h2; subst h1 h2; (try simp only [*]); exact ⟨_,rfl,.put hn hG _ _⟩)
 case indexAddr a x y=>
  simp only [ao,dP x (by simp [Op.operands]),dP y (by simp [Op.operands])] at h ⊢
  repeat' (split at h)
  all_goals (first | (cases h; done) | skip)
  all_goals (injection h with h; injection h with h1 h2; subst h1 h2; (try simp only [*]); exact ⟨_,rfl,.put hn hG _ _⟩)
 case index a x y=>
  simp only [ao,dP x (by simp [Op.operands]),dP y (by simp [Op.operands])] at h ⊢
  repeat' (split at h)
  all_goals (first | (cases h; done) | skip)
  all_goals (injection h with h; injection h with h1 h2; subst h1 h2; (try simp only [*]); exact ⟨_,rfl,.put hn hG _ _⟩)
 case slice a x lo hi mx=>
  have h1:kG E s.ae lo=kG E t.ae lo:=by
   cases lo with
   | none=>rfl
   | some y=>simp only [kG]; rw [dP y (by simp [Op.operands])]
  have h2:kG E s.ae hi=kG E t.ae hi:=by
   cases hi with
   | none=>rfl
   | some y=>simp only [kG]; rw [dP y (by simp [Op.operands])]
  simp only [ao,dP x (by simp [Op.operands]),h1,h2] at h ⊢
  repeat' (split at h)
  all_goals (first | (cases h; done) | skip)
  all_goals (injection h with h; injection h with h1 h2; subst h1 h2; (try simp only [*]); exact ⟨_,rfl,.put hn hG _ _⟩)
 case extract x i=>
  simp only [ao,dP x (by simp [Op.operands])] at h ⊢
  repeat' (split at h)
  all_goals (first | (cases h; done) | skip)
  all_goals (injection h with h; injection h with h1 h2; subst h1 h2; (try simp only [*]); exact ⟨_,rfl,.put hn hG _ _⟩)
 case makeSlice ty x y=>
  simp only [ao,mi,dP x (by simp [Op.operands]),dP y (by simp [Op.operands]),hG] at h ⊢
  repeat' (split at h)
  all_goals (first | (cases h; done) | skip)
  all_goals (injection h with h; injection h with h1 h2; subst h1 h2)
  all_goals (simp only [*])
  all_goals (refine ⟨_,rfl,?_⟩)
  all_goals (have e:∀ o,t.df o=t.bn (t.G++[o]):=fun o=>rfl)
  all_goals (have e':∀ o,s.df o=s.bn (t.G++[o]):=fun o=>by rw [← hG]; rfl)
  all_goals (try rw [e,e'])
  all_goals (exact bM.cV (al:=false) hn _ dst _)
 case lookup ty x y ok=>
  simp only [ao,dP x (by simp [Op.operands]),dP y (by simp [Op.operands]),yL hG] at h ⊢
  split at h
  ·injection h with h; injection h with h1 h2; subst h1 h2; (try simp only [*]); exact ⟨_,rfl,.put hn hG _ _⟩
  ·cases h
 case mapUpdate ty x y z=>
  simp only [ao,dP x (by simp [Op.operands]),dP y (by simp [Op.operands]),dP z (by simp [Op.operands])] at h ⊢
  split at h
  ·rename_i s1 hs
   injection h with h; injection h with h1 h2; subst h1 h2
   obtain ⟨t',h3,h4⟩:=qV (al:=false) (dst:=none) hG hs
   rw [h3]
   exact ⟨_,rfl,h4⟩
  ·cases h
 case insert ty x y z=>
  simp only [ao,dP x (by simp [Op.operands]),dP y (by simp [Op.operands]),dP z (by simp [Op.operands])] at h ⊢
  split at h
  ·rename_i s1 hs
   injection h with h; injection h with h1 h2; subst h1 h2
   obtain ⟨t',h3,h4⟩:=qV (al:=false) (dst:=none) hG hs
   rw [h3]
   exact ⟨_,rfl,h4⟩
  ·cases h
 case entry x=>
  simp only [ao,dP x (by simp [Op.operands])] at h ⊢
  have e:si E s (bp E t.ae x)=si E t (bp E t.ae x):=by unfold si; rw [hG]
  rw [e] at h
  split at h
  ·injection h with h; injection h with h1 h2; subst h1 h2; (try simp only [*]); exact ⟨_,rfl,.put hn hG _ _⟩
  ·cases h
 case mapEntry ty x y=>
  simp only [ao,dP x (by simp [Op.operands]),dP y (by simp [Op.operands])] at h ⊢
  unfold fL at h ⊢
  rw [← hG]
  repeat' (split at h)
  all_goals (first | (cases h; done) | skip)
  rename_i iP
  repeat' (split at iP)
  all_goals (first | (cases iP; done) | skip)
  injection iP with iP; injection iP with h3 iP; injection iP with h4 h5
  injection h with h; injection h with h1 h2; subst h1 h2 h3 h4 h5
  simp only [*,if_true]
  exact ⟨_,rfl,bM.cV (al:=false) hn _ dst _⟩
 case entryStore ty x y z=>
  simp only [ao,dP x (by simp [Op.operands]),dP y (by simp [Op.operands]),dP z (by simp [Op.operands])] at h ⊢
  unfold dM at h ⊢
  rw [← hG]
  repeat' (split at h)
  all_goals (first | (cases h; done) | skip)
  rename_i iP
  repeat' (split at iP)
  all_goals (first | (cases iP; done) | skip)
  injection iP with iP; injection iP with h3 h5
  injection h with h; injection h with h1 h2; subst h1 h2 h3 h5
  simp only [*]
  exact ⟨_,rfl,.bn _ _⟩
 case range ty x=>
  simp only [ao,dP x (by simp [Op.operands])] at h ⊢
  repeat' (split at h)
  all_goals (first | (cases h; done) | skip)
  ·injection h with h; injection h with h1 h2; subst h1 h2
   (try simp only [*])
   refine ⟨_,rfl,?_⟩
   have e:∀ o,t.df o=t.bn (s.G++[o]):=fun o=>by rw [hG]; rfl
   rw [e,← hG]
   exact bM.cV (al:=false) hn _ dst _
  ·rename_i hk hg
   injection h with h; injection h with h1 h2; subst h1 h2
   have zj:=hg
   rw [hG] at zj
   simp only [hk,zj]
   refine ⟨_,rfl,?_⟩
   have e:∀ o,t.df o=t.bn (s.G++[o]):=fun o=>by rw [hG]; rfl
   rw [e,← hG]
   exact bM.cV (al:=false) hn _ dst _
 case next x b=>
  cases b with
  | false=>simp [ao] at h
  | true=>
   simp only [ao,dP x (by simp [Op.operands])] at h ⊢
   split at h
   ·rename_i s1 hs
    injection h with h; injection h with h1 h2; subst h1 h2
    obtain ⟨t',h3,h4⟩:=EO (al:=false) hn hG hs
    rw [h3]
    exact ⟨_,rfl,h4⟩
   ·cases h
 case makeMap ty r=>
  cases r with
  | none=>
   simp only [ao] at h ⊢
   injection h with h; injection h with h1 h2; subst h1 h2
   refine ⟨_,rfl,?_⟩
   have:=bM.cV (al:=false) hn (s.G++[.map []]) dst (.v (.map s.G.length))
   have e:∀ o,t.df o=t.bn (s.G++[o]):=fun o=>by rw [hG]; rfl
   rw [e,← hG]
   exact this
  | some _=>simp [ao] at h
 case call cl=>
  obtain ⟨callee,args,tys⟩:=cl
  cases callee with
  | builtin b=>
   have h1:kN E s.ae args.toList=kN E t.ae args.toList:=fU fun y hy=>dP y (by simp [Op.operands,Call.operands]; simpa using hy)
   cases hf:gu E f s { dst:=dst,op:=.call { callee:=.builtin b,args:=args,argTypes:=tys },type:=ty,pos:=pos,after:=after,guard:=guard } with
   | some r=>
    simp only [ao,hf] at h
    obtain ⟨t',q1,q2⟩:=wh (al:=bV (.call { callee:=.builtin b,args:=args,argTypes:=tys })) hn hG dP (c:=r.1) (s':=r.2) hf
    cases h
    obtain ⟨a2,t2,ho⟩:=my hf
    cases ho
    refine ⟨t',by simp only [ao,q1],?_⟩
    exact q2
   | none=>
   have UD:=uw hn hG dP hf
   simp only [ao,hf,UD,h1] at h ⊢
   split at h
   ·(try simp only [*])
    obtain ⟨t',h3,h4⟩:=yK (al:=false) hn hG h
    refine ⟨t',h3,?_⟩
    have:(!sb (.call { callee:=.builtin b,args:=args,argTypes:=tys }))=MN b∨MN b=false:=by cases b <;> simp [sb,MN]
    rcases this with this | this
    ·rw [this]; exact h4
    ·obtain ⟨pre,preB,G,p1,p2,p3⟩:=h4
     exact ⟨pre,preB,G,p1,fun _=>p2 this,p3⟩
   ·cases h
  | _=>simp [ao] at h
 all_goals (simp [ao] at h)
theorem gO {f:FuncId} {c:Bool} {s':St} (hn:s.n=t.n) (hG:s.G=t.G) (hB:cX s.boxes=cX t.boxes) (dP:∀ y∈o.op.operands,bp E s.ae y=bp E t.ae y)
  (h:ao E f s o=some (c,s')):∃ t',ao E f t o=some (c,t')∧bM (bV o.op) (!sb o.op) o.dst s t s' t':=
 qW hn hG (fun k _ _=>by rw [hB]) dP h
end
end Go.Am
namespace Go.Am
open Go
structure ot (s t:St):Prop where
 l:lk s.ae=lk t.ae
 b:cX s.boxes=cX t.boxes
 G:s.G=t.G
 m:s.marks=t.marks
 ro:s.ro=t.ro
 n:s.n=t.n
theorem ot.refl (s:St):ot s s:=⟨rfl,rfl,rfl,rfl,rfl,rfl⟩
theorem ot.symm {s t:St} (h:ot s t):ot t s:=⟨h.l.symm,h.b.symm,h.G.symm,h.m.symm,h.ro.symm,h.n.symm⟩
theorem ot.trans {s t u:St} (h:ot s t) (k:ot t u):ot s u:=⟨h.l.trans k.l,h.b.trans k.b,h.G.trans k.G,h.m.trans k.m,h.ro.trans k.ro,h.n.trans k.n⟩
theorem lW {a b:a8} {e:Nat} (h:lk a e=lk b e):∀ pre:a8,lk (pre++a) e=lk (pre++b) e
 | []=>h
 | .put d x :: pre=>by
  simp only [List.cons_append,lk]
  rw [lW h pre]
 | .kill d :: pre=>by
  simp only [List.cons_append,lk]
  rw [lW h pre]
theorem wi {a b:cp} {e:Nat} (h:cX a e=cX b e):∀ pre:cp,cX (pre++a) e=cX (pre++b) e
 | []=>h
 | (d,x) :: pre=>by
  simp only [List.cons_append,cX]
  rw [wi h pre]
theorem ot.eY {s t:St} (h:ot s t) (pre:a8) (preB:cp) (G:List GO):ot (s.eY pre preB G) (t.eY pre preB G):=
 ⟨funext fun e=>lW (by rw [h.l]) pre,funext fun e=>wi (by rw [h.b]) preB,rfl,h.m,h.ro,h.n⟩
theorem JR {E:Env} {a b:a8} {x:Operand} (h:∀ t,x=.tmp t→lk a t=lk b t):bp E a x=bp E b x:=by
 cases x with
 | tmp t=>exact h t rfl
 | _=>rfl
theorem ot.bp {E:Env} {s t:St} (h:ot s t) (x:Operand):bp E s.ae x=bp E t.ae x:=JR fun e _=>by rw [h.l]
section BP
variable {E:Env} {R:af} {w:World} {β:Nat→Nat} {s t:St} {a:Act}
theorem aQ.eqv (h:aQ E R w β s a) (e:ot s t):aQ E R w β t a where
 g:=by rw [← e.G]; exact h.g
 b:=⟨fun k cs hk=>h.b.box k cs (by rw [e.b]; exact hk),fun k k' c c' h1 h2=>h.b.inj k k' c c' (by rw [e.b]; exact h1) (by rw [e.b]; exact h2)⟩
 t:=fun i hi=>by
  rw [← e.l] at hi ⊢
  exact h.t i hi
 n:=by rw [← e.n]; exact h.n
 d:=by rw [← e.m]; exact h.d
theorem uP {bx FX:cp} (h:cX bx=cX FX) {b:Nat} (k:Own R β bx b):Own R β FX b:=by
 rcases k with k | ⟨j,cs,h1,h2⟩
 ·exact .inl k
 ·exact .inr ⟨j,cs,by rw [← h]; exact h1,h2⟩
theorem Step.eqv {R':af} {w':World} {β':Nat→Nat} {bx FX cx cx':cp} (h:Step R w β bx R' w' β' FX) (h1:cX bx=cX cx) (h2:cX FX=cX cx'):Step R w β cx R' w' β' cx':=
 ⟨h.ext,h.os,h.tape,h.output,h.size,fun b hb hn=>h.bY b hb (fun ho=>hn (uP h1 ho)),fun b hb ho=>uP h1 (h.own b hb (uP h2.symm ho)),fun b o hi hb hn=>h.im b o hi hb (fun ho=>hn (uP h1 ho))⟩
end BP
section ops
variable {E:Env} {s t:St} {f:FuncId} {o:Oper} {K K':St→Prop}
def Inv (K:St→Prop):Prop:=∀ s t,ot s t→K s→K t
theorem Cz {op:Op} (h:sb op=true):bV op=false:=by
 cases op <;> simp_all [sb,bV]
theorem sH (hn:s.n=t.n) (hG:s.G=t.G) (hB:cX s.boxes=cX t.boxes) (dP:∀ y∈o.op.operands,bp E s.ae y=bp E t.ae y) (h:jM E f o K s)
  (hK:∀ pre preB G,TE (bV o.op) o.dst pre→(sb o.op=true→preB=[]∧G=s.G)→K (s.eY pre preB G)→K' (t.eY pre preB G)):jM E f o K' t:=by
 unfold jM at h ⊢
 split at h
 ·rename_i x args tys ho
  have h1:bp E s.ae x=bp E t.ae x:=dP x (by rw [ho]; simp [Op.operands,Call.operands])
  have h2:kN E s.ae args.toList=kN E t.ae args.toList:=fU fun y hy=>dP y (by rw [ho]; simp [Op.operands,Call.operands]; exact .inr (by simpa using hy))
  try simp only [ho]
  rw [← h1,← h2,← hG]
  split at h
  ·refine cJ.mono h fun r G' hk=>?_
   obtain ⟨pre,preB,G,p1,p2,p3,p4⟩:=bM.cV (s:=s) (t:=t) (al:=bV o.op) hn G' o.dst (.v r)
   rw [p3] at hk
   rw [p4]
   exact hK pre preB G p1 (fun e=>by rw [ho] at e; simp [sb] at e) hk
  ·refine kf.mono h fun r G' hk=>?_
   obtain ⟨pre,preB,G,p1,p2,p3,p4⟩:=bM.cV (s:=s) (t:=t) (al:=bV o.op) hn G' o.dst (.v (.bool r))
   rw [p3] at hk
   rw [p4]
   exact hK pre preB G p1 (fun e=>by rw [ho] at e; simp [sb] at e) hk
  ·exact h.elim
 ·exact h.elim
 ·split at h
  ·rename_i c s' hs
   obtain ⟨t',h1,pre,preB,G,p1,p2,p3,p4⟩:=gO hn hG hB dP hs
   rw [h1]
   obtain ⟨rfl,hk⟩:=h.out
   refine di.mk rfl ?_
   rw [p3] at hk
   rw [p4]
   exact hK pre preB G p1 (fun e=>⟨(p2 (by simp [e])).1,(p2 (by simp [e])).2.1⟩) hk
  ·exact h.elim
theorem sI (h:jM E f o K s) (hK:∀ s,K s→K' s):jM E f o K' s:=
 sH rfl rfl rfl (fun _ _=>rfl) h fun _ _ _ _ _ hk=>hK _ hk
theorem wj (h:jM E f o K s) (e:ot s t) (hK:Inv K):jM E f o K t:=
 sH e.n e.G e.b (fun y _=>e.bp y) h fun _ _ _ _ _ hk=>hK _ _ (e.eY _ _ _) hk
def BQ (ops:List Oper) (s:St) (o:Oper):Option Bool:=match o.guard with
 | none=>some true
 | some (j,want)=>match nF ops j with
  | some d=>match lk s.ae d with
   | .v (.bool b)=>some (b == want)
   | .v (.bF [])=>some false
   | _=>none
  | none=>none
theorem CA (s:St) {d:Tmp} {x:SV} (h:lk s.ae d=x):ot s (s.put (some d) x):=by
 simp only [St.put]
 split
 ·refine ⟨funext fun e=>?_,rfl,rfl,rfl,rfl,rfl⟩
  by_cases k:d=e
  ·subst k; rw [ax]; exact h
  ·rw [aI k]
 ·exact ot.refl s
theorem ot.put {s t:St} (h:ot s t) (d:Option Tmp) (x:SV):ot (s.put d x) (t.put d x):=by
 obtain ⟨pre,preB,G,_,_,p3,p4⟩:=bM.put (s:=s) (t:=t) (al:=false) (w:=false) h.n h.G d x
 rw [p3,p4]
 exact h.eY _ _ _
theorem fE {ops:List Oper} (hK:Inv K):b9 E f ops o K s↔(BQ ops s o=some true∧jM E f o K s)∨(BQ ops s o=some false∧K (s.put o.dst (.v fu))):=by
 unfold b9 BQ
 cases hg:o.guard with
 | none=>simp
 | some p=>
  obtain ⟨j,want⟩:=p
  simp only
  cases hd:nF ops j with
  | none=>simp
  | some d=>
   simp only
   cases hl:lk s.ae d with
   | none=>simp
   | lp _ _=>simp
   | v a=>
    cases a with
    | bool b=>
     have e1:b=want→ot s (s.put (some d) (.v (.bool want))):=fun e=>CA s (by rw [hl,e])
     have e2:b=(!want)→ot s (s.put (some d) (.v (.bool (!want)))):=fun e=>CA s (by rw [hl,e])
     constructor
     ·intro ⟨h1,h2⟩
      by_cases e:b=want
      ·exact .inl ⟨by simp [e],wj (h1 e) (e1 e).symm hK⟩
      ·have e':b=(!want):=by cases b <;> cases want <;> simp_all
       exact .inr ⟨by simp [e],hK _ _ ((e2 e').symm.put _ _) (h2 e')⟩
     ·rintro (⟨h1,h2⟩ | ⟨h1,h2⟩)
      ·have e:b=want:=by simpa using h1
       exact ⟨fun e=>wj h2 (e1 e) hK,fun e'=>by subst e; cases b <;> cases e'⟩
      ·have e:¬ b=want:=by simpa using h1
       exact ⟨fun k=>absurd k e,fun e'=>hK _ _ ((e2 e').put _ _) h2⟩
    | bF vs=>cases vs <;> simp
    | _=>simp
theorem ca {ops:List Oper} (h:b9 E f ops o K s) (hK:∀ s,K s→K' s):b9 E f ops o K' s:=by
 unfold b9 at h ⊢
 split at h
 ·exact sI h hK
 ·split at h
  ·exact h.elim
  ·split at h
   ·exact ⟨fun e=>sI (h.1 e) hK,fun e=>hK _ (h.2 e)⟩
   ·exact hK _ h
   ·exact h.elim
theorem AU {ops:List Oper} (e:ot s t):BQ ops s o=BQ ops t o:=by
 unfold BQ
 rw [e.l]
theorem CB {ops:List Oper} (hK:Inv K):Inv (b9 E f ops o K):=fun s t e h=>by
 rw [fE hK] at h ⊢
 rcases h with ⟨h1,h2⟩ | ⟨h1,h2⟩
 ·exact .inl ⟨by rw [← AU e]; exact h1,wj h2 e hK⟩
 ·exact .inr ⟨by rw [← AU e]; exact h1,hK _ _ (e.put _ _) h2⟩
end ops
end Go.Am
namespace Go.Am
open Go
def JS (dst:Option Tmp) (s t s' t':St):Prop:=∃ x,s'=s.put dst x∧t'=t.put dst x
section
variable {E:Env} {s t:St} {o:Oper}
theorem JS.put (_:s.n=t.n) (dst:Option Tmp) (x:SV):JS dst s t (s.put dst x) (t.put dst x):=⟨x,rfl,rfl⟩
theorem CC {f:FuncId} {c:Bool} {s':St} (hN:sb o.op=true) (hR:QB o.op=false) (hn:s.n=t.n) (dP:∀ y∈o.op.operands,bp E s.ae y=bp E t.ae y)
  (h:ao E f s o=some (c,s')):∃ t',ao E f t o=some (c,t')∧JS o.dst s t s' t':=by
 obtain ⟨dst,op,ty,pos,after,guard⟩:=o
 cases op
 case move x=>
  simp only [ao,dP x (by simp [Op.operands])] at h ⊢
  split at h
  all_goals (injection h with h; injection h with h1 h2; subst h1 h2; (try simp only [*]); exact ⟨_,rfl,.put hn _ _⟩)
 case assign x=>
  simp only [ao,dP x (by simp [Op.operands])] at h ⊢
  split at h
  all_goals (injection h with h; injection h with h1 h2; subst h1 h2; (try simp only [*]); exact ⟨_,rfl,.put hn _ _⟩)
 case pick x y z=>
  simp only [ao,dP x (by simp [Op.operands]),dP y (by simp [Op.operands]),dP z (by simp [Op.operands])] at h ⊢
  split at h
  ·injection h with h; injection h with h1 h2; subst h1 h2; (try simp only [*]); exact ⟨_,rfl,.put hn _ _⟩
  ·cases h
 case build ty ps=>
  have he:mg E s ty ps.toList=mg E t ty ps.toList:=by
   unfold mg
   rw [lV (fun p hp=>dP p.2 (by simp only [Op.operands,List.mem_toArray,List.mem_map]; exact ⟨p,hp,rfl⟩))]
  simp only [ao,he] at h ⊢
  split at h
  ·injection h with h; injection h with h1 h2; subst h1 h2; (try simp only [*]); exact ⟨_,rfl,.put hn _ _⟩
  ·cases h
 case buildSlice ty len ps=>
  have he:b8 E s ty len ps.toList=b8 E t ty len ps.toList:=by
   unfold b8
   rw [lV (fun p hp=>dP p.2 (by simp only [Op.operands,List.mem_toArray,List.mem_map]; exact ⟨p,hp,rfl⟩))]
  simp only [ao,he] at h ⊢
  split at h
  ·injection h with h; injection h with h1 h2; subst h1 h2; (try simp only [*]); exact ⟨_,rfl,.put hn _ _⟩
  ·cases h
 case binOp op a x y b=>
  simp only [ao,dP x (by simp [Op.operands]),dP y (by simp [Op.operands])] at h ⊢
  repeat' (split at h)
  all_goals (first | (cases h; done) | skip)
  all_goals (injection h with h; injection h with h1 h2; subst h1 h2; (try simp only [*]); exact ⟨_,rfl,.put hn _ _⟩)
 case unOp op a x=>
  simp only [ao,dP x (by simp [Op.operands])] at h ⊢
  repeat' (split at h)
  all_goals (first | (cases h; done) | skip)
  all_goals (injection h with h; injection h with h1 h2; subst h1 h2; (try simp only [*]); exact ⟨_,rfl,.put hn _ _⟩)
 case convert a b x=>simp [QB] at hR
 case nilCheck x=>
  simp only [ao,dP x (by simp [Op.operands])] at h ⊢
  repeat' (split at h)
  all_goals (first | (cases h; done) | skip)
  all_goals (injection h with h; injection h with h1 h2; subst h1 h2; (try simp only [*]); exact ⟨_,rfl,.put hn _ _⟩)
 case makeFunc fo a b=>
  cases fo with
  | func g=>
   have h1:kN E s.ae a.toList=kN E t.ae a.toList:=fU fun y hy=>dP y (by simp only [Op.operands,Array.mem_append]; exact .inl (by simpa using hy))
   have h2:kN E s.ae b.toList=kN E t.ae b.toList:=fU fun y hy=>dP y (by simp only [Op.operands,Array.mem_append]; exact .inr (by simpa using hy))
   simp only [ao,h1,h2] at h ⊢
   repeat' (split at h)
   all_goals (first | (cases h; done) | skip)
   all_goals (injection h with h; injection h with h1 h2; subst h1 h2; (try simp only [*]); exact ⟨_,rfl,.put hn _ _⟩)
  | _=>simp [ao] at h
 case fieldAddr a x j=>
  simp only [ao,dP x (by simp [Op.operands])] at h ⊢
  repeat' (split at h)
  all_goals (first | (cases h; done) | skip)
  all_goals (injection h with h; injection h with h1 h2; subst h1 h2; (try simp only [*]); exact ⟨_,rfl,.put hn _ _⟩)
 case field a x j=>
  simp only [ao,dP x (by simp [Op.operands])] at h ⊢
  repeat' (split at h)
  all_goals (first | (cases h; done) | skip)
  all_goals (injection h with h; injection h with h1 h2; subst h1 h2; (try simp only [*]); exact ⟨_,rfl,.put hn _ _⟩)
 case indexAddr a x y=>
  simp only [ao,dP x (by simp [Op.operands]),dP y (by simp [Op.operands])] at h ⊢
  repeat' (split at h)
  all_goals (first | (cases h; done) | skip)
  all_goals (injection h with h; injection h with h1 h2; subst h1 h2; (try simp only [*]); exact ⟨_,rfl,.put hn _ _⟩)
 case index a x y=>
  simp only [ao,dP x (by simp [Op.operands]),dP y (by simp [Op.operands])] at h ⊢
  repeat' (split at h)
  all_goals (first | (cases h; done) | skip)
  all_goals (injection h with h; injection h with h1 h2; subst h1 h2; (try simp only [*]); exact ⟨_,rfl,.put hn _ _⟩)
 case slice a x lo hi mx=>
  have h1:kG E s.ae lo=kG E t.ae lo:=by
   cases lo with
   | none=>rfl
   | some y=>simp only [kG]; rw [dP y (by simp [Op.operands])]
  have h2:kG E s.ae hi=kG E t.ae hi:=by
   cases hi with
   | none=>rfl
   | some y=>simp only [kG]; rw [dP y (by simp [Op.operands])]
  simp only [ao,dP x (by simp [Op.operands]),h1,h2] at h ⊢
  repeat' (split at h)
  all_goals (first | (cases h; done) | skip)
  all_goals (injection h with h; injection h with h1 h2; subst h1 h2; (try simp only [*]); exact ⟨_,rfl,.put hn _ _⟩)
 case extract x i=>
  simp only [ao,dP x (by simp [Op.operands])] at h ⊢
  repeat' (split at h)
  all_goals (first | (cases h; done) | skip)
  all_goals (injection h with h; injection h with h1 h2; subst h1 h2; (try simp only [*]); exact ⟨_,rfl,.put hn _ _⟩)
 all_goals (first | (simp [sb] at hN; done) | (simp [QB] at hR; done))
end
end Go.Am
