/- The abstract machine: regions in the order of the text,calls,control. -/
import Derived.Test.YtophnjjjmikmeaaGreatAmKG
import Derived.RangeFuncCalls
import Derived.RangeFuncRecord
import Derived.RangeFuncIn
import Derived.OrdersIn
set_option linter.all false
namespace Go.Am
open Go
def bB (R:af) (ro:Option Nat) (F:Fence):Prop:=match ro with
 | none=>F=Fence.wide
 | some id=>∃ b,nth R.obj id=some (.bi b)∧F=Fence.wide.inRound b
theorem bB.mono {R R':af} {w w':World} (e:Ext R w R' w') {ro:Option Nat} {F:Fence} (h:bB R ro F):bB R' ro F:=by
 cases ro with
 | none=>exact h
 | some id=>obtain ⟨b,h1,h2⟩:=h; exact ⟨b,e.bi h1,h2⟩
theorem bB.fn {R:af} {ro:Option Nat} {F:Fence} (h:bB R ro F) (f:FuncId):F.fn f:=by
 cases ro with
 | none=>rw [show F=Fence.wide from h]; trivial
 | some id=>obtain ⟨b,_,h2⟩:=h; rw [h2]; trivial
theorem bB.depth {R:af} {ro:Option Nat} {F:Fence} (h:bB R ro F):F.depth=none:=by
 cases ro with
 | none=>rw [show F=Fence.wide from h]; rfl
 | some id=>obtain ⟨b,_,h2⟩:=h; rw [h2]; rfl
theorem bB.calls {R:af} {ro:Option Nat} {F:Fence} (h:bB R ro F) {n:Nat} {P:Program} {f:FuncId} {args:Array Value} {w:World} {Q:Ending→World→Prop} (hc:CallsIn Fence.wide n P f args w Q):CallsIn F n P f args w Q:=by
 cases ro with
 | none=>rw [show F=Fence.wide from h]; exact hc
 | some id=>obtain ⟨b,_,h2⟩:=h; rw [h2]; exact hc
def No (E:Env) (R:af) (w:World) (β:Nat→Nat) (s:St) (Q:Exit→St→Prop):Exit→Act→World→Prop:=
 fun e a' w'=>∃ s' R' β',Q e s'∧aL E R' w' β' s' a'∧Step R w β s.boxes R' w' β' s'.boxes∧s'.ro=s.ro
def ec (E:Env) (c:Code) (Q:Exit→St→Prop) (s:St):Prop:=
 ∀ (R:af) (w:World) (β:Nat→Nat) (a:Act) (F:Fence),aL E R w β s a→bB R s.ro F→c.wpIn F 0 E.P (No E R w β s Q) a w
theorem ec.mono {E:Env} {c:Code} {Q Q':Exit→St→Prop} {s:St} (h:ec E c Q s) (hq:∀ e s,Q e s→Q' e s):ec E c Q' s:=
 fun R w β a F hr hf=>wpIn_mono (h R w β a F hr hf) fun e _ _ ⟨s',R',β',h1,h2⟩=>⟨s',R',β',hq e s' h1,h2⟩
section rules
variable {E:Env} {Q:Exit→St→Prop} {s:St}
theorem ec.skip (h:Q .normal s):ec E .skip Q s:=fun _ _ _ _ _ hr _=>wpIn_skip ⟨s,_,_,h,hr,Step.refl _ _ _ _,rfl⟩
theorem ec.label {l:Nat} (h:Q .normal s):ec E (.label l) Q s:=fun _ _ _ _ _ hr _=>wpIn_label ⟨s,_,_,h,hr,Step.refl _ _ _ _,rfl⟩
theorem ec.exit {id:Nat} (h:Q (.exit id) s):ec E (.exit id) Q s:=fun _ _ _ _ _ hr _=>wpIn_exit ⟨s,_,_,h,hr,Step.refl _ _ _ _,rfl⟩
theorem ec.ret (h:Q .ret s):ec E .ret Q s:=fun _ _ _ _ _ hr _=>wpIn_ret ⟨s,_,_,h,hr,Step.refl _ _ _ _,rfl⟩
def sx (N:St→Prop) (Q:Exit→St→Prop):Exit→St→Prop
 | .normal,s=>N s
 | e,s=>Q e s
theorem ec.seq {x y:Code} (h:ec E x (sx (ec E y Q) Q) s):ec E (.seq x y) Q s:=fun R w β a F hr hf=>by
 refine wpIn_seq (wpIn_mono (h R w β a F hr hf) ?_)
 rintro e a' w' ⟨s',R',β',hq,gH,fF,aR⟩
 cases e with
 | normal=>
  refine wpIn_mono (hq R' w' β' a' F gH (by rw [aR]; exact hf.mono fF.ext)) ?_
  rintro e UG JF ⟨zd,Gn,Mb,Ha,uS,n9,sy⟩
  exact ⟨zd,Gn,Mb,Ha,uS,fF.trans n9,sy.trans aR⟩
 | _=>exact ⟨s',R',β',hq,gH,fF,aR⟩
theorem ec.cond {c:Operand} {x y:Code} {b:Bool} (hc:ba E s.ab c=.v (.bool b)) (h1:b=true→ec E x Q s) (h2:b=false→ec E y Q s):ec E (.cond c x y) Q s:=fun R w β a F hr hf=>by
 have rc:=aF hr c
 rw [hc] at rc
 have hb:a.eval c=.bool b:=by
  have WC:Rel R w (.bool b) (a.eval c):=rc
  generalize a.eval c=v at WC
  cases WC
  rfl
 exact wpIn_cond_split hb (fun e=>h1 e R w β a F hr hf) (fun e=>h2 e R w β a F hr hf)
def Np (id:Nat) (Q:Exit→St→Prop):Exit→St→Prop
 | .exit gb,s=>(gb=id→Q .normal s)∧(gb≠id→Q (.exit gb) s)
 | e,s=>Q e s
theorem ec.block {id:Nat} {c:Code} (h:ec E c (Np id Q) s):ec E (.block id c) Q s:=fun R w β a F hr hf=>by
 refine wpIn_block (wpIn_mono (h R w β a F hr hf) ?_)
 rintro e a' w' ⟨s',R',β',hq,rest⟩
 cases e with
 | exit gb=>
  by_cases e:gb=id
  ·simp only [Exit.inBlock,e,if_true]
   exact ⟨s',R',β',hq.1 e,rest⟩
  ·simp only [Exit.inBlock,e,if_false]
   exact ⟨s',R',β',hq.2 e,rest⟩
 | _=>exact ⟨s',R',β',hq,rest⟩
theorem gM {F:Fence} {n:Nat} {P:Program} {Q:Exit→Act→World→Prop} {c:Code} (I:Nat→Act→World→Prop)
  (round:∀ m a w,I m a w→c.wpIn F n P (Exit.then (fun a' w'=>∃ m',m' < m∧I m' a' w') Q) a w):∀ {m:Nat} {a:Act} {w:World},I m a w→(Code.loop c).wpIn F n P Q a w:=by
 intro m a w h₀ b k cs aR hb hr
 have key:∀ j a w,I j a w →
   ∃ e a' w',Q e a' w'∧ArrivesIn (Machine.fenced P F) P (lone (b.atR a (.code c :: .inLoop c :: k)) cs w) b k cs e a' w':=by
  intro j
  induction j using Nat.strongRecOn with
  | _ j ih=>
   intro a w hI
   obtain ⟨e,a₁,w₁,hq,oM⟩:=round j a w hI b (.inLoop c :: k) cs aR hb hr
   cases e with
   | normal=>
    obtain ⟨m',bM,Yr⟩:=hq
    obtain ⟨e₂,a₂,w₂,Ys,Rl⟩:=ih m' bM a₁ w₁ Yr
    exact ⟨e₂,a₂,w₂,Ys,.of_steps (StepsIn.trans oM (.one (fenced_calm hb hr rfl) stepR_inLoop)) Rl⟩
   | exit id=>exact ⟨_,a₁,w₁,hq,.pass (x:=.inLoop c) rfl (fun _ _=>.inl (by simp)) oM⟩
   | goto l=>exact ⟨_,a₁,w₁,hq,.pass (x:=.inLoop c) rfl (fun _ _=>.inl (by simp)) oM⟩
   | ret=>exact ⟨_,a₁,w₁,hq,.pass (x:=.inLoop c) rfl (fun _ _=>.inl (by simp)) oM⟩
   | panic ch=>exact ⟨_,a₁,w₁,hq,.pass (x:=.inLoop c) rfl (fun _ _=>.inl (by simp)) oM⟩
   | outgrown=>exact ⟨_,a₁,w₁,hq,.pass (x:=.inLoop c) rfl (fun _ _=>.inl (by simp)) oM⟩
 obtain ⟨e,a',w',hq,oM⟩:=key _ a w h₀
 exact ⟨e,a',w',hq,.of_steps (.one (fenced_calm hb hr rfl) stepR_loop) oM⟩
theorem ec.loop {c:Code} (I:Nat→St→Prop) (round:∀ m s,I m s→ec E c (sx (fun s'=>∃ m',m' < m∧I m' s') Q) s) {m:Nat} (h:I m s):ec E (.loop c) Q s:=fun R w β a F hr hf=>by
 refine gM (fun m a' w'=>∃ s' R' β',I m s'∧aL E R' w' β' s' a'∧Step R w β s.boxes R' w' β' s'.boxes∧s'.ro=s.ro) ?_ ⟨s,R,β,h,hr,Step.refl _ _ _ _,rfl⟩
 rintro m a' w' ⟨s',R',β',hI,gH,fF,aR⟩
 refine wpIn_mono (round m s' hI R' w' β' a' F gH (by rw [aR]; exact hf.mono fF.ext)) ?_
 rintro e UG JF ⟨zd,Gn,Mb,hq,uS,n9,sy⟩
 cases e with
 | normal=>
  obtain ⟨m',bM,Yt⟩:=hq
  exact ⟨m',bM,zd,Gn,Mb,Yt,uS,fF.trans n9,sy.trans aR⟩
 | _=>exact ⟨zd,Gn,Mb,hq,uS,fF.trans n9,sy.trans aR⟩
end rules
def noGoto (Q:Exit→Act→World→Prop):Exit→Act→World→Prop
 | .goto _,_,_=>False
 | e,a,w=>Q e a w
section scopes
variable {P:Program} {b:Frame} {a:Act} {k:List Item} {cs:List Frame} {w:World} {Q:Exit→Act→World→Prop} {F:Fence} {n:Nat}
theorem fU {c:Code}:step P (lone (b.atR a (.code (.scope c) :: k)) cs w)=.next (lone (b.atR a (.code c :: .inScope c :: k)) cs w):=
 step_lone_go (by simp [stepG,stepG.exec,Frame.atR])
theorem wW {c:Code}:step P (lone (b.atR a (.inScope c :: k)) cs w)=.next (lone (b.atR a k) cs w):=
 step_lone_go (by simp [stepG,stepG.exec,Frame.atR])
theorem CI {c:Code} (h:c.wpIn F n P (noGoto Q) a w):(Code.scope c).wpIn F n P Q a w:=by
 intro b k cs aR hb hr
 have h0:(lone (b.atR a (.code (.scope c) :: k)) cs w).fenced P F:=fenced_calm hb hr rfl
 obtain ⟨e,a₁,w₁,hq,oM⟩:=h b (.inScope c :: k) cs aR hb hr
 cases e with
 | normal=>exact ⟨.normal,a₁,w₁,hq,.head h0 fU (StepsIn.trans oM (.one (fenced_calm hb hr rfl) wW))⟩
 | exit id=>
  have hx:exitTo id (.inScope c :: k)=exitTo id k:=by simp [exitTo]
  exact ⟨.exit id,a₁,w₁,hq,fun k' hk=>.head h0 fU (oM.1 k' (by rw [hx]; exact hk)),
    fun gH hk=>let ⟨k₁,h1,h2⟩:=oM.2 gH (by rw [hx]; exact hk); ⟨k₁,h1,.head h0 fU h2⟩⟩
 | goto l=>exact hq.elim
 | ret=>exact ⟨_,a₁,w₁,hq,.of_steps (.one h0 fU) oM⟩
 | panic ch=>exact ⟨_,a₁,w₁,hq,.of_steps (.one h0 fU) oM⟩
 | outgrown=>exact ⟨_,a₁,w₁,hq,.of_steps (.one h0 fU) oM⟩
end scopes
def Nq (Q:Exit→St→Prop):Exit→St→Prop
 | .goto _,_=>False
 | e,s=>Q e s
theorem ec.scope {E:Env} {c:Code} {Q:Exit→St→Prop} {s:St} (h:ec E c (Nq Q) s):ec E (.scope c) Q s:=fun R w β a F hr hf=>by
 refine CI (wpIn_mono (h R w β a F hr hf) ?_)
 rintro e a' w' ⟨s',R',β',hq,rest⟩
 cases e with
 | goto l=>exact hq.elim
 | _=>exact ⟨s',R',β',hq,rest⟩
def gq:bX:=[]
def Ec (E:Env) (R:af) (w:World) (Q:AV→List GO→Prop):Ending→World→Prop
 | .returned c,w'=>∃ r G' R',Q r G'∧Rel R' w' r c∧dO E R' w' G'∧Step R w (fun _=>0) gq R' w' (fun _=>0) gq
 | _,_=>False
def zm (E:Env) (R:af) (w:World) (Q:Bool→List GO→Prop):Ending→World→Prop
 | .returned c,w'=>∃ r G' R',Q r G'∧c=.bool r∧dO E R' w' G'∧Step R w (fun _=>0) gq R' w' (fun _=>0) gq
 | _,_=>False
def jx (E:Env) (id:Nat) (args:List AV) (G:List GO) (Q:Bool→List GO→Prop):Prop:=
 ∀ (R:af) (w:World) (cs:List Value) (b:Nat),dO E R w G→aA R w args cs→nth R.obj id=some (.bi b) →
  ∃ r:Loop,w.heap[b]?=some (.loop r)∧cs.length=r.params.size ∧
   RoundIn Fence.wide 0 E.P b r.fn ((r.params.zip ⟨cs⟩).foldl (fun tmps (t,a)=>tmps.setIfInBounds t a) r.tmps) r.assign r.body w (zm E R w Q)
theorem jx.mono {E:Env} {id:Nat} {args:List AV} {G:List GO} {Q Q':Bool→List GO→Prop} (h:jx E id args G Q) (hq:∀ r G',Q r G'→Q' r G'):jx E id args G Q':=
 fun R w cs b hg hl hb=>by
  obtain ⟨r,h1,h2,h3⟩:=h R w cs b hg hl hb
  refine ⟨r,h1,h2,h3.mono fun e w' he=>?_⟩
  cases e with
  | returned c=>obtain ⟨r,G',R',k1,k2⟩:=he; exact ⟨r,G',R',hq _ _ k1,k2⟩
  | _=>exact he
def Plain (P : Program) (g : FuncId) : Prop := ∃ fn, P.funcs[g]? = some fn ∧ fn.body.isNone = false ∧ (fn.name == "runtime.NumGoroutine") = false
def cC (E:Env) (g:FuncId) (args:List AV) (G:List GO) (Q:AV→List GO→Prop):Prop:=
 Plain E.P g∧∀ (R:af) (w:World) (cs:List Value),dO E R w G→aA R w args cs→CallsIn Fence.wide 0 E.P g ⟨cs⟩ w (Ec E R w Q)
theorem cC.mono {E:Env} {g:FuncId} {args:List AV} {G:List GO} {Q Q':AV→List GO→Prop} (h:cC E g args G Q) (hq:∀ r G',Q r G'→Q' r G'):cC E g args G Q':=
 ⟨h.1,fun R w cs hg hl=>(h.2 R w cs hg hl).mono fun e _ he=>by
  cases e with
  | returned c=>obtain ⟨r,G',R',h1,h2⟩:=he; exact ⟨r,G',R',hq _ _ h1,h2⟩
  | _=>exact he⟩
theorem eF {R:af} {β:Nat→Nat} {b:Nat} (h:Own R β gq b):Live R b:=by
 rcases h with h | ⟨k,cs,hk,_⟩
 ·exact h
 ·simp [gq,cO] at hk
section calls
variable {E:Env} {R R':af} {w w':World} {β:Nat→Nat} {s:St} {a:Act} {o:Oper}
theorem aL.nA (h:aL E R w β s a) {G':List GO} (hg:dO E R' w' G') (st:Step R w (fun _=>0) gq R' w' (fun _=>0) gq) :
  aL E R' w' β (s.aZ G') a∧Step R w β s.boxes R' w' β s.boxes:=by
 have ux:∀ k cs,cO s.boxes k=some cs→β k < w.heap.size∧¬ Live R (β k):=fun k cs hk=>⟨h.cI (.inr ⟨k,cs,hk,rfl⟩),(h.b.box k cs hk).2.2⟩
 have live:∀ b,b < w.heap.size→Live R' b→Live R b:=fun b hb hl=>eF (st.own b hb (.inl hl))
 refine ⟨⟨hg,h.b.bl st.ext (fun k cs hk=>?_) (fun k cs o hk hi=>?_) (fun k cs hk hl=>live _ (ux k cs hk).1 hl),h.t.mono st.ext,h.n,h.d.mono st.ext⟩,?_⟩
 ·obtain ⟨h1,h2⟩:=ux k cs hk
  exact st.bl _ h1 (fun ho=>h2 (eF ho))
 ·obtain ⟨h1,h2⟩:=ux k cs hk
  exact st.im _ o hi h1 (fun ho=>h2 (eF ho))
 ·refine ⟨st.ext,st.os,st.tape,st.output,st.size,fun b hb hn=>st.bl b hb (fun ho=>hn (.inl (eF ho))),fun b hb ho=>?_,fun b o hi hb hn=>st.im b o hi hb (fun ho=>hn (.inl (eF ho)))⟩
  rcases ho with ho | ho
  ·exact .inl (live b hb ho)
  ·exact .inr ho
theorem lE {P:Program} {g:FuncId} (h:Plain P g) (args:Array Value) (w:World):(callFunc g args).run P w=.ok (.enter g args) w:=by
 obtain ⟨fn,h1,h2,h3⟩:=h
 unfold callFunc
 simp only [Sem.run_bind,run_program,Result.andThen_ok,h1,h2,h3,Bool.false_eq_true,if_false,Sem.run_pure]
def mH (E:Env) (R:af) (w:World) (β:Nat→Nat) (s:St) (K:St→Prop) (a':Act) (w':World):Prop:=
 ∃ s' R' β',K s'∧aL E R' w' β' s' a'∧Step R w β s.boxes R' w' β' s'.boxes∧s'.ro=s.ro
@[simp] theorem gr (s:St) (d:Option Tmp) (x:SV):(s.put d x).ro=s.ro:=by
 cases d with
 | none=>rfl
 | some d=>
  simp only [St.put]
  split <;> rfl
theorem Hb {f:FuncId} {c:Bool} {s':St} (h:fC E f s o=some (c,s')):s'.ro=s.ro:=by
 unfold fC at h
 repeat' (split at h)
 all_goals (first | (cases h; done) | skip)
 all_goals (injection h with h; injection h with _ h; subst h; simp [St.aZ])
theorem Fg {t:TypeId} {p x:SV} {c:Bool} {s':St} (h:dU E s t p x=some (c,s')):s'.ro=s.ro:=by
 have store:∀ {t:TypeId} {p x:SV} {s':St},fy E s t p x=some s'→s'.ro=s.ro:=by
  intro t p x s' h
  unfold fy at h
  repeat' (split at h)
  all_goals (first | (cases h; done) | skip)
  all_goals (injection h with h; subst h; rfl)
 unfold dU at h
 repeat' (split at h)
 all_goals (first | (cases h; done) | skip)
 all_goals (injection h with h; injection h with _ h; subst h)
 all_goals (first | rfl | exact store (by assumption))
theorem Fh {f:FuncId} {c:Bool} {s':St} (h:ak E f s o=some (c,s')):s'.ro=s.ro:=by
 have alloc:∀ {el:TypeId} {cs:List AV} {c:Bool} {s':St},ej E f s o.dst el cs=some (c,s')→s'.ro=s.ro:=by
  intro el cs c s' h
  unfold ej at h
  repeat' (split at h)
  all_goals (first | (cases h; done) | skip)
  all_goals (injection h with h; injection h with _ h; subst h; simp [St.cU,St.r7,St.kill])
 have store:∀ {t:TypeId} {p x:SV} {s':St},fy E s t p x=some s'→s'.ro=s.ro:=by
  intro t p x s' h
  unfold fy at h
  repeat' (split at h)
  all_goals (first | (cases h; done) | skip)
  all_goals (injection h with h; subst h; rfl)
 have Nr:∀ {t:TypeId} {p x:SV} {c:Bool} {s':St},dU E s t p x=some (c,s')→s'.ro=s.ro:=by
  intro t p x c s' h
  unfold dU at h
  repeat' (split at h)
  all_goals (first | (cases h; done) | skip)
  all_goals (injection h with h; injection h with _ h; subst h)
  all_goals (first | rfl | exact store (by assumption))
 have Ns:∀ {t:TypeId} {p x:SV} {c:Bool} {s':St},iz E s t p x=some (c,s')→s'.ro=s.ro:=by
  intro t p x c s' h
  unfold iz at h
  split at h
  ·rename_i hs
   injection h with h; injection h with _ h
   subst h
   exact Fg (s:=s.aZ (ox s p x).2.2) hs
  ·cases h
 have blt:∀ {b:Builtin} {l:List AV} {tys:List TypeId} {c:Bool} {s':St},bJ E s o.dst b l tys=some (c,s')→s'.ro=s.ro:=by
  intro b l tys c s' h
  unfold bJ at h
  repeat' (split at h)
  all_goals (first | (cases h; done) | skip)
  all_goals (injection h with h; injection h with _ h; subst h; simp [St.aZ])
 have update:∀ {t:TypeId} {m k x:SV} {s':St},eo E s t m k x=some s'→s'.ro=s.ro:=by
  intro t m k x s' h
  unfold eo at h
  repeat' (split at h)
  all_goals (first | (cases h; done) | skip)
  all_goals (injection h with h; subst h; rfl)
 have next:∀ {x:SV} {s':St},jW s o.dst x=some s'→s'.ro=s.ro:=by
  intro x s' h
  unfold jW at h
  split at h
  ·split at h
   ·rename_i l pos hg
    cases hb:Nat.blt pos l.length <;> rw [hb] at h <;> simp only [cond_true,cond_false] at h <;> cases h <;> simp [St.aZ]
   ·cases h
  ·cases h
 have CJ:∀ {t:TypeId} {m k:SV} {c:Bool} {v:AV} {s':St},eX E s t m k=some (c,v,s')→s'.ro=s.ro:=by
  intro t m k c v s' h
  unfold eX at h
  repeat' (split at h)
  all_goals (first | (cases h; done) | skip)
  all_goals (injection h with h; injection h with _ h; injection h with _ h; subst h; rfl)
 have CK:∀ {m st x:SV} {c:Bool} {s':St},dC s m st x=some (c,s')→s'.ro=s.ro:=by
  intro m st x c s' h
  unfold dC at h
  repeat' (split at h)
  all_goals (first | (cases h; done) | skip)
  all_goals (injection h with h; injection h with _ h; subst h; rfl)
 unfold ak ln at h
 repeat' (split at h)
 all_goals (first | (cases h; done) | exact alloc h | exact blt h | (rename_i hf; cases h; exact Hb hf) | skip)
 all_goals (injection h with h; injection h with _ h; subst h)
 all_goals (first | (simp; done) | (simp [St.cU]; done) | (simp [St.aZ]; done) | skip)
 all_goals (first | exact Ns (by assumption) | exact update (by assumption) | exact (gr _ _ _).trans (CJ (by assumption)) | exact CK (by assumption) | exact next (by assumption))
theorem AW {f:FuncId} {F:Fence} {s':St} {K:St→Prop} {Qc:Exit→Act→World→Prop} (h:aL E R w β s a) (hf:bB R s.ro F) (hs:ak E f s o=some (true,s')) (hK:K s')
  (nd:∀ c,o.op≠.defer c) (N:Act→World→Prop) (hN:∀ a' w',mH E R w β s K a' w'→N a' w'):o.wpIn F 0 E.P a w N Qc:=by
 obtain ⟨nx,x,w',R',β',h1,h2,h3,h4⟩:=AR h hs
 refine ⟨fun f _=>hf.fn f,?_⟩
 rw [Oper.semAt_eq _ _ _ nd,h1]
 have:N (a.put o.dst x) w':=hN _ _ ⟨s',R',β',hK,h3,h4,Fh hs⟩
 rcases h2 with rfl | ⟨rfl,rfl⟩
 ·exact this
 ·exact this
theorem Fi {F:Fence} {K:St→Prop} {Qc:Exit→Act→World→Prop} (h:aL E R w β s a) (hf:bB R s.ro F) {fo:Operand} {args:Array Operand} {tys:Array TypeId} (ho:o.op=.call { callee:=.value fo,args:=args,argTypes:=tys })
  {g:FuncId} {first cap l:List AV} (UH:ba E s.ab fo=.v (.fn g first cap)) (hl:jU E s.ab args.toList=some l)
  (hc:cC E g (first++l++cap) s.G (fun r G'=>K ((s.aZ G').put o.dst (.v r)))) (N:Act→World→Prop) (hN:∀ a' w',mH E R w β s K a' w'→N a' w'):o.wpIn F 0 E.P a w N Qc:=by
 refine ⟨fun f _=>hf.fn f,?_⟩
 have rf:=aF h fo
 rw [UH] at rf
 have Rm:Rel R w (.fn g first cap) (a.eval fo):=rf
 have rl:=er h hl
 generalize Nt:a.eval fo=fv at Rm
 cases Rm with
 | @fn _ _ _ vs us h1 h2=>
 have aW:(o.semAt F.round a.eval).run E.P w=.ok (.enter g ⟨vs++args.toList.map a.eval++us⟩) w:=by
  rw [Oper.semAt_eq _ _ _ (fun c e=>by rw [ho] at e; cases e)]
  simp only [execOp,ho,resolve,Nt,Deferred.ofValue,Sem.run_bind,Sem.run_pure,Result.andThen_ok,invoke,jq]
  have:=lE hc.1 (⟨vs⟩++⟨args.toList.map a.eval⟩++⟨us⟩) w
  simpa using this
 rw [aW]
 refine ⟨fun e=>by rw [hf.depth] at e; simp at e,hf.calls ?_⟩
 refine (hc.2 R w (vs++args.toList.map a.eval++us) h.g ((h1.append rl).append h2)).mono ?_
 intro e JF he
 cases e with
 | returned c=>
  obtain ⟨r,G',R',hK,hr,hg,st⟩:=he
  obtain ⟨q1,q2⟩:=h.nA hg st
  exact hN _ _ ⟨_,R',β,hK,q1.put o.dst (x:=.v r) hr,by rw [aO]; exact q2,by rw [gr]; rfl⟩
 | panicked c=>exact he.elim
 | outgrown=>exact he.elim
theorem bB.rounds {R:af} {ro:Option Nat} {F:Fence} (h:bB R ro F) {n:Nat} {P:Program} {l:Nat} {f:FuncId} {tmps:Array Value} {oN bd:Code} {w:World} {Q:Ending→World→Prop}
  (hc:RoundIn Fence.wide n P l f tmps oN bd w Q):RoundIn F n P l f tmps oN bd w Q:=by
 cases ro with
 | none=>rw [show F=Fence.wide from h]; exact hc
 | some id=>obtain ⟨b,_,h2⟩:=h; rw [h2]; exact hc
theorem CL {F:Fence} {K:St→Prop} {Qc:Exit→Act→World→Prop} (h:aL E R w β s a) (hf:bB R s.ro F) {fo:Operand} {args:Array Operand} {tys:Array TypeId} (ho:o.op=.call { callee:=.value fo,args:=args,argTypes:=tys })
  {id:Nat} {l:List AV} (UH:ba E s.ab fo=.v (.yield id)) (hl:jU E s.ab args.toList=some l)
  (hc:jx E id l s.G (fun b G'=>K ((s.aZ G').put o.dst (.v (.bool b))))) (N:Act→World→Prop) (hN:∀ a' w',mH E R w β s K a' w'→N a' w'):o.wpIn F 0 E.P a w N Qc:=by
 refine ⟨fun f _=>hf.fn f,?_⟩
 have rf:=aF h fo
 rw [UH] at rf
 have Rm:Rel R w (.yield id) (a.eval fo):=rf
 have rl:=er h hl
 generalize Nt:a.eval fo=fv at Rm
 cases Rm with
 | @yield _ b hb=>
 obtain ⟨r,BV,uJ,Rn⟩:=hc R w (args.toList.map a.eval) b h.g rl hb
 have aW:(o.semAt F.round a.eval).run E.P w=.ok (.round b r.fn ((r.params.zip ⟨args.toList.map a.eval⟩).foldl (fun tmps (t,a)=>tmps.setIfInBounds t a) r.tmps) r.assign r.body) w:=by
  rw [Oper.semAt_eq _ _ _ (fun c e=>by rw [ho] at e; cases e)]
  simp only [execOp,ho,resolve,Nt,Deferred.ofValue,Sem.run_bind,Sem.run_pure,Result.andThen_ok,invoke,jq]
  have:=run_yield (P:=E.P) BV (args:=⟨args.toList.map a.eval⟩) uJ
  simpa using this
 rw [aW]
 refine ⟨fun e=>by rw [hf.depth] at e; simp at e,hf.rounds (Rn.mono ?_)⟩
 intro e JF he
 cases e with
 | returned c=>
  obtain ⟨r,G',R',hK,rfl,hg,st⟩:=he
  obtain ⟨q1,q2⟩:=h.nA hg st
  exact hN _ _ ⟨_,R',β,hK,q1.put o.dst (x:=.v (.bool r)) (Rel.bool r),by rw [aO]; exact q2,by rw [gr]; rfl⟩
 | panicked c=>exact he.elim
 | outgrown=>exact he.elim
end calls
def mI (ops:List Oper) (j:Nat):Option Tmp:=match nth ops j with
 | some o=>o.dst
 | none=>none
def cX:Bool→Prop→Prop
 | true,p=>p
 | false,_=>False
theorem cX.mk {c:Bool} {p:Prop} (h:c=true) (hp:p):cX c p:=by subst h; exact hp
theorem cX.out {c:Bool} {p:Prop} (h:cX c p):c=true∧p:=by
 cases c
 ·exact h.elim
 ·exact ⟨rfl,h⟩
def iZ (E:Env) (f:FuncId) (o:Oper) (K:St→Prop) (s:St):Prop:=
 match o.op with
 | .call { callee:=.value x,args,.. }=>match ba E s.ab x,jU E s.ab args.toList with
  | .v (.fn g first cap),some l=>cC E g (first++l++cap) s.G (fun r G'=>K ((s.aZ G').put o.dst (.v r)))
  | .v (.yield id),some l=>jx E id l s.G (fun b G'=>K ((s.aZ G').put o.dst (.v (.bool b))))
  | _,_=>False
 | .defer _=>False
 | _=>match ak E f s o with
  | some (c,s')=>cX c (K s')
  | none=>False
def bS (E:Env) (f:FuncId) (ops:List Oper) (o:Oper) (K:St→Prop) (s:St):Prop:=
 match o.guard with
 | none=>iZ E f o K s
 | some (j,want)=>match mI ops j with
  | none=>False
  | some d=>match lk s.ab d with
   | .v (.bool b)=>(b=want→iZ E f o K (s.put (some d) (.v (.bool want))))∧(b=!want→K ((s.put (some d) (.v (.bool (!want)))).put o.dst (.v eN)))
   | .v (.bt [])=>K (s.put o.dst (.v eN))
   | _=>False
def eT (E:Env) (f:FuncId) (ops:List Oper) (o:Oper) (K:St→Prop) (s:St):Prop:=
 match o.guard,gY E f s o with
 | none,some s'=>K s'
 | _,_=>bS E f ops o K s
def eC (E:Env) (f:FuncId) (ops:List Oper) (o:Oper) (K:St→Prop) (s:St):Prop:=
 match o.guard,sb E f s o,qZ E s o with
 | none,some (c,s'),_=>cX c (K s')
 | none,none,some (c,s0,left,g)=>cX c ((left=[]→K s0)∧∀ i∈left,cX (g i).1 (K (g i).2))
 | _,_,_=>eT E f ops o K s
def eD (E:Env) (f:FuncId) (ops:List Oper) (o:Oper) (K:St→Prop) (s:St):Prop:=
 match EM E f s o with
 | some (c,s')=>c=true∧eC E f ops o K s'
 | none=>eC E f ops o K s
def xW (E:Env) (f:FuncId) (o:Oper) (K:St→Prop) (s:St):Prop:=match xV E f o s with
 | some (c,s')=>c=true∧K s'
 | none=>False
def mJ (E:Env) (f:FuncId) (ops:List Oper):List Oper→(St→Prop)→St→Prop
 | [],K,s=>K s
 | o :: rest,K,s=>eD E f ops o (xW E f o (mJ E f ops rest K)) s
section regions
variable {E:Env} {R:af} {w:World} {β:Nat→Nat} {s:St} {a:Act}
theorem xX {f:FuncId} {o:Oper} {F:Fence} {K:St→Prop} {Qc:Exit→Act→World→Prop} (h:aL E R w β s a) (hf:bB R s.ro F) (ha:iZ E f o K s) (N:Act→World→Prop) (hN:∀ a' w',mH E R w β s K a' w'→N a' w') :
  o.wpIn F 0 E.P a w N Qc:=by
 unfold iZ at ha
 split at ha
 ·rename_i x args tys ho
  split at ha
  ·rename_i g first cap l h1 h2
   exact Fi h hf ho h1 h2 ha N hN
  ·rename_i id l h1 h2
   exact CL h hf ho h1 h2 ha N hN
  ·exact ha.elim
 ·exact ha.elim
 ·rename_i nc nd
  split at ha
  ·rename_i c s' hs
   obtain ⟨rfl,hK⟩:=ha.out
   exact AW h hf hs hK (fun c e=>nd c e) N hN
  ·exact ha.elim
theorem aL.AX (h:aL E R w β s a) {d:Tmp} {b t:Bool} (hd:lk s.ab d=.v (.bool b)) (e:b=t):aL E R w β (s.put (some d) (.v (.bool t))) a:=by
 subst e
 simp only [St.put]
 split
 ·refine ⟨h.g,h.b,fun i hi=>?_,h.n,h.d⟩
  by_cases e:d=i
  ·subst e
   rw [aw]
   have:=h.t d (by rw [hd]; simp)
   rw [hd] at this
   exact this
  ·rw [aD e] at hi ⊢
   exact h.t i hi
 ·exact h
theorem CM (h:aL E R w β s a) {ops:Array Oper} {j:Nat} {d:Tmp} {b:Bool} (hj:mI ops.toList j=some d) (hd:lk s.ab d=.v (.bool b)):yielded ops a.tmps j=some b:=by
 unfold mI at hj
 split at hj
 ·rename_i o ho
  rw [aE] at ho
  have nT:ops[j]?=some o:=by simpa using ho
  obtain ⟨c,h1,h2⟩:=h.t d (by rw [hd]; simp)
  rw [hd] at h2
  have Ro:Rel R w (.bool b) c:=h2
  cases Ro
  simp [yielded,nT,hj,h1]
 ·cases hj
theorem wX (h:aL E R w β s a) {ops:Array Oper} {j:Nat} {d:Tmp} (hj:mI ops.toList j=some d) (hd:lk s.ab d=.v (.bt [])):yielded ops a.tmps j=none:=by
 unfold mI at hj
 split at hj
 ·rename_i o ho
  rw [aE] at ho
  have nT:ops[j]?=some o:=by simpa using ho
  obtain ⟨c,h1,h2⟩:=h.t d (by rw [hd]; simp)
  rw [hd] at h2
  have Ro:Rel R w (.bt []) c:=h2
  cases Ro
  simp [yielded,nT,hj,h1]
 ·cases hj
theorem pZ {f:FuncId} {o:Oper} {F:Fence} {ops:Array Oper} {K:St→Prop} {Qc:Exit→Act→World→Prop} (h:aL E R w β s a) (hf:bB R s.ro F) (ha:bS E f ops.toList o K s) (N:Act→World→Prop) (hN:∀ a' w',mH E R w β s K a' w'→N a' w') :
  (if Region.wanted o (yielded ops a.tmps) then o.wpIn F 0 E.P a w N Qc else (∀ f,o.about E.P w a.eval=some f→F.fn f)∧N (a.put o.dst undef) w):=by
 unfold bS at ha
 split at ha
 ·rename_i hg
  have:Region.wanted o (yielded ops a.tmps)=true:=by simp [Region.wanted,hg]
  rw [if_pos this]
  exact xX h hf ha N hN
 ·rename_i j want hg
  split at ha
  ·exact ha.elim
  ·rename_i d hd
   split at ha
   ·rename_i b hb
    have hy:=CM h hd hb
    by_cases hw:b=want
    ·have:Region.wanted o (yielded ops a.tmps)=true:=by simp [Region.wanted,hg,hy,hw]
     rw [if_pos this]
     exact xX (h.AX hb hw) (by rw [gr]; exact hf) (ha.1 hw) N (fun a' w' hh=>hN a' w' (by
      obtain ⟨s',R',β',q1,q2,q3,q4⟩:=hh
      exact ⟨s',R',β',q1,q2,by rw [aO] at q3; exact q3,by rw [gr] at q4; exact q4⟩))
    ·have WD:b=!want:=by cases b <;> cases want <;> simp_all
     have:¬ Region.wanted o (yielded ops a.tmps)=true:=by simp [Region.wanted,hg,hy,hw]
     rw [if_neg this]
     refine ⟨fun f _=>hf.fn f,hN _ _ ⟨_,R,β,ha.2 WD,(h.AX hb WD).put o.dst (x:=.v eN) (Rel.bt .nil),by rw [aO,aO]; exact Step.refl _ _ _ _,by rw [gr,gr]⟩⟩
   ·rename_i hb
    have hy:=wX h hd hb
    have:¬ Region.wanted o (yielded ops a.tmps)=true:=by simp [Region.wanted,hg,hy]
    rw [if_neg this]
    exact ⟨fun f _=>hf.fn f,hN _ _ ⟨_,R,β,ha,h.put o.dst (x:=.v eN) (Rel.bt .nil),by rw [aO]; exact Step.refl _ _ _ _,by rw [gr]⟩⟩
   ·exact ha.elim
theorem wY {f:FuncId} {o:Oper} {F:Fence} {ops:Array Oper} {K:St→Prop} {Qc:Exit→Act→World→Prop} (h:aL E R w β s a) (hf:bB R s.ro F) (ha:eT E f ops.toList o K s) (N:Act→World→Prop) (hN:∀ a' w',mH E R w β s K a' w'→N a' w') :
  (if Region.wanted o (yielded ops a.tmps) then o.wpIn F 0 E.P a w N Qc else (∀ f,o.about E.P w a.eval=some f→F.fn f)∧N (a.put o.dst undef) w):=by
 unfold eT at ha
 split at ha
 ·rename_i s' hg hb
  have:Region.wanted o (yielded ops a.tmps)=true:=by simp [Region.wanted,hg]
  rw [if_pos this]
  unfold gY at hb
  split at hb
  ·rename_i t len parts ho
   split at hb
   ·rename_i d hd
    split at hb
    ·split at hb
     ·rename_i i hi
      split at hb
      ·rename_i elem aT ag lU z esz es hk hv
       cases hb
       obtain ⟨nx,x,w',R',β',h1,h2,h3,h4⟩:=rv h t len parts ho hv hi hk
       refine ⟨fun f _=>hf.fn f,?_⟩
       rw [Oper.semAt_eq _ _ _ (fun c e=>by rw [ho] at e; cases e),h1]
       rw [hd] at h3 h4
       have dX:N (a.put o.dst x) w':=hN _ _ ⟨_,R',β',ha,by rw [hd]; exact h3,h4,by rw [gr]; rfl⟩
       rcases h2 with rfl | ⟨rfl,rfl⟩
       ·exact dX
       ·exact dX
      ·rename_i elem esz ag lU z hk _
       split at hb
       rotate_left
       ·cases hb
       rename_i cs hv
       cases hb
       obtain ⟨nx,x,w',R',β',h1,h2,h3,h4⟩:=ru h t len parts ho hv hi hk
       refine ⟨fun f _=>hf.fn f,?_⟩
       rw [Oper.semAt_eq _ _ _ (fun c e=>by rw [ho] at e; cases e),h1]
       rw [hd] at h3 h4
       have dX:N (a.put o.dst x) w':=hN _ _ ⟨_,R',β',ha,by rw [hd]; exact h3,h4,by rw [gr]; rfl⟩
       rcases h2 with rfl | ⟨rfl,rfl⟩
       ·exact dX
       ·exact dX
      ·cases hb
     ·cases hb
    ·split at hb
     ·split at hb
      ·rename_i i hi
       split at hb
       ·rename_i elem aT ag lU z esz es hk hv
        split at hb
        ·rename_i hle
         cases hb
         obtain ⟨nx,x,w',R',β',h1,h2,h3,h4⟩:=rD h t len parts ho hv hi hk (Nat.le_of_ble_eq_true hle)
         refine ⟨fun f _=>hf.fn f,?_⟩
         rw [Oper.semAt_eq _ _ _ (fun c e=>by rw [ho] at e; cases e),h1]
         rw [hd] at h3 h4
         have dX:N (a.put o.dst x) w':=hN _ _ ⟨_,R',β',ha,by rw [hd]; exact h3,h4,by rw [gr]; rfl⟩
         rcases h2 with rfl | ⟨rfl,rfl⟩
         ·exact dX
         ·exact dX
        ·cases hb
       ·cases hb
      ·cases hb
     ·split at hb
      ·split at hb
       ·rename_i i hi
        split at hb
        ·rename_i elem aT ag lU z esz es hk hv
         split at hb
         ·rename_i hle
          cases hb
          obtain ⟨nx,x,w',R',β',h1,h2,h3,h4⟩:=rA h t len parts ho hv hi hk (Nat.le_of_ble_eq_true hle)
          refine ⟨fun f _=>hf.fn f,?_⟩
          rw [Oper.semAt_eq _ _ _ (fun c e=>by rw [ho] at e; cases e),h1]
          rw [hd] at h3 h4
          have dX:N (a.put o.dst x) w':=hN _ _ ⟨_,R',β',ha,by rw [hd]; exact h3,h4,by rw [gr]; rfl⟩
          rcases h2 with rfl | ⟨rfl,rfl⟩
          ·exact dX
          ·exact dX
         ·cases hb
        ·cases hb
       ·cases hb
      ·cases hb
   ·cases hb
  ·cases hb
 ·exact pZ h hf ha N hN
theorem Fj {f:FuncId} {o:Oper} {c:Bool} {s':St} (h:oA E f s o=some (c,s')):s'.ro=s.ro∧∀ d,o.op≠.defer d:=by
 unfold oA at h
 split at h
 ·split at h
  ·split at h
   ·rename_i t m k ok ho
    refine ⟨?_,fun d e=>by rw [ho] at e; cases e⟩
    repeat' (split at h)
    all_goals (first | (cases h; done) | skip)
    all_goals (injection h with h; injection h with _ h; subst h; simp [St.aZ])
   ·cases h
  ·cases h
 ·cases h
theorem J1 {f:FuncId} {o:Oper} {c:Bool} {s':St} (h:B5 E f s o=some (c,s')):s'.ro=s.ro∧∀ d,o.op≠.defer d:=by
 unfold B5 at h
 split at h
 ·rename_i t x lo d ho hd
  refine ⟨?_,fun d e=>by rw [ho] at e; cases e⟩
  repeat' (split at h)
  all_goals (first | (cases h; done) | skip)
  all_goals (injection h with h; injection h with _ h; subst h; simp [St.aZ])
 ·cases h
theorem Hc {f:FuncId} {o:Oper} {c:Bool} {s':St} (h:sb E f s o=some (c,s')):s'.ro=s.ro∧∀ d,o.op≠.defer d:=by
 unfold sb at h
 split at h
 ·rename_i r hr
  cases h
  exact J1 hr
 ·exact Fj h
theorem Fk {o:Oper} {c:Bool} {s0:St} {left:List Nat} {g:Nat→Bool × St} (h:qZ E s o=some (c,s0,left,g)):(∃ x,o.op=.next x false∧xy E s o.dst (ba E s.ab x)=some (c,s0,left,g))∧s0.ro=s.ro∧∀ i,(g i).2.ro=s.ro:=by
 unfold qZ at h
 split at h
 ·rename_i x ho
  refine ⟨⟨x,ho,h⟩,?_⟩
  unfold xy at h
  split at h
  ·split at h
   ·split at h
    ·cases h
     exact ⟨gr _ _ _,fun i=>gr _ _ _⟩
    ·cases h
   ·cases h
  ·cases h
 ·cases h
theorem rK {f:FuncId} {F:Fence} {o:Oper} {s':St} {K:St→Prop} {Qc:Exit→Act→World→Prop} (hf:bB R s.ro F) (hd:bn E R w β s a o s') (hK:K s') (aR:s'.ro=s.ro)
  (nd:∀ c,o.op≠.defer c) (N:Act→World→Prop) (hN:∀ a' w',mH E R w β s K a' w'→N a' w'):o.wpIn F 0 E.P a w N Qc:=by
 obtain ⟨nx,x,w',R',β',h1,h2,h3,h4⟩:=hd
 refine ⟨fun f _=>hf.fn f,?_⟩
 rw [Oper.semAt_eq _ _ _ nd,h1]
 have:N (a.put o.dst x) w':=hN _ _ ⟨s',R',β',hK,h3,h4,aR⟩
 rcases h2 with rfl | ⟨rfl,rfl⟩
 ·exact this
 ·exact this
theorem oa {f:FuncId} {o:Oper} {F:Fence} {ops:Array Oper} {K:St→Prop} {Qc:Exit→Act→World→Prop} (h:aL E R w β s a) (hf:bB R s.ro F) (ha:eC E f ops.toList o K s) (N:Act→World→Prop) (hN:∀ a' w',mH E R w β s K a' w'→N a' w') :
  (if Region.wanted o (yielded ops a.tmps) then o.wpIn F 0 E.P a w N Qc else (∀ f,o.about E.P w a.eval=some f→F.fn f)∧N (a.put o.dst undef) w):=by
 unfold eC at ha
 split at ha
 ·rename_i c s' hg hb
  have:Region.wanted o (yielded ops a.tmps)=true:=by simp [Region.wanted,hg]
  rw [if_pos this]
  obtain ⟨rfl,hK⟩:=ha.out
  obtain ⟨k1,k2⟩:=Hc hb
  exact rK (f:=f) hf (CA h hb) hK k1 k2 N hN
 ·rename_i c s0 left g hg _ hb
  have:Region.wanted o (yielded ops a.tmps)=true:=by simp [Region.wanted,hg]
  rw [if_pos this]
  obtain ⟨rfl,Yu,Yv⟩:=ha.out
  obtain ⟨⟨x,ho,hm⟩,k1,k2⟩:=Fk hb
  have nd:∀ c,o.op≠.defer c:=fun c e=>by rw [ho] at e; cases e
  rcases Cx h x ho hm with ⟨hl,hd⟩ | ⟨i,hi,hd⟩
  ·exact rK (f:=f) hf hd (Yu hl) k1 nd N hN
  ·obtain ⟨q1,q2⟩:=(Yv i hi).out
   exact rK (f:=f) hf (hd q1) q2 (k2 i) nd N hN
 ·exact wY h hf ha N hN
theorem wZ {f:FuncId} {o:Oper} {F:Fence} {ops:Array Oper} {K:St→Prop} {Qc:Exit→Act→World→Prop} (h:aL E R w β s a) (hf:bB R s.ro F) (ha:eD E f ops.toList o K s) (N:Act→World→Prop) (hN:∀ a' w',mH E R w β s K a' w'→N a' w') :
  (if Region.wanted o (yielded ops a.tmps) then o.wpIn F 0 E.P a w N Qc else (∀ f,o.about E.P w a.eval=some f→F.fn f)∧N (a.put o.dst undef) w):=by
 unfold eD at ha
 split at ha
 ·rename_i c s' hz
  obtain ⟨rfl,ha⟩:=ha
  obtain ⟨R1,k1,k2,k3⟩:=G9 h hz
  refine oa k1 (by rw [k3]; exact hf.mono k2.ext) ha N ?_
  rintro a' w' ⟨s2,R',β',q1,q2,q3,q4⟩
  exact hN a' w' ⟨s2,R',β',q1,q2,k2.trans q3,q4.trans k3⟩
 ·exact oa h hf ha N hN
theorem uT {f:FuncId} {F:Fence} {ops:Array Oper} {K:St→Prop} {Qc:Exit→Act→World→Prop} (hQ:∀ a' w',mH E R w β s K a' w'→Qc .normal a' w') :
  ∀ (l:List Nat) (os:List Oper),l.map (fun i=>ops[i]?)=os.map some→∀ (R1:af) (w1:World) (β1:Nat→Nat) (s1:St) (a1:Act),aL E R1 w1 β1 s1 a1→Step R w β s.boxes R1 w1 β1 s1.boxes→s1.ro=s.ro→bB R1 s1.ro F →
   mJ E f ops.toList os K s1→wpOpsIn F 0 E.P ops Qc l a1 w1
 | [],os,hm,R1,w1,β1,s1,a1,hr,fF,aR,_,ha=>by
  have:os=[]:=by simpa using hm.symm
  subst this
  exact hQ _ _ ⟨s1,R1,β1,ha,hr,fF,aR⟩
 | i :: l,[],hm,_,_,_,_,_,_,_,_,_,_=>by simp at hm
 | i :: l,o :: os,hm,R1,w1,β1,s1,a1,hr,fF,aR,hf,ha=>by
  simp only [List.map_cons,List.cons.injEq] at hm
  obtain ⟨hi,hm⟩:=hm
  simp only [wpOpsIn,hi]
  refine wZ hr hf (show eD E f ops.toList o (xW E f o (mJ E f ops.toList os K)) s1 from ha) _ ?_
  rintro a' w' ⟨s',R',β',q1,q2,q3,q4⟩
  unfold xW at q1
  split at q1
  ·rename_i c s2 hp
   obtain ⟨rfl,q1⟩:=q1
   obtain ⟨R2,p1,p2,p3,_⟩:=Ff q2 hp
   exact uT hQ l os hm R2 w' β' s2 a' p1 ((fF.trans q3).trans p2) (p3.trans (q4.trans aR)) (by rw [p3,q4]; exact hf.mono (q3.ext.trans p2.ext)) q1
  ·exact q1.elim
theorem Fl (ops:Array Oper):(List.range ops.size).map (fun i=>ops[i]?)=ops.toList.map some:=by
 apply List.ext_getElem?
 intro i
 simp only [List.getElem?_map]
 by_cases hi:i < ops.size
 ·rw [List.getElem?_range hi]
  simp [hi]
 ·rw [List.getElem?_eq_none (by simp; omega),List.getElem?_eq_none (by simp; omega)]
  rfl
theorem ec.region {f:FuncId} {id:Nat} {ops:Array Oper} {Q:Exit→St→Prop} {s:St} (h:mJ E f ops.toList ops.toList (Q .normal) s):ec E (.region id ops false) Q s:=fun R w β a F hr hf=>by
 refine wpIn_region (uT (R:=R) (w:=w) (β:=β) (s:=s) (K:=Q .normal) (f:=f) ?_ _ _ (Fl ops) R w β s a hr (Step.refl _ _ _ _) rfl hf h)
 rintro a' w' ⟨s',R',β',h1,h2⟩
 exact ⟨s',R',β',h1,h2⟩
end regions
end Go.Am
namespace Go.Am
open Go
def Qo:Nat→List AV→aV
 | _,[]=>[]
 | n,a :: l=>.put n (.v a) :: Qo (n+1) l
def St.init (ntmps:Nat) (args:List AV) (G:List GO):St:=
 ⟨Qo 0 args,[],G,[],none,max ntmps args.length⟩
def mK:List Nat→List GO→Option (List GO)
 | [],G=>some G
 | id :: l,G=>match nth G id with
  | some (.defers true)=>mK l (au G id (.defers false))
  | _=>none
def CN (E:Env) (s:St):List ResultVar→Option (List AV)
 | []=>some []
 | .tmp t :: l=>match lk s.ab t,CN E s l with
  | .v a,some r=>some (a :: r)
  | _,_=>none
 | .cell p t :: l=>match po E s t (lk s.ab p),CN E s l with
  | some a,some r=>some (a :: r)
  | _,_=>none
def Hd (E:Env) (s:St) (fn:Func):Option AV:=match CN E s fn.results.toList with
 | some [a]=>some a
 | some l=>some (.bt l)
 | none=>none
def Mc (E:Env) (fn:Func) (Q:AV→List GO→Prop):Exit→St→Prop
 | .normal,s | .ret,s=>match mK s.marks s.G with
  | some G=>match Hd E (s.aZ G) fn with
   | some r=>Q r G
   | none=>False
  | none=>False
 | _,_=>False
section fns
variable {E:Env} {R:af} {w:World} {β:Nat→Nat} {s:St} {a:Act}
def uU (tmps:Array Value):ResultVar→Sem Value
 | .tmp t=>pure (tmps.getD t undef)
 | .cell p t=>do loadVar t (← asAddr (tmps.getD p undef))
theorem uV (fn:Func) (tmps:Array Value):results fn tmps=(do
  let vs ← fn.results.mapM (uU tmps)
  pure (if h:vs.size=1 then vs[0] else .tuple vs)):=by
 unfold results
 congr 1
theorem p9 (h:aL E R w β s a):∀ {l:List ResultVar} {r:List AV},CN E s l=some r →
  ∃ vs,(l.mapM (uU a.tmps)).run E.P w=.ok vs w∧aA R w r vs
 | [],r,hl=>by
  simp [CN] at hl
  subst hl
  exact ⟨[],by simp,.nil⟩
 | .tmp t :: l,r,hl=>by
  unfold CN at hl
  split at hl
  ·rename_i x r' h1 h2
   cases hl
   obtain ⟨vs,g1,g2⟩:=p9 h h2
   obtain ⟨c,k1,k2⟩:=h.t t (by rw [h1]; simp)
   rw [h1] at k2
   have hg:a.tmps.getD t undef=c:=by simp [Array.getD_eq_getD_getElem?,k1]
   refine ⟨c :: vs,?_,.cons k2 g2⟩
   simp only [List.mapM_cons,Sem.run_bind,Sem.run_pure,Result.andThen_ok,uU,hg,g1]
  ·cases hl
 | .cell p t :: l,r,hl=>by
  unfold CN at hl
  split at hl
  ·rename_i v r' h1 h2
   ·cases hl
    obtain ⟨vs,g1,g2⟩:=p9 h h2
    obtain ⟨c,k1,k2⟩:=h.t p (fun e=>by rw [e] at h1; unfold po at h1; split at h1 <;> simp_all [lh])
    have hg:a.tmps.getD p undef=c:=by simp [Array.getD_eq_getD_getElem?,k1]
    unfold po at h1
    split at h1
    ·rename_i i cs off hi hc
     split at h1
     ·rename_i l' hs
      obtain ⟨b,o',us,e,q1,q2,q3⟩:=sf h k2 hc
      obtain ⟨m1,m2,m3,m4⟩:=lu hs q1 q2
      obtain ⟨c',lS,dq⟩:=jX (E:=E) hi (b:=b) (off:=o'+off) m1 m2 m3 (fun j y hy=>by rw [Nat.add_assoc]; exact q3 _ _ (m4 j y hy)) h1
      refine ⟨c' :: vs,?_,.cons dq g2⟩
      have ha:(asAddr c).run E.P w=.ok ⟨b,o'+off,none⟩ w:=by rw [e]; rfl
      have UI:(uU a.tmps (.cell p t)).run E.P w=.ok c' w:=by
       simp only [uU,Sem.run_bind,hg,ha,Result.andThen_ok,lS]
      simp only [List.mapM_cons,Sem.run_bind,Sem.run_pure,Result.andThen_ok,UI,g1]
     ·cases h1
    ·cases h1
  ·cases hl
theorem He (h:aL E R w β s a) {fn:Func} {r:AV} (hr:Hd E s fn=some r):∃ c,(results fn a.tmps).run E.P w=.ok c w∧Rel R w r c:=by
 unfold Hd at hr
 split at hr
 ·rename_i x hl
  cases hr
  obtain ⟨vs,g1,g2⟩:=p9 h hl
  cases g2 with
  | @cons _ c _ _ g2 g3=>
  cases g3
  refine ⟨c,?_,g2⟩
  rw [uV,Array.mapM_eq_mapM_toList]
  simp only [Sem.run_bind,Sem.run_map]
  rw [g1]
  simp
 ·rename_i l bW hl
  cases hr
  obtain ⟨vs,g1,g2⟩:=p9 h hl
  refine ⟨.tuple ⟨vs⟩,?_,.bt g2⟩
  have hlen:vs.length≠1:=by
   rw [← g2.length]
   intro e
   match l,e with
   | [x],_=>exact bW x rfl
  rw [uV,Array.mapM_eq_mapM_toList]
  simp only [Sem.run_bind,Sem.run_map]
  rw [g1]
  simp [hlen]
 ·cases hr
theorem Fm (fn:Func) (Q:Ending→World→Prop):∀ {marks:List Nat} {G G':List GO} {R:af} {w:World} {β:Nat→Nat} {s:St} {a:Act},aL E R w β (s.aZ G) a→nR R marks a.defers→mK marks G=some G' →
  (∀ w' ,aL E R w' β (s.aZ G') a→Step R w β s.boxes R w' β s.boxes→∃ v,(results fn a.tmps).run E.P w'=.ok v w'∧Q (.returned v) w')→LeavesInM Fence.wide 0 E.P fn a.tmps Q a.defers .returning w:=by
 intro marks
 have key:∀ (marks:List Nat) (ds:List Deferred) (G G':List GO) (R:af) (w:World) (β:Nat→Nat) (s:St) (a:Act),aL E R w β (s.aZ G) a→nR R marks ds→mK marks G=some G' →
   (∀ w' ,aL E R w' β (s.aZ G') a→Step R w β s.boxes R w' β s.boxes→∃ v,(results fn a.tmps).run E.P w'=.ok v w'∧Q (.returned v) w')→LeavesInM Fence.wide 0 E.P fn a.tmps Q ds .returning w:=by
  intro marks
  induction marks with
  | nil=>
   intro ds G G' R w β s a hr hd hl hq
   cases ds with
   | cons _ _=>exact hd.elim
   | nil=>
    simp [mK] at hl
    subst hl
    obtain ⟨v,h1,h2⟩:=hq w hr (Step.refl _ _ _ _)
    exact ⟨v,h1,h2⟩
  | cons id marks ih=>
   intro ds G G' R w β s a hr hd hl hq
   cases ds with
   | nil=>exact hd.elim
   | cons d ds=>
    obtain ⟨⟨b,hb,rfl⟩,hd⟩:=hd
    unfold mK at hl
    split at hl
    ·rename_i hg
     have CO:w.heap[b]?=some (.deferred (some [])):=hr.g.obj id _ _ hg hb
     have bM:=a7 CO
     have GB:(Instr.takeDeferred b).run E.P w=.ok [] (World.put w b (.deferred none)):=by
      simp only [Instr.takeDeferred,getObj,setObj,Sem.run_bind,Sem.run,CO,Result.andThen_ok,Sem.run_pure]
      rfl
     obtain ⟨q1,q2⟩:=hr.setObj (s:=s.aZ G) (x':=.deferred none) (go':=.defers false) hb CO trivial trivial (fun _ e=>by cases e) (fG w b _ bM)
     refine ⟨by simp,.inl ⟨b,_,rfl,GB,?_⟩⟩
     refine ih ds (au G id (.defers false)) G' R _ β s a q1 hd hl (fun w' gH fF=>?_)
     exact hq w' gH (q2.trans fF)
    ·cases hl
 intro G G' R w β s a hr hd hl hq
 exact key marks a.defers G G' R w β s a hr hd hl hq
end fns
end Go.Am
namespace Go.Am
open Go
section intro
variable {E:Env} {R R':af} {w w':World} {β β':Nat→Nat}
theorem uW {bx DO:bX} (h:Step R w β bx R' w' β' DO) (hn:∀ k cs,cO bx k≠some cs):Step R w (fun _=>0) gq R' w' (fun _=>0) gq:=by
 have own:∀ b,Own R β bx b→Live R b:=fun b ho=>by
  rcases ho with ho | ⟨k,cs,hk,_⟩
  ·exact ho
  ·exact absurd hk (hn k cs)
 exact ⟨h.ext,h.os,h.tape,h.output,h.size,fun b hb my=>h.bl b hb (fun ho=>my (.inl (own b ho))),fun b hb ho=>.inl (own b (h.own b hb (.inl (eF ho)))),fun b o hi hb my=>h.im b o hi hb (fun ho=>my (.inl (own b ho)))⟩
theorem Hf:∀ {l:List AV} {n i:Nat},(i < n∨n+l.length≤i→lk (Qo n l) i=.none)∧(∀ a,l[i - n]?=some a→n≤i→lk (Qo n l) i=.v a)
 | [],n,i=>⟨fun _=>rfl,fun a h=>by simp at h⟩
 | b :: l,n,i=>by
  obtain ⟨h1,h2⟩:=Hf (l:=l) (n:=n+1) (i:=i)
  refine ⟨fun h=>?_,fun a h hn=>?_⟩
  ·simp only [List.length_cons] at h
   simp only [Qo]
   rw [aD (by omega)]
   exact h1 (by omega)
  ·simp only [Qo]
   by_cases e:n=i
   ·subst e
    rw [aw]
    simp at h
    rw [h]
   ·rw [aD e]
    refine h2 a ?_ (by omega)
    have:i - n=(i - (n+1))+1:=by omega
    rw [this] at h
    simpa using h
theorem Hg {ntmps:Nat} {args:List AV} {cs:List Value} {G:List GO} (hg:dO E R w G) (hl:aA R w args cs) :
  aL E R w (fun _=>0) (St.init ntmps args G) { tmps:=⟨cs⟩++Array.replicate (ntmps - (⟨cs⟩:Array Value).size) undef,defers:=[] }:=by
 have hlen:=hl.length
 refine ⟨hg,⟨fun k c hk=>?_,fun k k' c c' hk _ _=>?_⟩,fun i hi=>?_,?_,trivial⟩
 ·simp [St.init,cO] at hk
 ·simp [St.init,cO] at hk
 ·simp only [St.init] at hi ⊢
  obtain ⟨h1,h2⟩:=Hf (l:=args) (n:=0) (i:=i)
  by_cases bM:i < args.length
  ·have hy:args[i]?=some args[i]:=List.getElem?_eq_getElem bM
   obtain ⟨c,k1,k2⟩:=hl.get hy
   rw [h2 _ (by rw [Nat.sub_zero]; exact hy) (Nat.zero_le _)]
   refine ⟨c,?_,k2⟩
   rw [Array.getElem?_append_left (by simp; omega)]
   simpa using k1
  ·exact absurd (h1 (by omega)) hi
 ·simp [St.init]
  omega
theorem CP {ntmps:Nat} {args:List AV} {G:List GO} (k:Nat) (cs:List AV):cO (St.init ntmps args G).boxes k≠some cs:=by
 simp [St.init,cO]
theorem cC.intro {g : FuncId} {fn : Func} {c : Code} {args : List AV} {G : List GO} {Q : AV → List GO → Prop} (hf : E.P.funcs[g]? = some fn) (hb : fn.body = some c) (hn : (fn.name == "runtime.NumGoroutine") = false)
  (h:ec E c (Mc E fn Q) (St.init fn.ntmps args G)):cC E g args G Q:=by
 refine ⟨⟨fn,hf,by simp [hb],hn⟩,fun R w cs hg hl=>?_⟩
 refine callsIn_of_wp_marks hf hb trivial (wpIn_mono (h R w (fun _=>0) _ Fence.wide (Hg hg hl) rfl) ?_)
 rintro e a' w' ⟨s',R',β',hq,hr,fF,aR⟩
 have fin:(match mK s'.marks s'.G with
  | some G=>match Hd E (s'.aZ G) fn with
   | some r=>Q r G
   | none=>False
  | none=>False)→LeavesInM Fence.wide 0 E.P fn a'.tmps (Ec E R w Q) a'.defers .returning w':=by
  intro hq
  split at hq
  ·rename_i G2 Rp
   split at hq
   ·rename_i r zn
    refine Fm fn (Ec E R w Q) (s:=s') (G:=s'.G) hr hr.d Rp (fun JF uS n9=>?_)
    obtain ⟨v,h1,h2⟩:=He uS zn
    exact ⟨v,h1,r,G2,R',hq,h2,uS.g,uW (fF.trans n9) CP⟩
   ·exact hq.elim
  ·exact hq.elim
 cases e with
 | normal=>exact fin hq
 | ret=>exact fin hq
 | exit _=>exact hq.elim
 | goto _=>exact hq.elim
 | panic _=>exact hq.elim
 | outgrown=>exact hq.elim
end intro
end Go.Am
namespace Go.Am
open Go
def St.eE (s:St) (pre:aV) (preB:bX) (G:List GO):St:=⟨pre++s.ab,preB++s.boxes,G,s.marks,s.ro,s.n⟩
def Qp (al:Bool) (dst:Option Tmp) (pre:aV):Prop:=
 pre=[]∨∃ d x,dst=some d∧(pre=[.put d x]∨(al=true∧pre=[.put d x,.kill d]))
def bC (al w:Bool) (dst:Option Tmp) (s t s' t':St):Prop:=
 ∃ pre preB G,Qp al dst pre∧(w=false→preB=[]∧G=s.G∧∃ x,s'=s.put dst x∧t'=t.put dst x)∧s'=s.eE pre preB G∧t'=t.eE pre preB G
section
variable {E:Env} {s t:St} {o:Oper}
theorem jZ (s:St) (d:Tmp) (x:SV):s.put (some d) x=bif Nat.blt d s.n then s.eE [.put d x] [] s.G else s:=by
 cases h:Nat.blt d s.n <;> simp [St.put,h,St.eE]
theorem bC.put {al w:Bool} (hn:s.n=t.n) (hG:s.G=t.G) (dst:Option Tmp) (x:SV):bC al w dst s t (s.put dst x) (t.put dst x):=by
 cases dst with
 | none=>exact ⟨[],[],s.G,.inl rfl,fun _=>⟨rfl,rfl,x,rfl,rfl⟩,rfl,by rw [hG]; rfl⟩
 | some d=>
  have hx:∃ y,s.put (some d) x=s.put (some d) y∧t.put (some d) x=t.put (some d) y:=⟨x,rfl,rfl⟩
  revert hx
  generalize hs:s.put (some d) x=s'
  generalize ht:t.put (some d) x=t'
  intro hx
  rw [jZ] at hs ht
  rw [← hn] at ht
  revert hs ht
  cases Nat.blt d s.n with
  | true=>exact fun hs ht=>⟨[.put d x],[],s.G,.inr ⟨d,x,rfl,.inl rfl⟩,fun _=>⟨rfl,rfl,hx⟩,hs.symm,by rw [hG]; exact ht.symm⟩
  | false=>exact fun hs ht=>⟨[],[],s.G,.inl rfl,fun _=>⟨rfl,rfl,hx⟩,hs.symm,by rw [hG]; exact ht.symm⟩
theorem bC.cJ {al:Bool} (hn:s.n=t.n) (G:List GO) (dst:Option Tmp) (x:SV):bC al true dst s t ((s.aZ G).put dst x) ((t.aZ G).put dst x):=by
 cases dst with
 | none=>exact ⟨[],[],G,.inl rfl,fun h=>(by cases h),rfl,rfl⟩
 | some d=>
  rw [jZ,jZ,show (t.aZ G).n=(s.aZ G).n from hn.symm]
  cases Nat.blt d (s.aZ G).n with
  | true=>exact ⟨[.put d x],[],G,.inr ⟨d,x,rfl,.inl rfl⟩,fun h=>(by cases h),rfl,rfl⟩
  | false=>exact ⟨[],[],G,.inl rfl,fun h=>(by cases h),rfl,rfl⟩
theorem bC.aZ {al:Bool} (G:List GO) (dst:Option Tmp):bC al true dst s t (s.aZ G) (t.aZ G):=⟨[],[],G,.inl rfl,fun h=>(by cases h),rfl,rfl⟩
theorem bC.r7 {al:Bool} (hG:s.G=t.G) (dst:Option Tmp) (d:Nat) (cs:List AV):bC al true dst s t (s.r7 d cs) (t.r7 d cs):=
 ⟨[],[(d,cs)],s.G,.inl rfl,fun h=>(by cases h),rfl,(by rw [hG]; rfl)⟩
theorem fk {a b:aV}:∀ {l:List Operand},(∀ y∈l,ba E a y=ba E b y)→jU E a l=jU E b l
 | [],_=>rfl
 | x :: l,h=>by
  simp only [jU]
  rw [h x (by simp),fk (l:=l) (fun y hy=>h y (by simp [hy]))]
theorem kO {a b:aV}:∀ {l:List (Nat × Operand)},(∀ p∈l,ba E a p.2=ba E b p.2)→Jf E a l=Jf E b l
 | [],_=>rfl
 | (i,x) :: l,h=>by
  simp only [Jf]
  rw [h (i,x) (by simp),kO (l:=l) (fun y hy=>h y (by simp [hy]))]
theorem xd (hG:s.G=t.G) (p:SV) (hB:∀ k off,p=.lp k off→cO s.boxes k=cO t.boxes k):lh s p=lh t p:=by
 unfold lh
 rw [hG]
 cases p with
 | lp k off=>simp only [hB k off rfl]
 | v a=>cases a <;> rfl
 | _=>rfl
theorem AY (hG:s.G=t.G) (ty:TypeId) (p:SV) (hB:∀ k off,p=.lp k off→cO s.boxes k=cO t.boxes k):po E s ty p=po E t ty p:=by
 unfold po
 rw [xd hG p hB]
theorem sA (hG:s.G=t.G) (id f i sz:Nat) (ty:TypeId):tX E s id f i sz ty=tX E t id f i sz ty:=by
 unfold tX
 rw [hG]
theorem sB (hG:s.G=t.G) (id j f i sz:Nat) (ty:TypeId):tY E s id j f i sz ty=tY E t id j f i sz ty:=by
 unfold tY
 rw [hG]
theorem AZ (hG:s.G=t.G) (ty:TypeId) (p:SV) (hB:∀ k off,p=.lp k off→cO s.boxes k=cO t.boxes k):xx E s ty p=xx E t ty p:=by
 unfold xx
 split
 ·rw [sA hG]
 ·rw [sB hG]
 ·rw [AY hG _ _ hB]
theorem A0 (hG:s.G=t.G) (esz:Nat) (d x:AV):pu s esz d x=pu t esz d x:=by
 unfold pu
 rw [hG]
theorem sC {f:FuncId} {dst:Option Tmp} {el:TypeId} {cs:List AV} {c:Bool} {s':St} (hn:s.n=t.n) (hG:s.G=t.G) (h:ej E f s dst el cs=some (c,s')) :
  ∃ t',ej E f t dst el cs=some (c,t')∧bC true true dst s t s' t':=by
 unfold ej at *
 cases dst with
 | none=>cases h
 | some d=>
  simp only at *
  split at h
  ·rename_i hg
   injection h with h
   injection h with h1 h2
   subst h1 h2
   rw [if_pos hg]
   refine ⟨_,rfl,?_⟩
   have:=bC.cJ (al:=true) hn (s.G++[.row cs el]) (some d) (.v (.ptr s.G.length 0))
   rw [hG] at this
   have e:s.cU (.row cs el)=s.aZ (t.G++[.row cs el]):=by rw [← hG]; rfl
   rw [e,hG]
   exact this
  ·rename_i hg
   rw [if_neg hg,← hn]
   split at h
   ·rename_i hb
    injection h with h
    injection h with h1 h2
    subst h1 h2
    refine ⟨_,rfl,[.put d (.lp d 0),.kill d],[(d,cs)],s.G,.inr ⟨d,_,rfl,.inr ⟨rfl,rfl⟩⟩,fun h=>(by cases h),?_,?_⟩
    ·simp [St.put,St.r7,St.kill,hb,St.eE]
    ·simp only [St.put,St.r7,St.kill,← hn,hb,St.eE,hG]
     rfl
   ·cases h
theorem A1 {ty:TypeId} {p x:SV} {s':St} {al:Bool} {dst:Option Tmp} (hG:s.G=t.G) (hB:∀ k off,p=.lp k off→cO s.boxes k=cO t.boxes k) (h:fy E s ty p x=some s') :
  ∃ t',fy E t ty p x=some t'∧bC al true dst s t s' t':=by
 unfold fy at *
 split at h
 ·split at h
  ·rename_i hc
   rw [if_pos hc]
   split at h
   ·rw [← hB _ _ rfl]
    split at h
    ·split at h
     ·rename_i Fo
      cases h
      simp only [Fo,if_true]
      exact ⟨_,rfl,.r7 hG _ _ _⟩
     ·cases h
    ·cases h
   ·rw [← hG]
    split at h
    ·split at h
     ·rename_i Fo
      cases h
      simp only [Fo,if_true]
      exact ⟨_,rfl,.aZ _ _⟩
     ·cases h
    ·cases h
   ·cases h
  ·cases h
 ·cases h
theorem A2 {ty:TypeId} {p x:SV} {c:Bool} {s':St} {al:Bool} {dst:Option Tmp} (hG:s.G=t.G) (hB:∀ k off,p=.lp k off→cO s.boxes k=cO t.boxes k) (h:dU E s ty p x=some (c,s')) :
  ∃ t',dU E t ty p x=some (c,t')∧bC al true dst s t s' t':=by
 unfold dU at *
 split at h
 ·rw [← hG]
  split at h
  ·split at h
   ·rename_i h1 h2 hc
    simp only [hc,if_true]
    split at h
    ·rename_i Fo
     injection h with h; injection h with e1 e2
     subst e1; subst e2
     simp only [Fo,if_true]
     exact ⟨_,rfl,.aZ _ _⟩
    ·rename_i Fo
     rw [if_neg Fo,← sA hG]
     split at h
     ·rename_i hg
      split at h
      ·rename_i UJ
       injection h with h; injection h with e1 e2
       subst e1; subst e2
       simp only [UJ,if_true]
       exact ⟨_,rfl,.aZ _ _⟩
      ·cases h
     ·cases h
   ·cases h
  ·cases h
 ·rw [← hG]
  split at h
  ·split at h
   ·rename_i h1 h2 hc
    simp only [hc,if_true]
    split at h
    ·rename_i Fo
     injection h with h; injection h with e1 e2
     subst e1; subst e2
     simp only [Fo,if_true]
     exact ⟨_,rfl,.aZ _ _⟩
    ·rename_i Fo
     rw [if_neg Fo,← sB hG]
     split at h
     ·rename_i hg
      split at h
      ·rename_i UJ
       injection h with h; injection h with e1 e2
       subst e1; subst e2
       simp only [UJ,if_true]
       exact ⟨_,rfl,.aZ _ _⟩
      ·cases h
     ·cases h
   ·cases h
  ·cases h
 ·split at h
  ·rename_i s1 hs
   injection h with h; injection h with e1 e2
   subst e1; subst e2
   obtain ⟨t',h3,h4⟩:=A1 (al:=al) (dst:=dst) hG hB hs
   simp only [h3]
   exact ⟨_,rfl,h4⟩
  ·cases h
theorem CQ (hG:s.G=t.G) (p x:SV):ox s p x=ox t p x:=by unfold ox; rw [hG]
theorem A3 {ty:TypeId} {p x:SV} {c:Bool} {s':St} {al:Bool} {dst:Option Tmp} (hG:s.G=t.G) (hB:∀ k off,p=.lp k off→cO s.boxes k=cO t.boxes k) (h:iz E s ty p x=some (c,s')) :
  ∃ t',iz E t ty p x=some (c,t')∧bC al true dst s t s' t':=by
 unfold iz at *
 rw [← CQ hG]
 split at h
 ·rename_i c1 s1 hs
  injection h with h; injection h with e1 e2
  subst e1; subst e2
  obtain ⟨t',h3,pre,preB,G,h4,_,h5,h6⟩:=A2 (s:=s.aZ (ox s p x).2.2) (t:=t.aZ (ox s p x).2.2) (al:=al) (dst:=dst) rfl hB hs
  rw [h3]
  exact ⟨_,rfl,pre,preB,G,h4,(fun h=>by cases h),h5,h6⟩
 ·cases h
def bN:Op→Bool
 | .alloc _=>true
 | .box _ _=>true
 | _=>false
def qU:Op→Bool
 | .move _ | .assign _ | .pick _ _ _ | .build _ _ | .buildSlice _ _ _ | .load _ _ | .binOp _ _ _ _ _ | .unOp _ _ _ | .convert _ _ _ | .makeFunc _ _ _ | .fieldAddr _ _ _ | .field _ _ _
 | .indexAddr _ _ _ | .index _ _ _ | .slice _ _ _ _ _ | .extract _ _ | .lookup _ _ _ _ | .nilCheck _=>true
 | .call { callee:=.builtin .len,.. }=>true
 | .call { callee:=.builtin .max,.. }=>true
 | .call { callee:=.builtin .min,.. }=>true
 | _=>false
def Nu:Op→Bool
 | .load _ _=>true
 | .lookup _ _ _ _=>true
 | .call _=>true
 | .convert _ _ _=>true
 | _=>false
def J2:Builtin→Bool
 | .append | .copy | .clear=>true
 | _=>false
theorem xe {dst:Option Tmp} {b:Builtin} {l:List AV} {tys:List TypeId} {c:Bool} {s':St} {al:Bool} (hn:s.n=t.n) (hG:s.G=t.G) (h:bJ E s dst b l tys=some (c,s')) :
  ∃ t',bJ E t dst b l tys=some (c,t')∧bC al (J2 b) dst s t s' t':=by
 obtain ⟨sl,bx,G,m,ro,n⟩:=s
 obtain ⟨Qq,DO,G',m',iB,n'⟩:=t
 have hc:=fun esz d x=>A0 (s:=⟨sl,bx,G,m,ro,n⟩) (t:=⟨Qq,DO,G',m',iB,n'⟩) hG esz d x
 simp only at hn hG
 subst hn hG
 unfold bJ at h ⊢
 simp only [← hc]
 cases b
 all_goals (try (cases h; done))
 all_goals (try simp only at h ⊢)
 all_goals (try (split at h <;> first | (cases h; done) | simp only at h ⊢))
 all_goals (repeat' (split at h))
 all_goals (first | (cases h; done) | skip)
 all_goals (injection h with h; injection h with h1 h2; subst h1 h2)
 all_goals (try simp only [if_true, *])
 all_goals (first | exact ⟨_,rfl,.put (by rfl) (by rfl) _ _⟩ | exact ⟨_,rfl,.cJ (by rfl) _ _ _⟩ | exact ⟨_,rfl,.aZ _ _⟩)
theorem uX (hG:s.G=t.G) (a b:TypeId) (x:SV):kD E s a b x=kD E t a b x:=by
 unfold kD
 rw [hG]
theorem xf (hG:s.G=t.G) (ty:TypeId) (m k:SV):jV E s ty m k=jV E t ty m k:=by
 have:mapOf s=mapOf t:=by funext m; unfold mapOf; rw [hG]
 unfold jV gX
 rw [this,hG]
theorem qa {ty:TypeId} {m k x:SV} {s':St} {al:Bool} {dst:Option Tmp} (hG:s.G=t.G) (h:eo E s ty m k x=some s') :
  ∃ t',eo E t ty m k x=some t'∧bC al true dst s t s' t':=by
 unfold eo at *
 rw [← hG]
 repeat' (split at h)
 all_goals (first | (cases h; done) | skip)
 cases h
 simp only [*]
 exact ⟨_,rfl,.aZ _ _⟩
theorem CR {dst:Option Tmp} {x:SV} {s':St} {al:Bool} (hn:s.n=t.n) (hG:s.G=t.G) (h:jW s dst x=some s') :
  ∃ t',jW t dst x=some t'∧bC al true dst s t s' t':=by
 unfold jW at *
 rw [← hG]
 split at h
 ·split at h
  ·rename_i l pos hg
   cases hb:Nat.blt pos l.length with
   | true=>
    rw [hb] at h
    simp only [cond_true] at h ⊢
    cases h
    exact ⟨_,rfl,.cJ hn _ _ _⟩
   | false=>
    rw [hb] at h
    simp only [cond_false] at h ⊢
    cases h
    obtain ⟨pre,preB,G,p1,p2,p3⟩:=bC.put (al:=al) (w:=true) hn hG dst (.v (.bt [.bool false]))
    exact ⟨_,rfl,pre,preB,G,p1,p2,p3⟩
  ·cases h
 ·cases h
theorem lF {f:FuncId} {r:Bool × St} (h:fC E f s o=some r):∃ args tys,o.op=.call { callee:=.builtin .append,args:=args,argTypes:=tys }:=by
 unfold fC at h
 split at h
 ·split at h
  ·split at h
   ·rename_i args tys ho
    exact ⟨args,tys,ho⟩
   ·cases h
  ·cases h
 ·cases h
theorem uY {f:FuncId} {c:Bool} {s':St} {al:Bool} (hn:s.n=t.n) (hG:s.G=t.G) (dE:∀ y∈o.op.operands,ba E s.ab y=ba E t.ab y)
  (h:fC E f s o=some (c,s')):∃ t',fC E f t o=some (c,t')∧bC al true o.dst s t s' t':=by
 obtain ⟨args,tys,ho⟩:=lF h
 have h1:jU E s.ab args.toList=jU E t.ab args.toList:=fk fun y hy=>dE y (by rw [ho]; simp [Op.operands,Call.operands]; simpa using hy)
 unfold fC at h ⊢
 rw [ho] at h ⊢
 simp only [h1,hG] at h ⊢
 repeat' (split at h)
 all_goals (first | (cases h; done) | skip)
 injection h with h; injection h with h2 h3
 subst h2 h3
 simp only [*,if_true]
 refine ⟨_,rfl,?_⟩
 exact bC.cJ hn _ _ _
theorem tu {f:FuncId} (hn:s.n=t.n) (hG:s.G=t.G) (dE:∀ y∈o.op.operands,ba E s.ab y=ba E t.ab y) (h:fC E f s o=none):fC E f t o=none:=by
 cases ht:fC E f t o with
 | none=>rfl
 | some r=>
  obtain ⟨t',h1,_⟩:=uY (s:=t) (t:=s) (al:=false) hn.symm hG.symm (fun y hy=>(dE y hy).symm) (c:=r.1) (s':=r.2) ht
  rw [h] at h1
  cases h1
theorem qb {f:FuncId} {c:Bool} {s':St} (hn:s.n=t.n) (hG:s.G=t.G) (hB:∀ k off,(∃ y∈o.op.operands,ba E s.ab y=.lp k off)→cO s.boxes k=cO t.boxes k) (dE:∀ y∈o.op.operands,ba E s.ab y=ba E t.ab y)
  (h:ak E f s o=some (c,s')):∃ t',ak E f t o=some (c,t')∧bC (bN o.op) (!qU o.op) o.dst s t s' t':=by
 obtain ⟨dst,op,ty,pos,after,guard⟩:=o
 cases op
 case move x=>
  simp only [ak,dE x (by simp [Op.operands])] at h ⊢
  split at h
  all_goals (injection h with h; injection h with h1 h2; subst h1 h2; (try simp only [*]); exact ⟨_,rfl,.put hn hG _ _⟩)
 case assign x=>
  simp only [ak,dE x (by simp [Op.operands])] at h ⊢
  split at h
  all_goals (injection h with h; injection h with h1 h2; subst h1 h2; (try simp only [*]); exact ⟨_,rfl,.put hn hG _ _⟩)
 case pick x y z=>
  simp only [ak,dE x (by simp [Op.operands]),dE y (by simp [Op.operands]),dE z (by simp [Op.operands])] at h ⊢
  split at h
  ·injection h with h; injection h with h1 h2; subst h1 h2; (try simp only [*]); exact ⟨_,rfl,.put hn hG _ _⟩
  ·cases h
 case alloc e=>
  simp only [ak] at h ⊢
  repeat' (split at h)
  all_goals (first | (cases h; done) | skip)
  simp only [*]
  exact sC hn hG h
 case box e x=>
  simp only [ak,dE x (by simp [Op.operands])] at h ⊢
  repeat' (split at h)
  all_goals (first | (cases h; done) | skip)
  simp only [*]
  exact sC hn hG h
 case build ty ps=>
  have he:li E s ty ps.toList=li E t ty ps.toList:=by
   unfold li
   rw [kO (fun p hp=>dE p.2 (by simp only [Op.operands,List.mem_toArray,List.mem_map]; exact ⟨p,hp,rfl⟩))]
  simp only [ak,he] at h ⊢
  split at h
  ·injection h with h; injection h with h1 h2; subst h1 h2; (try simp only [*]); exact ⟨_,rfl,.put hn hG _ _⟩
  ·cases h
 case buildSlice ty len ps=>
  have he:bR E s ty len ps.toList=bR E t ty len ps.toList:=by
   unfold bR
   rw [kO (fun p hp=>dE p.2 (by simp only [Op.operands,List.mem_toArray,List.mem_map]; exact ⟨p,hp,rfl⟩))]
  simp only [ak,he] at h ⊢
  split at h
  ·injection h with h; injection h with h1 h2; subst h1 h2; (try simp only [*]); exact ⟨_,rfl,.put hn hG _ _⟩
  ·cases h
 case load ty x=>
  simp only [ak,dE x (by simp [Op.operands])] at h ⊢
  rw [AZ hG ty _ (fun k off e=>hB k off ⟨x,by simp [Op.operands],by rw [dE x (by simp [Op.operands])]; exact e⟩)] at h
  split at h
  ·injection h with h; injection h with h1 h2; subst h1 h2; (try simp only [*]); exact ⟨_,rfl,.put hn hG _ _⟩
  ·cases h
 case store ty x y=>
  simp only [ak,dE x (by simp [Op.operands]),dE y (by simp [Op.operands])] at h ⊢
  split at h
  ·rename_i s1 hs
   injection h with h; injection h with h1 h2; subst h1 h2
   obtain ⟨t',h3,h4⟩:=A3 (al:=false) (dst:=none) hG (fun k off e=>hB k off ⟨x,by simp [Op.operands],by rw [dE x (by simp [Op.operands])]; exact e⟩) hs
   rw [h3]
   exact ⟨_,rfl,h4⟩
  ·cases h
 case binOp op a x y b=>
  simp only [ak,dE x (by simp [Op.operands]),dE y (by simp [Op.operands])] at h ⊢
  repeat' (split at h)
  all_goals (first | (cases h; done) | skip)
  all_goals (injection h with h; injection h with h1 h2; subst h1 h2; (try simp only [*]); exact ⟨_,rfl,.put hn hG _ _⟩)
 case unOp op a x=>
  simp only [ak,dE x (by simp [Op.operands])] at h ⊢
  repeat' (split at h)
  all_goals (first | (cases h; done) | skip)
  all_goals (injection h with h; injection h with h1 h2; subst h1 h2; (try simp only [*]); exact ⟨_,rfl,.put hn hG _ _⟩)
 case nilCheck x=>
  simp only [ak,dE x (by simp [Op.operands])] at h ⊢
  repeat' (split at h)
  all_goals (first | (cases h; done) | skip)
  all_goals (injection h with h; injection h with h1 h2; subst h1 h2; (try simp only [*]); exact ⟨_,rfl,.put hn hG _ _⟩)
 case convert a b x=>
  simp only [ak,dE x (by simp [Op.operands]),uX hG] at h ⊢
  repeat' (split at h)
  all_goals (first | (cases h; done) | skip)
  all_goals (injection h with h; injection h with h1 h2; subst h1 h2; (try simp only [*]); exact ⟨_,rfl,.put hn hG _ _⟩)
 case makeFunc fo a b=>
  cases fo with
  | func g=>
   have h1:jU E s.ab a.toList=jU E t.ab a.toList:=fk fun y hy=>dE y (by simp only [Op.operands,Array.mem_append]; exact .inl (by simpa using hy))
   have h2:jU E s.ab b.toList=jU E t.ab b.toList:=fk fun y hy=>dE y (by simp only [Op.operands,Array.mem_append]; exact .inr (by simpa using hy))
   simp only [ak,h1,h2] at h ⊢
   repeat' (split at h)
   all_goals (first | (cases h; done) | skip)
   all_goals (injection h with h; injection h with h1 h2; subst h1 h2; (try simp only [*]); exact ⟨_,rfl,.put hn hG _ _⟩)
  | _=>simp [ak] at h
 case fieldAddr a x j=>
  simp only [ak,dE x (by simp [Op.operands])] at h ⊢
  repeat' (split at h)
  all_goals (first | (cases h; done) | skip)
  all_goals (injection h with h; injection h with h1 h2; subst h1 h2; (try simp only [*]); exact ⟨_,rfl,.put hn hG _ _⟩)
 case field a x j=>
  simp only [ak,dE x (by simp [Op.operands])] at h ⊢
  repeat' (split at h)
  all_goals (first | (cases h; done) | skip)
  all_goals (injection h with h; injection h with h1 h2; subst h1 h2; (try simp only [*]); exact ⟨_,rfl,.put hn hG _ _⟩)
 case indexAddr a x y=>
  simp only [ak,dE x (by simp [Op.operands]),dE y (by simp [Op.operands])] at h ⊢
  repeat' (split at h)
  all_goals (first | (cases h; done) | skip)
  all_goals (injection h with h; injection h with h1 h2; subst h1 h2; (try simp only [*]); exact ⟨_,rfl,.put hn hG _ _⟩)
 case index a x y=>
  simp only [ak,dE x (by simp [Op.operands]),dE y (by simp [Op.operands])] at h ⊢
  repeat' (split at h)
  all_goals (first | (cases h; done) | skip)
  all_goals (injection h with h; injection h with h1 h2; subst h1 h2; (try simp only [*]); exact ⟨_,rfl,.put hn hG _ _⟩)
 case slice a x lo hi mx=>
  have h1:jN E s.ab lo=jN E t.ab lo:=by
   cases lo with
   | none=>rfl
   | some y=>simp only [jN]; rw [dE y (by simp [Op.operands])]
  have h2:jN E s.ab hi=jN E t.ab hi:=by
   cases hi with
   | none=>rfl
   | some y=>simp only [jN]; rw [dE y (by simp [Op.operands])]
  simp only [ak,dE x (by simp [Op.operands]),h1,h2] at h ⊢
  repeat' (split at h)
  all_goals (first | (cases h; done) | skip)
  all_goals (injection h with h; injection h with h1 h2; subst h1 h2; (try simp only [*]); exact ⟨_,rfl,.put hn hG _ _⟩)
 case extract x i=>
  simp only [ak,dE x (by simp [Op.operands])] at h ⊢
  repeat' (split at h)
  all_goals (first | (cases h; done) | skip)
  all_goals (injection h with h; injection h with h1 h2; subst h1 h2; (try simp only [*]); exact ⟨_,rfl,.put hn hG _ _⟩)
 case makeSlice ty x y=>
  simp only [ak,ln,dE x (by simp [Op.operands]),dE y (by simp [Op.operands]),hG] at h ⊢
  repeat' (split at h)
  all_goals (first | (cases h; done) | skip)
  all_goals (injection h with h; injection h with h1 h2; subst h1 h2)
  all_goals (simp only [*])
  all_goals (refine ⟨_,rfl,?_⟩)
  all_goals (have e:∀ o,t.cU o=t.aZ (t.G++[o]):=fun o=>rfl)
  all_goals (have e':∀ o,s.cU o=s.aZ (t.G++[o]):=fun o=>by rw [← hG]; rfl)
  all_goals (try rw [e,e'])
  all_goals (exact bC.cJ (al:=false) hn _ dst _)
 case lookup ty x y ok=>
  simp only [ak,dE x (by simp [Op.operands]),dE y (by simp [Op.operands]),xf hG] at h ⊢
  split at h
  ·injection h with h; injection h with h1 h2; subst h1 h2; (try simp only [*]); exact ⟨_,rfl,.put hn hG _ _⟩
  ·cases h
 case mapUpdate ty x y z=>
  simp only [ak,dE x (by simp [Op.operands]),dE y (by simp [Op.operands]),dE z (by simp [Op.operands])] at h ⊢
  split at h
  ·rename_i s1 hs
   injection h with h; injection h with h1 h2; subst h1 h2
   obtain ⟨t',h3,h4⟩:=qa (al:=false) (dst:=none) hG hs
   rw [h3]
   exact ⟨_,rfl,h4⟩
  ·cases h
 case insert ty x y z=>
  simp only [ak,dE x (by simp [Op.operands]),dE y (by simp [Op.operands]),dE z (by simp [Op.operands])] at h ⊢
  split at h
  ·rename_i s1 hs
   injection h with h; injection h with h1 h2; subst h1 h2
   obtain ⟨t',h3,h4⟩:=qa (al:=false) (dst:=none) hG hs
   rw [h3]
   exact ⟨_,rfl,h4⟩
  ·cases h
 case entry x=>
  simp only [ak,dE x (by simp [Op.operands])] at h ⊢
  have e:ra E s (ba E t.ab x)=ra E t (ba E t.ab x):=by unfold ra; rw [hG]
  rw [e] at h
  split at h
  ·injection h with h; injection h with h1 h2; subst h1 h2; (try simp only [*]); exact ⟨_,rfl,.put hn hG _ _⟩
  ·cases h
 case mapEntry ty x y=>
  simp only [ak,dE x (by simp [Op.operands]),dE y (by simp [Op.operands])] at h ⊢
  unfold eX at h ⊢
  rw [← hG]
  repeat' (split at h)
  all_goals (first | (cases h; done) | skip)
  rename_i iw
  repeat' (split at iw)
  all_goals (first | (cases iw; done) | skip)
  injection iw with iw; injection iw with h3 iw; injection iw with h4 h5
  injection h with h; injection h with h1 h2; subst h1 h2 h3 h4 h5
  simp only [*,if_true]
  exact ⟨_,rfl,bC.cJ (al:=false) hn _ dst _⟩
 case entryStore ty x y z=>
  simp only [ak,dE x (by simp [Op.operands]),dE y (by simp [Op.operands]),dE z (by simp [Op.operands])] at h ⊢
  unfold dC at h ⊢
  rw [← hG]
  repeat' (split at h)
  all_goals (first | (cases h; done) | skip)
  rename_i iw
  repeat' (split at iw)
  all_goals (first | (cases iw; done) | skip)
  injection iw with iw; injection iw with h3 h5
  injection h with h; injection h with h1 h2; subst h1 h2 h3 h5
  simp only [*]
  exact ⟨_,rfl,.aZ _ _⟩
 case range ty x=>
  simp only [ak,dE x (by simp [Op.operands])] at h ⊢
  repeat' (split at h)
  all_goals (first | (cases h; done) | skip)
  ·injection h with h; injection h with h1 h2; subst h1 h2
   (try simp only [*])
   refine ⟨_,rfl,?_⟩
   have e:∀ o,t.cU o=t.aZ (s.G++[o]):=fun o=>by rw [hG]; rfl
   rw [e,← hG]
   exact bC.cJ (al:=false) hn _ dst _
  ·rename_i hk hg
   injection h with h; injection h with h1 h2; subst h1 h2
   have xF:=hg
   rw [hG] at xF
   simp only [hk,xF]
   refine ⟨_,rfl,?_⟩
   have e:∀ o,t.cU o=t.aZ (s.G++[o]):=fun o=>by rw [hG]; rfl
   rw [e,← hG]
   exact bC.cJ (al:=false) hn _ dst _
 case next x b=>
  cases b with
  | false=>simp [ak] at h
  | true=>
   simp only [ak,dE x (by simp [Op.operands])] at h ⊢
   split at h
   ·rename_i s1 hs
    injection h with h; injection h with h1 h2; subst h1 h2
    obtain ⟨t',h3,h4⟩:=CR (al:=false) hn hG hs
    rw [h3]
    exact ⟨_,rfl,h4⟩
   ·cases h
 case makeMap ty r=>
  cases r with
  | none=>
   simp only [ak] at h ⊢
   injection h with h; injection h with h1 h2; subst h1 h2
   refine ⟨_,rfl,?_⟩
   have:=bC.cJ (al:=false) hn (s.G++[.map []]) dst (.v (.map s.G.length))
   have e:∀ o,t.cU o=t.aZ (s.G++[o]):=fun o=>by rw [hG]; rfl
   rw [e,← hG]
   exact this
  | some _=>simp [ak] at h
 case call cl=>
  obtain ⟨callee,args,tys⟩:=cl
  cases callee with
  | builtin b=>
   have h1:jU E s.ab args.toList=jU E t.ab args.toList:=fk fun y hy=>dE y (by simp [Op.operands,Call.operands]; simpa using hy)
   cases hf:fC E f s { dst:=dst,op:=.call { callee:=.builtin b,args:=args,argTypes:=tys },type:=ty,pos:=pos,after:=after,guard:=guard } with
   | some r=>
    simp only [ak,hf] at h
    obtain ⟨t',q1,q2⟩:=uY (al:=bN (.call { callee:=.builtin b,args:=args,argTypes:=tys })) hn hG dE (c:=r.1) (s':=r.2) hf
    cases h
    obtain ⟨a2,t2,ho⟩:=lF hf
    cases ho
    refine ⟨t',by simp only [ak,q1],?_⟩
    exact q2
   | none=>
   have Re:=tu hn hG dE hf
   simp only [ak,hf,Re,h1] at h ⊢
   split at h
   ·(try simp only [*])
    obtain ⟨t',h3,h4⟩:=xe (al:=false) hn hG h
    refine ⟨t',h3,?_⟩
    have:(!qU (.call { callee:=.builtin b,args:=args,argTypes:=tys }))=J2 b∨J2 b=false:=by cases b <;> simp [qU,J2]
    rcases this with this | this
    ·rw [this]; exact h4
    ·obtain ⟨pre,preB,G,p1,p2,p3⟩:=h4
     exact ⟨pre,preB,G,p1,fun _=>p2 this,p3⟩
   ·cases h
  | _=>simp [ak] at h
 all_goals (simp [ak] at h)
theorem fV {f:FuncId} {c:Bool} {s':St} (hn:s.n=t.n) (hG:s.G=t.G) (hB:cO s.boxes=cO t.boxes) (dE:∀ y∈o.op.operands,ba E s.ab y=ba E t.ab y)
  (h:ak E f s o=some (c,s')):∃ t',ak E f t o=some (c,t')∧bC (bN o.op) (!qU o.op) o.dst s t s' t':=
 qb hn hG (fun k _ _=>by rw [hB]) dE h
end
end Go.Am
namespace Go.Am
open Go
structure nB (s t:St):Prop where
 l:lk s.ab=lk t.ab
 b:cO s.boxes=cO t.boxes
 G:s.G=t.G
 m:s.marks=t.marks
 ro:s.ro=t.ro
 n:s.n=t.n
theorem nB.refl (s:St):nB s s:=⟨rfl,rfl,rfl,rfl,rfl,rfl⟩
theorem nB.symm {s t:St} (h:nB s t):nB t s:=⟨h.l.symm,h.b.symm,h.G.symm,h.m.symm,h.ro.symm,h.n.symm⟩
theorem nB.trans {s t u:St} (h:nB s t) (k:nB t u):nB s u:=⟨h.l.trans k.l,h.b.trans k.b,h.G.trans k.G,h.m.trans k.m,h.ro.trans k.ro,h.n.trans k.n⟩
theorem kP {a b:aV} {e:Nat} (h:lk a e=lk b e):∀ pre:aV,lk (pre++a) e=lk (pre++b) e
 | []=>h
 | .put d x :: pre=>by
  simp only [List.cons_append,lk]
  rw [kP h pre]
 | .kill d :: pre=>by
  simp only [List.cons_append,lk]
  rw [kP h pre]
theorem uZ {a b:bX} {e:Nat} (h:cO a e=cO b e):∀ pre:bX,cO (pre++a) e=cO (pre++b) e
 | []=>h
 | (d,x) :: pre=>by
  simp only [List.cons_append,cO]
  rw [uZ h pre]
theorem nB.eE {s t:St} (h:nB s t) (pre:aV) (preB:bX) (G:List GO):nB (s.eE pre preB G) (t.eE pre preB G):=
 ⟨funext fun e=>kP (by rw [h.l]) pre,funext fun e=>uZ (by rw [h.b]) preB,rfl,h.m,h.ro,h.n⟩
theorem Hh {E:Env} {a b:aV} {x:Operand} (h:∀ t,x=.tmp t→lk a t=lk b t):ba E a x=ba E b x:=by
 cases x with
 | tmp t=>exact h t rfl
 | _=>rfl
theorem nB.ba {E:Env} {s t:St} (h:nB s t) (x:Operand):ba E s.ab x=ba E t.ab x:=Hh fun e _=>by rw [h.l]
section Ah
variable {E:Env} {R:af} {w:World} {β:Nat→Nat} {s t:St} {a:Act}
theorem aL.eqv (h:aL E R w β s a) (e:nB s t):aL E R w β t a where
 g:=by rw [← e.G]; exact h.g
 b:=⟨fun k cs hk=>h.b.box k cs (by rw [e.b]; exact hk),fun k k' c c' h1 h2=>h.b.inj k k' c c' (by rw [e.b]; exact h1) (by rw [e.b]; exact h2)⟩
 t:=fun i hi=>by
  rw [← e.l] at hi ⊢
  exact h.t i hi
 n:=by rw [← e.n]; exact h.n
 d:=by rw [← e.m]; exact h.d
theorem tF {bx DO:bX} (h:cO bx=cO DO) {b:Nat} (k:Own R β bx b):Own R β DO b:=by
 rcases k with k | ⟨j,cs,h1,h2⟩
 ·exact .inl k
 ·exact .inr ⟨j,cs,by rw [← h]; exact h1,h2⟩
theorem Step.eqv {R':af} {w':World} {β':Nat→Nat} {bx DO cx WE:bX} (h:Step R w β bx R' w' β' DO) (h1:cO bx=cO cx) (h2:cO DO=cO WE):Step R w β cx R' w' β' WE:=
 ⟨h.ext,h.os,h.tape,h.output,h.size,fun b hb hn=>h.bl b hb (fun ho=>hn (tF h1 ho)),fun b hb ho=>tF h1 (h.own b hb (tF h2.symm ho)),fun b o hi hb hn=>h.im b o hi hb (fun ho=>hn (tF h1 ho))⟩
end Ah
section ops
variable {E:Env} {s t:St} {f:FuncId} {o:Oper} {K K':St→Prop}
def Inv (K:St→Prop):Prop:=∀ s t,nB s t→K s→K t
theorem A4 {op:Op} (h:qU op=true):bN op=false:=by
 cases op <;> simp_all [qU,bN]
theorem rL (hn:s.n=t.n) (hG:s.G=t.G) (hB:cO s.boxes=cO t.boxes) (dE:∀ y∈o.op.operands,ba E s.ab y=ba E t.ab y) (h:iZ E f o K s)
  (hK:∀ pre preB G,Qp (bN o.op) o.dst pre→(qU o.op=true→preB=[]∧G=s.G)→K (s.eE pre preB G)→K' (t.eE pre preB G)):iZ E f o K' t:=by
 unfold iZ at h ⊢
 split at h
 ·rename_i x args tys ho
  have h1:ba E s.ab x=ba E t.ab x:=dE x (by rw [ho]; simp [Op.operands,Call.operands])
  have h2:jU E s.ab args.toList=jU E t.ab args.toList:=fk fun y hy=>dE y (by rw [ho]; simp [Op.operands,Call.operands]; exact .inr (by simpa using hy))
  try simp only [ho]
  rw [← h1,← h2,← hG]
  split at h
  ·refine cC.mono h fun r G' hk=>?_
   obtain ⟨pre,preB,G,p1,p2,p3,p4⟩:=bC.cJ (s:=s) (t:=t) (al:=bN o.op) hn G' o.dst (.v r)
   rw [p3] at hk
   rw [p4]
   exact hK pre preB G p1 (fun e=>by rw [ho] at e; simp [qU] at e) hk
  ·refine jx.mono h fun r G' hk=>?_
   obtain ⟨pre,preB,G,p1,p2,p3,p4⟩:=bC.cJ (s:=s) (t:=t) (al:=bN o.op) hn G' o.dst (.v (.bool r))
   rw [p3] at hk
   rw [p4]
   exact hK pre preB G p1 (fun e=>by rw [ho] at e; simp [qU] at e) hk
  ·exact h.elim
 ·exact h.elim
 ·split at h
  ·rename_i c s' hs
   obtain ⟨t',h1,pre,preB,G,p1,p2,p3,p4⟩:=fV hn hG hB dE hs
   rw [h1]
   obtain ⟨rfl,hk⟩:=h.out
   refine cX.mk rfl ?_
   rw [p3] at hk
   rw [p4]
   exact hK pre preB G p1 (fun e=>⟨(p2 (by simp [e])).1,(p2 (by simp [e])).2.1⟩) hk
  ·exact h.elim
theorem rM (h:iZ E f o K s) (hK:∀ s,K s→K' s):iZ E f o K' s:=
 rL rfl rfl rfl (fun _ _=>rfl) h fun _ _ _ _ _ hk=>hK _ hk
theorem u0 (h:iZ E f o K s) (e:nB s t) (hK:Inv K):iZ E f o K t:=
 rL e.n e.G e.b (fun y _=>e.ba y) h fun _ _ _ _ _ hk=>hK _ _ (e.eE _ _ _) hk
def Ai (ops:List Oper) (s:St) (o:Oper):Option Bool:=match o.guard with
 | none=>some true
 | some (j,want)=>match mI ops j with
  | some d=>match lk s.ab d with
   | .v (.bool b)=>some (b == want)
   | .v (.bt [])=>some false
   | _=>none
  | none=>none
theorem A5 (s:St) {d:Tmp} {x:SV} (h:lk s.ab d=x):nB s (s.put (some d) x):=by
 simp only [St.put]
 split
 ·refine ⟨funext fun e=>?_,rfl,rfl,rfl,rfl,rfl⟩
  by_cases k:d=e
  ·subst k; rw [aw]; exact h
  ·rw [aD k]
 ·exact nB.refl s
theorem nB.put {s t:St} (h:nB s t) (d:Option Tmp) (x:SV):nB (s.put d x) (t.put d x):=by
 obtain ⟨pre,preB,G,_,_,p3,p4⟩:=bC.put (s:=s) (t:=t) (al:=false) (w:=false) h.n h.G d x
 rw [p3,p4]
 exact h.eE _ _ _
theorem eU {ops:List Oper} (hK:Inv K):bS E f ops o K s↔(Ai ops s o=some true∧iZ E f o K s)∨(Ai ops s o=some false∧K (s.put o.dst (.v eN))):=by
 unfold bS Ai
 cases hg:o.guard with
 | none=>simp
 | some p=>
  obtain ⟨j,want⟩:=p
  simp only
  cases hd:mI ops j with
  | none=>simp
  | some d=>
   simp only
   cases hl:lk s.ab d with
   | none=>simp
   | lp _ _=>simp
   | v a=>
    cases a with
    | bool b=>
     have e1:b=want→nB s (s.put (some d) (.v (.bool want))):=fun e=>A5 s (by rw [hl,e])
     have e2:b=(!want)→nB s (s.put (some d) (.v (.bool (!want)))):=fun e=>A5 s (by rw [hl,e])
     constructor
     ·intro ⟨h1,h2⟩
      by_cases e:b=want
      ·exact .inl ⟨by simp [e],u0 (h1 e) (e1 e).symm hK⟩
      ·have e':b=(!want):=by cases b <;> cases want <;> simp_all
       exact .inr ⟨by simp [e],hK _ _ ((e2 e').symm.put _ _) (h2 e')⟩
     ·rintro (⟨h1,h2⟩ | ⟨h1,h2⟩)
      ·have e:b=want:=by simpa using h1
       exact ⟨fun e=>u0 h2 (e1 e) hK,fun e'=>by subst e; cases b <;> cases e'⟩
      ·have e:¬ b=want:=by simpa using h1
       exact ⟨fun k=>absurd k e,fun e'=>hK _ _ ((e2 e').put _ _) h2⟩
    | bt vs=>cases vs <;> simp
    | _=>simp
theorem bT {ops:List Oper} (h:bS E f ops o K s) (hK:∀ s,K s→K' s):bS E f ops o K' s:=by
 unfold bS at h ⊢
 split at h
 ·exact rM h hK
 ·split at h
  ·exact h.elim
  ·split at h
   ·exact ⟨fun e=>rM (h.1 e) hK,fun e=>hK _ (h.2 e)⟩
   ·exact hK _ h
   ·exact h.elim
theorem zo {ops:List Oper} (e:nB s t):Ai ops s o=Ai ops t o:=by
 unfold Ai
 rw [e.l]
theorem A6 {ops:List Oper} (hK:Inv K):Inv (bS E f ops o K):=fun s t e h=>by
 rw [eU hK] at h ⊢
 rcases h with ⟨h1,h2⟩ | ⟨h1,h2⟩
 ·exact .inl ⟨by rw [← zo e]; exact h1,u0 h2 e hK⟩
 ·exact .inr ⟨by rw [← zo e]; exact h1,hK _ _ (e.put _ _) h2⟩
end ops
end Go.Am
namespace Go.Am
open Go
def Hi (dst:Option Tmp) (s t s' t':St):Prop:=∃ x,s'=s.put dst x∧t'=t.put dst x
section
variable {E:Env} {s t:St} {o:Oper}
theorem Hi.put (_:s.n=t.n) (dst:Option Tmp) (x:SV):Hi dst s t (s.put dst x) (t.put dst x):=⟨x,rfl,rfl⟩
theorem A7 {f:FuncId} {c:Bool} {s':St} (hN:qU o.op=true) (hR:Nu o.op=false) (hn:s.n=t.n) (dE:∀ y∈o.op.operands,ba E s.ab y=ba E t.ab y)
  (h:ak E f s o=some (c,s')):∃ t',ak E f t o=some (c,t')∧Hi o.dst s t s' t':=by
 obtain ⟨dst,op,ty,pos,after,guard⟩:=o
 cases op
 case move x=>
  simp only [ak,dE x (by simp [Op.operands])] at h ⊢
  split at h
  all_goals (injection h with h; injection h with h1 h2; subst h1 h2; (try simp only [*]); exact ⟨_,rfl,.put hn _ _⟩)
 case assign x=>
  simp only [ak,dE x (by simp [Op.operands])] at h ⊢
  split at h
  all_goals (injection h with h; injection h with h1 h2; subst h1 h2; (try simp only [*]); exact ⟨_,rfl,.put hn _ _⟩)
 case pick x y z=>
  simp only [ak,dE x (by simp [Op.operands]),dE y (by simp [Op.operands]),dE z (by simp [Op.operands])] at h ⊢
  split at h
  ·injection h with h; injection h with h1 h2; subst h1 h2; (try simp only [*]); exact ⟨_,rfl,.put hn _ _⟩
  ·cases h
 case build ty ps=>
  have he:li E s ty ps.toList=li E t ty ps.toList:=by
   unfold li
   rw [kO (fun p hp=>dE p.2 (by simp only [Op.operands,List.mem_toArray,List.mem_map]; exact ⟨p,hp,rfl⟩))]
  simp only [ak,he] at h ⊢
  split at h
  ·injection h with h; injection h with h1 h2; subst h1 h2; (try simp only [*]); exact ⟨_,rfl,.put hn _ _⟩
  ·cases h
 case buildSlice ty len ps=>
  have he:bR E s ty len ps.toList=bR E t ty len ps.toList:=by
   unfold bR
   rw [kO (fun p hp=>dE p.2 (by simp only [Op.operands,List.mem_toArray,List.mem_map]; exact ⟨p,hp,rfl⟩))]
  simp only [ak,he] at h ⊢
  split at h
  ·injection h with h; injection h with h1 h2; subst h1 h2; (try simp only [*]); exact ⟨_,rfl,.put hn _ _⟩
  ·cases h
 case binOp op a x y b=>
  simp only [ak,dE x (by simp [Op.operands]),dE y (by simp [Op.operands])] at h ⊢
  repeat' (split at h)
  all_goals (first | (cases h; done) | skip)
  all_goals (injection h with h; injection h with h1 h2; subst h1 h2; (try simp only [*]); exact ⟨_,rfl,.put hn _ _⟩)
 case unOp op a x=>
  simp only [ak,dE x (by simp [Op.operands])] at h ⊢
  repeat' (split at h)
  all_goals (first | (cases h; done) | skip)
  all_goals (injection h with h; injection h with h1 h2; subst h1 h2; (try simp only [*]); exact ⟨_,rfl,.put hn _ _⟩)
 case convert a b x=>simp [Nu] at hR
 case nilCheck x=>
  simp only [ak,dE x (by simp [Op.operands])] at h ⊢
  repeat' (split at h)
  all_goals (first | (cases h; done) | skip)
  all_goals (injection h with h; injection h with h1 h2; subst h1 h2; (try simp only [*]); exact ⟨_,rfl,.put hn _ _⟩)
 case makeFunc fo a b=>
  cases fo with
  | func g=>
   have h1:jU E s.ab a.toList=jU E t.ab a.toList:=fk fun y hy=>dE y (by simp only [Op.operands,Array.mem_append]; exact .inl (by simpa using hy))
   have h2:jU E s.ab b.toList=jU E t.ab b.toList:=fk fun y hy=>dE y (by simp only [Op.operands,Array.mem_append]; exact .inr (by simpa using hy))
   simp only [ak,h1,h2] at h ⊢
   repeat' (split at h)
   all_goals (first | (cases h; done) | skip)
   all_goals (injection h with h; injection h with h1 h2; subst h1 h2; (try simp only [*]); exact ⟨_,rfl,.put hn _ _⟩)
  | _=>simp [ak] at h
 case fieldAddr a x j=>
  simp only [ak,dE x (by simp [Op.operands])] at h ⊢
  repeat' (split at h)
  all_goals (first | (cases h; done) | skip)
  all_goals (injection h with h; injection h with h1 h2; subst h1 h2; (try simp only [*]); exact ⟨_,rfl,.put hn _ _⟩)
 case field a x j=>
  simp only [ak,dE x (by simp [Op.operands])] at h ⊢
  repeat' (split at h)
  all_goals (first | (cases h; done) | skip)
  all_goals (injection h with h; injection h with h1 h2; subst h1 h2; (try simp only [*]); exact ⟨_,rfl,.put hn _ _⟩)
 case indexAddr a x y=>
  simp only [ak,dE x (by simp [Op.operands]),dE y (by simp [Op.operands])] at h ⊢
  repeat' (split at h)
  all_goals (first | (cases h; done) | skip)
  all_goals (injection h with h; injection h with h1 h2; subst h1 h2; (try simp only [*]); exact ⟨_,rfl,.put hn _ _⟩)
 case index a x y=>
  simp only [ak,dE x (by simp [Op.operands]),dE y (by simp [Op.operands])] at h ⊢
  repeat' (split at h)
  all_goals (first | (cases h; done) | skip)
  all_goals (injection h with h; injection h with h1 h2; subst h1 h2; (try simp only [*]); exact ⟨_,rfl,.put hn _ _⟩)
 case slice a x lo hi mx=>
  have h1:jN E s.ab lo=jN E t.ab lo:=by
   cases lo with
   | none=>rfl
   | some y=>simp only [jN]; rw [dE y (by simp [Op.operands])]
  have h2:jN E s.ab hi=jN E t.ab hi:=by
   cases hi with
   | none=>rfl
   | some y=>simp only [jN]; rw [dE y (by simp [Op.operands])]
  simp only [ak,dE x (by simp [Op.operands]),h1,h2] at h ⊢
  repeat' (split at h)
  all_goals (first | (cases h; done) | skip)
  all_goals (injection h with h; injection h with h1 h2; subst h1 h2; (try simp only [*]); exact ⟨_,rfl,.put hn _ _⟩)
 case extract x i=>
  simp only [ak,dE x (by simp [Op.operands])] at h ⊢
  repeat' (split at h)
  all_goals (first | (cases h; done) | skip)
  all_goals (injection h with h; injection h with h1 h2; subst h1 h2; (try simp only [*]); exact ⟨_,rfl,.put hn _ _⟩)
 all_goals (first | (simp [qU] at hN; done) | (simp [Nu] at hR; done))
end
end Go.Am
