/- The abstract machine: regions in the order of the text,calls,control. -/
import Derived.Test.YtegoimldbgdeiaaGreatAmKG
import Derived.RangeFuncCalls
import Derived.RangeFuncRecord
import Derived.RangeFuncIn
import Derived.OrdersIn
set_option linter.all false
open Array renaming mem_append→aaM, getD_eq_getD_getElem?→aaN, mapM_eq_mapM_toList→aaQ
open Go.Call renaming operands→aaO
open Go.Deferred renaming ofValue→aaV
open Go.Fence renaming wide→aap
open Go.Instr renaming takeDeferred→aaU
open Go.Op renaming operands→aal
open Go.Oper renaming semAt_eq→aav
open Go.Region renaming wanted→aao
open Go.Result renaming andThen_ok→aaq
open Go.Sem renaming run_bind→aas, run_pure→aaK
open List renaming cons_append→aax, mem_toArray→aaL, mem_map→aaR, getElem?_eq_none→aaT
open Nat renaming blt→aaI, le_of_ble_eq_true→aaS
namespace Go.Am
open Go
def cm (R:ai) (ro:Option Nat) (F:Fence):Prop:=match ro with
 |none=>F=aap
 |some id=>∃ b,nth R.obj id=some (.bE b)∧F=aap.inRound b
theorem cm.mono {R R':ai} {w w':World} (e:Ext R w R' w') {ro:Option Nat} {F:Fence} (h:cm R ro F):cm R' ro F:=by
 cases ro with
 |none=>exact h
 |some id=>obtain ⟨b,h1,h2⟩:=h; exact ⟨b,e.bE h1,h2⟩
theorem cm.fn {R:ai} {ro:Option Nat} {F:Fence} (h:cm R ro F) (f:FuncId):F.fn f:=by
 cases ro with
 |none=>rw [show F=aap from h]; trivial
 |some id=>obtain ⟨b,_,h2⟩:=h; rw [h2]; trivial
theorem cm.depth {R:ai} {ro:Option Nat} {F:Fence} (h:cm R ro F):F.depth=none:=by
 cases ro with
 |none=>rw [show F=aap from h]; rfl
 |some id=>obtain ⟨b,_,h2⟩:=h; rw [h2]; rfl
theorem cm.calls {R:ai} {ro:Option Nat} {F:Fence} (h:cm R ro F) {n:Nat} {P:Program} {f:FuncId} {args:Array Value} {w:World} {Q:Ending→World→Prop} (hc:CallsIn aap n P f args w Q):CallsIn F n P f args w Q:=by
 cases ro with
 |none=>rw [show F=aap from h]; exact hc
 |some id=>obtain ⟨b,_,h2⟩:=h; rw [h2]; exact hc
def Uy (E:Env) (R:ai) (w:World) (β:Nat→Nat) (s:St) (Q:Exit→St→Prop):Exit→Act→World→Prop:=
 fun e a' w'=>∃ s' R' β',Q e s'∧aY E R' w' β' s' a'∧Step R w β s.boxes R' w' β' s'.boxes∧s'.ro=s.ro
def gl (E:Env) (c:Code) (Q:Exit→St→Prop) (s:St):Prop:=
 ∀ (R:ai) (w:World) (β:Nat→Nat) (a:Act) (F:Fence),aY E R w β s a→cm R s.ro F→c.wpIn F 0 E.P (Uy E R w β s Q) a w
theorem gl.mono {E:Env} {c:Code} {Q Q':Exit→St→Prop} {s:St} (h:gl E c Q s) (hq:∀ e s,Q e s→Q' e s):gl E c Q' s:=
 fun R w β a F hr hf=>wpIn_mono (h R w β a F hr hf) fun e _ _ ⟨s',R',β',h1,h2⟩=>⟨s',R',β',hq e s' h1,h2⟩
section rules
variable {E:Env} {Q:Exit→St→Prop} {s:St}
theorem gl.skip (h:Q .normal s):gl E .skip Q s:=fun _ _ _ _ _ hr _=>wpIn_skip ⟨s,_,_,h,hr,Step.refl _ _ _ _,rfl⟩
theorem gl.label {l:Nat} (h:Q .normal s):gl E (.label l) Q s:=fun _ _ _ _ _ hr _=>wpIn_label ⟨s,_,_,h,hr,Step.refl _ _ _ _,rfl⟩
theorem gl.exit {id:Nat} (h:Q (.exit id) s):gl E (.exit id) Q s:=fun _ _ _ _ _ hr _=>wpIn_exit ⟨s,_,_,h,hr,Step.refl _ _ _ _,rfl⟩
theorem gl.ret (h:Q .ret s):gl E .ret Q s:=fun _ _ _ _ _ hr _=>wpIn_ret ⟨s,_,_,h,hr,Step.refl _ _ _ _,rfl⟩
def xC (N:St→Prop) (Q:Exit→St→Prop):Exit→St→Prop
 |.normal,s=>N s
 |e,s=>Q e s
theorem gl.seq {x y:Code} (h:gl E x (xC (gl E y Q) Q) s):gl E (.seq x y) Q s:=fun R w β a F hr hf=>by
 refine wpIn_seq (wpIn_mono (h R w β a F hr hf) ?_);rintro e a' w' ⟨s',R',β',hq,ky,iP,ba⟩;cases e with
 |normal=>
  refine wpIn_mono (hq R' w' β' a' F ky (by rw [ba]; exact hf.mono iP.ext)) ?_;rintro e a'' Pq ⟨DF,Mf,SI,MT,Aa,s6,xD⟩;exact ⟨DF,Mf,SI,MT,Aa,iP.trans s6,xD.trans ba⟩
 |_=>exact ⟨s',R',β',hq,ky,iP,ba⟩
theorem gl.cond {c:Operand} {x y:Code} {b:Bool} (hc:bG E s.ab c=.v (.bool b)) (h1:b=true→gl E x Q s) (h2:b=false→gl E y Q s):gl E (.cond c x y) Q s:=fun R w β a F hr hf=>by
 have rc:=aV hr c;rw [hc] at rc;have hb:a.eval c=.bool b:=by
  have rc':Rel R w (.bool b) (a.eval c):=rc;generalize a.eval c=v at rc';cases rc';rfl
 exact wpIn_cond_split hb (fun e=>h1 e R w β a F hr hf) (fun e=>h2 e R w β a F hr hf)
def Uz (id:Nat) (Q:Exit→St→Prop):Exit→St→Prop
 |.exit iU,s=>(iU=id→Q .normal s)∧(iU≠id→Q (.exit iU) s)
 |e,s=>Q e s
theorem gl.block {id:Nat} {c:Code} (h:gl E c (Uz id Q) s):gl E (.block id c) Q s:=fun R w β a F hr hf=>by
 refine wpIn_block (wpIn_mono (h R w β a F hr hf) ?_);rintro e a' w' ⟨s',R',β',hq,rest⟩;cases e with
 |exit iU=>
  by_cases e:iU=id
  ·simp only [Exit.inBlock,e,if_true];exact ⟨s',R',β',hq.1 e,rest⟩
  ·simp only [Exit.inBlock,e,if_false];exact ⟨s',R',β',hq.2 e,rest⟩
 |_=>exact ⟨s',R',β',hq,rest⟩
theorem kF {F:Fence} {n:Nat} {P:Program} {Q:Exit→Act→World→Prop} {c:Code} (I:Nat→Act→World→Prop)
  (round:∀ m a w,I m a w→c.wpIn F n P (Exit.then (fun a' w'=>∃ m',m' < m∧I m' a' w') Q) a w):∀ {m:Nat} {a:Act} {w:World},I m a w→(Code.loop c).wpIn F n P Q a w:=by
 intro m a w h₀ b k cs ba hb hr;have key:∀ j a w,I j a w →
   ∃ e a' w',Q e a' w'∧ArrivesIn (Machine.fenced P F) P (lone (b.atR a (.code c :: .inLoop c :: k)) cs w) b k cs e a' w':=by
  intro j
  induction j using Nat.strongRecOn with
  |_ j ih=>
   intro a w hI;obtain ⟨e,a₁,w₁,hq,tQ⟩:=round j a w hI b (.inLoop c :: k) cs ba hb hr;cases e with
   |normal=>
    obtain ⟨m',bW,hI₁⟩:=hq;obtain ⟨e₂,a₂,w₂,hq₂,YI⟩:=ih m' bW a₁ w₁ hI₁;exact ⟨e₂,a₂,w₂,hq₂,.of_steps (StepsIn.trans tQ (.one (fenced_calm hb hr rfl) stepR_inLoop)) YI⟩
   |exit id=>exact ⟨_,a₁,w₁,hq,.pass (x:=.inLoop c) rfl (fun _ _=>.inl (by simp)) tQ⟩
   |goto l=>exact ⟨_,a₁,w₁,hq,.pass (x:=.inLoop c) rfl (fun _ _=>.inl (by simp)) tQ⟩
   |ret=>exact ⟨_,a₁,w₁,hq,.pass (x:=.inLoop c) rfl (fun _ _=>.inl (by simp)) tQ⟩
   |panic ch=>exact ⟨_,a₁,w₁,hq,.pass (x:=.inLoop c) rfl (fun _ _=>.inl (by simp)) tQ⟩
   |outgrown=>exact ⟨_,a₁,w₁,hq,.pass (x:=.inLoop c) rfl (fun _ _=>.inl (by simp)) tQ⟩
 obtain ⟨e,a',w',hq,tQ⟩:=key _ a w h₀;exact ⟨e,a',w',hq,.of_steps (.one (fenced_calm hb hr rfl) stepR_loop) tQ⟩
theorem gl.loop {c:Code} (I:Nat→St→Prop) (round:∀ m s,I m s→gl E c (xC (fun s'=>∃ m',m' < m∧I m' s') Q) s) {m:Nat} (h:I m s):gl E (.loop c) Q s:=fun R w β a F hr hf=>by
 refine kF (fun m a' w'=>∃ s' R' β',I m s'∧aY E R' w' β' s' a'∧Step R w β s.boxes R' w' β' s'.boxes∧s'.ro=s.ro) ?_ ⟨s,R,β,h,hr,Step.refl _ _ _ _,rfl⟩;rintro m a' w' ⟨s',R',β',hI,ky,iP,ba⟩;refine wpIn_mono (round m s' hI R' w' β' a' F ky (by rw [ba]; exact hf.mono iP.ext)) ?_;rintro e a'' Pq ⟨DF,Mf,SI,hq,Aa,s6,xD⟩;cases e with
 |normal=>
  obtain ⟨m',bW,hI'⟩:=hq;exact ⟨m',bW,DF,Mf,SI,hI',Aa,iP.trans s6,xD.trans ba⟩
 |_=>exact ⟨DF,Mf,SI,hq,Aa,iP.trans s6,xD.trans ba⟩
end rules
def noGoto (Q:Exit→Act→World→Prop):Exit→Act→World→Prop
 |.goto _,_,_=>False
 |e,a,w=>Q e a w
section scopes
variable {P:Program} {b:Frame} {a:Act} {k:List Item} {cs:List Frame} {w:World} {Q:Exit→Act→World→Prop} {F:Fence} {n:Nat}
theorem jy {c:Code}:step P (lone (b.atR a (.code (.scope c) :: k)) cs w)=.next (lone (b.atR a (.code c :: .inScope c :: k)) cs w):=
 step_lone_go (by simp [stepG,stepG.exec,Frame.atR])
theorem BU {c:Code}:step P (lone (b.atR a (.inScope c :: k)) cs w)=.next (lone (b.atR a k) cs w):=
 step_lone_go (by simp [stepG,stepG.exec,Frame.atR])
theorem HG {c:Code} (h:c.wpIn F n P (noGoto Q) a w):(Code.scope c).wpIn F n P Q a w:=by
 intro b k cs ba hb hr;have h0:(lone (b.atR a (.code (.scope c) :: k)) cs w).fenced P F:=fenced_calm hb hr rfl;obtain ⟨e,a₁,w₁,hq,tQ⟩:=h b (.inScope c :: k) cs ba hb hr;cases e with
 |normal=>exact ⟨.normal,a₁,w₁,hq,.head h0 jy (StepsIn.trans tQ (.one (fenced_calm hb hr rfl) BU))⟩
 |exit id=>
  have hx:exitTo id (.inScope c :: k)=exitTo id k:=by simp [exitTo]
  exact ⟨.exit id,a₁,w₁,hq,fun k' hk=>.head h0 jy (tQ.1 k' (by rw [hx]; exact hk)),
    fun ky hk=>let ⟨k₁,h1,h2⟩:=tQ.2 ky (by rw [hx]; exact hk); ⟨k₁,h1,.head h0 jy h2⟩⟩
 |goto l=>exact hq.elim
 |ret=>exact ⟨_,a₁,w₁,hq,.of_steps (.one h0 jy) tQ⟩
 |panic ch=>exact ⟨_,a₁,w₁,hq,.of_steps (.one h0 jy) tQ⟩
 |outgrown=>exact ⟨_,a₁,w₁,hq,.of_steps (.one h0 jy) tQ⟩
end scopes
def UA (Q:Exit→St→Prop):Exit→St→Prop
 |.goto _,_=>False
 |e,s=>Q e s
theorem gl.scope {E:Env} {c:Code} {Q:Exit→St→Prop} {s:St} (h:gl E c (UA Q) s):gl E (.scope c) Q s:=fun R w β a F hr hf=>by
 refine HG (wpIn_mono (h R w β a F hr hf) ?_);rintro e a' w' ⟨s',R',β',hq,rest⟩;cases e with
 |goto l=>exact hq.elim
 |_=>exact ⟨s',R',β',hq,rest⟩
def gW:cX:=[]
def CE (E:Env) (R:ai) (w:World) (Q:AV→List GO→Prop):Ending→World→Prop
 |.returned c,w'=>∃ r G' R',Q r G'∧Rel R' w' r c∧eY E R' w' G'∧Step R w (fun _=>0) gW R' w' (fun _=>0) gW
 |_,_=>False
def DN (E:Env) (R:ai) (w:World) (Q:Bool→List GO→Prop):Ending→World→Prop
 |.returned c,w'=>∃ r G' R',Q r G'∧c=.bool r∧eY E R' w' G'∧Step R w (fun _=>0) gW R' w' (fun _=>0) gW
 |_,_=>False
def mR (E:Env) (id:Nat) (args:List AV) (G:List GO) (Q:Bool→List GO→Prop):Prop:=
 ∀ (R:ai) (w:World) (cs:List Value) (b:Nat),eY E R w G→aL R w args cs→nth R.obj id=some (.bE b) →
  ∃ r:Loop,w.heap[b]?=some (.loop r)∧cs.length=r.params.size ∧
   RoundIn aap 0 E.P b r.fn ((r.params.zip ⟨cs⟩).foldl (fun tmps (t,a)=>tmps.setIfInBounds t a) r.tmps) r.assign r.body w (DN E R w Q)
theorem mR.mono {E:Env} {id:Nat} {args:List AV} {G:List GO} {Q Q':Bool→List GO→Prop} (h:mR E id args G Q) (hq:∀ r G',Q r G'→Q' r G'):mR E id args G Q':=
 fun R w cs b hg hl hb=>by
  obtain ⟨r,h1,h2,h3⟩:=h R w cs b hg hl hb;refine ⟨r,h1,h2,h3.mono fun e w' he=>?_⟩;cases e with
  |returned c=>obtain ⟨r,G',R',k1,k2⟩:=he; exact ⟨r,G',R',hq _ _ k1,k2⟩
  |_=>exact he
def Plain (P : Program) (g : FuncId) : Prop := ∃ fn, P.funcs[g]? = some fn ∧ fn.body.isNone = false ∧ (fn.name == "runtime.NumGoroutine") = false
def cZ (E:Env) (g:FuncId) (args:List AV) (G:List GO) (Q:AV→List GO→Prop):Prop:=
 Plain E.P g∧∀ (R:ai) (w:World) (cs:List Value),eY E R w G→aL R w args cs→CallsIn aap 0 E.P g ⟨cs⟩ w (CE E R w Q)
theorem cZ.mono {E:Env} {g:FuncId} {args:List AV} {G:List GO} {Q Q':AV→List GO→Prop} (h:cZ E g args G Q) (hq:∀ r G',Q r G'→Q' r G'):cZ E g args G Q':=
 ⟨h.1,fun R w cs hg hl=>(h.2 R w cs hg hl).mono fun e _ he=>by
  cases e with
  |returned c=>obtain ⟨r,G',R',h1,h2⟩:=he; exact ⟨r,G',R',hq _ _ h1,h2⟩
  |_=>exact he⟩
theorem gL {R:ai} {β:Nat→Nat} {b:Nat} (h:Own R β gW b):Live R b:=by
 rcases h with h|⟨k,cs,hk,_⟩
 ·exact h
 ·simp [gW,dR] at hk
section calls
variable {E:Env} {R R':ai} {w w':World} {β:Nat→Nat} {s:St} {a:Act} {o:Oper}
theorem aY.sq (h:aY E R w β s a) {G':List GO} (hg:eY E R' w' G') (st:Step R w (fun _=>0) gW R' w' (fun _=>0) gW) :
  aY E R' w' β (s.bq G') a∧Step R w β s.boxes R' w' β s.boxes:=by
 have zD:∀ k cs,dR s.boxes k=some cs→β k < w.heap.size∧¬ Live R (β k):=fun k cs hk=>⟨h.ea (.inr ⟨k,cs,hk,rfl⟩),(h.b.box k cs hk).2.2⟩
 have live:∀ b,b < w.heap.size→Live R' b→Live R b:=fun b hb hl=>gL (st.own b hb (.inl hl))
 refine ⟨⟨hg,h.b.keep st.ext (fun k cs hk=>?_) (fun k cs o hk hi=>?_) (fun k cs hk hl=>live _ (zD k cs hk).1 hl),h.t.mono st.ext,h.n,h.d.mono st.ext⟩,?_⟩
 ·obtain ⟨h1,h2⟩:=zD k cs hk;exact st.keep _ h1 (fun ho=>h2 (gL ho))
 ·obtain ⟨h1,h2⟩:=zD k cs hk;exact st.im _ o hi h1 (fun ho=>h2 (gL ho))
 ·refine ⟨st.ext,st.os,st.tape,st.output,st.size,fun b hb hn=>st.keep b hb (fun ho=>hn (.inl (gL ho))),fun b hb ho=>?_,fun b o hi hb hn=>st.im b o hi hb (fun ho=>hn (.inl (gL ho)))⟩;rcases ho with ho|ho
  ·exact .inl (live b hb ho)
  ·exact .inr ho
theorem qb {P:Program} {g:FuncId} (h:Plain P g) (args:Array Value) (w:World):(callFunc g args).run P w=.ok (.enter g args) w:=by
 obtain ⟨fn,h1,h2,h3⟩:=h;unfold callFunc;simp only [aas,run_program,aaq,h1,h2,h3,Bool.false_eq_true,if_false,aaK]
def rD (E:Env) (R:ai) (w:World) (β:Nat→Nat) (s:St) (K:St→Prop) (a':Act) (w':World):Prop:=
 ∃ s' R' β',K s'∧aY E R' w' β' s' a'∧Step R w β s.boxes R' w' β' s'.boxes∧s'.ro=s.ro
@[simp] theorem ka (s:St) (d:Option Tmp) (x:SV):(s.put d x).ro=s.ro:=by
 cases d with
 |none=>rfl
 |some d=>
  simp only [St.put];split <;> rfl
theorem MU {f:FuncId} {c:Bool} {s':St} (h:iV E f s o=some (c,s')):s'.ro=s.ro:=by
 unfold iV at h
 repeat' (split at h)
 all_goals (first|(cases h; done) | skip)
 all_goals (injection h with h; injection h with _ h; subst h; simp [St.bq])
theorem KM {t:TypeId} {p x:SV} {c:Bool} {s':St} (h:fQ E s t p x=some (c,s')):s'.ro=s.ro:=by
 have store:∀ {t:TypeId} {p x:SV} {s':St},iQ E s t p x=some s'→s'.ro=s.ro:=by
  intro t p x s' h;unfold iQ at h
  repeat' (split at h)
  all_goals (first|(cases h; done) | skip)
  all_goals (injection h with h; subst h; rfl)
 unfold fQ at h
 repeat' (split at h)
 all_goals (first|(cases h; done) | skip)
 all_goals (injection h with h; injection h with _ h; subst h)
 all_goals (first|rfl | exact store (by assumption))
theorem KN {f:FuncId} {c:Bool} {s':St} (h:ao E f s o=some (c,s')):s'.ro=s.ro:=by
 have alloc:∀ {el:TypeId} {cs:List AV} {c:Bool} {s':St},gv E f s o.dst el cs=some (c,s')→s'.ro=s.ro:=by
  intro el cs c s' h;unfold gv at h
  repeat' (split at h)
  all_goals (first|(cases h; done) | skip)
  all_goals (injection h with h; injection h with _ h; subst h; simp [St.eF,St.xi,St.kill])
 have store:∀ {t:TypeId} {p x:SV} {s':St},iQ E s t p x=some s'→s'.ro=s.ro:=by
  intro t p x s' h;unfold iQ at h
  repeat' (split at h)
  all_goals (first|(cases h; done) | skip)
  all_goals (injection h with h; subst h; rfl)
 have UB:∀ {t:TypeId} {p x:SV} {c:Bool} {s':St},fQ E s t p x=some (c,s')→s'.ro=s.ro:=by
  intro t p x c s' h;unfold fQ at h
  repeat' (split at h)
  all_goals (first|(cases h; done) | skip)
  all_goals (injection h with h; injection h with _ h; subst h)
  all_goals (first|rfl | exact store (by assumption))
 have UC:∀ {t:TypeId} {p x:SV} {c:Bool} {s':St},lD E s t p x=some (c,s')→s'.ro=s.ro:=by
  intro t p x c s' h;unfold lD at h;split at h
  ·rename_i hs;injection h with h; injection h with _ h;subst h;exact KM (s:=s.bq (tA s p x).2.2) hs
  ·cases h
 have blt:∀ {b:Builtin} {l:List AV} {tys:List TypeId} {c:Bool} {s':St},cu E s o.dst b l tys=some (c,s')→s'.ro=s.ro:=by
  intro b l tys c s' h;unfold cu at h
  repeat' (split at h)
  all_goals (first|(cases h; done) | skip)
  all_goals (injection h with h; injection h with _ h; subst h; simp [St.bq])
 have update:∀ {t:TypeId} {m k x:SV} {s':St},gw E s t m k x=some s'→s'.ro=s.ro:=by
  intro t m k x s' h;unfold gw at h
  repeat' (split at h)
  all_goals (first|(cases h; done) | skip)
  all_goals (injection h with h; subst h; rfl)
 have next:∀ {x:SV} {s':St},nY s o.dst x=some s'→s'.ro=s.ro:=by
  intro x s' h;unfold nY at h;split at h
  ·split at h
   ·rename_i l pos hg;cases hb:aaI pos l.length <;> rw [hb] at h <;> simp only [cond_true,cond_false] at h <;> cases h <;> simp [St.bq]
   ·cases h
  ·cases h
 have HH:∀ {t:TypeId} {m k:SV} {c:Bool} {v:AV} {s':St},iC E s t m k=some (c,v,s')→s'.ro=s.ro:=by
  intro t m k c v s' h;unfold iC at h
  repeat' (split at h)
  all_goals (first|(cases h; done) | skip)
  all_goals (injection h with h; injection h with _ h; injection h with _ h; subst h; rfl)
 have HI:∀ {m st x:SV} {c:Bool} {s':St},fy s m st x=some (c,s')→s'.ro=s.ro:=by
  intro m st x c s' h;unfold fy at h
  repeat' (split at h)
  all_goals (first|(cases h; done) | skip)
  all_goals (injection h with h; injection h with _ h; subst h; rfl)
 unfold ao pR at h
 repeat' (split at h)
 all_goals (first|(cases h; done) | exact alloc h | exact blt h | (rename_i hf; cases h; exact MU hf) | skip)
 all_goals (injection h with h; injection h with _ h; subst h)
 all_goals (first|(simp; done) | (simp [St.eF]; done) | (simp [St.bq]; done) | skip)
 all_goals (first|exact UC (by assumption) | exact update (by assumption) | exact (ka _ _ _).trans (HH (by assumption)) | exact HI (by assumption) | exact next (by assumption))
theorem Fk {f:FuncId} {F:Fence} {s':St} {K:St→Prop} {Qc:Exit→Act→World→Prop} (h:aY E R w β s a) (hf:cm R s.ro F) (hs:ao E f s o=some (true,s')) (hK:K s')
  (nd:∀ c,o.op≠.defer c) (N:Act→World→Prop) (hN:∀ a' w',rD E R w β s K a' w'→N a' w'):o.wpIn F 0 E.P a w N Qc:=by
 obtain ⟨nx,x,w',R',β',h1,h2,h3,h4⟩:=Fg h hs;refine ⟨fun f _=>hf.fn f,?_⟩;rw [aav _ _ _ nd,h1];have:N (a.put o.dst x) w':=hN _ _ ⟨s',R',β',hK,h3,h4,KN hs⟩;rcases h2 with rfl|⟨rfl,rfl⟩
 ·exact this
 ·exact this
theorem KO {F:Fence} {K:St→Prop} {Qc:Exit→Act→World→Prop} (h:aY E R w β s a) (hf:cm R s.ro F) {fo:Operand} {args:Array Operand} {tys:Array TypeId} (ho:o.op=.call { callee:=.value fo,args:=args,argTypes:=tys })
  {g:FuncId} {first cap l:List AV} (hfo:bG E s.ab fo=.v (.fn g first cap)) (hl:nL E s.ab args.toList=some l)
  (hc:cZ E g (first++l++cap) s.G (fun r G'=>K ((s.bq G').put o.dst (.v r)))) (N:Act→World→Prop) (hN:∀ a' w',rD E R w β s K a' w'→N a' w'):o.wpIn F 0 E.P a w N Qc:=by
 refine ⟨fun f _=>hf.fn f,?_⟩;have rf:=aV h fo;rw [hfo] at rf;have YJ:Rel R w (.fn g first cap) (a.eval fo):=rf;have rl:=fP h hl;generalize UD:a.eval fo=fv at YJ;cases YJ with
 | @fn _ _ _ vs us h1 h2=>
 have bp:(o.semAt F.round a.eval).run E.P w=.ok (.enter g ⟨vs++args.toList.map a.eval++us⟩) w:=by
  rw [aav _ _ _ (fun c e=>by rw [ho] at e; cases e)];simp only [execOp,ho,resolve,UD,aaV,aas,aaK,aaq,invoke,mM];have:=qb hc.1 (⟨vs⟩++⟨args.toList.map a.eval⟩++⟨us⟩) w;simpa using this
 rw [bp];refine ⟨fun e=>by rw [hf.depth] at e; simp at e,hf.calls ?_⟩;refine (hc.2 R w (vs++args.toList.map a.eval++us) h.g ((h1.append rl).append h2)).mono ?_;intro e Pq he;cases e with
 |returned c=>
  obtain ⟨r,G',R',hK,hr,hg,st⟩:=he;obtain ⟨q1,q2⟩:=h.sq hg st;exact hN _ _ ⟨_,R',β,hK,q1.put o.dst (x:=.v r) hr,by rw [bf]; exact q2,by rw [ka]; rfl⟩
 |panicked c=>exact he.elim
 |outgrown=>exact he.elim
theorem cm.rounds {R:ai} {ro:Option Nat} {F:Fence} (h:cm R ro F) {n:Nat} {P:Program} {l:Nat} {f:FuncId} {tmps:Array Value} {tR bd:Code} {w:World} {Q:Ending→World→Prop}
  (hc:RoundIn aap n P l f tmps tR bd w Q):RoundIn F n P l f tmps tR bd w Q:=by
 cases ro with
 |none=>rw [show F=aap from h]; exact hc
 |some id=>obtain ⟨b,_,h2⟩:=h; rw [h2]; exact hc
theorem HJ {F:Fence} {K:St→Prop} {Qc:Exit→Act→World→Prop} (h:aY E R w β s a) (hf:cm R s.ro F) {fo:Operand} {args:Array Operand} {tys:Array TypeId} (ho:o.op=.call { callee:=.value fo,args:=args,argTypes:=tys })
  {id:Nat} {l:List AV} (hfo:bG E s.ab fo=.v (.yield id)) (hl:nL E s.ab args.toList=some l)
  (hc:mR E id l s.G (fun b G'=>K ((s.bq G').put o.dst (.v (.bool b))))) (N:Act→World→Prop) (hN:∀ a' w',rD E R w β s K a' w'→N a' w'):o.wpIn F 0 E.P a w N Qc:=by
 refine ⟨fun f _=>hf.fn f,?_⟩;have rf:=aV h fo;rw [hfo] at rf;have YJ:Rel R w (.yield id) (a.eval fo):=rf;have rl:=fP h hl;generalize UD:a.eval fo=fv at YJ;cases YJ with
 | @yield _ b hb=>
 obtain ⟨r,GH,zQ,YK⟩:=hc R w (args.toList.map a.eval) b h.g rl hb;have bp:(o.semAt F.round a.eval).run E.P w=.ok (.round b r.fn ((r.params.zip ⟨args.toList.map a.eval⟩).foldl (fun tmps (t,a)=>tmps.setIfInBounds t a) r.tmps) r.assign r.body) w:=by
  rw [aav _ _ _ (fun c e=>by rw [ho] at e; cases e)];simp only [execOp,ho,resolve,UD,aaV,aas,aaK,aaq,invoke,mM];have:=run_yield (P:=E.P) GH (args:=⟨args.toList.map a.eval⟩) zQ;simpa using this
 rw [bp];refine ⟨fun e=>by rw [hf.depth] at e; simp at e,hf.rounds (YK.mono ?_)⟩;intro e Pq he;cases e with
 |returned c=>
  obtain ⟨r,G',R',hK,rfl,hg,st⟩:=he;obtain ⟨q1,q2⟩:=h.sq hg st;exact hN _ _ ⟨_,R',β,hK,q1.put o.dst (x:=.v (.bool r)) (Rel.bool r),by rw [bf]; exact q2,by rw [ka]; rfl⟩
 |panicked c=>exact he.elim
 |outgrown=>exact he.elim
end calls
def rE (ops:List Oper) (j:Nat):Option Tmp:=match nth ops j with
 |some o=>o.dst
 |none=>none
def eO:Bool→Prop→Prop
 |true,p=>p
 |false,_=>False
theorem eO.mk {c:Bool} {p:Prop} (h:c=true) (hp:p):eO c p:=by subst h; exact hp
theorem eO.out {c:Bool} {p:Prop} (h:eO c p):c=true∧p:=by
 cases c
 ·exact h.elim
 ·exact ⟨rfl,h⟩
def ml (E:Env) (f:FuncId) (o:Oper) (K:St→Prop) (s:St):Prop:=
 match o.op with
 |.call { callee:=.value x,args,.. }=>match bG E s.ab x,nL E s.ab args.toList with
  |.v (.fn g first cap),some l=>cZ E g (first++l++cap) s.G (fun r G'=>K ((s.bq G').put o.dst (.v r)))
  |.v (.yield id),some l=>mR E id l s.G (fun b G'=>K ((s.bq G').put o.dst (.v (.bool b))))
  |_,_=>False
 |.defer _=>False
 |_=>match ao E f s o with
  |some (c,s')=>eO c (K s')
  |none=>False
def cK (E:Env) (f:FuncId) (ops:List Oper) (o:Oper) (K:St→Prop) (s:St):Prop:=
 match o.guard with
 |none=>ml E f o K s
 |some (j,want)=>match rE ops j with
  |none=>False
  |some d=>match lk s.ab d with
   |.v (.bool b)=>(b=want→ml E f o K (s.put (some d) (.v (.bool want))))∧(b=!want→K ((s.put (some d) (.v (.bool (!want)))).put o.dst (.v hZ)))
   |.v (.bP [])=>K (s.put o.dst (.v hZ))
   |_=>False
def ik (E:Env) (f:FuncId) (ops:List Oper) (o:Oper) (K:St→Prop) (s:St):Prop:=
 match o.guard,kW E f s o with
 |none,some s'=>K s'
 |_,_=>cK E f ops o K s
def gE (E:Env) (f:FuncId) (ops:List Oper) (o:Oper) (K:St→Prop) (s:St):Prop:=
 match o.guard,xm E f s o,vY E s o with
 |none,some (c,s'),_=>eO c (K s')
 |none,none,some (c,s0,left,g)=>eO c ((left=[]→K s0)∧∀ i∈left,eO (g i).1 (K (g i).2))
 |_,_,_=>ik E f ops o K s
def gF (E:Env) (f:FuncId) (ops:List Oper) (o:Oper) (K:St→Prop) (s:St):Prop:=
 match Kj E f s o with
 |some (c,s')=>c=true∧gE E f ops o K s'
 |none=>gE E f ops o K s
def CF (E:Env) (f:FuncId) (o:Oper) (K:St→Prop) (s:St):Prop:=match CD E f o s with
 |some (c,s')=>c=true∧K s'
 |none=>False
def rF (E:Env) (f:FuncId) (ops:List Oper):List Oper→(St→Prop)→St→Prop
 |[],K,s=>K s
 |o :: rest,K,s=>gF E f ops o (CF E f o (rF E f ops rest K)) s
section regions
variable {E:Env} {R:ai} {w:World} {β:Nat→Nat} {s:St} {a:Act}
theorem CG {f:FuncId} {o:Oper} {F:Fence} {K:St→Prop} {Qc:Exit→Act→World→Prop} (h:aY E R w β s a) (hf:cm R s.ro F) (ha:ml E f o K s) (N:Act→World→Prop) (hN:∀ a' w',rD E R w β s K a' w'→N a' w') :
  o.wpIn F 0 E.P a w N Qc:=by
 unfold ml at ha;split at ha
 ·rename_i x args tys ho;split at ha
  ·rename_i g first cap l h1 h2
   exact KO h hf ho h1 h2 ha N hN
  ·rename_i id l h1 h2;exact HJ h hf ho h1 h2 ha N hN
  ·exact ha.elim
 ·exact ha.elim
 ·rename_i nc nd;split at ha
  ·rename_i c s' hs;obtain ⟨rfl,hK⟩:=ha.out;exact Fk h hf hs hK (fun c e=>nd c e) N hN
  ·exact ha.elim
theorem aY.Fl (h:aY E R w β s a) {d:Tmp} {b t:Bool} (hd:lk s.ab d=.v (.bool b)) (e:b=t):aY E R w β (s.put (some d) (.v (.bool t))) a:=by
 subst e;simp only [St.put];split
 ·refine ⟨h.g,h.b,fun i hi=>?_,h.n,h.d⟩;by_cases e:d=i
  ·subst e;rw [aD];have:=h.t d (by rw [hd]; simp);rw [hd] at this;exact this
  ·rw [aT e] at hi ⊢;exact h.t i hi
 ·exact h
theorem HK (h:aY E R w β s a) {ops:Array Oper} {j:Nat} {d:Tmp} {b:Bool} (hj:rE ops.toList j=some d) (hd:lk s.ab d=.v (.bool b)):yielded ops a.tmps j=some b:=by
 unfold rE at hj;split at hj
 ·rename_i o ho;rw [aN] at ho;have rn:ops[j]?=some o:=by simpa using ho
  obtain ⟨c,h1,h2⟩:=h.t d (by rw [hd]; simp);rw [hd] at h2;have YL:Rel R w (.bool b) c:=h2;cases YL;simp [yielded,rn,hj,h1]
 ·cases hj
theorem BV (h:aY E R w β s a) {ops:Array Oper} {j:Nat} {d:Tmp} (hj:rE ops.toList j=some d) (hd:lk s.ab d=.v (.bP [])):yielded ops a.tmps j=none:=by
 unfold rE at hj;split at hj
 ·rename_i o ho;rw [aN] at ho;have rn:ops[j]?=some o:=by simpa using ho
  obtain ⟨c,h1,h2⟩:=h.t d (by rw [hd]; simp);rw [hd] at h2;have YL:Rel R w (.bP []) c:=h2;cases YL;simp [yielded,rn,hj,h1]
 ·cases hj
theorem uU {f:FuncId} {o:Oper} {F:Fence} {ops:Array Oper} {K:St→Prop} {Qc:Exit→Act→World→Prop} (h:aY E R w β s a) (hf:cm R s.ro F) (ha:cK E f ops.toList o K s) (N:Act→World→Prop) (hN:∀ a' w',rD E R w β s K a' w'→N a' w') :
  (if aao o (yielded ops a.tmps) then o.wpIn F 0 E.P a w N Qc else (∀ f,o.about E.P w a.eval=some f→F.fn f)∧N (a.put o.dst undef) w):=by
 unfold cK at ha;split at ha
 ·rename_i hg;have:aao o (yielded ops a.tmps)=true:=by simp [aao,hg]
  rw [if_pos this];exact CG h hf ha N hN
 ·rename_i j want hg;split at ha
  ·exact ha.elim
  ·rename_i d hd;split at ha
   ·rename_i b hb;have hy:=HK h hd hb;by_cases hw:b=want
    ·have:aao o (yielded ops a.tmps)=true:=by simp [aao,hg,hy,hw]
     rw [if_pos this];exact CG (h.Fl hb hw) (by rw [ka]; exact hf) (ha.1 hw) N (fun a' w' hh=>hN a' w' (by
      obtain ⟨s',R',β',q1,q2,q3,q4⟩:=hh;exact ⟨s',R',β',q1,q2,by rw [bf] at q3; exact q3,by rw [ka] at q4; exact q4⟩))
    ·have hbw:b=!want:=by cases b <;> cases want <;> simp_all
     have:¬ aao o (yielded ops a.tmps)=true:=by simp [aao,hg,hy,hw]
     rw [if_neg this];refine ⟨fun f _=>hf.fn f,hN _ _ ⟨_,R,β,ha.2 hbw,(h.Fl hb hbw).put o.dst (x:=.v hZ) (Rel.bP .nil),by rw [bf,bf]; exact Step.refl _ _ _ _,by rw [ka,ka]⟩⟩
   ·rename_i hb;have hy:=BV h hd hb;have:¬ aao o (yielded ops a.tmps)=true:=by simp [aao,hg,hy]
    rw [if_neg this];exact ⟨fun f _=>hf.fn f,hN _ _ ⟨_,R,β,ha,h.put o.dst (x:=.v hZ) (Rel.bP .nil),by rw [bf]; exact Step.refl _ _ _ _,by rw [ka]⟩⟩
   ·exact ha.elim
theorem BW {f:FuncId} {o:Oper} {F:Fence} {ops:Array Oper} {K:St→Prop} {Qc:Exit→Act→World→Prop} (h:aY E R w β s a) (hf:cm R s.ro F) (ha:ik E f ops.toList o K s) (N:Act→World→Prop) (hN:∀ a' w',rD E R w β s K a' w'→N a' w') :
  (if aao o (yielded ops a.tmps) then o.wpIn F 0 E.P a w N Qc else (∀ f,o.about E.P w a.eval=some f→F.fn f)∧N (a.put o.dst undef) w):=by
 unfold ik at ha;split at ha
 ·rename_i s' hg hb;have:aao o (yielded ops a.tmps)=true:=by simp [aao,hg]
  rw [if_pos this];unfold kW at hb;split at hb
  ·rename_i t len parts ho;split at hb
   ·rename_i d hd;split at hb
    ·split at hb
     ·rename_i i hi;split at hb
      ·rename_i elem bh ag pK z esz es hk hv;cases hb;obtain ⟨nx,x,w',R',β',h1,h2,h3,h4⟩:=wq h t len parts ho hv hi hk;refine ⟨fun f _=>hf.fn f,?_⟩;rw [aav _ _ _ (fun c e=>by rw [ho] at e; cases e),h1];rw [hd] at h3 h4;have fT:N (a.put o.dst x) w':=hN _ _ ⟨_,R',β',ha,by rw [hd]; exact h3,h4,by rw [ka]; rfl⟩;rcases h2 with rfl|⟨rfl,rfl⟩
       ·exact fT
       ·exact fT
      ·rename_i elem esz ag pK z hk _;split at hb;rotate_left
       ·cases hb
       rename_i cs hv;cases hb;obtain ⟨nx,x,w',R',β',h1,h2,h3,h4⟩:=wo h t len parts ho hv hi hk;refine ⟨fun f _=>hf.fn f,?_⟩;rw [aav _ _ _ (fun c e=>by rw [ho] at e; cases e),h1];rw [hd] at h3 h4;have fT:N (a.put o.dst x) w':=hN _ _ ⟨_,R',β',ha,by rw [hd]; exact h3,h4,by rw [ka]; rfl⟩;rcases h2 with rfl|⟨rfl,rfl⟩
       ·exact fT
       ·exact fT
      ·cases hb
     ·cases hb
    ·split at hb
     ·split at hb
      ·rename_i i hi;split at hb
       ·rename_i elem bh ag pK z esz es hk hv;split at hb
        ·rename_i hle;cases hb;obtain ⟨nx,x,w',R',β',h1,h2,h3,h4⟩:=wz h t len parts ho hv hi hk (aaS hle);refine ⟨fun f _=>hf.fn f,?_⟩;rw [aav _ _ _ (fun c e=>by rw [ho] at e; cases e),h1];rw [hd] at h3 h4;have fT:N (a.put o.dst x) w':=hN _ _ ⟨_,R',β',ha,by rw [hd]; exact h3,h4,by rw [ka]; rfl⟩;rcases h2 with rfl|⟨rfl,rfl⟩
         ·exact fT
         ·exact fT
        ·cases hb
       ·cases hb
      ·cases hb
     ·split at hb
      ·split at hb
       ·rename_i i hi;split at hb
        ·rename_i elem bh ag pK z esz es hk hv;split at hb
         ·rename_i hle;cases hb;obtain ⟨nx,x,w',R',β',h1,h2,h3,h4⟩:=wu h t len parts ho hv hi hk (aaS hle);refine ⟨fun f _=>hf.fn f,?_⟩;rw [aav _ _ _ (fun c e=>by rw [ho] at e; cases e),h1];rw [hd] at h3 h4;have fT:N (a.put o.dst x) w':=hN _ _ ⟨_,R',β',ha,by rw [hd]; exact h3,h4,by rw [ka]; rfl⟩;rcases h2 with rfl|⟨rfl,rfl⟩
          ·exact fT
          ·exact fT
         ·cases hb
        ·cases hb
       ·cases hb
      ·cases hb
   ·cases hb
  ·cases hb
 ·exact uU h hf ha N hN
theorem KP {f:FuncId} {o:Oper} {c:Bool} {s':St} (h:tD E f s o=some (c,s')):s'.ro=s.ro∧∀ d,o.op≠.defer d:=by
 unfold tD at h;split at h
 ·split at h
  ·split at h
   ·rename_i t m k ok ho;refine ⟨?_,fun d e=>by rw [ho] at e; cases e⟩
    repeat' (split at h)
    all_goals (first|(cases h; done) | skip)
    all_goals (injection h with h; injection h with _ h; subst h; simp [St.bq])
   ·cases h
  ·cases h
 ·cases h
theorem PQ {f:FuncId} {o:Oper} {c:Bool} {s':St} (h:GY E f s o=some (c,s')):s'.ro=s.ro∧∀ d,o.op≠.defer d:=by
 unfold GY at h;split at h
 ·rename_i t x lo d ho hd;refine ⟨?_,fun d e=>by rw [ho] at e; cases e⟩
  repeat' (split at h)
  all_goals (first|(cases h; done) | skip)
  all_goals (injection h with h; injection h with _ h; subst h; simp [St.bq])
 ·cases h
theorem MV {f:FuncId} {o:Oper} {c:Bool} {s':St} (h:xm E f s o=some (c,s')):s'.ro=s.ro∧∀ d,o.op≠.defer d:=by
 unfold xm at h;split at h
 ·rename_i r hr;cases h;exact PQ hr
 ·exact KP h
theorem KQ {o:Oper} {c:Bool} {s0:St} {left:List Nat} {g:Nat→Bool × St} (h:vY E s o=some (c,s0,left,g)):(∃ x,o.op=.next x false∧Cf E s o.dst (bG E s.ab x)=some (c,s0,left,g))∧s0.ro=s.ro∧∀ i,(g i).2.ro=s.ro:=by
 unfold vY at h;split at h
 ·rename_i x ho;refine ⟨⟨x,ho,h⟩,?_⟩;unfold Cf at h;split at h
  ·split at h
   ·split at h
    ·cases h;exact ⟨ka _ _ _,fun i=>ka _ _ _⟩
    ·cases h
   ·cases h
  ·cases h
 ·cases h
theorem wI {f:FuncId} {F:Fence} {o:Oper} {s':St} {K:St→Prop} {Qc:Exit→Act→World→Prop} (hf:cm R s.ro F) (hd:bQ E R w β s a o s') (hK:K s') (ba:s'.ro=s.ro)
  (nd:∀ c,o.op≠.defer c) (N:Act→World→Prop) (hN:∀ a' w',rD E R w β s K a' w'→N a' w'):o.wpIn F 0 E.P a w N Qc:=by
 obtain ⟨nx,x,w',R',β',h1,h2,h3,h4⟩:=hd;refine ⟨fun f _=>hf.fn f,?_⟩;rw [aav _ _ _ nd,h1];have:N (a.put o.dst x) w':=hN _ _ ⟨s',R',β',hK,h3,h4,ba⟩;rcases h2 with rfl|⟨rfl,rfl⟩
 ·exact this
 ·exact this
theorem s7 {f:FuncId} {o:Oper} {F:Fence} {ops:Array Oper} {K:St→Prop} {Qc:Exit→Act→World→Prop} (h:aY E R w β s a) (hf:cm R s.ro F) (ha:gE E f ops.toList o K s) (N:Act→World→Prop) (hN:∀ a' w',rD E R w β s K a' w'→N a' w') :
  (if aao o (yielded ops a.tmps) then o.wpIn F 0 E.P a w N Qc else (∀ f,o.about E.P w a.eval=some f→F.fn f)∧N (a.put o.dst undef) w):=by
 unfold gE at ha;split at ha
 ·rename_i c s' hg hb;have:aao o (yielded ops a.tmps)=true:=by simp [aao,hg]
  rw [if_pos this];obtain ⟨rfl,hK⟩:=ha.out;obtain ⟨k1,k2⟩:=MV hb;exact wI (f:=f) hf (Hw h hb) hK k1 k2 N hN
 ·rename_i c s0 left g hg _ hb;have:aao o (yielded ops a.tmps)=true:=by simp [aao,hg]
  rw [if_pos this];obtain ⟨rfl,hK1,hK2⟩:=ha.out;obtain ⟨⟨x,ho,hm⟩,k1,k2⟩:=KQ hb;have nd:∀ c,o.op≠.defer c:=fun c e=>by rw [ho] at e; cases e
  rcases Hs h x ho hm with ⟨hl,hd⟩|⟨i,hi,hd⟩
  ·exact wI (f:=f) hf hd (hK1 hl) k1 nd N hN
  ·obtain ⟨q1,q2⟩:=(hK2 i hi).out;exact wI (f:=f) hf (hd q1) q2 (k2 i) nd N hN
 ·exact BW h hf ha N hN
theorem BX {f:FuncId} {o:Oper} {F:Fence} {ops:Array Oper} {K:St→Prop} {Qc:Exit→Act→World→Prop} (h:aY E R w β s a) (hf:cm R s.ro F) (ha:gF E f ops.toList o K s) (N:Act→World→Prop) (hN:∀ a' w',rD E R w β s K a' w'→N a' w') :
  (if aao o (yielded ops a.tmps) then o.wpIn F 0 E.P a w N Qc else (∀ f,o.about E.P w a.eval=some f→F.fn f)∧N (a.put o.dst undef) w):=by
 unfold gF at ha;split at ha
 ·rename_i c s' hz;obtain ⟨rfl,ha⟩:=ha;obtain ⟨R1,k1,k2,k3⟩:=MS h hz;refine s7 k1 (by rw [k3]; exact hf.mono k2.ext) ha N ?_;rintro a' w' ⟨s2,R',β',q1,q2,q3,q4⟩;exact hN a' w' ⟨s2,R',β',q1,q2,k2.trans q3,q4.trans k3⟩
 ·exact s7 h hf ha N hN
theorem Ab {f:FuncId} {F:Fence} {ops:Array Oper} {K:St→Prop} {Qc:Exit→Act→World→Prop} (hQ:∀ a' w',rD E R w β s K a' w'→Qc .normal a' w') :
  ∀ (l:List Nat) (os:List Oper),l.map (fun i=>ops[i]?)=os.map some→∀ (R1:ai) (w1:World) (β1:Nat→Nat) (s1:St) (a1:Act),aY E R1 w1 β1 s1 a1→Step R w β s.boxes R1 w1 β1 s1.boxes→s1.ro=s.ro→cm R1 s1.ro F →
   rF E f ops.toList os K s1→wpOpsIn F 0 E.P ops Qc l a1 w1
 |[],os,hm,R1,w1,β1,s1,a1,hr,iP,ba,_,ha=>by
  have:os=[]:=by simpa using hm.symm
  subst this;exact hQ _ _ ⟨s1,R1,β1,ha,hr,iP,ba⟩
 |i :: l,[],hm,_,_,_,_,_,_,_,_,_,_=>by simp at hm
 |i :: l,o :: os,hm,R1,w1,β1,s1,a1,hr,iP,ba,hf,ha=>by
  simp only [List.map_cons,List.cons.injEq] at hm;obtain ⟨hi,hm⟩:=hm;simp only [wpOpsIn,hi];refine BX hr hf (show gF E f ops.toList o (CF E f o (rF E f ops.toList os K)) s1 from ha) _ ?_;rintro a' w' ⟨s',R',β',q1,q2,q3,q4⟩;unfold CF at q1;split at q1
  ·rename_i c s2 hp;obtain ⟨rfl,q1⟩:=q1;obtain ⟨R2,p1,p2,p3,_⟩:=KL q2 hp;exact Ab hQ l os hm R2 w' β' s2 a' p1 ((iP.trans q3).trans p2) (p3.trans (q4.trans ba)) (by rw [p3,q4]; exact hf.mono (q3.ext.trans p2.ext)) q1
  ·exact q1.elim
theorem KR (ops:Array Oper):(List.range ops.size).map (fun i=>ops[i]?)=ops.toList.map some:=by
 apply List.ext_getElem?;intro i;simp only [List.getElem?_map];by_cases hi:i < ops.size
 ·rw [List.getElem?_range hi];simp [hi]
 ·rw [aaT (by simp; omega),aaT (by simp; omega)];rfl
theorem gl.region {f:FuncId} {id:Nat} {ops:Array Oper} {Q:Exit→St→Prop} {s:St} (h:rF E f ops.toList ops.toList (Q .normal) s):gl E (.region id ops false) Q s:=fun R w β a F hr hf=>by
 refine wpIn_region (Ab (R:=R) (w:=w) (β:=β) (s:=s) (K:=Q .normal) (f:=f) ?_ _ _ (KR ops) R w β s a hr (Step.refl _ _ _ _) rfl hf h);rintro a' w' ⟨s',R',β',h1,h2⟩;exact ⟨s',R',β',h1,h2⟩
end regions
end Go.Am
namespace Go.Am
open Go
def XE:Nat→List AV→bo
 |_,[]=>[]
 |n,a :: l=>.put n (.v a) :: XE (n+1) l
def St.init (ntmps:Nat) (args:List AV) (G:List GO):St:=
 ⟨XE 0 args,[],G,[],none,max ntmps args.length⟩
def rG:List Nat→List GO→Option (List GO)
 |[],G=>some G
 |id :: l,G=>match nth G id with
  |some (.defers true)=>rG l (ak G id (.defers false))
  |_=>none
def HL (E:Env) (s:St):List ResultVar→Option (List AV)
 |[]=>some []
 |.tmp t :: l=>match lk s.ab t,HL E s l with
  |.v a,some r=>some (a :: r)
  |_,_=>none
 |.cell p t :: l=>match uk E s t (lk s.ab p),HL E s l with
  |some a,some r=>some (a :: r)
  |_,_=>none
def MW (E:Env) (s:St) (fn:Func):Option AV:=match HL E s fn.results.toList with
 |some [a]=>some a
 |some l=>some (.bP l)
 |none=>none
def SJ (E:Env) (fn:Func) (Q:AV→List GO→Prop):Exit→St→Prop
 |.normal,s | .ret,s=>match rG s.marks s.G with
  |some G=>match MW E (s.bq G) fn with
   |some r=>Q r G
   |none=>False
  |none=>False
 |_,_=>False
section fns
variable {E:Env} {R:ai} {w:World} {β:Nat→Nat} {s:St} {a:Act}
def Ac (tmps:Array Value):ResultVar→Sem Value
 |.tmp t=>pure (tmps.getD t undef)
 |.cell p t=>do loadVar t (← asAddr (tmps.getD p undef))
theorem Ad (fn:Func) (tmps:Array Value):results fn tmps=(do
  let vs ← fn.results.mapM (Ac tmps)
  pure (if h:vs.size=1 then vs[0] else .tuple vs)):=by
 unfold results;congr 1
theorem uV (h:aY E R w β s a):∀ {l:List ResultVar} {r:List AV},HL E s l=some r →
  ∃ vs,(l.mapM (Ac a.tmps)).run E.P w=.ok vs w∧aL R w r vs
 |[],r,hl=>by
  simp [HL] at hl;subst hl;exact ⟨[],by simp,.nil⟩
 |.tmp t :: l,r,hl=>by
  unfold HL at hl;split at hl
  ·rename_i x r' h1 h2;cases hl;obtain ⟨vs,g1,g2⟩:=uV h h2;obtain ⟨c,k1,k2⟩:=h.t t (by rw [h1]; simp);rw [h1] at k2;have hg:a.tmps.getD t undef=c:=by simp [aaN,k1]
   refine ⟨c :: vs,?_,.cons k2 g2⟩;simp only [List.mapM_cons,aas,aaK,aaq,Ac,hg,g1]
  ·cases hl
 |.cell p t :: l,r,hl=>by
  unfold HL at hl;split at hl
  ·rename_i v r' h1 h2
   ·cases hl;obtain ⟨vs,g1,g2⟩:=uV h h2;obtain ⟨c,k1,k2⟩:=h.t p (fun e=>by rw [e] at h1; unfold uk at h1; split at h1 <;> simp_all [pN]);have hg:a.tmps.getD p undef=c:=by simp [aaN,k1]
    unfold uk at h1;split at h1
    ·rename_i i cs off hi hc;split at h1
     ·rename_i l' hs;obtain ⟨b,o',us,e,q1,q2,q3⟩:=xo h k2 hc;obtain ⟨m1,m2,m3,m4⟩:=pV hs q1 q2;obtain ⟨c',sj,dJ⟩:=nZ (E:=E) hi (b:=b) (off:=o'+off) m1 m2 m3 (fun j y hy=>by rw [Nat.add_assoc]; exact q3 _ _ (m4 j y hy)) h1;refine ⟨c' :: vs,?_,.cons dJ g2⟩;have ha:(asAddr c).run E.P w=.ok ⟨b,o'+off,none⟩ w:=by rw [e]; rfl
      have ab8:(Ac a.tmps (.cell p t)).run E.P w=.ok c' w:=by
       simp only [Ac,aas,hg,ha,aaq,sj]
      simp only [List.mapM_cons,aas,aaK,aaq,ab8,g1]
     ·cases h1
    ·cases h1
  ·cases hl
theorem MX (h:aY E R w β s a) {fn:Func} {r:AV} (hr:MW E s fn=some r):∃ c,(results fn a.tmps).run E.P w=.ok c w∧Rel R w r c:=by
 unfold MW at hr;split at hr
 ·rename_i x hl;cases hr;obtain ⟨vs,g1,g2⟩:=uV h hl;cases g2 with
  | @cons _ c _ _ g2 g3=>
  cases g3;refine ⟨c,?_,g2⟩;rw [Ad,aaQ];simp only [aas,Sem.run_map];rw [g1];simp
 ·rename_i l cq hl;cases hr;obtain ⟨vs,g1,g2⟩:=uV h hl;refine ⟨.tuple ⟨vs⟩,?_,.bP g2⟩;have hlen:vs.length≠1:=by
   rw [← g2.length];intro e
   match l,e with
   |[x],_=>exact cq x rfl
  rw [Ad,aaQ];simp only [aas,Sem.run_map];rw [g1];simp [hlen]
 ·cases hr
theorem KS (fn:Func) (Q:Ending→World→Prop):∀ {marks:List Nat} {G G':List GO} {R:ai} {w:World} {β:Nat→Nat} {s:St} {a:Act},aY E R w β (s.bq G) a→sP R marks a.defers→rG marks G=some G' →
  (∀ w' ,aY E R w' β (s.bq G') a→Step R w β s.boxes R w' β s.boxes→∃ v,(results fn a.tmps).run E.P w'=.ok v w'∧Q (.returned v) w')→LeavesInM aap 0 E.P fn a.tmps Q a.defers .returning w:=by
 intro marks;have key:∀ (marks:List Nat) (ds:List Deferred) (G G':List GO) (R:ai) (w:World) (β:Nat→Nat) (s:St) (a:Act),aY E R w β (s.bq G) a→sP R marks ds→rG marks G=some G' →
   (∀ w' ,aY E R w' β (s.bq G') a→Step R w β s.boxes R w' β s.boxes→∃ v,(results fn a.tmps).run E.P w'=.ok v w'∧Q (.returned v) w')→LeavesInM aap 0 E.P fn a.tmps Q ds .returning w:=by
  intro marks
  induction marks with
  |nil=>
   intro ds G G' R w β s a hr hd hl hq;cases ds with
   |cons _ _=>exact hd.elim
   |nil=>
    simp [rG] at hl;subst hl;obtain ⟨v,h1,h2⟩:=hq w hr (Step.refl _ _ _ _);exact ⟨v,h1,h2⟩
  |cons id marks ih=>
   intro ds G G' R w β s a hr hd hl hq;cases ds with
   |nil=>exact hd.elim
   |cons d ds=>
    obtain ⟨⟨b,hb,rfl⟩,hd⟩:=hd;unfold rG at hl;split at hl
    ·rename_i hg;have HM:w.heap[b]?=some (.deferred (some [])):=hr.g.obj id _ _ hg hb;have bW:=bz HM;have Ms:(aaU b).run E.P w=.ok [] (World.put w b (.deferred none)):=by
      simp only [aaU,getObj,setObj,aas,Sem.run,HM,aaq,aaK];rfl
     obtain ⟨q1,q2⟩:=hr.setObj (s:=s.bq G) (x':=.deferred none) (go':=.defers false) hb HM trivial trivial (fun _ e=>by cases e) (ja w b _ bW);refine ⟨by simp,.inl ⟨b,_,rfl,Ms,?_⟩⟩;refine ih ds (ak G id (.defers false)) G' R _ β s a q1 hd hl (fun w' ky iP=>?_);exact hq w' ky (q2.trans iP)
    ·cases hl
 intro G G' R w β s a hr hd hl hq;exact key marks a.defers G G' R w β s a hr hd hl hq
end fns
end Go.Am
namespace Go.Am
open Go
section intro
variable {E:Env} {R R':ai} {w w':World} {β β':Nat→Nat}
theorem Ae {bx IX:cX} (h:Step R w β bx R' w' β' IX) (hn:∀ k cs,dR bx k≠some cs):Step R w (fun _=>0) gW R' w' (fun _=>0) gW:=by
 have own:∀ b,Own R β bx b→Live R b:=fun b ho=>by
  rcases ho with ho|⟨k,cs,hk,_⟩
  ·exact ho
  ·exact absurd hk (hn k cs)
 exact ⟨h.ext,h.os,h.tape,h.output,h.size,fun b hb rq=>h.keep b hb (fun ho=>rq (.inl (own b ho))),fun b hb ho=>.inl (own b (h.own b hb (.inl (gL ho)))),fun b o hi hb rq=>h.im b o hi hb (fun ho=>rq (.inl (own b ho)))⟩
theorem MY:∀ {l:List AV} {n i:Nat},(i < n∨n+l.length≤i→lk (XE n l) i=.none)∧(∀ a,l[i - n]?=some a→n≤i→lk (XE n l) i=.v a)
 |[],n,i=>⟨fun _=>rfl,fun a h=>by simp at h⟩
 |b :: l,n,i=>by
  obtain ⟨h1,h2⟩:=MY (l:=l) (n:=n+1) (i:=i);refine ⟨fun h=>?_,fun a h hn=>?_⟩
  ·simp only [List.length_cons] at h;simp only [XE];rw [aT (by omega)];exact h1 (by omega)
  ·simp only [XE];by_cases e:n=i
   ·subst e;rw [aD];simp at h;rw [h]
   ·rw [aT e];refine h2 a ?_ (by omega);have:i - n=(i - (n+1))+1:=by omega
    rw [this] at h;simpa using h
theorem MZ {ntmps:Nat} {args:List AV} {cs:List Value} {G:List GO} (hg:eY E R w G) (hl:aL R w args cs) :
  aY E R w (fun _=>0) (St.init ntmps args G) { tmps:=⟨cs⟩++Array.replicate (ntmps - (⟨cs⟩:Array Value).size) undef,defers:=[] }:=by
 have hlen:=hl.length;refine ⟨hg,⟨fun k c hk=>?_,fun k k' c c' hk _ _=>?_⟩,fun i hi=>?_,?_,trivial⟩
 ·simp [St.init,dR] at hk
 ·simp [St.init,dR] at hk
 ·simp only [St.init] at hi ⊢;obtain ⟨h1,h2⟩:=MY (l:=args) (n:=0) (i:=i);by_cases bW:i < args.length
  ·have hy:args[i]?=some args[i]:=List.getElem?_eq_getElem bW;obtain ⟨c,k1,k2⟩:=hl.get hy;rw [h2 _ (by rw [Nat.sub_zero]; exact hy) (Nat.zero_le _)];refine ⟨c,?_,k2⟩;rw [Array.getElem?_append_left (by simp; omega)];simpa using k1
  ·exact absurd (h1 (by omega)) hi
 ·simp [St.init];omega
theorem HN {ntmps:Nat} {args:List AV} {G:List GO} (k:Nat) (cs:List AV):dR (St.init ntmps args G).boxes k≠some cs:=by
 simp [St.init,dR]
theorem cZ.intro {g : FuncId} {fn : Func} {c : Code} {args : List AV} {G : List GO} {Q : AV → List GO → Prop} (hf : E.P.funcs[g]? = some fn) (hb : fn.body = some c) (hn : (fn.name == "runtime.NumGoroutine") = false)
  (h:gl E c (SJ E fn Q) (St.init fn.ntmps args G)):cZ E g args G Q:=by
 refine ⟨⟨fn,hf,by simp [hb],hn⟩,fun R w cs hg hl=>?_⟩;refine callsIn_of_wp_marks hf hb trivial (wpIn_mono (h R w (fun _=>0) _ aap (MZ hg hl) rfl) ?_);rintro e a' w' ⟨s',R',β',hq,hr,iP,ba⟩;have fin:(match rG s'.marks s'.G with
  |some G=>match MW E (s'.bq G) fn with
   |some r=>Q r G
   |none=>False
  |none=>False)→LeavesInM aap 0 E.P fn a'.tmps (CE E R w Q) a'.defers .returning w':=by
  intro hq;split at hq
  ·rename_i G2 YM;split at hq
   ·rename_i r DO;refine KS fn (CE E R w Q) (s:=s') (G:=s'.G) hr hr.d YM (fun Pq Aa s6=>?_);obtain ⟨v,h1,h2⟩:=MX Aa DO;exact ⟨v,h1,r,G2,R',hq,h2,Aa.g,Ae (iP.trans s6) HN⟩
   ·exact hq.elim
  ·exact hq.elim
 cases e with
 |normal=>exact fin hq
 |ret=>exact fin hq
 |exit _=>exact hq.elim
 |goto _=>exact hq.elim
 |panic _=>exact hq.elim
 |outgrown=>exact hq.elim
end intro
end Go.Am
namespace Go.Am
open Go
def St.gG (s:St) (pre:bo) (preB:cX) (G:List GO):St:=⟨pre++s.ab,preB++s.boxes,G,s.marks,s.ro,s.n⟩
def XF (al:Bool) (dst:Option Tmp) (pre:bo):Prop:=
 pre=[]∨∃ d x,dst=some d∧(pre=[.put d x]∨(al=true∧pre=[.put d x,.kill d]))
def cn (al w:Bool) (dst:Option Tmp) (s t s' t':St):Prop:=
 ∃ pre preB G,XF al dst pre∧(w=false→preB=[]∧G=s.G∧∃ x,s'=s.put dst x∧t'=t.put dst x)∧s'=s.gG pre preB G∧t'=t.gG pre preB G
section
variable {E:Env} {s t:St} {o:Oper}
theorem od (s:St) (d:Tmp) (x:SV):s.put (some d) x=bif aaI d s.n then s.gG [.put d x] [] s.G else s:=by
 cases h:aaI d s.n <;> simp [St.put,h,St.gG]
theorem cn.put {al w:Bool} (hn:s.n=t.n) (hG:s.G=t.G) (dst:Option Tmp) (x:SV):cn al w dst s t (s.put dst x) (t.put dst x):=by
 cases dst with
 |none=>exact ⟨[],[],s.G,.inl rfl,fun _=>⟨rfl,rfl,x,rfl,rfl⟩,rfl,by rw [hG]; rfl⟩
 |some d=>
  have hx:∃ y,s.put (some d) x=s.put (some d) y∧t.put (some d) x=t.put (some d) y:=⟨x,rfl,rfl⟩;revert hx;generalize hs:s.put (some d) x=s';generalize ht:t.put (some d) x=t';intro hx;rw [od] at hs ht;rw [← hn] at ht;revert hs ht;cases aaI d s.n with
  |true=>exact fun hs ht=>⟨[.put d x],[],s.G,.inr ⟨d,x,rfl,.inl rfl⟩,fun _=>⟨rfl,rfl,hx⟩,hs.symm,by rw [hG]; exact ht.symm⟩
  |false=>exact fun hs ht=>⟨[],[],s.G,.inl rfl,fun _=>⟨rfl,rfl,hx⟩,hs.symm,by rw [hG]; exact ht.symm⟩
theorem cn.ee {al:Bool} (hn:s.n=t.n) (G:List GO) (dst:Option Tmp) (x:SV):cn al true dst s t ((s.bq G).put dst x) ((t.bq G).put dst x):=by
 cases dst with
 |none=>exact ⟨[],[],G,.inl rfl,fun h=>(by cases h),rfl,rfl⟩
 |some d=>
  rw [od,od,show (t.bq G).n=(s.bq G).n from hn.symm];cases aaI d (s.bq G).n with
  |true=>exact ⟨[.put d x],[],G,.inr ⟨d,x,rfl,.inl rfl⟩,fun h=>(by cases h),rfl,rfl⟩
  |false=>exact ⟨[],[],G,.inl rfl,fun h=>(by cases h),rfl,rfl⟩
theorem cn.bq {al:Bool} (G:List GO) (dst:Option Tmp):cn al true dst s t (s.bq G) (t.bq G):=⟨[],[],G,.inl rfl,fun h=>(by cases h),rfl,rfl⟩
theorem cn.xi {al:Bool} (hG:s.G=t.G) (dst:Option Tmp) (d:Nat) (cs:List AV):cn al true dst s t (s.xi d cs) (t.xi d cs):=
 ⟨[],[(d,cs)],s.G,.inl rfl,fun h=>(by cases h),rfl,(by rw [hG]; rfl)⟩
theorem iH {a b:bo}:∀ {l:List Operand},(∀ y∈l,bG E a y=bG E b y)→nL E a l=nL E b l
 |[],_=>rfl
 |x :: l,h=>by
  simp only [nL];rw [h x (by simp),iH (l:=l) (fun y hy=>h y (by simp [hy]))]
theorem pt {a b:bo}:∀ {l:List (Nat × Operand)},(∀ p∈l,bG E a p.2=bG E b p.2)→O0 E a l=O0 E b l
 |[],_=>rfl
 |(i,x) :: l,h=>by
  simp only [O0];rw [h (i,x) (by simp),pt (l:=l) (fun y hy=>h y (by simp [hy]))]
theorem BY (hG:s.G=t.G) (p:SV) (hB:∀ k off,p=.lp k off→dR s.boxes k=dR t.boxes k):pN s p=pN t p:=by
 unfold pN;rw [hG];cases p with
 |lp k off=>simp only [hB k off rfl]
 |v a=>cases a <;> rfl
 |_=>rfl
theorem Fm (hG:s.G=t.G) (ty:TypeId) (p:SV) (hB:∀ k off,p=.lp k off→dR s.boxes k=dR t.boxes k):uk E s ty p=uk E t ty p:=by
 unfold uk;rw [BY hG p hB]
theorem xF (hG:s.G=t.G) (id f i sz:Nat) (ty:TypeId):zh E s id f i sz ty=zh E t id f i sz ty:=by
 unfold zh;rw [hG]
theorem xG (hG:s.G=t.G) (id j f i sz:Nat) (ty:TypeId):zi E s id j f i sz ty=zi E t id j f i sz ty:=by
 unfold zi;rw [hG]
theorem Fo (hG:s.G=t.G) (ty:TypeId) (p:SV) (hB:∀ k off,p=.lp k off→dR s.boxes k=dR t.boxes k):Ce E s ty p=Ce E t ty p:=by
 unfold Ce;split
 ·rw [xF hG]
 ·rw [xG hG]
 ·rw [Fm hG _ _ hB]
theorem Fp (hG:s.G=t.G) (esz:Nat) (d x:AV):uo s esz d x=uo t esz d x:=by
 unfold uo;rw [hG]
theorem xH {f:FuncId} {dst:Option Tmp} {el:TypeId} {cs:List AV} {c:Bool} {s':St} (hn:s.n=t.n) (hG:s.G=t.G) (h:gv E f s dst el cs=some (c,s')) :
  ∃ t',gv E f t dst el cs=some (c,t')∧cn true true dst s t s' t':=by
 unfold gv at *;cases dst with
 |none=>cases h
 |some d=>
  simp only at *;split at h
  ·rename_i hg;injection h with h;injection h with h1 h2;subst h1 h2;rw [if_pos hg];refine ⟨_,rfl,?_⟩;have:=cn.ee (al:=true) hn (s.G++[.row cs el]) (some d) (.v (.ptr s.G.length 0));rw [hG] at this;have e:s.eF (.row cs el)=s.bq (t.G++[.row cs el]):=by rw [← hG]; rfl
   rw [e,hG];exact this
  ·rename_i hg;rw [if_neg hg,← hn];split at h
   ·rename_i hb;injection h with h;injection h with h1 h2;subst h1 h2;refine ⟨_,rfl,[.put d (.lp d 0),.kill d],[(d,cs)],s.G,.inr ⟨d,_,rfl,.inr ⟨rfl,rfl⟩⟩,fun h=>(by cases h),?_,?_⟩
    ·simp [St.put,St.xi,St.kill,hb,St.gG]
    ·simp only [St.put,St.xi,St.kill,← hn,hb,St.gG,hG];rfl
   ·cases h
theorem Fq {ty:TypeId} {p x:SV} {s':St} {al:Bool} {dst:Option Tmp} (hG:s.G=t.G) (hB:∀ k off,p=.lp k off→dR s.boxes k=dR t.boxes k) (h:iQ E s ty p x=some s') :
  ∃ t',iQ E t ty p x=some t'∧cn al true dst s t s' t':=by
 unfold iQ at *;split at h
 ·split at h
  ·rename_i hc;rw [if_pos hc];split at h
   ·rw [← hB _ _ rfl];split at h
    ·split at h
     ·rename_i Fs;cases h;simp only [Fs,if_true];exact ⟨_,rfl,.xi hG _ _ _⟩
     ·cases h
    ·cases h
   ·rw [← hG];split at h
    ·split at h
     ·rename_i Fs;cases h;simp only [Fs,if_true];exact ⟨_,rfl,.bq _ _⟩
     ·cases h
    ·cases h
   ·cases h
  ·cases h
 ·cases h
theorem Ft {ty:TypeId} {p x:SV} {c:Bool} {s':St} {al:Bool} {dst:Option Tmp} (hG:s.G=t.G) (hB:∀ k off,p=.lp k off→dR s.boxes k=dR t.boxes k) (h:fQ E s ty p x=some (c,s')) :
  ∃ t',fQ E t ty p x=some (c,t')∧cn al true dst s t s' t':=by
 unfold fQ at *;split at h
 ·rw [← hG];split at h
  ·split at h
   ·rename_i h1 h2 hc;simp only [hc,if_true];split at h
    ·rename_i Fs;injection h with h; injection h with e1 e2;subst e1; subst e2;simp only [Fs,if_true];exact ⟨_,rfl,.bq _ _⟩
    ·rename_i Fs;rw [if_neg Fs,← xF hG];split at h
     ·rename_i hg;split at h
      ·rename_i hc3;injection h with h; injection h with e1 e2;subst e1; subst e2;simp only [hc3,if_true];exact ⟨_,rfl,.bq _ _⟩
      ·cases h
     ·cases h
   ·cases h
  ·cases h
 ·rw [← hG];split at h
  ·split at h
   ·rename_i h1 h2 hc;simp only [hc,if_true];split at h
    ·rename_i Fs;injection h with h; injection h with e1 e2;subst e1; subst e2;simp only [Fs,if_true];exact ⟨_,rfl,.bq _ _⟩
    ·rename_i Fs;rw [if_neg Fs,← xG hG];split at h
     ·rename_i hg;split at h
      ·rename_i hc3;injection h with h; injection h with e1 e2;subst e1; subst e2;simp only [hc3,if_true];exact ⟨_,rfl,.bq _ _⟩
      ·cases h
     ·cases h
   ·cases h
  ·cases h
 ·split at h
  ·rename_i s1 hs;injection h with h; injection h with e1 e2;subst e1; subst e2;obtain ⟨t',h3,h4⟩:=Fq (al:=al) (dst:=dst) hG hB hs;simp only [h3];exact ⟨_,rfl,h4⟩
  ·cases h
theorem HO (hG:s.G=t.G) (p x:SV):tA s p x=tA t p x:=by unfold tA; rw [hG]
theorem Fu {ty:TypeId} {p x:SV} {c:Bool} {s':St} {al:Bool} {dst:Option Tmp} (hG:s.G=t.G) (hB:∀ k off,p=.lp k off→dR s.boxes k=dR t.boxes k) (h:lD E s ty p x=some (c,s')) :
  ∃ t',lD E t ty p x=some (c,t')∧cn al true dst s t s' t':=by
 unfold lD at *;rw [← HO hG];split at h
 ·rename_i c1 s1 hs;injection h with h; injection h with e1 e2;subst e1; subst e2;obtain ⟨t',h3,pre,preB,G,h4,_,h5,h6⟩:=Ft (s:=s.bq (tA s p x).2.2) (t:=t.bq (tA s p x).2.2) (al:=al) (dst:=dst) rfl hB hs;rw [h3];exact ⟨_,rfl,pre,preB,G,h4,(fun h=>by cases h),h5,h6⟩
 ·cases h
def cA:Op→Bool
 |.alloc _=>true
 |.box _ _=>true
 |_=>false
def vU:Op→Bool
 |.move _ | .assign _ | .pick _ _ _ | .build _ _ | .buildSlice _ _ _ | .load _ _ | .binOp _ _ _ _ _ | .unOp _ _ _ | .convert _ _ _ | .makeFunc _ _ _ | .fieldAddr _ _ _ | .field _ _ _
 |.indexAddr _ _ _ | .index _ _ _ | .slice _ _ _ _ _ | .extract _ _ | .lookup _ _ _ _ | .nilCheck _=>true
 |.call { callee:=.builtin .len,.. }=>true
 |.call { callee:=.builtin .max,.. }=>true
 |.call { callee:=.builtin .min,.. }=>true
 |_=>false
def UE:Op→Bool
 |.load _ _=>true
 |.lookup _ _ _ _=>true
 |.call _=>true
 |.convert _ _ _=>true
 |_=>false
def PR:Builtin→Bool
 |.append | .copy | .clear=>true
 |_=>false
theorem BZ {dst:Option Tmp} {b:Builtin} {l:List AV} {tys:List TypeId} {c:Bool} {s':St} {al:Bool} (hn:s.n=t.n) (hG:s.G=t.G) (h:cu E s dst b l tys=some (c,s')) :
  ∃ t',cu E t dst b l tys=some (c,t')∧cn al (PR b) dst s t s' t':=by
 obtain ⟨sl,bx,G,m,ro,n⟩:=s;obtain ⟨XG,IX,G',m',jR,n'⟩:=t;have hc:=fun esz d x=>Fp (s:=⟨sl,bx,G,m,ro,n⟩) (t:=⟨XG,IX,G',m',jR,n'⟩) hG esz d x
 simp only at hn hG;subst hn hG;unfold cu at h ⊢;simp only [← hc];cases b
 all_goals (try (cases h; done))
 all_goals (try simp only at h ⊢)
 all_goals (try (split at h <;> first | (cases h; done) | simp only at h ⊢))
 all_goals (repeat' (split at h))
 all_goals (first|(cases h; done) | skip)
 all_goals (injection h with h; injection h with h1 h2; subst h1 h2)
 all_goals (try simp only [if_true, *])
 all_goals (first|exact ⟨_,rfl,.put (by rfl) (by rfl) _ _⟩ | exact ⟨_,rfl,.ee (by rfl) _ _ _⟩ | exact ⟨_,rfl,.bq _ _⟩)
theorem Af (hG:s.G=t.G) (a b:TypeId) (x:SV):oZ E s a b x=oZ E t a b x:=by
 unfold oZ;rw [hG]
theorem B0 (hG:s.G=t.G) (ty:TypeId) (m k:SV):nX E s ty m k=nX E t ty m k:=by
 have:mapOf s=mapOf t:=by funext m; unfold mapOf; rw [hG]
 unfold nX kV;rw [this,hG]
theorem uW {ty:TypeId} {m k x:SV} {s':St} {al:Bool} {dst:Option Tmp} (hG:s.G=t.G) (h:gw E s ty m k x=some s') :
  ∃ t',gw E t ty m k x=some t'∧cn al true dst s t s' t':=by
 unfold gw at *;rw [← hG]
 repeat' (split at h)
 all_goals (first|(cases h; done) | skip)
 cases h;simp only [*];exact ⟨_,rfl,.bq _ _⟩
theorem HP {dst:Option Tmp} {x:SV} {s':St} {al:Bool} (hn:s.n=t.n) (hG:s.G=t.G) (h:nY s dst x=some s') :
  ∃ t',nY t dst x=some t'∧cn al true dst s t s' t':=by
 unfold nY at *;rw [← hG];split at h
 ·split at h
  ·rename_i l pos hg;cases hb:aaI pos l.length with
   |true=>
    rw [hb] at h;simp only [cond_true] at h ⊢;cases h;exact ⟨_,rfl,.ee hn _ _ _⟩
   |false=>
    rw [hb] at h;simp only [cond_false] at h ⊢;cases h;obtain ⟨pre,preB,G,p1,p2,p3⟩:=cn.put (al:=al) (w:=true) hn hG dst (.v (.bP [.bool false]));exact ⟨_,rfl,pre,preB,G,p1,p2,p3⟩
  ·cases h
 ·cases h
theorem qc {f:FuncId} {r:Bool × St} (h:iV E f s o=some r):∃ args tys,o.op=.call { callee:=.builtin .append,args:=args,argTypes:=tys }:=by
 unfold iV at h;split at h
 ·split at h
  ·split at h
   ·rename_i args tys ho;exact ⟨args,tys,ho⟩
   ·cases h
  ·cases h
 ·cases h
theorem Ag {f:FuncId} {c:Bool} {s':St} {al:Bool} (hn:s.n=t.n) (hG:s.G=t.G) (fB:∀ y∈o.op.operands,bG E s.ab y=bG E t.ab y)
  (h:iV E f s o=some (c,s')):∃ t',iV E f t o=some (c,t')∧cn al true o.dst s t s' t':=by
 obtain ⟨args,tys,ho⟩:=qc h;have h1:nL E s.ab args.toList=nL E t.ab args.toList:=iH fun y hy=>fB y (by rw [ho]; simp [aal,aaO]; simpa using hy)
 unfold iV at h ⊢;rw [ho] at h ⊢;simp only [h1,hG] at h ⊢
 repeat' (split at h)
 all_goals (first|(cases h; done) | skip)
 injection h with h; injection h with h2 h3;subst h2 h3;simp only [*,if_true];refine ⟨_,rfl,?_⟩;exact cn.ee hn _ _ _
theorem yx {f:FuncId} (hn:s.n=t.n) (hG:s.G=t.G) (fB:∀ y∈o.op.operands,bG E s.ab y=bG E t.ab y) (h:iV E f s o=none):iV E f t o=none:=by
 cases ht:iV E f t o with
 |none=>rfl
 |some r=>
  obtain ⟨t',h1,_⟩:=Ag (s:=t) (t:=s) (al:=false) hn.symm hG.symm (fun y hy=>(fB y hy).symm) (c:=r.1) (s':=r.2) ht;rw [h] at h1;cases h1
theorem uX {f:FuncId} {c:Bool} {s':St} (hn:s.n=t.n) (hG:s.G=t.G) (hB:∀ k off,(∃ y∈o.op.operands,bG E s.ab y=.lp k off)→dR s.boxes k=dR t.boxes k) (fB:∀ y∈o.op.operands,bG E s.ab y=bG E t.ab y)
  (h:ao E f s o=some (c,s')):∃ t',ao E f t o=some (c,t')∧cn (cA o.op) (!vU o.op) o.dst s t s' t':=by
 obtain ⟨dst,op,ty,pos,after,guard⟩:=o;cases op
 case move x=>
  simp only [ao,fB x (by simp [aal])] at h ⊢;split at h
  all_goals (injection h with h; injection h with h1 h2; subst h1 h2; (try simp only [*]); exact ⟨_,rfl,.put hn hG _ _⟩)
 case assign x=>
  simp only [ao,fB x (by simp [aal])] at h ⊢;split at h
  all_goals (injection h with h; injection h with h1 h2; subst h1 h2; (try simp only [*]); exact ⟨_,rfl,.put hn hG _ _⟩)
 case pick x y z=>
  simp only [ao,fB x (by simp [aal]),fB y (by simp [aal]),fB z (by simp [aal])] at h ⊢;split at h
  ·injection h with h; injection h with h1 h2; subst h1 h2; (try simp only [*]); exact ⟨_,rfl,.put hn hG _ _⟩
  ·cases h
 case alloc e=>
  simp only [ao] at h ⊢
  repeat' (split at h)
  all_goals (first|(cases h; done) | skip)
  simp only [*];exact xH hn hG h
 case box e x=>
  simp only [ao,fB x (by simp [aal])] at h ⊢
  repeat' (split at h)
  all_goals (first|(cases h; done) | skip)
  simp only [*];exact xH hn hG h
 case build ty ps=>
  have he:pO E s ty ps.toList=pO E t ty ps.toList:=by
   unfold pO;rw [pt (fun p hp=>fB p.2 (by simp only [aal,aaL,aaR]; exact ⟨p,hp,rfl⟩))]
  simp only [ao,he] at h ⊢;split at h
  ·injection h with h; injection h with h1 h2; subst h1 h2; (try simp only [*]); exact ⟨_,rfl,.put hn hG _ _⟩
  ·cases h
 case buildSlice ty len ps=>
  have he:cG E s ty len ps.toList=cG E t ty len ps.toList:=by
   unfold cG;rw [pt (fun p hp=>fB p.2 (by simp only [aal,aaL,aaR]; exact ⟨p,hp,rfl⟩))]
  simp only [ao,he] at h ⊢;split at h
  ·injection h with h; injection h with h1 h2; subst h1 h2; (try simp only [*]); exact ⟨_,rfl,.put hn hG _ _⟩
  ·cases h
 case load ty x=>
  simp only [ao,fB x (by simp [aal])] at h ⊢;rw [Fo hG ty _ (fun k off e=>hB k off ⟨x,by simp [aal],by rw [fB x (by simp [aal])]; exact e⟩)] at h;split at h
  ·injection h with h; injection h with h1 h2; subst h1 h2; (try simp only [*]); exact ⟨_,rfl,.put hn hG _ _⟩
  ·cases h
 case store ty x y=>
  simp only [ao,fB x (by simp [aal]),fB y (by simp [aal])] at h ⊢;split at h
  ·rename_i s1 hs;injection h with h; injection h with h1 h2; subst h1 h2;obtain ⟨t',h3,h4⟩:=Fu (al:=false) (dst:=none) hG (fun k off e=>hB k off ⟨x,by simp [aal],by rw [fB x (by simp [aal])]; exact e⟩) hs;rw [h3];exact ⟨_,rfl,h4⟩
  ·cases h
 case binOp op a x y b=>
  simp only [ao,fB x (by simp [aal]),fB y (by simp [aal])] at h ⊢
  repeat' (split at h)
  all_goals (first|(cases h; done) | skip)
  all_goals (injection h with h; injection h with h1 h2; subst h1 h2; (try simp only [*]); exact ⟨_,rfl,.put hn hG _ _⟩)
 case unOp op a x=>
  simp only [ao,fB x (by simp [aal])] at h ⊢
  repeat' (split at h)
  all_goals (first|(cases h; done) | skip)
  all_goals (injection h with h; injection h with h1 h2; subst h1 h2; (try simp only [*]); exact ⟨_,rfl,.put hn hG _ _⟩)
 case nilCheck x=>
  simp only [ao,fB x (by simp [aal])] at h ⊢
  repeat' (split at h)
  all_goals (first|(cases h; done) | skip)
  all_goals (injection h with h; injection h with h1 h2; subst h1 h2; (try simp only [*]); exact ⟨_,rfl,.put hn hG _ _⟩)
 case convert a b x=>
  simp only [ao,fB x (by simp [aal]),Af hG] at h ⊢
  repeat' (split at h)
  all_goals (first|(cases h; done) | skip)
  all_goals (injection h with h; injection h with h1 h2; subst h1 h2; (try simp only [*]); exact ⟨_,rfl,.put hn hG _ _⟩)
 case makeFunc fo a b=>
  cases fo with
  |func g=>
   have h1:nL E s.ab a.toList=nL E t.ab a.toList:=iH fun y hy=>fB y (by simp only [aal,aaM]; exact .inl (by simpa using hy))
   have h2:nL E s.ab b.toList=nL E t.ab b.toList:=iH fun y hy=>fB y (by simp only [aal,aaM]; exact .inr (by simpa using hy))
   simp only [ao,h1,h2] at h ⊢
   repeat' (split at h)
   all_goals (first|(cases h; done) | skip)
   all_goals (injection h with h; injection h with h1 h2; subst h1 h2; (try simp only [*]); exact ⟨_,rfl,.put hn hG _ _⟩)
  |_=>simp [ao] at h
 case fieldAddr a x j=>
  simp only [ao,fB x (by simp [aal])] at h ⊢
  repeat' (split at h)
  all_goals (first|(cases h; done) | skip)
  all_goals (injection h with h; injection h with h1 h2; subst h1 h2; (try simp only [*]); exact ⟨_,rfl,.put hn hG _ _⟩)
 case field a x j=>
  simp only [ao,fB x (by simp [aal])] at h ⊢
  repeat' (split at h)
  all_goals (first|(cases h; done) | skip)
  all_goals (injection h with h; injection h with h1 h2; subst h1 h2; (try simp only [*]); exact ⟨_,rfl,.put hn hG _ _⟩)
 case indexAddr a x y=>
  simp only [ao,fB x (by simp [aal]),fB y (by simp [aal])] at h ⊢
  repeat' (split at h)
  all_goals (first|(cases h; done) | skip)
  all_goals (injection h with h; injection h with h1 h2; subst h1 h2; (try simp only [*]); exact ⟨_,rfl,.put hn hG _ _⟩)
 case index a x y=>
  simp only [ao,fB x (by simp [aal]),fB y (by simp [aal])] at h ⊢
  repeat' (split at h)
  all_goals (first|(cases h; done) | skip)
  all_goals (injection h with h; injection h with h1 h2; subst h1 h2; (try simp only [*]); exact ⟨_,rfl,.put hn hG _ _⟩)
 case slice a x lo hi mx=>
  have h1:nN E s.ab lo=nN E t.ab lo:=by
   cases lo with
   |none=>rfl
   |some y=>simp only [nN]; rw [fB y (by simp [aal])]
  have h2:nN E s.ab hi=nN E t.ab hi:=by
   cases hi with
   |none=>rfl
   |some y=>simp only [nN]; rw [fB y (by simp [aal])]
  simp only [ao,fB x (by simp [aal]),h1,h2] at h ⊢
  repeat' (split at h)
  all_goals (first|(cases h; done) | skip)
  all_goals (injection h with h; injection h with h1 h2; subst h1 h2; (try simp only [*]); exact ⟨_,rfl,.put hn hG _ _⟩)
 case extract x i=>
  simp only [ao,fB x (by simp [aal])] at h ⊢
  repeat' (split at h)
  all_goals (first|(cases h; done) | skip)
  all_goals (injection h with h; injection h with h1 h2; subst h1 h2; (try simp only [*]); exact ⟨_,rfl,.put hn hG _ _⟩)
 case makeSlice ty x y=>
  simp only [ao,pR,fB x (by simp [aal]),fB y (by simp [aal]),hG] at h ⊢
  repeat' (split at h)
  all_goals (first|(cases h; done) | skip)
  all_goals (injection h with h; injection h with h1 h2; subst h1 h2)
  all_goals (simp only [*])
  all_goals (refine ⟨_,rfl,?_⟩)
  all_goals (have e:∀ o,t.eF o=t.bq (t.G++[o]):=fun o=>rfl)
  all_goals (have e':∀ o,s.eF o=s.bq (t.G++[o]):=fun o=>by rw [← hG]; rfl)
  all_goals (try rw [e,e'])
  all_goals (exact cn.ee (al:=false) hn _ dst _)
 case lookup ty x y ok=>
  simp only [ao,fB x (by simp [aal]),fB y (by simp [aal]),B0 hG] at h ⊢;split at h
  ·injection h with h; injection h with h1 h2; subst h1 h2; (try simp only [*]); exact ⟨_,rfl,.put hn hG _ _⟩
  ·cases h
 case mapUpdate ty x y z=>
  simp only [ao,fB x (by simp [aal]),fB y (by simp [aal]),fB z (by simp [aal])] at h ⊢;split at h
  ·rename_i s1 hs;injection h with h; injection h with h1 h2; subst h1 h2;obtain ⟨t',h3,h4⟩:=uW (al:=false) (dst:=none) hG hs;rw [h3];exact ⟨_,rfl,h4⟩
  ·cases h
 case insert ty x y z=>
  simp only [ao,fB x (by simp [aal]),fB y (by simp [aal]),fB z (by simp [aal])] at h ⊢;split at h
  ·rename_i s1 hs;injection h with h; injection h with h1 h2; subst h1 h2;obtain ⟨t',h3,h4⟩:=uW (al:=false) (dst:=none) hG hs;rw [h3];exact ⟨_,rfl,h4⟩
  ·cases h
 case entry x=>
  simp only [ao,fB x (by simp [aal])] at h ⊢;have e:vZ E s (bG E t.ab x)=vZ E t (bG E t.ab x):=by unfold vZ; rw [hG]
  rw [e] at h;split at h
  ·injection h with h; injection h with h1 h2; subst h1 h2; (try simp only [*]); exact ⟨_,rfl,.put hn hG _ _⟩
  ·cases h
 case mapEntry ty x y=>
  simp only [ao,fB x (by simp [aal]),fB y (by simp [aal])] at h ⊢;unfold iC at h ⊢;rw [← hG]
  repeat' (split at h)
  all_goals (first|(cases h; done) | skip)
  rename_i jS
  repeat' (split at jS)
  all_goals (first|(cases jS; done) | skip)
  injection jS with jS; injection jS with h3 jS; injection jS with h4 h5;injection h with h; injection h with h1 h2; subst h1 h2 h3 h4 h5;simp only [*,if_true];exact ⟨_,rfl,cn.ee (al:=false) hn _ dst _⟩
 case entryStore ty x y z=>
  simp only [ao,fB x (by simp [aal]),fB y (by simp [aal]),fB z (by simp [aal])] at h ⊢;unfold fy at h ⊢;rw [← hG]
  repeat' (split at h)
  all_goals (first|(cases h; done) | skip)
  rename_i jS
  repeat' (split at jS)
  all_goals (first|(cases jS; done) | skip)
  injection jS with jS; injection jS with h3 h5;injection h with h; injection h with h1 h2; subst h1 h2 h3 h5;simp only [*];exact ⟨_,rfl,.bq _ _⟩
 case range ty x=>
  simp only [ao,fB x (by simp [aal])] at h ⊢
  repeat' (split at h)
  all_goals (first|(cases h; done) | skip)
  ·injection h with h; injection h with h1 h2; subst h1 h2
   (try simp only [*])
   refine ⟨_,rfl,?_⟩;have e:∀ o,t.eF o=t.bq (s.G++[o]):=fun o=>by rw [hG]; rfl
   rw [e,← hG];exact cn.ee (al:=false) hn _ dst _
  ·rename_i hk hg;injection h with h; injection h with h1 h2; subst h1 h2;have Ck:=hg;rw [hG] at Ck;simp only [hk,Ck];refine ⟨_,rfl,?_⟩;have e:∀ o,t.eF o=t.bq (s.G++[o]):=fun o=>by rw [hG]; rfl
   rw [e,← hG];exact cn.ee (al:=false) hn _ dst _
 case next x b=>
  cases b with
  |false=>simp [ao] at h
  |true=>
   simp only [ao,fB x (by simp [aal])] at h ⊢;split at h
   ·rename_i s1 hs;injection h with h; injection h with h1 h2; subst h1 h2;obtain ⟨t',h3,h4⟩:=HP (al:=false) hn hG hs;rw [h3];exact ⟨_,rfl,h4⟩
   ·cases h
 case makeMap ty r=>
  cases r with
  |none=>
   simp only [ao] at h ⊢;injection h with h; injection h with h1 h2; subst h1 h2;refine ⟨_,rfl,?_⟩;have:=cn.ee (al:=false) hn (s.G++[.map []]) dst (.v (.map s.G.length));have e:∀ o,t.eF o=t.bq (s.G++[o]):=fun o=>by rw [hG]; rfl
   rw [e,← hG];exact this
  |some _=>simp [ao] at h
 case call cl=>
  obtain ⟨callee,args,tys⟩:=cl;cases callee with
  |builtin b=>
   have h1:nL E s.ab args.toList=nL E t.ab args.toList:=iH fun y hy=>fB y (by simp [aal,aaO]; simpa using hy)
   cases hf:iV E f s { dst:=dst,op:=.call { callee:=.builtin b,args:=args,argTypes:=tys },type:=ty,pos:=pos,after:=after,guard:=guard } with
   |some r=>
    simp only [ao,hf] at h;obtain ⟨t',q1,q2⟩:=Ag (al:=cA (.call { callee:=.builtin b,args:=args,argTypes:=tys })) hn hG fB (c:=r.1) (s':=r.2) hf;cases h;obtain ⟨a2,t2,ho⟩:=qc hf;cases ho;refine ⟨t',by simp only [ao,q1],?_⟩;exact q2
   |none=>
   have YB:=yx hn hG fB hf;simp only [ao,hf,YB,h1] at h ⊢;split at h
   ·(try simp only [*])
    obtain ⟨t',h3,h4⟩:=BZ (al:=false) hn hG h;refine ⟨t',h3,?_⟩;have:(!vU (.call { callee:=.builtin b,args:=args,argTypes:=tys }))=PR b∨PR b=false:=by cases b <;> simp [vU,PR]
    rcases this with this|this
    ·rw [this]; exact h4
    ·obtain ⟨pre,preB,G,p1,p2,p3⟩:=h4;exact ⟨pre,preB,G,p1,fun _=>p2 this,p3⟩
   ·cases h
  |_=>simp [ao] at h
 all_goals (simp [ao] at h)
theorem jz {f:FuncId} {c:Bool} {s':St} (hn:s.n=t.n) (hG:s.G=t.G) (hB:dR s.boxes=dR t.boxes) (fB:∀ y∈o.op.operands,bG E s.ab y=bG E t.ab y)
  (h:ao E f s o=some (c,s')):∃ t',ao E f t o=some (c,t')∧cn (cA o.op) (!vU o.op) o.dst s t s' t':=
 uX hn hG (fun k _ _=>by rw [hB]) fB h
end
end Go.Am
namespace Go.Am
open Go
structure sr (s t:St):Prop where
 l:lk s.ab=lk t.ab
 b:dR s.boxes=dR t.boxes
 G:s.G=t.G
 m:s.marks=t.marks
 ro:s.ro=t.ro
 n:s.n=t.n
theorem sr.refl (s:St):sr s s:=⟨rfl,rfl,rfl,rfl,rfl,rfl⟩
theorem sr.symm {s t:St} (h:sr s t):sr t s:=⟨h.l.symm,h.b.symm,h.G.symm,h.m.symm,h.ro.symm,h.n.symm⟩
theorem sr.trans {s t u:St} (h:sr s t) (k:sr t u):sr s u:=⟨h.l.trans k.l,h.b.trans k.b,h.G.trans k.G,h.m.trans k.m,h.ro.trans k.ro,h.n.trans k.n⟩
theorem pu {a b:bo} {e:Nat} (h:lk a e=lk b e):∀ pre:bo,lk (pre++a) e=lk (pre++b) e
 |[]=>h
 |.put d x :: pre=>by
  simp only [aax,lk];rw [pu h pre]
 |.kill d :: pre=>by
  simp only [aax,lk];rw [pu h pre]
theorem Ah {a b:cX} {e:Nat} (h:dR a e=dR b e):∀ pre:cX,dR (pre++a) e=dR (pre++b) e
 |[]=>h
 |(d,x) :: pre=>by
  simp only [aax,dR];rw [Ah h pre]
theorem sr.gG {s t:St} (h:sr s t) (pre:bo) (preB:cX) (G:List GO):sr (s.gG pre preB G) (t.gG pre preB G):=
 ⟨funext fun e=>pu (by rw [h.l]) pre,funext fun e=>Ah (by rw [h.b]) preB,rfl,h.m,h.ro,h.n⟩
theorem M0 {E:Env} {a b:bo} {x:Operand} (h:∀ t,x=.tmp t→lk a t=lk b t):bG E a x=bG E b x:=by
 cases x with
 |tmp t=>exact h t rfl
 |_=>rfl
theorem sr.bG {E:Env} {s t:St} (h:sr s t) (x:Operand):bG E s.ab x=bG E t.ab x:=M0 fun e _=>by rw [h.l]
section EF
variable {E:Env} {R:ai} {w:World} {β:Nat→Nat} {s t:St} {a:Act}
theorem aY.eqv (h:aY E R w β s a) (e:sr s t):aY E R w β t a where
 g:=by rw [← e.G]; exact h.g
 b:=⟨fun k cs hk=>h.b.box k cs (by rw [e.b]; exact hk),fun k k' c c' h1 h2=>h.b.inj k k' c c' (by rw [e.b]; exact h1) (by rw [e.b]; exact h2)⟩
 t:=fun i hi=>by
  rw [← e.l] at hi ⊢;exact h.t i hi
 n:=by rw [← e.n]; exact h.n
 d:=by rw [← e.m]; exact h.d
theorem yP {bx IX:cX} (h:dR bx=dR IX) {b:Nat} (k:Own R β bx b):Own R β IX b:=by
 rcases k with k|⟨j,cs,h1,h2⟩
 ·exact .inl k
 ·exact .inr ⟨j,cs,by rw [← h]; exact h1,h2⟩
theorem Step.eqv {R':ai} {w':World} {β':Nat→Nat} {bx IX cx cx':cX} (h:Step R w β bx R' w' β' IX) (h1:dR bx=dR cx) (h2:dR IX=dR cx'):Step R w β cx R' w' β' cx':=
 ⟨h.ext,h.os,h.tape,h.output,h.size,fun b hb hn=>h.keep b hb (fun ho=>hn (yP h1 ho)),fun b hb ho=>yP h1 (h.own b hb (yP h2.symm ho)),fun b o hi hb hn=>h.im b o hi hb (fun ho=>hn (yP h1 ho))⟩
end EF
section ops
variable {E:Env} {s t:St} {f:FuncId} {o:Oper} {K K':St→Prop}
def Inv (K:St→Prop):Prop:=∀ s t,sr s t→K s→K t
theorem Fv {op:Op} (h:vU op=true):cA op=false:=by
 cases op <;> simp_all [vU,cA]
theorem wJ (hn:s.n=t.n) (hG:s.G=t.G) (hB:dR s.boxes=dR t.boxes) (fB:∀ y∈o.op.operands,bG E s.ab y=bG E t.ab y) (h:ml E f o K s)
  (hK:∀ pre preB G,XF (cA o.op) o.dst pre→(vU o.op=true→preB=[]∧G=s.G)→K (s.gG pre preB G)→K' (t.gG pre preB G)):ml E f o K' t:=by
 unfold ml at h ⊢;split at h
 ·rename_i x args tys ho;have h1:bG E s.ab x=bG E t.ab x:=fB x (by rw [ho]; simp [aal,aaO]);have h2:nL E s.ab args.toList=nL E t.ab args.toList:=iH fun y hy=>fB y (by rw [ho]; simp [aal,aaO]; exact .inr (by simpa using hy))
  try simp only [ho]
  rw [← h1,← h2,← hG];split at h
  ·refine cZ.mono h fun r G' hk=>?_
   obtain ⟨pre,preB,G,p1,p2,p3,p4⟩:=cn.ee (s:=s) (t:=t) (al:=cA o.op) hn G' o.dst (.v r);rw [p3] at hk;rw [p4];exact hK pre preB G p1 (fun e=>by rw [ho] at e; simp [vU] at e) hk
  ·refine mR.mono h fun r G' hk=>?_
   obtain ⟨pre,preB,G,p1,p2,p3,p4⟩:=cn.ee (s:=s) (t:=t) (al:=cA o.op) hn G' o.dst (.v (.bool r));rw [p3] at hk;rw [p4];exact hK pre preB G p1 (fun e=>by rw [ho] at e; simp [vU] at e) hk
  ·exact h.elim
 ·exact h.elim
 ·split at h
  ·rename_i c s' hs;obtain ⟨t',h1,pre,preB,G,p1,p2,p3,p4⟩:=jz hn hG hB fB hs;rw [h1];obtain ⟨rfl,hk⟩:=h.out;refine eO.mk rfl ?_;rw [p3] at hk;rw [p4];exact hK pre preB G p1 (fun e=>⟨(p2 (by simp [e])).1,(p2 (by simp [e])).2.1⟩) hk
  ·exact h.elim
theorem wK (h:ml E f o K s) (hK:∀ s,K s→K' s):ml E f o K' s:=
 wJ rfl rfl rfl (fun _ _=>rfl) h fun _ _ _ _ _ hk=>hK _ hk
theorem Ai (h:ml E f o K s) (e:sr s t) (hK:Inv K):ml E f o K t:=
 wJ e.n e.G e.b (fun y _=>e.bG y) h fun _ _ _ _ _ hk=>hK _ _ (e.gG _ _ _) hk
def EG (ops:List Oper) (s:St) (o:Oper):Option Bool:=match o.guard with
 |none=>some true
 |some (j,want)=>match rE ops j with
  |some d=>match lk s.ab d with
   |.v (.bool b)=>some (b == want)
   |.v (.bP [])=>some false
   |_=>none
  |none=>none
theorem Fw (s:St) {d:Tmp} {x:SV} (h:lk s.ab d=x):sr s (s.put (some d) x):=by
 simp only [St.put];split
 ·refine ⟨funext fun e=>?_,rfl,rfl,rfl,rfl,rfl⟩;by_cases k:d=e
  ·subst k; rw [aD]; exact h
  ·rw [aT k]
 ·exact sr.refl s
theorem sr.put {s t:St} (h:sr s t) (d:Option Tmp) (x:SV):sr (s.put d x) (t.put d x):=by
 obtain ⟨pre,preB,G,_,_,p3,p4⟩:=cn.put (s:=s) (t:=t) (al:=false) (w:=false) h.n h.G d x;rw [p3,p4];exact h.gG _ _ _
theorem il {ops:List Oper} (hK:Inv K):cK E f ops o K s↔(EG ops s o=some true∧ml E f o K s)∨(EG ops s o=some false∧K (s.put o.dst (.v hZ))):=by
 unfold cK EG;cases hg:o.guard with
 |none=>simp
 |some p=>
  obtain ⟨j,want⟩:=p;simp only;cases hd:rE ops j with
  |none=>simp
  |some d=>
   simp only;cases hl:lk s.ab d with
   |none=>simp
   |lp _ _=>simp
   |v a=>
    cases a with
    |bool b=>
     have e1:b=want→sr s (s.put (some d) (.v (.bool want))):=fun e=>Fw s (by rw [hl,e])
     have e2:b=(!want)→sr s (s.put (some d) (.v (.bool (!want)))):=fun e=>Fw s (by rw [hl,e])
     constructor
     ·intro ⟨h1,h2⟩;by_cases e:b=want
      ·exact .inl ⟨by simp [e],Ai (h1 e) (e1 e).symm hK⟩
      ·have e':b=(!want):=by cases b <;> cases want <;> simp_all
       exact .inr ⟨by simp [e],hK _ _ ((e2 e').symm.put _ _) (h2 e')⟩
     ·rintro (⟨h1,h2⟩|⟨h1,h2⟩)
      ·have e:b=want:=by simpa using h1
       exact ⟨fun e=>Ai h2 (e1 e) hK,fun e'=>by subst e; cases b <;> cases e'⟩
      ·have e:¬ b=want:=by simpa using h1
       exact ⟨fun k=>absurd k e,fun e'=>hK _ _ ((e2 e').put _ _) h2⟩
    |bP vs=>cases vs <;> simp
    |_=>simp
theorem cL {ops:List Oper} (h:cK E f ops o K s) (hK:∀ s,K s→K' s):cK E f ops o K' s:=by
 unfold cK at h ⊢;split at h
 ·exact wK h hK
 ·split at h
  ·exact h.elim
  ·split at h
   ·exact ⟨fun e=>wK (h.1 e) hK,fun e=>hK _ (h.2 e)⟩
   ·exact hK _ h
   ·exact h.elim
theorem DP {ops:List Oper} (e:sr s t):EG ops s o=EG ops t o:=by
 unfold EG;rw [e.l]
theorem Fx {ops:List Oper} (hK:Inv K):Inv (cK E f ops o K):=fun s t e h=>by
 rw [il hK] at h ⊢;rcases h with ⟨h1,h2⟩|⟨h1,h2⟩
 ·exact .inl ⟨by rw [← DP e]; exact h1,Ai h2 e hK⟩
 ·exact .inr ⟨by rw [← DP e]; exact h1,hK _ _ (e.put _ _) h2⟩
end ops
end Go.Am
namespace Go.Am
open Go
def M1 (dst:Option Tmp) (s t s' t':St):Prop:=∃ x,s'=s.put dst x∧t'=t.put dst x
section
variable {E:Env} {s t:St} {o:Oper}
theorem M1.put (_:s.n=t.n) (dst:Option Tmp) (x:SV):M1 dst s t (s.put dst x) (t.put dst x):=⟨x,rfl,rfl⟩
theorem Fy {f:FuncId} {c:Bool} {s':St} (hN:vU o.op=true) (hR:UE o.op=false) (hn:s.n=t.n) (fB:∀ y∈o.op.operands,bG E s.ab y=bG E t.ab y)
  (h:ao E f s o=some (c,s')):∃ t',ao E f t o=some (c,t')∧M1 o.dst s t s' t':=by
 obtain ⟨dst,op,ty,pos,after,guard⟩:=o;cases op
 case move x=>
  simp only [ao,fB x (by simp [aal])] at h ⊢;split at h
  all_goals (injection h with h; injection h with h1 h2; subst h1 h2; (try simp only [*]); exact ⟨_,rfl,.put hn _ _⟩)
 case assign x=>
  simp only [ao,fB x (by simp [aal])] at h ⊢;split at h
  all_goals (injection h with h; injection h with h1 h2; subst h1 h2; (try simp only [*]); exact ⟨_,rfl,.put hn _ _⟩)
 case pick x y z=>
  simp only [ao,fB x (by simp [aal]),fB y (by simp [aal]),fB z (by simp [aal])] at h ⊢;split at h
  ·injection h with h; injection h with h1 h2; subst h1 h2; (try simp only [*]); exact ⟨_,rfl,.put hn _ _⟩
  ·cases h
 case build ty ps=>
  have he:pO E s ty ps.toList=pO E t ty ps.toList:=by
   unfold pO;rw [pt (fun p hp=>fB p.2 (by simp only [aal,aaL,aaR]; exact ⟨p,hp,rfl⟩))]
  simp only [ao,he] at h ⊢;split at h
  ·injection h with h; injection h with h1 h2; subst h1 h2; (try simp only [*]); exact ⟨_,rfl,.put hn _ _⟩
  ·cases h
 case buildSlice ty len ps=>
  have he:cG E s ty len ps.toList=cG E t ty len ps.toList:=by
   unfold cG;rw [pt (fun p hp=>fB p.2 (by simp only [aal,aaL,aaR]; exact ⟨p,hp,rfl⟩))]
  simp only [ao,he] at h ⊢;split at h
  ·injection h with h; injection h with h1 h2; subst h1 h2; (try simp only [*]); exact ⟨_,rfl,.put hn _ _⟩
  ·cases h
 case binOp op a x y b=>
  simp only [ao,fB x (by simp [aal]),fB y (by simp [aal])] at h ⊢
  repeat' (split at h)
  all_goals (first|(cases h; done) | skip)
  all_goals (injection h with h; injection h with h1 h2; subst h1 h2; (try simp only [*]); exact ⟨_,rfl,.put hn _ _⟩)
 case unOp op a x=>
  simp only [ao,fB x (by simp [aal])] at h ⊢
  repeat' (split at h)
  all_goals (first|(cases h; done) | skip)
  all_goals (injection h with h; injection h with h1 h2; subst h1 h2; (try simp only [*]); exact ⟨_,rfl,.put hn _ _⟩)
 case convert a b x=>simp [UE] at hR
 case nilCheck x=>
  simp only [ao,fB x (by simp [aal])] at h ⊢
  repeat' (split at h)
  all_goals (first|(cases h; done) | skip)
  all_goals (injection h with h; injection h with h1 h2; subst h1 h2; (try simp only [*]); exact ⟨_,rfl,.put hn _ _⟩)
 case makeFunc fo a b=>
  cases fo with
  |func g=>
   have h1:nL E s.ab a.toList=nL E t.ab a.toList:=iH fun y hy=>fB y (by simp only [aal,aaM]; exact .inl (by simpa using hy))
   have h2:nL E s.ab b.toList=nL E t.ab b.toList:=iH fun y hy=>fB y (by simp only [aal,aaM]; exact .inr (by simpa using hy))
   simp only [ao,h1,h2] at h ⊢
   repeat' (split at h)
   all_goals (first|(cases h; done) | skip)
   all_goals (injection h with h; injection h with h1 h2; subst h1 h2; (try simp only [*]); exact ⟨_,rfl,.put hn _ _⟩)
  |_=>simp [ao] at h
 case fieldAddr a x j=>
  simp only [ao,fB x (by simp [aal])] at h ⊢
  repeat' (split at h)
  all_goals (first|(cases h; done) | skip)
  all_goals (injection h with h; injection h with h1 h2; subst h1 h2; (try simp only [*]); exact ⟨_,rfl,.put hn _ _⟩)
 case field a x j=>
  simp only [ao,fB x (by simp [aal])] at h ⊢
  repeat' (split at h)
  all_goals (first|(cases h; done) | skip)
  all_goals (injection h with h; injection h with h1 h2; subst h1 h2; (try simp only [*]); exact ⟨_,rfl,.put hn _ _⟩)
 case indexAddr a x y=>
  simp only [ao,fB x (by simp [aal]),fB y (by simp [aal])] at h ⊢
  repeat' (split at h)
  all_goals (first|(cases h; done) | skip)
  all_goals (injection h with h; injection h with h1 h2; subst h1 h2; (try simp only [*]); exact ⟨_,rfl,.put hn _ _⟩)
 case index a x y=>
  simp only [ao,fB x (by simp [aal]),fB y (by simp [aal])] at h ⊢
  repeat' (split at h)
  all_goals (first|(cases h; done) | skip)
  all_goals (injection h with h; injection h with h1 h2; subst h1 h2; (try simp only [*]); exact ⟨_,rfl,.put hn _ _⟩)
 case slice a x lo hi mx=>
  have h1:nN E s.ab lo=nN E t.ab lo:=by
   cases lo with
   |none=>rfl
   |some y=>simp only [nN]; rw [fB y (by simp [aal])]
  have h2:nN E s.ab hi=nN E t.ab hi:=by
   cases hi with
   |none=>rfl
   |some y=>simp only [nN]; rw [fB y (by simp [aal])]
  simp only [ao,fB x (by simp [aal]),h1,h2] at h ⊢
  repeat' (split at h)
  all_goals (first|(cases h; done) | skip)
  all_goals (injection h with h; injection h with h1 h2; subst h1 h2; (try simp only [*]); exact ⟨_,rfl,.put hn _ _⟩)
 case extract x i=>
  simp only [ao,fB x (by simp [aal])] at h ⊢
  repeat' (split at h)
  all_goals (first|(cases h; done) | skip)
  all_goals (injection h with h; injection h with h1 h2; subst h1 h2; (try simp only [*]); exact ⟨_,rfl,.put hn _ _⟩)
 all_goals (first|(simp [vU] at hN; done) | (simp [UE] at hR; done))
end
end Go.Am
namespace Go.Am
open Go
section
variable {E:Env} {s t:St} {f:FuncId} {ops:Array Oper} {o oj oi:Oper} {d:Tmp} {x:SV} {K:St→Prop}
theorem M2 (ops:Array Oper) (j:Nat):rE ops.toList j=(ops[j]?).bind (·.dst):=by
 unfold rE;rw [aN,Array.getElem?_toList];cases ops[j]? <;> rfl
theorem qd {e:Tmp} (h:.tmp e∈o.op.operands):e∈o.looksAt ops:=
 List.mem_append_left _ (List.mem_filterMap.2 ⟨.tmp e,by simpa using h,rfl⟩)
theorem lI {j:Nat} {want:Bool} {e:Tmp} (h:o.guard=some (j,want)) (he:rE ops.toList j=some e):e∈o.looksAt ops:=by
 rw [M2] at he;refine List.mem_append_right _ ?_;rw [h];simp [he]
theorem mS (h:∀ e∈o.looksAt ops,lk s.ab e=lk t.ab e):∀ y∈o.op.operands,bG E s.ab y=bG E t.ab y:=fun _ hy=>
 M0 fun e he=>h e (qd (he ▸ hy))
theorem mF (h:∀ e∈o.looksAt ops,lk s.ab e=lk t.ab e):EG ops.toList s o=EG ops.toList t o:=by
 unfold EG;split
 ·rfl
 ·rename_i j want hg;split
  ·rename_i e he;rw [h e (lI hg he)]
  ·rfl
theorem yQ (s:St) (d:Tmp) (x:SV) {e:Nat} (h:d≠e):lk (s.put (some d) x).ab e=lk s.ab e:=by
 simp only [St.put];split
 ·exact aT h
 ·rfl
theorem iq (s:St) (d:Option Tmp) (x:SV):(s.put d x).boxes=s.boxes∧(s.put d x).G=s.G∧(s.put d x).n=s.n∧(s.put d x).marks=s.marks∧(s.put d x).ro=s.ro:=by
 cases d with
 |none=>exact ⟨rfl,rfl,rfl,rfl,rfl⟩
 |some d=>
  simp only [St.put];split <;> exact ⟨rfl,rfl,rfl,rfl,rfl⟩
def Aj (E:Env) (f:FuncId) (ops:Array Oper) (o:Oper) (s:St) (x:SV):Prop:=
 (EG ops.toList s o=some true∧ao E f s o=some (true,s.put o.dst x))∨(EG ops.toList s o=some false∧x=.v hZ)
theorem M3 {c:Bool} {s':St} (hN:vU o.op=true) (h:ao E f s o=some (c,s')):∃ x,s'=s.put o.dst x:=by
 obtain ⟨t',_,pre,preB,G,_,h2,_,_⟩:=jz (t:=s) rfl rfl rfl (fun _ _=>rfl) h;obtain ⟨_,_,x,hx,_⟩:=h2 (by simp [hN]);exact ⟨x,hx⟩
theorem M4 (hN:vU o.op=true):ml E f o K s↔∃ s',ao E f s o=some (true,s')∧K s':=by
 unfold ml;split
 ·rename_i h;rw [h] at hN;simp [vU] at hN
 ·rename_i h;rw [h] at hN;simp [vU] at hN
 ·split
  ·rename_i c s' hs;constructor
   ·intro h;obtain ⟨rfl,hk⟩:=h.out;exact ⟨s',hs,hk⟩
   ·rintro ⟨DF,h1,h2⟩;rw [hs] at h1;cases h1;exact eO.mk rfl h2
  ·rename_i hs;constructor
   ·exact fun h=>h.elim
   ·rintro ⟨DF,h1,_⟩;rw [hs] at h1;cases h1
theorem Ak (hN:vU o.op=true) (hK:Inv K) (h:cK E f ops.toList o K s):∃ x,Aj E f ops o s x∧K (s.put o.dst x):=by
 rcases (il hK).1 h with ⟨h1,h2⟩|⟨h1,h2⟩
 ·obtain ⟨s',h3,h4⟩:=(M4 hN).1 h2;obtain ⟨x,rfl⟩:=M3 hN h3;exact ⟨x,.inl ⟨h1,h3⟩,h4⟩
 ·exact ⟨_,.inr ⟨h1,rfl⟩,h2⟩
theorem Al (hN:vU o.op=true) (hK:Inv K) (hx:Aj E f ops o s x) (h:K (s.put o.dst x)):cK E f ops.toList o K s:=by
 rw [il hK];rcases hx with ⟨h1,h2⟩|⟨h1,rfl⟩
 ·exact .inl ⟨h1,(M4 hN).2 ⟨_,h2,h⟩⟩
 ·exact .inr ⟨h1,h⟩
def HQ (E:Env) (f:FuncId) (ops:List Oper) (o:Oper) (s:St):Prop:=match EG ops s o with
 |some true=>match o.dst,ao E f s o with
  |some d,some (c,s')=>c=true∧lk s'.ab d=lk s.ab d
  |_,_=>False
 |some false=>True
 |none=>False
theorem PS (hN:vU o.op=true) (hd:d∉o.looksAt ops) (cq:o.dst≠some d) (he:∀ e,d≠e→lk s.ab e=lk t.ab e) (hB:dR s.boxes=dR t.boxes) (hG:s.G=t.G) (hn:s.n=t.n)
  (h:HQ E f ops.toList o s):HQ E f ops.toList o t:=by
 have hl:∀ e∈o.looksAt ops,lk s.ab e=lk t.ab e:=fun e hm=>he e fun k=>hd (k ▸ hm)
 unfold HQ at h ⊢;rw [← mF hl];split
 ·rename_i hg;rw [hg] at h;simp only at h;split at h
  ·rename_i e c s' KT hs;obtain ⟨t',h3,pre,preB,G,_,h4,_,_⟩:=jz hn hG hB (mS hl) hs;obtain ⟨_,_,y,h5,h6⟩:=h4 (by simp [hN]);rw [KT,h3];refine ⟨h.1,?_⟩;have hde:d≠e:=fun k=>cq (by rw [KT,k])
   have h7:=h.2;rw [h5,KT] at h7;rw [h6,KT,← he e hde];simp only [St.put,← hn] at h7 ⊢;split
   ·rename_i hb;rw [hb] at h7;simp only [aD] at h7 ⊢;exact h7
   ·exact (he e hde).symm
  ·exact h.elim
 ·trivial
 ·rename_i hg;rw [hg] at h;exact h
theorem PT (hN:vU o.op=true) (e:sr s t) (h:HQ E f ops.toList o s):HQ E f ops.toList o t:=by
 unfold HQ at h ⊢;rw [← DP e];split
 ·rename_i hg;rw [hg] at h;simp only at h;split at h
  ·rename_i d c s' KT hs;obtain ⟨t',h3,pre,preB,G,_,h4,_,_⟩:=jz e.n e.G e.b (fun y _=>e.bG y) hs;obtain ⟨_,_,y,h5,h6⟩:=h4 (by simp [hN]);rw [KT,h3];refine ⟨h.1,?_⟩;rw [h6,← (e.put o.dst y).l,← h5,← e.l];exact h.2
  ·exact h.elim
 ·trivial
 ·rename_i hg;rw [hg] at h;exact h
def lg (oj oi:Oper):Bool:=cA oi.op || (UE oj.op&&!vU oi.op)
theorem M5 {al:Bool} {dst:Option Tmp} {pre:bo} (h:XF al dst pre) {e:Nat} (he:dst≠some e) (l:bo):lk (pre++l) e=lk l e∨(al=true∧∃ k off,lk l e=.lp k off):=by
 rcases h with rfl|⟨d,y,rfl,rfl|⟨rfl,rfl⟩⟩
 ·exact .inl rfl
 ·exact .inl (aT fun k=>he (by rw [k]))
 ·simp only [aax,List.nil_append];rw [aT (fun k=>he (by rw [k]))];simp only [lk];cases hl:lk l e with
  |lp k off=>exact .inr ⟨trivial,k,off,rfl⟩
  |_=>exact .inl rfl
theorem uY {al:Bool} {pre:bo} (preB:cX) (G:List GO) (h:XF al oi.dst pre) (cq:oi.dst≠some d) (hx:al=false∨∃ a,x=.v a):sr ((s.put (some d) x).gG pre preB G) ((s.gG pre preB G).put (some d) x):=by
 have hb:∀ b,aaI d s.n=b→sr ((s.put (some d) x).gG pre preB G) ((s.gG pre preB G).put (some d) x):=fun b hb=>by
  have kX:aaI d (s.gG pre preB G).n=b:=hb;rw [od,od,hb,kX];cases b with
  |false=>exact sr.refl _
  |true=>
   refine ⟨funext fun e=>?_,rfl,rfl,rfl,rfl,rfl⟩;simp only [cond_true,St.gG,aax,List.nil_append];by_cases k:d=e
   ·subst k;rw [aD];rcases M5 h cq (.put d x :: s.ab) with h1|⟨h1,k,off,h2⟩
    ·rw [h1,aD]
    ·rw [aD] at h2;rcases hx with hx|⟨a,hx⟩
     ·rw [hx] at h1; cases h1
     ·rw [hx] at h2; cases h2
   ·rw [aT k];exact pu (aT k) pre
 exact hb _ rfl
theorem KU (hN:vU oj.op=true) (Ji:oj.dst=some d) (Fz:d∉oj.looksAt ops) (O5:oj.apart ops oi=true) (hK:Inv K) (hx:Aj E f ops oj s x) {pre:bo} {preB:cX} {G:List GO}
  (FA:XF (cA oi.op) oi.dst pre) (YN:vU oi.op=true→preB=[]∧G=s.G) (hk:K ((s.put (some d) x).gG pre preB G)) (Uh:∀ t',K t'→lg oj oi=true→HQ E f ops.toList oj t') :
  ∃ x',Aj E f ops oj (s.gG pre preB G) x'∧K ((s.gG pre preB G).put (some d) x'):=by
 obtain ⟨_,cq,uG⟩:=Oper.apart_spec O5;have E1:oi.dst≠some d:=cq d Ji;have uZ:∀ e∈oj.looksAt ops,oi.dst≠some e:=fun e he k=>uG e k he
 have xq:∀ e∈oj.looksAt ops,(cA oi.op=false∨∃ b,lk s.ab e=.v b)→lk s.ab e=lk (s.gG pre preB G).ab e:=fun e he ha=>by
  rcases M5 FA (uZ e he) s.ab with h1|⟨h1,k,off,h2⟩
  ·exact h1.symm
  ·rcases ha with ha|⟨b,ha⟩
   ·rw [ha] at h1; cases h1
   ·rw [ha] at h2; cases h2
 have PU:∀ b,EG ops.toList s oj=some b→EG ops.toList (s.gG pre preB G) oj=some b:=fun b hb=>by
  unfold EG at hb ⊢;split
  ·rename_i hg; rw [hg] at hb; exact hb
  ·rename_i j want hg;rw [hg] at hb;simp only at hb;split
   ·rename_i e he;rw [he] at hb;simp only at hb;split at hb
    ·rename_i b' hl;have:=xq e (lI hg he) (.inr ⟨_,hl⟩);rw [← this,hl];exact hb
    ·rename_i hl;have:=xq e (lI hg he) (.inr ⟨_,hl⟩);rw [← this,hl];exact hb
    ·cases hb
   ·rename_i he; rw [he] at hb; cases hb
 rcases hx with ⟨h1,h2⟩|⟨h1,rfl⟩
 ·rw [Ji] at h2;by_cases aca:lg oj oi=true
  ·have hr:=Uh _ hk aca
   -- the state with the slot, and the one without it
   have wy:∀ e,d≠e→lk ((s.put (some d) x).gG pre preB G).ab e=lk (s.gG pre preB G).ab e:=fun e he=>pu (yQ s d x he) pre
   have hB:dR ((s.put (some d) x).gG pre preB G).boxes=dR (s.gG pre preB G).boxes:=by
    simp only [St.gG]; rw [(iq s _ x).1]
   have hn:((s.put (some d) x).gG pre preB G).n=(s.gG pre preB G).n:=(iq s _ x).2.2.1;have O9:∀ e∈oj.looksAt ops,lk ((s.put (some d) x).gG pre preB G).ab e=lk (s.gG pre preB G).ab e:=fun e he=>wy e fun k=>Fz (k ▸ he)
   have hg2:EG ops.toList ((s.put (some d) x).gG pre preB G) oj=some true:=by rw [mF O9]; exact PU _ h1
   unfold HQ at hr;rw [hg2] at hr;simp only [Ji] at hr;split at hr
   ·rename_i d' c s' I0 hs;cases I0;obtain ⟨rfl,hr⟩:=hr;obtain ⟨t',h3,p,pB,G2,_,h4,_,_⟩:=jz (t:=s.gG pre preB G) hn rfl hB (mS O9) hs;obtain ⟨_,_,y,h5,h6⟩:=h4 (by simp [hN]);rw [h6] at h3;rw [h5,Ji] at hr;refine ⟨y,.inl ⟨PU _ h1,h3⟩,hK _ _ ?_ hk⟩;have hmr:((s.put (some d) x).gG pre preB G).marks=(s.gG pre preB G).marks∧((s.put (some d) x).gG pre preB G).ro=(s.gG pre preB G).ro:=(iq s _ x).2.2.2;obtain ⟨q1,q2,q3,q4,q5⟩:=iq (s.gG pre preB G) (some d) y;refine ⟨funext fun e=>?_,by rw [q1]; exact hB,by rw [q2]; rfl,by rw [q4]; exact hmr.1,by rw [q5]; exact hmr.2,by rw [q3]; exact hn⟩;by_cases k:d=e
    ·subst k;rw [← hr];have hb:∀ b,aaI d s.n=b→lk (((s.put (some d) x).gG pre preB G).put (some d) y).ab d=lk ((s.gG pre preB G).put (some d) y).ab d:=fun b hb=>by
      have UF:aaI d (s.gG pre preB G).n=b:=hb;have Jj:aaI d ((s.put (some d) x).gG pre preB G).n=b:=by rw [hn]; exact hb
      rw [od _ d y,od _ d y,UF,Jj];cases b with
      |true=>simp [St.gG,aD]
      |false=>
       simp only [cond_false];rw [od,hb];rfl
     exact hb _ rfl
    ·rw [yQ _ _ _ k];exact wy e k
   ·exact hr.elim
  ·have KV:cA oi.op=false:=by cases ha:cA oi.op <;> simp_all [lg]
   have hl:∀ e∈oj.looksAt ops,lk s.ab e=lk (s.gG pre preB G).ab e:=fun e he=>xq e he (.inl KV)
   have fin:∀ y,s.put (some d) x=s.put (some d) y→ao E f (s.gG pre preB G) oj=some (true,(s.gG pre preB G).put oj.dst y) →
     ∃ x',Aj E f ops oj (s.gG pre preB G) x'∧K ((s.gG pre preB G).put (some d) x'):=fun y hy hs=>by
    refine ⟨y,.inl ⟨PU _ h1,hs⟩,hK _ _ (uY (oi:=oi) preB G FA E1 (.inl KV)) ?_⟩;rw [← hy];exact hk
   cases hNo:vU oi.op with
   |true=>
    obtain ⟨rfl,rfl⟩:=YN hNo;obtain ⟨t',h3,p,pB,G2,_,h4,_,_⟩:=jz (s:=s) (t:=s.gG pre [] s.G) rfl rfl rfl (mS hl) h2;obtain ⟨_,_,y,h5,h6⟩:=h4 (by simp [hN]);rw [Ji] at h5;exact fin y h5 (by rw [h3,h6])
   |false=>
    have hR:UE oj.op=false:=by cases ha:UE oj.op <;> simp_all [lg]
    obtain ⟨t',h3,y,h5,h6⟩:=Fy (s:=s) (t:=s.gG pre preB G) hN hR rfl (mS hl) h2;rw [Ji] at h5;exact fin y h5 (by rw [h3,h6])
 ·exact ⟨_,.inr ⟨PU _ h1,rfl⟩,hK _ _ (uY (oi:=oi) preB G FA E1 (.inr ⟨_,rfl⟩)) hk⟩
end
end Go.Am
