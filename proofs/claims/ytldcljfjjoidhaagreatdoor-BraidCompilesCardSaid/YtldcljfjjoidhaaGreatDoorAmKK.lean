/- The abstract machine: the evaluator is sound. -/
import Derived.Test.YtldcljfjjoidhaaGreatDoorAmKJ
import GoSem.ClaimJoined
import Derived.Below
import Derived.ChangeSame
import Derived.Carry
import Derived.RowKit
import Derived.FnData
import Derived.Lib.Builder
import Derived.Lib.UnsafeStr
import Derived.Shelf.Strings.Builder1
import Derived.IntWalk
set_option linter.all false
namespace Go.Am
open Go
section
variable {C:fw} {ih:Ye}
def uE (C:fw) (ih:Ye):Prop:=∀ (f:FuncId) (p:Nat) (c:Code) (X:Type) (fO:Option X→Option X→Option X),vJ fO→∀ (K:Exit→St→Option X) (s:St) (x:X),
 bL (C.D.dt f) c=true→ih f p c X fO K s=some x→mM C.D.toEnv c (fun e s'=>K e s'=some x) s
theorem r8 {X:Type}:vJ (CC (X:=X)):=fun a b x h=>by
 unfold CC at h
 by_cases e:a=b
 ·rw [if_pos e] at h
  exact ⟨h,e ▸ h⟩
 ·rw [if_neg e] at h
  cases h
theorem pT (hs:uE C ih) {X:Type} {fO:Option X→Option X→Option X} (hm:vJ fO):ol C.D.toEnv (DE C ih fO):=fun g args G K x h=>by
 unfold DE at h
 obtain ⟨eD,h⟩:=bq h
 split at h
 ·rename_i fn Yf
  split at h
  ·rename_i b hb
   obtain ⟨hn,h⟩:=bq h
   have fin:∀ {K':AV→List GO→Option X},ih g 1 b X fO (K0 C.D.toEnv fn K') (St.init fn.ntmps args G)=some x→cB C.D.toEnv g args G (fun r G'=>K' r G'=some x):=by
    intro K' h
    refine cB.intro Yf hb (by simpa using hn) ((hs g 1 b X fO hm _ _ x (C.D.Tk g fn b eD Yf hb) h).mono fun e s' hq=>?_)
    have hq:=hq.1
    unfold K0 at hq
    unfold Th
    cases e <;> first | (cases hq; done) | skip
    all_goals (simp only at hq ⊢)
    all_goals (split at hq <;> first | (cases hq; done) | skip)
    all_goals (rename_i hl; rw [hl]; simp only)
    all_goals (split at hq <;> first | (cases hq; done) | skip)
    all_goals (rename_i s9; rw [s9]; exact hq)
   cases hfz:C.D.zU g 131072 with
   | true=>rw [hfz] at h; exact cB.frz (fin h)
   | false=>rw [hfz] at h; exact fin h
  ·cases h
 ·cases h
theorem DH (Ci:∀ g e,C.zS g=some e→ak C.D.toEnv g e) (hs:uE C ih) {X:Type} {fO:Option X→Option X→Option X} (hm:vJ fO):ol C.D.toEnv (DF C ih fO):=fun g args G K x h=>by
 unfold DF at h
 split at h
 ·rename_i e he
  obtain ⟨a,ha,h⟩:=bind_some h
  obtain ⟨y,hy,h⟩:=bind_some h
  refine cB.ia (e.ps.rK ha).1 (((Ci g e he a y hy) G).mono fun r G' hr=>?_)
  obtain ⟨rfl,rfl⟩:=hr
  exact h
 ·split at h
  ·rename_i e he
   split at h
   ·rename_i c r G' hf
    obtain ⟨hc,h⟩:=bq h
    subst hc
    refine (e.ok args G r G' hf).mono fun r' A6 hh=>?_
    obtain ⟨rfl,rfl⟩:=hh
    exact h
   ·cases h
  ·split at h
   ·rename_i e he
    obtain ⟨a,ha,h⟩:=bind_some h
    obtain ⟨y,hy,h⟩:=bind_some h
    refine cB.ia (e.ps.rK ha).1 ((e.ok a y hy G).mono fun r G' hr=>?_)
    obtain ⟨z,rfl,hr⟩:=hr
    exact (DD e.outs z hr).trans h
   ·exact pT hs hm g args G K x h
theorem DI {n:Nat}:∀ {l:List Tmp},O2 n l=true→∀ t∈l,t < n
 | [],_,t,ht=>by simp at ht
 | a :: l,h,t,ht=>by
  simp only [O2,Bool.and_eq_true] at h
  rcases List.mem_cons.1 ht with rfl | ht
  ·exact ku h.1
  ·exact DI h.2 t ht
theorem Ga (hs:uE C ih) {X:Type} {fO:Option X→Option X→Option X} (hm:vJ fO):vK C.D.toEnv (O3 C ih fO):=fun id args G K x h=>by
 unfold O3 at h
 split at h
 ·rename_i p fp sl n ps sX bd d hG
  obtain ⟨hc,h⟩:=bq h
  simp only [Bool.and_eq_true] at hc
  obtain ⟨⟨⟨h1,h2⟩,h3⟩,h4⟩:=hc
  refine li.intro hG (Nat.eq_of_beq_eq_true h1) (DI h2) ((hs _ _ sX X fO hm _ _ x h3 h).mono fun e s1 hq=>?_)
  have hq:=hq.1
  unfold B6
  cases e with
  | normal=>
   simp only at hq ⊢
   split at hq
   ·rename_i p' fn X7 n' Zt OW Yb d' hG1
    rw [hG1]
    simp only
    refine (hs _ _ bd X fO hm _ _ x h4 hq).mono fun e2 s2 pf=>?_
    have pf:F6 id K e2 s2=some x:=pf.1
    unfold F6 at pf
    unfold F0
    split at pf
    ·rename_i Zi
     rw [Zi]
     cases e2 <;> first | (cases pf; done) | exact pf
    ·cases pf
   ·cases hq
  | _=>cases hq
 ·cases h
theorem mM.of {E:Env} {c:Code} {Q Q':Exit→St→Prop} {s:St} (h:mM E c Q s) (hq:∀ e s',Q e s'→aY s s'→Q' e s'):gE E c Q' s:=
 gE.mono h fun e s' hh=>hq e s' hh.1 hh.2
theorem tk {s s':St} {e:Exit}:∀ {outs:List (XK × cO)} {o:JT outs},lV s outs e s'=some o→∃ (t:cO) (v:t.ps.T),t.dec s s'=some v∧∀ (α:Type) (K:Exit→St→α),Og s outs o K=K e (t.st s v)
 | [],o,h=>by cases h
 | [x],o,h=>by
  obtain ⟨h1,h2⟩:=bq (show (bif x.1.is e then x.2.dec s s' else none)=some o from h)
  exact ⟨x.2,o,h2,fun _ K=>by rw [XK.Hi h1]; rfl⟩
 | x :: y :: l,o,h=>by
  have h:(bif x.1.is e then (x.2.dec s s').bind fun v=>some (.inl v) else (lV s (y :: l) e s').bind fun o=>some (.inr o))=some o:=h
  cases hx:x.1.is e with
  | true=>
   rw [hx] at h
   obtain ⟨v,h1,h2⟩:=bind_some h
   cases h2
   exact ⟨x.2,v,h1,fun _ K=>by rw [XK.Hi hx]; rfl⟩
  | false=>
   rw [hx] at h
   obtain ⟨v,h1,h2⟩:=bind_some h
   cases h2
   obtain ⟨t,u,k1,k2⟩:=tk h1
   exact ⟨t,u,k1,fun α K=>k2 α K⟩
theorem cO.r9 (t:cO) (s:St) (v:t.ps.T):aY s (t.st s v):=by
 have h1:∀ (W:List Tmp) (b:bj),∃ pre,yD W b=pre++b:=fun W b=>by
  induction W with
  | nil=>exact ⟨[],rfl⟩
  | cons t W ih=>obtain ⟨p,hp⟩:=ih; exact ⟨.put t .none :: p,by simp [yD,hp]⟩
 have h2:∀ (ts:List Tmp) (l:List AV) (b:bj),∃ pre,pK ts l b=pre++b:=fun ts=>by
  induction ts with
  | nil=>intro l b; exact ⟨[],by cases l <;> rfl⟩
  | cons t ts ih=>
   intro l b
   cases l with
   | nil=>exact ⟨[],rfl⟩
   | cons a l=>obtain ⟨p,hp⟩:=ih l b; exact ⟨.put t (.v a) :: p,by simp [pK,hp]⟩
 have h3:∀ (bx:List (Nat × Nat)) (l:List AV) (b:cP),∃ pre,vF bx l b=pre++b:=fun bx=>by
  induction bx with
  | nil=>intro l b; exact ⟨[],rfl⟩
  | cons x bx ih=>
   obtain ⟨k,n⟩:=x
   intro l b
   obtain ⟨p,hp⟩:=ih (l.drop n) b
   exact ⟨(k,l.take n) :: p,by simp [vF,hp]⟩
 have h4:∀ (l:List (Tmp × Nat × Nat)) (b:bj),∃ pre,pL l b=pre++b:=fun l b=>by
  induction l with
  | nil=>exact ⟨[],rfl⟩
  | cons x l ih=>obtain ⟨t,k,o⟩:=x; obtain ⟨p,hp⟩:=ih; exact ⟨.put t (.lp k o) :: p,by simp [pL,hp]⟩
 obtain ⟨p1,e1⟩:=h1 t.W s.ae
 obtain ⟨p2,e2⟩:=h2 t.sl (t.qS v) (yD t.W s.ae)
 obtain ⟨p3,e3⟩:=h3 t.bx ((t.qS v).drop t.sl.length) s.boxes
 obtain ⟨p4,e4⟩:=h4 t.X9 (p2++(p1++s.ae))
 exact ⟨⟨p4++(p2++p1),by rw [show (t.st s v).ae=pL t.X9 (pK t.sl (t.qS v) (yD t.W s.ae)) from rfl,e2,e1,e4,List.append_assoc,List.append_assoc]⟩,⟨p3,e3⟩,rfl⟩
theorem gE.ZE {E:Env} {c:Code} {s s1:St} {gh:List (Loc × Nat × TypeId)} {head:cO} {outs:List (XK × cO)} {rd:head.ps.T→Option (head.ps.T ⊕ JT outs)} {N:Nat} {v0:head.ps.T} {o:JT outs} {Q:Exit→St→Prop}
  (hg:Am.iI gh s=some s1) (h0:head.dec s1 s1=some v0) (hr:∀ v r,rd v=some r→mM E c (fun e s'=>vI s1 head outs e s'=some r) (head.st s1 v))
  (hl:aL rd N v0=some o) (hQ:∀ (t:cO) (v:t.ps.T) (e:Exit),(∀ (α:Type) (K:Exit→St→α),Og s1 outs o K=K e (t.st s1 v))→Q e (t.st s1 v)∧aY s (t.st s1 v)) :
  mM E (.loop c) Q s:=fun R0 w β a F ZF N9=>by
 obtain ⟨R,k1,k2,k3,_⟩:=lh ZF hg
 have hf:bY R s1.ro F:=by rw [k3]; exact N9.mono k2.ext
 obtain ⟨i1,i2⟩:=cO.AW (aY.refl s1) k1 k1 (Step.refl R w β s1.boxes) h0
 refine nW (fun m a' w'=>∃ v R' β',aL rd m v=some o∧bo E R' w' β' (head.st s1 v) a'∧Step R w β s1.boxes R' w' β' (head.st s1 v).boxes) ?_ ⟨v0,_,β,hl,i1,i2⟩
 rintro m a' w' ⟨v,R',β',hm,kQ,lT⟩
 cases m with
 | zero=>cases hm
 | succ m=>
  obtain ⟨r,h1,h2⟩:=bind_some (show ((rd v).bind fun o=>Sum.elim (fun v'=>aL rd m v') (fun x=>some x) o)=some o from hm)
  refine wpIn_mono (hr v r h1 R' w' β' a' F kQ (hf.mono lT.ext)) ?_
  rintro e a2 w2 ⟨s2,R2,β2,⟨hK,hx⟩,C5,K7,IR⟩
  have JK:aY s1 s2:=(head.r9 s1 v).trans hx
  have st2:=lT.trans K7
  have out:∀ {u:JT outs},lV s1 outs e s2=some u→r=.inr u→Zd E R0 w β s (fun e s'=>Q e s'∧aY s s') e a2 w2:=fun {u} hu hru=>by
   subst hru
   cases h2
   obtain ⟨t,v',q1,q2⟩:=tk hu
   obtain ⟨j1,j2⟩:=cO.AW JK k1 C5 st2 q1
   exact ⟨t.st s1 v',_,β2,hQ t v' e q2,j1,k2.trans j2,k3⟩
  cases e with
  | normal=>
   obtain ⟨v',q1,q2⟩:=bind_some (show ((head.dec s1 s2).bind fun v=>some (.inl v))=some r from hK)
   cases q2
   obtain ⟨j1,j2⟩:=cO.AW JK k1 C5 st2 q1
   exact ⟨m,Nat.lt_succ_self m,v',_,β2,h2,j1,j2⟩
  | exit i=>obtain ⟨u,q1,q2⟩:=bind_some (show ((lV s1 outs (.exit i) s2).bind fun o=>some (.inr o))=some r from hK); exact out q1 (Option.some.inj q2).symm
  | ret=>obtain ⟨u,q1,q2⟩:=bind_some (show ((lV s1 outs .ret s2).bind fun o=>some (.inr o))=some r from hK); exact out q1 (Option.some.inj q2).symm
  | goto i=>obtain ⟨u,q1,q2⟩:=bind_some (show ((lV s1 outs (.goto i) s2).bind fun o=>some (.inr o))=some r from hK); exact out q1 (Option.some.inj q2).symm
  | panic i=>obtain ⟨u,q1,q2⟩:=bind_some (show ((lV s1 outs (.panic i) s2).bind fun o=>some (.inr o))=some r from hK); exact out q1 (Option.some.inj q2).symm
  | outgrown=>obtain ⟨u,q1,q2⟩:=bind_some (show ((lV s1 outs .outgrown s2).bind fun o=>some (.inr o))=some r from hK); exact out q1 (Option.some.inj q2).symm
theorem gE.Vd {E:Env} {c:Code} {s s1:St} {gh:List (Loc × Nat × TypeId)} {head:cO} {outs:List (XK × cO)} {rd:(head.ps.T→Option (JT outs))→head.ps.T→Option (JT outs)} {N:Nat} {v0:head.ps.T} {o:JT outs} {Q:Exit→St→Prop}
  (hg:Am.iI gh s=some s1) (h0:head.dec s1 s1=some v0) (hr:∀ k v u,rd k v=some u→mM E c (fun e s'=>K3 s1 head outs k e s'=some u) (head.st s1 v))
  (hl:nq rd N v0=some o) (hQ:∀ (t:cO) (v:t.ps.T) (e:Exit),(∀ (α:Type) (K:Exit→St→α),Og s1 outs o K=K e (t.st s1 v))→Q e (t.st s1 v)∧aY s (t.st s1 v)) :
  mM E (.loop c) Q s:=fun R0 w β a F ZF N9=>by
 obtain ⟨R,k1,k2,k3,_⟩:=lh ZF hg
 have hf:bY R s1.ro F:=by rw [k3]; exact N9.mono k2.ext
 obtain ⟨i1,i2⟩:=cO.AW (aY.refl s1) k1 k1 (Step.refl R w β s1.boxes) h0
 refine nW (fun m a' w'=>∃ v R' β',nq rd m v=some o∧bo E R' w' β' (head.st s1 v) a'∧Step R w β s1.boxes R' w' β' (head.st s1 v).boxes) ?_ ⟨v0,_,β,hl,i1,i2⟩
 rintro m a' w' ⟨v,R',β',hm,kQ,lT⟩
 cases m with
 | zero=>cases hm
 | succ m=>
  refine wpIn_mono (hr (nq rd m) v o hm R' w' β' a' F kQ (hf.mono lT.ext)) ?_
  rintro e a2 w2 ⟨s2,R2,β2,⟨hK,hx⟩,C5,K7,IR⟩
  have JK:aY s1 s2:=(head.r9 s1 v).trans hx
  have st2:=lT.trans K7
  have out:lV s1 outs e s2=some o→Zd E R0 w β s (fun e s'=>Q e s'∧aY s s') e a2 w2:=fun hu=>by
   obtain ⟨t,v',q1,q2⟩:=tk hu
   obtain ⟨j1,j2⟩:=cO.AW JK k1 C5 st2 q1
   exact ⟨t.st s1 v',_,β2,hQ t v' e q2,j1,k2.trans j2,k3⟩
  cases e with
  | normal=>
   obtain ⟨v',q1,q2⟩:=bind_some (show (head.dec s1 s2).bind (nq rd m)=some o from hK)
   obtain ⟨j1,j2⟩:=cO.AW JK k1 C5 st2 q1
   exact ⟨m,Nat.lt_succ_self m,v',_,β2,q2,j1,j2⟩
  | exit i=>exact out hK
  | ret=>exact out hK
  | goto i=>exact out hK
  | panic i=>exact out hK
  | outgrown=>exact out hK
end
def rE (E:Env):List Bool→Code→(Exit→St→Prop)→St→Prop
 | [],_,Q,s=>Q .normal s
 | true :: k,.seq x y,Q,s=>mM E x (vx (rE E k y Q) Q) s
 | false :: k,.seq x _,Q,s=>rE E k x Q s
 | _ :: _,_,_,_=>False
def lB (E:Env):List Bool→Code→(Exit→St→Prop)→St→Prop
 | [],c,Q,s=>mM E c Q s
 | true :: k,.seq _ y,Q,s=>lB E k y Q s
 | false :: k,.seq x y,Q,s=>lB E k x (vx (mM E y Q) Q) s
 | _ :: _,_,_,_=>False
def Hq (F:Fence) (P:Program):List Bool→Code→(Exit→Act→World→Prop)→Act→World→Prop
 | [],c,Q,a,w=>c.wpIn F 0 P Q a w
 | true :: k,.seq _ y,Q,a,w=>Hq F P k y Q a w
 | false :: k,.seq x y,Q,a,w=>Hq F P k x (Exit.then (fun a' w'=>y.wpIn F 0 P Q a' w') Q) a w
 | _ :: _,_,_,_,_=>False
section rot
variable {E:Env} {s1:St} {R:an} {w:World} {β:Nat→Nat} {F:Fence}
def At (E:Env) (s1:St) (R:an) (w:World) (β:Nat→Nat) (s:St) (a:Act) (w':World):Prop:=
 ∃ R' β',aY s1 s∧bo E R' w' β' s a∧Step R w β s1.boxes R' w' β' s.boxes∧s.ro=s1.ro
theorem mM.at {c:Code} {Q:Exit→St→Prop} {s:St} {a:Act} {w':World} {Φ:Exit→Act→World→Prop} (hf:bY R s1.ro F) (h:mM E c Q s) (oJ:At E s1 R w β s a w') (hQ:∀ e s' a' w',Q e s'→At E s1 R w β s' a' w'→Φ e a' w'):c.wpIn F 0 E.P Φ a w':=by
 obtain ⟨R',β',hx,hr,lT,bU⟩:=oJ
 refine wpIn_mono (h R' w' β' a F hr (by rw [bU]; exact hf.mono lT.ext)) ?_
 rintro e a2 w2 ⟨s2,R2,β2,⟨hq,JK⟩,C5,K7,IR⟩
 exact hQ e s2 a2 w2 hq ⟨R2,β2,hx.trans JK,C5,lT.trans K7,IR.trans bU⟩
theorem lB.at (hf:bY R s1.ro F):∀ (k:List Bool) (c:Code) {Q:Exit→St→Prop} {s:St} {a:Act} {w':World} {Φ:Exit→Act→World→Prop},lB E k c Q s→At E s1 R w β s a w'→(∀ e s' a' w',Q e s'→At E s1 R w β s' a' w'→Φ e a' w')→Hq F E.P k c Φ a w'
 | [],c,Q,s,a,w',Φ,h,oJ,hQ=>mM.at hf h oJ hQ
 | true :: k,c,Q,s,a,w',Φ,h,oJ,hQ=>by
  cases c with
  | seq x y=>exact lB.at hf k y h oJ hQ
  | _=>exact h.elim
 | false :: k,c,Q,s,a,w',Φ,h,oJ,hQ=>by
  cases c with
  | seq x y=>
   refine lB.at hf k x (Q:=vx (mM E y Q) Q) h oJ fun e s' a' w' hq sa=>?_
   cases e with
   | normal=>exact mM.at hf hq sa hQ
   | _=>exact hQ _ s' a' w' hq sa
  | _=>exact h.elim
theorem rE.at (hf:bY R s1.ro F):∀ (k:List Bool) (c:Code) {Q:Exit→St→Prop} {s:St} {a:Act} {w':World} {Φ:Exit→Act→World→Prop},rE E k c Q s→At E s1 R w β s a w' →
  (∀ s' a' w',Q .normal s'→At E s1 R w β s' a' w'→Hq F E.P k c Φ a' w')→(∀ e s' a' w',e≠.normal→Q e s'→At E s1 R w β s' a' w'→Φ e a' w')→c.wpIn F 0 E.P Φ a w'
 | [],c,Q,s,a,w',Φ,h,oJ,hS,hQ=>hS s a w' h oJ
 | true :: k,c,Q,s,a,w',Φ,h,oJ,hS,hQ=>by
  cases c with
  | seq x y=>
   refine wpIn_seq (mM.at hf (show mM E x (vx (rE E k y Q) Q) s from h) oJ fun e s' a' w' hq sa=>?_)
   cases e with
   | normal=>exact rE.at hf k y hq sa hS hQ
   | exit i=>exact hQ _ s' a' w' (by simp) hq sa
   | ret=>exact hQ _ s' a' w' (by simp) hq sa
   | goto i=>exact hQ _ s' a' w' (by simp) hq sa
   | panic i=>exact hQ _ s' a' w' (by simp) hq sa
   | outgrown=>exact hQ _ s' a' w' (by simp) hq sa
  | _=>exact h.elim
 | false :: k,c,Q,s,a,w',Φ,h,oJ,hS,hQ=>by
  cases c with
  | seq x y=>
   refine wpIn_seq (rE.at hf k x (Q:=Q) h oJ hS fun e s' a' w' cD hq sa=>?_)
   cases e with
   | normal=>exact absurd rfl cD
   | exit i=>exact hQ _ s' a' w' cD hq sa
   | ret=>exact hQ _ s' a' w' cD hq sa
   | goto i=>exact hQ _ s' a' w' cD hq sa
   | panic i=>exact hQ _ s' a' w' cD hq sa
   | outgrown=>exact hQ _ s' a' w' cD hq sa
  | _=>exact h.elim
end rot
theorem gE.O6 {E:Env} {b:Code} {s s1:St} {gh:List (Loc × Nat × TypeId)} {head:cO} {outs:List (XK × cO)} {pre:St→Option (head.ps.T ⊕ JT outs)} {rd:head.ps.T→Option (head.ps.T ⊕ JT outs)} {N:Nat} {k:List Bool} {r0:head.ps.T ⊕ JT outs} {o:JT outs} {Q:Exit→St→Prop}
  (hg:Am.iI gh s=some s1) (h0:pre s1=some r0)
  (hp:∀ s2 r,pre s2=some r→rE E k b (fun e s'=>vI s1 head outs e s'=some r) s2)
  (hr:∀ v r,rd v=some r→lB E k b (fun e s'=>A8 pre (vI s1 head outs) e s'=some r) (head.st s1 v))
  (hl:Sum.elim (fun v=>aL rd N v) (fun x=>some x) r0=some o) (hQ:∀ (t:cO) (v:t.ps.T) (e:Exit),(∀ (α:Type) (K:Exit→St→α),Og s1 outs o K=K e (t.st s1 v))→Q e (t.st s1 v)∧aY s (t.st s1 v)) :
  mM E (.loop b) Q s:=fun R0 w β a F ZF N9=>by
 obtain ⟨R,k1,k2,k3,_⟩:=lh ZF hg
 have hf:bY R s1.ro F:=by rw [k3]; exact N9.mono k2.ext
 refine nW (fun n a' w'=>∃ s2 r,pre s2=some r∧Sum.elim (fun v=>aL rd n v) (fun x=>some x) r=some o∧At E s1 R w β s2 a' w') ?_ ⟨s1,r0,h0,hl,R,β,aY.refl s1,k1,Step.refl _ _ _ _,rfl⟩
 rintro n a' w' ⟨s2,r,Zm,hlr,oJ⟩
 -- a way out
 have out:∀ {e:Exit} {s3:St} {a3:Act} {w3:World} {r:head.ps.T ⊕ JT outs} {n:Nat},e≠.normal→vI s1 head outs e s3=some r→Sum.elim (fun v=>aL rd n v) (fun x=>some x) r=some o→At E s1 R w β s3 a3 w3→Zd E R0 w β s (fun e s'=>Q e s'∧aY s s') e a3 w3:=fun {e s3 a3 w3 r n} cD hK hlr oJ=>by
  obtain ⟨R3,β3,hx3,Zh,Ve,adA⟩:=oJ
  have key:∀ {u:JT outs},lV s1 outs e s3=some u→r=.inr u→Zd E R0 w β s (fun e s'=>Q e s'∧aY s s') e a3 w3:=fun {u} hu hru=>by
   subst hru
   obtain rfl:=Option.some.inj hlr
   obtain ⟨t,v',q1,q2⟩:=tk hu
   obtain ⟨j1,j2⟩:=cO.AW hx3 k1 Zh Ve q1
   exact ⟨t.st s1 v',_,_,hQ t v' _ q2,j1,k2.trans j2,k3⟩
  cases e with
  | normal=>exact absurd rfl cD
  | exit i=>obtain ⟨u,q1,q2⟩:=bind_some (show ((lV s1 outs (.exit i) s3).bind fun o=>some (.inr o))=some r from hK); exact key q1 (Option.some.inj q2).symm
  | ret=>obtain ⟨u,q1,q2⟩:=bind_some (show ((lV s1 outs .ret s3).bind fun o=>some (.inr o))=some r from hK); exact key q1 (Option.some.inj q2).symm
  | goto i=>obtain ⟨u,q1,q2⟩:=bind_some (show ((lV s1 outs (.goto i) s3).bind fun o=>some (.inr o))=some r from hK); exact key q1 (Option.some.inj q2).symm
  | panic i=>obtain ⟨u,q1,q2⟩:=bind_some (show ((lV s1 outs (.panic i) s3).bind fun o=>some (.inr o))=some r from hK); exact key q1 (Option.some.inj q2).symm
  | outgrown=>obtain ⟨u,q1,q2⟩:=bind_some (show ((lV s1 outs .outgrown s3).bind fun o=>some (.inr o))=some r from hK); exact key q1 (Option.some.inj q2).symm
 refine rE.at hf k b (hp s2 r Zm) oJ (fun s3 a3 w3 hK Vf=>?_) (fun e s3 a3 w3 cD hK Vf=>?_)
 ·obtain ⟨v,q1,q2⟩:=bind_some (show ((head.dec s1 s3).bind fun v=>some (.inl v))=some r from hK)
  obtain rfl:=Option.some.inj q2
  have Cz:aL rd n v=some o:=hlr
  cases n with
  | zero=>cases Cz
  | succ n=>
   obtain ⟨r',h1,h2⟩:=bind_some (show ((rd v).bind fun o=>Sum.elim (fun v'=>aL rd n v') (fun x=>some x) o)=some o from Cz)
   obtain ⟨R3,β3,hx3,Zh,Ve,adA⟩:=Vf
   obtain ⟨j1,j2⟩:=cO.AW hx3 k1 Zh Ve q1
   refine lB.at hf k b (hr v r' h1) ⟨_,_,head.r9 s1 v,j1,j2,rfl⟩ fun e s4 a4 w4 Yg IZ=>?_
   cases e with
   | normal=>exact ⟨n,Nat.lt_succ_self n,s4,r',Yg,h2,IZ⟩
   | exit i=>exact out (by simp) Yg h2 IZ
   | ret=>exact out (by simp) Yg h2 IZ
   | goto i=>exact out (by simp) Yg h2 IZ
   | panic i=>exact out (by simp) Yg h2 IZ
   | outgrown=>exact out (by simp) Yg h2 IZ
 ·have:=out cD hK hlr Vf
  cases e with
  | normal=>exact absurd rfl cD
  | _=>exact this
theorem sd {C:fw} {ih:Ye} (hs:uE C ih) {X:Type} {f:FuncId} {K:Exit→St→Option X}:∀ (k:List Bool) (q:Nat) (c:Code) (s:St) (x:X),bL (C.D.dt f) c=true→K5 ih CC f K k q c s=some x→rE C.D.toEnv k c (fun e s'=>K e s'=some x) s
 | [],_,_,_,_,_,h=>h
 | true :: k,q,c,s,x,hd,h=>by
  cases c with
  | seq a b=>
   rw [bL,Bool.and_eq_true] at hd
   refine (hs f _ a X CC r8 _ s x hd.1 h).of fun e s' hq hx=>?_
   cases e with
   | normal=>exact ⟨sd hs k (2 * q+1) b s' x hd.2 hq,hx⟩
   | _=>exact ⟨hq,hx⟩
  | _=>cases h
 | false :: k,q,c,s,x,hd,h=>by
  cases c with
  | seq a b=>
   rw [bL,Bool.and_eq_true] at hd
   exact sd hs k (2 * q) a s x hd.1 h
  | _=>cases h
theorem lB.mono {E:Env}:∀ (k:List Bool) (c:Code) {Q Q':Exit→St→Prop} {s:St},(∀ e s',Q e s'→Q' e s')→lB E k c Q s→lB E k c Q' s
 | [],c,Q,Q',s,hQ,h=>gE.mono h fun e s' hh=>⟨hQ e s' hh.1,hh.2⟩
 | true :: k,c,Q,Q',s,hQ,h=>by
  cases c with
  | seq x y=>exact lB.mono k y hQ h
  | _=>exact h.elim
 | false :: k,c,Q,Q',s,hQ,h=>by
  cases c with
  | seq x y=>
   refine lB.mono k x (Q:=vx (mM E y Q) Q) (Q':=vx (mM E y Q') Q') (fun e s' hq=>?_) h
   cases e with
   | normal=>exact gE.mono hq fun e s' hh=>⟨hQ e s' hh.1,hh.2⟩
   | _=>exact hQ _ s' hq
  | _=>exact h.elim
theorem se {C:fw} {ih:Ye} (hs:uE C ih) {X:Type} {f:FuncId}:∀ (k:List Bool) (q:Nat) (c:Code) (K:Exit→St→Option X) (s:St) (x:X),bL (C.D.dt f) c=true→O4 ih CC f k q c K s=some x→lB C.D.toEnv k c (fun e s'=>K e s'=some x) s
 | [],_,c,K,s,x,hd,h=>hs f _ c X CC r8 K s x hd h
 | true :: k,q,c,K,s,x,hd,h=>by
  cases c with
  | seq a b=>
   rw [bL,Bool.and_eq_true] at hd
   exact se hs k (2 * q+1) b K s x hd.2 h
  | _=>cases h
 | false :: k,q,c,K,s,x,hd,h=>by
  cases c with
  | seq a b=>
   rw [bL,Bool.and_eq_true] at hd
   refine lB.mono k a (fun e s' hq=>?_) (se hs k (2 * q) a _ s x hd.1 h)
   cases e with
   | normal=>exact hs f _ b X CC r8 K s' x hd.2 hq
   | _=>exact hq
  | _=>cases h
theorem DJ {C:fw} (Ci:∀ g e,C.zS g=some e→ak C.D.toEnv g e) (n:Nat):uE C (ev C n):=by
 induction n using Nat.strongRecOn with
 | _ n ihn=>
 cases n with
 | zero=>intro f p c X fO _ K s x _ h; cases h
 | succ n=>
  have hs:=ihn n (Nat.lt_succ_self n)
  have plain:∀ (f:FuncId) (p:Nat) (c:Code) (X:Type) (fO:Option X→Option X→Option X),vJ fO→∀ (K:Exit→St→Option X) (s:St) (x:X),((∃ b,c=.loop b)→C.pP f p=none) →
    bL (C.D.dt f) c=true→yU C (ev C n) f p c X fO K s=some x→mM C.D.toEnv c (fun e s'=>K e s'=some x) s:=by
   intro f p c X fO hm K s x jF hd h
   have K8:=DH Ci hs hm
   have ZG:=Ga hs hm
   unfold yU at h
   cases c with
   | skip=>exact gE.skip ⟨h,aY.refl s⟩
   | label l=>exact gE.label ⟨h,aY.refl s⟩
   | exit id=>exact gE.exit ⟨h,aY.refl s⟩
   | ret=>exact gE.ret ⟨h,aY.refl s⟩
   | seq a b=>
    rw [bL,Bool.and_eq_true] at hd
    refine gE.seq ((hs f _ a X fO hm _ s x hd.1 h).of fun e s' hq hx=>?_)
    cases e with
    | normal=>exact (hs f _ b X fO hm _ s' x hd.2 hq).of fun e s2 pf JK=>⟨pf,hx.trans JK⟩
    | _=>exact ⟨hq,hx⟩
   | cond co a b=>
    rw [bL,Bool.and_eq_true] at hd
    simp only at h
    split at h
    ·rename_i t hb
     refine gE.cond hb (fun e=>?_) (fun e=>?_)
     ·subst e; exact hs f _ a X fO hm _ s x hd.1 h
     ·subst e; exact hs f _ b X fO hm _ s x hd.2 h
    ·cases h
   | block id c=>
    refine gE.block ((hs f _ c X fO hm _ s x hd h).of fun e s' hq hx=>?_)
    cases e with
    | exit kf=>
     simp only [KZ] at hq
     refine ⟨fun e=>?_,fun e=>?_⟩
     ·subst e; rw [sE] at hq; exact ⟨hq,hx⟩
     ·rw [nN e] at hq; exact ⟨hq,hx⟩
    | _=>exact ⟨hq,hx⟩
   | scope c=>
    refine gE.scope ((hs f _ c X fO hm _ s x hd h).of fun e s' hq hx=>?_)
    cases e with
    | goto l=>cases hq
    | _=>exact ⟨hq,hx⟩
   | region id ops dr=>
    cases dr with
    | false=>exact gE.region (f:=f) (A9 (zb K8 ZG h))
    | true=>
     simp only at h
     rw [bL] at hd
     split at h
     ·rename_i pl hT
      rw [hT] at hd
      exact gE.draw (f:=f) hd (tj (j9 K8 ZG hm h))
     ·cases h
   | loop b=>
    have Tz:=jF ⟨b,rfl⟩
    refine gE.loop (fun m s'=>m≤n+1∧ev C m f p (.loop b) X fO K s'=some x∧aY s s') ?_ (m:=n+1) ⟨Nat.le_refl _,?_,aY.refl s⟩
    ·rintro m s' ⟨Ul,hr,hx⟩
     cases m with
     | zero=>cases hr
     | succ m=>
      have kQ:yW C (ev C m) f p (.loop b) X fO K s'=some x:=hr
      unfold yW at kQ
      rw [Tz] at kQ
      refine (ihn m (by omega) f _ b X fO hm _ s' x hd kQ).of fun e s2 hq JK=>?_
      cases e with
      | normal=>exact ⟨m,Nat.lt_succ_self m,by omega,hq,hx.trans JK⟩
      | _=>exact ⟨hq,hx.trans JK⟩
    ·show yW C (ev C n) f p (.loop b) X fO K s=some x
     unfold yW
     rw [Tz]
     exact h
   | rangeFunc g ps sX bd=>
    simp only at h
    split at h
    ·rename_i bU
     split at h
     ·rename_i hf first cap hg
      refine gE.rangeFunc (4096 * p+f) bU hg ((K8 _ _ _ _ _ h).mono fun r G' hq=>?_)
      unfold rfQ
      split at hq
      ·rename_i busy pending fn sl nn pp aa bb dd done U2
       rw [U2]
       simp only
       obtain ⟨h1,h2⟩:=bq hq
       refine ⟨by cases busy <;> cases done <;> simp_all,?_⟩
       have Zl:∀ (G:List GO) (m:List Nat),aY s ⟨s.ae,s.boxes,G,m,s.ro,s.n⟩:=fun _ _=>⟨⟨[],rfl⟩,⟨[],rfl⟩,rfl⟩
       split at h2
       ·rw [du] at h2; exact ⟨h2,Zl _ _⟩
       ·rw [du] at h2; exact gE.ret ⟨h2,Zl _ _⟩
       ·rw [du] at h2; exact gE.exit ⟨h2,Zl _ _⟩
       ·cases h2
      ·cases hq
     ·cases h
    ·cases h
   | _=>cases h
  intro f p c X fO hm K s x hd h
  change yW C (ev C n) f p c X fO K s=some x at h
  unfold yW at h
  split at h
  ·rename_i hc
   exact plain f p c X fO hm K s x (fun _=>hc) hd h
  ·rename_i ct hct
   split at h
   ·rename_i zd hc
    generalize tg (lA c []) zd=outs at h
    cases Km:K1 c with
    | true=>rw [Km] at h; cases h
    | false=>
    rw [Km] at h
    obtain ⟨o,h1,h2⟩:=bind_some (show (yU C (ev C n) f p c (JT outs) CC (lV s outs) s).bind (fun o=>Og s outs o K)=some x from h)
    have hp:=plain f p c (JT outs) CC r8 (lV s outs) s o (fun ⟨b,hb⟩=>by subst hb; cases Km) hd h1
    refine gE.ads (s:=s) (Q':=fun e s'=>lV s outs e s'=some o) (gE.mono hp fun e s' hh=>⟨hh.2,hh.1⟩) fun e s' hq=>?_
    obtain ⟨t,v,q1,q2⟩:=tk hq
    exact ⟨t,v,q1,(q2 _ K).symm.trans h2,t.r9 s v⟩
   ·rename_i gh DK zd hc
    split at h
    ·rename_i b
     split at h
     ·rename_i s1 hg
      generalize tg (lA b []) zd=outs at h
      generalize yV (lA b []) DK=head at h
      unfold Tx at h
      obtain ⟨v0,h0,h⟩:=bind_some h
      obtain ⟨o,hl,h⟩:=bind_some h
      refine gE.ZE hg h0 (fun v r hr=>hs f _ b _ CC r8 _ _ r hd hr) hl fun t v e jc=>?_
      exact ⟨(jc _ K).symm.trans h,(oh hg).trans (t.r9 s1 v)⟩
     ·cases h
    ·cases h
   ·rename_i k gh DK zd hc
    split at h
    ·rename_i b
     split at h
     ·rename_i s1 hg
      generalize tg (lA b []) zd=outs at h
      generalize yV (lA b []) DK=head at h
      unfold ZD at h
      obtain ⟨o,hl,h⟩:=bind_some h
      obtain ⟨r0,h0,hl⟩:=bind_some hl
      refine gE.O6 hg h0 (fun s2 r hr=>sd hs k (2 * p) b s2 r hd hr) (fun v r hr=>se hs k (2 * p) b _ _ r hd hr) hl fun t v e jc=>?_
      exact ⟨(jc _ K).symm.trans h,(oh hg).trans (t.r9 s1 v)⟩
     ·cases h
    ·cases h
   ·rename_i gh DK zd hc
    split at h
    ·rename_i b
     split at h
     ·rename_i s1 hg
      generalize tg (lA b []) zd=outs at h
      generalize yV (lA b []) DK=head at h
      unfold K4 at h
      obtain ⟨v0,h0,h⟩:=bind_some h
      obtain ⟨o,hl,h⟩:=bind_some h
      refine gE.Vd hg h0 (fun k v u hu=>hs f _ b _ CC r8 _ _ u hd hu) hl fun t v e jc=>?_
      exact ⟨(jc _ K).symm.trans h,(oh hg).trans (t.r9 s1 v)⟩
     ·cases h
    ·cases h
   ·cases h
end Go.Am
namespace Go.Am
open Go
noncomputable def fw.fn (C:fw) (n:Nat) (g:FuncId) (ps:aT) (p:aR) (x:ps.T):Option p.T:=
 DE C (ev C n) CC g (ps.enc x) [] (fun r _=>p.dec r)
theorem fw.bu {C:fw} (Ci:∀ g e,C.zS g=some e→ak C.D.toEnv g e) {n:Nat} {g:FuncId} {ps:aT} {p:aR} (h1:ps.under 0=true) (h2:p.under 0=true) :
  ak C.D.toEnv g ⟨ps,p,C.fn n g ps p⟩:=fun x y h=>by
 refine a7.mono (a7.of (p:=p) (Q:=fun z=>z=y) (ps.dW x h1) h2 ((pT (DJ Ci n) r8 g _ [] _ y h).mono fun r _ hr=>⟨y,hr,rfl⟩)) ?_
 rintro r ⟨z,rfl,rfl⟩
 rfl
theorem a7.env {E E':Env} {g:FuncId} {args:List AV} {Q:AV→Prop} (hP:E.P=E'.P) (hg:E.cm=E'.cm) (h:a7 E g args Q) (CW:E.lo=E'.lo:=by rfl) (O7:E.gx=E'.gx:=by rfl):a7 E' g args Q:=by
 have go:∀ {R:an} {w:World} {x:Nat} {cs:List AV},ko E R w x cs↔ko E' R w x cs:=fun {R w x cs}=>by unfold ko; rw [O7]
 have AW:∀ {R:an} {w:World} {G:List GO},dQ E R w G↔dQ E' R w G:=fun {R w G}=>
  ⟨fun h=>⟨h.len,h.obj,h.inj,h.wf,fun g cs hh=>go.1 (h.cm g cs (by rw [hg]; exact hh)),by rw [← CW]; exact h.lo⟩,fun h=>⟨h.len,h.obj,h.inj,h.wf,fun g cs hh=>go.2 (h.cm g cs (by rw [← hg]; exact hh)),by rw [CW]; exact h.lo⟩⟩
 intro G
 obtain ⟨h1,h2⟩:=h G
 rw [hP] at h1 h2
 refine ⟨h1,fun R w cs hr hl=>(h2 R w cs (AW.2 hr) hl).mono fun e w' he=>?_⟩
 cases e with
 | returned c=>obtain ⟨r,G',R',k1,k2,k3,k4⟩:=he; exact ⟨r,G',R',k1,k2,AW.1 k3,k4⟩
 | panicked c=>exact he
 | outgrown=>exact he
theorem a7.more {E E':Env} {g:FuncId} {args:List AV} {Q:AV→Prop} (hP:E.P=E'.P) (hg:∀ g cs,E.cm g=some cs→E'.cm g=some cs) (h:a7 E g args Q) (CW:E.lo=E'.lo:=by rfl) (O7:E.gx=fun _=>false:=by rfl):a7 E' g args Q:=by
 intro G
 obtain ⟨h1,h2⟩:=h G
 rw [hP] at h1 h2
 refine ⟨h1,fun R w cs hr hl=>(h2 R w cs ⟨hr.len,hr.obj,hr.inj,hr.wf,fun g cs hh=>⟨(hr.cm g cs (hg g cs hh)).1,fun hx=>by rw [O7] at hx; cases hx⟩,by rw [CW]; exact hr.lo⟩ hl).mono fun e w' he=>?_⟩
 cases e with
 | returned c=>
  obtain ⟨r,G',R',k1,k2,k3,k4⟩:=he
  exact ⟨r,G',R',k1,k2,⟨k3.len,k3.obj,k3.inj,k3.wf,fun g cs hh=>(hr.cm g cs hh).mono k4.ext,by rw [← CW]; exact k3.lo⟩,k4⟩
 | panicked c=>exact he
 | outgrown=>exact he
def DL:List (Nat × aS)→FuncId→Option aS
 | [],_=>none
 | (a,e) :: l,g=>bif Nat.beq a g then some e else DL l g
theorem aZ {E:Env}:∀ {l:List (Nat × aS)},(∀ a e,(a,e)∈l→ak E a e)→∀ g e,DL l g=some e→ak E g e
 | [],_,g,e,h=>by cases h
 | (a,x) :: l,hl,g,e,h=>by
  unfold DL at h
  cases hb:Nat.beq a g with
  | true=>
   rw [hb] at h
   cases h
   rw [← Nat.eq_of_beq_eq_true hb]
   exact hl a _ (by simp)
  | false=>
   rw [hb] at h
   exact aZ (fun a e hm=>hl a e (by simp [hm])) g e h
def TA:List (Nat × cE)→Nat→Option cE
 | [],_=>none
 | (a,c) :: l,p=>bif Nat.beq a p then some c else TA l p
def Hr:List (Nat × List (Nat × cE))→FuncId→Nat→Option cE
 | [],_,_=>none
 | (a,c) :: l,g,p=>bif Nat.beq a g then TA c p else Hr l g p
def Hs:Option Unit→Option Unit→Option Unit
 | some _,some _=>some ()
 | _,_=>none
theorem Gb:vJ Hs:=fun a b x h=>by
 cases a <;> cases b <;> first | (cases h; done) | exact ⟨rfl,rfl⟩
theorem dm {C:fw} (Ci:∀ g e,C.zS g=some e→ak C.D.toEnv g e) {n:Nat} {g:FuncId} {args:List AV} {p:aR} {ok:p.T→Bool} (h1:aM 0 args=true) (h2:p.under 0=true)
  (h:DE C (ev C n) Hs g args [] (fun r _=>bif p.fits r&&ok (p.bA r) then some () else none)=some ()):a7 C.D.toEnv g args (fun r=>∃ y,r=p.enc y∧ok y=true):=
 a7.of (p:=p) (Q:=fun y=>ok y=true) h1 h2 ((pT (DJ Ci n) Gb g args [] _ () h).mono fun r _ hr=>by
  obtain ⟨k,_⟩:=bq hr
  rw [Bool.and_eq_true] at k
  exact ⟨p.bA r,by simp [aR.dec,k.1],k.2⟩)
end Go.Am
namespace Go.Am
open Go
def om (w:World):an:=⟨fun b _=>b < w.heap.size,[]⟩
mutual
def aR.wf:(p:aR)→p.T→Prop
 | .int k,(n:Int)=>k.min≤n∧n≤k.max
 | .bool,_=>True
 | .str,(s:List UInt8)=>s.length≤maxLen
 | .agg ps,x=>ps.wf x
 | .bp ps,x=>ps.wf x
 | .list _ p,(xs:List p.T)=>xs.length≤maxLen∧∀ x∈xs,p.wf x
 | .own _ _ p,(xs:List p.T)=>xs.length≤maxLen∧∀ x∈xs,p.wf x
 | .bk _ _ p,(x:Nat × List p.T)=>x.2.length≤maxLen∧∀ y∈x.2,p.wf y
 | .dS _,_=>True
 | .two _ _,_=>True
def aT.wf:(ps:aT)→ps.T→Prop
 | .nil,_=>True
 | .cons p .nil,x=>p.wf x
 | .cons p (.cons q ps),x=>p.wf x.1∧(aT.cons q ps).wf x.2
end
def lC:List aR→aT
 | []=>.nil
 | p :: l=>.cons p (lC l)
def I0 {β:Type} (g:β→Option (List aR)):List β→Option (List aR)
 | []=>some []
 | x :: l=>match g x,I0 g l with
  | some a,some b=>some (a++b)
  | _,_=>none
def tn {β:Type} (off len:β→Nat):Nat→List β→Option Nat
 | o,[]=>some o
 | o,x :: l=>bif Nat.beq (off x) o then tn off len (o+len x) l else none
def isSome (n:Nat):Option Nat→Bool
 | some m=>Nat.beq m n
 | none=>false
def to (ag:Bool) (ps:List aR):Option aR:=match ag,ps with
 | true,ps=>some (.agg (lC ps))
 | false,[p]=>some p
 | _,_=>none
def I1 (P:Program):Nat→TypeId→Option (List aR)
 | 0,_=>none
 | n+1,t=>match P.underlying t with
  | some .bool=>some [.bool]
  | some (.int k)=>some [.int k]
  | some .string=>some [.str]
  | some (.slice e)=>match I1 P n e,P.underlying e with
   | some ps,some u=>match to (Go.Am.kh u) ps with
    | some pe=>bif Nat.blt 0 (P.cellsOf e) then some [.list (P.cellsOf e) pe] else none
    | none=>none
   | _,_=>none
  | some (.struct fs)=>bif isSome (P.cellsOf t) (tn Field.offset (fun f=>P.cellsOf f.type) 0 fs.toList) then I0 (fun f=>I1 P n f.type) fs.toList else none
  | some (.array m e)=>bif isSome (P.cellsOf t) (tn (fun i=>i * P.cellsOf e) (fun _=>P.cellsOf e) 0 (List.range m)) then I0 (fun _=>I1 P n e) (List.range m) else none
  | _=>none
def adC (a:AV):Prop:=a.a6=true∧a.cells=[a]∧a.closed=true
def sf:List aR→List AV→Prop
 | [],[]=>True
 | p :: ps,a :: mo=>p.fits a=true∧(p.wf (p.bA a)∧adC a)∧sf ps mo
 | _,_=>False
theorem sf.append:∀ {ps qs:List aR} {mo bs:List AV},sf ps mo→sf qs bs→sf (ps++qs) (mo++bs)
 | [],_,[],_,_,h=>h
 | _ :: _,_,_ :: _,_,k,h=>⟨k.1,k.2.1,sf.append k.2.2 h⟩
 | [],_,_ :: _,_,h,_=>h.elim
 | _ :: _,_,[],_,h,_=>h.elim
theorem sf.mk:∀ {ps:List aR} {mo:List AV},sf ps mo→(lC ps).fits mo=true∧(lC ps).wf ((lC ps).bA mo)
 | [],[],_=>⟨rfl,trivial⟩
 | [p],[a],h=>⟨by
   change (p.fits a&&(List.isEmpty ([]:List AV)))=true
   rw [h.1]
   rfl,h.2.1.1⟩
 | p :: q :: ps,a :: mo,h=>by
  obtain ⟨h1,h2⟩:=sf.mk (ps:=q :: ps) h.2.2
  refine ⟨?_,h.2.1.1,h2⟩
  change (p.fits a&&(lC (q :: ps)).fits mo)=true
  rw [h.1,h1]
  rfl
 | [],_ :: _,h=>h.elim
 | _ :: _,[],h=>h.elim
 | [_],_ :: _ :: _,h=>h.2.2.elim
theorem DM {ag:Bool} {ps:List aR} {pe:aR} (h:to ag ps=some pe) {mo:List AV} (hf:sf ps mo) :
  ∃ e,(if ag then e=.agg mo else mo=[e])∧pe.fits e=true∧pe.wf (pe.bA e):=by
 unfold to at h
 split at h
 ·cases h
  obtain ⟨h1,h2⟩:=hf.mk
  exact ⟨.agg mo,rfl,h1,h2⟩
 ·rename_i p
  cases h
  match mo,hf with
  | [a],hf=>exact ⟨a,rfl,hf.1,hf.2.1.1⟩
  | [],hf=>exact hf.elim
  | _ :: _ :: _,hf=>exact hf.2.2.elim
 ·cases h
theorem Ht:∀ {ps:List aR} {mo:List AV},sf ps mo→∀ a∈mo,a.a6=true∧a.cells=[a]∧a.closed=true
 | [],[],_,a,ha=>by simp at ha
 | _ :: _,b :: mo,hf,a,ha=>by
  rcases List.mem_cons.1 ha with rfl | ha
  ·exact hf.2.1.2
  ·exact Ht hf.2.2 a ha
 | [],_ :: _,h,_,_=>h.elim
 | _ :: _,[],h,_,_=>h.elim
theorem Hu {pe:aR}:∀ {es:List AV},(∀ x∈es,pe.fits x=true∧pe.wf (pe.bA x))→allFit pe.fits es=true∧∀ x∈es.map pe.bA,pe.wf x
 | [],_=>⟨rfl,by simp⟩
 | a :: es,h=>by
  obtain ⟨h1,h2⟩:=Hu (es:=es) fun x hx=>h x (by simp [hx])
  refine ⟨by simp only [allFit,Bool.and_eq_true]; exact ⟨(h a (by simp)).1,h1⟩,fun x hx=>?_⟩
  rcases List.mem_cons.1 hx with rfl | hx
  ·exact (h a (by simp)).2
  ·exact h2 x hx
section read
variable {H:Type} {enc:TypeId × Value→H} {P:Program} {w:World} {R:an} {base:Nat} {spare:Nat→Bool} {held:Bool}
theorem lD {α β:Type} {f:α→Option β} {x:α} {l:List α} {r:List β} (h:(x :: l).mapM f=some r):∃ y ys,f x=some y∧l.mapM f=some ys∧r=y :: ys:=by
 rw [List.mapM_cons] at h
 cases hx:f x with
 | none=>rw [hx] at h; cases h
 | some y=>
  rw [hx] at h
  cases hl:l.mapM f with
  | none=>rw [hl] at h; cases h
  | some ys=>rw [hl] at h; cases h; exact ⟨y,ys,rfl,rfl,rfl⟩
theorem ze {β:Type} {off len:β→Nat} {g:β→Option (List aR)} {cs:List Value} {f:β→Option (DataW H × List MemPlace)}
  (hf:∀ x ps y,g x=some ps→f x=some y→∃ mo,aQ R w mo ((cs.drop (off x)).take (len x))∧sf ps mo∧∀ v∈(cs.drop (off x)).take (len x),v.oneCell'=true) :
  ∀ {L:List β} {o m:Nat} {ps:List aR} {ys:List (DataW H × List MemPlace)},tn off len o L=some m→I0 g L=some ps→L.mapM f=some ys →
   o≤m∧∃ mo,aQ R w mo ((cs.drop o).take (m - o))∧sf ps mo∧∀ v∈(cs.drop o).take (m - o),v.oneCell'=true
 | [],o,m,ps,ys,ht,hp,_=>by
  simp only [tn] at ht
  simp only [I0] at hp
  cases ht; cases hp
  exact ⟨Nat.le_refl _,[],by simpa using aQ.nil,trivial,by simp⟩
 | x :: L,o,m,ps,ys,ht,hp,hm=>by
  unfold tn at ht
  cases hb:Nat.beq (off x) o with
  | false=>rw [hb] at ht; cases ht
  | true=>
   rw [hb] at ht
   have hb:=Nat.eq_of_beq_eq_true hb
   unfold I0 at hp
   split at hp
   ·rename_i pa pb h1 h2
    cases hp
    obtain ⟨y,Ib,k1,k2,rfl⟩:=lD hm
    obtain ⟨mo,q1,q2,q3⟩:=hf x pa y h1 k1
    obtain ⟨hle,bs,r1,r2,r3⟩:=ze hf (show tn off len (o+len x) L=some m from ht) h2 k2
    have e:(cs.drop o).take (m - o)=(cs.drop (off x)).take (len x)++(cs.drop (o+len x)).take (m - (o+len x)):=by
     rw [hb,show m - o=len x+(m - (o+len x)) by omega,List.take_add,List.drop_drop]
    rw [e]
    refine ⟨by omega,mo++bs,q1.append r1,q2.append r2,fun v hv=>?_⟩
    rcases List.mem_append.1 hv with hv | hv
    ·exact q3 v hv
    ·exact r3 v hv
   ·cases hp
theorem nr {α β:Type} {f:α→Option β}:∀ {l:List α} {r:List β},l.mapM f=some r→∀ (i:Nat) (x:α),l[i]?=some x→∃ y,r[i]?=some y∧f x=some y
 | [],r,_,i,x,hx=>by simp at hx
 | a :: l,r,h,i,x,hx=>by
  obtain ⟨y,ys,h1,h2,rfl⟩:=lD h
  cases i with
  | zero=>simp at hx; subst hx; exact ⟨y,by simp,h1⟩
  | succ i=>obtain ⟨z,h3,h4⟩:=nr h2 i x (by simpa using hx); exact ⟨z,by simpa using h3,h4⟩
theorem mapM_length {α β:Type} {f:α→Option β}:∀ {l:List α} {r:List β},l.mapM f=some r→r.length=l.length
 | [],r,h=>by simp at h; subst h; rfl
 | a :: l,r,h=>by
  obtain ⟨y,ys,h1,h2,rfl⟩:=lD h
  simp [mapM_length h2]
theorem O8 {a:Addr} {v:Value} (h:w.cell? a=some v):a.block < w.heap.size:=by
 unfold World.cell? at h
 split at h
 ·rename_i hb; exact bn hb
 ·cases h
theorem Ba {e:TypeId} {ps:List aR} {pe:aR} {ag:Bool} {sh:Nat} (hp:∀ (cs:List Value) (y:DataW H × List MemPlace),DataW.trod enc P w base spare held sh e cs=some y→∃ mo,aQ (om w) w mo cs∧sf ps mo∧∀ v∈cs,v.oneCell'=true) (he:to ag ps=some pe) {b off len:Nat} {r:List (DataW H × List MemPlace)}
  (h:(List.range len).mapM (fun i=>(w.cells? base ((⟨b,off,none⟩:Addr).add (i * P.cellsOf e)) (P.cellsOf e)).bind (DataW.trod enc P w base spare held sh e))=some r) :
  ∀ (m i:Nat),i+m=len→∃ es,gQ (om w) w b (off+i * P.cellsOf e) (P.cellsOf e) es∧es.length=m∧∀ x∈es,pe.fits x=true∧pe.wf (pe.bA x)
 | 0,i,_=>⟨[],.nil,rfl,by simp⟩
 | m+1,i,hi=>by
  obtain ⟨es,h1,h2,h3⟩:=Ba hp he h m (i+1) (by omega)
  obtain ⟨y,_,hy⟩:=nr h i i (by rw [List.getElem?_range (by omega)])
  obtain ⟨cs,hc,hy⟩:=bind_some hy
  obtain ⟨mo,q1,q2,q3⟩:=hp _ _ hy
  obtain ⟨x,hx,f1,f2⟩:=DM he q2
  have mE:w.cells? base ((⟨b,off,none⟩:Addr).add (i * P.cellsOf e)) (P.cellsOf e)=some cs:=hc
  unfold World.cells? at mE
  split at mE
  ·have hlen:=mapM_length mE
   rw [List.length_range] at hlen
   have jF:x.cells=mo∧x.a6=true∧x.closed=true:=by
    have oP:=Ht q2
    cases ag with
    | true=>
     simp only [if_true] at hx
     subst hx
     refine ⟨rfl,rfl,?_⟩
     show bg mo=true
     clear h1 h2 h3 q1 q2 f1 f2
     induction mo with
     | nil=>rfl
     | cons a mo ih=>simp only [bg,Bool.and_eq_true]; exact ⟨(oP a (by simp)).2.2,ih (fun z hz=>oP z (by simp [hz]))⟩
    | false=>
     simp only [Bool.false_eq_true,if_false] at hx
     subst hx
     obtain ⟨k1,k2,k3⟩:=oP x (by simp)
     exact ⟨k2,k1,k3⟩
   have kE:∀ j v,cs[j]?=some v→w.cell? ⟨b,off+i * P.cellsOf e+j,none⟩=some v:=fun j v hv=>by
    have hj:j < P.cellsOf e:=by have:=(List.getElem?_eq_some_iff.1 hv).1; omega
    obtain ⟨v',k1,k2⟩:=nr mE j j (by rw [List.getElem?_range hj])
    rw [hv] at k1
    cases k1
    rw [cL,cL] at k2
    exact k2
   refine ⟨x :: es,.cons ?_ jF.2.1 jF.2.2 ?_ ?_,by simp [h2],fun z hz=>?_⟩
   ·rw [jF.1,q1.length,hlen]
   ·rw [jF.1]
    refine eN.make q1 q3 kE (fun j hj=>?_)
    have N6:j < cs.length:=by rw [← q1.length]; exact hj
    exact O8 (kE j cs[j] (List.getElem?_eq_getElem N6))
   ·rw [show off+i * P.cellsOf e+P.cellsOf e=off+(i+1) * P.cellsOf e by rw [Nat.add_mul]; omega]
    exact h1
   ·rcases List.mem_cons.1 hz with rfl | hz
    ·exact ⟨f1,f2⟩
    ·exact h3 z hz
  ·cases mE
theorem tq (AJ:∀ b,spare b=true):∀ (n:Nat) {t:TypeId} {ps:List aR},I1 P n t=some ps→∀ {sh:Nat} {cs:List Value} {y:DataW H × List MemPlace},DataW.trod enc P w base spare held sh t cs=some y →
  ∃ mo,aQ (om w) w mo cs∧sf ps mo∧∀ v∈cs,v.oneCell'=true
 | 0,_,_,h,_,_,_,_=>by cases h
 | n+1,t,ps,h,0,_,_,hy=>by cases hy
 | n+1,t,ps,h,sh+1,cs,y,hy=>by
  unfold I1 at h
  unfold DataW.trod at hy
  split at h
  ·rename_i hu
   cases h
   rw [hu] at hy
   cases cs with
   | nil=>cases hy
   | cons v l=>
    cases l with
    | cons v2 l=>(cases v <;> first | (cases hy; done) | (rename_i a; cases a <;> cases hy; done) | (rename_i a b; cases a <;> cases hy; done) | (rename_i a b c; cases a <;> first | (cases hy; done) | (cases b <;> first | (cases hy; done) | (cases c <;> cases hy))))
    | nil=>
     cases v with
     | bool b=>exact ⟨[.bool b],.one (.bool b),⟨rfl,⟨trivial,rfl,rfl,rfl⟩,trivial⟩,by simp [Value.oneCell']⟩
     | pointer a=>cases a <;> cases hy
     | slice a b c=>cases a <;> first | (cases hy; done) | (cases b <;> first | (cases hy; done) | (cases c <;> cases hy))
     | map a=>cases a <;> cases hy
     | chan a=>cases a <;> cases hy
     | _=>cases hy
  ·rename_i k hu
   cases h
   rw [hu] at hy
   cases cs with
   | nil=>cases hy
   | cons v l=>
    cases l with
    | cons v2 l=>(cases v <;> first | (cases hy; done) | (rename_i a; cases a <;> cases hy; done) | (rename_i a b; cases a <;> cases hy; done) | (rename_i a b c; cases a <;> first | (cases hy; done) | (cases b <;> first | (cases hy; done) | (cases c <;> cases hy))))
    | nil=>
     cases v with
     | int k' i=>
      have hy:(if k'=k∧(Lit.int k i).wf=true then some (.lit (.int k i),[]) else none)=some y:=hy
      split at hy
      ·rename_i hc
       obtain ⟨rfl,hw⟩:=hc
       exact ⟨[.int k' i],.one (.int k' i),⟨decide_eq_true rfl,⟨by have h:=hw; simp [Lit.wf] at h; exact h,rfl,rfl,rfl⟩,trivial⟩,by simp [Value.oneCell']⟩
      ·cases hy
     | pointer a=>cases a <;> cases hy
     | slice a b c=>cases a <;> first | (cases hy; done) | (cases b <;> first | (cases hy; done) | (cases c <;> cases hy))
     | map a=>cases a <;> cases hy
     | chan a=>cases a <;> cases hy
     | _=>cases hy
  ·rename_i hu
   cases h
   rw [hu] at hy
   cases cs with
   | nil=>cases hy
   | cons v l=>
    cases l with
    | cons v2 l=>(cases v <;> first | (cases hy; done) | (rename_i a; cases a <;> cases hy; done) | (rename_i a b; cases a <;> cases hy; done) | (rename_i a b c; cases a <;> first | (cases hy; done) | (cases b <;> first | (cases hy; done) | (cases c <;> cases hy))))
    | nil=>
     cases v with
     | string s=>
      have hy:(if s.size≤maxLen then some (.lit (.string s.data.toList),[]) else none)=some y:=hy
      split at hy
      ·rename_i hc
       exact ⟨[.str s.data.toList],.one (.str s.data.toList),⟨rfl,⟨by simpa [aR.wf,aR.bA,AV.Ud] using hc,rfl,rfl,rfl⟩,trivial⟩,by simp [Value.oneCell']⟩
      ·cases hy
     | pointer a=>cases a <;> cases hy
     | slice a b c=>cases a <;> first | (cases hy; done) | (cases b <;> first | (cases hy; done) | (cases c <;> cases hy))
     | map a=>cases a <;> cases hy
     | chan a=>cases a <;> cases hy
     | _=>cases hy
  ·rename_i e hu
   rw [hu] at hy
   split at h
   ·rename_i Zt u h1 h2
    split at h
    ·rename_i pe h3
     obtain ⟨hz,h⟩:=bq h
     cases h
     have hz:=Nat.le_of_ble_eq_true hz
     cases cs with
     | nil=>cases hy
     | cons v l=>
      cases l with
      | cons v2 l=>(cases v <;> first | (cases hy; done) | (rename_i a; cases a <;> cases hy; done) | (rename_i a b; cases a <;> cases hy; done) | (rename_i a b c; cases a <;> first | (cases hy; done) | (cases b <;> first | (cases hy; done) | (cases c <;> cases hy))))
      | nil=>
       cases v with
       | slice a len cap=>
        cases a with
        | none=>
         have hz:len=0∧cap=0:=by
          cases len with
          | zero=>cases cap with
           | zero=>exact ⟨rfl,rfl⟩
           | succ _=>cases hy
          | succ _=>cases hy
         obtain ⟨rfl,rfl⟩:=hz
         exact ⟨[.list .lQ (P.cellsOf e) []],.one .jA,⟨by simp [aR.fits,allFit],⟨⟨Nat.zero_le _,fun x hx=>by change x∈([]:List pe.T) at hx; cases hx⟩,rfl,rfl,rfl⟩,trivial⟩,by simp [Value.oneCell']⟩
        | some a=>
         have hy:(if base≤a.block∧len≤cap∧cap≤maxLen then
          ((List.range len).mapM (fun i=>(w.cells? base (a.add (i * P.cellsOf e)) (P.cellsOf e)).bind (DataW.trod enc P w base spare held sh e))).bind fun Hv=>
           (if spare a.block then (List.range (cap - len)).mapM (fun j=>(w.cells? base (a.add ((len+j) * P.cellsOf e)) (P.cellsOf e)).bind (DataW.trod enc P w base spare held sh e)) else some []).map fun rest=>
            (DataW.slice (Hv.map (·.1)) (rest.map (·.1)),MemPlace.row a ((Hv.length+rest.length) * P.cellsOf e)++(Hv++rest).flatMap (·.2))
          else none)=some y:=hy
         split at hy
         ·rename_i hc
          obtain ⟨Hv,k1,hy⟩:=bind_some hy
          rw [if_pos (AJ _)] at hy
          by_cases iG:cap=0
          ·subst iG
           have xD:len=0:=Nat.le_zero.1 hc.2.1
           subst xD
           exact ⟨[.list .lQ (P.cellsOf e) []],.one .nL,⟨by simp [aR.fits,allFit],⟨⟨Nat.zero_le _,fun x hx=>by change x∈([]:List pe.T) at hx; cases hx⟩,rfl,rfl,rfl⟩,trivial⟩,by simp [Value.oneCell']⟩
          ·have K9:a.spot=none:=by
            have KK:∃ y,(w.cells? base (a.add (0 * P.cellsOf e)) (P.cellsOf e)).bind (DataW.trod enc P w base spare held sh e)=some y:=by
             by_cases xD:len=0
             ·subst xD
              cases hr:(List.range (cap - 0)).mapM (fun j=>(w.cells? base (a.add ((0+j) * P.cellsOf e)) (P.cellsOf e)).bind (DataW.trod enc P w base spare held sh e)) with
              | none=>rw [hr] at hy; cases hy
              | some r=>
               obtain ⟨z,_,hz⟩:=nr hr 0 0 (by rw [List.getElem?_range (by omega)])
               exact ⟨z,hz⟩
             ·obtain ⟨z,_,hz⟩:=nr k1 0 0 (by rw [List.getElem?_range (by omega)])
              exact ⟨z,hz⟩
            obtain ⟨z,hz'⟩:=KK
            obtain ⟨cs,ql,_⟩:=bind_some hz'
            unfold World.cells? at ql
            split at ql
            ·obtain ⟨v,_,hv⟩:=nr ql 0 0 (by rw [List.getElem?_range (by omega)])
             rw [Nat.zero_mul] at hv
             unfold World.cell? at hv
             split at hv
             ·split at hv
              ·cases hv
              ·rename_i hs
               simpa [Addr.add] using hs
             ·cases hv
            ·cases ql
           obtain ⟨b,off,spot⟩:=a
           have K9:spot=none:=K9
           subst K9
           obtain ⟨es,q1,q2,q3⟩:=Ba (fun cs y hy=>tq AJ n h1 hy) h3 k1 len 0 (by omega)
           rw [Nat.zero_mul,Nat.add_zero] at q1
           obtain ⟨f1,f2⟩:=Hu q3
           refine ⟨[.list .lQ (P.cellsOf e) es],.one (.list q1 q2.symm hc.2.1 trivial),⟨?_,⟨⟨?_,f2⟩,rfl,rfl,rfl⟩,trivial⟩,by simp [Value.oneCell']⟩
           ·simp only [aR.fits,Bool.and_eq_true,Bool.or_eq_true]
            exact ⟨.inl (Nat.beq_refl _),f1⟩
           ·have:es.length≤maxLen:=by rw [q2]; omega
            show (es.map pe.bA).length≤maxLen
            rw [List.length_map]
            exact this
         ·cases hy
       | pointer a=>cases a <;> cases hy
       | map a=>cases a <;> cases hy
       | chan a=>cases a <;> cases hy
       | _=>cases hy
    ·cases h
   ·cases h
  ·rename_i fs hu
   rw [hu] at hy
   have hy:(if cs.length=P.cellsOf t then (fs.toList.mapM fun f=>DataW.trod enc P w base spare held sh f.type ((cs.drop f.offset).take (P.cellsOf f.type))).map fun xs=>(.agg (xs.map (·.1)),xs.flatMap (·.2)) else none)=some y:=hy
   split at hy
   ·rename_i hl
    obtain ⟨h1,h2⟩:=bq h
    cases hm:fs.toList.mapM fun f=>DataW.trod enc P w base spare held sh f.type ((cs.drop f.offset).take (P.cellsOf f.type)) with
    | none=>rw [hm] at hy; cases hy
    | some ys=>
     cases ht:tn Field.offset (fun f=>P.cellsOf f.type) 0 fs.toList with
     | none=>rw [ht] at h1; cases h1
     | some m=>
      rw [ht] at h1
      have h1:=Nat.eq_of_beq_eq_true (show Nat.beq m (P.cellsOf t)=true from h1)
      obtain ⟨_,mo,q1,q2,q3⟩:=ze (R:=om w) (w:=w) (off:=Field.offset) (len:=fun f=>P.cellsOf f.type) (cs:=cs) (fun x ps y hx hy'=>tq AJ n hx hy') ht h2 hm
      rw [h1,← hl] at q1 q3
      simp only [List.drop_zero,Nat.sub_zero,List.take_length] at q1 q3
      exact ⟨mo,q1,q2,q3⟩
   ·cases hy
  ·rename_i m e hu
   rw [hu] at hy
   have hy:(if cs.length=P.cellsOf t then ((List.range m).mapM fun i=>DataW.trod enc P w base spare held sh e ((cs.drop (i * P.cellsOf e)).take (P.cellsOf e))).map fun xs=>(.agg (xs.map (·.1)),xs.flatMap (·.2)) else none)=some y:=hy
   split at hy
   ·rename_i hl
    obtain ⟨h1,h2⟩:=bq h
    cases hm:(List.range m).mapM fun i=>DataW.trod enc P w base spare held sh e ((cs.drop (i * P.cellsOf e)).take (P.cellsOf e)) with
    | none=>rw [hm] at hy; cases hy
    | some ys=>
     cases ht:tn (fun i=>i * P.cellsOf e) (fun _=>P.cellsOf e) 0 (List.range m) with
     | none=>rw [ht] at h1; cases h1
     | some k=>
      rw [ht] at h1
      have h1:=Nat.eq_of_beq_eq_true (show Nat.beq k (P.cellsOf t)=true from h1)
      obtain ⟨_,mo,q1,q2,q3⟩:=ze (R:=om w) (w:=w) (off:=fun i=>i * P.cellsOf e) (len:=fun _=>P.cellsOf e) (cs:=cs) (fun x ps y hx hy'=>tq AJ n hx hy') ht h2 hm
      rw [h1,← hl] at q1 q3
      simp only [List.drop_zero,Nat.sub_zero,List.take_length] at q1 q3
      exact ⟨mo,q1,q2,q3⟩
   ·cases hy
  ·cases h
def Vg (P:Program) (n:Nat) (t:TypeId):Option aR:=match P.underlying t with
 | some u=>match I1 P n t with
  | some ps=>to (Go.Am.kh u) ps
  | none=>none
 | none=>none
theorem O9 (AJ:∀ b,spare b=true) {n:Nat} {t:TypeId} {p:aR} (hp:Vg P n t=some p) {v:Value} {d:DataW H} {pl:List MemPlace} {r:Reach} {base':Nat} (ht:DataW.Trod enc P w base spare held t v d pl) (eD:Value.okWide P w r base' t v) :
  ∃ x:p.T,Rel (om w) w (p.enc x) v∧p.wf x:=by
 obtain ⟨sh,ht⟩:=ht
 have fin:∀ {a:AV},p.fits a=true→p.wf (p.bA a)→Rel (om w) w a v→∃ x:p.T,Rel (om w) w (p.enc x) v∧p.wf x:=fun {a} h1 h2 h3=>⟨p.bA a,(p.dc h1).ia _ _ _ h3,h2⟩
 unfold Vg at hp
 split at hp
 ·rename_i u hu
  split at hp
  ·rename_i ps h1
   obtain ⟨mo,q1,q2,q3⟩:=tq AJ n h1 ht
   obtain ⟨x,hx,f1,f2⟩:=DM hp q2
   cases BD:Go.Am.kh u with
   | true=>
    rw [BD] at hx
    simp only [if_true] at hx
    subst hx
    have:∃ cs,v=.agg cs:=by
     unfold Value.okWide at eD
     rw [hu] at eD
     cases u <;> first | (cases BD; done) | (obtain ⟨cs,h,_⟩:=eD; exact ⟨cs,h⟩)
    obtain ⟨⟨cs⟩,rfl⟩:=this
    exact fin f1 f2 (.agg q1 q3)
   | false=>
    rw [BD] at hx
    simp only [Bool.false_eq_true,if_false] at hx
    subst hx
    have hv:v.cells.toList=[v]:=by
     cases v with
     | agg cs=>
      exfalso
      unfold Value.okWide at eD
      rw [hu] at eD
      cases u <;> first | (cases BD; done) | (simp [Cell.okWide,Cell.ok,hu] at eD)
     | _=>rfl
    rw [hv] at q1
    cases q1 with
    | cons q1 _=>exact fin f1 f2 q1
  ·cases hp
 ·cases hp
def DN (P:Program) (n:Nat):List TypeId→Option (List aR)
 | []=>some []
 | t :: l=>match Vg P n t,DN P n l with
  | some p,some r=>some (p :: r)
  | _,_=>none
theorem DO (AJ:∀ b,spare b=true) {n:Nat} {r:Reach} {base':Nat}:∀ {ts:List TypeId} {ps:List aR} {vs:List Value} {ds:List (DataW H)} {pl:List MemPlace},DN P n ts=some ps→DataW.TrodAll enc P w base spare held ts vs ds pl →
  (∀ (j:Nat) t v,ts[j]?=some t→vs[j]?=some v→Value.okWide P w r base' t v)→∃ x:(lC ps).T,aQ (om w) w ((lC ps).enc x) vs∧(lC ps).wf x
 | [],ps,vs,ds,pl,hp,ht,_=>by
  simp only [DN] at hp
  cases hp
  cases vs with
  | nil=>exact ⟨(),.nil,trivial⟩
  | cons _ _=>cases ds <;> exact ht.elim
 | t :: ts,ps,vs,ds,pl,hp,ht,eD=>by
  unfold DN at hp
  split at hp
  ·rename_i p r h1 h2
   cases hp
   cases vs with
   | nil=>cases ds <;> exact ht.elim
   | cons v vs=>
    cases ds with
    | nil=>exact ht.elim
    | cons d ds=>
     obtain ⟨p1,p2,k1,k2,_⟩:=ht
     obtain ⟨x,q1,q2⟩:=O9 AJ h1 k1 (eD 0 t v rfl rfl)
     obtain ⟨y,q3,q4⟩:=DO AJ h2 k2 (fun j t v hj hv=>eD (j+1) t v (by simpa using hj) (by simpa using hv))
     cases r with
     | nil=>
      cases q3
      exact ⟨x,.one q1,q2⟩
     | cons p' r=>exact ⟨(x,y),.cons q1 q3,q2,q4⟩
  ·cases hp
end read
end Go.Am
namespace Go.Am
open Go Go.RowKit Go.WideShapes Go.ChangeShapes
section
variable {H:Type} {enc:TypeId × Value→H} {P:Program}
theorem Gc {f:Func} {s:ChangeSpec} {apart fresh handsOn again:Bool} {W W':World} {args:Array Value} {v:Value} {ds gs:List (DataW H)} {before pa pv:List MemPlace}
  (hW:DataW.Whole enc P f.params.toList s.vars apart W args.toList ds gs before)
  (FH:∀ (b:Nat) (sp:Nat→Bool) (hd:Bool),DataW.TrodAll enc P W' b sp hd f.resultTypes.toList (v.resultList f.resultTypes.size) (s.fn H (ds++gs)).results [])
  (rm:∀ sp:Nat→Bool,(∀ p∈before,sp p.block=true)→DataW.TrodAll enc P W' 0 sp true f.params.toList args.toList (s.fn H (ds++gs)).args pa)
  (DP:∀ sp:Nat→Bool,(∀ p∈before,sp p.block=true)→DataW.TrodVars enc P W' sp s.vars (s.fn H (ds++gs)).vars pv)
  (JG:before=pa++pv) (hb:Below W.heap.size W W')
  (eD:∀ (j:Nat) (t:TypeId) (r:Value),f.resultTypes[j]?=some t→(v.resultList f.resultTypes.size)[j]?=some r→Value.okWide P W' .any 0 t r) :
  s.post enc P f apart fresh handsOn again W args v W':=by
 have cu:∀ p∈before,p.block < W.heap.size:=fun p hp=>hW.lt p hp
 have hold:∀ p∈before,(fun b=>decide (b < W.heap.size)) p.block=true:=fun p hp=>by simpa using cu p hp
 refine ⟨ds,gs,before,[],pa,pv,hW,FH _ _ _,rm _ hold,DP _ hold,World.keptBut_mono (fun p hp=>⟨hp,?_⟩) (hb.frame (·∈before)),fun _=>?_⟩
 ·rw [JG,List.mem_append] at hp
  exact Or.inr hp
 ·obtain ⟨_,_,_,_,_,hz,hn⟩:=hW
  refine ⟨eD,_,_,([]++pa)++pv,⟨[]++pa,pv,trodAll_append (rm _ (fun _ _=>rfl)) (FH _ _ _),DP _ (fun _ _=>rfl),rfl,?_,?_⟩,?_⟩
  ·intro b off hp
   have AI:MemPlace.cell b off∈before:=by rw [JG]; simpa using hp
   rw [hb.frozen (cu _ AI)]
   exact hz b off AI
  ·intro ha
   have:=hn ha
   rw [JG] at this
   simpa using this
  ·intro p hp _
   rw [JG]
   simpa using hp
theorem rF (hl:laidOutB P=true) {W W':World} (hb:Below W.heap.size W W') {sp:Nat→Bool}:∀ {ts:List TypeId} {vs:List Value} {ds:List (DataW H)} {pl:List MemPlace},
  (∀ t∈ts,P.readableRec t=true∧t < P.types.size)→DataW.TrodAll enc P W 0 (fun _=>true) true ts vs ds pl→(∀ p∈pl,p.block < W.heap.size)→(∀ p∈pl,sp p.block=true) →
  DataW.TrodAll enc P W' 0 sp true ts vs ds pl
 | [],[],[],_,_,h,_,_=>h
 | t :: ts,v :: vs,d :: ds,pl,hr,h,cu,AJ=>by
  obtain ⟨p,q,h1,h2,rfl⟩:=h
  refine ⟨p,q,?_,rF hl hb (fun t ht=>hr t (by simp [ht])) h2 (fun x hx=>cu x (by simp [hx])) (fun x hx=>AJ x (by simp [hx])),rfl⟩
  exact WideElems.Trod_stays hl (hr t (by simp)).1 (hr t (by simp)).2 h1 (fun x hx=>hb.same (cu x (by simp [hx]))) (fun x hx=>AJ x (by simp [hx]))
 | [],[],_ :: _,_,_,h,_,_=>h.elim
 | [],_ :: _,_,_,_,h,_,_=>h.elim
 | _ :: _,[],_,_,_,h,_,_=>h.elim
 | _ :: _,_ :: _,[],_,_,h,_,_=>h.elim
theorem I2 {E:Env} {f:FuncId} {fn:Func} {s:ChangeSpec} {ps:List aR} {apart fresh handsOn again:Bool} {W:World} {base:Nat} {args:Array Value} {ds gs:List (DataW H)} {before:List MemPlace} {n tb:Nat}
  (adE:∀ x,(lC ps).wf x→a7 E f ((lC ps).enc x) (fun r=>r=.bool true)) (ZH:DN E.P n fn.params.toList=some ps)
  (I3:∀ (j:Nat) t v,fn.params[j]?=some t→args[j]?=some v→Value.okWide E.P W .any base t v)
  (hW:DataW.Whole enc E.P fn.params.toList s.vars apart W args.toList ds gs before) (ZI:∀ g cs,E.cm g=some cs→eN (om W) W g 0 cs)
  (DP:s.vars=[]) (AJ:∀ ds:List (DataW H),ds.length=fn.params.toList.length→s.fn H ds={ results:=[.lit (.bool true)],args:=ds })
  (FH:fn.resultTypes=#[tb]) (hub:E.P.underlying tb=some .bool) (hl:laidOutB E.P=true) (hr:∀ t∈fn.params.toList,E.P.readableRec t=true∧t < E.P.types.size) (CW:E.lo=0:=by rfl) (O7:∀ g cs,E.cm g=some cs→E.gx g=true→g < W.heap.size∧W.cell? ⟨g,cs.length,none⟩=none:=by intro _ _ _ h; exact Bool.noConfusion (show false=true from h)) :
  Calls E.P f args W fun e W'=>∃ v,e=.returned v∧s.post enc E.P fn apart fresh handsOn again W args v W':=by
 have hW0:=hW
 obtain ⟨p,q,hA,hV,rfl,hfz,hnd⟩:=hW
 obtain ⟨rfl,rfl⟩:gs=[]∧q=[]:=by
  rw [DP] at hV
  cases gs with
  | nil=>exact ⟨rfl,hV⟩
  | cons g r=>exact absurd hV (by intro h; cases h)
 obtain ⟨x,hx,Yh⟩:=DO (fun _=>rfl) (n:=n) ZH hA (r:=.any) (base':=base) (fun j t v hj hv=>I3 j t v (by simpa using hj) (by simpa using hv))
 have hlen:ds.length=fn.params.toList.length:=by
  clear I3 hfz hnd hW0 hx Yh AJ ZH hr
  revert hA
  generalize fn.params.toList=ts
  generalize args.toList=vs
  generalize p=pl
  clear p
  intro hA
  induction ts generalizing vs ds pl with
  | nil=>cases vs <;> cases ds <;> first | rfl | exact hA.elim
  | cons t ts ih=>
   cases vs with
   | nil=>cases ds <;> exact hA.elim
   | cons v vs=>
    cases ds with
    | nil=>exact hA.elim
    | cons d ds=>
     obtain ⟨p,q,_,h2,_⟩:=hA
     simp [ih vs q h2]
 have hG:dQ E (om W) W []:=⟨rfl,fun id go ro h=>by simp [nth] at h,fun i j ri rj b h=>by simp [om,nth] at h,fun b o h=>h,fun g cs hg=>⟨ZI g cs hg,fun hx=>O7 g cs hg hx⟩,by rw [CW]; exact Nat.zero_le _⟩
 have hc:=(adE x Yh [])
 refine (callsIn_wide.1 (hc.2 (om W) W args.toList hG hx)).mono fun e W' he=>?_
 cases e with
 | panicked c=>exact he.elim
 | outgrown=>exact he.elim
 | returned c=>
  obtain ⟨r,G',R',⟨_,rfl⟩,fb,_,st⟩:=he
  cases fb
  have hb:Below W.heap.size W W':=⟨st.os,st.tape,st.output,st.size,fun k hk=>st.bJ k hk fun ho=>by
   obtain ⟨id,ro,h1,_⟩:=fE ho
   simp [om,nth] at h1⟩
  have cu:∀ y∈p,y.block < W.heap.size:=fun y hy=>by simpa using hW0.lt y (by simpa using hy)
  have e1:s.fn H (ds++[])={ results:=[.lit (.bool true)],args:=ds }:=by rw [List.append_nil]; exact AJ ds hlen
  refine ⟨_,rfl,Gc (pa:=p) (pv:=[]) hW0 ?_ ?_ ?_ rfl hb ?_⟩
  ·intro b sp hd
   rw [e1,FH]
   exact trodAll_mk1 (shut_bool hub true)
  ·intro sp adG
   rw [e1]
   exact rF hl hb hr hA cu (fun y hy=>adG y (by simpa using hy))
  ·intro sp _
   rw [e1,DP]
   rfl
  ·intro j t r hj kQ
   rw [FH] at hj kQ
   cases j with
   | succ j=>simp at hj
   | zero=>
    simp at hj
    subst hj
    have:r=.bool true:=by simpa [Value.resultList] using kQ.symm
    subst this
    simp [Value.okWide,Cell.okWide,Cell.ok,hub]
end
end Go.Am
namespace Go.Am
open Go
section
variable {P:Program} {W:World}
theorem uF {g:Nat} {cs:Array Value} {k:IntKind} (hg:g < W.heap.size):∀ (xs:List Int) (o:Nat),(∀ i,i < xs.length→W.cell? ⟨g,o+i,none⟩=some (.int k (xs[i]?.getD 0)))→eN (om W) W g o (xs.map fun x=>.int k x)
 | [],_,_=>.nil
 | x :: xs,o,h=>.cons (h 0 (by simp)) rfl hg (.int k x) (uF (cs:=cs) hg xs (o+1) fun i hi=>by
   have:=h (i+1) (by simpa using hi)
   rw [show o+1+i=o+(i+1) by omega]
   simpa using this)
end
end Go.Am
namespace Go.Am
open Go
theorem dp {p:aR} (hp:p.plain=true) (l:List p.T):allFit p.fits (List.map p.enc l)=true:=by
 induction l with
 | nil=>rfl
 | cons x l ih=>simp [allFit,ih,(p.bH x hp).1]
theorem fW {p:aR} (hp:p.plain=true) (l:List p.T):List.map p.bA (List.map p.enc l)=l:=by
 induction l with
 | nil=>rfl
 | cons x l ih=>simp [ih,(p.bH x hp).2]
end Go.Am
namespace Go.Am
open Go Go.RowKit
section
variable {E:Env} {R:an} {w w':World}
theorem Below.Vh (h:Below w.heap.size w w') (wf:∀ b o,R.I b o→b < w.heap.size):Ext R w R w':=
 ⟨fun _ _ h=>h,fun b o hi=>ca (h.block b (wf b o hi)) o,fun _ ro h=>⟨ro,h,cJ.refl ro⟩,.old fun b hb=>h.block b hb⟩
theorem Below.I4 {G:List GO} (h:Below w.heap.size w w') (hg:dQ E R w G) (hE:E.lo=0):dQ E R w' G:=
 hg.bJ (Below.Vh h hg.wf) rfl (fun b hb=>h.block b (hg.b8 hb)) (fun _ _ _ hi=>hi) (fun b o hi=>Nat.lt_of_lt_of_le (hg.wf b o hi) h.size) (fun _=>by rw [hE]; exact Nat.zero_le _)
theorem Below.Bb {β:Nat→Nat} {bx:cP} (h:Below w.heap.size w w') (wf:∀ b o,R.I b o→b < w.heap.size):Step R w β bx R w' β bx:=
 ⟨Below.Vh h wf,h.os,h.tape,h.output,h.size,fun b hb _=>h.block b hb,fun _ _ ho=>ho,fun _ _ hi _ _=>hi⟩
theorem a7.below {g:FuncId} {args:List AV} {r:AV} (hp:Plain E.P g)
  (h:∀ (R:an) (w:World) (cs:List Value),aQ R w args cs→Calls E.P g ⟨cs⟩ w (fun e w'=>∃ v,e=.returned v∧(∀ R,Rel R w' r v)∧Below w.heap.size w w')) (hE:E.lo=0):a7 E g args (fun r'=>r'=r):=fun G=>
 ⟨hp,fun R w cs hg hl=>callsIn_wide.2 ((h R w cs hl).mono fun e w' ⟨v,he,hv,hb⟩=>by
  subst he
  exact ⟨r,G,R,⟨rfl,rfl⟩,hv R,Below.I4 hb hg hE,Below.Bb hb hg.wf⟩)⟩
theorem Plain.of {P : Program} {g : FuncId} {fn : Func} (h : P.funcs[g]? = some fn) (h1 : fn.body.isNone = false) (h2 : (fn.name == "runtime.NumGoroutine") = false) : Plain P g := ⟨fn, h, h1, h2⟩
end
def p2 (a b:aR):aT:=.cons a (.cons b .nil)
def p1 (a:aR):aT:=.cons a .nil
def I5:List UInt8 × List UInt8→Option (List UInt8)
 | (s,[c])=>bif Nat.blt c.toNat 128 then some (s.dropWhile (· == c)) else none
 | _=>none
def Vi (n:Int):List UInt8:=bif decide (n < 10) then [UInt8.ofNat (48+n.toNat)] else [UInt8.ofNat (48+n.toNat / 10),UInt8.ofNat (48+n.toNat % 10)]
def I6:aS:=⟨p2 .str .str,.str,I5⟩
section
variable {E:Env}
theorem DQ {g:FuncId} (hp:Plain E.P g)
  (h:∀ (s:ByteArray) (c:UInt8),c.toNat < 128→∀ w:World,Calls E.P g #[.string s,.string ⟨#[c]⟩] w fun e w'=>e=.returned (.string ⟨(s.data.toList.dropWhile (· == c)).toArray⟩)∧w'=w) (hE:E.lo=0:=by rfl):ak E g I6:=fun x y hT=>by
 obtain ⟨s,c⟩:=x
 match c,hT with
 | [c],hT=>
  obtain ⟨h1,h2⟩:=cond_some' hT
  subst h2
  refine a7.below hp (fun R w cs hl=>?_) hE
  cases hl with
  | cons a1 hl=>
  cases hl with
  | cons a2 hl=>
  cases hl
  cases a1; cases a2
  refine (h ⟨⟨s⟩⟩ c (Nat.le_of_ble_eq_true h1) w).mono ?_
  rintro e w' ⟨rfl,rfl⟩
  exact ⟨_,rfl,fun _=>Rel.str _,Below.refl _ _⟩
where
 cond_some' {c:Bool} {a x:List UInt8} (h:(bif c then some a else none)=some x):c=true∧a=x:=by
  cases c
  ·cases h
  ·exact ⟨rfl,Option.some.inj h⟩
end
end Go.Am
namespace Go.Am
open Go Go.RowKit Go.Proofs Go.Shelf
section
variable {E:Env} {R:an} {w w':World}
theorem DR {b:Nat} {x y v:Value} {el:TypeId} {fz:Nat × Nat} (h:w.heap[b]?=some (.cells #[x,y] el fz)):w.setCell ⟨b,0,none⟩ v=w.setRow b #[v,y]:=by
 unfold World.setCell World.setRow
 congr 1
 apply Array.ext
 ·simp
 ·intro i h1 h2
  rw [Array.getElem_modify,Array.getElem_modify]
  by_cases e:b=i
  ·subst e
   have cu:b < w.heap.size:=bn h
   have hv:w.heap[b]=.cells #[x,y] el fz:=(Array.getElem?_eq_some_iff.1 h).2
   simp [hv]
  ·simp [e]
theorem dQ.AW {G:List GO} (h:dQ E R w G):bo E R w (fun _=>0) ⟨[],fS,G,[],none,0⟩ { tmps:=#[],defers:=[] }:=
 ⟨h,⟨fun k cs hk=>by simp [fS,dO] at hk,fun k k' cs cs' hk=>by simp [fS,dO] at hk⟩,fun i hi=>absurd rfl hi,rfl,trivial⟩
def ZJ (id:Nat):AV→Bool
 | .jd=>true
 | .ptr i 0=>Nat.beq i id
 | _=>false
def ccF (ty:Nat) (args:List AV) (G:List GO):Option (Bool × AV × List GO):=match args with
 | [.ptr id 0]=>match nth G id with
  | some (.row [c,b] el)=>some (Nat.beq el ty&&ZJ id c,.bp [],aF G id (.row [.ptr id 0,b] el))
  | _=>none
 | _=>none
theorem Vj {ρ:Ren} (L:Lays.n240 E.P ρ) (X:Builder.X72 E.P ρ) (args:List AV) (G:List GO) (r:AV) (G':List GO) (h:ccF (ρ.t 72) args G=some (true,r,G')):cB E (ρ.f 240) args G (fun r' A6=>r'=r∧A6=G'):=by
 refine ⟨⟨_,L.f240,rfl,rfl⟩,fun R w cs hg hl=>callsIn_wide.2 ?_⟩
 unfold ccF at h
 split at h
 ·rename_i id
  cases hl with
  | cons a1 hl=>
  cases hl
  cases a1 with
  | @ptr _ _ b hb=>
  split at h
  ·rename_i cv bv el hid
   injection h with h; injection h with h1 h; injection h with h2 h3
   rw [Bool.and_eq_true] at h1
   obtain ⟨h1,EE⟩:=h1
   have h1:=Nat.eq_of_beq_eq_true h1
   subst h1; subst h2; subst h3
   obtain ⟨vs,k1,k2,k3,k4⟩:=hg.obj id _ _ hid hb
   cases k2 with
   | @cons _ c1 _ _ q1 k2=>
   cases k2 with
   | @cons _ c2 _ _ q2 k2=>
   cases k2
   unfold ZJ at EE
   split at EE
   case h_3=>cases EE
   case h_2 i=>
    have EE:=Nat.eq_of_beq_eq_true EE
    subst EE
    cases q1 with
    | @ptr _ _ b' jB=>
    rw [hb] at jB
    cases jB
    refine (Any.Builder_copyCheck_used L X b w (by simp [World.cell?,k1])).mono fun e w' ⟨he,hw⟩=>?_
    subst he; subst hw
    rw [jU hid]
    exact ⟨.bp [],G,R,⟨rfl,rfl⟩,Rel.bp .nil,hg,Step.refl _ _ _ _⟩
   cases q1
   have FF:∀ v∈[Value.pointer (some ⟨b,0,none⟩),c2],v.oneCell'=true:=by
    intro v hv
    rcases List.mem_cons.1 hv with rfl | hv
    ·rfl
    ·exact k3 v (by rw [List.mem_singleton.1 hv]; simp)
   refine (Any.Builder_copyCheck_fresh L X b w (by simp [World.cell?,k1]) (by simp [World.shape?,k1]) (by simp [World.frozen?,k1])).mono fun e w' ⟨he,hw⟩=>?_
   subst he
   rw [DR k1] at hw
   subst hw
   obtain ⟨r1,r2⟩:=(dQ.AW hg).setRow (cs':=[.ptr id 0,bv]) (us:=[.pointer (some ⟨b,0,none⟩),c2]) hid hb k1 (.cons (Rel.ptr hb) (.cons q2 .nil)) FF
   exact ⟨.bp [],_,R,⟨rfl,rfl⟩,Rel.bp .nil,r1.g,r2⟩
  ·cases h
 ·cases h
def ccE {ρ:Ren} (L:Lays.n240 E.P ρ) (X:Builder.X72 E.P ρ):mI E (ρ.f 240):=⟨ccF (ρ.t 72),Vj L X⟩
theorem DS (a:Addr) (n:Nat) (b o:Nat):(w.freeze a n).cell? ⟨b,o,none⟩=w.cell? ⟨b,o,none⟩:=by
 unfold World.freeze
 split
 ·rfl
 ·simp only [World.cell?,Array.getElem?_modify]
  by_cases e:a.block=b
  ·subst e
   simp only [if_true]
   cases h:w.heap[a.block]? with
   | none=>rfl
   | some x=>cases x <;> simp
  ·simp [e]
theorem DU {a:Addr} {n:Nat} {b:Nat} (h:b≠a.block):(w.freeze a n).heap[b]?=w.heap[b]?:=by
 unfold World.freeze
 split
 ·rfl
 ·simp only [Array.getElem?_modify]
  rw [if_neg (Ne.symm h)]
theorem DV (a:Addr) (n:Nat):(w.freeze a n).heap.size=w.heap.size:=by
 unfold World.freeze
 split <;> simp
set_option maxHeartbeats 2000000 in
set_option maxRecDepth 100000 in
theorem Cj {P:Program} {ρ:Ren} (L:Lays.n169 P ρ) (X:Builder.Extra P ρ) (b g cap:Nat) (p:Value) (cur:Array Value) (l:List UInt8) (w:World) (h0:l≠[])
  (hbk:w.heap[b]?=some (.cells #[p,.slice (some ⟨g,0,none⟩) l.length cap] (ρ.t 72) (0,0))) (hg:w.heap[g]?=some (.cells cur (ρ.t 5) (0,0))) (hnc:l.length≤cap) (YY:cap≤maxLen) (ql:cur.size=cap)
  (gD:∀ (j:Nat) (x:UInt8),l[j]?=some x→w.cell? ⟨g,j,none⟩=some (.int .u8 x.toNat)) :
  Calls P (ρ.f 169) #[.pointer (some ⟨b,0,none⟩)] w fun e w'=>e=.returned (.string ⟨l.toArray⟩)∧w'=w.drew.freeze ⟨g,0,none⟩ l.length:=by
 have xD:l.length≠0:=by simpa using h0
 have c1:w.drew.cell? ⟨b,1,none⟩=some (.slice (some ⟨g,0,none⟩) l.length cap):=by
  have:w.drew.heap[b]?=some (.cells #[p,.slice (some ⟨g,0,none⟩) l.length cap] (ρ.t 72) (0,0)):=hbk
  rw [Lib.cell_of_heap this]; rfl
 have hSD:(Builtin.unsafeSliceData_ #[(ρ.t 37)] (ρ.t 127) #[.slice (some ⟨g,0,none⟩) l.length cap]).run P w.drew=.ok (.pointer (some ⟨g,0,none⟩)) w.drew:=
  Lib.run_unsafeSliceData_row _ _ _ _ _ _ (by omega)
 have hUS:(Builtin.unsafeString_ #[(ρ.t 127),(ρ.t 3)] (ρ.t 9) #[.pointer (some ⟨g,0,none⟩),.int .i64 l.length]).run P w.drew=.ok (.string ⟨l.toArray⟩) (w.drew.freeze ⟨g,0,none⟩ l.length):=by
  refine Lib.run_unsafeString_row w.drew (ρ.t 127) (ρ.t 3) (ρ.t 9) (ρ.t 5) L.t127 X.cellsByte g cur.size (by have rL:w.drew.heap[g]?=some (.cells cur (ρ.t 5) (0,0)):=hg; simp [World.shape?,rL]) l h0 (by omega) (by unfold maxLen at YY; omega) ?_
  intro j x hx
  have:=gD j x hx
  rw [cL,Nat.zero_add]
  exact this
 have mixed:=L.mixed
 have t72:=L.t72; have a72:=L.a72; have z72:=L.z72; have v72:=L.v72; have u72:=run_underlying L.t72
 have t70:=L.t70; have a70:=L.a70; have z70:=L.z70; have v70:=L.v70; have u70:=run_underlying L.t70
 have t37:=L.t37; have a37:=L.a37; have z37:=L.z37; have v37:=L.v37; have u37:=run_underlying L.t37
 have t127:=L.t127; have a127:=L.a127; have z127:=L.z127; have v127:=L.v127; have ah1:=run_underlying L.t127
 have t3:=L.t3; have a3:=L.a3; have z3:=L.z3; have v3:=L.v3; have u3:=run_underlying L.t3
 have t9:=L.t9; have a9:=L.a9; have z9:=L.z9; have v9:=L.v9; have u9:=run_underlying L.t9
 have t5:=X.t5; have a5:=X.a5; have z5:=X.z5; have v5:=X.v5; have u5:=run_underlying X.t5
 clear gD
 go_enter L.f169,Body.n169_ntmps ρ
 go_wp2
 go_region_o
 all_goals (go_wp2; go_ret; exact ⟨rfl,rfl⟩)
theorem dQ.frozen {G:List GO} (hg:dQ E R w G) {t f sz el g c n:Nat} (_ht:nth G t=some (.tok f sz el)) (hr:nth R.obj t=some (.tok f g c)) {cur:Array Value} {fz:Nat × Nat} (hc:w.heap[g]?=some (.cells cur el fz)) :
  dQ E R (w.drew.freeze ⟨g,0,none⟩ n) (aF G t .dead)∧Step R w (fun _=>0) fS R (w.drew.freeze ⟨g,0,none⟩ n) (fun _=>0) fS:=by
 have hl:Live R g:=⟨t,_,hr,rfl⟩
 have bJ:∀ b,b≠g→(w.drew.freeze ⟨g,0,none⟩ n).heap[b]?=w.heap[b]?:=fun b hb=>DU (w:=w.drew) (a:=⟨g,0,none⟩) hb
 have fu:(w.drew.freeze ⟨g,0,none⟩ n).heap.size=w.heap.size:=DV (w:=w.drew) _ _
 have e:Ext R w R (w.drew.freeze ⟨g,0,none⟩ n):=⟨fun _ _ h=>h,fun b o _=>DS (w:=w.drew) _ _ b o,fun _ ro h=>⟨ro,h,cJ.refl ro⟩,fun b r hb=>⟨r,by
  by_cases e:b=g
  ·subst e; rw [hc] at hb; cases hb
  ·rw [bJ b e]; exact hb,rfl,rfl,rfl,rfl,rfl⟩⟩
 have hos:∀ (v:World) (a:Addr) (m:Nat),(v.freeze a m).os=v.os∧(v.freeze a m).tape=v.tape∧(v.freeze a m).output=v.output∧(v.freeze a m).drawn=v.drawn:=by
  intro v a m
  unfold World.freeze
  split <;> exact ⟨rfl,rfl,rfl,rfl⟩
 refine ⟨⟨by rw [iP]; exact hg.len,fun id go ro q1 q2=>?_,hg.inj,fun b o hi=>by rw [fu]; exact hg.wf b o hi,fun x cs hx=>(hg.cm x cs hx).mono e,by rw [(hos _ _ _).2.2.2]; exact Nat.le_succ_of_le hg.lo⟩,⟨e,(hos _ _ _).1,(hos _ _ _).2.1,(hos _ _ _).2.2.1,by rw [fu]; exact Nat.le_refl _,fun b hb hn=>bJ b (fun e=>hn (e ▸ .inl hl)),fun _ _ ho=>ho,fun _ _ hi _ _=>hi⟩⟩
 rcases dE q1 with ⟨rfl,rfl,_⟩ | ⟨cD,q1⟩
 ·rw [hr] at q2
  cases q2
  show g < _
  rw [fu]
  exact bn hc
 ·refine (hg.obj id go ro q1 q2).mono e (fun b hb=>bJ b (fun e=>cD ?_)) (fun _ _ _ hi=>hi)
  subst e
  exact hg.inj t id _ _ b hr q2 rfl hb
theorem zf {b:Nat}:∀ {es:List AV} {o:Nat},gQ R w b o 1 es→allFit (aR.fits (.int .u8)) es=true→∀ (j:Nat) (e:AV),es[j]?=some e→w.cell? ⟨b,o+j,none⟩=some (.int .u8 e.lR)
 | [],_,_,_,j,x,h=>by simp at h
 | a :: xs,o,.cons _ _ _ hc t,hf,0,x,h=>by
  simp only [allFit,Bool.and_eq_true] at hf
  simp only [List.getElem?_cons_zero] at h
  cases h
  cases a <;> first | (cases hf.1; done) | skip
  have hk:IntKind.u8=_:=of_decide_eq_true (show Ub _ _=true from hf.1)
  subst hk
  cases hc with
  | cons h1 h2 h3 h4 h5=>
  cases h4
  exact h1
 | a :: xs,o,.cons _ _ _ hc t,hf,j+1,x,h=>by
  simp only [allFit,Bool.and_eq_true] at hf
  simp only [List.getElem?_cons_succ] at h
  have:=zf t hf.2 j x h
  rw [show o+(j+1)=o+1+j by omega]
  exact this
def Ck:List AV→Bool
 | []=>true
 | a :: l=>(match a with
  | .int .u8 n=>decide (0≤n)&&decide (n < 256)
  | _=>false)&&Ck l
theorem zg:∀ {es:List AV},Ck es=true→allFit (aR.fits (.int .u8)) es=true∧∀ e∈es,0≤e.lR∧e.lR < 256
 | [],_=>⟨rfl,fun e he=>by simp at he⟩
 | a :: l,h=>by
  simp only [Ck,Bool.and_eq_true] at h
  obtain ⟨h1,h2⟩:=zg h.2
  have ha:=h.1
  split at ha
  ·rename_i n
   rw [Bool.and_eq_true] at ha
   refine ⟨by simp only [allFit,h1,Bool.and_true]; rfl,fun e he=>?_⟩
   rcases List.mem_cons.1 he with rfl | he
   ·exact ⟨of_decide_eq_true ha.1,of_decide_eq_true ha.2⟩
   ·exact h2 e he
  ·cases ha
def Vk (ty:Nat) (args:List AV) (G:List GO):Option (Bool × AV × List GO):=match args with
 | [.ptr id 0]=>match nth G id with
  | some (.row [_,.list .nil _ _] el)=>some (Nat.beq el ty,.str [],G)
  | some (.row [_,.list (.own t) 1 es] el)=>match nth G t with
   | some (.tok f 1 e)=>some (Nat.beq el ty&&Nat.beq e 5&&!es.isEmpty&&decide (f=es.length)&&Ck es,.str (je es),aF G t .dead)
   | _=>none
  | _=>none
 | _=>none
theorem Pa {ρ:Ren} (L:Lays.n169 E.P ρ) (X:Builder.Extra E.P ρ) (h5:ρ.t 5=5) (hE:E.lo=0) (args:List AV) (G:List GO) (r:AV) (G':List GO) (h:Vk (ρ.t 72) args G=some (true,r,G')):cB E (ρ.f 169) args G (fun r' A6=>r'=r∧A6=G'):=by
 refine ⟨⟨_,L.f169,rfl,rfl⟩,fun R w cs hg hl=>callsIn_wide.2 ?_⟩
 unfold Vk at h
 split at h
 ·rename_i id
  cases hl with
  | cons a1 hl=>
  cases hl
  cases a1 with
  | @ptr _ _ b hb=>
  split at h
  ·rename_i pv _ es el hid
   injection h with h; injection h with h1 h; injection h with h2 h3
   have h1:=Nat.eq_of_beq_eq_true h1
   subst h1; subst h2; subst h3
   obtain ⟨vs,k1,k2,k3,k4⟩:=hg.obj id _ _ hid hb
   cases k2 with
   | @cons _ c1 _ _ q1 k2=>
   cases k2 with
   | @cons _ c2 _ _ q2 k2=>
   cases k2
   cases q2 with
   | list _ _ _ hk=>exact hk.elim
   | km=>
    refine (Any.Builder_String_nil L X w.heap.size b c1 w k1).mono fun e w' ⟨he,hw⟩=>?_
    subst he
    exact ⟨.str [],G,R,⟨rfl,rfl⟩,Rel.str _,Below.I4 hw hg hE,Below.Bb hw hg.wf⟩
  ·rename_i pv t es el hid
   split at h
   ·rename_i f e ht
    injection h with h; injection h with h1 h; injection h with h2 h3
    subst h2; subst h3
    simp only [Bool.and_eq_true] at h1
    obtain ⟨⟨⟨⟨h1,h4⟩,h6⟩,h7⟩,h8⟩:=h1
    have h1:=Nat.eq_of_beq_eq_true h1
    have h4:=Nat.eq_of_beq_eq_true h4
    have h7:=of_decide_eq_true h7
    subst h1; subst h4; subst h7
    obtain ⟨vs,k1,k2,k3,k4⟩:=hg.obj id _ _ hid hb
    cases k2 with
    | @cons _ c1 _ _ q1 k2=>
    cases k2 with
    | @cons _ c2 _ _ q2 k2=>
    cases k2
    cases q2 with
    | mV _ _=>simp at h6
    | @list _ _ _ g o len cap hE hlen iG hk=>
    subst hlen
    obtain ⟨ro,bU,vo⟩:=hk
    have cR:=hg.obj t _ _ ht bU
    cases ro with
    | none=>exact cR.elim
    | bN=>exact vo.elim
    | b9 _=>exact cR.elim
    | bk _=>exact cR.elim
    | tok f' g' c'=>
     obtain ⟨rfl,cur,jt,m1,m2,m3,m4⟩:=cR
     obtain ⟨rfl,rfl,rfl⟩:=vo.2 rfl
     obtain ⟨n1,n2⟩:=zg h8
     have X3:(je es).length=es.length:=List.length_map _
     have cD:es≠[]:=by intro e; rw [e] at h6; simp at h6
     have gD:∀ (j:Nat) (x:UInt8),(je es)[j]?=some x→w.cell? ⟨g,j,none⟩=some (.int .u8 x.toNat):=by
      intro j x hx
      unfold je at hx
      rw [List.getElem?_map] at hx
      cases he:es[j]? with
      | none=>rw [he] at hx; cases hx
      | some a=>
       rw [he] at hx
       cases hx
       have h1:=zf hE n1 j a he
       rw [Nat.zero_add] at h1
       have h2:=n2 a (List.mem_of_getElem? he)
       rw [h1]
       have:(UInt8.ofNat a.lR.toNat).toNat=a.lR.toNat:=by
        rw [UInt8.toNat_ofNat']
        omega
       show some (Value.int .u8 a.lR)=some (Value.int .u8 ((UInt8.ofNat a.lR.toNat).toNat:Int))
       rw [this,Int.toNat_of_nonneg h2.1]
     refine (Cj L X b g cap c1 cur (je es) w (by intro e; exact cD (List.eq_nil_of_length_eq_zero (by rw [← X3,e]; rfl))) (by rw [X3]; exact k1) (by rw [h5]; exact jt) (by rw [X3]; exact iG) m2 (by omega) gD).mono fun e w' ⟨he,hw⟩=>?_
     subst he
     subst hw
     obtain ⟨r1,r2⟩:=dQ.frozen (n:=(je es).length) hg ht bU jt
     exact ⟨.str (je es),_,R,⟨rfl,rfl⟩,Rel.str _,r1,r2⟩
   ·cases h
  ·cases h
 ·cases h
def adI {ρ:Ren} (L:Lays.n169 E.P ρ) (X:Builder.Extra E.P ρ) (h5:ρ.t 5=5) (hE:E.lo=0:=by rfl):mI E (ρ.f 169):=⟨Vk (ρ.t 72),Pa L X h5 hE⟩
end
end Go.Am
namespace Go.Am
open Go
theorem gk {x:Int} (h:-9223372036854775808≤x∧x≤9223372036854775807):IntKind.wrap .i64 x=x:=IntWalk.i64_in x (by omega)
def fL (N:Nat):Prop:=18446744073709551616≤N
theorem bB {V X:Type} (rd:V→Option (V ⊕ X)) (n:Nat) (v:V):aL rd (n+1) v=(rd v).bind fun o=>Sum.elim (fun v'=>aL rd n v') (fun x=>some x) o:=rfl
theorem fH {α:Type} (g:α→AV) (xs:List α) (k:Nat) (h:k < xs.length):ah (xs.map g) k=g xs[k]:=by
 unfold ah
 rw [bf,List.getElem?_map,List.getElem?_eq_getElem h]
 rfl
def foldI {S α Y:Type} (st:S→α→S ⊕ Y):S→List α→S ⊕ Y
 | s,[]=>.inl s
 | s,a :: l=>Sum.elim (fun s'=>foldI st s' l) (fun y=>.inr y) (st s a)
theorem lE {V X S α Y:Type} {rd:V→Option (V ⊕ X)} (l:List α) (E:S→Nat→V) (st:S→α→S ⊕ Y) (fin:S→X) (ex:Y→X) (P:S→Nat→Prop)
  (h:∀ s k (hk:k < l.length),P s k→rd (E s k)=some (Sum.map (fun s'=>E s' (k+1)) ex (st s l[k]))∧∀ s',st s l[k]=.inl s'→P s' (k+1))
  (h0:∀ s,P s l.length→rd (E s l.length)=some (.inr (fin s))) :
  ∀ n s k,k≤l.length→l.length < n+k→P s k→aL rd n (E s k)=some (Sum.elim fin ex (foldI st s (l.drop k)))
 | 0,s,k,hk,hn,_=>by omega
 | n+1,s,k,hk,hn,hP=>by
  rw [bB]
  by_cases cu:k < l.length
  ·obtain ⟨h1,h2⟩:=h s k cu hP
   rw [h1,List.drop_eq_getElem_cons cu]
   simp only [Option.bind_some,foldI]
   cases hs:st s l[k] with
   | inl s'=>
    simp only [Sum.map_inl,Sum.elim_inl]
    exact lE l E st fin ex P h h0 n s' (k+1) (by omega) (by omega) (h2 s' hs)
   | inr y=>simp only [Sum.map_inr,Sum.elim_inr]
  ·have:k=l.length:=by omega
   subst this
   rw [h0 s hP,List.drop_eq_nil_of_le (Nat.le_refl _)]
   rfl
theorem mq {V X S α:Type} {rd:V→Option (V ⊕ X)} (l:List α) (E:S→Nat→V) (f:S→α→S) (fin:S→X) (P:S→Nat→Prop)
  (h:∀ s k (hk:k < l.length),P s k→rd (E s k)=some (.inl (E (f s l[k]) (k+1)))∧P (f s l[k]) (k+1))
  (h0:∀ s,P s l.length→rd (E s l.length)=some (.inr (fin s))) :
  ∀ n s k,k≤l.length→l.length < n+k→P s k→aL rd n (E s k)=some (fin ((l.drop k).foldl f s))
 | 0,s,k,hk,hn,_=>by omega
 | n+1,s,k,hk,hn,hP=>by
  rw [bB]
  by_cases cu:k < l.length
  ·obtain ⟨h1,h2⟩:=h s k cu hP
   rw [h1,List.drop_eq_getElem_cons cu]
   simp only [Option.bind_some,Sum.elim_inl,List.foldl_cons]
   exact mq l E f fin P h h0 n _ (k+1) (by omega) (by omega) h2
  ·have:k=l.length:=by omega
   subst this
   rw [h0 s hP,List.drop_eq_nil_of_le (Nat.le_refl _)]
   rfl
theorem cW {V X:Type} {rd:V→Option (V ⊕ X)} (m:Nat) (E:Nat→V) (x:X) (h:∀ k,k < m→rd (E k)=some (.inl (E (k+1)))) (h0:rd (E m)=some (.inr x)) :
  ∀ n k,k≤m→m < n+k→aL rd n (E k)=some x
 | 0,k,hk,hn=>by omega
 | n+1,k,hk,hn=>by
  rw [bB]
  by_cases cu:k < m
  ·rw [h k cu]
   simp only [Option.bind_some,Sum.elim_inl]
   exact cW m E x h h0 n (k+1) (by omega) (by omega)
  ·have:k=m:=by omega
   subst this
   rw [h0]
   rfl
theorem aB {k n:Nat} (h:k < n):decide (0≤(k:Int)∧(k:Int) < (n:Int))=true:=by simp; omega
theorem a8 {k n:Nat} (h:k < n):decide ((k:Int) < (n:Int))=true:=by simpa using h
theorem bO (n:Nat):decide ((n:Int) < (n:Int))=false:=by simp
theorem bE {k:Nat} (h:k < 9223372036854775807):IntKind.wrap .i64 ((k:Int)+1)=((k+1:Nat):Int):=by rw [gk (by omega)]; simp
def CD (n lo hi:Int):Int:=if n < lo∨n > hi then 3 else 0
def aJ:List Int→Int
 | []=>0
 | x :: l=>if x=0 then aJ l else x
theorem fP {l:List Int}:aJ l=0↔∀ x∈l,x=0:=by
 induction l with
 | nil=>simp [aJ]
 | cons x l ih=>
  simp only [aJ,List.mem_cons,forall_eq_or_imp]
  by_cases h:x=0
  ·simp [h,ih]
  ·simp [h]
theorem oo {rd:Int→Option (Int ⊕ (Int ⊕ Unit))} (l:List Int)
  (h:∀ k (hk:k < l.length),rd (k:Int)=some (if l[k]=0 then .inl ((k+1:Nat):Int) else .inr (.inl l[k]))) (h0:rd (l.length:Int)=some (.inr (.inr ()))) (n:Nat) (hn:l.length < n) :
  ∃ o,aL rd n 0=some o∧Sum.elim (fun x=>x) (fun _=>0) o=aJ l:=by
 have key:=lE (rd:=rd) (S:=Unit) (Y:=Int) l (fun _ k=>(k:Int)) (fun _ x=>if x=0 then .inl () else .inr x) (fun _=>.inr ()) (fun x=>.inl x) (fun _ _=>True)
  (fun s k hk _=>⟨by rw [h k hk]; by_cases e:l[k]=0 <;> simp [e],fun _ _=>trivial⟩) (fun _ _=>h0) n () 0 (Nat.zero_le _) (by omega) trivial
 refine ⟨_,key,?_⟩
 rw [List.drop_zero]
 clear key h h0 hn
 induction l with
 | nil=>rfl
 | cons x l ih=>
  simp only [foldI,aJ]
  by_cases e:x=0
  ·simp only [e,if_true,Sum.elim_inl]; exact ih
  ·simp [e]
theorem iW {rd:Int→Option (Int ⊕ (Int ⊕ Unit))} (l:List Int)
  (h:∀ k (hk:k < l.length),rd (k:Int)=some (if l[k]=0 then .inl ((k+1:Nat):Int) else .inr (.inl l[k]))) (h0:rd (l.length:Int)=some (.inr (.inr ()))) (n:Nat) (hn:l.length < n) :
  aL rd n 0=some (if aJ l=0 then .inr () else .inl (aJ l)):=by
 have key:=lE (rd:=rd) (S:=Unit) (Y:=Int) l (fun _ k=>(k:Int)) (fun _ x=>if x=0 then .inl () else .inr x) (fun _=>.inr ()) (fun x=>.inl x) (fun _ _=>True)
  (fun s k hk _=>⟨by rw [h k hk]; by_cases e:l[k]=0 <;> simp [e],fun _ _=>trivial⟩) (fun _ _=>h0) n () 0 (Nat.zero_le _) (by omega) trivial
 rw [List.drop_zero] at key
 refine key.trans (congrArg some ?_)
 clear key h h0 hn
 induction l with
 | nil=>rfl
 | cons x l ih=>
  simp only [foldI,aJ]
  by_cases e:x=0
  ·simp only [e,if_true,Sum.elim_inl]; exact ih
  ·simp [e]
end Go.Am
