/- The abstract machine: the evaluator is sound. -/
import Derived.Test.YtfiopgedfcaodaaGreatDoorAmKI
import GoSem.ClaimJoined
import Derived.Below
import Derived.ChangeSame
import Derived.Carry
import Derived.RowKit
import Derived.FnData
import Derived.Lib.Builder
import Derived.Lib.UnsafeStr
import Derived.Shelf.Strings.Builder1
import Derived.IntWalk
set_option linter.all false
namespace Go.Am
open Go
section
variable {C:fJ} {ih:Wh}
def tG (C:fJ) (ih:Wh):Prop:=∀ (f:FuncId) (p:Nat) (c:Code) (X:Type) (eX:Option X→Option X→Option X),uC eX→∀ (K:Exit→St→Option X) (s:St) (x:X),
 bB (C.D.dt f) c=true→ih f p c X eX K s=some x→lG C.D.toEnv c (fun e s'=>K e s'=some x) s
theorem qH {X:Type}:uC (Cc (X:=X)):=fun a b x h=>by
 unfold Cc at h
 by_cases e:a=b
 ·rw [if_pos e] at h
  exact ⟨h,e ▸ h⟩
 ·rw [if_neg e] at h
  cases h
theorem oS (hs:tG C ih) {X:Type} {eX:Option X→Option X→Option X} (hm:uC eX):nt C.D.toEnv (Di C ih eX):=fun g args G K x h=>by
 unfold Di at h
 obtain ⟨dY,h⟩:=bq h
 split at h
 ·rename_i fn ZU
  split at h
  ·rename_i b hb
   obtain ⟨hn,h⟩:=bq h
   have fin:∀ {K':AV→List GO→Option X},ih g 1 b X eX (KK C.D.toEnv fn K') (St.init fn.ntmps args G)=some x→cO C.D.toEnv g args G (fun r G'=>K' r G'=some x):=by
    intro K' h
    refine cO.intro ZU hb (by simpa using hn) ((hs g 1 b X eX hm _ _ x (C.D.R7 g fn b dY ZU hb) h).mono fun e s' hq=>?_)
    have hq:=hq.1
    unfold KK at hq
    unfold R4
    cases e <;> first | (cases hq; done) | skip
    all_goals (simp only at hq ⊢)
    all_goals (split at hq <;> first | (cases hq; done) | skip)
    all_goals (rename_i hl; rw [hl]; simp only)
    all_goals (split at hq <;> first | (cases hq; done) | skip)
    all_goals (rename_i Iv; rw [Iv]; exact hq)
   cases ZV:C.D.Ch g 131072 with
   | true=>rw [ZV] at h; exact cO.frz (fin h)
   | false=>rw [ZV] at h; exact fin h
  ·cases h
 ·cases h
theorem Dm (FN:∀ g e,C.G4 g=some e→aw C.D.toEnv g e) (hs:tG C ih) {X:Type} {eX:Option X→Option X→Option X} (hm:uC eX):nt C.D.toEnv (Dj C ih eX):=fun g args G K x h=>by
 unfold Dj at h
 split at h
 ·rename_i e he
  obtain ⟨a,ha,h⟩:=bind_some h
  obtain ⟨y,hy,h⟩:=bind_some h
  refine cO.fx (e.ps.qu ha).1 (((FN g e he a y hy) G).mono fun r G' hr=>?_)
  obtain ⟨rfl,rfl⟩:=hr
  exact h
 ·split at h
  ·rename_i e he
   split at h
   ·rename_i c r G' hf
    obtain ⟨hc,h⟩:=bq h
    subst hc
    refine (e.ok args G r G' hf).mono fun r' Sf hh=>?_
    obtain ⟨rfl,rfl⟩:=hh
    exact h
   ·cases h
  ·split at h
   ·rename_i e he
    obtain ⟨a,ha,h⟩:=bind_some h
    obtain ⟨y,hy,h⟩:=bind_some h
    refine cO.fx (e.ps.qu ha).1 ((e.ok a y hy G).mono fun r G' hr=>?_)
    obtain ⟨z,rfl,hr⟩:=hr
    exact (Dh e.outs z hr).trans h
   ·exact oS hs hm g args G K x h
theorem Dn {n:Nat}:∀ {l:List Tmp},N2 n l=true→∀ t∈l,t < n
 | [],_,t,ht=>by simp at ht
 | a :: l,h,t,ht=>by
  simp only [N2,Bool.and_eq_true] at h
  rcases List.mem_cons.1 ht with rfl | ht
  ·exact jL h.1
  ·exact Dn h.2 t ht
theorem FO (hs:tG C ih) {X:Type} {eX:Option X→Option X→Option X} (hm:uC eX):uD C.D.toEnv (N3 C ih eX):=fun id args G K x h=>by
 unfold N3 at h
 split at h
 ·rename_i p fp sl n ps rZ bd d hG
  obtain ⟨hc,h⟩:=bq h
  simp only [Bool.and_eq_true] at hc
  obtain ⟨⟨⟨h1,h2⟩,h3⟩,h4⟩:=hc
  refine lA.intro hG (Nat.eq_of_beq_eq_true h1) (Dn h2) ((hs _ _ rZ X eX hm _ _ x h3 h).mono fun e s1 hq=>?_)
  have hq:=hq.1
  unfold Bs
  cases e with
  | normal=>
   simp only at hq ⊢
   split at hq
   ·rename_i p' fn Wc n' Xt NY Wf d' hG1
    rw [hG1]
    simp only
    refine (hs _ _ bd X eX hm _ _ x h4 hq).mono fun e2 s2 oh=>?_
    have oh:FJ id K e2 s2=some x:=oh.1
    unfold FJ at oh
    unfold FD
    split at oh
    ·rename_i Xh
     rw [Xh]
     cases e2 <;> first | (cases oh; done) | exact oh
    ·cases oh
   ·cases hq
  | _=>cases hq
 ·cases h
theorem lG.of {E:Env} {c:Code} {Q Q':Exit→St→Prop} {s:St} (h:lG E c Q s) (hq:∀ e s',Q e s'→aS s s'→Q' e s'):fF E c Q' s:=
 fF.mono h fun e s' hh=>hq e s' hh.1 hh.2
theorem sj {s s':St} {e:Exit}:∀ {outs:List (XK × cq)} {o:JT outs},kO s outs e s'=some o→∃ (t:cq) (v:t.ps.T),t.dec s s'=some v∧∀ (α:Type) (K:Exit→St→α),Nk s outs o K=K e (t.st s v)
 | [],o,h=>by cases h
 | [x],o,h=>by
  obtain ⟨h1,h2⟩:=bq (show (bif x.1.is e then x.2.dec s s' else none)=some o from h)
  exact ⟨x.2,o,h2,fun _ K=>by rw [XK.GU h1]; rfl⟩
 | x :: y :: l,o,h=>by
  have h:(bif x.1.is e then (x.2.dec s s').bind fun v=>some (.inl v) else (kO s (y :: l) e s').bind fun o=>some (.inr o))=some o:=h
  cases hx:x.1.is e with
  | true=>
   rw [hx] at h
   obtain ⟨v,h1,h2⟩:=bind_some h
   cases h2
   exact ⟨x.2,v,h1,fun _ K=>by rw [XK.GU hx]; rfl⟩
  | false=>
   rw [hx] at h
   obtain ⟨v,h1,h2⟩:=bind_some h
   cases h2
   obtain ⟨t,u,k1,k2⟩:=sj h1
   exact ⟨t,u,k1,fun α K=>k2 α K⟩
theorem cq.qI (t:cq) (s:St) (v:t.ps.T):aS s (t.st s v):=by
 have h1:∀ (W:List Tmp) (b:bp),∃ pre,xB W b=pre++b:=fun W b=>by
  induction W with
  | nil=>exact ⟨[],rfl⟩
  | cons t W ih=>obtain ⟨p,hp⟩:=ih; exact ⟨.put t .none :: p,by simp [xB,hp]⟩
 have h2:∀ (ts:List Tmp) (l:List AV) (b:bp),∃ pre,oK ts l b=pre++b:=fun ts=>by
  induction ts with
  | nil=>intro l b; exact ⟨[],by cases l <;> rfl⟩
  | cons t ts ih=>
   intro l b
   cases l with
   | nil=>exact ⟨[],rfl⟩
   | cons a l=>obtain ⟨p,hp⟩:=ih l b; exact ⟨.put t (.v a) :: p,by simp [oK,hp]⟩
 have h3:∀ (bx:List (Nat × Nat)) (l:List AV) (b:cF),∃ pre,ux bx l b=pre++b:=fun bx=>by
  induction bx with
  | nil=>intro l b; exact ⟨[],rfl⟩
  | cons x bx ih=>
   obtain ⟨k,n⟩:=x
   intro l b
   obtain ⟨p,hp⟩:=ih (l.drop n) b
   exact ⟨(k,l.take n) :: p,by simp [ux,hp]⟩
 have h4:∀ (l:List (Tmp × Nat × Nat)) (b:bp),∃ pre,oL l b=pre++b:=fun l b=>by
  induction l with
  | nil=>exact ⟨[],rfl⟩
  | cons x l ih=>obtain ⟨t,k,o⟩:=x; obtain ⟨p,hp⟩:=ih; exact ⟨.put t (.lp k o) :: p,by simp [oL,hp]⟩
 obtain ⟨p1,e1⟩:=h1 t.W s.ae
 obtain ⟨p2,e2⟩:=h2 t.sl (t.pS v) (xB t.W s.ae)
 obtain ⟨p3,e3⟩:=h3 t.bx ((t.pS v).drop t.sl.length) s.boxes
 obtain ⟨p4,e4⟩:=h4 t.Wd (p2++(p1++s.ae))
 exact ⟨⟨p4++(p2++p1),by rw [show (t.st s v).ae=oL t.Wd (oK t.sl (t.pS v) (xB t.W s.ae)) from rfl,e2,e1,e4,List.append_assoc,List.append_assoc]⟩,⟨p3,e3⟩,rfl⟩
theorem fF.XG {E:Env} {c:Code} {s s1:St} {gh:List (Loc × Nat × TypeId)} {head:cq} {outs:List (XK × cq)} {rd:head.ps.T→Option (head.ps.T ⊕ JT outs)} {N:Nat} {v0:head.ps.T} {o:JT outs} {Q:Exit→St→Prop}
  (hg:Am.gN gh s=some s1) (h0:head.dec s1 s1=some v0) (hr:∀ v r,rd v=some r→lG E c (fun e s'=>uB s1 head outs e s'=some r) (head.st s1 v))
  (hl:ak rd N v0=some o) (hQ:∀ (t:cq) (v:t.ps.T) (e:Exit),(∀ (α:Type) (K:Exit→St→α),Nk s1 outs o K=K e (t.st s1 v))→Q e (t.st s1 v)∧aS s (t.st s1 v)) :
  lG E (.loop c) Q s:=fun R0 w β a F Sm Nd=>by
 obtain ⟨R,k1,k2,k3,_⟩:=kj Sm hg
 have hf:bM R s1.ro F:=by rw [k3]; exact Nd.mono k2.ext
 obtain ⟨i1,i2⟩:=cq.CT (aS.refl s1) k1 k1 (Step.refl R w β s1.boxes) h0
 refine mZ (fun m a' w'=>∃ v R' β',ak rd m v=some o∧bi E R' w' β' (head.st s1 v) a'∧Step R w β s1.boxes R' w' β' (head.st s1 v).boxes) ?_ ⟨v0,_,β,hl,i1,i2⟩
 rintro m a' w' ⟨v,R',β',hm,lr,kf⟩
 cases m with
 | zero=>cases hm
 | succ m=>
  obtain ⟨r,h1,h2⟩:=bind_some (show ((rd v).bind fun o=>Sum.elim (fun v'=>ak rd m v') (fun x=>some x) o)=some o from hm)
  refine wpIn_mono (hr v r h1 R' w' β' a' F lr (hf.mono kf.ext)) ?_
  rintro e a2 w2 ⟨s2,R2,β2,⟨hK,hx⟩,CG,KQ,IB⟩
  have Jt:aS s1 s2:=(head.qI s1 v).trans hx
  have st2:=kf.trans KQ
  have out:∀ {u:JT outs},kO s1 outs e s2=some u→r=.inr u→Xc E R0 w β s (fun e s'=>Q e s'∧aS s s') e a2 w2:=fun {u} hu hru=>by
   subst hru
   cases h2
   obtain ⟨t,v',q1,q2⟩:=sj hu
   obtain ⟨j1,j2⟩:=cq.CT Jt k1 CG st2 q1
   exact ⟨t.st s1 v',_,β2,hQ t v' e q2,j1,k2.trans j2,k3⟩
  cases e with
  | normal=>
   obtain ⟨v',q1,q2⟩:=bind_some (show ((head.dec s1 s2).bind fun v=>some (.inl v))=some r from hK)
   cases q2
   obtain ⟨j1,j2⟩:=cq.CT Jt k1 CG st2 q1
   exact ⟨m,Nat.lt_succ_self m,v',_,β2,h2,j1,j2⟩
  | exit i=>obtain ⟨u,q1,q2⟩:=bind_some (show ((kO s1 outs (.exit i) s2).bind fun o=>some (.inr o))=some r from hK); exact out q1 (Option.some.inj q2).symm
  | ret=>obtain ⟨u,q1,q2⟩:=bind_some (show ((kO s1 outs .ret s2).bind fun o=>some (.inr o))=some r from hK); exact out q1 (Option.some.inj q2).symm
  | goto i=>obtain ⟨u,q1,q2⟩:=bind_some (show ((kO s1 outs (.goto i) s2).bind fun o=>some (.inr o))=some r from hK); exact out q1 (Option.some.inj q2).symm
  | panic i=>obtain ⟨u,q1,q2⟩:=bind_some (show ((kO s1 outs (.panic i) s2).bind fun o=>some (.inr o))=some r from hK); exact out q1 (Option.some.inj q2).symm
  | outgrown=>obtain ⟨u,q1,q2⟩:=bind_some (show ((kO s1 outs .outgrown s2).bind fun o=>some (.inr o))=some r from hK); exact out q1 (Option.some.inj q2).symm
theorem fF.TB {E:Env} {c:Code} {s s1:St} {gh:List (Loc × Nat × TypeId)} {head:cq} {outs:List (XK × cq)} {rd:(head.ps.T→Option (JT outs))→head.ps.T→Option (JT outs)} {N:Nat} {v0:head.ps.T} {o:JT outs} {Q:Exit→St→Prop}
  (hg:Am.gN gh s=some s1) (h0:head.dec s1 s1=some v0) (hr:∀ k v u,rd k v=some u→lG E c (fun e s'=>KM s1 head outs k e s'=some u) (head.st s1 v))
  (hl:uA rd N v0=some o) (hQ:∀ (t:cq) (v:t.ps.T) (e:Exit),(∀ (α:Type) (K:Exit→St→α),Nk s1 outs o K=K e (t.st s1 v))→Q e (t.st s1 v)∧aS s (t.st s1 v)) :
  lG E (.loop c) Q s:=fun R0 w β a F Sm Nd=>by
 obtain ⟨R,k1,k2,k3,_⟩:=kj Sm hg
 have hf:bM R s1.ro F:=by rw [k3]; exact Nd.mono k2.ext
 obtain ⟨i1,i2⟩:=cq.CT (aS.refl s1) k1 k1 (Step.refl R w β s1.boxes) h0
 refine mZ (fun m a' w'=>∃ v R' β',uA rd m v=some o∧bi E R' w' β' (head.st s1 v) a'∧Step R w β s1.boxes R' w' β' (head.st s1 v).boxes) ?_ ⟨v0,_,β,hl,i1,i2⟩
 rintro m a' w' ⟨v,R',β',hm,lr,kf⟩
 cases m with
 | zero=>cases hm
 | succ m=>
  refine wpIn_mono (hr (uA rd m) v o hm R' w' β' a' F lr (hf.mono kf.ext)) ?_
  rintro e a2 w2 ⟨s2,R2,β2,⟨hK,hx⟩,CG,KQ,IB⟩
  have Jt:aS s1 s2:=(head.qI s1 v).trans hx
  have st2:=kf.trans KQ
  have out:kO s1 outs e s2=some o→Xc E R0 w β s (fun e s'=>Q e s'∧aS s s') e a2 w2:=fun hu=>by
   obtain ⟨t,v',q1,q2⟩:=sj hu
   obtain ⟨j1,j2⟩:=cq.CT Jt k1 CG st2 q1
   exact ⟨t.st s1 v',_,β2,hQ t v' e q2,j1,k2.trans j2,k3⟩
  cases e with
  | normal=>
   obtain ⟨v',q1,q2⟩:=bind_some (show (head.dec s1 s2).bind (uA rd m)=some o from hK)
   obtain ⟨j1,j2⟩:=cq.CT Jt k1 CG st2 q1
   exact ⟨m,Nat.lt_succ_self m,v',_,β2,q2,j1,j2⟩
  | exit i=>exact out hK
  | ret=>exact out hK
  | goto i=>exact out hK
  | panic i=>exact out hK
  | outgrown=>exact out hK
end
def qg (E:Env):List Bool→Code→(Exit→St→Prop)→St→Prop
 | [],_,Q,s=>Q .normal s
 | true :: k,.seq x y,Q,s=>lG E x (um (qg E k y Q) Q) s
 | false :: k,.seq x _,Q,s=>qg E k x Q s
 | _ :: _,_,_,_=>False
def ks (E:Env):List Bool→Code→(Exit→St→Prop)→St→Prop
 | [],c,Q,s=>lG E c Q s
 | true :: k,.seq _ y,Q,s=>ks E k y Q s
 | false :: k,.seq x y,Q,s=>ks E k x (um (lG E y Q) Q) s
 | _ :: _,_,_,_=>False
def G5 (F:Fence) (P:Program):List Bool→Code→(Exit→Act→World→Prop)→Act→World→Prop
 | [],c,Q,a,w=>c.wpIn F 0 P Q a w
 | true :: k,.seq _ y,Q,a,w=>G5 F P k y Q a w
 | false :: k,.seq x y,Q,a,w=>G5 F P k x (Exit.then (fun a' w'=>y.wpIn F 0 P Q a' w') Q) a w
 | _ :: _,_,_,_,_=>False
section rot
variable {E:Env} {s1:St} {R:aj} {w:World} {β:Nat→Nat} {F:Fence}
def At (E:Env) (s1:St) (R:aj) (w:World) (β:Nat→Nat) (s:St) (a:Act) (w':World):Prop:=
 ∃ R' β',aS s1 s∧bi E R' w' β' s a∧Step R w β s1.boxes R' w' β' s.boxes∧s.ro=s1.ro
theorem lG.at {c:Code} {Q:Exit→St→Prop} {s:St} {a:Act} {w':World} {Φ:Exit→Act→World→Prop} (hf:bM R s1.ro F) (h:lG E c Q s) (mD:At E s1 R w β s a w') (hQ:∀ e s' a' w',Q e s'→At E s1 R w β s' a' w'→Φ e a' w'):c.wpIn F 0 E.P Φ a w':=by
 obtain ⟨R',β',hx,hr,kf,bR⟩:=mD
 refine wpIn_mono (h R' w' β' a F hr (by rw [bR]; exact hf.mono kf.ext)) ?_
 rintro e a2 w2 ⟨s2,R2,β2,⟨hq,Jt⟩,CG,KQ,IB⟩
 exact hQ e s2 a2 w2 hq ⟨R2,β2,hx.trans Jt,CG,kf.trans KQ,IB.trans bR⟩
theorem ks.at (hf:bM R s1.ro F):∀ (k:List Bool) (c:Code) {Q:Exit→St→Prop} {s:St} {a:Act} {w':World} {Φ:Exit→Act→World→Prop},ks E k c Q s→At E s1 R w β s a w'→(∀ e s' a' w',Q e s'→At E s1 R w β s' a' w'→Φ e a' w')→G5 F E.P k c Φ a w'
 | [],c,Q,s,a,w',Φ,h,mD,hQ=>lG.at hf h mD hQ
 | true :: k,c,Q,s,a,w',Φ,h,mD,hQ=>by
  cases c with
  | seq x y=>exact ks.at hf k y h mD hQ
  | _=>exact h.elim
 | false :: k,c,Q,s,a,w',Φ,h,mD,hQ=>by
  cases c with
  | seq x y=>
   refine ks.at hf k x (Q:=um (lG E y Q) Q) h mD fun e s' a' w' hq qJ=>?_
   cases e with
   | normal=>exact lG.at hf hq qJ hQ
   | _=>exact hQ _ s' a' w' hq qJ
  | _=>exact h.elim
theorem qg.at (hf:bM R s1.ro F):∀ (k:List Bool) (c:Code) {Q:Exit→St→Prop} {s:St} {a:Act} {w':World} {Φ:Exit→Act→World→Prop},qg E k c Q s→At E s1 R w β s a w' →
  (∀ s' a' w',Q .normal s'→At E s1 R w β s' a' w'→G5 F E.P k c Φ a' w')→(∀ e s' a' w',e≠.normal→Q e s'→At E s1 R w β s' a' w'→Φ e a' w')→c.wpIn F 0 E.P Φ a w'
 | [],c,Q,s,a,w',Φ,h,mD,hS,hQ=>hS s a w' h mD
 | true :: k,c,Q,s,a,w',Φ,h,mD,hS,hQ=>by
  cases c with
  | seq x y=>
   refine wpIn_seq (lG.at hf (show lG E x (um (qg E k y Q) Q) s from h) mD fun e s' a' w' hq qJ=>?_)
   cases e with
   | normal=>exact qg.at hf k y hq qJ hS hQ
   | exit i=>exact hQ _ s' a' w' (by simp) hq qJ
   | ret=>exact hQ _ s' a' w' (by simp) hq qJ
   | goto i=>exact hQ _ s' a' w' (by simp) hq qJ
   | panic i=>exact hQ _ s' a' w' (by simp) hq qJ
   | outgrown=>exact hQ _ s' a' w' (by simp) hq qJ
  | _=>exact h.elim
 | false :: k,c,Q,s,a,w',Φ,h,mD,hS,hQ=>by
  cases c with
  | seq x y=>
   refine wpIn_seq (qg.at hf k x (Q:=Q) h mD hS fun e s' a' w' cL hq qJ=>?_)
   cases e with
   | normal=>exact absurd rfl cL
   | exit i=>exact hQ _ s' a' w' cL hq qJ
   | ret=>exact hQ _ s' a' w' cL hq qJ
   | goto i=>exact hQ _ s' a' w' cL hq qJ
   | panic i=>exact hQ _ s' a' w' cL hq qJ
   | outgrown=>exact hQ _ s' a' w' cL hq qJ
  | _=>exact h.elim
end rot
theorem fF.N5 {E:Env} {b:Code} {s s1:St} {gh:List (Loc × Nat × TypeId)} {head:cq} {outs:List (XK × cq)} {pre:St→Option (head.ps.T ⊕ JT outs)} {rd:head.ps.T→Option (head.ps.T ⊕ JT outs)} {N:Nat} {k:List Bool} {r0:head.ps.T ⊕ JT outs} {o:JT outs} {Q:Exit→St→Prop}
  (hg:Am.gN gh s=some s1) (h0:pre s1=some r0)
  (hp:∀ s2 r,pre s2=some r→qg E k b (fun e s'=>uB s1 head outs e s'=some r) s2)
  (hr:∀ v r,rd v=some r→ks E k b (fun e s'=>Aj pre (uB s1 head outs) e s'=some r) (head.st s1 v))
  (hl:Sum.elim (fun v=>ak rd N v) (fun x=>some x) r0=some o) (hQ:∀ (t:cq) (v:t.ps.T) (e:Exit),(∀ (α:Type) (K:Exit→St→α),Nk s1 outs o K=K e (t.st s1 v))→Q e (t.st s1 v)∧aS s (t.st s1 v)) :
  lG E (.loop b) Q s:=fun R0 w β a F Sm Nd=>by
 obtain ⟨R,k1,k2,k3,_⟩:=kj Sm hg
 have hf:bM R s1.ro F:=by rw [k3]; exact Nd.mono k2.ext
 refine mZ (fun n a' w'=>∃ s2 r,pre s2=some r∧Sum.elim (fun v=>ak rd n v) (fun x=>some x) r=some o∧At E s1 R w β s2 a' w') ?_ ⟨s1,r0,h0,hl,R,β,aS.refl s1,k1,Step.refl _ _ _ _,rfl⟩
 rintro n a' w' ⟨s2,r,hpr,ZW,mD⟩
 -- a way out
 have out:∀ {e:Exit} {s3:St} {a3:Act} {w3:World} {r:head.ps.T ⊕ JT outs} {n:Nat},e≠.normal→uB s1 head outs e s3=some r→Sum.elim (fun v=>ak rd n v) (fun x=>some x) r=some o→At E s1 R w β s3 a3 w3→Xc E R0 w β s (fun e s'=>Q e s'∧aS s s') e a3 w3:=fun {e s3 a3 w3 r n} cL hK ZW mD=>by
  obtain ⟨R3,β3,hx3,Xg,TC,abz⟩:=mD
  have key:∀ {u:JT outs},kO s1 outs e s3=some u→r=.inr u→Xc E R0 w β s (fun e s'=>Q e s'∧aS s s') e a3 w3:=fun {u} hu hru=>by
   subst hru
   obtain rfl:=Option.some.inj ZW
   obtain ⟨t,v',q1,q2⟩:=sj hu
   obtain ⟨j1,j2⟩:=cq.CT hx3 k1 Xg TC q1
   exact ⟨t.st s1 v',_,_,hQ t v' _ q2,j1,k2.trans j2,k3⟩
  cases e with
  | normal=>exact absurd rfl cL
  | exit i=>obtain ⟨u,q1,q2⟩:=bind_some (show ((kO s1 outs (.exit i) s3).bind fun o=>some (.inr o))=some r from hK); exact key q1 (Option.some.inj q2).symm
  | ret=>obtain ⟨u,q1,q2⟩:=bind_some (show ((kO s1 outs .ret s3).bind fun o=>some (.inr o))=some r from hK); exact key q1 (Option.some.inj q2).symm
  | goto i=>obtain ⟨u,q1,q2⟩:=bind_some (show ((kO s1 outs (.goto i) s3).bind fun o=>some (.inr o))=some r from hK); exact key q1 (Option.some.inj q2).symm
  | panic i=>obtain ⟨u,q1,q2⟩:=bind_some (show ((kO s1 outs (.panic i) s3).bind fun o=>some (.inr o))=some r from hK); exact key q1 (Option.some.inj q2).symm
  | outgrown=>obtain ⟨u,q1,q2⟩:=bind_some (show ((kO s1 outs .outgrown s3).bind fun o=>some (.inr o))=some r from hK); exact key q1 (Option.some.inj q2).symm
 refine qg.at hf k b (hp s2 r hpr) mD (fun s3 a3 w3 hK TD=>?_) (fun e s3 a3 w3 cL hK TD=>?_)
 ·obtain ⟨v,q1,q2⟩:=bind_some (show ((head.dec s1 s3).bind fun v=>some (.inl v))=some r from hK)
  obtain rfl:=Option.some.inj q2
  have B8:ak rd n v=some o:=ZW
  cases n with
  | zero=>cases B8
  | succ n=>
   obtain ⟨r',h1,h2⟩:=bind_some (show ((rd v).bind fun o=>Sum.elim (fun v'=>ak rd n v') (fun x=>some x) o)=some o from B8)
   obtain ⟨R3,β3,hx3,Xg,TC,abz⟩:=TD
   obtain ⟨j1,j2⟩:=cq.CT hx3 k1 Xg TC q1
   refine ks.at hf k b (hr v r' h1) ⟨_,_,head.qI s1 v,j1,j2,rfl⟩ fun e s4 a4 w4 Wi IJ=>?_
   cases e with
   | normal=>exact ⟨n,Nat.lt_succ_self n,s4,r',Wi,h2,IJ⟩
   | exit i=>exact out (by simp) Wi h2 IJ
   | ret=>exact out (by simp) Wi h2 IJ
   | goto i=>exact out (by simp) Wi h2 IJ
   | panic i=>exact out (by simp) Wi h2 IJ
   | outgrown=>exact out (by simp) Wi h2 IJ
 ·have:=out cL hK ZW TD
  cases e with
  | normal=>exact absurd rfl cL
  | _=>exact this
theorem qK {C:fJ} {ih:Wh} (hs:tG C ih) {X:Type} {f:FuncId} {K:Exit→St→Option X}:∀ (k:List Bool) (q:Nat) (c:Code) (s:St) (x:X),bB (C.D.dt f) c=true→KO ih Cc f K k q c s=some x→qg C.D.toEnv k c (fun e s'=>K e s'=some x) s
 | [],_,_,_,_,_,h=>h
 | true :: k,q,c,s,x,hd,h=>by
  cases c with
  | seq a b=>
   rw [bB,Bool.and_eq_true] at hd
   refine (hs f _ a X Cc qH _ s x hd.1 h).of fun e s' hq hx=>?_
   cases e with
   | normal=>exact ⟨qK hs k (2 * q+1) b s' x hd.2 hq,hx⟩
   | _=>exact ⟨hq,hx⟩
  | _=>cases h
 | false :: k,q,c,s,x,hd,h=>by
  cases c with
  | seq a b=>
   rw [bB,Bool.and_eq_true] at hd
   exact qK hs k (2 * q) a s x hd.1 h
  | _=>cases h
theorem ks.mono {E:Env}:∀ (k:List Bool) (c:Code) {Q Q':Exit→St→Prop} {s:St},(∀ e s',Q e s'→Q' e s')→ks E k c Q s→ks E k c Q' s
 | [],c,Q,Q',s,hQ,h=>fF.mono h fun e s' hh=>⟨hQ e s' hh.1,hh.2⟩
 | true :: k,c,Q,Q',s,hQ,h=>by
  cases c with
  | seq x y=>exact ks.mono k y hQ h
  | _=>exact h.elim
 | false :: k,c,Q,Q',s,hQ,h=>by
  cases c with
  | seq x y=>
   refine ks.mono k x (Q:=um (lG E y Q) Q) (Q':=um (lG E y Q') Q') (fun e s' hq=>?_) h
   cases e with
   | normal=>exact fF.mono hq fun e s' hh=>⟨hQ e s' hh.1,hh.2⟩
   | _=>exact hQ _ s' hq
  | _=>exact h.elim
theorem qL {C:fJ} {ih:Wh} (hs:tG C ih) {X:Type} {f:FuncId}:∀ (k:List Bool) (q:Nat) (c:Code) (K:Exit→St→Option X) (s:St) (x:X),bB (C.D.dt f) c=true→N4 ih Cc f k q c K s=some x→ks C.D.toEnv k c (fun e s'=>K e s'=some x) s
 | [],_,c,K,s,x,hd,h=>hs f _ c X Cc qH K s x hd h
 | true :: k,q,c,K,s,x,hd,h=>by
  cases c with
  | seq a b=>
   rw [bB,Bool.and_eq_true] at hd
   exact qL hs k (2 * q+1) b K s x hd.2 h
  | _=>cases h
 | false :: k,q,c,K,s,x,hd,h=>by
  cases c with
  | seq a b=>
   rw [bB,Bool.and_eq_true] at hd
   refine ks.mono k a (fun e s' hq=>?_) (qL hs k (2 * q) a _ s x hd.1 h)
   cases e with
   | normal=>exact hs f _ b X Cc qH K s' x hd.2 hq
   | _=>exact hq
  | _=>cases h
theorem Dp {C:fJ} (FN:∀ g e,C.G4 g=some e→aw C.D.toEnv g e) (n:Nat):tG C (ev C n):=by
 induction n using Nat.strongRecOn with
 | _ n ihn=>
 cases n with
 | zero=>intro f p c X eX _ K s x _ h; cases h
 | succ n=>
  have hs:=ihn n (Nat.lt_succ_self n)
  have plain:∀ (f:FuncId) (p:Nat) (c:Code) (X:Type) (eX:Option X→Option X→Option X),uC eX→∀ (K:Exit→St→Option X) (s:St) (x:X),((∃ b,c=.loop b)→C.xS f p=none) →
    bB (C.D.dt f) c=true→xT C (ev C n) f p c X eX K s=some x→lG C.D.toEnv c (fun e s'=>K e s'=some x) s:=by
   intro f p c X eX hm K s x jh hd h
   have KR:=Dm FN hs hm
   have XH:=FO hs hm
   unfold xT at h
   cases c with
   | skip=>exact fF.skip ⟨h,aS.refl s⟩
   | label l=>exact fF.label ⟨h,aS.refl s⟩
   | exit id=>exact fF.exit ⟨h,aS.refl s⟩
   | ret=>exact fF.ret ⟨h,aS.refl s⟩
   | seq a b=>
    rw [bB,Bool.and_eq_true] at hd
    refine fF.seq ((hs f _ a X eX hm _ s x hd.1 h).of fun e s' hq hx=>?_)
    cases e with
    | normal=>exact (hs f _ b X eX hm _ s' x hd.2 hq).of fun e s2 oh Jt=>⟨oh,hx.trans Jt⟩
    | _=>exact ⟨hq,hx⟩
   | cond co a b=>
    rw [bB,Bool.and_eq_true] at hd
    simp only at h
    split at h
    ·rename_i t hb
     refine fF.cond hb (fun e=>?_) (fun e=>?_)
     ·subst e; exact hs f _ a X eX hm _ s x hd.1 h
     ·subst e; exact hs f _ b X eX hm _ s x hd.2 h
    ·cases h
   | block id c=>
    refine fF.block ((hs f _ c X eX hm _ s x hd h).of fun e s' hq hx=>?_)
    cases e with
    | exit jF=>
     simp only [KJ] at hq
     refine ⟨fun e=>?_,fun e=>?_⟩
     ·subst e; rw [wh] at hq; exact ⟨hq,hx⟩
     ·rw [mM e] at hq; exact ⟨hq,hx⟩
    | _=>exact ⟨hq,hx⟩
   | scope c=>
    refine fF.scope ((hs f _ c X eX hm _ s x hd h).of fun e s' hq hx=>?_)
    cases e with
    | goto l=>cases hq
    | _=>exact ⟨hq,hx⟩
   | region id ops dr=>
    cases dr with
    | false=>exact fF.region (f:=f) (Ak (xZ KR XH h))
    | true=>
     simp only at h
     rw [bB] at hd
     split at h
     ·rename_i pl hT
      rw [hT] at hd
      exact fF.draw (f:=f) hd (vI (mh KR XH hm h))
     ·cases h
   | loop b=>
    have Sn:=jh ⟨b,rfl⟩
    refine fF.loop (fun m s'=>m≤n+1∧ev C m f p (.loop b) X eX K s'=some x∧aS s s') ?_ (m:=n+1) ⟨Nat.le_refl _,?_,aS.refl s⟩
    ·rintro m s' ⟨JK,hr,hx⟩
     cases m with
     | zero=>cases hr
     | succ m=>
      have lr:xV C (ev C m) f p (.loop b) X eX K s'=some x:=hr
      unfold xV at lr
      rw [Sn] at lr
      refine (ihn m (by omega) f _ b X eX hm _ s' x hd lr).of fun e s2 hq Jt=>?_
      cases e with
      | normal=>exact ⟨m,Nat.lt_succ_self m,by omega,hq,hx.trans Jt⟩
      | _=>exact ⟨hq,hx.trans Jt⟩
    ·show xV C (ev C n) f p (.loop b) X eX K s=some x
     unfold xV
     rw [Sn]
     exact h
   | rangeFunc g ps rZ bd=>
    simp only at h
    split at h
    ·rename_i bR
     split at h
     ·rename_i hf first cap hg
      refine fF.rangeFunc (4096 * p+f) bR hg ((KR _ _ _ _ _ h).mono fun r G' hq=>?_)
      unfold rfQ
      split at hq
      ·rename_i busy pending fn sl nn pp aa bb dd done Tq
       rw [Tq]
       simp only
       obtain ⟨h1,h2⟩:=bq hq
       refine ⟨by cases busy <;> cases done <;> simp_all,?_⟩
       have hxx:∀ (G:List GO) (m:List Nat),aS s ⟨s.ae,s.boxes,G,m,s.ro,s.n⟩:=fun _ _=>⟨⟨[],rfl⟩,⟨[],rfl⟩,rfl⟩
       split at h2
       ·rw [cK] at h2; exact ⟨h2,hxx _ _⟩
       ·rw [cK] at h2; exact fF.ret ⟨h2,hxx _ _⟩
       ·rw [cK] at h2; exact fF.exit ⟨h2,hxx _ _⟩
       ·cases h2
      ·cases hq
     ·cases h
    ·cases h
   | _=>cases h
  intro f p c X eX hm K s x hd h
  change xV C (ev C n) f p c X eX K s=some x at h
  unfold xV at h
  split at h
  ·rename_i hc
   exact plain f p c X eX hm K s x (fun _=>hc) hd h
  ·rename_i ct hct
   split at h
   ·rename_i yd hc
    generalize sh (kr c []) yd=outs at h
    cases J8:KL c with
    | true=>rw [J8] at h; cases h
    | false=>
    rw [J8] at h
    obtain ⟨o,h1,h2⟩:=bind_some (show (xT C (ev C n) f p c (JT outs) Cc (kO s outs) s).bind (fun o=>Nk s outs o K)=some x from h)
    have hp:=plain f p c (JT outs) Cc qH (kO s outs) s o (fun ⟨b,hb⟩=>by subst hb; cases J8) hd h1
    refine fF.abr (s:=s) (Q':=fun e s'=>kO s outs e s'=some o) (fF.mono hp fun e s' hh=>⟨hh.2,hh.1⟩) fun e s' hq=>?_
    obtain ⟨t,v,q1,q2⟩:=sj hq
    exact ⟨t,v,q1,(q2 _ K).symm.trans h2,t.qI s v⟩
   ·rename_i gh Dq yd hc
    split at h
    ·rename_i b
     split at h
     ·rename_i s1 hg
      generalize sh (kr b []) yd=outs at h
      generalize xU (kr b []) Dq=head at h
      unfold Sk at h
      obtain ⟨v0,h0,h⟩:=bind_some h
      obtain ⟨o,hl,h⟩:=bind_some h
      refine fF.XG hg h0 (fun v r hr=>hs f _ b _ Cc qH _ _ r hd hr) hl fun t v e hY=>?_
      exact ⟨(hY _ K).symm.trans h,(nr hg).trans (t.qI s1 v)⟩
     ·cases h
    ·cases h
   ·rename_i k gh Dq yd hc
    split at h
    ·rename_i b
     split at h
     ·rename_i s1 hg
      generalize sh (kr b []) yd=outs at h
      generalize xU (kr b []) Dq=head at h
      unfold XF at h
      obtain ⟨o,hl,h⟩:=bind_some h
      obtain ⟨r0,h0,hl⟩:=bind_some hl
      refine fF.N5 hg h0 (fun s2 r hr=>qK hs k (2 * p) b s2 r hd hr) (fun v r hr=>qL hs k (2 * p) b _ _ r hd hr) hl fun t v e hY=>?_
      exact ⟨(hY _ K).symm.trans h,(nr hg).trans (t.qI s1 v)⟩
     ·cases h
    ·cases h
   ·rename_i gh Dq yd hc
    split at h
    ·rename_i b
     split at h
     ·rename_i s1 hg
      generalize sh (kr b []) yd=outs at h
      generalize xU (kr b []) Dq=head at h
      unfold KN at h
      obtain ⟨v0,h0,h⟩:=bind_some h
      obtain ⟨o,hl,h⟩:=bind_some h
      refine fF.TB hg h0 (fun k v u hu=>hs f _ b _ Cc qH _ _ u hd hu) hl fun t v e hY=>?_
      exact ⟨(hY _ K).symm.trans h,(nr hg).trans (t.qI s1 v)⟩
     ·cases h
    ·cases h
   ·cases h
end Go.Am
namespace Go.Am
open Go
noncomputable def fJ.fn (C:fJ) (n:Nat) (g:FuncId) (ps:aO) (p:aA) (x:ps.T):Option p.T:=
 Di C (ev C n) Cc g (ps.enc x) [] (fun r _=>p.dec r)
theorem fJ.bL {C:fJ} (FN:∀ g e,C.G4 g=some e→aw C.D.toEnv g e) {n:Nat} {g:FuncId} {ps:aO} {p:aA} (h1:ps.under 0=true) (h2:p.under 0=true) :
  aw C.D.toEnv g ⟨ps,p,C.fn n g ps p⟩:=fun x y h=>by
 refine ck.mono (ck.of (p:=p) (Q:=fun z=>z=y) (ps.de x h1) h2 ((oS (Dp FN n) qH g _ [] _ y h).mono fun r _ hr=>⟨y,hr,rfl⟩)) ?_
 rintro r ⟨z,rfl,rfl⟩
 rfl
theorem ck.env {E E':Env} {g:FuncId} {args:List AV} {Q:AV→Prop} (hP:E.P=E'.P) (hg:E.cw=E'.cw) (h:ck E g args Q) (E2:E.lo=E'.lo:=by rfl) (N6:E.gx=E'.gx:=by rfl):ck E' g args Q:=by
 have go:∀ {R:aj} {w:World} {x:Nat} {cs:List AV},lq E R w x cs↔lq E' R w x cs:=fun {R w x cs}=>by unfold lq; rw [N6]
 have CT:∀ {R:aj} {w:World} {G:List GO},dE E R w G↔dE E' R w G:=fun {R w G}=>
  ⟨fun h=>⟨h.len,h.obj,h.inj,h.wf,fun g cs hh=>go.1 (h.cw g cs (by rw [hg]; exact hh)),by rw [← E2]; exact h.lo⟩,fun h=>⟨h.len,h.obj,h.inj,h.wf,fun g cs hh=>go.2 (h.cw g cs (by rw [← hg]; exact hh)),by rw [E2]; exact h.lo⟩⟩
 intro G
 obtain ⟨h1,h2⟩:=h G
 rw [hP] at h1 h2
 refine ⟨h1,fun R w cs hr hl=>(h2 R w cs (CT.2 hr) hl).mono fun e w' he=>?_⟩
 cases e with
 | returned c=>obtain ⟨r,G',R',k1,k2,k3,k4⟩:=he; exact ⟨r,G',R',k1,k2,CT.1 k3,k4⟩
 | panicked c=>exact he
 | outgrown=>exact he
theorem ck.more {E E':Env} {g:FuncId} {args:List AV} {Q:AV→Prop} (hP:E.P=E'.P) (hg:∀ g cs,E.cw g=some cs→E'.cw g=some cs) (h:ck E g args Q) (E2:E.lo=E'.lo:=by rfl) (N6:E.gx=fun _=>false:=by rfl):ck E' g args Q:=by
 intro G
 obtain ⟨h1,h2⟩:=h G
 rw [hP] at h1 h2
 refine ⟨h1,fun R w cs hr hl=>(h2 R w cs ⟨hr.len,hr.obj,hr.inj,hr.wf,fun g cs hh=>⟨(hr.cw g cs (hg g cs hh)).1,fun hx=>by rw [N6] at hx; cases hx⟩,by rw [E2]; exact hr.lo⟩ hl).mono fun e w' he=>?_⟩
 cases e with
 | returned c=>
  obtain ⟨r,G',R',k1,k2,k3,k4⟩:=he
  exact ⟨r,G',R',k1,k2,⟨k3.len,k3.obj,k3.inj,k3.wf,fun g cs hh=>(hr.cw g cs hh).mono k4.ext,by rw [← E2]; exact k3.lo⟩,k4⟩
 | panicked c=>exact he
 | outgrown=>exact he
def IK:List (Nat × aD)→FuncId→Option aD
 | [],_=>none
 | (a,e) :: l,g=>bif Nat.beq a g then some e else IK l g
theorem bC {E:Env}:∀ {l:List (Nat × aD)},(∀ a e,(a,e)∈l→aw E a e)→∀ g e,IK l g=some e→aw E g e
 | [],_,g,e,h=>by cases h
 | (a,x) :: l,hl,g,e,h=>by
  unfold IK at h
  cases hb:Nat.beq a g with
  | true=>
   rw [hb] at h
   cases h
   rw [← Nat.eq_of_beq_eq_true hb]
   exact hl a _ (by simp)
  | false=>
   rw [hb] at h
   exact bC (fun a e hm=>hl a e (by simp [hm])) g e h
def Sp:List (Nat × a8)→Nat→Option a8
 | [],_=>none
 | (a,c) :: l,p=>bif Nat.beq a p then some c else Sp l p
def KS:List (Nat × List (Nat × a8))→FuncId→Nat→Option a8
 | [],_,_=>none
 | (a,c) :: l,g,p=>bif Nat.beq a g then Sp c p else KS l g p
def G6:Option Unit→Option Unit→Option Unit
 | some _,some _=>some ()
 | _,_=>none
theorem FP:uC G6:=fun a b x h=>by
 cases a <;> cases b <;> first | (cases h; done) | exact ⟨rfl,rfl⟩
theorem Dr {C:fJ} (FN:∀ g e,C.G4 g=some e→aw C.D.toEnv g e) {n:Nat} {g:FuncId} {args:List AV} {p:aA} {ok:p.T→Bool} (h1:aH 0 args=true) (h2:p.under 0=true)
  (h:Di C (ev C n) G6 g args [] (fun r _=>bif p.fits r&&ok (p.bh r) then some () else none)=some ()):ck C.D.toEnv g args (fun r=>∃ y,r=p.enc y∧ok y=true):=
 ck.of (p:=p) (Q:=fun y=>ok y=true) h1 h2 ((oS (Dp FN n) FP g args [] _ () h).mono fun r _ hr=>by
  obtain ⟨k,_⟩:=bq hr
  rw [Bool.and_eq_true] at k
  exact ⟨p.bh r,by simp [aA.dec,k.1],k.2⟩)
end Go.Am
namespace Go.Am
open Go
def nX (w:World):aj:=⟨fun b _=>b < w.heap.size,[]⟩
mutual
def aA.wf:(p:aA)→p.T→Prop
 | .int k,(n:Int)=>k.min≤n∧n≤k.max
 | .bool,_=>True
 | .str,(s:List UInt8)=>s.length≤maxLen
 | .agg ps,x=>ps.wf x
 | .bH ps,x=>ps.wf x
 | .list _ p,(xs:List p.T)=>xs.length≤maxLen∧∀ x∈xs,p.wf x
 | .own _ _ p,(xs:List p.T)=>xs.length≤maxLen∧∀ x∈xs,p.wf x
 | .aP _ _ p,(x:Nat × List p.T)=>x.2.length≤maxLen∧∀ y∈x.2,p.wf y
 | .eo _,_=>True
 | .two _ _,_=>True
def aO.wf:(ps:aO)→ps.T→Prop
 | .nil,_=>True
 | .cons p .nil,x=>p.wf x
 | .cons p (.cons q ps),x=>p.wf x.1∧(aO.cons q ps).wf x.2
end
def ku:List aA→aO
 | []=>.nil
 | p :: l=>.cons p (ku l)
def IL {β:Type} (g:β→Option (List aA)):List β→Option (List aA)
 | []=>some []
 | x :: l=>match g x,IL g l with
  | some a,some b=>some (a++b)
  | _,_=>none
def sk {β:Type} (off len:β→Nat):Nat→List β→Option Nat
 | o,[]=>some o
 | o,x :: l=>bif Nat.beq (off x) o then sk off len (o+len x) l else none
def isSome (n:Nat):Option Nat→Bool
 | some m=>Nat.beq m n
 | none=>false
def so (ag:Bool) (ps:List aA):Option aA:=match ag,ps with
 | true,ps=>some (.agg (ku ps))
 | false,[p]=>some p
 | _,_=>none
def IM (P:Program):Nat→TypeId→Option (List aA)
 | 0,_=>none
 | n+1,t=>match P.underlying t with
  | some .bool=>some [.bool]
  | some (.int k)=>some [.int k]
  | some .string=>some [.str]
  | some (.slice e)=>match IM P n e,P.underlying e with
   | some ps,some u=>match so (Go.Am.jG u) ps with
    | some pe=>bif Nat.blt 0 (P.cellsOf e) then some [.list (P.cellsOf e) pe] else none
    | none=>none
   | _,_=>none
  | some (.struct fs)=>bif isSome (P.cellsOf t) (sk Field.offset (fun f=>P.cellsOf f.type) 0 fs.toList) then IL (fun f=>IM P n f.type) fs.toList else none
  | some (.array m e)=>bif isSome (P.cellsOf t) (sk (fun i=>i * P.cellsOf e) (fun _=>P.cellsOf e) 0 (List.range m)) then IL (fun _=>IM P n e) (List.range m) else none
  | _=>none
def abC (a:AV):Prop:=a.aV=true∧a.cells=[a]∧a.closed=true
def qM:List aA→List AV→Prop
 | [],[]=>True
 | p :: ps,a :: kZ=>p.fits a=true∧(p.wf (p.bh a)∧abC a)∧qM ps kZ
 | _,_=>False
theorem qM.append:∀ {ps qs:List aA} {kZ bs:List AV},qM ps kZ→qM qs bs→qM (ps++qs) (kZ++bs)
 | [],_,[],_,_,h=>h
 | _ :: _,_,_ :: _,_,k,h=>⟨k.1,k.2.1,qM.append k.2.2 h⟩
 | [],_,_ :: _,_,h,_=>h.elim
 | _ :: _,_,[],_,h,_=>h.elim
theorem qM.mk:∀ {ps:List aA} {kZ:List AV},qM ps kZ→(ku ps).fits kZ=true∧(ku ps).wf ((ku ps).bh kZ)
 | [],[],_=>⟨rfl,trivial⟩
 | [p],[a],h=>⟨by
   change (p.fits a&&(List.isEmpty ([]:List AV)))=true
   rw [h.1]
   rfl,h.2.1.1⟩
 | p :: q :: ps,a :: kZ,h=>by
  obtain ⟨h1,h2⟩:=qM.mk (ps:=q :: ps) h.2.2
  refine ⟨?_,h.2.1.1,h2⟩
  change (p.fits a&&(ku (q :: ps)).fits kZ)=true
  rw [h.1,h1]
  rfl
 | [],_ :: _,h=>h.elim
 | _ :: _,[],h=>h.elim
 | [_],_ :: _ :: _,h=>h.2.2.elim
theorem Ds {ag:Bool} {ps:List aA} {pe:aA} (h:so ag ps=some pe) {kZ:List AV} (hf:qM ps kZ) :
  ∃ e,(if ag then e=.agg kZ else kZ=[e])∧pe.fits e=true∧pe.wf (pe.bh e):=by
 unfold so at h
 split at h
 ·cases h
  obtain ⟨h1,h2⟩:=hf.mk
  exact ⟨.agg kZ,rfl,h1,h2⟩
 ·rename_i p
  cases h
  match kZ,hf with
  | [a],hf=>exact ⟨a,rfl,hf.1,hf.2.1.1⟩
  | [],hf=>exact hf.elim
  | _ :: _ :: _,hf=>exact hf.2.2.elim
 ·cases h
theorem G7:∀ {ps:List aA} {kZ:List AV},qM ps kZ→∀ a∈kZ,a.aV=true∧a.cells=[a]∧a.closed=true
 | [],[],_,a,ha=>by simp at ha
 | _ :: _,b :: kZ,hf,a,ha=>by
  rcases List.mem_cons.1 ha with rfl | ha
  ·exact hf.2.1.2
  ·exact G7 hf.2.2 a ha
 | [],_ :: _,h,_,_=>h.elim
 | _ :: _,[],h,_,_=>h.elim
theorem G8 {pe:aA}:∀ {es:List AV},(∀ x∈es,pe.fits x=true∧pe.wf (pe.bh x))→allFit pe.fits es=true∧∀ x∈es.map pe.bh,pe.wf x
 | [],_=>⟨rfl,by simp⟩
 | a :: es,h=>by
  obtain ⟨h1,h2⟩:=G8 (es:=es) fun x hx=>h x (by simp [hx])
  refine ⟨by simp only [allFit,Bool.and_eq_true]; exact ⟨(h a (by simp)).1,h1⟩,fun x hx=>?_⟩
  rcases List.mem_cons.1 hx with rfl | hx
  ·exact (h a (by simp)).2
  ·exact h2 x hx
section read
variable {H:Type} {enc:TypeId × Value→H} {P:Program} {w:World} {R:aj} {base:Nat} {spare:Nat→Bool} {held:Bool}
theorem iu {α β:Type} {f:α→Option β} {x:α} {l:List α} {r:List β} (h:(x :: l).mapM f=some r):∃ y ys,f x=some y∧l.mapM f=some ys∧r=y :: ys:=by
 rw [List.mapM_cons] at h
 cases hx:f x with
 | none=>rw [hx] at h; cases h
 | some y=>
  rw [hx] at h
  cases hl:l.mapM f with
  | none=>rw [hl] at h; cases h
  | some ys=>rw [hl] at h; cases h; exact ⟨y,ys,rfl,rfl,rfl⟩
theorem ye {β:Type} {off len:β→Nat} {g:β→Option (List aA)} {cs:List Value} {f:β→Option (DataW H × List MemPlace)}
  (hf:∀ x ps y,g x=some ps→f x=some y→∃ kZ,aK R w kZ ((cs.drop (off x)).take (len x))∧qM ps kZ∧∀ v∈(cs.drop (off x)).take (len x),v.oneCell'=true) :
  ∀ {L:List β} {o m:Nat} {ps:List aA} {ys:List (DataW H × List MemPlace)},sk off len o L=some m→IL g L=some ps→L.mapM f=some ys →
   o≤m∧∃ kZ,aK R w kZ ((cs.drop o).take (m - o))∧qM ps kZ∧∀ v∈(cs.drop o).take (m - o),v.oneCell'=true
 | [],o,m,ps,ys,ht,hp,_=>by
  simp only [sk] at ht
  simp only [IL] at hp
  cases ht; cases hp
  exact ⟨Nat.le_refl _,[],by simpa using aK.nil,trivial,by simp⟩
 | x :: L,o,m,ps,ys,ht,hp,hm=>by
  unfold sk at ht
  cases hb:Nat.beq (off x) o with
  | false=>rw [hb] at ht; cases ht
  | true=>
   rw [hb] at ht
   have hb:=Nat.eq_of_beq_eq_true hb
   unfold IL at hp
   split at hp
   ·rename_i pa pb h1 h2
    cases hp
    obtain ⟨y,HY,k1,k2,rfl⟩:=iu hm
    obtain ⟨kZ,q1,q2,q3⟩:=hf x pa y h1 k1
    obtain ⟨hle,bs,r1,r2,r3⟩:=ye hf (show sk off len (o+len x) L=some m from ht) h2 k2
    have e:(cs.drop o).take (m - o)=(cs.drop (off x)).take (len x)++(cs.drop (o+len x)).take (m - (o+len x)):=by
     rw [hb,show m - o=len x+(m - (o+len x)) by omega,List.take_add,List.drop_drop]
    rw [e]
    refine ⟨by omega,kZ++bs,q1.append r1,q2.append r2,fun v hv=>?_⟩
    rcases List.mem_append.1 hv with hv | hv
    ·exact q3 v hv
    ·exact r3 v hv
   ·cases hp
theorem mi {α β:Type} {f:α→Option β}:∀ {l:List α} {r:List β},l.mapM f=some r→∀ (i:Nat) (x:α),l[i]?=some x→∃ y,r[i]?=some y∧f x=some y
 | [],r,_,i,x,hx=>by simp at hx
 | a :: l,r,h,i,x,hx=>by
  obtain ⟨y,ys,h1,h2,rfl⟩:=iu h
  cases i with
  | zero=>simp at hx; subst hx; exact ⟨y,by simp,h1⟩
  | succ i=>obtain ⟨z,h3,h4⟩:=mi h2 i x (by simpa using hx); exact ⟨z,by simpa using h3,h4⟩
theorem mapM_length {α β:Type} {f:α→Option β}:∀ {l:List α} {r:List β},l.mapM f=some r→r.length=l.length
 | [],r,h=>by simp at h; subst h; rfl
 | a :: l,r,h=>by
  obtain ⟨y,ys,h1,h2,rfl⟩:=iu h
  simp [mapM_length h2]
theorem N7 {a:Addr} {v:Value} (h:w.cell? a=some v):a.block < w.heap.size:=by
 unfold World.cell? at h
 split at h
 ·rename_i hb; exact bo hb
 ·cases h
theorem Al {e:TypeId} {ps:List aA} {pe:aA} {ag:Bool} {b9:Nat} (hp:∀ (cs:List Value) (y:DataW H × List MemPlace),DataW.trod enc P w base spare held b9 e cs=some y→∃ kZ,aK (nX w) w kZ cs∧qM ps kZ∧∀ v∈cs,v.oneCell'=true) (he:so ag ps=some pe) {b off len:Nat} {r:List (DataW H × List MemPlace)}
  (h:(List.range len).mapM (fun i=>(w.cells? base ((⟨b,off,none⟩:Addr).add (i * P.cellsOf e)) (P.cellsOf e)).bind (DataW.trod enc P w base spare held b9 e))=some r) :
  ∀ (m i:Nat),i+m=len→∃ es,fS (nX w) w b (off+i * P.cellsOf e) (P.cellsOf e) es∧es.length=m∧∀ x∈es,pe.fits x=true∧pe.wf (pe.bh x)
 | 0,i,_=>⟨[],.nil,rfl,by simp⟩
 | m+1,i,hi=>by
  obtain ⟨es,h1,h2,h3⟩:=Al hp he h m (i+1) (by omega)
  obtain ⟨y,_,hy⟩:=mi h i i (by rw [List.getElem?_range (by omega)])
  obtain ⟨cs,hc,hy⟩:=bind_some hy
  obtain ⟨kZ,q1,q2,q3⟩:=hp _ _ hy
  obtain ⟨x,hx,f1,f2⟩:=Ds he q2
  have ls:w.cells? base ((⟨b,off,none⟩:Addr).add (i * P.cellsOf e)) (P.cellsOf e)=some cs:=hc
  unfold World.cells? at ls
  split at ls
  ·have hlen:=mapM_length ls
   rw [List.length_range] at hlen
   have jh:x.cells=kZ∧x.aV=true∧x.closed=true:=by
    have ni:=G7 q2
    cases ag with
    | true=>
     simp only [if_true] at hx
     subst hx
     refine ⟨rfl,rfl,?_⟩
     show aC kZ=true
     clear h1 h2 h3 q1 q2 f1 f2
     induction kZ with
     | nil=>rfl
     | cons a kZ ih=>simp only [aC,Bool.and_eq_true]; exact ⟨(ni a (by simp)).2.2,ih (fun z hz=>ni z (by simp [hz]))⟩
    | false=>
     simp only [Bool.false_eq_true,if_false] at hx
     subst hx
     obtain ⟨k1,k2,k3⟩:=ni x (by simp)
     exact ⟨k2,k1,k3⟩
   have jU:∀ j v,cs[j]?=some v→w.cell? ⟨b,off+i * P.cellsOf e+j,none⟩=some v:=fun j v hv=>by
    have hj:j < P.cellsOf e:=by have:=(List.getElem?_eq_some_iff.1 hv).1; omega
    obtain ⟨v',k1,k2⟩:=mi ls j j (by rw [List.getElem?_range hj])
    rw [hv] at k1
    cases k1
    rw [cz,cz] at k2
    exact k2
   refine ⟨x :: es,.cons ?_ jh.2.1 jh.2.2 ?_ ?_,by simp [h2],fun z hz=>?_⟩
   ·rw [jh.1,q1.length,hlen]
   ·rw [jh.1]
    refine dU.make q1 q3 jU (fun j hj=>?_)
    have Nb:j < cs.length:=by rw [← q1.length]; exact hj
    exact N7 (jU j cs[j] (List.getElem?_eq_getElem Nb))
   ·rw [show off+i * P.cellsOf e+P.cellsOf e=off+(i+1) * P.cellsOf e by rw [Nat.add_mul]; omega]
    exact h1
   ·rcases List.mem_cons.1 hz with rfl | hz
    ·exact ⟨f1,f2⟩
    ·exact h3 z hz
  ·cases ls
theorem sq (Ca:∀ b,spare b=true):∀ (n:Nat) {t:TypeId} {ps:List aA},IM P n t=some ps→∀ {b9:Nat} {cs:List Value} {y:DataW H × List MemPlace},DataW.trod enc P w base spare held b9 t cs=some y →
  ∃ kZ,aK (nX w) w kZ cs∧qM ps kZ∧∀ v∈cs,v.oneCell'=true
 | 0,_,_,h,_,_,_,_=>by cases h
 | n+1,t,ps,h,0,_,_,hy=>by cases hy
 | n+1,t,ps,h,b9+1,cs,y,hy=>by
  unfold IM at h
  unfold DataW.trod at hy
  split at h
  ·rename_i hu
   cases h
   rw [hu] at hy
   cases cs with
   | nil=>cases hy
   | cons v l=>
    cases l with
    | cons v2 l=>(cases v <;> first | (cases hy; done) | (rename_i a; cases a <;> cases hy; done) | (rename_i a b; cases a <;> cases hy; done) | (rename_i a b c; cases a <;> first | (cases hy; done) | (cases b <;> first | (cases hy; done) | (cases c <;> cases hy))))
    | nil=>
     cases v with
     | bool b=>exact ⟨[.bool b],.one (.bool b),⟨rfl,⟨trivial,rfl,rfl,rfl⟩,trivial⟩,by simp [Value.oneCell']⟩
     | pointer a=>cases a <;> cases hy
     | slice a b c=>cases a <;> first | (cases hy; done) | (cases b <;> first | (cases hy; done) | (cases c <;> cases hy))
     | map a=>cases a <;> cases hy
     | chan a=>cases a <;> cases hy
     | _=>cases hy
  ·rename_i k hu
   cases h
   rw [hu] at hy
   cases cs with
   | nil=>cases hy
   | cons v l=>
    cases l with
    | cons v2 l=>(cases v <;> first | (cases hy; done) | (rename_i a; cases a <;> cases hy; done) | (rename_i a b; cases a <;> cases hy; done) | (rename_i a b c; cases a <;> first | (cases hy; done) | (cases b <;> first | (cases hy; done) | (cases c <;> cases hy))))
    | nil=>
     cases v with
     | int k' i=>
      have hy:(if k'=k∧(Lit.int k i).wf=true then some (.lit (.int k i),[]) else none)=some y:=hy
      split at hy
      ·rename_i hc
       obtain ⟨rfl,hw⟩:=hc
       exact ⟨[.int k' i],.one (.int k' i),⟨decide_eq_true rfl,⟨by have h:=hw; simp [Lit.wf] at h; exact h,rfl,rfl,rfl⟩,trivial⟩,by simp [Value.oneCell']⟩
      ·cases hy
     | pointer a=>cases a <;> cases hy
     | slice a b c=>cases a <;> first | (cases hy; done) | (cases b <;> first | (cases hy; done) | (cases c <;> cases hy))
     | map a=>cases a <;> cases hy
     | chan a=>cases a <;> cases hy
     | _=>cases hy
  ·rename_i hu
   cases h
   rw [hu] at hy
   cases cs with
   | nil=>cases hy
   | cons v l=>
    cases l with
    | cons v2 l=>(cases v <;> first | (cases hy; done) | (rename_i a; cases a <;> cases hy; done) | (rename_i a b; cases a <;> cases hy; done) | (rename_i a b c; cases a <;> first | (cases hy; done) | (cases b <;> first | (cases hy; done) | (cases c <;> cases hy))))
    | nil=>
     cases v with
     | string s=>
      have hy:(if s.size≤maxLen then some (.lit (.string s.data.toList),[]) else none)=some y:=hy
      split at hy
      ·rename_i hc
       exact ⟨[.str s.data.toList],.one (.str s.data.toList),⟨rfl,⟨by simpa [aA.wf,aA.bh,AV.SK] using hc,rfl,rfl,rfl⟩,trivial⟩,by simp [Value.oneCell']⟩
      ·cases hy
     | pointer a=>cases a <;> cases hy
     | slice a b c=>cases a <;> first | (cases hy; done) | (cases b <;> first | (cases hy; done) | (cases c <;> cases hy))
     | map a=>cases a <;> cases hy
     | chan a=>cases a <;> cases hy
     | _=>cases hy
  ·rename_i e hu
   rw [hu] at hy
   split at h
   ·rename_i Xt u h1 h2
    split at h
    ·rename_i pe h3
     obtain ⟨hz,h⟩:=bq h
     cases h
     have hz:=Nat.le_of_ble_eq_true hz
     cases cs with
     | nil=>cases hy
     | cons v l=>
      cases l with
      | cons v2 l=>(cases v <;> first | (cases hy; done) | (rename_i a; cases a <;> cases hy; done) | (rename_i a b; cases a <;> cases hy; done) | (rename_i a b c; cases a <;> first | (cases hy; done) | (cases b <;> first | (cases hy; done) | (cases c <;> cases hy))))
      | nil=>
       cases v with
       | slice a len cap=>
        cases a with
        | none=>
         have hz:len=0∧cap=0:=by
          cases len with
          | zero=>cases cap with
           | zero=>exact ⟨rfl,rfl⟩
           | succ _=>cases hy
          | succ _=>cases hy
         obtain ⟨rfl,rfl⟩:=hz
         exact ⟨[.list .gr (P.cellsOf e) []],.one .iA,⟨by simp [aA.fits,allFit],⟨⟨Nat.zero_le _,fun x hx=>by change x∈([]:List pe.T) at hx; cases hx⟩,rfl,rfl,rfl⟩,trivial⟩,by simp [Value.oneCell']⟩
        | some a=>
         have hy:(if base≤a.block∧len≤cap∧cap≤maxLen then
          ((List.range len).mapM (fun i=>(w.cells? base (a.add (i * P.cellsOf e)) (P.cellsOf e)).bind (DataW.trod enc P w base spare held b9 e))).bind fun G9=>
           (if spare a.block then (List.range (cap - len)).mapM (fun j=>(w.cells? base (a.add ((len+j) * P.cellsOf e)) (P.cellsOf e)).bind (DataW.trod enc P w base spare held b9 e)) else some []).map fun rest=>
            (DataW.slice (G9.map (·.1)) (rest.map (·.1)),MemPlace.row a ((G9.length+rest.length) * P.cellsOf e)++(G9++rest).flatMap (·.2))
          else none)=some y:=hy
         split at hy
         ·rename_i hc
          obtain ⟨G9,k1,hy⟩:=bind_some hy
          rw [if_pos (Ca _)] at hy
          by_cases iB:cap=0
          ·subst iB
           have vu:len=0:=Nat.le_zero.1 hc.2.1
           subst vu
           exact ⟨[.list .gr (P.cellsOf e) []],.one .lS,⟨by simp [aA.fits,allFit],⟨⟨Nat.zero_le _,fun x hx=>by change x∈([]:List pe.T) at hx; cases hx⟩,rfl,rfl,rfl⟩,trivial⟩,by simp [Value.oneCell']⟩
          ·have KT:a.spot=none:=by
            have Tn:∃ y,(w.cells? base (a.add (0 * P.cellsOf e)) (P.cellsOf e)).bind (DataW.trod enc P w base spare held b9 e)=some y:=by
             by_cases vu:len=0
             ·subst vu
              cases hr:(List.range (cap - 0)).mapM (fun j=>(w.cells? base (a.add ((0+j) * P.cellsOf e)) (P.cellsOf e)).bind (DataW.trod enc P w base spare held b9 e)) with
              | none=>rw [hr] at hy; cases hy
              | some r=>
               obtain ⟨z,_,hz⟩:=mi hr 0 0 (by rw [List.getElem?_range (by omega)])
               exact ⟨z,hz⟩
             ·obtain ⟨z,_,hz⟩:=mi k1 0 0 (by rw [List.getElem?_range (by omega)])
              exact ⟨z,hz⟩
            obtain ⟨z,hz'⟩:=Tn
            obtain ⟨cs,qv,_⟩:=bind_some hz'
            unfold World.cells? at qv
            split at qv
            ·obtain ⟨v,_,hv⟩:=mi qv 0 0 (by rw [List.getElem?_range (by omega)])
             rw [Nat.zero_mul] at hv
             unfold World.cell? at hv
             split at hv
             ·split at hv
              ·cases hv
              ·rename_i hs
               simpa [Addr.add] using hs
             ·cases hv
            ·cases qv
           obtain ⟨b,off,spot⟩:=a
           have KT:spot=none:=KT
           subst KT
           obtain ⟨es,q1,q2,q3⟩:=Al (fun cs y hy=>sq Ca n h1 hy) h3 k1 len 0 (by omega)
           rw [Nat.zero_mul,Nat.add_zero] at q1
           obtain ⟨f1,f2⟩:=G8 q3
           refine ⟨[.list .gr (P.cellsOf e) es],.one (.list q1 q2.symm hc.2.1 trivial),⟨?_,⟨⟨?_,f2⟩,rfl,rfl,rfl⟩,trivial⟩,by simp [Value.oneCell']⟩
           ·simp only [aA.fits,Bool.and_eq_true,Bool.or_eq_true]
            exact ⟨.inl (Nat.beq_refl _),f1⟩
           ·have:es.length≤maxLen:=by rw [q2]; omega
            show (es.map pe.bh).length≤maxLen
            rw [List.length_map]
            exact this
         ·cases hy
       | pointer a=>cases a <;> cases hy
       | map a=>cases a <;> cases hy
       | chan a=>cases a <;> cases hy
       | _=>cases hy
    ·cases h
   ·cases h
  ·rename_i fs hu
   rw [hu] at hy
   have hy:(if cs.length=P.cellsOf t then (fs.toList.mapM fun f=>DataW.trod enc P w base spare held b9 f.type ((cs.drop f.offset).take (P.cellsOf f.type))).map fun xs=>(.agg (xs.map (·.1)),xs.flatMap (·.2)) else none)=some y:=hy
   split at hy
   ·rename_i hl
    obtain ⟨h1,h2⟩:=bq h
    cases hm:fs.toList.mapM fun f=>DataW.trod enc P w base spare held b9 f.type ((cs.drop f.offset).take (P.cellsOf f.type)) with
    | none=>rw [hm] at hy; cases hy
    | some ys=>
     cases ht:sk Field.offset (fun f=>P.cellsOf f.type) 0 fs.toList with
     | none=>rw [ht] at h1; cases h1
     | some m=>
      rw [ht] at h1
      have h1:=Nat.eq_of_beq_eq_true (show Nat.beq m (P.cellsOf t)=true from h1)
      obtain ⟨_,kZ,q1,q2,q3⟩:=ye (R:=nX w) (w:=w) (off:=Field.offset) (len:=fun f=>P.cellsOf f.type) (cs:=cs) (fun x ps y hx hy'=>sq Ca n hx hy') ht h2 hm
      rw [h1,← hl] at q1 q3
      simp only [List.drop_zero,Nat.sub_zero,List.take_length] at q1 q3
      exact ⟨kZ,q1,q2,q3⟩
   ·cases hy
  ·rename_i m e hu
   rw [hu] at hy
   have hy:(if cs.length=P.cellsOf t then ((List.range m).mapM fun i=>DataW.trod enc P w base spare held b9 e ((cs.drop (i * P.cellsOf e)).take (P.cellsOf e))).map fun xs=>(.agg (xs.map (·.1)),xs.flatMap (·.2)) else none)=some y:=hy
   split at hy
   ·rename_i hl
    obtain ⟨h1,h2⟩:=bq h
    cases hm:(List.range m).mapM fun i=>DataW.trod enc P w base spare held b9 e ((cs.drop (i * P.cellsOf e)).take (P.cellsOf e)) with
    | none=>rw [hm] at hy; cases hy
    | some ys=>
     cases ht:sk (fun i=>i * P.cellsOf e) (fun _=>P.cellsOf e) 0 (List.range m) with
     | none=>rw [ht] at h1; cases h1
     | some k=>
      rw [ht] at h1
      have h1:=Nat.eq_of_beq_eq_true (show Nat.beq k (P.cellsOf t)=true from h1)
      obtain ⟨_,kZ,q1,q2,q3⟩:=ye (R:=nX w) (w:=w) (off:=fun i=>i * P.cellsOf e) (len:=fun _=>P.cellsOf e) (cs:=cs) (fun x ps y hx hy'=>sq Ca n hx hy') ht h2 hm
      rw [h1,← hl] at q1 q3
      simp only [List.drop_zero,Nat.sub_zero,List.take_length] at q1 q3
      exact ⟨kZ,q1,q2,q3⟩
   ·cases hy
  ·cases h
def TE (P:Program) (n:Nat) (t:TypeId):Option aA:=match P.underlying t with
 | some u=>match IM P n t with
  | some ps=>so (Go.Am.jG u) ps
  | none=>none
 | none=>none
theorem N8 (Ca:∀ b,spare b=true) {n:Nat} {t:TypeId} {p:aA} (hp:TE P n t=some p) {v:Value} {d:DataW H} {pl:List MemPlace} {r:Reach} {base':Nat} (ht:DataW.Trod enc P w base spare held t v d pl) (dY:Value.okWide P w r base' t v) :
  ∃ x:p.T,Rel (nX w) w (p.enc x) v∧p.wf x:=by
 obtain ⟨b9,ht⟩:=ht
 have fin:∀ {a:AV},p.fits a=true→p.wf (p.bh a)→Rel (nX w) w a v→∃ x:p.T,Rel (nX w) w (p.enc x) v∧p.wf x:=fun {a} h1 h2 h3=>⟨p.bh a,(p.cG h1).fx _ _ _ h3,h2⟩
 unfold TE at hp
 split at hp
 ·rename_i u hu
  split at hp
  ·rename_i ps h1
   obtain ⟨kZ,q1,q2,q3⟩:=sq Ca n h1 ht
   obtain ⟨x,hx,f1,f2⟩:=Ds hp q2
   cases AY:Go.Am.jG u with
   | true=>
    rw [AY] at hx
    simp only [if_true] at hx
    subst hx
    have:∃ cs,v=.agg cs:=by
     unfold Value.okWide at dY
     rw [hu] at dY
     cases u <;> first | (cases AY; done) | (obtain ⟨cs,h,_⟩:=dY; exact ⟨cs,h⟩)
    obtain ⟨⟨cs⟩,rfl⟩:=this
    exact fin f1 f2 (.agg q1 q3)
   | false=>
    rw [AY] at hx
    simp only [Bool.false_eq_true,if_false] at hx
    subst hx
    have hv:v.cells.toList=[v]:=by
     cases v with
     | agg cs=>
      exfalso
      unfold Value.okWide at dY
      rw [hu] at dY
      cases u <;> first | (cases AY; done) | (simp [Cell.okWide,Cell.ok,hu] at dY)
     | _=>rfl
    rw [hv] at q1
    cases q1 with
    | cons q1 _=>exact fin f1 f2 q1
  ·cases hp
 ·cases hp
def Dt (P:Program) (n:Nat):List TypeId→Option (List aA)
 | []=>some []
 | t :: l=>match TE P n t,Dt P n l with
  | some p,some r=>some (p :: r)
  | _,_=>none
theorem Du (Ca:∀ b,spare b=true) {n:Nat} {r:Reach} {base':Nat}:∀ {ts:List TypeId} {ps:List aA} {vs:List Value} {ds:List (DataW H)} {pl:List MemPlace},Dt P n ts=some ps→DataW.TrodAll enc P w base spare held ts vs ds pl →
  (∀ (j:Nat) t v,ts[j]?=some t→vs[j]?=some v→Value.okWide P w r base' t v)→∃ x:(ku ps).T,aK (nX w) w ((ku ps).enc x) vs∧(ku ps).wf x
 | [],ps,vs,ds,pl,hp,ht,_=>by
  simp only [Dt] at hp
  cases hp
  cases vs with
  | nil=>exact ⟨(),.nil,trivial⟩
  | cons _ _=>cases ds <;> exact ht.elim
 | t :: ts,ps,vs,ds,pl,hp,ht,dY=>by
  unfold Dt at hp
  split at hp
  ·rename_i p r h1 h2
   cases hp
   cases vs with
   | nil=>cases ds <;> exact ht.elim
   | cons v vs=>
    cases ds with
    | nil=>exact ht.elim
    | cons d ds=>
     obtain ⟨p1,p2,k1,k2,_⟩:=ht
     obtain ⟨x,q1,q2⟩:=N8 Ca h1 k1 (dY 0 t v rfl rfl)
     obtain ⟨y,q3,q4⟩:=Du Ca h2 k2 (fun j t v hj hv=>dY (j+1) t v (by simpa using hj) (by simpa using hv))
     cases r with
     | nil=>
      cases q3
      exact ⟨x,.one q1,q2⟩
     | cons p' r=>exact ⟨(x,y),.cons q1 q3,q2,q4⟩
  ·cases hp
end read
end Go.Am
namespace Go.Am
open Go Go.RowKit Go.WideShapes Go.ChangeShapes
section
variable {H:Type} {enc:TypeId × Value→H} {P:Program}
theorem FQ {f:Func} {s:ChangeSpec} {apart fresh handsOn again:Bool} {W W':World} {args:Array Value} {v:Value} {ds gs:List (DataW H)} {before pa pv:List MemPlace}
  (hW:DataW.Whole enc P f.params.toList s.vars apart W args.toList ds gs before)
  (Fp:∀ (b:Nat) (sp:Nat→Bool) (hd:Bool),DataW.TrodAll enc P W' b sp hd f.resultTypes.toList (v.resultList f.resultTypes.size) (s.fn H (ds++gs)).results [])
  (uf:∀ sp:Nat→Bool,(∀ p∈before,sp p.block=true)→DataW.TrodAll enc P W' 0 sp true f.params.toList args.toList (s.fn H (ds++gs)).args pa)
  (Dv:∀ sp:Nat→Bool,(∀ p∈before,sp p.block=true)→DataW.TrodVars enc P W' sp s.vars (s.fn H (ds++gs)).vars pv)
  (M9:before=pa++pv) (hb:Below W.heap.size W W')
  (dY:∀ (j:Nat) (t:TypeId) (r:Value),f.resultTypes[j]?=some t→(v.resultList f.resultTypes.size)[j]?=some r→Value.okWide P W' .any 0 t r) :
  s.post enc P f apart fresh handsOn again W args v W':=by
 have bP:∀ p∈before,p.block < W.heap.size:=fun p hp=>hW.lt p hp
 have hold:∀ p∈before,(fun b=>decide (b < W.heap.size)) p.block=true:=fun p hp=>by simpa using bP p hp
 refine ⟨ds,gs,before,[],pa,pv,hW,Fp _ _ _,uf _ hold,Dv _ hold,World.keptBut_mono (fun p hp=>⟨hp,?_⟩) (hb.frame (·∈before)),fun _=>?_⟩
 ·rw [M9,List.mem_append] at hp
  exact Or.inr hp
 ·obtain ⟨_,_,_,_,_,hz,hn⟩:=hW
  refine ⟨dY,_,_,([]++pa)++pv,⟨[]++pa,pv,trodAll_append (uf _ (fun _ _=>rfl)) (Fp _ _ _),Dv _ (fun _ _=>rfl),rfl,?_,?_⟩,?_⟩
  ·intro b off hp
   have tj:MemPlace.cell b off∈before:=by rw [M9]; simpa using hp
   rw [hb.frozen (bP _ tj)]
   exact hz b off tj
  ·intro ha
   have:=hn ha
   rw [M9] at this
   simpa using this
  ·intro p hp _
   rw [M9]
   simpa using hp
theorem qh (hl:laidOutB P=true) {W W':World} (hb:Below W.heap.size W W') {sp:Nat→Bool}:∀ {ts:List TypeId} {vs:List Value} {ds:List (DataW H)} {pl:List MemPlace},
  (∀ t∈ts,P.readableRec t=true∧t < P.types.size)→DataW.TrodAll enc P W 0 (fun _=>true) true ts vs ds pl→(∀ p∈pl,p.block < W.heap.size)→(∀ p∈pl,sp p.block=true) →
  DataW.TrodAll enc P W' 0 sp true ts vs ds pl
 | [],[],[],_,_,h,_,_=>h
 | t :: ts,v :: vs,d :: ds,pl,hr,h,bP,Ca=>by
  obtain ⟨p,q,h1,h2,rfl⟩:=h
  refine ⟨p,q,?_,qh hl hb (fun t ht=>hr t (by simp [ht])) h2 (fun x hx=>bP x (by simp [hx])) (fun x hx=>Ca x (by simp [hx])),rfl⟩
  exact WideElems.Trod_stays hl (hr t (by simp)).1 (hr t (by simp)).2 h1 (fun x hx=>hb.same (bP x (by simp [hx]))) (fun x hx=>Ca x (by simp [hx]))
 | [],[],_ :: _,_,_,h,_,_=>h.elim
 | [],_ :: _,_,_,_,h,_,_=>h.elim
 | _ :: _,[],_,_,_,h,_,_=>h.elim
 | _ :: _,_ :: _,[],_,_,h,_,_=>h.elim
theorem IN {E:Env} {f:FuncId} {fn:Func} {s:ChangeSpec} {ps:List aA} {apart fresh handsOn again:Bool} {W:World} {base:Nat} {args:Array Value} {ds gs:List (DataW H)} {before:List MemPlace} {n tb:Nat}
  (abE:∀ x,(ku ps).wf x→ck E f ((ku ps).enc x) (fun r=>r=.bool true)) (XI:Dt E.P n fn.params.toList=some ps)
  (N9:∀ (j:Nat) t v,fn.params[j]?=some t→args[j]?=some v→Value.okWide E.P W .any base t v)
  (hW:DataW.Whole enc E.P fn.params.toList s.vars apart W args.toList ds gs before) (XJ:∀ g cs,E.cw g=some cs→dU (nX W) W g 0 cs)
  (Dv:s.vars=[]) (Ca:∀ ds:List (DataW H),ds.length=fn.params.toList.length→s.fn H ds={ results:=[.lit (.bool true)],args:=ds })
  (Fp:fn.resultTypes=#[tb]) (hub:E.P.underlying tb=some .bool) (hl:laidOutB E.P=true) (hr:∀ t∈fn.params.toList,E.P.readableRec t=true∧t < E.P.types.size) (E2:E.lo=0:=by rfl) (N6:∀ g cs,E.cw g=some cs→E.gx g=true→g < W.heap.size∧W.cell? ⟨g,cs.length,none⟩=none:=by intro _ _ _ h; exact Bool.noConfusion (show false=true from h)) :
  Calls E.P f args W fun e W'=>∃ v,e=.returned v∧s.post enc E.P fn apart fresh handsOn again W args v W':=by
 have hW0:=hW
 obtain ⟨p,q,hA,hV,rfl,ZV,hnd⟩:=hW
 obtain ⟨rfl,rfl⟩:gs=[]∧q=[]:=by
  rw [Dv] at hV
  cases gs with
  | nil=>exact ⟨rfl,hV⟩
  | cons g r=>exact absurd hV (by intro h; cases h)
 obtain ⟨x,hx,hwf⟩:=Du (fun _=>rfl) (n:=n) XI hA (r:=.any) (base':=base) (fun j t v hj hv=>N9 j t v (by simpa using hj) (by simpa using hv))
 have hlen:ds.length=fn.params.toList.length:=by
  clear N9 ZV hnd hW0 hx hwf Ca XI hr
  revert hA
  generalize fn.params.toList=ts
  generalize args.toList=vs
  generalize p=pl
  clear p
  intro hA
  induction ts generalizing vs ds pl with
  | nil=>cases vs <;> cases ds <;> first | rfl | exact hA.elim
  | cons t ts ih=>
   cases vs with
   | nil=>cases ds <;> exact hA.elim
   | cons v vs=>
    cases ds with
    | nil=>exact hA.elim
    | cons d ds=>
     obtain ⟨p,q,_,h2,_⟩:=hA
     simp [ih vs q h2]
 have hG:dE E (nX W) W []:=⟨rfl,fun id go ro h=>by simp [nth] at h,fun i j ri rj b h=>by simp [nX,nth] at h,fun b o h=>h,fun g cs hg=>⟨XJ g cs hg,fun hx=>N6 g cs hg hx⟩,by rw [E2]; exact Nat.zero_le _⟩
 have hc:=(abE x hwf [])
 refine (callsIn_wide.1 (hc.2 (nX W) W args.toList hG hx)).mono fun e W' he=>?_
 cases e with
 | panicked c=>exact he.elim
 | outgrown=>exact he.elim
 | returned c=>
  obtain ⟨r,G',R',⟨_,rfl⟩,dZ,_,st⟩:=he
  cases dZ
  have hb:Below W.heap.size W W':=⟨st.os,st.tape,st.output,st.size,fun k hk=>st.bQ k hk fun ho=>by
   obtain ⟨id,ro,h1,_⟩:=eB ho
   simp [nX,nth] at h1⟩
  have bP:∀ y∈p,y.block < W.heap.size:=fun y hy=>by simpa using hW0.lt y (by simpa using hy)
  have e1:s.fn H (ds++[])={ results:=[.lit (.bool true)],args:=ds }:=by rw [List.append_nil]; exact Ca ds hlen
  refine ⟨_,rfl,FQ (pa:=p) (pv:=[]) hW0 ?_ ?_ ?_ rfl hb ?_⟩
  ·intro b sp hd
   rw [e1,Fp]
   exact trodAll_mk1 (shut_bool hub true)
  ·intro sp abH
   rw [e1]
   exact qh hl hb hr hA bP (fun y hy=>abH y (by simpa using hy))
  ·intro sp _
   rw [e1,Dv]
   rfl
  ·intro j t r hj lr
   rw [Fp] at hj lr
   cases j with
   | succ j=>simp at hj
   | zero=>
    simp at hj
    subst hj
    have:r=.bool true:=by simpa [Value.resultList] using lr.symm
    subst this
    simp [Value.okWide,Cell.okWide,Cell.ok,hub]
end
end Go.Am
namespace Go.Am
open Go
theorem Dw {α β:Type} {f:α→Option β}:∀ {l:List α} {r:List β},l.mapM f=some r→r.length=l.length∧∀ (i:Nat) (x:α),l[i]?=some x→∃ y,r[i]?=some y∧f x=some y
 | [],r,h=>by
  cases h
  exact ⟨rfl,fun i x h=>by simp at h⟩
 | a :: l,r,h=>by
  obtain ⟨y,ys,h1,h2,rfl⟩:=iu h
  obtain ⟨k1,k2⟩:=Dw h2
  refine ⟨by simp [k1],fun i x hx=>?_⟩
  cases i with
  | zero=>
   simp at hx
   subst hx
   exact ⟨y,rfl,h1⟩
  | succ i=>simpa using k2 i x (by simpa using hx)
section
variable {P:Program} {W:World}
theorem trod_int {k:IntKind} {t:TypeId} {x:Int} {c:Value} {q:List MemPlace} {b9:Nat} (he:P.underlying t=some (.int k)) (h:DataW.trod (fun _=>()) P W 0 (fun _=>true) false b9 t [c]=some (.lit (.int k x),q)):c=.int k x:=by
 cases b9 with
 | zero=>simp [DataW.trod] at h
 | succ b9=>
  unfold DataW.trod at h
  simp only [he] at h
  cases c <;> simp at h
  obtain ⟨⟨rfl,_⟩,h2,_⟩:=h
  subst h2
  rfl
theorem uE {g:Nat} {k:IntKind} (hg:g < W.heap.size):∀ (xs:List (Int × Int)) (o:Nat),(∀ i (hi:i < xs.length),W.cell? ⟨g,o+2 * i,none⟩=some (.int k xs[i].1)∧W.cell? ⟨g,o+2 * i+1,none⟩=some (.int k xs[i].2))→dU (nX W) W g o (xs.flatMap fun x=>[.int k x.1,.int k x.2])
 | [],_,_=>.nil
 | x :: xs,o,h=>by
  obtain ⟨h1,h2⟩:=h 0 (by simp)
  refine .cons h1 rfl hg (.int k x.1) (.cons h2 rfl hg (.int k x.2) (uE hg xs (o+1+1) fun i hi=>?_))
  have:=h (i+1) (by simpa using hi)
  rw [show o+1+1+2 * i=o+2 * (i+1) by omega]
  simpa using this
theorem yf {nm:String} {xs:List (Int × Int)} {k:IntKind} {g t e ti:Nat} {f1 f2:Field} (hg:P.globalNamed nm=some g) (ht:(P.globals[g]?).map (·.type)=some t) (hu:P.underlying t=some (.array xs.length e)) (he:P.underlying e=some (.struct #[f1,f2])) (h1o:f1.offset=0) (h1t:f1.type=ti) (h2o:f2.offset=1) (h2t:f2.type=ti)
  (hi:P.underlying ti=some (.int k)) (hci:P.cellsOf ti=1) (hc:P.cellsOf e=2) (hct:P.cellsOf t=xs.length * 2) (hx:0 < xs.length) :
  ∀ {l:List (String × DataW Unit)} {ps:List MemPlace},DataW.LaidVars P W l ps→(nm,DataW.agg (xs.map fun x=>.agg [.lit (.int k x.1),.lit (.int k x.2)]))∈l →
  dU (nX W) W g 0 (xs.flatMap fun x=>[.int k x.1,.int k x.2])
 | [],_,_,hm=>by simp at hm
 | (n,d) :: r,ps,h,hm=>by
  obtain ⟨g',t',cs,b9,p,q,h1,h2,h3,h4,h5,_⟩:=h
  rcases List.mem_cons.1 hm with hm | hm
  ·injection hm with e1 e2
   subst e1; subst e2
   obtain rfl:g=g':=Option.some.inj (hg.symm.trans h1)
   obtain rfl:t=t':=Option.some.inj (ht.symm.trans h2)
   cases b9 with
   | zero=>simp [DataW.trod] at h4
   | succ b9=>
    unfold DataW.trod at h4
    simp only [hu,hc] at h4
    split at h4
    ·rename_i hlen
     rw [hct] at hlen
     cases hm2:(List.range xs.length).mapM fun i=>DataW.trod (fun _=>()) P W 0 (fun _=>true) false b9 e ((cs.toList.drop (i * 2)).take 2) with
     | none=>rw [hm2] at h4; cases h4
     | some ys=>
      rw [hm2] at h4
      have h6:ys.map (·.1)=xs.map fun x=>DataW.agg [.lit (.int k x.1),.lit (.int k x.2)]:=by
       have:=congrArg Prod.fst (Option.some.inj h4)
       injection this
      obtain ⟨k1,k2⟩:=Dw hm2
      have jr:∀ i (hi:i < xs.length),W.cell? ⟨g,0+2 * i,none⟩=some (.int k xs[i].1)∧W.cell? ⟨g,0+2 * i+1,none⟩=some (.int k xs[i].2):=fun i rk=>by
       have hl:2 * i+1 < cs.toList.length:=by omega
       obtain ⟨y,e1,e2⟩:=k2 i i (by rw [List.getElem?_eq_getElem (by simpa using rk)]; simp)
       have e3:y.1=DataW.agg [.lit (.int k xs[i].1),.lit (.int k xs[i].2)]:=by
        have:=congrArg (fun l=>l[i]?) h6
        simp only [List.getElem?_map,e1,Option.map_some] at this
        rw [List.getElem?_eq_getElem rk] at this
        simpa using this
       have e4:(cs.toList.drop (i * 2)).take 2=[cs.toList[2 * i]'(by omega),cs.toList[2 * i+1]]:=by
        rw [Nat.mul_comm,List.drop_eq_getElem_cons (by omega),List.drop_eq_getElem_cons (by omega)]
        rfl
       rw [e4] at e2
       cases b9 with
       | zero=>simp [DataW.trod] at e2
       | succ b9=>
        unfold DataW.trod at e2
        simp only [he,hc,List.length_cons,List.length_nil,if_true,h1o,h2o,h1t,h2t,hci,List.drop_zero,List.take_succ_cons,List.take_zero,List.drop_succ_cons,List.mapM_cons,List.mapM_nil] at e2
        have g1:W.cell? ⟨g,0+2 * i,none⟩=some (cs.toList[2 * i]'(by omega)):=by
         rw [Go.World.var?_cell hg h3,← Array.getElem?_toList,Nat.zero_add,List.getElem?_eq_getElem (by omega)]
        have g2:W.cell? ⟨g,0+2 * i+1,none⟩=some cs.toList[2 * i+1]:=by
         rw [Go.World.var?_cell hg h3,← Array.getElem?_toList,Nat.zero_add,List.getElem?_eq_getElem hl]
        rw [g1,g2]
        generalize cs.toList[2 * i]'(by omega)=c1 at e2
        generalize cs.toList[2 * i+1]=c2 at e2
        cases q1:DataW.trod (fun _=>()) P W 0 (fun _=>true) false b9 ti [c1] with
        | none=>rw [q1] at e2; simp at e2
        | some y1=>
         cases q2:DataW.trod (fun _=>()) P W 0 (fun _=>true) false b9 ti [c2] with
         | none=>rw [q1,q2] at e2; simp at e2
         | some y2=>
          rw [q1,q2] at e2
          simp at e2
          rw [← e2] at e3
          simp at e3
          obtain ⟨d1,m1⟩:=y1
          obtain ⟨d2,m2⟩:=y2
          simp only at e3
          obtain ⟨rfl,rfl⟩:=e3
          exact ⟨congrArg some (trod_int hi q1),congrArg some (trod_int hi q2)⟩
      have ZA:g < W.heap.size:=by
       have h0:=(jr 0 hx).1
       unfold World.cell? at h0
       split at h0
       ·rename_i hh
        exact (Array.getElem?_eq_some_iff.1 hh).1
       ·cases h0
      exact uE ZA xs 0 jr
    ·cases h4
  ·exact yf hg ht hu he h1o h1t h2o h2t hi hci hc hct hx h5 hm
end
end Go.Am
namespace Go.Am
open Go
theorem bW {p:aA} (hp:p.plain=true) (l:List p.T):allFit p.fits (List.map p.enc l)=true:=by
 induction l with
 | nil=>rfl
 | cons x l ih=>simp [allFit,ih,(p.aU x hp).1]
theorem dw {p:aA} (hp:p.plain=true) (l:List p.T):List.map p.bh (List.map p.enc l)=l:=by
 induction l with
 | nil=>rfl
 | cons x l ih=>simp [ih,(p.aU x hp).2]
theorem FR {V X:Type} (rd:V→Option (V ⊕ X)) (n:Nat) (v:V):ak rd (n+1) v=(rd v).bind fun o=>Sum.elim (fun v'=>ak rd n v') (fun x=>some x) o:=rfl
theorem An {V X:Type} {rd:V→Option (V ⊕ X)} {Inv:V→Prop} {m:V→Nat} {XL:X→Prop}
  (h:∀ v,Inv v→(∃ v',rd v=some (.inl v')∧Inv v'∧m v' < m v)∨∃ x,rd v=some (.inr x)∧XL x) :
  ∀ (n:Nat) (v:V),Inv v→m v < n→∃ x,ak rd n v=some x∧XL x
 | 0,_,_,hm=>absurd hm (Nat.not_lt_zero _)
 | n+1,v,hi,hm=>by
  rw [FR]
  rcases h v hi with ⟨v',h1,h2,h3⟩ | ⟨x,h1,h2⟩
  ·rw [h1]
   exact An h n v' h2 (by omega)
  ·rw [h1]
   exact ⟨x,rfl,h2⟩
end Go.Am
namespace Go.Am
open Go Go.RowKit
section
variable {E:Env} {R:aj} {w w':World}
theorem Below.TF (h:Below w.heap.size w w') (wf:∀ b o,R.I b o→b < w.heap.size):Ext R w R w':=
 ⟨fun _ _ h=>h,fun b o hi=>bT (h.block b (wf b o hi)) o,fun _ ro h=>⟨ro,h,cm.refl ro⟩,.old fun b hb=>h.block b hb⟩
theorem Below.XM {G:List GO} (h:Below w.heap.size w w') (hg:dE E R w G) (hE:E.lo=0):dE E R w' G:=
 hg.bQ (Below.TF h hg.wf) rfl (fun b hb=>h.block b (hg.b6 hb)) (fun _ _ _ hi=>hi) (fun b o hi=>Nat.lt_of_lt_of_le (hg.wf b o hi) h.size) (fun _=>by rw [hE]; exact Nat.zero_le _)
theorem Below.Sq {β:Nat→Nat} {bx:cF} (h:Below w.heap.size w w') (wf:∀ b o,R.I b o→b < w.heap.size):Step R w β bx R w' β bx:=
 ⟨Below.TF h wf,h.os,h.tape,h.output,h.size,fun b hb _=>h.block b hb,fun _ _ ho=>ho,fun _ _ hi _ _=>hi⟩
theorem ck.below {g:FuncId} {args:List AV} {r:AV} (hp:Plain E.P g)
  (h:∀ (R:aj) (w:World) (cs:List Value),aK R w args cs→Calls E.P g ⟨cs⟩ w (fun e w'=>∃ v,e=.returned v∧(∀ R,Rel R w' r v)∧Below w.heap.size w w')) (hE:E.lo=0):ck E g args (fun r'=>r'=r):=fun G=>
 ⟨hp,fun R w cs hg hl=>callsIn_wide.2 ((h R w cs hl).mono fun e w' ⟨v,he,hv,hb⟩=>by
  subst he
  exact ⟨r,G,R,⟨rfl,rfl⟩,hv R,Below.XM hb hg hE,Below.Sq hb hg.wf⟩)⟩
theorem Plain.of {P : Program} {g : FuncId} {fn : Func} (h : P.funcs[g]? = some fn) (h1 : fn.body.isNone = false) (h2 : (fn.name == "runtime.NumGoroutine") = false) : Plain P g := ⟨fn, h, h1, h2⟩
end
def p2 (a b:aA):aO:=.cons a (.cons b .nil)
def p1 (a:aA):aO:=.cons a .nil
def IP:List UInt8 × List UInt8→Option (List UInt8)
 | (s,[c])=>bif Nat.blt c.toNat 128 then some (s.dropWhile (· == c)) else none
 | _=>none
def KU (n:Int):List UInt8:=bif decide (n < 10) then [UInt8.ofNat (48+n.toNat)] else [UInt8.ofNat (48+n.toNat / 10),UInt8.ofNat (48+n.toNat % 10)]
def XN (n:Int):Option (List UInt8):=bif decide (0≤n)&&decide (n < 100) then some (KU n) else none
def sr:List (List UInt8)→List UInt8→List UInt8
 | [],_=>[]
 | [a],_=>a
 | a :: l,sep=>a++sep++sr l sep
def XO (x:List (List UInt8) × List UInt8):Option (List UInt8):=bif decide (x.1.length≤140737488355328)&&decide ((sr x.1 x.2).length≤140737488355328) then some (sr x.1 x.2) else none
def IQ:aD:=⟨p2 .str .str,.str,IP⟩
def Ha:aD:=⟨p1 (.int .i64),.str,XN⟩
def FT:aD:=⟨p2 (.list 1 .str) .str,.str,XO⟩
section
variable {E:Env}
theorem uF {g:FuncId} (hp:Plain E.P g)
  (h:∀ (s:ByteArray) (c:UInt8),c.toNat < 128→∀ w:World,Calls E.P g #[.string s,.string ⟨#[c]⟩] w fun e w'=>e=.returned (.string ⟨(s.data.toList.dropWhile (· == c)).toArray⟩)∧w'=w) (hE:E.lo=0:=by rfl):aw E g IQ:=fun x y hT=>by
 obtain ⟨s,c⟩:=x
 match c,hT with
 | [c],hT=>
  obtain ⟨h1,h2⟩:=cond_some' hT
  subst h2
  refine ck.below hp (fun R w cs hl=>?_) hE
  cases hl with
  | cons a1 hl=>
  cases hl with
  | cons a2 hl=>
  cases hl
  cases a1; cases a2
  refine (h ⟨⟨s⟩⟩ c (Nat.le_of_ble_eq_true h1) w).mono ?_
  rintro e w' ⟨rfl,rfl⟩
  exact ⟨_,rfl,fun _=>Rel.str _,Below.refl _ _⟩
where
 cond_some' {c:Bool} {a x:List UInt8} (h:(bif c then some a else none)=some x):c=true∧a=x:=by
  cases c
  ·cases h
  ·exact ⟨rfl,Option.some.inj h⟩
theorem Oa {g:FuncId} (hp:Plain E.P g)
  (h:∀ (i:Nat),i < 100→∀ w:World,Calls E.P g #[.int .i64 i] w fun e w'=>e=.returned (.string ⟨(KU i).toArray⟩)∧w'=w) (hE:E.lo=0:=by rfl):aw E g Ha:=fun x y hT=>by
 obtain ⟨n,rfl⟩:∃ n:Int,(show Ha.ps.T from n)=x:=⟨x,rfl⟩
 obtain ⟨h1,h2⟩:=uF.cond_some' (show (bif decide ((0:Int)≤n)&&decide (n < 100) then some (KU n) else none)=some y from hT)
 subst h2
 rw [Bool.and_eq_true] at h1
 have a:=of_decide_eq_true h1.1
 have b:=of_decide_eq_true h1.2
 obtain ⟨i,rfl⟩:∃ i:Nat,n=i:=⟨n.toNat,by omega⟩
 refine ck.below hp (fun R w cs hl=>?_) hE
 cases hl with
 | cons a1 hl=>
 cases hl
 cases a1
 refine (h i (by omega) w).mono ?_
 rintro e w' ⟨rfl,rfl⟩
 exact ⟨_,rfl,fun _=>Rel.str _,Below.refl _ _⟩
theorem Ao {R:aj} {w:World} {b:Nat}:∀ {xs:List (List UInt8)} {o:Nat},fS R w b o 1 (xs.map (fun l=>AV.str l))→∀ (j:Nat) x,(xs.map fun l=>(⟨⟨l⟩⟩:ByteArray))[j]?=some x→w.cell? ⟨b,o+j,none⟩=some (.string x)
 | [],_,_,j,x,h=>by simp at h
 | a :: xs,o,.cons _ _ _ hc t,0,x,h=>by
  cases hc with
  | cons h1 h2 h3 h4 h5=>
  cases h4
  simp only [List.map_cons,List.getElem?_cons_zero] at h
  cases h
  exact h1
 | a :: xs,o,.cons _ _ _ hc t,j+1,x,h=>by
  simp only [List.map_cons,List.getElem?_cons_succ] at h
  have:=Ao t j x h
  rw [show o+(j+1)=o+1+j by omega]
  exact this
theorem Ob {g:FuncId} (hp:Plain E.P g)
  (h0:∀ (a:Option Addr) (c:Nat) (sep:ByteArray) (w:World),Calls E.P g #[.slice a 0 c,.string sep] w fun e w'=>e=.returned (.string ⟨#[]⟩)∧w'=w)
  (h:∀ (bk o c:Nat) (xs:List ByteArray) (sep:ByteArray) (w:World),(∀ (j:Nat) x,xs[j]?=some x→w.cell? ⟨bk,o+j,none⟩=some (.string x))→bk < w.heap.size→xs.length≤140737488355328→xs.length≤c→(sr (xs.map (·.data.toList)) sep.data.toList).length≤140737488355328 →
   Calls E.P g #[.slice (some ⟨bk,o,none⟩) xs.length c,.string sep] w fun e w'=>e=.returned (.string ⟨(sr (xs.map (·.data.toList)) sep.data.toList).toArray⟩)∧Below w.heap.size w w') (hE:E.lo=0:=by rfl):aw E g FT:=fun x y hT=>by
 obtain ⟨xs,sep,rfl⟩:∃ (xs:List (List UInt8)) (sep:List UInt8),x=(xs,sep):=⟨x.1,x.2,rfl⟩
 obtain ⟨h1,h2⟩:=uF.cond_some' (show (bif decide (xs.length≤140737488355328)&&decide ((sr xs sep).length≤140737488355328) then some (sr xs sep) else none)=some y from hT)
 subst h2
 rw [Bool.and_eq_true] at h1
 have b1:=of_decide_eq_true h1.1
 have b2:=of_decide_eq_true h1.2
 refine ck.below hp (fun R w cs hl=>?_) hE
 cases hl with
 | @cons _ c1 _ _ a1 hl=>
 cases hl with
 | cons a2 hl=>
 cases hl
 cases a2
 have key:(xs=[]∧∃ a c',c1=.slice a 0 c')∨∃ bk o c',c1=.slice (some ⟨bk,o,none⟩) xs.length c'∧xs.length≤c'∧fS R w bk o 1 (xs.map (fun l=>AV.str l)):=by
  have ZX:Rel R w (.list .gr 1 (xs.map (fun l=>AV.str l))) c1:=a1
  generalize he:xs.map (fun l=>AV.str l)=es at ZX
  cases ZX with
  | iA=>exact .inl ⟨by simpa using he,none,0,rfl⟩
  | @lS _ ad=>exact .inl ⟨by simpa using he,some ad,0,rfl⟩
  | list h hl hc hk=>
   rw [← he,List.length_map] at hl
   subst hl
   exact .inr ⟨_,_,_,rfl,hc,h⟩
 by_cases hx:xs=[]
 ·subst hx
  obtain ⟨a,c',rfl⟩:∃ a c',c1=.slice a 0 c':=by
   rcases key with ⟨_,hk⟩ | ⟨bk,o,c',rfl,_⟩
   ·exact hk
   ·exact ⟨_,_,rfl⟩
  refine (h0 a c' ⟨⟨sep⟩⟩ w).mono ?_
  rintro e w' ⟨rfl,rfl⟩
  exact ⟨_,rfl,fun _=>Rel.str _,Below.refl _ _⟩
 ·rcases key with ⟨hk,_⟩ | ⟨bk,o,c',rfl,hc,hE⟩
  ·exact absurd hk hx
  ·have jr:=Ao hE
   have hbk:bk < w.heap.size:=by
    match xs,hx with
    | x :: xs,_=>
     have:=jr 0 ⟨⟨x⟩⟩ rfl
     unfold World.cell? at this
     rcases Nat.lt_or_ge bk w.heap.size with h' | h'
     ·exact h'
     ·rw [Array.getElem?_eq_none (by simpa using h')] at this
      cases this
   have hm:(xs.map fun l=>(⟨⟨l⟩⟩:ByteArray)).map (fun x=>x.data.toList)=xs:=by simp [List.map_map,Function.comp_def]
   have:=h bk o c' (xs.map fun l=>(⟨⟨l⟩⟩:ByteArray)) ⟨⟨sep⟩⟩ w jr hbk (by rw [List.length_map]; exact b1) (by rw [List.length_map]; exact hc) (by rw [hm]; exact b2)
   rw [hm,List.length_map] at this
   refine this.mono ?_
   rintro e w' ⟨rfl,hb⟩
   exact ⟨_,rfl,fun _=>Rel.str _,hb⟩
end
end Go.Am
namespace Go.Am
open Go Go.RowKit Go.Proofs Go.Shelf
section
variable {E:Env} {R:aj} {w w':World}
theorem dE.CT {G:List GO} (h:dE E R w G):bi E R w (fun _=>0) ⟨[],eZ,G,[],none,0⟩ { tmps:=#[],defers:=[] }:=
 ⟨h,⟨fun k cs hk=>by simp [eZ,dS] at hk,fun k k' cs eV hk=>by simp [eZ,dS] at hk⟩,fun i hi=>absurd rfl hi,rfl,trivial⟩
theorem Dx (a:Addr) (n:Nat) (b o:Nat):(w.freeze a n).cell? ⟨b,o,none⟩=w.cell? ⟨b,o,none⟩:=by
 unfold World.freeze
 split
 ·rfl
 ·simp only [World.cell?,Array.getElem?_modify]
  by_cases e:a.block=b
  ·subst e
   simp only [if_true]
   cases h:w.heap[a.block]? with
   | none=>rfl
   | some x=>cases x <;> simp
  ·simp [e]
theorem Dy {a:Addr} {n:Nat} {b:Nat} (h:b≠a.block):(w.freeze a n).heap[b]?=w.heap[b]?:=by
 unfold World.freeze
 split
 ·rfl
 ·simp only [Array.getElem?_modify]
  rw [if_neg (Ne.symm h)]
theorem Dz (a:Addr) (n:Nat):(w.freeze a n).heap.size=w.heap.size:=by
 unfold World.freeze
 split <;> simp
theorem dE.frozen {G:List GO} (hg:dE E R w G) {t f sz el g c n:Nat} (_ht:nth G t=some (.tok f sz el)) (hr:nth R.obj t=some (.tok f g c)) {cur:Array Value} {fz:Nat × Nat} (hc:w.heap[g]?=some (.cells cur el fz)) :
  dE E R (w.drew.freeze ⟨g,0,none⟩ n) (ap G t .dead)∧Step R w (fun _=>0) eZ R (w.drew.freeze ⟨g,0,none⟩ n) (fun _=>0) eZ:=by
 have hl:Live R g:=⟨t,_,hr,rfl⟩
 have bQ:∀ b,b≠g→(w.drew.freeze ⟨g,0,none⟩ n).heap[b]?=w.heap[b]?:=fun b hb=>Dy (w:=w.drew) (a:=⟨g,0,none⟩) hb
 have ej:(w.drew.freeze ⟨g,0,none⟩ n).heap.size=w.heap.size:=Dz (w:=w.drew) _ _
 have e:Ext R w R (w.drew.freeze ⟨g,0,none⟩ n):=⟨fun _ _ h=>h,fun b o _=>Dx (w:=w.drew) _ _ b o,fun _ ro h=>⟨ro,h,cm.refl ro⟩,fun b r hb=>⟨r,by
  by_cases e:b=g
  ·subst e; rw [hc] at hb; cases hb
  ·rw [bQ b e]; exact hb,rfl,rfl,rfl,rfl,rfl⟩⟩
 have ZY:∀ (v:World) (a:Addr) (m:Nat),(v.freeze a m).os=v.os∧(v.freeze a m).tape=v.tape∧(v.freeze a m).output=v.output∧(v.freeze a m).drawn=v.drawn:=by
  intro v a m
  unfold World.freeze
  split <;> exact ⟨rfl,rfl,rfl,rfl⟩
 refine ⟨⟨by rw [gT]; exact hg.len,fun id go ro q1 q2=>?_,hg.inj,fun b o hi=>by rw [ej]; exact hg.wf b o hi,fun x cs hx=>(hg.cw x cs hx).mono e,by rw [(ZY _ _ _).2.2.2]; exact Nat.le_succ_of_le hg.lo⟩,⟨e,(ZY _ _ _).1,(ZY _ _ _).2.1,(ZY _ _ _).2.2.1,by rw [ej]; exact Nat.le_refl _,fun b hb hn=>bQ b (fun e=>hn (e ▸ .inl hl)),fun _ _ ho=>ho,fun _ _ hi _ _=>hi⟩⟩
 rcases cV q1 with ⟨rfl,rfl,_⟩ | ⟨cL,q1⟩
 ·rw [hr] at q2
  cases q2
  show g < _
  rw [ej]
  exact bo hc
 ·refine (hg.obj id go ro q1 q2).mono e (fun b hb=>bQ b (fun e=>cL ?_)) (fun _ _ _ hi=>hi)
  subst e
  exact hg.inj t id _ _ b hr q2 rfl hb
end
end Go.Am
namespace Go.Am
open Go
theorem DA {x:Int} (h:-9223372036854775808≤x∧x≤9223372036854775807):IntKind.wrap .i64 x=x:=IntWalk.i64_in x (by omega)
def cU (N:Nat):Prop:=18446744073709551616≤N
theorem bt {V X:Type} (rd:V→Option (V ⊕ X)) (n:Nat) (v:V):ak rd (n+1) v=(rd v).bind fun o=>Sum.elim (fun v'=>ak rd n v') (fun x=>some x) o:=rfl
theorem dx {α:Type} (g:α→AV) (xs:List α) (k:Nat) (h:k < xs.length):ab (xs.map g) k=g xs[k]:=by
 unfold ab
 rw [aY,List.getElem?_map,List.getElem?_eq_getElem h]
 rfl
def foldI {S α Y:Type} (st:S→α→S ⊕ Y):S→List α→S ⊕ Y
 | s,[]=>.inl s
 | s,a :: l=>Sum.elim (fun s'=>foldI st s' l) (fun y=>.inr y) (st s a)
theorem eQ {V X S α Y:Type} {rd:V→Option (V ⊕ X)} (l:List α) (E:S→Nat→V) (st:S→α→S ⊕ Y) (fin:S→X) (ex:Y→X) (P:S→Nat→Prop)
  (h:∀ s k (hk:k < l.length),P s k→rd (E s k)=some (Sum.map (fun s'=>E s' (k+1)) ex (st s l[k]))∧∀ s',st s l[k]=.inl s'→P s' (k+1))
  (h0:∀ s,P s l.length→rd (E s l.length)=some (.inr (fin s))) :
  ∀ n s k,k≤l.length→l.length < n+k→P s k→ak rd n (E s k)=some (Sum.elim fin ex (foldI st s (l.drop k)))
 | 0,s,k,hk,hn,_=>by omega
 | n+1,s,k,hk,hn,hP=>by
  rw [bt]
  by_cases bP:k < l.length
  ·obtain ⟨h1,h2⟩:=h s k bP hP
   rw [h1,List.drop_eq_getElem_cons bP]
   simp only [Option.bind_some,foldI]
   cases hs:st s l[k] with
   | inl s'=>
    simp only [Sum.map_inl,Sum.elim_inl]
    exact eQ l E st fin ex P h h0 n s' (k+1) (by omega) (by omega) (h2 s' hs)
   | inr y=>simp only [Sum.map_inr,Sum.elim_inr]
  ·have:k=l.length:=by omega
   subst this
   rw [h0 s hP,List.drop_eq_nil_of_le (Nat.le_refl _)]
   rfl
theorem bD {V X S α:Type} {rd:V→Option (V ⊕ X)} (l:List α) (E:S→Nat→V) (f:S→α→S) (fin:S→X) (P:S→Nat→Prop)
  (h:∀ s k (hk:k < l.length),P s k→rd (E s k)=some (.inl (E (f s l[k]) (k+1)))∧P (f s l[k]) (k+1))
  (h0:∀ s,P s l.length→rd (E s l.length)=some (.inr (fin s))) :
  ∀ n s k,k≤l.length→l.length < n+k→P s k→ak rd n (E s k)=some (fin ((l.drop k).foldl f s))
 | 0,s,k,hk,hn,_=>by omega
 | n+1,s,k,hk,hn,hP=>by
  rw [bt]
  by_cases bP:k < l.length
  ·obtain ⟨h1,h2⟩:=h s k bP hP
   rw [h1,List.drop_eq_getElem_cons bP]
   simp only [Option.bind_some,Sum.elim_inl,List.foldl_cons]
   exact bD l E f fin P h h0 n _ (k+1) (by omega) (by omega) h2
  ·have:k=l.length:=by omega
   subst this
   rw [h0 s hP,List.drop_eq_nil_of_le (Nat.le_refl _)]
   rfl
theorem hU {V X:Type} {rd:V→Option (V ⊕ X)} (m:Nat) (E:Nat→V) (x:X) (h:∀ k,k < m→rd (E k)=some (.inl (E (k+1)))) (h0:rd (E m)=some (.inr x)) :
  ∀ n k,k≤m→m < n+k→ak rd n (E k)=some x
 | 0,k,hk,hn=>by omega
 | n+1,k,hk,hn=>by
  rw [bt]
  by_cases bP:k < m
  ·rw [h k bP]
   simp only [Option.bind_some,Sum.elim_inl]
   exact hU m E x h h0 n (k+1) (by omega) (by omega)
  ·have:k=m:=by omega
   subst this
   rw [h0]
   rfl
theorem an {k n:Nat} (h:k < n):decide (0≤(k:Int)∧(k:Int) < (n:Int))=true:=by simp; omega
theorem ax {k n:Nat} (h:k < n):decide ((k:Int) < (n:Int))=true:=by simpa using h
theorem aJ (n:Nat):decide ((n:Int) < (n:Int))=false:=by simp
theorem aN {k:Nat} (h:k < 9223372036854775807):IntKind.wrap .i64 ((k:Int)+1)=((k+1:Nat):Int):=by rw [DA (by omega)]; simp
theorem qN {α:Type} (l:List α):∀ a:List α,l.foldl (fun a x=>a++[x]) a=a++l:=by
 induction l with
 | nil=>intro a; simp
 | cons x l ih=>intro a; simp [ih]
theorem Ap {S α Y:Type} {st:S→α→S ⊕ Y} {P:S→Nat→Prop}:∀ {l:List α} {s s':S} {k:Nat},(∀ s a s' k,a∈l→P s k→st s a=.inl s'→P s' (k+1))→P s k→foldI st s l=.inl s'→P s' (k+l.length)
 | [],s,s',k,_,h0,hf=>by
  simp only [foldI] at hf
  cases hf
  exact h0
 | a :: l,s,s',k,h,h0,hf=>by
  simp only [foldI] at hf
  cases hs:st s a with
  | inl s1=>
   rw [hs] at hf
   have:=Ap (l:=l) (fun s a s' k ha=>h s a s' k (by simp [ha])) (h s a s1 k (by simp) h0 hs) hf
   rwa [show k+1+l.length=k+(a :: l).length by simp; omega] at this
  | inr y=>rw [hs] at hf; cases hf
def oU (n lo hi:Int):Int:=if n < lo∨n > hi then 3 else 0
def ay:List Int→Int
 | []=>0
 | x :: l=>if x=0 then ay l else x
theorem yg (a b:List Int):ay (a++b)=if ay a=0 then ay b else ay a:=by
 induction a with
 | nil=>simp [ay]
 | cons x a ih=>
  simp only [List.cons_append,ay]
  by_cases h:x=0
  ·simp [h,ih]
  ·simp [h]
theorem bN {l:List Int}:ay l=0↔∀ x∈l,x=0:=by
 induction l with
 | nil=>simp [ay]
 | cons x l ih=>
  simp only [ay,List.mem_cons,forall_eq_or_imp]
  by_cases h:x=0
  ·simp [h,ih]
  ·simp [h]
theorem nw {rd:Int→Option (Int ⊕ (Int ⊕ Unit))} (l:List Int)
  (h:∀ k (hk:k < l.length),rd (k:Int)=some (if l[k]=0 then .inl ((k+1:Nat):Int) else .inr (.inl l[k]))) (h0:rd (l.length:Int)=some (.inr (.inr ()))) (n:Nat) (hn:l.length < n) :
  ∃ o,ak rd n 0=some o∧Sum.elim (fun x=>x) (fun _=>0) o=ay l:=by
 have key:=eQ (rd:=rd) (S:=Unit) (Y:=Int) l (fun _ k=>(k:Int)) (fun _ x=>if x=0 then .inl () else .inr x) (fun _=>.inr ()) (fun x=>.inl x) (fun _ _=>True)
  (fun s k hk _=>⟨by rw [h k hk]; by_cases e:l[k]=0 <;> simp [e],fun _ _=>trivial⟩) (fun _ _=>h0) n () 0 (Nat.zero_le _) (by omega) trivial
 refine ⟨_,key,?_⟩
 rw [List.drop_zero]
 clear key h h0 hn
 induction l with
 | nil=>rfl
 | cons x l ih=>
  simp only [foldI,ay]
  by_cases e:x=0
  ·simp only [e,if_true,Sum.elim_inl]; exact ih
  ·simp [e]
theorem oV {rd:Int→Option (Int ⊕ (Int ⊕ Unit))} (l:List Int)
  (h:∀ k (hk:k < l.length),rd (k:Int)=some (if l[k]=0 then .inl ((k+1:Nat):Int) else .inr (.inl l[k]))) (h0:rd (l.length:Int)=some (.inr (.inr ()))) (n:Nat) (hn:l.length < n) :
  ak rd n 0=some (if ay l=0 then .inr () else .inl (ay l)):=by
 have key:=eQ (rd:=rd) (S:=Unit) (Y:=Int) l (fun _ k=>(k:Int)) (fun _ x=>if x=0 then .inl () else .inr x) (fun _=>.inr ()) (fun x=>.inl x) (fun _ _=>True)
  (fun s k hk _=>⟨by rw [h k hk]; by_cases e:l[k]=0 <;> simp [e],fun _ _=>trivial⟩) (fun _ _=>h0) n () 0 (Nat.zero_le _) (by omega) trivial
 rw [List.drop_zero] at key
 refine key.trans (congrArg some ?_)
 clear key h h0 hn
 induction l with
 | nil=>rfl
 | cons x l ih=>
  simp only [foldI,ay]
  by_cases e:x=0
  ·simp only [e,if_true,Sum.elim_inl]; exact ih
  ·simp [e]
theorem abJ {x:Int} (h:x≠0):(x == 0)=false:=by simpa using h
theorem KV {x:Int} (h:x≠0):(x != 0)=true:=by simpa using h
end Go.Am
