/- The abstract machine: the evaluator is sound. -/
import Derived.Test.YtldcljfjjoidhaaGreatDoorAmKJ
import GoSem.ClaimJoined
import Derived.Below
import Derived.ChangeSame
import Derived.Carry
import Derived.RowKit
import Derived.FnData
import Derived.Lib.Builder
import Derived.Lib.UnsafeStr
import Derived.Shelf.Strings.Builder1
import Derived.IntWalk
set_option linter.all false
namespace Go.Am
open Go
section
variable {C:eE} {ih:W1}
def tn (C:eE) (ih:W1):Prop:=∀ (f:FuncId) (p:Nat) (c:Code) (X:Type) (eY:Option X→Option X→Option X),um eY→∀ (K:Exit→St→Option X) (s:St) (x:X),
 bH (C.D.dt f) c=true→ih f p c X eY K s=some x→lM C.D.toEnv c (fun e s'=>K e s'=some x) s
theorem qJ {X:Type}:um (BN (X:=X)):=fun a b x h=>by
 unfold BN at h
 by_cases e:a=b
 ·rw [if_pos e] at h
  exact ⟨h,e ▸ h⟩
 ·rw [if_neg e] at h
  cases h
theorem oS (hs:tn C ih) {X:Type} {eY:Option X→Option X→Option X} (hm:um eY):nr C.D.toEnv (CS C ih eY):=fun g args G K x h=>by
 unfold CS at h
 obtain ⟨eB,h⟩:=bo h
 split at h
 ·rename_i fn W2
  split at h
  ·rename_i b hb
   obtain ⟨hn,h⟩:=bo h
   have fin:∀ {K':AV→List GO→Option X},ih g 1 b X eY (J8 C.D.toEnv fn K') (St.init fn.ntmps args G)=some x→cw C.D.toEnv g args G (fun r G'=>K' r G'=some x):=by
    intro K' h
    refine cw.intro W2 hb (by simpa using hn) ((hs g 1 b X eY hm _ _ x (C.D.R5 g fn b eB W2 hb) h).mono fun e s' hq=>?_)
    have hq:=hq.1
    unfold J8 at hq
    unfold RY
    cases e <;> first | (cases hq; done) | skip
    all_goals (simp only at hq ⊢)
    all_goals (split at hq <;> first | (cases hq; done) | skip)
    all_goals (rename_i hl; rw [hl]; simp only)
    all_goals (split at hq <;> first | (cases hq; done) | skip)
    all_goals (rename_i JN; rw [JN]; exact hq)
   cases hfz:C.D.yy g 131072 with
   | true=>rw [hfz] at h; exact cw.frz (fin h)
   | false=>rw [hfz] at h; exact fin h
  ·cases h
 ·cases h
theorem CV (Be:∀ g e,C.yx g=some e→ap C.D.toEnv g e) (hs:tn C ih) {X:Type} {eY:Option X→Option X→Option X} (hm:um eY):nr C.D.toEnv (CT C ih eY):=fun g args G K x h=>by
 unfold CT at h
 split at h
 ·rename_i e he
  obtain ⟨a,ha,h⟩:=bind_some h
  obtain ⟨y,hy,h⟩:=bind_some h
  refine cw.gD (e.ps.qu ha).1 (((Be g e he a y hy) G).mono fun r G' hr=>?_)
  obtain ⟨rfl,rfl⟩:=hr
  exact h
 ·split at h
  ·rename_i e he
   split at h
   ·rename_i c r G' hf
    obtain ⟨hc,h⟩:=bo h
    subst hc
    refine (e.ok args G r G' hf).mono fun r' zM hh=>?_
    obtain ⟨rfl,rfl⟩:=hh
    exact h
   ·cases h
  ·split at h
   ·rename_i e he
    obtain ⟨a,ha,h⟩:=bind_some h
    obtain ⟨y,hy,h⟩:=bind_some h
    refine cw.gD (e.ps.qu ha).1 ((e.ok a y hy G).mono fun r G' hr=>?_)
    obtain ⟨z,rfl,hr⟩:=hr
    exact (CR e.outs z hr).trans h
   ·exact oS hs hm g args G K x h
theorem CW {n:Nat}:∀ {l:List Tmp},NX n l=true→∀ t∈l,t < n
 | [],_,t,ht=>by simp at ht
 | a :: l,h,t,ht=>by
  simp only [NX,Bool.and_eq_true] at h
  rcases List.mem_cons.1 ht with rfl | ht
  ·exact jG h.1
  ·exact CW h.2 t ht
theorem E9 (hs:tn C ih) {X:Type} {eY:Option X→Option X→Option X} (hm:um eY):uo C.D.toEnv (NY C ih eY):=fun id args G K x h=>by
 unfold NY at h
 split at h
 ·rename_i p fp sl n ps rQ bd d hG
  obtain ⟨hc,h⟩:=bo h
  simp only [Bool.and_eq_true] at hc
  obtain ⟨⟨⟨h1,h2⟩,h3⟩,h4⟩:=hc
  refine kj.intro hG (Nat.eq_of_beq_eq_true h1) (CW h2) ((hs _ _ rQ X eY hm _ _ x h3 h).mono fun e s1 hq=>?_)
  have hq:=hq.1
  unfold A2
  cases e with
  | normal=>
   simp only at hq ⊢
   split at hq
   ·rename_i p' fn WT n' Yi NR WX d' hG1
    rw [hG1]
    simp only
    refine (hs _ _ bd X eY hm _ _ x h4 hq).mono fun e2 s2 od=>?_
    have od:E5 id K e2 s2=some x:=od.1
    unfold E5 at od
    unfold EZ
    split at od
    ·rename_i X7
     rw [X7]
     cases e2 <;> first | (cases od; done) | exact od
    ·cases od
   ·cases hq
  | _=>cases hq
 ·cases h
theorem lM.of {E:Env} {c:Code} {Q Q':Exit→St→Prop} {s:St} (h:lM E c Q s) (hq:∀ e s',Q e s'→aV s s'→Q' e s'):fK E c Q' s:=
 fK.mono h fun e s' hh=>hq e s' hh.1 hh.2
theorem sd {s s':St} {e:Exit}:∀ {outs:List (XK × cI)} {o:JT outs},kV s outs e s'=some o→∃ (t:cI) (v:t.ps.T),t.dec s s'=some v∧∀ (α:Type) (K:Exit→St→α),Nd s outs o K=K e (t.st s v)
 | [],o,h=>by cases h
 | [x],o,h=>by
  obtain ⟨h1,h2⟩:=bo (show (bif x.1.is e then x.2.dec s s' else none)=some o from h)
  exact ⟨x.2,o,h2,fun _ K=>by rw [XK.Gn h1]; rfl⟩
 | x :: y :: l,o,h=>by
  have h:(bif x.1.is e then (x.2.dec s s').bind fun v=>some (.inl v) else (kV s (y :: l) e s').bind fun o=>some (.inr o))=some o:=h
  cases hx:x.1.is e with
  | true=>
   rw [hx] at h
   obtain ⟨v,h1,h2⟩:=bind_some h
   cases h2
   exact ⟨x.2,v,h1,fun _ K=>by rw [XK.Gn hx]; rfl⟩
  | false=>
   rw [hx] at h
   obtain ⟨v,h1,h2⟩:=bind_some h
   cases h2
   obtain ⟨t,u,k1,k2⟩:=sd h1
   exact ⟨t,u,k1,fun α K=>k2 α K⟩
theorem cI.qK (t:cI) (s:St) (v:t.ps.T):aV s (t.st s v):=by
 have h1:∀ (W:List Tmp) (b:bj),∃ pre,wO W b=pre++b:=fun W b=>by
  induction W with
  | nil=>exact ⟨[],rfl⟩
  | cons t W ih=>obtain ⟨p,hp⟩:=ih; exact ⟨.put t .none :: p,by simp [wO,hp]⟩
 have h2:∀ (ts:List Tmp) (l:List AV) (b:bj),∃ pre,oJ ts l b=pre++b:=fun ts=>by
  induction ts with
  | nil=>intro l b; exact ⟨[],by cases l <;> rfl⟩
  | cons t ts ih=>
   intro l b
   cases l with
   | nil=>exact ⟨[],rfl⟩
   | cons a l=>obtain ⟨p,hp⟩:=ih l b; exact ⟨.put t (.v a) :: p,by simp [oJ,hp]⟩
 have h3:∀ (bx:List (Nat × Nat)) (l:List AV) (b:cJ),∃ pre,uh bx l b=pre++b:=fun bx=>by
  induction bx with
  | nil=>intro l b; exact ⟨[],rfl⟩
  | cons x bx ih=>
   obtain ⟨k,n⟩:=x
   intro l b
   obtain ⟨p,hp⟩:=ih (l.drop n) b
   exact ⟨(k,l.take n) :: p,by simp [uh,hp]⟩
 have h4:∀ (l:List (Tmp × Nat × Nat)) (b:bj),∃ pre,oK l b=pre++b:=fun l b=>by
  induction l with
  | nil=>exact ⟨[],rfl⟩
  | cons x l ih=>obtain ⟨t,k,o⟩:=x; obtain ⟨p,hp⟩:=ih; exact ⟨.put t (.lp k o) :: p,by simp [oK,hp]⟩
 obtain ⟨p1,e1⟩:=h1 t.W s.ah
 obtain ⟨p2,e2⟩:=h2 t.sl (t.pV v) (wO t.W s.ah)
 obtain ⟨p3,e3⟩:=h3 t.bx ((t.pV v).drop t.sl.length) s.boxes
 obtain ⟨p4,e4⟩:=h4 t.WV (p2++(p1++s.ah))
 exact ⟨⟨p4++(p2++p1),by rw [show (t.st s v).ah=oK t.WV (oJ t.sl (t.pV v) (wO t.W s.ah)) from rfl,e2,e1,e4,List.append_assoc,List.append_assoc]⟩,⟨p3,e3⟩,rfl⟩
theorem fK.Yu {E:Env} {c:Code} {s s1:St} {gh:List (Loc × Nat × TypeId)} {head:cI} {outs:List (XK × cI)} {rd:head.ps.T→Option (head.ps.T ⊕ JT outs)} {N:Nat} {v0:head.ps.T} {o:JT outs} {Q:Exit→St→Prop}
  (hg:Am.gY gh s=some s1) (h0:head.dec s1 s1=some v0) (hr:∀ v r,rd v=some r→lM E c (fun e s'=>ul s1 head outs e s'=some r) (head.st s1 v))
  (hl:aG rd N v0=some o) (hQ:∀ (t:cI) (v:t.ps.T) (e:Exit),(∀ (α:Type) (K:Exit→St→α),Nd s1 outs o K=K e (t.st s1 v))→Q e (t.st s1 v)∧aV s (t.st s1 v)) :
  lM E (.loop c) Q s:=fun R0 w β a F Sj M6=>by
 obtain ⟨R,k1,k2,k3,_⟩:=ki Sj hg
 have hf:bT R s1.ro F:=by rw [k3]; exact M6.mono k2.ext
 obtain ⟨i1,i2⟩:=cI.BL (aV.refl s1) k1 k1 (Step.refl R w β s1.boxes) h0
 refine mX (fun m a' w'=>∃ v R' β',aG rd m v=some o∧bn E R' w' β' (head.st s1 v) a'∧Step R w β s1.boxes R' w' β' (head.st s1 v).boxes) ?_ ⟨v0,_,β,hl,i1,i2⟩
 rintro m a' w' ⟨v,R',β',hm,lD,kT⟩
 cases m with
 | zero=>cases hm
 | succ m=>
  obtain ⟨r,h1,h2⟩:=bind_some (show ((rd v).bind fun o=>Sum.elim (fun v'=>aG rd m v') (fun x=>some x) o)=some o from hm)
  refine wpIn_mono (hr v r h1 R' w' β' a' F lD (hf.mono kT.ext)) ?_
  rintro e a2 w2 ⟨s2,R2,β2,⟨hK,hx⟩,Ci,Ke,HW⟩
  have IX:aV s1 s2:=(head.qK s1 v).trans hx
  have st2:=kT.trans Ke
  have out:∀ {u:JT outs},kV s1 outs e s2=some u→r=.inr u→X2 E R0 w β s (fun e s'=>Q e s'∧aV s s') e a2 w2:=fun {u} hu hru=>by
   subst hru
   cases h2
   obtain ⟨t,v',q1,q2⟩:=sd hu
   obtain ⟨j1,j2⟩:=cI.BL IX k1 Ci st2 q1
   exact ⟨t.st s1 v',_,β2,hQ t v' e q2,j1,k2.trans j2,k3⟩
  cases e with
  | normal=>
   obtain ⟨v',q1,q2⟩:=bind_some (show ((head.dec s1 s2).bind fun v=>some (.inl v))=some r from hK)
   cases q2
   obtain ⟨j1,j2⟩:=cI.BL IX k1 Ci st2 q1
   exact ⟨m,Nat.lt_succ_self m,v',_,β2,h2,j1,j2⟩
  | exit i=>obtain ⟨u,q1,q2⟩:=bind_some (show ((kV s1 outs (.exit i) s2).bind fun o=>some (.inr o))=some r from hK); exact out q1 (Option.some.inj q2).symm
  | ret=>obtain ⟨u,q1,q2⟩:=bind_some (show ((kV s1 outs .ret s2).bind fun o=>some (.inr o))=some r from hK); exact out q1 (Option.some.inj q2).symm
  | goto i=>obtain ⟨u,q1,q2⟩:=bind_some (show ((kV s1 outs (.goto i) s2).bind fun o=>some (.inr o))=some r from hK); exact out q1 (Option.some.inj q2).symm
  | panic i=>obtain ⟨u,q1,q2⟩:=bind_some (show ((kV s1 outs (.panic i) s2).bind fun o=>some (.inr o))=some r from hK); exact out q1 (Option.some.inj q2).symm
  | outgrown=>obtain ⟨u,q1,q2⟩:=bind_some (show ((kV s1 outs .outgrown s2).bind fun o=>some (.inr o))=some r from hK); exact out q1 (Option.some.inj q2).symm
theorem fK.T7 {E:Env} {c:Code} {s s1:St} {gh:List (Loc × Nat × TypeId)} {head:cI} {outs:List (XK × cI)} {rd:(head.ps.T→Option (JT outs))→head.ps.T→Option (JT outs)} {N:Nat} {v0:head.ps.T} {o:JT outs} {Q:Exit→St→Prop}
  (hg:Am.gY gh s=some s1) (h0:head.dec s1 s1=some v0) (hr:∀ k v u,rd k v=some u→lM E c (fun e s'=>Ka s1 head outs k e s'=some u) (head.st s1 v))
  (hl:mq rd N v0=some o) (hQ:∀ (t:cI) (v:t.ps.T) (e:Exit),(∀ (α:Type) (K:Exit→St→α),Nd s1 outs o K=K e (t.st s1 v))→Q e (t.st s1 v)∧aV s (t.st s1 v)) :
  lM E (.loop c) Q s:=fun R0 w β a F Sj M6=>by
 obtain ⟨R,k1,k2,k3,_⟩:=ki Sj hg
 have hf:bT R s1.ro F:=by rw [k3]; exact M6.mono k2.ext
 obtain ⟨i1,i2⟩:=cI.BL (aV.refl s1) k1 k1 (Step.refl R w β s1.boxes) h0
 refine mX (fun m a' w'=>∃ v R' β',mq rd m v=some o∧bn E R' w' β' (head.st s1 v) a'∧Step R w β s1.boxes R' w' β' (head.st s1 v).boxes) ?_ ⟨v0,_,β,hl,i1,i2⟩
 rintro m a' w' ⟨v,R',β',hm,lD,kT⟩
 cases m with
 | zero=>cases hm
 | succ m=>
  refine wpIn_mono (hr (mq rd m) v o hm R' w' β' a' F lD (hf.mono kT.ext)) ?_
  rintro e a2 w2 ⟨s2,R2,β2,⟨hK,hx⟩,Ci,Ke,HW⟩
  have IX:aV s1 s2:=(head.qK s1 v).trans hx
  have st2:=kT.trans Ke
  have out:kV s1 outs e s2=some o→X2 E R0 w β s (fun e s'=>Q e s'∧aV s s') e a2 w2:=fun hu=>by
   obtain ⟨t,v',q1,q2⟩:=sd hu
   obtain ⟨j1,j2⟩:=cI.BL IX k1 Ci st2 q1
   exact ⟨t.st s1 v',_,β2,hQ t v' e q2,j1,k2.trans j2,k3⟩
  cases e with
  | normal=>
   obtain ⟨v',q1,q2⟩:=bind_some (show (head.dec s1 s2).bind (mq rd m)=some o from hK)
   obtain ⟨j1,j2⟩:=cI.BL IX k1 Ci st2 q1
   exact ⟨m,Nat.lt_succ_self m,v',_,β2,q2,j1,j2⟩
  | exit i=>exact out hK
  | ret=>exact out hK
  | goto i=>exact out hK
  | panic i=>exact out hK
  | outgrown=>exact out hK
end
def qk (E:Env):List Bool→Code→(Exit→St→Prop)→St→Prop
 | [],_,Q,s=>Q .normal s
 | true :: k,.seq x y,Q,s=>lM E x (tX (qk E k y Q) Q) s
 | false :: k,.seq x _,Q,s=>qk E k x Q s
 | _ :: _,_,_,_=>False
def kB (E:Env):List Bool→Code→(Exit→St→Prop)→St→Prop
 | [],c,Q,s=>lM E c Q s
 | true :: k,.seq _ y,Q,s=>kB E k y Q s
 | false :: k,.seq x y,Q,s=>kB E k x (tX (lM E y Q) Q) s
 | _ :: _,_,_,_=>False
def Gv (F:Fence) (P:Program):List Bool→Code→(Exit→Act→World→Prop)→Act→World→Prop
 | [],c,Q,a,w=>c.wpIn F 0 P Q a w
 | true :: k,.seq _ y,Q,a,w=>Gv F P k y Q a w
 | false :: k,.seq x y,Q,a,w=>Gv F P k x (Exit.then (fun a' w'=>y.wpIn F 0 P Q a' w') Q) a w
 | _ :: _,_,_,_,_=>False
section rot
variable {E:Env} {s1:St} {R:ao} {w:World} {β:Nat→Nat} {F:Fence}
def At (E:Env) (s1:St) (R:ao) (w:World) (β:Nat→Nat) (s:St) (a:Act) (w':World):Prop:=
 ∃ R' β',aV s1 s∧bn E R' w' β' s a∧Step R w β s1.boxes R' w' β' s.boxes∧s.ro=s1.ro
theorem lM.at {c:Code} {Q:Exit→St→Prop} {s:St} {a:Act} {w':World} {Φ:Exit→Act→World→Prop} (hf:bT R s1.ro F) (h:lM E c Q s) (nO:At E s1 R w β s a w') (hQ:∀ e s' a' w',Q e s'→At E s1 R w β s' a' w'→Φ e a' w'):c.wpIn F 0 E.P Φ a w':=by
 obtain ⟨R',β',hx,hr,kT,bR⟩:=nO
 refine wpIn_mono (h R' w' β' a F hr (by rw [bR]; exact hf.mono kT.ext)) ?_
 rintro e a2 w2 ⟨s2,R2,β2,⟨hq,IX⟩,Ci,Ke,HW⟩
 exact hQ e s2 a2 w2 hq ⟨R2,β2,hx.trans IX,Ci,kT.trans Ke,HW.trans bR⟩
theorem kB.at (hf:bT R s1.ro F):∀ (k:List Bool) (c:Code) {Q:Exit→St→Prop} {s:St} {a:Act} {w':World} {Φ:Exit→Act→World→Prop},kB E k c Q s→At E s1 R w β s a w'→(∀ e s' a' w',Q e s'→At E s1 R w β s' a' w'→Φ e a' w')→Gv F E.P k c Φ a w'
 | [],c,Q,s,a,w',Φ,h,nO,hQ=>lM.at hf h nO hQ
 | true :: k,c,Q,s,a,w',Φ,h,nO,hQ=>by
  cases c with
  | seq x y=>exact kB.at hf k y h nO hQ
  | _=>exact h.elim
 | false :: k,c,Q,s,a,w',Φ,h,nO,hQ=>by
  cases c with
  | seq x y=>
   refine kB.at hf k x (Q:=tX (lM E y Q) Q) h nO fun e s' a' w' hq qL=>?_
   cases e with
   | normal=>exact lM.at hf hq qL hQ
   | _=>exact hQ _ s' a' w' hq qL
  | _=>exact h.elim
theorem qk.at (hf:bT R s1.ro F):∀ (k:List Bool) (c:Code) {Q:Exit→St→Prop} {s:St} {a:Act} {w':World} {Φ:Exit→Act→World→Prop},qk E k c Q s→At E s1 R w β s a w' →
  (∀ s' a' w',Q .normal s'→At E s1 R w β s' a' w'→Gv F E.P k c Φ a' w')→(∀ e s' a' w',e≠.normal→Q e s'→At E s1 R w β s' a' w'→Φ e a' w')→c.wpIn F 0 E.P Φ a w'
 | [],c,Q,s,a,w',Φ,h,nO,hS,hQ=>hS s a w' h nO
 | true :: k,c,Q,s,a,w',Φ,h,nO,hS,hQ=>by
  cases c with
  | seq x y=>
   refine wpIn_seq (lM.at hf (show lM E x (tX (qk E k y Q) Q) s from h) nO fun e s' a' w' hq qL=>?_)
   cases e with
   | normal=>exact qk.at hf k y hq qL hS hQ
   | exit i=>exact hQ _ s' a' w' (by simp) hq qL
   | ret=>exact hQ _ s' a' w' (by simp) hq qL
   | goto i=>exact hQ _ s' a' w' (by simp) hq qL
   | panic i=>exact hQ _ s' a' w' (by simp) hq qL
   | outgrown=>exact hQ _ s' a' w' (by simp) hq qL
  | _=>exact h.elim
 | false :: k,c,Q,s,a,w',Φ,h,nO,hS,hQ=>by
  cases c with
  | seq x y=>
   refine wpIn_seq (qk.at hf k x (Q:=Q) h nO hS fun e s' a' w' cP hq qL=>?_)
   cases e with
   | normal=>exact absurd rfl cP
   | exit i=>exact hQ _ s' a' w' cP hq qL
   | ret=>exact hQ _ s' a' w' cP hq qL
   | goto i=>exact hQ _ s' a' w' cP hq qL
   | panic i=>exact hQ _ s' a' w' cP hq qL
   | outgrown=>exact hQ _ s' a' w' cP hq qL
  | _=>exact h.elim
end rot
theorem fK.N0 {E:Env} {b:Code} {s s1:St} {gh:List (Loc × Nat × TypeId)} {head:cI} {outs:List (XK × cI)} {pre:St→Option (head.ps.T ⊕ JT outs)} {rd:head.ps.T→Option (head.ps.T ⊕ JT outs)} {N:Nat} {k:List Bool} {r0:head.ps.T ⊕ JT outs} {o:JT outs} {Q:Exit→St→Prop}
  (hg:Am.gY gh s=some s1) (h0:pre s1=some r0)
  (hp:∀ s2 r,pre s2=some r→qk E k b (fun e s'=>ul s1 head outs e s'=some r) s2)
  (hr:∀ v r,rd v=some r→kB E k b (fun e s'=>zO pre (ul s1 head outs) e s'=some r) (head.st s1 v))
  (hl:Sum.elim (fun v=>aG rd N v) (fun x=>some x) r0=some o) (hQ:∀ (t:cI) (v:t.ps.T) (e:Exit),(∀ (α:Type) (K:Exit→St→α),Nd s1 outs o K=K e (t.st s1 v))→Q e (t.st s1 v)∧aV s (t.st s1 v)) :
  lM E (.loop b) Q s:=fun R0 w β a F Sj M6=>by
 obtain ⟨R,k1,k2,k3,_⟩:=ki Sj hg
 have hf:bT R s1.ro F:=by rw [k3]; exact M6.mono k2.ext
 refine mX (fun n a' w'=>∃ s2 r,pre s2=some r∧Sum.elim (fun v=>aG rd n v) (fun x=>some x) r=some o∧At E s1 R w β s2 a' w') ?_ ⟨s1,r0,h0,hl,R,β,aV.refl s1,k1,Step.refl _ _ _ _,rfl⟩
 rintro n a' w' ⟨s2,r,Yb,hlr,nO⟩
 -- a way out
 have out:∀ {e:Exit} {s3:St} {a3:Act} {w3:World} {r:head.ps.T ⊕ JT outs} {n:Nat},e≠.normal→ul s1 head outs e s3=some r→Sum.elim (fun v=>aG rd n v) (fun x=>some x) r=some o→At E s1 R w β s3 a3 w3→X2 E R0 w β s (fun e s'=>Q e s'∧aV s s') e a3 w3:=fun {e s3 a3 w3 r n} cP hK hlr nO=>by
  obtain ⟨R3,β3,hx3,X6,T8,ab4⟩:=nO
  have key:∀ {u:JT outs},kV s1 outs e s3=some u→r=.inr u→X2 E R0 w β s (fun e s'=>Q e s'∧aV s s') e a3 w3:=fun {u} hu hru=>by
   subst hru
   obtain rfl:=Option.some.inj hlr
   obtain ⟨t,v',q1,q2⟩:=sd hu
   obtain ⟨j1,j2⟩:=cI.BL hx3 k1 X6 T8 q1
   exact ⟨t.st s1 v',_,_,hQ t v' _ q2,j1,k2.trans j2,k3⟩
  cases e with
  | normal=>exact absurd rfl cP
  | exit i=>obtain ⟨u,q1,q2⟩:=bind_some (show ((kV s1 outs (.exit i) s3).bind fun o=>some (.inr o))=some r from hK); exact key q1 (Option.some.inj q2).symm
  | ret=>obtain ⟨u,q1,q2⟩:=bind_some (show ((kV s1 outs .ret s3).bind fun o=>some (.inr o))=some r from hK); exact key q1 (Option.some.inj q2).symm
  | goto i=>obtain ⟨u,q1,q2⟩:=bind_some (show ((kV s1 outs (.goto i) s3).bind fun o=>some (.inr o))=some r from hK); exact key q1 (Option.some.inj q2).symm
  | panic i=>obtain ⟨u,q1,q2⟩:=bind_some (show ((kV s1 outs (.panic i) s3).bind fun o=>some (.inr o))=some r from hK); exact key q1 (Option.some.inj q2).symm
  | outgrown=>obtain ⟨u,q1,q2⟩:=bind_some (show ((kV s1 outs .outgrown s3).bind fun o=>some (.inr o))=some r from hK); exact key q1 (Option.some.inj q2).symm
 refine qk.at hf k b (hp s2 r Yb) nO (fun s3 a3 w3 hK T9=>?_) (fun e s3 a3 w3 cP hK T9=>?_)
 ·obtain ⟨v,q1,q2⟩:=bind_some (show ((head.dec s1 s3).bind fun v=>some (.inl v))=some r from hK)
  obtain rfl:=Option.some.inj q2
  have BH:aG rd n v=some o:=hlr
  cases n with
  | zero=>cases BH
  | succ n=>
   obtain ⟨r',h1,h2⟩:=bind_some (show ((rd v).bind fun o=>Sum.elim (fun v'=>aG rd n v') (fun x=>some x) o)=some o from BH)
   obtain ⟨R3,β3,hx3,X6,T8,ab4⟩:=T9
   obtain ⟨j1,j2⟩:=cI.BL hx3 k1 X6 T8 q1
   refine kB.at hf k b (hr v r' h1) ⟨_,_,head.qK s1 v,j1,j2,rfl⟩ fun e s4 a4 w4 W3 H5=>?_
   cases e with
   | normal=>exact ⟨n,Nat.lt_succ_self n,s4,r',W3,h2,H5⟩
   | exit i=>exact out (by simp) W3 h2 H5
   | ret=>exact out (by simp) W3 h2 H5
   | goto i=>exact out (by simp) W3 h2 H5
   | panic i=>exact out (by simp) W3 h2 H5
   | outgrown=>exact out (by simp) W3 h2 H5
 ·have:=out cP hK hlr T9
  cases e with
  | normal=>exact absurd rfl cP
  | _=>exact this
theorem qM {C:eE} {ih:W1} (hs:tn C ih) {X:Type} {f:FuncId} {K:Exit→St→Option X}:∀ (k:List Bool) (q:Nat) (c:Code) (s:St) (x:X),bH (C.D.dt f) c=true→Kc ih BN f K k q c s=some x→qk C.D.toEnv k c (fun e s'=>K e s'=some x) s
 | [],_,_,_,_,_,h=>h
 | true :: k,q,c,s,x,hd,h=>by
  cases c with
  | seq a b=>
   rw [bH,Bool.and_eq_true] at hd
   refine (hs f _ a X BN qJ _ s x hd.1 h).of fun e s' hq hx=>?_
   cases e with
   | normal=>exact ⟨qM hs k (2 * q+1) b s' x hd.2 hq,hx⟩
   | _=>exact ⟨hq,hx⟩
  | _=>cases h
 | false :: k,q,c,s,x,hd,h=>by
  cases c with
  | seq a b=>
   rw [bH,Bool.and_eq_true] at hd
   exact qM hs k (2 * q) a s x hd.1 h
  | _=>cases h
theorem kB.mono {E:Env}:∀ (k:List Bool) (c:Code) {Q Q':Exit→St→Prop} {s:St},(∀ e s',Q e s'→Q' e s')→kB E k c Q s→kB E k c Q' s
 | [],c,Q,Q',s,hQ,h=>fK.mono h fun e s' hh=>⟨hQ e s' hh.1,hh.2⟩
 | true :: k,c,Q,Q',s,hQ,h=>by
  cases c with
  | seq x y=>exact kB.mono k y hQ h
  | _=>exact h.elim
 | false :: k,c,Q,Q',s,hQ,h=>by
  cases c with
  | seq x y=>
   refine kB.mono k x (Q:=tX (lM E y Q) Q) (Q':=tX (lM E y Q') Q') (fun e s' hq=>?_) h
   cases e with
   | normal=>exact fK.mono hq fun e s' hh=>⟨hQ e s' hh.1,hh.2⟩
   | _=>exact hQ _ s' hq
  | _=>exact h.elim
theorem qN {C:eE} {ih:W1} (hs:tn C ih) {X:Type} {f:FuncId}:∀ (k:List Bool) (q:Nat) (c:Code) (K:Exit→St→Option X) (s:St) (x:X),bH (C.D.dt f) c=true→NZ ih BN f k q c K s=some x→kB C.D.toEnv k c (fun e s'=>K e s'=some x) s
 | [],_,c,K,s,x,hd,h=>hs f _ c X BN qJ K s x hd h
 | true :: k,q,c,K,s,x,hd,h=>by
  cases c with
  | seq a b=>
   rw [bH,Bool.and_eq_true] at hd
   exact qN hs k (2 * q+1) b K s x hd.2 h
  | _=>cases h
 | false :: k,q,c,K,s,x,hd,h=>by
  cases c with
  | seq a b=>
   rw [bH,Bool.and_eq_true] at hd
   refine kB.mono k a (fun e s' hq=>?_) (qN hs k (2 * q) a _ s x hd.1 h)
   cases e with
   | normal=>exact hs f _ b X BN qJ K s' x hd.2 hq
   | _=>exact hq
  | _=>cases h
theorem CX {C:eE} (Be:∀ g e,C.yx g=some e→ap C.D.toEnv g e) (n:Nat):tn C (ev C n):=by
 induction n using Nat.strongRecOn with
 | _ n ihn=>
 cases n with
 | zero=>intro f p c X eY _ K s x _ h; cases h
 | succ n=>
  have hs:=ihn n (Nat.lt_succ_self n)
  have plain:∀ (f:FuncId) (p:Nat) (c:Code) (X:Type) (eY:Option X→Option X→Option X),um eY→∀ (K:Exit→St→Option X) (s:St) (x:X),((∃ b,c=.loop b)→C.oO f p=none) →
    bH (C.D.dt f) c=true→xh C (ev C n) f p c X eY K s=some x→lM C.D.toEnv c (fun e s'=>K e s'=some x) s:=by
   intro f p c X eY hm K s x je hd h
   have Kf:=CV Be hs hm
   have Yv:=E9 hs hm
   unfold xh at h
   cases c with
   | skip=>exact fK.skip ⟨h,aV.refl s⟩
   | label l=>exact fK.label ⟨h,aV.refl s⟩
   | exit id=>exact fK.exit ⟨h,aV.refl s⟩
   | ret=>exact fK.ret ⟨h,aV.refl s⟩
   | seq a b=>
    rw [bH,Bool.and_eq_true] at hd
    refine fK.seq ((hs f _ a X eY hm _ s x hd.1 h).of fun e s' hq hx=>?_)
    cases e with
    | normal=>exact (hs f _ b X eY hm _ s' x hd.2 hq).of fun e s2 od IX=>⟨od,hx.trans IX⟩
    | _=>exact ⟨hq,hx⟩
   | cond co a b=>
    rw [bH,Bool.and_eq_true] at hd
    simp only at h
    split at h
    ·rename_i t hb
     refine fK.cond hb (fun e=>?_) (fun e=>?_)
     ·subst e; exact hs f _ a X eY hm _ s x hd.1 h
     ·subst e; exact hs f _ b X eY hm _ s x hd.2 h
    ·cases h
   | block id c=>
    refine fK.block ((hs f _ c X eY hm _ s x hd h).of fun e s' hq hx=>?_)
    cases e with
    | exit jw=>
     simp only [J7] at hq
     refine ⟨fun e=>?_,fun e=>?_⟩
     ·subst e; rw [rr] at hq; exact ⟨hq,hx⟩
     ·rw [mO e] at hq; exact ⟨hq,hx⟩
    | _=>exact ⟨hq,hx⟩
   | scope c=>
    refine fK.scope ((hs f _ c X eY hm _ s x hd h).of fun e s' hq hx=>?_)
    cases e with
    | goto l=>cases hq
    | _=>exact ⟨hq,hx⟩
   | region id ops dr=>
    cases dr with
    | false=>exact fK.region (f:=f) (zP (xp Kf Yv h))
    | true=>
     simp only at h
     rw [bH] at hd
     split at h
     ·rename_i pl hT
      rw [hT] at hd
      exact fK.draw (f:=f) hd (sb (ju Kf Yv hm h))
     ·cases h
   | loop b=>
    have Sk:=je ⟨b,rfl⟩
    refine fK.loop (fun m s'=>m≤n+1∧ev C m f p (.loop b) X eY K s'=some x∧aV s s') ?_ (m:=n+1) ⟨Nat.le_refl _,?_,aV.refl s⟩
    ·rintro m s' ⟨Td,hr,hx⟩
     cases m with
     | zero=>cases hr
     | succ m=>
      have lD:xj C (ev C m) f p (.loop b) X eY K s'=some x:=hr
      unfold xj at lD
      rw [Sk] at lD
      refine (ihn m (by omega) f _ b X eY hm _ s' x hd lD).of fun e s2 hq IX=>?_
      cases e with
      | normal=>exact ⟨m,Nat.lt_succ_self m,by omega,hq,hx.trans IX⟩
      | _=>exact ⟨hq,hx.trans IX⟩
    ·show xj C (ev C n) f p (.loop b) X eY K s=some x
     unfold xj
     rw [Sk]
     exact h
   | rangeFunc g ps rQ bd=>
    simp only at h
    split at h
    ·rename_i bR
     split at h
     ·rename_i hf first cap hg
      refine fK.rangeFunc (4096 * p+f) bR hg ((Kf _ _ _ _ _ h).mono fun r G' hq=>?_)
      unfold rfQ
      split at hq
      ·rename_i busy pending fn sl nn pp aa bb dd done TW
       rw [TW]
       simp only
       obtain ⟨h1,h2⟩:=bo hq
       refine ⟨by cases busy <;> cases done <;> simp_all,?_⟩
       have Ya:∀ (G:List GO) (m:List Nat),aV s ⟨s.ah,s.boxes,G,m,s.ro,s.n⟩:=fun _ _=>⟨⟨[],rfl⟩,⟨[],rfl⟩,rfl⟩
       split at h2
       ·rw [da] at h2; exact ⟨h2,Ya _ _⟩
       ·rw [da] at h2; exact fK.ret ⟨h2,Ya _ _⟩
       ·rw [da] at h2; exact fK.exit ⟨h2,Ya _ _⟩
       ·cases h2
      ·cases hq
     ·cases h
    ·cases h
   | _=>cases h
  intro f p c X eY hm K s x hd h
  change xj C (ev C n) f p c X eY K s=some x at h
  unfold xj at h
  split at h
  ·rename_i hc
   exact plain f p c X eY hm K s x (fun _=>hc) hd h
  ·rename_i ct hct
   split at h
   ·rename_i xq hc
    generalize r9 (kA c []) xq=outs at h
    cases Js:J9 c with
    | true=>rw [Js] at h; cases h
    | false=>
    rw [Js] at h
    obtain ⟨o,h1,h2⟩:=bind_some (show (xh C (ev C n) f p c (JT outs) BN (kV s outs) s).bind (fun o=>Nd s outs o K)=some x from h)
    have hp:=plain f p c (JT outs) BN qJ (kV s outs) s o (fun ⟨b,hb⟩=>by subst hb; cases Js) hd h1
    refine fK.abX (s:=s) (Q':=fun e s'=>kV s outs e s'=some o) (fK.mono hp fun e s' hh=>⟨hh.2,hh.1⟩) fun e s' hq=>?_
    obtain ⟨t,v,q1,q2⟩:=sd hq
    exact ⟨t,v,q1,(q2 _ K).symm.trans h2,t.qK s v⟩
   ·rename_i gh CY xq hc
    split at h
    ·rename_i b
     split at h
     ·rename_i s1 hg
      generalize r9 (kA b []) xq=outs at h
      generalize xi (kA b []) CY=head at h
      unfold Sh at h
      obtain ⟨v0,h0,h⟩:=bind_some h
      obtain ⟨o,hl,h⟩:=bind_some h
      refine fK.Yu hg h0 (fun v r hr=>hs f _ b _ BN qJ _ _ r hd hr) hl fun t v e iq=>?_
      exact ⟨(iq _ K).symm.trans h,(nq hg).trans (t.qK s1 v)⟩
     ·cases h
    ·cases h
   ·rename_i k gh CY xq hc
    split at h
    ·rename_i b
     split at h
     ·rename_i s1 hg
      generalize r9 (kA b []) xq=outs at h
      generalize xi (kA b []) CY=head at h
      unfold Yt at h
      obtain ⟨o,hl,h⟩:=bind_some h
      obtain ⟨r0,h0,hl⟩:=bind_some hl
      refine fK.N0 hg h0 (fun s2 r hr=>qM hs k (2 * p) b s2 r hd hr) (fun v r hr=>qN hs k (2 * p) b _ _ r hd hr) hl fun t v e iq=>?_
      exact ⟨(iq _ K).symm.trans h,(nq hg).trans (t.qK s1 v)⟩
     ·cases h
    ·cases h
   ·rename_i gh CY xq hc
    split at h
    ·rename_i b
     split at h
     ·rename_i s1 hg
      generalize r9 (kA b []) xq=outs at h
      generalize xi (kA b []) CY=head at h
      unfold Kb at h
      obtain ⟨v0,h0,h⟩:=bind_some h
      obtain ⟨o,hl,h⟩:=bind_some h
      refine fK.T7 hg h0 (fun k v u hu=>hs f _ b _ BN qJ _ _ u hd hu) hl fun t v e iq=>?_
      exact ⟨(iq _ K).symm.trans h,(nq hg).trans (t.qK s1 v)⟩
     ·cases h
    ·cases h
   ·cases h
end Go.Am
namespace Go.Am
open Go
noncomputable def eE.fn (C:eE) (n:Nat) (g:FuncId) (ps:aP) (p:aT) (x:ps.T):Option p.T:=
 CS C (ev C n) BN g (ps.enc x) [] (fun r _=>p.dec r)
theorem eE.bu {C:eE} (Be:∀ g e,C.yx g=some e→ap C.D.toEnv g e) {n:Nat} {g:FuncId} {ps:aP} {p:aT} (h1:ps.under 0=true) (h2:p.under 0=true) :
  ap C.D.toEnv g ⟨ps,p,C.fn n g ps p⟩:=fun x y h=>by
 refine aY.mono (aY.of (p:=p) (Q:=fun z=>z=y) (ps.dD x h1) h2 ((oS (CX Be n) qJ g _ [] _ y h).mono fun r _ hr=>⟨y,hr,rfl⟩)) ?_
 rintro r ⟨z,rfl,rfl⟩
 rfl
theorem aY.env {E E':Env} {g:FuncId} {args:List AV} {Q:AV→Prop} (hP:E.P=E'.P) (hg:E.cb=E'.cb) (h:aY E g args Q) (B9:E.lo=E'.lo:=by rfl) (N1:E.gx=E'.gx:=by rfl):aY E' g args Q:=by
 have go:∀ {R:ao} {w:World} {x:Nat} {cs:List AV},jC E R w x cs↔jC E' R w x cs:=fun {R w x cs}=>by unfold jC; rw [N1]
 have BL:∀ {R:ao} {w:World} {G:List GO},dz E R w G↔dz E' R w G:=fun {R w G}=>
  ⟨fun h=>⟨h.len,h.obj,h.inj,h.wf,fun g cs hh=>go.1 (h.cb g cs (by rw [hg]; exact hh)),by rw [← B9]; exact h.lo⟩,fun h=>⟨h.len,h.obj,h.inj,h.wf,fun g cs hh=>go.2 (h.cb g cs (by rw [← hg]; exact hh)),by rw [B9]; exact h.lo⟩⟩
 intro G
 obtain ⟨h1,h2⟩:=h G
 rw [hP] at h1 h2
 refine ⟨h1,fun R w cs hr hl=>(h2 R w cs (BL.2 hr) hl).mono fun e w' he=>?_⟩
 cases e with
 | returned c=>obtain ⟨r,G',R',k1,k2,k3,k4⟩:=he; exact ⟨r,G',R',k1,k2,BL.1 k3,k4⟩
 | panicked c=>exact he
 | outgrown=>exact he
theorem aY.more {E E':Env} {g:FuncId} {args:List AV} {Q:AV→Prop} (hP:E.P=E'.P) (hg:∀ g cs,E.cb g=some cs→E'.cb g=some cs) (h:aY E g args Q) (B9:E.lo=E'.lo:=by rfl) (N1:E.gx=fun _=>false:=by rfl):aY E' g args Q:=by
 intro G
 obtain ⟨h1,h2⟩:=h G
 rw [hP] at h1 h2
 refine ⟨h1,fun R w cs hr hl=>(h2 R w cs ⟨hr.len,hr.obj,hr.inj,hr.wf,fun g cs hh=>⟨(hr.cb g cs (hg g cs hh)).1,fun hx=>by rw [N1] at hx; cases hx⟩,by rw [B9]; exact hr.lo⟩ hl).mono fun e w' he=>?_⟩
 cases e with
 | returned c=>
  obtain ⟨r,G',R',k1,k2,k3,k4⟩:=he
  exact ⟨r,G',R',k1,k2,⟨k3.len,k3.obj,k3.inj,k3.wf,fun g cs hh=>(hr.cb g cs hh).mono k4.ext,by rw [← B9]; exact k3.lo⟩,k4⟩
 | panicked c=>exact he
 | outgrown=>exact he
def CZ:List (Nat × aQ)→FuncId→Option aQ
 | [],_=>none
 | (a,e) :: l,g=>bif Nat.beq a g then some e else CZ l g
theorem aW {E:Env}:∀ {l:List (Nat × aQ)},(∀ a e,(a,e)∈l→ap E a e)→∀ g e,CZ l g=some e→ap E g e
 | [],_,g,e,h=>by cases h
 | (a,x) :: l,hl,g,e,h=>by
  unfold CZ at h
  cases hb:Nat.beq a g with
  | true=>
   rw [hb] at h
   cases h
   rw [← Nat.eq_of_beq_eq_true hb]
   exact hl a _ (by simp)
  | false=>
   rw [hb] at h
   exact aW (fun a e hm=>hl a e (by simp [hm])) g e h
def Sl:List (Nat × cA)→Nat→Option cA
 | [],_=>none
 | (a,c) :: l,p=>bif Nat.beq a p then some c else Sl l p
def Gw:List (Nat × List (Nat × cA))→FuncId→Nat→Option cA
 | [],_,_=>none
 | (a,c) :: l,g,p=>bif Nat.beq a g then Sl c p else Gw l g p
def Gx:Option Unit→Option Unit→Option Unit
 | some _,some _=>some ()
 | _,_=>none
theorem Fa:um Gx:=fun a b x h=>by
 cases a <;> cases b <;> first | (cases h; done) | exact ⟨rfl,rfl⟩
theorem cY {C:eE} (Be:∀ g e,C.yx g=some e→ap C.D.toEnv g e) {n:Nat} {g:FuncId} {args:List AV} {p:aT} {ok:p.T→Bool} (h1:aI 0 args=true) (h2:p.under 0=true)
  (h:CS C (ev C n) Gx g args [] (fun r _=>bif p.fits r&&ok (p.bw r) then some () else none)=some ()):aY C.D.toEnv g args (fun r=>∃ y,r=p.enc y∧ok y=true):=
 aY.of (p:=p) (Q:=fun y=>ok y=true) h1 h2 ((oS (CX Be n) Fa g args [] _ () h).mono fun r _ hr=>by
  obtain ⟨k,_⟩:=bo hr
  rw [Bool.and_eq_true] at k
  exact ⟨p.bw r,by simp [aT.dec,k.1],k.2⟩)
end Go.Am
namespace Go.Am
open Go
def nt (w:World):ao:=⟨fun b _=>b < w.heap.size,[]⟩
mutual
def aT.wf:(p:aT)→p.T→Prop
 | .int k,(n:Int)=>k.min≤n∧n≤k.max
 | .bool,_=>True
 | .str,(s:List UInt8)=>s.length≤maxLen
 | .agg ps,x=>ps.wf x
 | .bi ps,x=>ps.wf x
 | .list _ p,(xs:List p.T)=>xs.length≤maxLen∧∀ x∈xs,p.wf x
 | .own _ _ p,(xs:List p.T)=>xs.length≤maxLen∧∀ x∈xs,p.wf x
 | .bk _ _ p,(x:Nat × List p.T)=>x.2.length≤maxLen∧∀ y∈x.2,p.wf y
 | .gC _,_=>True
 | .two _ _,_=>True
def aP.wf:(ps:aP)→ps.T→Prop
 | .nil,_=>True
 | .cons p .nil,x=>p.wf x
 | .cons p (.cons q ps),x=>p.wf x.1∧(aP.cons q ps).wf x.2
end
def kC:List aT→aP
 | []=>.nil
 | p :: l=>.cons p (kC l)
def H6 {β:Type} (g:β→Option (List aT)):List β→Option (List aT)
 | []=>some []
 | x :: l=>match g x,H6 g l with
  | some a,some b=>some (a++b)
  | _,_=>none
def se {β:Type} (off len:β→Nat):Nat→List β→Option Nat
 | o,[]=>some o
 | o,x :: l=>bif Nat.beq (off x) o then se off len (o+len x) l else none
def isSome (n:Nat):Option Nat→Bool
 | some m=>Nat.beq m n
 | none=>false
def sf (ag:Bool) (ps:List aT):Option aT:=match ag,ps with
 | true,ps=>some (.agg (kC ps))
 | false,[p]=>some p
 | _,_=>none
def H7 (P:Program):Nat→TypeId→Option (List aT)
 | 0,_=>none
 | n+1,t=>match P.underlying t with
  | some .bool=>some [.bool]
  | some (.int k)=>some [.int k]
  | some .string=>some [.str]
  | some (.slice e)=>match H7 P n e,P.underlying e with
   | some ps,some u=>match sf (Go.Am.jx u) ps with
    | some pe=>bif Nat.blt 0 (P.cellsOf e) then some [.list (P.cellsOf e) pe] else none
    | none=>none
   | _,_=>none
  | some (.struct fs)=>bif isSome (P.cellsOf t) (se Field.offset (fun f=>P.cellsOf f.type) 0 fs.toList) then H6 (fun f=>H7 P n f.type) fs.toList else none
  | some (.array m e)=>bif isSome (P.cellsOf t) (se (fun i=>i * P.cellsOf e) (fun _=>P.cellsOf e) 0 (List.range m)) then H6 (fun _=>H7 P n e) (List.range m) else none
  | _=>none
def ab6 (a:AV):Prop:=a.aX=true∧a.cells=[a]∧a.closed=true
def qO:List aT→List AV→Prop
 | [],[]=>True
 | p :: ps,a :: lr=>p.fits a=true∧(p.wf (p.bw a)∧ab6 a)∧qO ps lr
 | _,_=>False
theorem qO.append:∀ {ps qs:List aT} {lr bs:List AV},qO ps lr→qO qs bs→qO (ps++qs) (lr++bs)
 | [],_,[],_,_,h=>h
 | _ :: _,_,_ :: _,_,k,h=>⟨k.1,k.2.1,qO.append k.2.2 h⟩
 | [],_,_ :: _,_,h,_=>h.elim
 | _ :: _,_,[],_,h,_=>h.elim
theorem qO.mk:∀ {ps:List aT} {lr:List AV},qO ps lr→(kC ps).fits lr=true∧(kC ps).wf ((kC ps).bw lr)
 | [],[],_=>⟨rfl,trivial⟩
 | [p],[a],h=>⟨by
   change (p.fits a&&(List.isEmpty ([]:List AV)))=true
   rw [h.1]
   rfl,h.2.1.1⟩
 | p :: q :: ps,a :: lr,h=>by
  obtain ⟨h1,h2⟩:=qO.mk (ps:=q :: ps) h.2.2
  refine ⟨?_,h.2.1.1,h2⟩
  change (p.fits a&&(kC (q :: ps)).fits lr)=true
  rw [h.1,h1]
  rfl
 | [],_ :: _,h=>h.elim
 | _ :: _,[],h=>h.elim
 | [_],_ :: _ :: _,h=>h.2.2.elim
theorem C0 {ag:Bool} {ps:List aT} {pe:aT} (h:sf ag ps=some pe) {lr:List AV} (hf:qO ps lr) :
  ∃ e,(if ag then e=.agg lr else lr=[e])∧pe.fits e=true∧pe.wf (pe.bw e):=by
 unfold sf at h
 split at h
 ·cases h
  obtain ⟨h1,h2⟩:=hf.mk
  exact ⟨.agg lr,rfl,h1,h2⟩
 ·rename_i p
  cases h
  match lr,hf with
  | [a],hf=>exact ⟨a,rfl,hf.1,hf.2.1.1⟩
  | [],hf=>exact hf.elim
  | _ :: _ :: _,hf=>exact hf.2.2.elim
 ·cases h
theorem Gy:∀ {ps:List aT} {lr:List AV},qO ps lr→∀ a∈lr,a.aX=true∧a.cells=[a]∧a.closed=true
 | [],[],_,a,ha=>by simp at ha
 | _ :: _,b :: lr,hf,a,ha=>by
  rcases List.mem_cons.1 ha with rfl | ha
  ·exact hf.2.1.2
  ·exact Gy hf.2.2 a ha
 | [],_ :: _,h,_,_=>h.elim
 | _ :: _,[],h,_,_=>h.elim
theorem Gz {pe:aT}:∀ {es:List AV},(∀ x∈es,pe.fits x=true∧pe.wf (pe.bw x))→allFit pe.fits es=true∧∀ x∈es.map pe.bw,pe.wf x
 | [],_=>⟨rfl,by simp⟩
 | a :: es,h=>by
  obtain ⟨h1,h2⟩:=Gz (es:=es) fun x hx=>h x (by simp [hx])
  refine ⟨by simp only [allFit,Bool.and_eq_true]; exact ⟨(h a (by simp)).1,h1⟩,fun x hx=>?_⟩
  rcases List.mem_cons.1 hx with rfl | hx
  ·exact (h a (by simp)).2
  ·exact h2 x hx
section read
variable {H:Type} {enc:TypeId × Value→H} {P:Program} {w:World} {R:ao} {base:Nat} {spare:Nat→Bool} {held:Bool}
theorem kD {α β:Type} {f:α→Option β} {x:α} {l:List α} {r:List β} (h:(x :: l).mapM f=some r):∃ y ys,f x=some y∧l.mapM f=some ys∧r=y :: ys:=by
 rw [List.mapM_cons] at h
 cases hx:f x with
 | none=>rw [hx] at h; cases h
 | some y=>
  rw [hx] at h
  cases hl:l.mapM f with
  | none=>rw [hl] at h; cases h
  | some ys=>rw [hl] at h; cases h; exact ⟨y,ys,rfl,rfl,rfl⟩
theorem xr {β:Type} {off len:β→Nat} {g:β→Option (List aT)} {cs:List Value} {f:β→Option (DataW H × List MemPlace)}
  (hf:∀ x ps y,g x=some ps→f x=some y→∃ lr,aM R w lr ((cs.drop (off x)).take (len x))∧qO ps lr∧∀ v∈(cs.drop (off x)).take (len x),v.oneCell'=true) :
  ∀ {L:List β} {o m:Nat} {ps:List aT} {ys:List (DataW H × List MemPlace)},se off len o L=some m→H6 g L=some ps→L.mapM f=some ys →
   o≤m∧∃ lr,aM R w lr ((cs.drop o).take (m - o))∧qO ps lr∧∀ v∈(cs.drop o).take (m - o),v.oneCell'=true
 | [],o,m,ps,ys,ht,hp,_=>by
  simp only [se] at ht
  simp only [H6] at hp
  cases ht; cases hp
  exact ⟨Nat.le_refl _,[],by simpa using aM.nil,trivial,by simp⟩
 | x :: L,o,m,ps,ys,ht,hp,hm=>by
  unfold se at ht
  cases hb:Nat.beq (off x) o with
  | false=>rw [hb] at ht; cases ht
  | true=>
   rw [hb] at ht
   have hb:=Nat.eq_of_beq_eq_true hb
   unfold H6 at hp
   split at hp
   ·rename_i pa pb h1 h2
    cases hp
    obtain ⟨y,Hj,k1,k2,rfl⟩:=kD hm
    obtain ⟨lr,q1,q2,q3⟩:=hf x pa y h1 k1
    obtain ⟨hle,bs,r1,r2,r3⟩:=xr hf (show se off len (o+len x) L=some m from ht) h2 k2
    have e:(cs.drop o).take (m - o)=(cs.drop (off x)).take (len x)++(cs.drop (o+len x)).take (m - (o+len x)):=by
     rw [hb,show m - o=len x+(m - (o+len x)) by omega,List.take_add,List.drop_drop]
    rw [e]
    refine ⟨by omega,lr++bs,q1.append r1,q2.append r2,fun v hv=>?_⟩
    rcases List.mem_append.1 hv with hv | hv
    ·exact q3 v hv
    ·exact r3 v hv
   ·cases hp
theorem mr {α β:Type} {f:α→Option β}:∀ {l:List α} {r:List β},l.mapM f=some r→∀ (i:Nat) (x:α),l[i]?=some x→∃ y,r[i]?=some y∧f x=some y
 | [],r,_,i,x,hx=>by simp at hx
 | a :: l,r,h,i,x,hx=>by
  obtain ⟨y,ys,h1,h2,rfl⟩:=kD h
  cases i with
  | zero=>simp at hx; subst hx; exact ⟨y,by simp,h1⟩
  | succ i=>obtain ⟨z,h3,h4⟩:=mr h2 i x (by simpa using hx); exact ⟨z,by simpa using h3,h4⟩
theorem mapM_length {α β:Type} {f:α→Option β}:∀ {l:List α} {r:List β},l.mapM f=some r→r.length=l.length
 | [],r,h=>by simp at h; subst h; rfl
 | a :: l,r,h=>by
  obtain ⟨y,ys,h1,h2,rfl⟩:=kD h
  simp [mapM_length h2]
theorem N2 {a:Addr} {v:Value} (h:w.cell? a=some v):a.block < w.heap.size:=by
 unfold World.cell? at h
 split at h
 ·rename_i hb; exact bl hb
 ·cases h
theorem zQ {e:TypeId} {ps:List aT} {pe:aT} {ag:Bool} {qP:Nat} (hp:∀ (cs:List Value) (y:DataW H × List MemPlace),DataW.trod enc P w base spare held qP e cs=some y→∃ lr,aM (nt w) w lr cs∧qO ps lr∧∀ v∈cs,v.oneCell'=true) (he:sf ag ps=some pe) {b off len:Nat} {r:List (DataW H × List MemPlace)}
  (h:(List.range len).mapM (fun i=>(w.cells? base ((⟨b,off,none⟩:Addr).add (i * P.cellsOf e)) (P.cellsOf e)).bind (DataW.trod enc P w base spare held qP e))=some r) :
  ∀ (m i:Nat),i+m=len→∃ es,fY (nt w) w b (off+i * P.cellsOf e) (P.cellsOf e) es∧es.length=m∧∀ x∈es,pe.fits x=true∧pe.wf (pe.bw x)
 | 0,i,_=>⟨[],.nil,rfl,by simp⟩
 | m+1,i,hi=>by
  obtain ⟨es,h1,h2,h3⟩:=zQ hp he h m (i+1) (by omega)
  obtain ⟨y,_,hy⟩:=mr h i i (by rw [List.getElem?_range (by omega)])
  obtain ⟨cs,hc,hy⟩:=bind_some hy
  obtain ⟨lr,q1,q2,q3⟩:=hp _ _ hy
  obtain ⟨x,hx,f1,f2⟩:=C0 he q2
  have lE:w.cells? base ((⟨b,off,none⟩:Addr).add (i * P.cellsOf e)) (P.cellsOf e)=some cs:=hc
  unfold World.cells? at lE
  split at lE
  ·have hlen:=mapM_length lE
   rw [List.length_range] at hlen
   have je:x.cells=lr∧x.aX=true∧x.closed=true:=by
    have nR:=Gy q2
    cases ag with
    | true=>
     simp only [if_true] at hx
     subst hx
     refine ⟨rfl,rfl,?_⟩
     show aH lr=true
     clear h1 h2 h3 q1 q2 f1 f2
     induction lr with
     | nil=>rfl
     | cons a lr ih=>simp only [aH,Bool.and_eq_true]; exact ⟨(nR a (by simp)).2.2,ih (fun z hz=>nR z (by simp [hz]))⟩
    | false=>
     simp only [Bool.false_eq_true,if_false] at hx
     subst hx
     obtain ⟨k1,k2,k3⟩:=nR x (by simp)
     exact ⟨k2,k1,k3⟩
   have jR:∀ j v,cs[j]?=some v→w.cell? ⟨b,off+i * P.cellsOf e+j,none⟩=some v:=fun j v hv=>by
    have hj:j < P.cellsOf e:=by have:=(List.getElem?_eq_some_iff.1 hv).1; omega
    obtain ⟨v',k1,k2⟩:=mr lE j j (by rw [List.getElem?_range hj])
    rw [hv] at k1
    cases k1
    rw [cF,cF] at k2
    exact k2
   refine ⟨x :: es,.cons ?_ je.2.1 je.2.2 ?_ ?_,by simp [h2],fun z hz=>?_⟩
   ·rw [je.1,q1.length,hlen]
   ·rw [je.1]
    refine dO.make q1 q3 jR (fun j hj=>?_)
    have M3:j < cs.length:=by rw [← q1.length]; exact hj
    exact N2 (jR j cs[j] (List.getElem?_eq_getElem M3))
   ·rw [show off+i * P.cellsOf e+P.cellsOf e=off+(i+1) * P.cellsOf e by rw [Nat.add_mul]; omega]
    exact h1
   ·rcases List.mem_cons.1 hz with rfl | hz
    ·exact ⟨f1,f2⟩
    ·exact h3 z hz
  ·cases lE
theorem sh (BI:∀ b,spare b=true):∀ (n:Nat) {t:TypeId} {ps:List aT},H7 P n t=some ps→∀ {qP:Nat} {cs:List Value} {y:DataW H × List MemPlace},DataW.trod enc P w base spare held qP t cs=some y →
  ∃ lr,aM (nt w) w lr cs∧qO ps lr∧∀ v∈cs,v.oneCell'=true
 | 0,_,_,h,_,_,_,_=>by cases h
 | n+1,t,ps,h,0,_,_,hy=>by cases hy
 | n+1,t,ps,h,qP+1,cs,y,hy=>by
  unfold H7 at h
  unfold DataW.trod at hy
  split at h
  ·rename_i hu
   cases h
   rw [hu] at hy
   cases cs with
   | nil=>cases hy
   | cons v l=>
    cases l with
    | cons v2 l=>(cases v <;> first | (cases hy; done) | (rename_i a; cases a <;> cases hy; done) | (rename_i a b; cases a <;> cases hy; done) | (rename_i a b c; cases a <;> first | (cases hy; done) | (cases b <;> first | (cases hy; done) | (cases c <;> cases hy))))
    | nil=>
     cases v with
     | bool b=>exact ⟨[.bool b],.one (.bool b),⟨rfl,⟨trivial,rfl,rfl,rfl⟩,trivial⟩,by simp [Value.oneCell']⟩
     | pointer a=>cases a <;> cases hy
     | slice a b c=>cases a <;> first | (cases hy; done) | (cases b <;> first | (cases hy; done) | (cases c <;> cases hy))
     | map a=>cases a <;> cases hy
     | chan a=>cases a <;> cases hy
     | _=>cases hy
  ·rename_i k hu
   cases h
   rw [hu] at hy
   cases cs with
   | nil=>cases hy
   | cons v l=>
    cases l with
    | cons v2 l=>(cases v <;> first | (cases hy; done) | (rename_i a; cases a <;> cases hy; done) | (rename_i a b; cases a <;> cases hy; done) | (rename_i a b c; cases a <;> first | (cases hy; done) | (cases b <;> first | (cases hy; done) | (cases c <;> cases hy))))
    | nil=>
     cases v with
     | int k' i=>
      have hy:(if k'=k∧(Lit.int k i).wf=true then some (.lit (.int k i),[]) else none)=some y:=hy
      split at hy
      ·rename_i hc
       obtain ⟨rfl,hw⟩:=hc
       exact ⟨[.int k' i],.one (.int k' i),⟨decide_eq_true rfl,⟨by have h:=hw; simp [Lit.wf] at h; exact h,rfl,rfl,rfl⟩,trivial⟩,by simp [Value.oneCell']⟩
      ·cases hy
     | pointer a=>cases a <;> cases hy
     | slice a b c=>cases a <;> first | (cases hy; done) | (cases b <;> first | (cases hy; done) | (cases c <;> cases hy))
     | map a=>cases a <;> cases hy
     | chan a=>cases a <;> cases hy
     | _=>cases hy
  ·rename_i hu
   cases h
   rw [hu] at hy
   cases cs with
   | nil=>cases hy
   | cons v l=>
    cases l with
    | cons v2 l=>(cases v <;> first | (cases hy; done) | (rename_i a; cases a <;> cases hy; done) | (rename_i a b; cases a <;> cases hy; done) | (rename_i a b c; cases a <;> first | (cases hy; done) | (cases b <;> first | (cases hy; done) | (cases c <;> cases hy))))
    | nil=>
     cases v with
     | string s=>
      have hy:(if s.size≤maxLen then some (.lit (.string s.data.toList),[]) else none)=some y:=hy
      split at hy
      ·rename_i hc
       exact ⟨[.str s.data.toList],.one (.str s.data.toList),⟨rfl,⟨by simpa [aT.wf,aT.bw,AV.S5] using hc,rfl,rfl,rfl⟩,trivial⟩,by simp [Value.oneCell']⟩
      ·cases hy
     | pointer a=>cases a <;> cases hy
     | slice a b c=>cases a <;> first | (cases hy; done) | (cases b <;> first | (cases hy; done) | (cases c <;> cases hy))
     | map a=>cases a <;> cases hy
     | chan a=>cases a <;> cases hy
     | _=>cases hy
  ·rename_i e hu
   rw [hu] at hy
   split at h
   ·rename_i Yi u h1 h2
    split at h
    ·rename_i pe h3
     obtain ⟨hz,h⟩:=bo h
     cases h
     have hz:=Nat.le_of_ble_eq_true hz
     cases cs with
     | nil=>cases hy
     | cons v l=>
      cases l with
      | cons v2 l=>(cases v <;> first | (cases hy; done) | (rename_i a; cases a <;> cases hy; done) | (rename_i a b; cases a <;> cases hy; done) | (rename_i a b c; cases a <;> first | (cases hy; done) | (cases b <;> first | (cases hy; done) | (cases c <;> cases hy))))
      | nil=>
       cases v with
       | slice a len cap=>
        cases a with
        | none=>
         have hz:len=0∧cap=0:=by
          cases len with
          | zero=>cases cap with
           | zero=>exact ⟨rfl,rfl⟩
           | succ _=>cases hy
          | succ _=>cases hy
         obtain ⟨rfl,rfl⟩:=hz
         exact ⟨[.list .eU (P.cellsOf e) []],.one .iU,⟨by simp [aT.fits,allFit],⟨⟨Nat.zero_le _,fun x hx=>by change x∈([]:List pe.T) at hx; cases hx⟩,rfl,rfl,rfl⟩,trivial⟩,by simp [Value.oneCell']⟩
        | some a=>
         have hy:(if base≤a.block∧len≤cap∧cap≤maxLen then
          ((List.range len).mapM (fun i=>(w.cells? base (a.add (i * P.cellsOf e)) (P.cellsOf e)).bind (DataW.trod enc P w base spare held qP e))).bind fun GA=>
           (if spare a.block then (List.range (cap - len)).mapM (fun j=>(w.cells? base (a.add ((len+j) * P.cellsOf e)) (P.cellsOf e)).bind (DataW.trod enc P w base spare held qP e)) else some []).map fun rest=>
            (DataW.slice (GA.map (·.1)) (rest.map (·.1)),MemPlace.row a ((GA.length+rest.length) * P.cellsOf e)++(GA++rest).flatMap (·.2))
          else none)=some y:=hy
         split at hy
         ·rename_i hc
          obtain ⟨GA,k1,hy⟩:=bind_some hy
          rw [if_pos (BI _)] at hy
          by_cases gW:cap=0
          ·subst gW
           have sV:len=0:=Nat.le_zero.1 hc.2.1
           subst sV
           exact ⟨[.list .eU (P.cellsOf e) []],.one .mN,⟨by simp [aT.fits,allFit],⟨⟨Nat.zero_le _,fun x hx=>by change x∈([]:List pe.T) at hx; cases hx⟩,rfl,rfl,rfl⟩,trivial⟩,by simp [Value.oneCell']⟩
          ·have Kg:a.spot=none:=by
            have TS:∃ y,(w.cells? base (a.add (0 * P.cellsOf e)) (P.cellsOf e)).bind (DataW.trod enc P w base spare held qP e)=some y:=by
             by_cases sV:len=0
             ·subst sV
              cases hr:(List.range (cap - 0)).mapM (fun j=>(w.cells? base (a.add ((0+j) * P.cellsOf e)) (P.cellsOf e)).bind (DataW.trod enc P w base spare held qP e)) with
              | none=>rw [hr] at hy; cases hy
              | some r=>
               obtain ⟨z,_,hz⟩:=mr hr 0 0 (by rw [List.getElem?_range (by omega)])
               exact ⟨z,hz⟩
             ·obtain ⟨z,_,hz⟩:=mr k1 0 0 (by rw [List.getElem?_range (by omega)])
              exact ⟨z,hz⟩
            obtain ⟨z,hz'⟩:=TS
            obtain ⟨cs,pq,_⟩:=bind_some hz'
            unfold World.cells? at pq
            split at pq
            ·obtain ⟨v,_,hv⟩:=mr pq 0 0 (by rw [List.getElem?_range (by omega)])
             rw [Nat.zero_mul] at hv
             unfold World.cell? at hv
             split at hv
             ·split at hv
              ·cases hv
              ·rename_i hs
               simpa [Addr.add] using hs
             ·cases hv
            ·cases pq
           obtain ⟨b,off,spot⟩:=a
           have Kg:spot=none:=Kg
           subst Kg
           obtain ⟨es,q1,q2,q3⟩:=zQ (fun cs y hy=>sh BI n h1 hy) h3 k1 len 0 (by omega)
           rw [Nat.zero_mul,Nat.add_zero] at q1
           obtain ⟨f1,f2⟩:=Gz q3
           refine ⟨[.list .eU (P.cellsOf e) es],.one (.list q1 q2.symm hc.2.1 trivial),⟨?_,⟨⟨?_,f2⟩,rfl,rfl,rfl⟩,trivial⟩,by simp [Value.oneCell']⟩
           ·simp only [aT.fits,Bool.and_eq_true,Bool.or_eq_true]
            exact ⟨.inl (Nat.beq_refl _),f1⟩
           ·have:es.length≤maxLen:=by rw [q2]; omega
            show (es.map pe.bw).length≤maxLen
            rw [List.length_map]
            exact this
         ·cases hy
       | pointer a=>cases a <;> cases hy
       | map a=>cases a <;> cases hy
       | chan a=>cases a <;> cases hy
       | _=>cases hy
    ·cases h
   ·cases h
  ·rename_i fs hu
   rw [hu] at hy
   have hy:(if cs.length=P.cellsOf t then (fs.toList.mapM fun f=>DataW.trod enc P w base spare held qP f.type ((cs.drop f.offset).take (P.cellsOf f.type))).map fun xs=>(.agg (xs.map (·.1)),xs.flatMap (·.2)) else none)=some y:=hy
   split at hy
   ·rename_i hl
    obtain ⟨h1,h2⟩:=bo h
    cases hm:fs.toList.mapM fun f=>DataW.trod enc P w base spare held qP f.type ((cs.drop f.offset).take (P.cellsOf f.type)) with
    | none=>rw [hm] at hy; cases hy
    | some ys=>
     cases ht:se Field.offset (fun f=>P.cellsOf f.type) 0 fs.toList with
     | none=>rw [ht] at h1; cases h1
     | some m=>
      rw [ht] at h1
      have h1:=Nat.eq_of_beq_eq_true (show Nat.beq m (P.cellsOf t)=true from h1)
      obtain ⟨_,lr,q1,q2,q3⟩:=xr (R:=nt w) (w:=w) (off:=Field.offset) (len:=fun f=>P.cellsOf f.type) (cs:=cs) (fun x ps y hx hy'=>sh BI n hx hy') ht h2 hm
      rw [h1,← hl] at q1 q3
      simp only [List.drop_zero,Nat.sub_zero,List.take_length] at q1 q3
      exact ⟨lr,q1,q2,q3⟩
   ·cases hy
  ·rename_i m e hu
   rw [hu] at hy
   have hy:(if cs.length=P.cellsOf t then ((List.range m).mapM fun i=>DataW.trod enc P w base spare held qP e ((cs.drop (i * P.cellsOf e)).take (P.cellsOf e))).map fun xs=>(.agg (xs.map (·.1)),xs.flatMap (·.2)) else none)=some y:=hy
   split at hy
   ·rename_i hl
    obtain ⟨h1,h2⟩:=bo h
    cases hm:(List.range m).mapM fun i=>DataW.trod enc P w base spare held qP e ((cs.drop (i * P.cellsOf e)).take (P.cellsOf e)) with
    | none=>rw [hm] at hy; cases hy
    | some ys=>
     cases ht:se (fun i=>i * P.cellsOf e) (fun _=>P.cellsOf e) 0 (List.range m) with
     | none=>rw [ht] at h1; cases h1
     | some k=>
      rw [ht] at h1
      have h1:=Nat.eq_of_beq_eq_true (show Nat.beq k (P.cellsOf t)=true from h1)
      obtain ⟨_,lr,q1,q2,q3⟩:=xr (R:=nt w) (w:=w) (off:=fun i=>i * P.cellsOf e) (len:=fun _=>P.cellsOf e) (cs:=cs) (fun x ps y hx hy'=>sh BI n hx hy') ht h2 hm
      rw [h1,← hl] at q1 q3
      simp only [List.drop_zero,Nat.sub_zero,List.take_length] at q1 q3
      exact ⟨lr,q1,q2,q3⟩
   ·cases hy
  ·cases h
def Ua (P:Program) (n:Nat) (t:TypeId):Option aT:=match P.underlying t with
 | some u=>match H7 P n t with
  | some ps=>sf (Go.Am.jx u) ps
  | none=>none
 | none=>none
theorem N3 (BI:∀ b,spare b=true) {n:Nat} {t:TypeId} {p:aT} (hp:Ua P n t=some p) {v:Value} {d:DataW H} {pl:List MemPlace} {r:Reach} {base':Nat} (ht:DataW.Trod enc P w base spare held t v d pl) (eB:Value.okWide P w r base' t v) :
  ∃ x:p.T,Rel (nt w) w (p.enc x) v∧p.wf x:=by
 obtain ⟨qP,ht⟩:=ht
 have fin:∀ {a:AV},p.fits a=true→p.wf (p.bw a)→Rel (nt w) w a v→∃ x:p.T,Rel (nt w) w (p.enc x) v∧p.wf x:=fun {a} h1 h2 h3=>⟨p.bw a,(p.cT h1).gD _ _ _ h3,h2⟩
 unfold Ua at hp
 split at hp
 ·rename_i u hu
  split at hp
  ·rename_i ps h1
   obtain ⟨lr,q1,q2,q3⟩:=sh BI n h1 ht
   obtain ⟨x,hx,f1,f2⟩:=C0 hp q2
   cases Ax:Go.Am.jx u with
   | true=>
    rw [Ax] at hx
    simp only [if_true] at hx
    subst hx
    have:∃ cs,v=.agg cs:=by
     unfold Value.okWide at eB
     rw [hu] at eB
     cases u <;> first | (cases Ax; done) | (obtain ⟨cs,h,_⟩:=eB; exact ⟨cs,h⟩)
    obtain ⟨⟨cs⟩,rfl⟩:=this
    exact fin f1 f2 (.agg q1 q3)
   | false=>
    rw [Ax] at hx
    simp only [Bool.false_eq_true,if_false] at hx
    subst hx
    have hv:v.cells.toList=[v]:=by
     cases v with
     | agg cs=>
      exfalso
      unfold Value.okWide at eB
      rw [hu] at eB
      cases u <;> first | (cases Ax; done) | (simp [Cell.okWide,Cell.ok,hu] at eB)
     | _=>rfl
    rw [hv] at q1
    cases q1 with
    | cons q1 _=>exact fin f1 f2 q1
  ·cases hp
 ·cases hp
def C1 (P:Program) (n:Nat):List TypeId→Option (List aT)
 | []=>some []
 | t :: l=>match Ua P n t,C1 P n l with
  | some p,some r=>some (p :: r)
  | _,_=>none
theorem C2 (BI:∀ b,spare b=true) {n:Nat} {r:Reach} {base':Nat}:∀ {ts:List TypeId} {ps:List aT} {vs:List Value} {ds:List (DataW H)} {pl:List MemPlace},C1 P n ts=some ps→DataW.TrodAll enc P w base spare held ts vs ds pl →
  (∀ (j:Nat) t v,ts[j]?=some t→vs[j]?=some v→Value.okWide P w r base' t v)→∃ x:(kC ps).T,aM (nt w) w ((kC ps).enc x) vs∧(kC ps).wf x
 | [],ps,vs,ds,pl,hp,ht,_=>by
  simp only [C1] at hp
  cases hp
  cases vs with
  | nil=>exact ⟨(),.nil,trivial⟩
  | cons _ _=>cases ds <;> exact ht.elim
 | t :: ts,ps,vs,ds,pl,hp,ht,eB=>by
  unfold C1 at hp
  split at hp
  ·rename_i p r h1 h2
   cases hp
   cases vs with
   | nil=>cases ds <;> exact ht.elim
   | cons v vs=>
    cases ds with
    | nil=>exact ht.elim
    | cons d ds=>
     obtain ⟨p1,p2,k1,k2,_⟩:=ht
     obtain ⟨x,q1,q2⟩:=N3 BI h1 k1 (eB 0 t v rfl rfl)
     obtain ⟨y,q3,q4⟩:=C2 BI h2 k2 (fun j t v hj hv=>eB (j+1) t v (by simpa using hj) (by simpa using hv))
     cases r with
     | nil=>
      cases q3
      exact ⟨x,.one q1,q2⟩
     | cons p' r=>exact ⟨(x,y),.cons q1 q3,q2,q4⟩
  ·cases hp
end read
end Go.Am
namespace Go.Am
open Go Go.RowKit Go.WideShapes Go.ChangeShapes
section
variable {H:Type} {enc:TypeId × Value→H} {P:Program}
theorem Fb {f:Func} {s:ChangeSpec} {apart fresh handsOn again:Bool} {W W':World} {args:Array Value} {v:Value} {ds gs:List (DataW H)} {before pa pv:List MemPlace}
  (hW:DataW.Whole enc P f.params.toList s.vars apart W args.toList ds gs before)
  (EH:∀ (b:Nat) (sp:Nat→Bool) (hd:Bool),DataW.TrodAll enc P W' b sp hd f.resultTypes.toList (v.resultList f.resultTypes.size) (s.fn H (ds++gs)).results [])
  (qa:∀ sp:Nat→Bool,(∀ p∈before,sp p.block=true)→DataW.TrodAll enc P W' 0 sp true f.params.toList args.toList (s.fn H (ds++gs)).args pa)
  (C3:∀ sp:Nat→Bool,(∀ p∈before,sp p.block=true)→DataW.TrodVars enc P W' sp s.vars (s.fn H (ds++gs)).vars pv)
  (IS:before=pa++pv) (hb:Below W.heap.size W W')
  (eB:∀ (j:Nat) (t:TypeId) (r:Value),f.resultTypes[j]?=some t→(v.resultList f.resultTypes.size)[j]?=some r→Value.okWide P W' .any 0 t r) :
  s.post enc P f apart fresh handsOn again W args v W':=by
 have bV:∀ p∈before,p.block < W.heap.size:=fun p hp=>hW.lt p hp
 have hold:∀ p∈before,(fun b=>decide (b < W.heap.size)) p.block=true:=fun p hp=>by simpa using bV p hp
 refine ⟨ds,gs,before,[],pa,pv,hW,EH _ _ _,qa _ hold,C3 _ hold,World.keptBut_mono (fun p hp=>⟨hp,?_⟩) (hb.frame (·∈before)),fun _=>?_⟩
 ·rw [IS,List.mem_append] at hp
  exact Or.inr hp
 ·obtain ⟨_,_,_,_,_,hz,hn⟩:=hW
  refine ⟨eB,_,_,([]++pa)++pv,⟨[]++pa,pv,trodAll_append (qa _ (fun _ _=>rfl)) (EH _ _ _),C3 _ (fun _ _=>rfl),rfl,?_,?_⟩,?_⟩
  ·intro b off hp
   have Ed:MemPlace.cell b off∈before:=by rw [IS]; simpa using hp
   rw [hb.frozen (bV _ Ed)]
   exact hz b off Ed
  ·intro ha
   have:=hn ha
   rw [IS] at this
   simpa using this
  ·intro p hp _
   rw [IS]
   simpa using hp
theorem ql (hl:laidOutB P=true) {W W':World} (hb:Below W.heap.size W W') {sp:Nat→Bool}:∀ {ts:List TypeId} {vs:List Value} {ds:List (DataW H)} {pl:List MemPlace},
  (∀ t∈ts,P.readableRec t=true∧t < P.types.size)→DataW.TrodAll enc P W 0 (fun _=>true) true ts vs ds pl→(∀ p∈pl,p.block < W.heap.size)→(∀ p∈pl,sp p.block=true) →
  DataW.TrodAll enc P W' 0 sp true ts vs ds pl
 | [],[],[],_,_,h,_,_=>h
 | t :: ts,v :: vs,d :: ds,pl,hr,h,bV,BI=>by
  obtain ⟨p,q,h1,h2,rfl⟩:=h
  refine ⟨p,q,?_,ql hl hb (fun t ht=>hr t (by simp [ht])) h2 (fun x hx=>bV x (by simp [hx])) (fun x hx=>BI x (by simp [hx])),rfl⟩
  exact WideElems.Trod_stays hl (hr t (by simp)).1 (hr t (by simp)).2 h1 (fun x hx=>hb.same (bV x (by simp [hx]))) (fun x hx=>BI x (by simp [hx]))
 | [],[],_ :: _,_,_,h,_,_=>h.elim
 | [],_ :: _,_,_,_,h,_,_=>h.elim
 | _ :: _,[],_,_,_,h,_,_=>h.elim
 | _ :: _,_ :: _,[],_,_,h,_,_=>h.elim
theorem H8 {E:Env} {f:FuncId} {fn:Func} {s:ChangeSpec} {ps:List aT} {apart fresh handsOn again:Bool} {W:World} {base:Nat} {args:Array Value} {ds gs:List (DataW H)} {before:List MemPlace} {n tb:Nat}
  (ab8:∀ x,(kC ps).wf x→aY E f ((kC ps).enc x) (fun r=>r=.bool true)) (Yw:C1 E.P n fn.params.toList=some ps)
  (H9:∀ (j:Nat) t v,fn.params[j]?=some t→args[j]?=some v→Value.okWide E.P W .any base t v)
  (hW:DataW.Whole enc E.P fn.params.toList s.vars apart W args.toList ds gs before) (Yx:∀ g cs,E.cb g=some cs→dO (nt W) W g 0 cs)
  (C3:s.vars=[]) (BI:∀ ds:List (DataW H),ds.length=fn.params.toList.length→s.fn H ds={ results:=[.lit (.bool true)],args:=ds })
  (EH:fn.resultTypes=#[tb]) (hub:E.P.underlying tb=some .bool) (hl:laidOutB E.P=true) (hr:∀ t∈fn.params.toList,E.P.readableRec t=true∧t < E.P.types.size) (B9:E.lo=0:=by rfl) (N1:∀ g cs,E.cb g=some cs→E.gx g=true→g < W.heap.size∧W.cell? ⟨g,cs.length,none⟩=none:=by intro _ _ _ h; exact Bool.noConfusion (show false=true from h)) :
  Calls E.P f args W fun e W'=>∃ v,e=.returned v∧s.post enc E.P fn apart fresh handsOn again W args v W':=by
 have hW0:=hW
 obtain ⟨p,q,hA,hV,rfl,hfz,hnd⟩:=hW
 obtain ⟨rfl,rfl⟩:gs=[]∧q=[]:=by
  rw [C3] at hV
  cases gs with
  | nil=>exact ⟨rfl,hV⟩
  | cons g r=>exact absurd hV (by intro h; cases h)
 obtain ⟨x,hx,W4⟩:=C2 (fun _=>rfl) (n:=n) Yw hA (r:=.any) (base':=base) (fun j t v hj hv=>H9 j t v (by simpa using hj) (by simpa using hv))
 have hlen:ds.length=fn.params.toList.length:=by
  clear H9 hfz hnd hW0 hx W4 BI Yw hr
  revert hA
  generalize fn.params.toList=ts
  generalize args.toList=vs
  generalize p=pl
  clear p
  intro hA
  induction ts generalizing vs ds pl with
  | nil=>cases vs <;> cases ds <;> first | rfl | exact hA.elim
  | cons t ts ih=>
   cases vs with
   | nil=>cases ds <;> exact hA.elim
   | cons v vs=>
    cases ds with
    | nil=>exact hA.elim
    | cons d ds=>
     obtain ⟨p,q,_,h2,_⟩:=hA
     simp [ih vs q h2]
 have hG:dz E (nt W) W []:=⟨rfl,fun id go ro h=>by simp [nth] at h,fun i j ri rj b h=>by simp [nt,nth] at h,fun b o h=>h,fun g cs hg=>⟨Yx g cs hg,fun hx=>N1 g cs hg hx⟩,by rw [B9]; exact Nat.zero_le _⟩
 have hc:=(ab8 x W4 [])
 refine (callsIn_wide.1 (hc.2 (nt W) W args.toList hG hx)).mono fun e W' he=>?_
 cases e with
 | panicked c=>exact he.elim
 | outgrown=>exact he.elim
 | returned c=>
  obtain ⟨r,G',R',⟨_,rfl⟩,dZ,_,st⟩:=he
  cases dZ
  have hb:Below W.heap.size W W':=⟨st.os,st.tape,st.output,st.size,fun k hk=>st.bE k hk fun ho=>by
   obtain ⟨id,ro,h1,_⟩:=eJ ho
   simp [nt,nth] at h1⟩
  have bV:∀ y∈p,y.block < W.heap.size:=fun y hy=>by simpa using hW0.lt y (by simpa using hy)
  have e1:s.fn H (ds++[])={ results:=[.lit (.bool true)],args:=ds }:=by rw [List.append_nil]; exact BI ds hlen
  refine ⟨_,rfl,Fb (pa:=p) (pv:=[]) hW0 ?_ ?_ ?_ rfl hb ?_⟩
  ·intro b sp hd
   rw [e1,EH]
   exact trodAll_mk1 (shut_bool hub true)
  ·intro sp aca
   rw [e1]
   exact ql hl hb hr hA bV (fun y hy=>aca y (by simpa using hy))
  ·intro sp _
   rw [e1,C3]
   rfl
  ·intro j t r hj lD
   rw [EH] at hj lD
   cases j with
   | succ j=>simp at hj
   | zero=>
    simp at hj
    subst hj
    have:r=.bool true:=by simpa [Value.resultList] using lD.symm
    subst this
    simp [Value.okWide,Cell.okWide,Cell.ok,hub]
end
end Go.Am
namespace Go.Am
open Go
section
variable {P:Program} {W:World}
theorem to {g:Nat} {cs:Array Value} {k:IntKind} (hg:g < W.heap.size):∀ (xs:List Int) (o:Nat),(∀ i,i < xs.length→W.cell? ⟨g,o+i,none⟩=some (.int k (xs[i]?.getD 0)))→dO (nt W) W g o (xs.map fun x=>.int k x)
 | [],_,_=>.nil
 | x :: xs,o,h=>.cons (h 0 (by simp)) rfl hg (.int k x) (to (cs:=cs) hg xs (o+1) fun i hi=>by
   have:=h (i+1) (by simpa using hi)
   rw [show o+1+i=o+(i+1) by omega]
   simpa using this)
end
end Go.Am
namespace Go.Am
open Go
theorem er {p:aT} (hp:p.plain=true) (l:List p.T):allFit p.fits (List.map p.enc l)=true:=by
 induction l with
 | nil=>rfl
 | cons x l ih=>simp [allFit,ih,(p.bL x hp).1]
theorem iD {p:aT} (hp:p.plain=true) (l:List p.T):List.map p.bw (List.map p.enc l)=l:=by
 induction l with
 | nil=>rfl
 | cons x l ih=>simp [ih,(p.bL x hp).2]
end Go.Am
namespace Go.Am
open Go Go.RowKit
section
variable {E:Env} {R:ao} {w w':World}
theorem Below.Ub (h:Below w.heap.size w w') (wf:∀ b o,R.I b o→b < w.heap.size):Ext R w R w':=
 ⟨fun _ _ h=>h,fun b o hi=>b8 (h.block b (wf b o hi)) o,fun _ ro h=>⟨ro,h,cD.refl ro⟩,.old fun b hb=>h.block b hb⟩
theorem Below.Ia {G:List GO} (h:Below w.heap.size w w') (hg:dz E R w G) (hE:E.lo=0):dz E R w' G:=
 hg.bE (Below.Ub h hg.wf) rfl (fun b hb=>h.block b (hg.b6 hb)) (fun _ _ _ hi=>hi) (fun b o hi=>Nat.lt_of_lt_of_le (hg.wf b o hi) h.size) (fun _=>by rw [hE]; exact Nat.zero_le _)
theorem Below.zR {β:Nat→Nat} {bx:cJ} (h:Below w.heap.size w w') (wf:∀ b o,R.I b o→b < w.heap.size):Step R w β bx R w' β bx:=
 ⟨Below.Ub h wf,h.os,h.tape,h.output,h.size,fun b hb _=>h.block b hb,fun _ _ ho=>ho,fun _ _ hi _ _=>hi⟩
theorem aY.below {g:FuncId} {args:List AV} {r:AV} (hp:Plain E.P g)
  (h:∀ (R:ao) (w:World) (cs:List Value),aM R w args cs→Calls E.P g ⟨cs⟩ w (fun e w'=>∃ v,e=.returned v∧(∀ R,Rel R w' r v)∧Below w.heap.size w w')) (hE:E.lo=0):aY E g args (fun r'=>r'=r):=fun G=>
 ⟨hp,fun R w cs hg hl=>callsIn_wide.2 ((h R w cs hl).mono fun e w' ⟨v,he,hv,hb⟩=>by
  subst he
  exact ⟨r,G,R,⟨rfl,rfl⟩,hv R,Below.Ia hb hg hE,Below.zR hb hg.wf⟩)⟩
theorem Plain.of {P : Program} {g : FuncId} {fn : Func} (h : P.funcs[g]? = some fn) (h1 : fn.body.isNone = false) (h2 : (fn.name == "runtime.NumGoroutine") = false) : Plain P g := ⟨fn, h, h1, h2⟩
end
def p2 (a b:aT):aP:=.cons a (.cons b .nil)
def p1 (a:aT):aP:=.cons a .nil
def Ib:List UInt8 × List UInt8→Option (List UInt8)
 | (s,[c])=>bif Nat.blt c.toNat 128 then some (s.dropWhile (· == c)) else none
 | _=>none
def Uc (n:Int):List UInt8:=bif decide (n < 10) then [UInt8.ofNat (48+n.toNat)] else [UInt8.ofNat (48+n.toNat / 10),UInt8.ofNat (48+n.toNat % 10)]
def Ic:aQ:=⟨p2 .str .str,.str,Ib⟩
section
variable {E:Env}
theorem C4 {g:FuncId} (hp:Plain E.P g)
  (h:∀ (s:ByteArray) (c:UInt8),c.toNat < 128→∀ w:World,Calls E.P g #[.string s,.string ⟨#[c]⟩] w fun e w'=>e=.returned (.string ⟨(s.data.toList.dropWhile (· == c)).toArray⟩)∧w'=w) (hE:E.lo=0:=by rfl):ap E g Ic:=fun x y hT=>by
 obtain ⟨s,c⟩:=x
 match c,hT with
 | [c],hT=>
  obtain ⟨h1,h2⟩:=cond_some' hT
  subst h2
  refine aY.below hp (fun R w cs hl=>?_) hE
  cases hl with
  | cons a1 hl=>
  cases hl with
  | cons a2 hl=>
  cases hl
  cases a1; cases a2
  refine (h ⟨⟨s⟩⟩ c (Nat.le_of_ble_eq_true h1) w).mono ?_
  rintro e w' ⟨rfl,rfl⟩
  exact ⟨_,rfl,fun _=>Rel.str _,Below.refl _ _⟩
where
 cond_some' {c:Bool} {a x:List UInt8} (h:(bif c then some a else none)=some x):c=true∧a=x:=by
  cases c
  ·cases h
  ·exact ⟨rfl,Option.some.inj h⟩
end
end Go.Am
namespace Go.Am
open Go Go.RowKit Go.Proofs Go.Shelf
section
variable {E:Env} {R:ao} {w w':World}
theorem C5 {b:Nat} {x y v:Value} {el:TypeId} {fz:Nat × Nat} (h:w.heap[b]?=some (.cells #[x,y] el fz)):w.setCell ⟨b,0,none⟩ v=w.setRow b #[v,y]:=by
 unfold World.setCell World.setRow
 congr 1
 apply Array.ext
 ·simp
 ·intro i h1 h2
  rw [Array.getElem_modify,Array.getElem_modify]
  by_cases e:b=i
  ·subst e
   have bV:b < w.heap.size:=bl h
   have hv:w.heap[b]=.cells #[x,y] el fz:=(Array.getElem?_eq_some_iff.1 h).2
   simp [hv]
  ·simp [e]
theorem dz.BL {G:List GO} (h:dz E R w G):bn E R w (fun _=>0) ⟨[],fa,G,[],none,0⟩ { tmps:=#[],defers:=[] }:=
 ⟨h,⟨fun k cs hk=>by simp [fa,dv] at hk,fun k k' cs cs' hk=>by simp [fa,dv] at hk⟩,fun i hi=>absurd rfl hi,rfl,trivial⟩
def Yy (id:Nat):AV→Bool
 | .ir=>true
 | .ptr i 0=>Nat.beq i id
 | _=>false
def ccF (ty:Nat) (args:List AV) (G:List GO):Option (Bool × AV × List GO):=match args with
 | [.ptr id 0]=>match nth G id with
  | some (.row [c,b] el)=>some (Nat.beq el ty&&Yy id c,.bi [],aB G id (.row [.ptr id 0,b] el))
  | _=>none
 | _=>none
theorem Ud {ρ:Ren} (L:Lays.n240 E.P ρ) (X:Builder.X72 E.P ρ) (args:List AV) (G:List GO) (r:AV) (G':List GO) (h:ccF (ρ.t 72) args G=some (true,r,G')):cw E (ρ.f 240) args G (fun r' zM=>r'=r∧zM=G'):=by
 refine ⟨⟨_,L.f240,rfl,rfl⟩,fun R w cs hg hl=>callsIn_wide.2 ?_⟩
 unfold ccF at h
 split at h
 ·rename_i id
  cases hl with
  | cons a1 hl=>
  cases hl
  cases a1 with
  | @ptr _ _ b hb=>
  split at h
  ·rename_i cv bv el hid
   injection h with h; injection h with h1 h; injection h with h2 h3
   rw [Bool.and_eq_true] at h1
   obtain ⟨h1,DK⟩:=h1
   have h1:=Nat.eq_of_beq_eq_true h1
   subst h1; subst h2; subst h3
   obtain ⟨vs,k1,k2,k3,k4⟩:=hg.obj id _ _ hid hb
   cases k2 with
   | @cons _ c1 _ _ q1 k2=>
   cases k2 with
   | @cons _ c2 _ _ q2 k2=>
   cases k2
   unfold Yy at DK
   split at DK
   case h_3=>cases DK
   case h_2 i=>
    have DK:=Nat.eq_of_beq_eq_true DK
    subst DK
    cases q1 with
    | @ptr _ _ b' kd=>
    rw [hb] at kd
    cases kd
    refine (Any.Builder_copyCheck_used L X b w (by simp [World.cell?,k1])).mono fun e w' ⟨he,hw⟩=>?_
    subst he; subst hw
    rw [jj hid]
    exact ⟨.bi [],G,R,⟨rfl,rfl⟩,Rel.bi .nil,hg,Step.refl _ _ _ _⟩
   cases q1
   have EF:∀ v∈[Value.pointer (some ⟨b,0,none⟩),c2],v.oneCell'=true:=by
    intro v hv
    rcases List.mem_cons.1 hv with rfl | hv
    ·rfl
    ·exact k3 v (by rw [List.mem_singleton.1 hv]; simp)
   refine (Any.Builder_copyCheck_fresh L X b w (by simp [World.cell?,k1]) (by simp [World.shape?,k1]) (by simp [World.frozen?,k1])).mono fun e w' ⟨he,hw⟩=>?_
   subst he
   rw [C5 k1] at hw
   subst hw
   obtain ⟨r1,r2⟩:=(dz.BL hg).setRow (cs':=[.ptr id 0,bv]) (us:=[.pointer (some ⟨b,0,none⟩),c2]) hid hb k1 (.cons (Rel.ptr hb) (.cons q2 .nil)) EF
   exact ⟨.bi [],_,R,⟨rfl,rfl⟩,Rel.bi .nil,r1.g,r2⟩
  ·cases h
 ·cases h
def ccE {ρ:Ren} (L:Lays.n240 E.P ρ) (X:Builder.X72 E.P ρ):lI E (ρ.f 240):=⟨ccF (ρ.t 72),Ud L X⟩
theorem C6 (a:Addr) (n:Nat) (b o:Nat):(w.freeze a n).cell? ⟨b,o,none⟩=w.cell? ⟨b,o,none⟩:=by
 unfold World.freeze
 split
 ·rfl
 ·simp only [World.cell?,Array.getElem?_modify]
  by_cases e:a.block=b
  ·subst e
   simp only [if_true]
   cases h:w.heap[a.block]? with
   | none=>rfl
   | some x=>cases x <;> simp
  ·simp [e]
theorem C7 {a:Addr} {n:Nat} {b:Nat} (h:b≠a.block):(w.freeze a n).heap[b]?=w.heap[b]?:=by
 unfold World.freeze
 split
 ·rfl
 ·simp only [Array.getElem?_modify]
  rw [if_neg (Ne.symm h)]
theorem C8 (a:Addr) (n:Nat):(w.freeze a n).heap.size=w.heap.size:=by
 unfold World.freeze
 split <;> simp
set_option maxHeartbeats 2000000 in
set_option maxRecDepth 100000 in
theorem Bf {P:Program} {ρ:Ren} (L:Lays.n169 P ρ) (X:Builder.Extra P ρ) (b g cap:Nat) (p:Value) (cur:Array Value) (l:List UInt8) (w:World) (h0:l≠[])
  (hbk:w.heap[b]?=some (.cells #[p,.slice (some ⟨g,0,none⟩) l.length cap] (ρ.t 72) (0,0))) (hg:w.heap[g]?=some (.cells cur (ρ.t 5) (0,0))) (hnc:l.length≤cap) (XM:cap≤maxLen) (pq:cur.size=cap)
  (fJ:∀ (j:Nat) (x:UInt8),l[j]?=some x→w.cell? ⟨g,j,none⟩=some (.int .u8 x.toNat)) :
  Calls P (ρ.f 169) #[.pointer (some ⟨b,0,none⟩)] w fun e w'=>e=.returned (.string ⟨l.toArray⟩)∧w'=w.drew.freeze ⟨g,0,none⟩ l.length:=by
 have sV:l.length≠0:=by simpa using h0
 have c1:w.drew.cell? ⟨b,1,none⟩=some (.slice (some ⟨g,0,none⟩) l.length cap):=by
  have:w.drew.heap[b]?=some (.cells #[p,.slice (some ⟨g,0,none⟩) l.length cap] (ρ.t 72) (0,0)):=hbk
  rw [Lib.cell_of_heap this]; rfl
 have hSD:(Builtin.unsafeSliceData_ #[(ρ.t 37)] (ρ.t 127) #[.slice (some ⟨g,0,none⟩) l.length cap]).run P w.drew=.ok (.pointer (some ⟨g,0,none⟩)) w.drew:=
  Lib.run_unsafeSliceData_row _ _ _ _ _ _ (by omega)
 have hUS:(Builtin.unsafeString_ #[(ρ.t 127),(ρ.t 3)] (ρ.t 9) #[.pointer (some ⟨g,0,none⟩),.int .i64 l.length]).run P w.drew=.ok (.string ⟨l.toArray⟩) (w.drew.freeze ⟨g,0,none⟩ l.length):=by
  refine Lib.run_unsafeString_row w.drew (ρ.t 127) (ρ.t 3) (ρ.t 9) (ρ.t 5) L.t127 X.cellsByte g cur.size (by have qv:w.drew.heap[g]?=some (.cells cur (ρ.t 5) (0,0)):=hg; simp [World.shape?,qv]) l h0 (by omega) (by unfold maxLen at XM; omega) ?_
  intro j x hx
  have:=fJ j x hx
  rw [cF,Nat.zero_add]
  exact this
 have mixed:=L.mixed
 have t72:=L.t72; have a72:=L.a72; have z72:=L.z72; have v72:=L.v72; have u72:=run_underlying L.t72
 have t70:=L.t70; have a70:=L.a70; have z70:=L.z70; have v70:=L.v70; have u70:=run_underlying L.t70
 have t37:=L.t37; have a37:=L.a37; have z37:=L.z37; have v37:=L.v37; have u37:=run_underlying L.t37
 have t127:=L.t127; have a127:=L.a127; have z127:=L.z127; have v127:=L.v127; have agG:=run_underlying L.t127
 have t3:=L.t3; have a3:=L.a3; have z3:=L.z3; have v3:=L.v3; have u3:=run_underlying L.t3
 have t9:=L.t9; have a9:=L.a9; have z9:=L.z9; have v9:=L.v9; have u9:=run_underlying L.t9
 have t5:=X.t5; have a5:=X.a5; have z5:=X.z5; have v5:=X.v5; have u5:=run_underlying X.t5
 clear fJ
 go_enter L.f169,Body.n169_ntmps ρ
 go_wp2
 go_region_o
 all_goals (go_wp2; go_ret; exact ⟨rfl,rfl⟩)
theorem dz.frozen {G:List GO} (hg:dz E R w G) {t f sz el g c n:Nat} (_ht:nth G t=some (.tok f sz el)) (hr:nth R.obj t=some (.tok f g c)) {cur:Array Value} {fz:Nat × Nat} (hc:w.heap[g]?=some (.cells cur el fz)) :
  dz E R (w.drew.freeze ⟨g,0,none⟩ n) (aB G t .dead)∧Step R w (fun _=>0) fa R (w.drew.freeze ⟨g,0,none⟩ n) (fun _=>0) fa:=by
 have hl:Live R g:=⟨t,_,hr,rfl⟩
 have bE:∀ b,b≠g→(w.drew.freeze ⟨g,0,none⟩ n).heap[b]?=w.heap[b]?:=fun b hb=>C7 (w:=w.drew) (a:=⟨g,0,none⟩) hb
 have eC:(w.drew.freeze ⟨g,0,none⟩ n).heap.size=w.heap.size:=C8 (w:=w.drew) _ _
 have e:Ext R w R (w.drew.freeze ⟨g,0,none⟩ n):=⟨fun _ _ h=>h,fun b o _=>C6 (w:=w.drew) _ _ b o,fun _ ro h=>⟨ro,h,cD.refl ro⟩,fun b r hb=>⟨r,by
  by_cases e:b=g
  ·subst e; rw [hc] at hb; cases hb
  ·rw [bE b e]; exact hb,rfl,rfl,rfl,rfl,rfl⟩⟩
 have hos:∀ (v:World) (a:Addr) (m:Nat),(v.freeze a m).os=v.os∧(v.freeze a m).tape=v.tape∧(v.freeze a m).output=v.output∧(v.freeze a m).drawn=v.drawn:=by
  intro v a m
  unfold World.freeze
  split <;> exact ⟨rfl,rfl,rfl,rfl⟩
 refine ⟨⟨by rw [hY]; exact hg.len,fun id go ro q1 q2=>?_,hg.inj,fun b o hi=>by rw [eC]; exact hg.wf b o hi,fun x cs hx=>(hg.cb x cs hx).mono e,by rw [(hos _ _ _).2.2.2]; exact Nat.le_succ_of_le hg.lo⟩,⟨e,(hos _ _ _).1,(hos _ _ _).2.1,(hos _ _ _).2.2.1,by rw [eC]; exact Nat.le_refl _,fun b hb hn=>bE b (fun e=>hn (e ▸ .inl hl)),fun _ _ ho=>ho,fun _ _ hi _ _=>hi⟩⟩
 rcases dp q1 with ⟨rfl,rfl,_⟩ | ⟨cP,q1⟩
 ·rw [hr] at q2
  cases q2
  show g < _
  rw [eC]
  exact bl hc
 ·refine (hg.obj id go ro q1 q2).mono e (fun b hb=>bE b (fun e=>cP ?_)) (fun _ _ _ hi=>hi)
  subst e
  exact hg.inj t id _ _ b hr q2 rfl hb
theorem xu {b:Nat}:∀ {es:List AV} {o:Nat},fY R w b o 1 es→allFit (aT.fits (.int .u8)) es=true→∀ (j:Nat) (e:AV),es[j]?=some e→w.cell? ⟨b,o+j,none⟩=some (.int .u8 e.kR)
 | [],_,_,_,j,x,h=>by simp at h
 | a :: xs,o,.cons _ _ _ hc t,hf,0,x,h=>by
  simp only [allFit,Bool.and_eq_true] at hf
  simp only [List.getElem?_cons_zero] at h
  cases h
  cases a <;> first | (cases hf.1; done) | skip
  have hk:IntKind.u8=_:=of_decide_eq_true (show S3 _ _=true from hf.1)
  subst hk
  cases hc with
  | cons h1 h2 h3 h4 h5=>
  cases h4
  exact h1
 | a :: xs,o,.cons _ _ _ hc t,hf,j+1,x,h=>by
  simp only [allFit,Bool.and_eq_true] at hf
  simp only [List.getElem?_cons_succ] at h
  have:=xu t hf.2 j x h
  rw [show o+(j+1)=o+1+j by omega]
  exact this
def Bg:List AV→Bool
 | []=>true
 | a :: l=>(match a with
  | .int .u8 n=>decide (0≤n)&&decide (n < 256)
  | _=>false)&&Bg l
theorem xw:∀ {es:List AV},Bg es=true→allFit (aT.fits (.int .u8)) es=true∧∀ e∈es,0≤e.kR∧e.kR < 256
 | [],_=>⟨rfl,fun e he=>by simp at he⟩
 | a :: l,h=>by
  simp only [Bg,Bool.and_eq_true] at h
  obtain ⟨h1,h2⟩:=xw h.2
  have ha:=h.1
  split at ha
  ·rename_i n
   rw [Bool.and_eq_true] at ha
   refine ⟨by simp only [allFit,h1,Bool.and_true]; rfl,fun e he=>?_⟩
   rcases List.mem_cons.1 he with rfl | he
   ·exact ⟨of_decide_eq_true ha.1,of_decide_eq_true ha.2⟩
   ·exact h2 e he
  ·cases ha
def Ue (ty:Nat) (args:List AV) (G:List GO):Option (Bool × AV × List GO):=match args with
 | [.ptr id 0]=>match nth G id with
  | some (.row [_,.list .nil _ _] el)=>some (Nat.beq el ty,.str [],G)
  | some (.row [_,.list (.own t) 1 es] el)=>match nth G t with
   | some (.tok f 1 e)=>some (Nat.beq el ty&&Nat.beq e 5&&!es.isEmpty&&decide (f=es.length)&&Bg es,.str (iu es),aB G t .dead)
   | _=>none
  | _=>none
 | _=>none
theorem N4 {ρ:Ren} (L:Lays.n169 E.P ρ) (X:Builder.Extra E.P ρ) (h5:ρ.t 5=5) (hE:E.lo=0) (args:List AV) (G:List GO) (r:AV) (G':List GO) (h:Ue (ρ.t 72) args G=some (true,r,G')):cw E (ρ.f 169) args G (fun r' zM=>r'=r∧zM=G'):=by
 refine ⟨⟨_,L.f169,rfl,rfl⟩,fun R w cs hg hl=>callsIn_wide.2 ?_⟩
 unfold Ue at h
 split at h
 ·rename_i id
  cases hl with
  | cons a1 hl=>
  cases hl
  cases a1 with
  | @ptr _ _ b hb=>
  split at h
  ·rename_i pv _ es el hid
   injection h with h; injection h with h1 h; injection h with h2 h3
   have h1:=Nat.eq_of_beq_eq_true h1
   subst h1; subst h2; subst h3
   obtain ⟨vs,k1,k2,k3,k4⟩:=hg.obj id _ _ hid hb
   cases k2 with
   | @cons _ c1 _ _ q1 k2=>
   cases k2 with
   | @cons _ c2 _ _ q2 k2=>
   cases k2
   cases q2 with
   | list _ _ _ hk=>exact hk.elim
   | jA=>
    refine (Any.Builder_String_nil L X w.heap.size b c1 w k1).mono fun e w' ⟨he,hw⟩=>?_
    subst he
    exact ⟨.str [],G,R,⟨rfl,rfl⟩,Rel.str _,Below.Ia hw hg hE,Below.zR hw hg.wf⟩
  ·rename_i pv t es el hid
   split at h
   ·rename_i f e ht
    injection h with h; injection h with h1 h; injection h with h2 h3
    subst h2; subst h3
    simp only [Bool.and_eq_true] at h1
    obtain ⟨⟨⟨⟨h1,h4⟩,h6⟩,h7⟩,h8⟩:=h1
    have h1:=Nat.eq_of_beq_eq_true h1
    have h4:=Nat.eq_of_beq_eq_true h4
    have h7:=of_decide_eq_true h7
    subst h1; subst h4; subst h7
    obtain ⟨vs,k1,k2,k3,k4⟩:=hg.obj id _ _ hid hb
    cases k2 with
    | @cons _ c1 _ _ q1 k2=>
    cases k2 with
    | @cons _ c2 _ _ q2 k2=>
    cases k2
    cases q2 with
    | lZ _ _=>simp at h6
    | @list _ _ _ g o len cap hE hlen gW hk=>
    subst hlen
    obtain ⟨ro,bR,tO⟩:=hk
    have cL:=hg.obj t _ _ ht bR
    cases ro with
    | none=>exact cL.elim
    | bJ=>exact tO.elim
    | b7 _=>exact cL.elim
    | bk _=>exact cL.elim
    | tok f' g' c'=>
     obtain ⟨rfl,cur,iO,m1,m2,m3,m4⟩:=cL
     obtain ⟨rfl,rfl,rfl⟩:=tO.2 rfl
     obtain ⟨n1,n2⟩:=xw h8
     have WO:(iu es).length=es.length:=List.length_map _
     have cP:es≠[]:=by intro e; rw [e] at h6; simp at h6
     have fJ:∀ (j:Nat) (x:UInt8),(iu es)[j]?=some x→w.cell? ⟨g,j,none⟩=some (.int .u8 x.toNat):=by
      intro j x hx
      unfold iu at hx
      rw [List.getElem?_map] at hx
      cases he:es[j]? with
      | none=>rw [he] at hx; cases hx
      | some a=>
       rw [he] at hx
       cases hx
       have h1:=xu hE n1 j a he
       rw [Nat.zero_add] at h1
       have h2:=n2 a (List.mem_of_getElem? he)
       rw [h1]
       have:(UInt8.ofNat a.kR.toNat).toNat=a.kR.toNat:=by
        rw [UInt8.toNat_ofNat']
        omega
       show some (Value.int .u8 a.kR)=some (Value.int .u8 ((UInt8.ofNat a.kR.toNat).toNat:Int))
       rw [this,Int.toNat_of_nonneg h2.1]
     refine (Bf L X b g cap c1 cur (iu es) w (by intro e; exact cP (List.eq_nil_of_length_eq_zero (by rw [← WO,e]; rfl))) (by rw [WO]; exact k1) (by rw [h5]; exact iO) (by rw [WO]; exact gW) m2 (by omega) fJ).mono fun e w' ⟨he,hw⟩=>?_
     subst he
     subst hw
     obtain ⟨r1,r2⟩:=dz.frozen (n:=(iu es).length) hg ht bR iO
     exact ⟨.str (iu es),_,R,⟨rfl,rfl⟩,Rel.str _,r1,r2⟩
   ·cases h
  ·cases h
 ·cases h
def acd {ρ:Ren} (L:Lays.n169 E.P ρ) (X:Builder.Extra E.P ρ) (h5:ρ.t 5=5) (hE:E.lo=0:=by rfl):lI E (ρ.f 169):=⟨Ue (ρ.t 72),N4 L X h5 hE⟩
end
end Go.Am
namespace Go.Am
open Go
theorem iE {x:Int} (h:-9223372036854775808≤x∧x≤9223372036854775807):IntKind.wrap .i64 x=x:=IntWalk.i64_in x (by omega)
def fB (N:Nat):Prop:=18446744073709551616≤N
theorem bh {V X:Type} (rd:V→Option (V ⊕ X)) (n:Nat) (v:V):aG rd (n+1) v=(rd v).bind fun o=>Sum.elim (fun v'=>aG rd n v') (fun x=>some x) o:=rfl
theorem gM {α:Type} (g:α→AV) (xs:List α) (k:Nat) (h:k < xs.length):af (xs.map g) k=g xs[k]:=by
 unfold af
 rw [bc,List.getElem?_map,List.getElem?_eq_getElem h]
 rfl
def low (a b:Int):Int × Int:=(a / (Int.gcd a b:Int),b / (Int.gcd a b:Int))
def foldI {S α Y:Type} (st:S→α→S ⊕ Y):S→List α→S ⊕ Y
 | s,[]=>.inl s
 | s,a :: l=>Sum.elim (fun s'=>foldI st s' l) (fun y=>.inr y) (st s a)
theorem kE {V X S α Y:Type} {rd:V→Option (V ⊕ X)} (l:List α) (E:S→Nat→V) (st:S→α→S ⊕ Y) (fin:S→X) (ex:Y→X) (P:S→Nat→Prop)
  (h:∀ s k (hk:k < l.length),P s k→rd (E s k)=some (Sum.map (fun s'=>E s' (k+1)) ex (st s l[k]))∧∀ s',st s l[k]=.inl s'→P s' (k+1))
  (h0:∀ s,P s l.length→rd (E s l.length)=some (.inr (fin s))) :
  ∀ n s k,k≤l.length→l.length < n+k→P s k→aG rd n (E s k)=some (Sum.elim fin ex (foldI st s (l.drop k)))
 | 0,s,k,hk,hn,_=>by omega
 | n+1,s,k,hk,hn,hP=>by
  rw [bh]
  by_cases bV:k < l.length
  ·obtain ⟨h1,h2⟩:=h s k bV hP
   rw [h1,List.drop_eq_getElem_cons bV]
   simp only [Option.bind_some,foldI]
   cases hs:st s l[k] with
   | inl s'=>
    simp only [Sum.map_inl,Sum.elim_inl]
    exact kE l E st fin ex P h h0 n s' (k+1) (by omega) (by omega) (h2 s' hs)
   | inr y=>simp only [Sum.map_inr,Sum.elim_inr]
  ·have:k=l.length:=by omega
   subst this
   rw [h0 s hP,List.drop_eq_nil_of_le (Nat.le_refl _)]
   rfl
theorem ls {V X S α:Type} {rd:V→Option (V ⊕ X)} (l:List α) (E:S→Nat→V) (f:S→α→S) (fin:S→X) (P:S→Nat→Prop)
  (h:∀ s k (hk:k < l.length),P s k→rd (E s k)=some (.inl (E (f s l[k]) (k+1)))∧P (f s l[k]) (k+1))
  (h0:∀ s,P s l.length→rd (E s l.length)=some (.inr (fin s))) :
  ∀ n s k,k≤l.length→l.length < n+k→P s k→aG rd n (E s k)=some (fin ((l.drop k).foldl f s))
 | 0,s,k,hk,hn,_=>by omega
 | n+1,s,k,hk,hn,hP=>by
  rw [bh]
  by_cases bV:k < l.length
  ·obtain ⟨h1,h2⟩:=h s k bV hP
   rw [h1,List.drop_eq_getElem_cons bV]
   simp only [Option.bind_some,Sum.elim_inl,List.foldl_cons]
   exact ls l E f fin P h h0 n _ (k+1) (by omega) (by omega) h2
  ·have:k=l.length:=by omega
   subst this
   rw [h0 s hP,List.drop_eq_nil_of_le (Nat.le_refl _)]
   rfl
theorem bK {V X:Type} {rd:V→Option (V ⊕ X)} (m:Nat) (E:Nat→V) (x:X) (h:∀ k,k < m→rd (E k)=some (.inl (E (k+1)))) (h0:rd (E m)=some (.inr x)) :
  ∀ n k,k≤m→m < n+k→aG rd n (E k)=some x
 | 0,k,hk,hn=>by omega
 | n+1,k,hk,hn=>by
  rw [bh]
  by_cases bV:k < m
  ·rw [h k bV]
   simp only [Option.bind_some,Sum.elim_inl]
   exact bK m E x h h0 n (k+1) (by omega) (by omega)
  ·have:k=m:=by omega
   subst this
   rw [h0]
   rfl
theorem aO {k n:Nat} (h:k < n):decide (0≤(k:Int)∧(k:Int) < (n:Int))=true:=by simp; omega
theorem bf {k n:Nat} (h:k < n):decide ((k:Int) < (n:Int))=true:=by simpa using h
theorem bt (n:Nat):decide ((n:Int) < (n:Int))=false:=by simp
theorem bA {k:Nat} (h:k < 9223372036854775807):IntKind.wrap .i64 ((k:Int)+1)=((k+1:Nat):Int):=by rw [iE (by omega)]; simp
def pW (n lo hi:Int):Int:=if n < lo∨n > hi then 3 else 0
def aS:List Int→Int
 | []=>0
 | x :: l=>if x=0 then aS l else x
theorem dj {l:List Int}:aS l=0↔∀ x∈l,x=0:=by
 induction l with
 | nil=>simp [aS]
 | cons x l ih=>
  simp only [aS,List.mem_cons,forall_eq_or_imp]
  by_cases h:x=0
  ·simp [h,ih]
  ·simp [h]
theorem nu {rd:Int→Option (Int ⊕ (Int ⊕ Unit))} (l:List Int)
  (h:∀ k (hk:k < l.length),rd (k:Int)=some (if l[k]=0 then .inl ((k+1:Nat):Int) else .inr (.inl l[k]))) (h0:rd (l.length:Int)=some (.inr (.inr ()))) (n:Nat) (hn:l.length < n) :
  ∃ o,aG rd n 0=some o∧Sum.elim (fun x=>x) (fun _=>0) o=aS l:=by
 have key:=kE (rd:=rd) (S:=Unit) (Y:=Int) l (fun _ k=>(k:Int)) (fun _ x=>if x=0 then .inl () else .inr x) (fun _=>.inr ()) (fun x=>.inl x) (fun _ _=>True)
  (fun s k hk _=>⟨by rw [h k hk]; by_cases e:l[k]=0 <;> simp [e],fun _ _=>trivial⟩) (fun _ _=>h0) n () 0 (Nat.zero_le _) (by omega) trivial
 refine ⟨_,key,?_⟩
 rw [List.drop_zero]
 clear key h h0 hn
 induction l with
 | nil=>rfl
 | cons x l ih=>
  simp only [foldI,aS]
  by_cases e:x=0
  ·simp only [e,if_true,Sum.elim_inl]; exact ih
  ·simp [e]
theorem ik {rd:Int→Option (Int ⊕ (Int ⊕ Unit))} (l:List Int)
  (h:∀ k (hk:k < l.length),rd (k:Int)=some (if l[k]=0 then .inl ((k+1:Nat):Int) else .inr (.inl l[k]))) (h0:rd (l.length:Int)=some (.inr (.inr ()))) (n:Nat) (hn:l.length < n) :
  aG rd n 0=some (if aS l=0 then .inr () else .inl (aS l)):=by
 have key:=kE (rd:=rd) (S:=Unit) (Y:=Int) l (fun _ k=>(k:Int)) (fun _ x=>if x=0 then .inl () else .inr x) (fun _=>.inr ()) (fun x=>.inl x) (fun _ _=>True)
  (fun s k hk _=>⟨by rw [h k hk]; by_cases e:l[k]=0 <;> simp [e],fun _ _=>trivial⟩) (fun _ _=>h0) n () 0 (Nat.zero_le _) (by omega) trivial
 rw [List.drop_zero] at key
 refine key.trans (congrArg some ?_)
 clear key h h0 hn
 induction l with
 | nil=>rfl
 | cons x l ih=>
  simp only [foldI,aS]
  by_cases e:x=0
  ·simp only [e,if_true,Sum.elim_inl]; exact ih
  ·simp [e]
end Go.Am
