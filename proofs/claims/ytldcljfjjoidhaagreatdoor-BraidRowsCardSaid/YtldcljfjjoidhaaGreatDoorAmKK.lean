/- The abstract machine: the evaluator is sound. -/
import Derived.Test.YtldcljfjjoidhaaGreatDoorAmKJ
import GoSem.ClaimJoined
import Derived.Below
import Derived.ChangeSame
import Derived.Carry
import Derived.RowKit
import Derived.FnData
import Derived.Lib.Builder
import Derived.Lib.UnsafeStr
import Derived.Shelf.Strings.Builder1
import Derived.IntWalk
set_option linter.all false
namespace Go.Am
open Go
section
variable {C:gv} {ih:Vz}
def tg (C:gv) (ih:Vz):Prop:=∀ (f:FuncId) (p:Nat) (c:Code) (X:Type) (fg:Option X→Option X→Option X),uj fg→∀ (K:Exit→St→Option X) (s:St) (x:X),
 bu (C.D.dt f) c=true→ih f p c X fg K s=some x→lQ C.D.toEnv c (fun e s'=>K e s'=some x) s
theorem qv {X:Type}:uj (BH (X:=X)):=fun a b x h=>by
 unfold BH at h
 by_cases e:a=b
 ·rw [if_pos e] at h
  exact ⟨h,e ▸ h⟩
 ·rw [if_neg e] at h
  cases h
theorem oH (hs:tg C ih) {X:Type} {fg:Option X→Option X→Option X} (hm:uj fg):np C.D.toEnv (CK C ih fg):=fun g args G K x h=>by
 unfold CK at h
 obtain ⟨dE,h⟩:=bj h
 split at h
 ·rename_i fn VA
  split at h
  ·rename_i b hb
   obtain ⟨hn,h⟩:=bj h
   have fin:∀ {K':AV→List GO→Option X},ih g 1 b X fg (JO C.D.toEnv fn K') (St.init fn.ntmps args G)=some x→cu C.D.toEnv g args G (fun r G'=>K' r G'=some x):=by
    intro K' h
    refine cu.intro VA hb (by simpa using hn) ((hs g 1 b X fg hm _ _ x (C.D.Q3 g fn b dE VA hb) h).mono fun e s' hq=>?_)
    have hq:=hq.1
    unfold JO at hq
    unfold Q0
    cases e <;> first | (cases hq; done) | skip
    all_goals (simp only at hq ⊢)
    all_goals (split at hq <;> first | (cases hq; done) | skip)
    all_goals (rename_i hl; rw [hl]; simp only)
    all_goals (split at hq <;> first | (cases hq; done) | skip)
    all_goals (rename_i Jt; rw [Jt]; exact hq)
   cases YU:C.D.yB g 131072 with
   | true=>rw [YU] at h; exact cu.frz (fin h)
   | false=>rw [YU] at h; exact fin h
  ·cases h
 ·cases h
theorem CN (Bc:∀ g e,C.yy g=some e→ap C.D.toEnv g e) (hs:tg C ih) {X:Type} {fg:Option X→Option X→Option X} (hm:uj fg):np C.D.toEnv (CL C ih fg):=fun g args G K x h=>by
 unfold CL at h
 split at h
 ·rename_i e he
  obtain ⟨a,ha,h⟩:=bind_some h
  obtain ⟨y,hy,h⟩:=bind_some h
  refine cu.gD (e.ps.qc ha).1 (((Bc g e he a y hy) G).mono fun r G' hr=>?_)
  obtain ⟨rfl,rfl⟩:=hr
  exact h
 ·split at h
  ·rename_i e he
   split at h
   ·rename_i c r G' hf
    obtain ⟨hc,h⟩:=bj h
    subst hc
    refine (e.ok args G r G' hf).mono fun r' zO hh=>?_
    obtain ⟨rfl,rfl⟩:=hh
    exact h
   ·cases h
  ·split at h
   ·rename_i e he
    obtain ⟨a,ha,h⟩:=bind_some h
    obtain ⟨y,hy,h⟩:=bind_some h
    refine cu.gD (e.ps.qc ha).1 ((e.ok a y hy G).mono fun r G' hr=>?_)
    obtain ⟨z,rfl,hr⟩:=hr
    exact (CJ e.outs z hr).trans h
   ·exact oH hs hm g args G K x h
theorem CO {n:Nat}:∀ {l:List Tmp},Nx n l=true→∀ t∈l,t < n
 | [],_,t,ht=>by simp at ht
 | a :: l,h,t,ht=>by
  simp only [Nx,Bool.and_eq_true] at h
  rcases List.mem_cons.1 ht with rfl | ht
  ·exact jK h.1
  ·exact CO h.2 t ht
theorem EY (hs:tg C ih) {X:Type} {fg:Option X→Option X→Option X} (hm:uj fg):uk C.D.toEnv (Ny C ih fg):=fun id args G K x h=>by
 unfold Ny at h
 split at h
 ·rename_i p fp sl n ps rH bd d hG
  obtain ⟨hc,h⟩:=bj h
  simp only [Bool.and_eq_true] at hc
  obtain ⟨⟨⟨h1,h2⟩,h3⟩,h4⟩:=hc
  refine kB.intro hG (Nat.eq_of_beq_eq_true h1) (CO h2) ((hs _ _ rH X fg hm _ _ x h3 h).mono fun e s1 hq=>?_)
  have hq:=hq.1
  unfold A0
  cases e with
  | normal=>
   simp only at hq ⊢
   split at hq
   ·rename_i p' fn Vs n' WQ Nr Vw d' hG1
    rw [hG1]
    simp only
    refine (hs _ _ bd X fg hm _ _ x h4 hq).mono fun e2 s2 nU=>?_
    have nU:EU id K e2 s2=some x:=nU.1
    unfold EU at nU
    unfold EO
    split at nU
    ·rename_i WD
     rw [WD]
     cases e2 <;> first | (cases nU; done) | exact nU
    ·cases nU
   ·cases hq
  | _=>cases hq
 ·cases h
theorem lQ.of {E:Env} {c:Code} {Q Q':Exit→St→Prop} {s:St} (h:lQ E c Q s) (hq:∀ e s',Q e s'→aU s s'→Q' e s'):fS E c Q' s:=
 fS.mono h fun e s' hh=>hq e s' hh.1 hh.2
theorem rX {s s':St} {e:Exit}:∀ {outs:List (XK × cD)} {o:JT outs},lh s outs e s'=some o→∃ (t:cD) (v:t.ps.T),t.dec s s'=some v∧∀ (α:Type) (K:Exit→St→α),MP s outs o K=K e (t.st s v)
 | [],o,h=>by cases h
 | [x],o,h=>by
  obtain ⟨h1,h2⟩:=bj (show (bif x.1.is e then x.2.dec s s' else none)=some o from h)
  exact ⟨x.2,o,h2,fun _ K=>by rw [XK.F1 h1]; rfl⟩
 | x :: y :: l,o,h=>by
  have h:(bif x.1.is e then (x.2.dec s s').bind fun v=>some (.inl v) else (lh s (y :: l) e s').bind fun o=>some (.inr o))=some o:=h
  cases hx:x.1.is e with
  | true=>
   rw [hx] at h
   obtain ⟨v,h1,h2⟩:=bind_some h
   cases h2
   exact ⟨x.2,v,h1,fun _ K=>by rw [XK.F1 hx]; rfl⟩
  | false=>
   rw [hx] at h
   obtain ⟨v,h1,h2⟩:=bind_some h
   cases h2
   obtain ⟨t,u,k1,k2⟩:=rX h1
   exact ⟨t,u,k1,fun α K=>k2 α K⟩
theorem cD.qw (t:cD) (s:St) (v:t.ps.T):aU s (t.st s v):=by
 have h1:∀ (W:List Tmp) (b:bc),∃ pre,wS W b=pre++b:=fun W b=>by
  induction W with
  | nil=>exact ⟨[],rfl⟩
  | cons t W ih=>obtain ⟨p,hp⟩:=ih; exact ⟨.put t .none :: p,by simp [wS,hp]⟩
 have h2:∀ (ts:List Tmp) (l:List AV) (b:bc),∃ pre,ox ts l b=pre++b:=fun ts=>by
  induction ts with
  | nil=>intro l b; exact ⟨[],by cases l <;> rfl⟩
  | cons t ts ih=>
   intro l b
   cases l with
   | nil=>exact ⟨[],rfl⟩
   | cons a l=>obtain ⟨p,hp⟩:=ih l b; exact ⟨.put t (.v a) :: p,by simp [ox,hp]⟩
 have h3:∀ (bx:List (Nat × Nat)) (l:List AV) (b:cE),∃ pre,uf bx l b=pre++b:=fun bx=>by
  induction bx with
  | nil=>intro l b; exact ⟨[],rfl⟩
  | cons x bx ih=>
   obtain ⟨k,n⟩:=x
   intro l b
   obtain ⟨p,hp⟩:=ih (l.drop n) b
   exact ⟨(k,l.take n) :: p,by simp [uf,hp]⟩
 have h4:∀ (l:List (Tmp × Nat × Nat)) (b:bc),∃ pre,oz l b=pre++b:=fun l b=>by
  induction l with
  | nil=>exact ⟨[],rfl⟩
  | cons x l ih=>obtain ⟨t,k,o⟩:=x; obtain ⟨p,hp⟩:=ih; exact ⟨.put t (.lp k o) :: p,by simp [oz,hp]⟩
 obtain ⟨p1,e1⟩:=h1 t.W s.af
 obtain ⟨p2,e2⟩:=h2 t.sl (t.pG v) (wS t.W s.af)
 obtain ⟨p3,e3⟩:=h3 t.bx ((t.pG v).drop t.sl.length) s.boxes
 obtain ⟨p4,e4⟩:=h4 t.Vu (p2++(p1++s.af))
 exact ⟨⟨p4++(p2++p1),by rw [show (t.st s v).af=oz t.Vu (ox t.sl (t.pG v) (wS t.W s.af)) from rfl,e2,e1,e4,List.append_assoc,List.append_assoc]⟩,⟨p3,e3⟩,rfl⟩
theorem fS.W1 {E:Env} {c:Code} {s s1:St} {gh:List (Loc × Nat × TypeId)} {head:cD} {outs:List (XK × cD)} {rd:head.ps.T→Option (head.ps.T ⊕ JT outs)} {N:Nat} {v0:head.ps.T} {o:JT outs} {Q:Exit→St→Prop}
  (hg:Am.gZ gh s=some s1) (h0:head.dec s1 s1=some v0) (hr:∀ v r,rd v=some r→lQ E c (fun e s'=>ui s1 head outs e s'=some r) (head.st s1 v))
  (hl:aN rd N v0=some o) (hQ:∀ (t:cD) (v:t.ps.T) (e:Exit),(∀ (α:Type) (K:Exit→St→α),MP s1 outs o K=K e (t.st s1 v))→Q e (t.st s1 v)∧aU s (t.st s1 v)) :
  lQ E (.loop c) Q s:=fun R0 w β a F W2 MJ=>by
 obtain ⟨R,k1,k2,k3,_⟩:=kA W2 hg
 have hf:bL R s1.ro F:=by rw [k3]; exact MJ.mono k2.ext
 obtain ⟨i1,i2⟩:=cD.BF (aU.refl s1) k1 k1 (Step.refl R w β s1.boxes) h0
 refine mW (fun m a' w'=>∃ v R' β',aN rd m v=some o∧bi E R' w' β' (head.st s1 v) a'∧Step R w β s1.boxes R' w' β' (head.st s1 v).boxes) ?_ ⟨v0,_,β,hl,i1,i2⟩
 rintro m a' w' ⟨v,R',β',hm,lH,lf⟩
 cases m with
 | zero=>cases hm
 | succ m=>
  obtain ⟨r,h1,h2⟩:=bind_some (show ((rd v).bind fun o=>Sum.elim (fun v'=>aN rd m v') (fun x=>some x) o)=some o from hm)
  refine wpIn_mono (hr v r h1 R' w' β' a' F lH (hf.mono lf.ext)) ?_
  rintro e a2 w2 ⟨s2,R2,β2,⟨hK,hx⟩,Cc,JV,Hz⟩
  have Iw:aU s1 s2:=(head.qw s1 v).trans hx
  have st2:=lf.trans JV
  have out:∀ {u:JT outs},lh s1 outs e s2=some u→r=.inr u→Wy E R0 w β s (fun e s'=>Q e s'∧aU s s') e a2 w2:=fun {u} hu hru=>by
   subst hru
   cases h2
   obtain ⟨t,v',q1,q2⟩:=rX hu
   obtain ⟨j1,j2⟩:=cD.BF Iw k1 Cc st2 q1
   exact ⟨t.st s1 v',_,β2,hQ t v' e q2,j1,k2.trans j2,k3⟩
  cases e with
  | normal=>
   obtain ⟨v',q1,q2⟩:=bind_some (show ((head.dec s1 s2).bind fun v=>some (.inl v))=some r from hK)
   cases q2
   obtain ⟨j1,j2⟩:=cD.BF Iw k1 Cc st2 q1
   exact ⟨m,Nat.lt_succ_self m,v',_,β2,h2,j1,j2⟩
  | exit i=>obtain ⟨u,q1,q2⟩:=bind_some (show ((lh s1 outs (.exit i) s2).bind fun o=>some (.inr o))=some r from hK); exact out q1 (Option.some.inj q2).symm
  | ret=>obtain ⟨u,q1,q2⟩:=bind_some (show ((lh s1 outs .ret s2).bind fun o=>some (.inr o))=some r from hK); exact out q1 (Option.some.inj q2).symm
  | goto i=>obtain ⟨u,q1,q2⟩:=bind_some (show ((lh s1 outs (.goto i) s2).bind fun o=>some (.inr o))=some r from hK); exact out q1 (Option.some.inj q2).symm
  | panic i=>obtain ⟨u,q1,q2⟩:=bind_some (show ((lh s1 outs (.panic i) s2).bind fun o=>some (.inr o))=some r from hK); exact out q1 (Option.some.inj q2).symm
  | outgrown=>obtain ⟨u,q1,q2⟩:=bind_some (show ((lh s1 outs .outgrown s2).bind fun o=>some (.inr o))=some r from hK); exact out q1 (Option.some.inj q2).symm
theorem fS.S7 {E:Env} {c:Code} {s s1:St} {gh:List (Loc × Nat × TypeId)} {head:cD} {outs:List (XK × cD)} {rd:(head.ps.T→Option (JT outs))→head.ps.T→Option (JT outs)} {N:Nat} {v0:head.ps.T} {o:JT outs} {Q:Exit→St→Prop}
  (hg:Am.gZ gh s=some s1) (h0:head.dec s1 s1=some v0) (hr:∀ k v u,rd k v=some u→lQ E c (fun e s'=>JQ s1 head outs k e s'=some u) (head.st s1 v))
  (hl:mo rd N v0=some o) (hQ:∀ (t:cD) (v:t.ps.T) (e:Exit),(∀ (α:Type) (K:Exit→St→α),MP s1 outs o K=K e (t.st s1 v))→Q e (t.st s1 v)∧aU s (t.st s1 v)) :
  lQ E (.loop c) Q s:=fun R0 w β a F W2 MJ=>by
 obtain ⟨R,k1,k2,k3,_⟩:=kA W2 hg
 have hf:bL R s1.ro F:=by rw [k3]; exact MJ.mono k2.ext
 obtain ⟨i1,i2⟩:=cD.BF (aU.refl s1) k1 k1 (Step.refl R w β s1.boxes) h0
 refine mW (fun m a' w'=>∃ v R' β',mo rd m v=some o∧bi E R' w' β' (head.st s1 v) a'∧Step R w β s1.boxes R' w' β' (head.st s1 v).boxes) ?_ ⟨v0,_,β,hl,i1,i2⟩
 rintro m a' w' ⟨v,R',β',hm,lH,lf⟩
 cases m with
 | zero=>cases hm
 | succ m=>
  refine wpIn_mono (hr (mo rd m) v o hm R' w' β' a' F lH (hf.mono lf.ext)) ?_
  rintro e a2 w2 ⟨s2,R2,β2,⟨hK,hx⟩,Cc,JV,Hz⟩
  have Iw:aU s1 s2:=(head.qw s1 v).trans hx
  have st2:=lf.trans JV
  have out:lh s1 outs e s2=some o→Wy E R0 w β s (fun e s'=>Q e s'∧aU s s') e a2 w2:=fun hu=>by
   obtain ⟨t,v',q1,q2⟩:=rX hu
   obtain ⟨j1,j2⟩:=cD.BF Iw k1 Cc st2 q1
   exact ⟨t.st s1 v',_,β2,hQ t v' e q2,j1,k2.trans j2,k3⟩
  cases e with
  | normal=>
   obtain ⟨v',q1,q2⟩:=bind_some (show (head.dec s1 s2).bind (mo rd m)=some o from hK)
   obtain ⟨j1,j2⟩:=cD.BF Iw k1 Cc st2 q1
   exact ⟨m,Nat.lt_succ_self m,v',_,β2,q2,j1,j2⟩
  | exit i=>exact out hK
  | ret=>exact out hK
  | goto i=>exact out hK
  | panic i=>exact out hK
  | outgrown=>exact out hK
end
def pX (E:Env):List Bool→Code→(Exit→St→Prop)→St→Prop
 | [],_,Q,s=>Q .normal s
 | true :: k,.seq x y,Q,s=>lQ E x (tV (pX E k y Q) Q) s
 | false :: k,.seq x _,Q,s=>pX E k x Q s
 | _ :: _,_,_,_=>False
def kM (E:Env):List Bool→Code→(Exit→St→Prop)→St→Prop
 | [],c,Q,s=>lQ E c Q s
 | true :: k,.seq _ y,Q,s=>kM E k y Q s
 | false :: k,.seq x y,Q,s=>kM E k x (tV (lQ E y Q) Q) s
 | _ :: _,_,_,_=>False
def F8 (F:Fence) (P:Program):List Bool→Code→(Exit→Act→World→Prop)→Act→World→Prop
 | [],c,Q,a,w=>c.wpIn F 0 P Q a w
 | true :: k,.seq _ y,Q,a,w=>F8 F P k y Q a w
 | false :: k,.seq x y,Q,a,w=>F8 F P k x (Exit.then (fun a' w'=>y.wpIn F 0 P Q a' w') Q) a w
 | _ :: _,_,_,_,_=>False
section rot
variable {E:Env} {s1:St} {R:ai} {w:World} {β:Nat→Nat} {F:Fence}
def At (E:Env) (s1:St) (R:ai) (w:World) (β:Nat→Nat) (s:St) (a:Act) (w':World):Prop:=
 ∃ R' β',aU s1 s∧bi E R' w' β' s a∧Step R w β s1.boxes R' w' β' s.boxes∧s.ro=s1.ro
theorem lQ.at {c:Code} {Q:Exit→St→Prop} {s:St} {a:Act} {w':World} {Φ:Exit→Act→World→Prop} (hf:bL R s1.ro F) (h:lQ E c Q s) (mE:At E s1 R w β s a w') (hQ:∀ e s' a' w',Q e s'→At E s1 R w β s' a' w'→Φ e a' w'):c.wpIn F 0 E.P Φ a w':=by
 obtain ⟨R',β',hx,hr,lf,bH⟩:=mE
 refine wpIn_mono (h R' w' β' a F hr (by rw [bH]; exact hf.mono lf.ext)) ?_
 rintro e a2 w2 ⟨s2,R2,β2,⟨hq,Iw⟩,Cc,JV,Hz⟩
 exact hQ e s2 a2 w2 hq ⟨R2,β2,hx.trans Iw,Cc,lf.trans JV,Hz.trans bH⟩
theorem kM.at (hf:bL R s1.ro F):∀ (k:List Bool) (c:Code) {Q:Exit→St→Prop} {s:St} {a:Act} {w':World} {Φ:Exit→Act→World→Prop},kM E k c Q s→At E s1 R w β s a w'→(∀ e s' a' w',Q e s'→At E s1 R w β s' a' w'→Φ e a' w')→F8 F E.P k c Φ a w'
 | [],c,Q,s,a,w',Φ,h,mE,hQ=>lQ.at hf h mE hQ
 | true :: k,c,Q,s,a,w',Φ,h,mE,hQ=>by
  cases c with
  | seq x y=>exact kM.at hf k y h mE hQ
  | _=>exact h.elim
 | false :: k,c,Q,s,a,w',Φ,h,mE,hQ=>by
  cases c with
  | seq x y=>
   refine kM.at hf k x (Q:=tV (lQ E y Q) Q) h mE fun e s' a' w' hq qx=>?_
   cases e with
   | normal=>exact lQ.at hf hq qx hQ
   | _=>exact hQ _ s' a' w' hq qx
  | _=>exact h.elim
theorem pX.at (hf:bL R s1.ro F):∀ (k:List Bool) (c:Code) {Q:Exit→St→Prop} {s:St} {a:Act} {w':World} {Φ:Exit→Act→World→Prop},pX E k c Q s→At E s1 R w β s a w' →
  (∀ s' a' w',Q .normal s'→At E s1 R w β s' a' w'→F8 F E.P k c Φ a' w')→(∀ e s' a' w',e≠.normal→Q e s'→At E s1 R w β s' a' w'→Φ e a' w')→c.wpIn F 0 E.P Φ a w'
 | [],c,Q,s,a,w',Φ,h,mE,hS,hQ=>hS s a w' h mE
 | true :: k,c,Q,s,a,w',Φ,h,mE,hS,hQ=>by
  cases c with
  | seq x y=>
   refine wpIn_seq (lQ.at hf (show lQ E x (tV (pX E k y Q) Q) s from h) mE fun e s' a' w' hq qx=>?_)
   cases e with
   | normal=>exact pX.at hf k y hq qx hS hQ
   | exit i=>exact hQ _ s' a' w' (by simp) hq qx
   | ret=>exact hQ _ s' a' w' (by simp) hq qx
   | goto i=>exact hQ _ s' a' w' (by simp) hq qx
   | panic i=>exact hQ _ s' a' w' (by simp) hq qx
   | outgrown=>exact hQ _ s' a' w' (by simp) hq qx
  | _=>exact h.elim
 | false :: k,c,Q,s,a,w',Φ,h,mE,hS,hQ=>by
  cases c with
  | seq x y=>
   refine wpIn_seq (pX.at hf k x (Q:=Q) h mE hS fun e s' a' w' cm hq qx=>?_)
   cases e with
   | normal=>exact absurd rfl cm
   | exit i=>exact hQ _ s' a' w' cm hq qx
   | ret=>exact hQ _ s' a' w' cm hq qx
   | goto i=>exact hQ _ s' a' w' cm hq qx
   | panic i=>exact hQ _ s' a' w' cm hq qx
   | outgrown=>exact hQ _ s' a' w' cm hq qx
  | _=>exact h.elim
end rot
theorem fS.NA {E:Env} {b:Code} {s s1:St} {gh:List (Loc × Nat × TypeId)} {head:cD} {outs:List (XK × cD)} {pre:St→Option (head.ps.T ⊕ JT outs)} {rd:head.ps.T→Option (head.ps.T ⊕ JT outs)} {N:Nat} {k:List Bool} {r0:head.ps.T ⊕ JT outs} {o:JT outs} {Q:Exit→St→Prop}
  (hg:Am.gZ gh s=some s1) (h0:pre s1=some r0)
  (hp:∀ s2 r,pre s2=some r→pX E k b (fun e s'=>ui s1 head outs e s'=some r) s2)
  (hr:∀ v r,rd v=some r→kM E k b (fun e s'=>zQ pre (ui s1 head outs) e s'=some r) (head.st s1 v))
  (hl:Sum.elim (fun v=>aN rd N v) (fun x=>some x) r0=some o) (hQ:∀ (t:cD) (v:t.ps.T) (e:Exit),(∀ (α:Type) (K:Exit→St→α),MP s1 outs o K=K e (t.st s1 v))→Q e (t.st s1 v)∧aU s (t.st s1 v)) :
  lQ E (.loop b) Q s:=fun R0 w β a F W2 MJ=>by
 obtain ⟨R,k1,k2,k3,_⟩:=kA W2 hg
 have hf:bL R s1.ro F:=by rw [k3]; exact MJ.mono k2.ext
 refine mW (fun n a' w'=>∃ s2 r,pre s2=some r∧Sum.elim (fun v=>aN rd n v) (fun x=>some x) r=some o∧At E s1 R w β s2 a' w') ?_ ⟨s1,r0,h0,hl,R,β,aU.refl s1,k1,Step.refl _ _ _ _,rfl⟩
 rintro n a' w' ⟨s2,r,WI,YV,mE⟩
 -- a way out
 have out:∀ {e:Exit} {s3:St} {a3:Act} {w3:World} {r:head.ps.T ⊕ JT outs} {n:Nat},e≠.normal→ui s1 head outs e s3=some r→Sum.elim (fun v=>aN rd n v) (fun x=>some x) r=some o→At E s1 R w β s3 a3 w3→Wy E R0 w β s (fun e s'=>Q e s'∧aU s s') e a3 w3:=fun {e s3 a3 w3 r n} cm hK YV mE=>by
  obtain ⟨R3,β3,hx3,WC,S8,aaw⟩:=mE
  have key:∀ {u:JT outs},lh s1 outs e s3=some u→r=.inr u→Wy E R0 w β s (fun e s'=>Q e s'∧aU s s') e a3 w3:=fun {u} hu hru=>by
   subst hru
   obtain rfl:=Option.some.inj YV
   obtain ⟨t,v',q1,q2⟩:=rX hu
   obtain ⟨j1,j2⟩:=cD.BF hx3 k1 WC S8 q1
   exact ⟨t.st s1 v',_,_,hQ t v' _ q2,j1,k2.trans j2,k3⟩
  cases e with
  | normal=>exact absurd rfl cm
  | exit i=>obtain ⟨u,q1,q2⟩:=bind_some (show ((lh s1 outs (.exit i) s3).bind fun o=>some (.inr o))=some r from hK); exact key q1 (Option.some.inj q2).symm
  | ret=>obtain ⟨u,q1,q2⟩:=bind_some (show ((lh s1 outs .ret s3).bind fun o=>some (.inr o))=some r from hK); exact key q1 (Option.some.inj q2).symm
  | goto i=>obtain ⟨u,q1,q2⟩:=bind_some (show ((lh s1 outs (.goto i) s3).bind fun o=>some (.inr o))=some r from hK); exact key q1 (Option.some.inj q2).symm
  | panic i=>obtain ⟨u,q1,q2⟩:=bind_some (show ((lh s1 outs (.panic i) s3).bind fun o=>some (.inr o))=some r from hK); exact key q1 (Option.some.inj q2).symm
  | outgrown=>obtain ⟨u,q1,q2⟩:=bind_some (show ((lh s1 outs .outgrown s3).bind fun o=>some (.inr o))=some r from hK); exact key q1 (Option.some.inj q2).symm
 refine pX.at hf k b (hp s2 r WI) mE (fun s3 a3 w3 hK S9=>?_) (fun e s3 a3 w3 cm hK S9=>?_)
 ·obtain ⟨v,q1,q2⟩:=bind_some (show ((head.dec s1 s3).bind fun v=>some (.inl v))=some r from hK)
  obtain rfl:=Option.some.inj q2
  have BD:aN rd n v=some o:=YV
  cases n with
  | zero=>cases BD
  | succ n=>
   obtain ⟨r',h1,h2⟩:=bind_some (show ((rd v).bind fun o=>Sum.elim (fun v'=>aN rd n v') (fun x=>some x) o)=some o from BD)
   obtain ⟨R3,β3,hx3,WC,S8,aaw⟩:=S9
   obtain ⟨j1,j2⟩:=cD.BF hx3 k1 WC S8 q1
   refine kM.at hf k b (hr v r' h1) ⟨_,_,head.qw s1 v,j1,j2,rfl⟩ fun e s4 a4 w4 VB HG=>?_
   cases e with
   | normal=>exact ⟨n,Nat.lt_succ_self n,s4,r',VB,h2,HG⟩
   | exit i=>exact out (by simp) VB h2 HG
   | ret=>exact out (by simp) VB h2 HG
   | goto i=>exact out (by simp) VB h2 HG
   | panic i=>exact out (by simp) VB h2 HG
   | outgrown=>exact out (by simp) VB h2 HG
 ·have:=out cm hK YV S9
  cases e with
  | normal=>exact absurd rfl cm
  | _=>exact this
theorem qy {C:gv} {ih:Vz} (hs:tg C ih) {X:Type} {f:FuncId} {K:Exit→St→Option X}:∀ (k:List Bool) (q:Nat) (c:Code) (s:St) (x:X),bu (C.D.dt f) c=true→JS ih BH f K k q c s=some x→pX C.D.toEnv k c (fun e s'=>K e s'=some x) s
 | [],_,_,_,_,_,h=>h
 | true :: k,q,c,s,x,hd,h=>by
  cases c with
  | seq a b=>
   rw [bu,Bool.and_eq_true] at hd
   refine (hs f _ a X BH qv _ s x hd.1 h).of fun e s' hq hx=>?_
   cases e with
   | normal=>exact ⟨qy hs k (2 * q+1) b s' x hd.2 hq,hx⟩
   | _=>exact ⟨hq,hx⟩
  | _=>cases h
 | false :: k,q,c,s,x,hd,h=>by
  cases c with
  | seq a b=>
   rw [bu,Bool.and_eq_true] at hd
   exact qy hs k (2 * q) a s x hd.1 h
  | _=>cases h
theorem kM.mono {E:Env}:∀ (k:List Bool) (c:Code) {Q Q':Exit→St→Prop} {s:St},(∀ e s',Q e s'→Q' e s')→kM E k c Q s→kM E k c Q' s
 | [],c,Q,Q',s,hQ,h=>fS.mono h fun e s' hh=>⟨hQ e s' hh.1,hh.2⟩
 | true :: k,c,Q,Q',s,hQ,h=>by
  cases c with
  | seq x y=>exact kM.mono k y hQ h
  | _=>exact h.elim
 | false :: k,c,Q,Q',s,hQ,h=>by
  cases c with
  | seq x y=>
   refine kM.mono k x (Q:=tV (lQ E y Q) Q) (Q':=tV (lQ E y Q') Q') (fun e s' hq=>?_) h
   cases e with
   | normal=>exact fS.mono hq fun e s' hh=>⟨hQ e s' hh.1,hh.2⟩
   | _=>exact hQ _ s' hq
  | _=>exact h.elim
theorem qz {C:gv} {ih:Vz} (hs:tg C ih) {X:Type} {f:FuncId}:∀ (k:List Bool) (q:Nat) (c:Code) (K:Exit→St→Option X) (s:St) (x:X),bu (C.D.dt f) c=true→Nz ih BH f k q c K s=some x→kM C.D.toEnv k c (fun e s'=>K e s'=some x) s
 | [],_,c,K,s,x,hd,h=>hs f _ c X BH qv K s x hd h
 | true :: k,q,c,K,s,x,hd,h=>by
  cases c with
  | seq a b=>
   rw [bu,Bool.and_eq_true] at hd
   exact qz hs k (2 * q+1) b K s x hd.2 h
  | _=>cases h
 | false :: k,q,c,K,s,x,hd,h=>by
  cases c with
  | seq a b=>
   rw [bu,Bool.and_eq_true] at hd
   refine kM.mono k a (fun e s' hq=>?_) (qz hs k (2 * q) a _ s x hd.1 h)
   cases e with
   | normal=>exact hs f _ b X BH qv K s' x hd.2 hq
   | _=>exact hq
  | _=>cases h
theorem CP {C:gv} (Bc:∀ g e,C.yy g=some e→ap C.D.toEnv g e) (n:Nat):tg C (ev C n):=by
 induction n using Nat.strongRecOn with
 | _ n ihn=>
 cases n with
 | zero=>intro f p c X fg _ K s x _ h; cases h
 | succ n=>
  have hs:=ihn n (Nat.lt_succ_self n)
  have plain:∀ (f:FuncId) (p:Nat) (c:Code) (X:Type) (fg:Option X→Option X→Option X),uj fg→∀ (K:Exit→St→Option X) (s:St) (x:X),((∃ b,c=.loop b)→C.oD f p=none) →
    bu (C.D.dt f) c=true→xm C (ev C n) f p c X fg K s=some x→lQ C.D.toEnv c (fun e s'=>K e s'=some x) s:=by
   intro f p c X fg hm K s x iz hd h
   have JW:=CN Bc hs hm
   have W3:=EY hs hm
   unfold xm at h
   cases c with
   | skip=>exact fS.skip ⟨h,aU.refl s⟩
   | label l=>exact fS.label ⟨h,aU.refl s⟩
   | exit id=>exact fS.exit ⟨h,aU.refl s⟩
   | ret=>exact fS.ret ⟨h,aU.refl s⟩
   | seq a b=>
    rw [bu,Bool.and_eq_true] at hd
    refine fS.seq ((hs f _ a X fg hm _ s x hd.1 h).of fun e s' hq hx=>?_)
    cases e with
    | normal=>exact (hs f _ b X fg hm _ s' x hd.2 hq).of fun e s2 nU Iw=>⟨nU,hx.trans Iw⟩
    | _=>exact ⟨hq,hx⟩
   | cond co a b=>
    rw [bu,Bool.and_eq_true] at hd
    simp only at h
    split at h
    ·rename_i t hb
     refine fS.cond hb (fun e=>?_) (fun e=>?_)
     ·subst e; exact hs f _ a X fg hm _ s x hd.1 h
     ·subst e; exact hs f _ b X fg hm _ s x hd.2 h
    ·cases h
   | block id c=>
    refine fS.block ((hs f _ c X fg hm _ s x hd h).of fun e s' hq hx=>?_)
    cases e with
    | exit jz=>
     simp only [JN] at hq
     refine ⟨fun e=>?_,fun e=>?_⟩
     ·subst e; rw [qY] at hq; exact ⟨hq,hx⟩
     ·rw [mM e] at hq; exact ⟨hq,hx⟩
    | _=>exact ⟨hq,hx⟩
   | scope c=>
    refine fS.scope ((hs f _ c X fg hm _ s x hd h).of fun e s' hq hx=>?_)
    cases e with
    | goto l=>cases hq
    | _=>exact ⟨hq,hx⟩
   | region id ops dr=>
    cases dr with
    | false=>exact fS.region (f:=f) (zS (xw JW W3 h))
    | true=>
     simp only at h
     rw [bu] at hd
     split at h
     ·rename_i pl hT
      rw [hT] at hd
      exact fS.draw (f:=f) hd (rW (ju JW W3 hm h))
     ·cases h
   | loop b=>
    have Ri:=iz ⟨b,rfl⟩
    refine fS.loop (fun m s'=>m≤n+1∧ev C m f p (.loop b) X fg K s'=some x∧aU s s') ?_ (m:=n+1) ⟨Nat.le_refl _,?_,aU.refl s⟩
    ·rintro m s' ⟨Sa,hr,hx⟩
     cases m with
     | zero=>cases hr
     | succ m=>
      have lH:xo C (ev C m) f p (.loop b) X fg K s'=some x:=hr
      unfold xo at lH
      rw [Ri] at lH
      refine (ihn m (by omega) f _ b X fg hm _ s' x hd lH).of fun e s2 hq Iw=>?_
      cases e with
      | normal=>exact ⟨m,Nat.lt_succ_self m,by omega,hq,hx.trans Iw⟩
      | _=>exact ⟨hq,hx.trans Iw⟩
    ·show xo C (ev C n) f p (.loop b) X fg K s=some x
     unfold xo
     rw [Ri]
     exact h
   | rangeFunc g ps rH bd=>
    simp only at h
    split at h
    ·rename_i bH
     split at h
     ·rename_i hf first cap hg
      refine fS.rangeFunc (4096 * p+f) bH hg ((JW _ _ _ _ _ h).mono fun r G' hq=>?_)
      unfold rfQ
      split at hq
      ·rename_i busy pending fn sl nn pp aa bb dd done SU
       rw [SU]
       simp only
       obtain ⟨h1,h2⟩:=bj hq
       refine ⟨by cases busy <;> cases done <;> simp_all,?_⟩
       have WH:∀ (G:List GO) (m:List Nat),aU s ⟨s.af,s.boxes,G,m,s.ro,s.n⟩:=fun _ _=>⟨⟨[],rfl⟩,⟨[],rfl⟩,rfl⟩
       split at h2
       ·rw [cS] at h2; exact ⟨h2,WH _ _⟩
       ·rw [cS] at h2; exact fS.ret ⟨h2,WH _ _⟩
       ·rw [cS] at h2; exact fS.exit ⟨h2,WH _ _⟩
       ·cases h2
      ·cases hq
     ·cases h
    ·cases h
   | _=>cases h
  intro f p c X fg hm K s x hd h
  change xo C (ev C n) f p c X fg K s=some x at h
  unfold xo at h
  split at h
  ·rename_i hc
   exact plain f p c X fg hm K s x (fun _=>hc) hd h
  ·rename_i ct hct
   split at h
   ·rename_i xx hc
    generalize rU (kL c []) xx=outs at h
    cases I9:JP c with
    | true=>rw [I9] at h; cases h
    | false=>
    rw [I9] at h
    obtain ⟨o,h1,h2⟩:=bind_some (show (xm C (ev C n) f p c (JT outs) BH (lh s outs) s).bind (fun o=>MP s outs o K)=some x from h)
    have hp:=plain f p c (JT outs) BH qv (lh s outs) s o (fun ⟨b,hb⟩=>by subst hb; cases I9) hd h1
    refine fS.aao (s:=s) (Q':=fun e s'=>lh s outs e s'=some o) (fS.mono hp fun e s' hh=>⟨hh.2,hh.1⟩) fun e s' hq=>?_
    obtain ⟨t,v,q1,q2⟩:=rX hq
    exact ⟨t,v,q1,(q2 _ K).symm.trans h2,t.qw s v⟩
   ·rename_i gh CQ xx hc
    split at h
    ·rename_i b
     split at h
     ·rename_i s1 hg
      generalize rU (kL b []) xx=outs at h
      generalize xn (kL b []) CQ=head at h
      unfold Rg at h
      obtain ⟨v0,h0,h⟩:=bind_some h
      obtain ⟨o,hl,h⟩:=bind_some h
      refine fS.W1 hg h0 (fun v r hr=>hs f _ b _ BH qv _ _ r hd hr) hl fun t v e iy=>?_
      exact ⟨(iy _ K).symm.trans h,(nl hg).trans (t.qw s1 v)⟩
     ·cases h
    ·cases h
   ·rename_i k gh CQ xx hc
    split at h
    ·rename_i b
     split at h
     ·rename_i s1 hg
      generalize rU (kL b []) xx=outs at h
      generalize xn (kL b []) CQ=head at h
      unfold W0 at h
      obtain ⟨o,hl,h⟩:=bind_some h
      obtain ⟨r0,h0,hl⟩:=bind_some hl
      refine fS.NA hg h0 (fun s2 r hr=>qy hs k (2 * p) b s2 r hd hr) (fun v r hr=>qz hs k (2 * p) b _ _ r hd hr) hl fun t v e iy=>?_
      exact ⟨(iy _ K).symm.trans h,(nl hg).trans (t.qw s1 v)⟩
     ·cases h
    ·cases h
   ·rename_i gh CQ xx hc
    split at h
    ·rename_i b
     split at h
     ·rename_i s1 hg
      generalize rU (kL b []) xx=outs at h
      generalize xn (kL b []) CQ=head at h
      unfold JR at h
      obtain ⟨v0,h0,h⟩:=bind_some h
      obtain ⟨o,hl,h⟩:=bind_some h
      refine fS.S7 hg h0 (fun k v u hu=>hs f _ b _ BH qv _ _ u hd hu) hl fun t v e iy=>?_
      exact ⟨(iy _ K).symm.trans h,(nl hg).trans (t.qw s1 v)⟩
     ·cases h
    ·cases h
   ·cases h
end Go.Am
namespace Go.Am
open Go
noncomputable def gv.fn (C:gv) (n:Nat) (g:FuncId) (ps:aP) (p:aO) (x:ps.T):Option p.T:=
 CK C (ev C n) BH g (ps.enc x) [] (fun r _=>p.dec r)
theorem gv.bY {C:gv} (Bc:∀ g e,C.yy g=some e→ap C.D.toEnv g e) {n:Nat} {g:FuncId} {ps:aP} {p:aO} (h1:ps.under 0=true) (h2:p.under 0=true) :
  ap C.D.toEnv g ⟨ps,p,C.fn n g ps p⟩:=fun x y h=>by
 refine aW.mono (aW.of (p:=p) (Q:=fun z=>z=y) (ps.dA x h1) h2 ((oH (CP Bc n) qv g _ [] _ y h).mono fun r _ hr=>⟨y,hr,rfl⟩)) ?_
 rintro r ⟨z,rfl,rfl⟩
 rfl
theorem aW.env {E E':Env} {g:FuncId} {args:List AV} {Q:AV→Prop} (hP:E.P=E'.P) (hg:E.b6=E'.b6) (h:aW E g args Q) (B3:E.lo=E'.lo:=by rfl) (NB:E.gx=E'.gx:=by rfl):aW E' g args Q:=by
 have go:∀ {R:ai} {w:World} {x:Nat} {cs:List AV},jG E R w x cs↔jG E' R w x cs:=fun {R w x cs}=>by unfold jG; rw [NB]
 have BF:∀ {R:ai} {w:World} {G:List GO},dq E R w G↔dq E' R w G:=fun {R w G}=>
  ⟨fun h=>⟨h.len,h.obj,h.inj,h.wf,fun g cs hh=>go.1 (h.b6 g cs (by rw [hg]; exact hh)),by rw [← B3]; exact h.lo⟩,fun h=>⟨h.len,h.obj,h.inj,h.wf,fun g cs hh=>go.2 (h.b6 g cs (by rw [← hg]; exact hh)),by rw [B3]; exact h.lo⟩⟩
 intro G
 obtain ⟨h1,h2⟩:=h G
 rw [hP] at h1 h2
 refine ⟨h1,fun R w cs hr hl=>(h2 R w cs (BF.2 hr) hl).mono fun e w' he=>?_⟩
 cases e with
 | returned c=>obtain ⟨r,G',R',k1,k2,k3,k4⟩:=he; exact ⟨r,G',R',k1,k2,BF.1 k3,k4⟩
 | panicked c=>exact he
 | outgrown=>exact he
theorem aW.more {E E':Env} {g:FuncId} {args:List AV} {Q:AV→Prop} (hP:E.P=E'.P) (hg:∀ g cs,E.b6 g=some cs→E'.b6 g=some cs) (h:aW E g args Q) (B3:E.lo=E'.lo:=by rfl) (NB:E.gx=fun _=>false:=by rfl):aW E' g args Q:=by
 intro G
 obtain ⟨h1,h2⟩:=h G
 rw [hP] at h1 h2
 refine ⟨h1,fun R w cs hr hl=>(h2 R w cs ⟨hr.len,hr.obj,hr.inj,hr.wf,fun g cs hh=>⟨(hr.b6 g cs (hg g cs hh)).1,fun hx=>by rw [NB] at hx; cases hx⟩,by rw [B3]; exact hr.lo⟩ hl).mono fun e w' he=>?_⟩
 cases e with
 | returned c=>
  obtain ⟨r,G',R',k1,k2,k3,k4⟩:=he
  exact ⟨r,G',R',k1,k2,⟨k3.len,k3.obj,k3.inj,k3.wf,fun g cs hh=>(hr.b6 g cs hh).mono k4.ext,by rw [← B3]; exact k3.lo⟩,k4⟩
 | panicked c=>exact he
 | outgrown=>exact he
def CR:List (Nat × aZ)→FuncId→Option aZ
 | [],_=>none
 | (a,e) :: l,g=>bif Nat.beq a g then some e else CR l g
theorem bn {E:Env}:∀ {l:List (Nat × aZ)},(∀ a e,(a,e)∈l→ap E a e)→∀ g e,CR l g=some e→ap E g e
 | [],_,g,e,h=>by cases h
 | (a,x) :: l,hl,g,e,h=>by
  unfold CR at h
  cases hb:Nat.beq a g with
  | true=>
   rw [hb] at h
   cases h
   rw [← Nat.eq_of_beq_eq_true hb]
   exact hl a _ (by simp)
  | false=>
   rw [hb] at h
   exact bn (fun a e hm=>hl a e (by simp [hm])) g e h
def Rj:List (Nat × df)→Nat→Option df
 | [],_=>none
 | (a,c) :: l,p=>bif Nat.beq a p then some c else Rj l p
def F9:List (Nat × List (Nat × df))→FuncId→Nat→Option df
 | [],_,_=>none
 | (a,c) :: l,g,p=>bif Nat.beq a g then Rj c p else F9 l g p
def Ga:Option Unit→Option Unit→Option Unit
 | some _,some _=>some ()
 | _,_=>none
theorem EZ:uj Ga:=fun a b x h=>by
 cases a <;> cases b <;> first | (cases h; done) | exact ⟨rfl,rfl⟩
theorem cQ {C:gv} (Bc:∀ g e,C.yy g=some e→ap C.D.toEnv g e) {n:Nat} {g:FuncId} {args:List AV} {p:aO} {ok:p.T→Bool} (h1:aH 0 args=true) (h2:p.under 0=true)
  (h:CK C (ev C n) Ga g args [] (fun r _=>bif p.fits r&&ok (p.bo r) then some () else none)=some ()):aW C.D.toEnv g args (fun r=>∃ y,r=p.enc y∧ok y=true):=
 aW.of (p:=p) (Q:=fun y=>ok y=true) h1 h2 ((oH (CP Bc n) EZ g args [] _ () h).mono fun r _ hr=>by
  obtain ⟨k,_⟩:=bj hr
  rw [Bool.and_eq_true] at k
  exact ⟨p.bo r,by simp [aO.dec,k.1],k.2⟩)
end Go.Am
namespace Go.Am
open Go
def nq (w:World):ai:=⟨fun b _=>b < w.heap.size,[]⟩
mutual
def aO.wf:(p:aO)→p.T→Prop
 | .int k,(n:Int)=>k.min≤n∧n≤k.max
 | .bool,_=>True
 | .str,(s:List UInt8)=>s.length≤maxLen
 | .agg ps,x=>ps.wf x
 | .bh ps,x=>ps.wf x
 | .list _ p,(xs:List p.T)=>xs.length≤maxLen∧∀ x∈xs,p.wf x
 | .own _ _ p,(xs:List p.T)=>xs.length≤maxLen∧∀ x∈xs,p.wf x
 | .bf _ _ p,(x:Nat × List p.T)=>x.2.length≤maxLen∧∀ y∈x.2,p.wf y
 | .mF _,_=>True
 | .two _ _,_=>True
def aP.wf:(ps:aP)→ps.T→Prop
 | .nil,_=>True
 | .cons p .nil,x=>p.wf x
 | .cons p (.cons q ps),x=>p.wf x.1∧(aP.cons q ps).wf x.2
end
def kN:List aO→aP
 | []=>.nil
 | p :: l=>.cons p (kN l)
def HH {β:Type} (g:β→Option (List aO)):List β→Option (List aO)
 | []=>some []
 | x :: l=>match g x,HH g l with
  | some a,some b=>some (a++b)
  | _,_=>none
def rY {β:Type} (off len:β→Nat):Nat→List β→Option Nat
 | o,[]=>some o
 | o,x :: l=>bif Nat.beq (off x) o then rY off len (o+len x) l else none
def isSome (n:Nat):Option Nat→Bool
 | some m=>Nat.beq m n
 | none=>false
def rZ (ag:Bool) (ps:List aO):Option aO:=match ag,ps with
 | true,ps=>some (.agg (kN ps))
 | false,[p]=>some p
 | _,_=>none
def HI (P:Program):Nat→TypeId→Option (List aO)
 | 0,_=>none
 | n+1,t=>match P.underlying t with
  | some .bool=>some [.bool]
  | some (.int k)=>some [.int k]
  | some .string=>some [.str]
  | some (.slice e)=>match HI P n e,P.underlying e with
   | some ps,some u=>match rZ (Go.Am.jA u) ps with
    | some pe=>bif Nat.blt 0 (P.cellsOf e) then some [.list (P.cellsOf e) pe] else none
    | none=>none
   | _,_=>none
  | some (.struct fs)=>bif isSome (P.cellsOf t) (rY Field.offset (fun f=>P.cellsOf f.type) 0 fs.toList) then HH (fun f=>HI P n f.type) fs.toList else none
  | some (.array m e)=>bif isSome (P.cellsOf t) (rY (fun i=>i * P.cellsOf e) (fun _=>P.cellsOf e) 0 (List.range m)) then HH (fun _=>HI P n e) (List.range m) else none
  | _=>none
def aay (a:AV):Prop:=a.aV=true∧a.cells=[a]∧a.closed=true
def qA:List aO→List AV→Prop
 | [],[]=>True
 | p :: ps,a :: lB=>p.fits a=true∧(p.wf (p.bo a)∧aay a)∧qA ps lB
 | _,_=>False
theorem qA.append:∀ {ps qs:List aO} {lB bs:List AV},qA ps lB→qA qs bs→qA (ps++qs) (lB++bs)
 | [],_,[],_,_,h=>h
 | _ :: _,_,_ :: _,_,k,h=>⟨k.1,k.2.1,qA.append k.2.2 h⟩
 | [],_,_ :: _,_,h,_=>h.elim
 | _ :: _,_,[],_,h,_=>h.elim
theorem qA.mk:∀ {ps:List aO} {lB:List AV},qA ps lB→(kN ps).fits lB=true∧(kN ps).wf ((kN ps).bo lB)
 | [],[],_=>⟨rfl,trivial⟩
 | [p],[a],h=>⟨by
   change (p.fits a&&(List.isEmpty ([]:List AV)))=true
   rw [h.1]
   rfl,h.2.1.1⟩
 | p :: q :: ps,a :: lB,h=>by
  obtain ⟨h1,h2⟩:=qA.mk (ps:=q :: ps) h.2.2
  refine ⟨?_,h.2.1.1,h2⟩
  change (p.fits a&&(kN (q :: ps)).fits lB)=true
  rw [h.1,h1]
  rfl
 | [],_ :: _,h=>h.elim
 | _ :: _,[],h=>h.elim
 | [_],_ :: _ :: _,h=>h.2.2.elim
theorem CS {ag:Bool} {ps:List aO} {pe:aO} (h:rZ ag ps=some pe) {lB:List AV} (hf:qA ps lB) :
  ∃ e,(if ag then e=.agg lB else lB=[e])∧pe.fits e=true∧pe.wf (pe.bo e):=by
 unfold rZ at h
 split at h
 ·cases h
  obtain ⟨h1,h2⟩:=hf.mk
  exact ⟨.agg lB,rfl,h1,h2⟩
 ·rename_i p
  cases h
  match lB,hf with
  | [a],hf=>exact ⟨a,rfl,hf.1,hf.2.1.1⟩
  | [],hf=>exact hf.elim
  | _ :: _ :: _,hf=>exact hf.2.2.elim
 ·cases h
theorem Gb:∀ {ps:List aO} {lB:List AV},qA ps lB→∀ a∈lB,a.aV=true∧a.cells=[a]∧a.closed=true
 | [],[],_,a,ha=>by simp at ha
 | _ :: _,b :: lB,hf,a,ha=>by
  rcases List.mem_cons.1 ha with rfl | ha
  ·exact hf.2.1.2
  ·exact Gb hf.2.2 a ha
 | [],_ :: _,h,_,_=>h.elim
 | _ :: _,[],h,_,_=>h.elim
theorem Gc {pe:aO}:∀ {es:List AV},(∀ x∈es,pe.fits x=true∧pe.wf (pe.bo x))→allFit pe.fits es=true∧∀ x∈es.map pe.bo,pe.wf x
 | [],_=>⟨rfl,by simp⟩
 | a :: es,h=>by
  obtain ⟨h1,h2⟩:=Gc (es:=es) fun x hx=>h x (by simp [hx])
  refine ⟨by simp only [allFit,Bool.and_eq_true]; exact ⟨(h a (by simp)).1,h1⟩,fun x hx=>?_⟩
  rcases List.mem_cons.1 hx with rfl | hx
  ·exact (h a (by simp)).2
  ·exact h2 x hx
section read
variable {H:Type} {enc:TypeId × Value→H} {P:Program} {w:World} {R:ai} {base:Nat} {spare:Nat→Bool} {held:Bool}
theorem kO {α β:Type} {f:α→Option β} {x:α} {l:List α} {r:List β} (h:(x :: l).mapM f=some r):∃ y ys,f x=some y∧l.mapM f=some ys∧r=y :: ys:=by
 rw [List.mapM_cons] at h
 cases hx:f x with
 | none=>rw [hx] at h; cases h
 | some y=>
  rw [hx] at h
  cases hl:l.mapM f with
  | none=>rw [hl] at h; cases h
  | some ys=>rw [hl] at h; cases h; exact ⟨y,ys,rfl,rfl,rfl⟩
theorem xy {β:Type} {off len:β→Nat} {g:β→Option (List aO)} {cs:List Value} {f:β→Option (DataW H × List MemPlace)}
  (hf:∀ x ps y,g x=some ps→f x=some y→∃ lB,aM R w lB ((cs.drop (off x)).take (len x))∧qA ps lB∧∀ v∈(cs.drop (off x)).take (len x),v.oneCell'=true) :
  ∀ {L:List β} {o m:Nat} {ps:List aO} {ys:List (DataW H × List MemPlace)},rY off len o L=some m→HH g L=some ps→L.mapM f=some ys →
   o≤m∧∃ lB,aM R w lB ((cs.drop o).take (m - o))∧qA ps lB∧∀ v∈(cs.drop o).take (m - o),v.oneCell'=true
 | [],o,m,ps,ys,ht,hp,_=>by
  simp only [rY] at ht
  simp only [HH] at hp
  cases ht; cases hp
  exact ⟨Nat.le_refl _,[],by simpa using aM.nil,trivial,by simp⟩
 | x :: L,o,m,ps,ys,ht,hp,hm=>by
  unfold rY at ht
  cases hb:Nat.beq (off x) o with
  | false=>rw [hb] at ht; cases ht
  | true=>
   rw [hb] at ht
   have hb:=Nat.eq_of_beq_eq_true hb
   unfold HH at hp
   split at hp
   ·rename_i pa pb h1 h2
    cases hp
    obtain ⟨y,GU,k1,k2,rfl⟩:=kO hm
    obtain ⟨lB,q1,q2,q3⟩:=hf x pa y h1 k1
    obtain ⟨hle,bs,r1,r2,r3⟩:=xy hf (show rY off len (o+len x) L=some m from ht) h2 k2
    have e:(cs.drop o).take (m - o)=(cs.drop (off x)).take (len x)++(cs.drop (o+len x)).take (m - (o+len x)):=by
     rw [hb,show m - o=len x+(m - (o+len x)) by omega,List.take_add,List.drop_drop]
    rw [e]
    refine ⟨by omega,lB++bs,q1.append r1,q2.append r2,fun v hv=>?_⟩
    rcases List.mem_append.1 hv with hv | hv
    ·exact q3 v hv
    ·exact r3 v hv
   ·cases hp
theorem mq {α β:Type} {f:α→Option β}:∀ {l:List α} {r:List β},l.mapM f=some r→∀ (i:Nat) (x:α),l[i]?=some x→∃ y,r[i]?=some y∧f x=some y
 | [],r,_,i,x,hx=>by simp at hx
 | a :: l,r,h,i,x,hx=>by
  obtain ⟨y,ys,h1,h2,rfl⟩:=kO h
  cases i with
  | zero=>simp at hx; subst hx; exact ⟨y,by simp,h1⟩
  | succ i=>obtain ⟨z,h3,h4⟩:=mq h2 i x (by simpa using hx); exact ⟨z,by simpa using h3,h4⟩
theorem mapM_length {α β:Type} {f:α→Option β}:∀ {l:List α} {r:List β},l.mapM f=some r→r.length=l.length
 | [],r,h=>by simp at h; subst h; rfl
 | a :: l,r,h=>by
  obtain ⟨y,ys,h1,h2,rfl⟩:=kO h
  simp [mapM_length h2]
theorem ND {a:Addr} {v:Value} (h:w.cell? a=some v):a.block < w.heap.size:=by
 unfold World.cell? at h
 split at h
 ·rename_i hb; exact bg hb
 ·cases h
theorem zT {e:TypeId} {ps:List aO} {pe:aO} {ag:Bool} {qB:Nat} (hp:∀ (cs:List Value) (y:DataW H × List MemPlace),DataW.trod enc P w base spare held qB e cs=some y→∃ lB,aM (nq w) w lB cs∧qA ps lB∧∀ v∈cs,v.oneCell'=true) (he:rZ ag ps=some pe) {b off len:Nat} {r:List (DataW H × List MemPlace)}
  (h:(List.range len).mapM (fun i=>(w.cells? base ((⟨b,off,none⟩:Addr).add (i * P.cellsOf e)) (P.cellsOf e)).bind (DataW.trod enc P w base spare held qB e))=some r) :
  ∀ (m i:Nat),i+m=len→∃ es,gk (nq w) w b (off+i * P.cellsOf e) (P.cellsOf e) es∧es.length=m∧∀ x∈es,pe.fits x=true∧pe.wf (pe.bo x)
 | 0,i,_=>⟨[],.nil,rfl,by simp⟩
 | m+1,i,hi=>by
  obtain ⟨es,h1,h2,h3⟩:=zT hp he h m (i+1) (by omega)
  obtain ⟨y,_,hy⟩:=mq h i i (by rw [List.getElem?_range (by omega)])
  obtain ⟨cs,hc,hy⟩:=bind_some hy
  obtain ⟨lB,q1,q2,q3⟩:=hp _ _ hy
  obtain ⟨x,hx,f1,f2⟩:=CS he q2
  have lI:w.cells? base ((⟨b,off,none⟩:Addr).add (i * P.cellsOf e)) (P.cellsOf e)=some cs:=hc
  unfold World.cells? at lI
  split at lI
  ·have hlen:=mapM_length lI
   rw [List.length_range] at hlen
   have iz:x.cells=lB∧x.aV=true∧x.closed=true:=by
    have nH:=Gb q2
    cases ag with
    | true=>
     simp only [if_true] at hx
     subst hx
     refine ⟨rfl,rfl,?_⟩
     show ba lB=true
     clear h1 h2 h3 q1 q2 f1 f2
     induction lB with
     | nil=>rfl
     | cons a lB ih=>simp only [ba,Bool.and_eq_true]; exact ⟨(nH a (by simp)).2.2,ih (fun z hz=>nH z (by simp [hz]))⟩
    | false=>
     simp only [Bool.false_eq_true,if_false] at hx
     subst hx
     obtain ⟨k1,k2,k3⟩:=nH x (by simp)
     exact ⟨k2,k1,k3⟩
   have jV:∀ j v,cs[j]?=some v→w.cell? ⟨b,off+i * P.cellsOf e+j,none⟩=some v:=fun j v hv=>by
    have hj:j < P.cellsOf e:=by have:=(List.getElem?_eq_some_iff.1 hv).1; omega
    obtain ⟨v',k1,k2⟩:=mq lI j j (by rw [List.getElem?_range hj])
    rw [hv] at k1
    cases k1
    rw [cA,cA] at k2
    exact k2
   refine ⟨x :: es,.cons ?_ iz.2.1 iz.2.2 ?_ ?_,by simp [h2],fun z hz=>?_⟩
   ·rw [iz.1,q1.length,hlen]
   ·rw [iz.1]
    refine dP.make q1 q3 jV (fun j hj=>?_)
    have MG:j < cs.length:=by rw [← q1.length]; exact hj
    exact ND (jV j cs[j] (List.getElem?_eq_getElem MG))
   ·rw [show off+i * P.cellsOf e+P.cellsOf e=off+(i+1) * P.cellsOf e by rw [Nat.add_mul]; omega]
    exact h1
   ·rcases List.mem_cons.1 hz with rfl | hz
    ·exact ⟨f1,f2⟩
    ·exact h3 z hz
  ·cases lI
theorem r7 (zt:∀ b,spare b=true):∀ (n:Nat) {t:TypeId} {ps:List aO},HI P n t=some ps→∀ {qB:Nat} {cs:List Value} {y:DataW H × List MemPlace},DataW.trod enc P w base spare held qB t cs=some y →
  ∃ lB,aM (nq w) w lB cs∧qA ps lB∧∀ v∈cs,v.oneCell'=true
 | 0,_,_,h,_,_,_,_=>by cases h
 | n+1,t,ps,h,0,_,_,hy=>by cases hy
 | n+1,t,ps,h,qB+1,cs,y,hy=>by
  unfold HI at h
  unfold DataW.trod at hy
  split at h
  ·rename_i hu
   cases h
   rw [hu] at hy
   cases cs with
   | nil=>cases hy
   | cons v l=>
    cases l with
    | cons v2 l=>(cases v <;> first | (cases hy; done) | (rename_i a; cases a <;> cases hy; done) | (rename_i a b; cases a <;> cases hy; done) | (rename_i a b c; cases a <;> first | (cases hy; done) | (cases b <;> first | (cases hy; done) | (cases c <;> cases hy))))
    | nil=>
     cases v with
     | bool b=>exact ⟨[.bool b],.one (.bool b),⟨rfl,⟨trivial,rfl,rfl,rfl⟩,trivial⟩,by simp [Value.oneCell']⟩
     | pointer a=>cases a <;> cases hy
     | slice a b c=>cases a <;> first | (cases hy; done) | (cases b <;> first | (cases hy; done) | (cases c <;> cases hy))
     | map a=>cases a <;> cases hy
     | chan a=>cases a <;> cases hy
     | _=>cases hy
  ·rename_i k hu
   cases h
   rw [hu] at hy
   cases cs with
   | nil=>cases hy
   | cons v l=>
    cases l with
    | cons v2 l=>(cases v <;> first | (cases hy; done) | (rename_i a; cases a <;> cases hy; done) | (rename_i a b; cases a <;> cases hy; done) | (rename_i a b c; cases a <;> first | (cases hy; done) | (cases b <;> first | (cases hy; done) | (cases c <;> cases hy))))
    | nil=>
     cases v with
     | int k' i=>
      have hy:(if k'=k∧(Lit.int k i).wf=true then some (.lit (.int k i),[]) else none)=some y:=hy
      split at hy
      ·rename_i hc
       obtain ⟨rfl,hw⟩:=hc
       exact ⟨[.int k' i],.one (.int k' i),⟨decide_eq_true rfl,⟨by have h:=hw; simp [Lit.wf] at h; exact h,rfl,rfl,rfl⟩,trivial⟩,by simp [Value.oneCell']⟩
      ·cases hy
     | pointer a=>cases a <;> cases hy
     | slice a b c=>cases a <;> first | (cases hy; done) | (cases b <;> first | (cases hy; done) | (cases c <;> cases hy))
     | map a=>cases a <;> cases hy
     | chan a=>cases a <;> cases hy
     | _=>cases hy
  ·rename_i hu
   cases h
   rw [hu] at hy
   cases cs with
   | nil=>cases hy
   | cons v l=>
    cases l with
    | cons v2 l=>(cases v <;> first | (cases hy; done) | (rename_i a; cases a <;> cases hy; done) | (rename_i a b; cases a <;> cases hy; done) | (rename_i a b c; cases a <;> first | (cases hy; done) | (cases b <;> first | (cases hy; done) | (cases c <;> cases hy))))
    | nil=>
     cases v with
     | string s=>
      have hy:(if s.size≤maxLen then some (.lit (.string s.data.toList),[]) else none)=some y:=hy
      split at hy
      ·rename_i hc
       exact ⟨[.str s.data.toList],.one (.str s.data.toList),⟨rfl,⟨by simpa [aO.wf,aO.bo,AV.RY] using hc,rfl,rfl,rfl⟩,trivial⟩,by simp [Value.oneCell']⟩
      ·cases hy
     | pointer a=>cases a <;> cases hy
     | slice a b c=>cases a <;> first | (cases hy; done) | (cases b <;> first | (cases hy; done) | (cases c <;> cases hy))
     | map a=>cases a <;> cases hy
     | chan a=>cases a <;> cases hy
     | _=>cases hy
  ·rename_i e hu
   rw [hu] at hy
   split at h
   ·rename_i WQ u h1 h2
    split at h
    ·rename_i pe h3
     obtain ⟨hz,h⟩:=bj h
     cases h
     have hz:=Nat.le_of_ble_eq_true hz
     cases cs with
     | nil=>cases hy
     | cons v l=>
      cases l with
      | cons v2 l=>(cases v <;> first | (cases hy; done) | (rename_i a; cases a <;> cases hy; done) | (rename_i a b; cases a <;> cases hy; done) | (rename_i a b c; cases a <;> first | (cases hy; done) | (cases b <;> first | (cases hy; done) | (cases c <;> cases hy))))
      | nil=>
       cases v with
       | slice a len cap=>
        cases a with
        | none=>
         have hz:len=0∧cap=0:=by
          cases len with
          | zero=>cases cap with
           | zero=>exact ⟨rfl,rfl⟩
           | succ _=>cases hy
          | succ _=>cases hy
         obtain ⟨rfl,rfl⟩:=hz
         exact ⟨[.list .jP (P.cellsOf e) []],.one .iR,⟨by simp [aO.fits,allFit],⟨⟨Nat.zero_le _,fun x hx=>by change x∈([]:List pe.T) at hx; cases hx⟩,rfl,rfl,rfl⟩,trivial⟩,by simp [Value.oneCell']⟩
        | some a=>
         have hy:(if base≤a.block∧len≤cap∧cap≤maxLen then
          ((List.range len).mapM (fun i=>(w.cells? base (a.add (i * P.cellsOf e)) (P.cellsOf e)).bind (DataW.trod enc P w base spare held qB e))).bind fun Gd=>
           (if spare a.block then (List.range (cap - len)).mapM (fun j=>(w.cells? base (a.add ((len+j) * P.cellsOf e)) (P.cellsOf e)).bind (DataW.trod enc P w base spare held qB e)) else some []).map fun rest=>
            (DataW.slice (Gd.map (·.1)) (rest.map (·.1)),MemPlace.row a ((Gd.length+rest.length) * P.cellsOf e)++(Gd++rest).flatMap (·.2))
          else none)=some y:=hy
         split at hy
         ·rename_i hc
          obtain ⟨Gd,k1,hy⟩:=bind_some hy
          rw [if_pos (zt _)] at hy
          by_cases gX:cap=0
          ·subst gX
           have vN:len=0:=Nat.le_zero.1 hc.2.1
           subst vN
           exact ⟨[.list .jP (P.cellsOf e) []],.one .mL,⟨by simp [aO.fits,allFit],⟨⟨Nat.zero_le _,fun x hx=>by change x∈([]:List pe.T) at hx; cases hx⟩,rfl,rfl,rfl⟩,trivial⟩,by simp [Value.oneCell']⟩
          ·have JX:a.spot=none:=by
            have Jy:∃ y,(w.cells? base (a.add (0 * P.cellsOf e)) (P.cellsOf e)).bind (DataW.trod enc P w base spare held qB e)=some y:=by
             by_cases vN:len=0
             ·subst vN
              cases hr:(List.range (cap - 0)).mapM (fun j=>(w.cells? base (a.add ((0+j) * P.cellsOf e)) (P.cellsOf e)).bind (DataW.trod enc P w base spare held qB e)) with
              | none=>rw [hr] at hy; cases hy
              | some r=>
               obtain ⟨z,_,hz⟩:=mq hr 0 0 (by rw [List.getElem?_range (by omega)])
               exact ⟨z,hz⟩
             ·obtain ⟨z,_,hz⟩:=mq k1 0 0 (by rw [List.getElem?_range (by omega)])
              exact ⟨z,hz⟩
            obtain ⟨z,hz'⟩:=Jy
            obtain ⟨cs,oV,_⟩:=bind_some hz'
            unfold World.cells? at oV
            split at oV
            ·obtain ⟨v,_,hv⟩:=mq oV 0 0 (by rw [List.getElem?_range (by omega)])
             rw [Nat.zero_mul] at hv
             unfold World.cell? at hv
             split at hv
             ·split at hv
              ·cases hv
              ·rename_i hs
               simpa [Addr.add] using hs
             ·cases hv
            ·cases oV
           obtain ⟨b,off,spot⟩:=a
           have JX:spot=none:=JX
           subst JX
           obtain ⟨es,q1,q2,q3⟩:=zT (fun cs y hy=>r7 zt n h1 hy) h3 k1 len 0 (by omega)
           rw [Nat.zero_mul,Nat.add_zero] at q1
           obtain ⟨f1,f2⟩:=Gc q3
           refine ⟨[.list .jP (P.cellsOf e) es],.one (.list q1 q2.symm hc.2.1 trivial),⟨?_,⟨⟨?_,f2⟩,rfl,rfl,rfl⟩,trivial⟩,by simp [Value.oneCell']⟩
           ·simp only [aO.fits,Bool.and_eq_true,Bool.or_eq_true]
            exact ⟨.inl (Nat.beq_refl _),f1⟩
           ·have:es.length≤maxLen:=by rw [q2]; omega
            show (es.map pe.bo).length≤maxLen
            rw [List.length_map]
            exact this
         ·cases hy
       | pointer a=>cases a <;> cases hy
       | map a=>cases a <;> cases hy
       | chan a=>cases a <;> cases hy
       | _=>cases hy
    ·cases h
   ·cases h
  ·rename_i fs hu
   rw [hu] at hy
   have hy:(if cs.length=P.cellsOf t then (fs.toList.mapM fun f=>DataW.trod enc P w base spare held qB f.type ((cs.drop f.offset).take (P.cellsOf f.type))).map fun xs=>(.agg (xs.map (·.1)),xs.flatMap (·.2)) else none)=some y:=hy
   split at hy
   ·rename_i hl
    obtain ⟨h1,h2⟩:=bj h
    cases hm:fs.toList.mapM fun f=>DataW.trod enc P w base spare held qB f.type ((cs.drop f.offset).take (P.cellsOf f.type)) with
    | none=>rw [hm] at hy; cases hy
    | some ys=>
     cases ht:rY Field.offset (fun f=>P.cellsOf f.type) 0 fs.toList with
     | none=>rw [ht] at h1; cases h1
     | some m=>
      rw [ht] at h1
      have h1:=Nat.eq_of_beq_eq_true (show Nat.beq m (P.cellsOf t)=true from h1)
      obtain ⟨_,lB,q1,q2,q3⟩:=xy (R:=nq w) (w:=w) (off:=Field.offset) (len:=fun f=>P.cellsOf f.type) (cs:=cs) (fun x ps y hx hy'=>r7 zt n hx hy') ht h2 hm
      rw [h1,← hl] at q1 q3
      simp only [List.drop_zero,Nat.sub_zero,List.take_length] at q1 q3
      exact ⟨lB,q1,q2,q3⟩
   ·cases hy
  ·rename_i m e hu
   rw [hu] at hy
   have hy:(if cs.length=P.cellsOf t then ((List.range m).mapM fun i=>DataW.trod enc P w base spare held qB e ((cs.drop (i * P.cellsOf e)).take (P.cellsOf e))).map fun xs=>(.agg (xs.map (·.1)),xs.flatMap (·.2)) else none)=some y:=hy
   split at hy
   ·rename_i hl
    obtain ⟨h1,h2⟩:=bj h
    cases hm:(List.range m).mapM fun i=>DataW.trod enc P w base spare held qB e ((cs.drop (i * P.cellsOf e)).take (P.cellsOf e)) with
    | none=>rw [hm] at hy; cases hy
    | some ys=>
     cases ht:rY (fun i=>i * P.cellsOf e) (fun _=>P.cellsOf e) 0 (List.range m) with
     | none=>rw [ht] at h1; cases h1
     | some k=>
      rw [ht] at h1
      have h1:=Nat.eq_of_beq_eq_true (show Nat.beq k (P.cellsOf t)=true from h1)
      obtain ⟨_,lB,q1,q2,q3⟩:=xy (R:=nq w) (w:=w) (off:=fun i=>i * P.cellsOf e) (len:=fun _=>P.cellsOf e) (cs:=cs) (fun x ps y hx hy'=>r7 zt n hx hy') ht h2 hm
      rw [h1,← hl] at q1 q3
      simp only [List.drop_zero,Nat.sub_zero,List.take_length] at q1 q3
      exact ⟨lB,q1,q2,q3⟩
   ·cases hy
  ·cases h
def Ta (P:Program) (n:Nat) (t:TypeId):Option aO:=match P.underlying t with
 | some u=>match HI P n t with
  | some ps=>rZ (Go.Am.jA u) ps
  | none=>none
 | none=>none
theorem NE (zt:∀ b,spare b=true) {n:Nat} {t:TypeId} {p:aO} (hp:Ta P n t=some p) {v:Value} {d:DataW H} {pl:List MemPlace} {r:Reach} {base':Nat} (ht:DataW.Trod enc P w base spare held t v d pl) (dE:Value.okWide P w r base' t v) :
  ∃ x:p.T,Rel (nq w) w (p.enc x) v∧p.wf x:=by
 obtain ⟨qB,ht⟩:=ht
 have fin:∀ {a:AV},p.fits a=true→p.wf (p.bo a)→Rel (nq w) w a v→∃ x:p.T,Rel (nq w) w (p.enc x) v∧p.wf x:=fun {a} h1 h2 h3=>⟨p.bo a,(p.cL h1).gD _ _ _ h3,h2⟩
 unfold Ta at hp
 split at hp
 ·rename_i u hu
  split at hp
  ·rename_i ps h1
   obtain ⟨lB,q1,q2,q3⟩:=r7 zt n h1 ht
   obtain ⟨x,hx,f1,f2⟩:=CS hp q2
   cases Av:Go.Am.jA u with
   | true=>
    rw [Av] at hx
    simp only [if_true] at hx
    subst hx
    have:∃ cs,v=.agg cs:=by
     unfold Value.okWide at dE
     rw [hu] at dE
     cases u <;> first | (cases Av; done) | (obtain ⟨cs,h,_⟩:=dE; exact ⟨cs,h⟩)
    obtain ⟨⟨cs⟩,rfl⟩:=this
    exact fin f1 f2 (.agg q1 q3)
   | false=>
    rw [Av] at hx
    simp only [Bool.false_eq_true,if_false] at hx
    subst hx
    have hv:v.cells.toList=[v]:=by
     cases v with
     | agg cs=>
      exfalso
      unfold Value.okWide at dE
      rw [hu] at dE
      cases u <;> first | (cases Av; done) | (simp [Cell.okWide,Cell.ok,hu] at dE)
     | _=>rfl
    rw [hv] at q1
    cases q1 with
    | cons q1 _=>exact fin f1 f2 q1
  ·cases hp
 ·cases hp
def CT (P:Program) (n:Nat):List TypeId→Option (List aO)
 | []=>some []
 | t :: l=>match Ta P n t,CT P n l with
  | some p,some r=>some (p :: r)
  | _,_=>none
theorem CU (zt:∀ b,spare b=true) {n:Nat} {r:Reach} {base':Nat}:∀ {ts:List TypeId} {ps:List aO} {vs:List Value} {ds:List (DataW H)} {pl:List MemPlace},CT P n ts=some ps→DataW.TrodAll enc P w base spare held ts vs ds pl →
  (∀ (j:Nat) t v,ts[j]?=some t→vs[j]?=some v→Value.okWide P w r base' t v)→∃ x:(kN ps).T,aM (nq w) w ((kN ps).enc x) vs∧(kN ps).wf x
 | [],ps,vs,ds,pl,hp,ht,_=>by
  simp only [CT] at hp
  cases hp
  cases vs with
  | nil=>exact ⟨(),.nil,trivial⟩
  | cons _ _=>cases ds <;> exact ht.elim
 | t :: ts,ps,vs,ds,pl,hp,ht,dE=>by
  unfold CT at hp
  split at hp
  ·rename_i p r h1 h2
   cases hp
   cases vs with
   | nil=>cases ds <;> exact ht.elim
   | cons v vs=>
    cases ds with
    | nil=>exact ht.elim
    | cons d ds=>
     obtain ⟨p1,p2,k1,k2,_⟩:=ht
     obtain ⟨x,q1,q2⟩:=NE zt h1 k1 (dE 0 t v rfl rfl)
     obtain ⟨y,q3,q4⟩:=CU zt h2 k2 (fun j t v hj hv=>dE (j+1) t v (by simpa using hj) (by simpa using hv))
     cases r with
     | nil=>
      cases q3
      exact ⟨x,.one q1,q2⟩
     | cons p' r=>exact ⟨(x,y),.cons q1 q3,q2,q4⟩
  ·cases hp
end read
end Go.Am
namespace Go.Am
open Go Go.RowKit Go.WideShapes Go.ChangeShapes
section
variable {H:Type} {enc:TypeId × Value→H} {P:Program}
theorem E0 {f:Func} {s:ChangeSpec} {apart fresh handsOn again:Bool} {W W':World} {args:Array Value} {v:Value} {ds gs:List (DataW H)} {before pa pv:List MemPlace}
  (hW:DataW.Whole enc P f.params.toList s.vars apart W args.toList ds gs before)
  (Ev:∀ (b:Nat) (sp:Nat→Bool) (hd:Bool),DataW.TrodAll enc P W' b sp hd f.resultTypes.toList (v.resultList f.resultTypes.size) (s.fn H (ds++gs)).results [])
  (pN:∀ sp:Nat→Bool,(∀ p∈before,sp p.block=true)→DataW.TrodAll enc P W' 0 sp true f.params.toList args.toList (s.fn H (ds++gs)).args pa)
  (CV:∀ sp:Nat→Bool,(∀ p∈before,sp p.block=true)→DataW.TrodVars enc P W' sp s.vars (s.fn H (ds++gs)).vars pv)
  (Iq:before=pa++pv) (hb:Below W.heap.size W W')
  (dE:∀ (j:Nat) (t:TypeId) (r:Value),f.resultTypes[j]?=some t→(v.resultList f.resultTypes.size)[j]?=some r→Value.okWide P W' .any 0 t r) :
  s.post enc P f apart fresh handsOn again W args v W':=by
 have cg:∀ p∈before,p.block < W.heap.size:=fun p hp=>hW.lt p hp
 have hold:∀ p∈before,(fun b=>decide (b < W.heap.size)) p.block=true:=fun p hp=>by simpa using cg p hp
 refine ⟨ds,gs,before,[],pa,pv,hW,Ev _ _ _,pN _ hold,CV _ hold,World.keptBut_mono (fun p hp=>⟨hp,?_⟩) (hb.frame (·∈before)),fun _=>?_⟩
 ·rw [Iq,List.mem_append] at hp
  exact Or.inr hp
 ·obtain ⟨_,_,_,_,_,hz,hn⟩:=hW
  refine ⟨dE,_,_,([]++pa)++pv,⟨[]++pa,pv,trodAll_append (pN _ (fun _ _=>rfl)) (Ev _ _ _),CV _ (fun _ _=>rfl),rfl,?_,?_⟩,?_⟩
  ·intro b off hp
   have zr:MemPlace.cell b off∈before:=by rw [Iq]; simpa using hp
   rw [hb.frozen (cg _ zr)]
   exact hz b off zr
  ·intro ha
   have:=hn ha
   rw [Iq] at this
   simpa using this
  ·intro p hp _
   rw [Iq]
   simpa using hp
theorem pY (hl:laidOutB P=true) {W W':World} (hb:Below W.heap.size W W') {sp:Nat→Bool}:∀ {ts:List TypeId} {vs:List Value} {ds:List (DataW H)} {pl:List MemPlace},
  (∀ t∈ts,P.readableRec t=true∧t < P.types.size)→DataW.TrodAll enc P W 0 (fun _=>true) true ts vs ds pl→(∀ p∈pl,p.block < W.heap.size)→(∀ p∈pl,sp p.block=true) →
  DataW.TrodAll enc P W' 0 sp true ts vs ds pl
 | [],[],[],_,_,h,_,_=>h
 | t :: ts,v :: vs,d :: ds,pl,hr,h,cg,zt=>by
  obtain ⟨p,q,h1,h2,rfl⟩:=h
  refine ⟨p,q,?_,pY hl hb (fun t ht=>hr t (by simp [ht])) h2 (fun x hx=>cg x (by simp [hx])) (fun x hx=>zt x (by simp [hx])),rfl⟩
  exact WideElems.Trod_stays hl (hr t (by simp)).1 (hr t (by simp)).2 h1 (fun x hx=>hb.same (cg x (by simp [hx]))) (fun x hx=>zt x (by simp [hx]))
 | [],[],_ :: _,_,_,h,_,_=>h.elim
 | [],_ :: _,_,_,_,h,_,_=>h.elim
 | _ :: _,[],_,_,_,h,_,_=>h.elim
 | _ :: _,_ :: _,[],_,_,h,_,_=>h.elim
theorem HJ {E:Env} {f:FuncId} {fn:Func} {s:ChangeSpec} {ps:List aO} {apart fresh handsOn again:Bool} {W:World} {base:Nat} {args:Array Value} {ds gs:List (DataW H)} {before:List MemPlace} {n tb:Nat}
  (aaA:∀ x,(kN ps).wf x→aW E f ((kN ps).enc x) (fun r=>r=.bool true)) (W4:CT E.P n fn.params.toList=some ps)
  (CW:∀ (j:Nat) t v,fn.params[j]?=some t→args[j]?=some v→Value.okWide E.P W .any base t v)
  (hW:DataW.Whole enc E.P fn.params.toList s.vars apart W args.toList ds gs before) (W5:∀ g cs,E.b6 g=some cs→dP (nq W) W g 0 cs)
  (CV:s.vars=[]) (zt:∀ ds:List (DataW H),ds.length=fn.params.toList.length→s.fn H ds={ results:=[.lit (.bool true)],args:=ds })
  (Ev:fn.resultTypes=#[tb]) (hub:E.P.underlying tb=some .bool) (hl:laidOutB E.P=true) (hr:∀ t∈fn.params.toList,E.P.readableRec t=true∧t < E.P.types.size) (B3:E.lo=0:=by rfl) (NB:∀ g cs,E.b6 g=some cs→E.gx g=true→g < W.heap.size∧W.cell? ⟨g,cs.length,none⟩=none:=by intro _ _ _ h; exact Bool.noConfusion (show false=true from h)) :
  Calls E.P f args W fun e W'=>∃ v,e=.returned v∧s.post enc E.P fn apart fresh handsOn again W args v W':=by
 have hW0:=hW
 obtain ⟨p,q,hA,hV,rfl,YU,YW⟩:=hW
 obtain ⟨rfl,rfl⟩:gs=[]∧q=[]:=by
  rw [CV] at hV
  cases gs with
  | nil=>exact ⟨rfl,hV⟩
  | cons g r=>exact absurd hV (by intro h; cases h)
 obtain ⟨x,hx,VC⟩:=CU (fun _=>rfl) (n:=n) W4 hA (r:=.any) (base':=base) (fun j t v hj hv=>CW j t v (by simpa using hj) (by simpa using hv))
 have hlen:ds.length=fn.params.toList.length:=by
  clear CW YU YW hW0 hx VC zt W4 hr
  revert hA
  generalize fn.params.toList=ts
  generalize args.toList=vs
  generalize p=pl
  clear p
  intro hA
  induction ts generalizing vs ds pl with
  | nil=>cases vs <;> cases ds <;> first | rfl | exact hA.elim
  | cons t ts ih=>
   cases vs with
   | nil=>cases ds <;> exact hA.elim
   | cons v vs=>
    cases ds with
    | nil=>exact hA.elim
    | cons d ds=>
     obtain ⟨p,q,_,h2,_⟩:=hA
     simp [ih vs q h2]
 have hG:dq E (nq W) W []:=⟨rfl,fun id go ro h=>by simp [nth] at h,fun i j ri rj b h=>by simp [nq,nth] at h,fun b o h=>h,fun g cs hg=>⟨W5 g cs hg,fun hx=>NB g cs hg hx⟩,by rw [B3]; exact Nat.zero_le _⟩
 have hc:=(aaA x VC [])
 refine (callsIn_wide.1 (hc.2 (nq W) W args.toList hG hx)).mono fun e W' he=>?_
 cases e with
 | panicked c=>exact he.elim
 | outgrown=>exact he.elim
 | returned c=>
  obtain ⟨r,G',R',⟨_,rfl⟩,eh,_,st⟩:=he
  cases eh
  have hb:Below W.heap.size W W':=⟨st.os,st.tape,st.output,st.size,fun k hk=>st.cq k hk fun ho=>by
   obtain ⟨id,ro,h1,_⟩:=eV ho
   simp [nq,nth] at h1⟩
  have cg:∀ y∈p,y.block < W.heap.size:=fun y hy=>by simpa using hW0.lt y (by simpa using hy)
  have e1:s.fn H (ds++[])={ results:=[.lit (.bool true)],args:=ds }:=by rw [List.append_nil]; exact zt ds hlen
  refine ⟨_,rfl,E0 (pa:=p) (pv:=[]) hW0 ?_ ?_ ?_ rfl hb ?_⟩
  ·intro b sp hd
   rw [e1,Ev]
   exact trodAll_mk1 (shut_bool hub true)
  ·intro sp aaC
   rw [e1]
   exact pY hl hb hr hA cg (fun y hy=>aaC y (by simpa using hy))
  ·intro sp _
   rw [e1,CV]
   rfl
  ·intro j t r hj lH
   rw [Ev] at hj lH
   cases j with
   | succ j=>simp at hj
   | zero=>
    simp at hj
    subst hj
    have:r=.bool true:=by simpa [Value.resultList] using lH.symm
    subst this
    simp [Value.okWide,Cell.okWide,Cell.ok,hub]
end
end Go.Am
namespace Go.Am
open Go
section
variable {P:Program} {W:World}
theorem th {g:Nat} {cs:Array Value} {k:IntKind} (hg:g < W.heap.size):∀ (xs:List Int) (o:Nat),(∀ i,i < xs.length→W.cell? ⟨g,o+i,none⟩=some (.int k (xs[i]?.getD 0)))→dP (nq W) W g o (xs.map fun x=>.int k x)
 | [],_,_=>.nil
 | x :: xs,o,h=>.cons (h 0 (by simp)) rfl hg (.int k x) (th (cs:=cs) hg xs (o+1) fun i hi=>by
   have:=h (i+1) (by simpa using hi)
   rw [show o+1+i=o+(i+1) by omega]
   simpa using this)
end
end Go.Am
namespace Go.Am
open Go
theorem dM {p:aO} (hp:p.plain=true) (l:List p.T):allFit p.fits (List.map p.enc l)=true:=by
 induction l with
 | nil=>rfl
 | cons x l ih=>simp [allFit,ih,(p.bC x hp).1]
theorem gL {p:aO} (hp:p.plain=true) (l:List p.T):List.map p.bo (List.map p.enc l)=l:=by
 induction l with
 | nil=>rfl
 | cons x l ih=>simp [ih,(p.bC x hp).2]
end Go.Am
namespace Go.Am
open Go Go.RowKit
section
variable {E:Env} {R:ai} {w w':World}
theorem Below.Tb (h:Below w.heap.size w w') (wf:∀ b o,R.I b o→b < w.heap.size):Ext R w R w':=
 ⟨fun _ _ h=>h,fun b o hi=>bV (h.block b (wf b o hi)) o,fun _ ro h=>⟨ro,h,cw.refl ro⟩,.old fun b hb=>h.block b hb⟩
theorem Below.HK {G:List GO} (h:Below w.heap.size w w') (hg:dq E R w G) (hE:E.lo=0):dq E R w' G:=
 hg.cq (Below.Tb h hg.wf) rfl (fun b hb=>h.block b (hg.bS hb)) (fun _ _ _ hi=>hi) (fun b o hi=>Nat.lt_of_lt_of_le (hg.wf b o hi) h.size) (fun _=>by rw [hE]; exact Nat.zero_le _)
theorem Below.zU {β:Nat→Nat} {bx:cE} (h:Below w.heap.size w w') (wf:∀ b o,R.I b o→b < w.heap.size):Step R w β bx R w' β bx:=
 ⟨Below.Tb h wf,h.os,h.tape,h.output,h.size,fun b hb _=>h.block b hb,fun _ _ ho=>ho,fun _ _ hi _ _=>hi⟩
theorem aW.below {g:FuncId} {args:List AV} {r:AV} (hp:Plain E.P g)
  (h:∀ (R:ai) (w:World) (cs:List Value),aM R w args cs→Calls E.P g ⟨cs⟩ w (fun e w'=>∃ v,e=.returned v∧(∀ R,Rel R w' r v)∧Below w.heap.size w w')) (hE:E.lo=0):aW E g args (fun r'=>r'=r):=fun G=>
 ⟨hp,fun R w cs hg hl=>callsIn_wide.2 ((h R w cs hl).mono fun e w' ⟨v,he,hv,hb⟩=>by
  subst he
  exact ⟨r,G,R,⟨rfl,rfl⟩,hv R,Below.HK hb hg hE,Below.zU hb hg.wf⟩)⟩
theorem Plain.of {P : Program} {g : FuncId} {fn : Func} (h : P.funcs[g]? = some fn) (h1 : fn.body.isNone = false) (h2 : (fn.name == "runtime.NumGoroutine") = false) : Plain P g := ⟨fn, h, h1, h2⟩
end
def p2 (a b:aO):aP:=.cons a (.cons b .nil)
def p1 (a:aO):aP:=.cons a .nil
def HL:List UInt8 × List UInt8→Option (List UInt8)
 | (s,[c])=>bif Nat.blt c.toNat 128 then some (s.dropWhile (· == c)) else none
 | _=>none
def Tc (n:Int):List UInt8:=bif decide (n < 10) then [UInt8.ofNat (48+n.toNat)] else [UInt8.ofNat (48+n.toNat / 10),UInt8.ofNat (48+n.toNat % 10)]
def HM:aZ:=⟨p2 .str .str,.str,HL⟩
section
variable {E:Env}
theorem CX {g:FuncId} (hp:Plain E.P g)
  (h:∀ (s:ByteArray) (c:UInt8),c.toNat < 128→∀ w:World,Calls E.P g #[.string s,.string ⟨#[c]⟩] w fun e w'=>e=.returned (.string ⟨(s.data.toList.dropWhile (· == c)).toArray⟩)∧w'=w) (hE:E.lo=0:=by rfl):ap E g HM:=fun x y hT=>by
 obtain ⟨s,c⟩:=x
 match c,hT with
 | [c],hT=>
  obtain ⟨h1,h2⟩:=cond_some' hT
  subst h2
  refine aW.below hp (fun R w cs hl=>?_) hE
  cases hl with
  | cons a1 hl=>
  cases hl with
  | cons a2 hl=>
  cases hl
  cases a1; cases a2
  refine (h ⟨⟨s⟩⟩ c (Nat.le_of_ble_eq_true h1) w).mono ?_
  rintro e w' ⟨rfl,rfl⟩
  exact ⟨_,rfl,fun _=>Rel.str _,Below.refl _ _⟩
where
 cond_some' {c:Bool} {a x:List UInt8} (h:(bif c then some a else none)=some x):c=true∧a=x:=by
  cases c
  ·cases h
  ·exact ⟨rfl,Option.some.inj h⟩
end
end Go.Am
namespace Go.Am
open Go Go.RowKit Go.Proofs Go.Shelf
section
variable {E:Env} {R:ai} {w w':World}
theorem CY {b:Nat} {x y v:Value} {el:TypeId} {fz:Nat × Nat} (h:w.heap[b]?=some (.cells #[x,y] el fz)):w.setCell ⟨b,0,none⟩ v=w.setRow b #[v,y]:=by
 unfold World.setCell World.setRow
 congr 1
 apply Array.ext
 ·simp
 ·intro i h1 h2
  rw [Array.getElem_modify,Array.getElem_modify]
  by_cases e:b=i
  ·subst e
   have cg:b < w.heap.size:=bg h
   have hv:w.heap[b]=.cells #[x,y] el fz:=(Array.getElem?_eq_some_iff.1 h).2
   simp [hv]
  ·simp [e]
theorem dq.BF {G:List GO} (h:dq E R w G):bi E R w (fun _=>0) ⟨[],fk,G,[],none,0⟩ { tmps:=#[],defers:=[] }:=
 ⟨h,⟨fun k cs hk=>by simp [fk,dm] at hk,fun k k' cs cs' hk=>by simp [fk,dm] at hk⟩,fun i hi=>absurd rfl hi,rfl,trivial⟩
def W6 (id:Nat):AV→Bool
 | .iA=>true
 | .ptr i 0=>Nat.beq i id
 | _=>false
def ccF (ty:Nat) (args:List AV) (G:List GO):Option (Bool × AV × List GO):=match args with
 | [.ptr id 0]=>match nth G id with
  | some (.row [c,b] el)=>some (Nat.beq el ty&&W6 id c,.bh [],aD G id (.row [.ptr id 0,b] el))
  | _=>none
 | _=>none
theorem Td {ρ:Ren} (L:Lays.n240 E.P ρ) (X:Builder.X72 E.P ρ) (args:List AV) (G:List GO) (r:AV) (G':List GO) (h:ccF (ρ.t 72) args G=some (true,r,G')):cu E (ρ.f 240) args G (fun r' zO=>r'=r∧zO=G'):=by
 refine ⟨⟨_,L.f240,rfl,rfl⟩,fun R w cs hg hl=>callsIn_wide.2 ?_⟩
 unfold ccF at h
 split at h
 ·rename_i id
  cases hl with
  | cons a1 hl=>
  cases hl
  cases a1 with
  | @ptr _ _ b hb=>
  split at h
  ·rename_i cv bv el hid
   injection h with h; injection h with h1 h; injection h with h2 h3
   rw [Bool.and_eq_true] at h1
   obtain ⟨h1,DA⟩:=h1
   have h1:=Nat.eq_of_beq_eq_true h1
   subst h1; subst h2; subst h3
   obtain ⟨vs,k1,k2,k3,k4⟩:=hg.obj id _ _ hid hb
   cases k2 with
   | @cons _ c1 _ _ q1 k2=>
   cases k2 with
   | @cons _ c2 _ _ q2 k2=>
   cases k2
   unfold W6 at DA
   split at DA
   case h_3=>cases DA
   case h_2 i=>
    have DA:=Nat.eq_of_beq_eq_true DA
    subst DA
    cases q1 with
    | @ptr _ _ b' iS=>
    rw [hb] at iS
    cases iS
    refine (Any.Builder_copyCheck_used L X b w (by simp [World.cell?,k1])).mono fun e w' ⟨he,hw⟩=>?_
    subst he; subst hw
    rw [jj hid]
    exact ⟨.bh [],G,R,⟨rfl,rfl⟩,Rel.bh .nil,hg,Step.refl _ _ _ _⟩
   cases q1
   have Et:∀ v∈[Value.pointer (some ⟨b,0,none⟩),c2],v.oneCell'=true:=by
    intro v hv
    rcases List.mem_cons.1 hv with rfl | hv
    ·rfl
    ·exact k3 v (by rw [List.mem_singleton.1 hv]; simp)
   refine (Any.Builder_copyCheck_fresh L X b w (by simp [World.cell?,k1]) (by simp [World.shape?,k1]) (by simp [World.frozen?,k1])).mono fun e w' ⟨he,hw⟩=>?_
   subst he
   rw [CY k1] at hw
   subst hw
   obtain ⟨r1,r2⟩:=(dq.BF hg).setRow (cs':=[.ptr id 0,bv]) (us:=[.pointer (some ⟨b,0,none⟩),c2]) hid hb k1 (.cons (Rel.ptr hb) (.cons q2 .nil)) Et
   exact ⟨.bh [],_,R,⟨rfl,rfl⟩,Rel.bh .nil,r1.g,r2⟩
  ·cases h
 ·cases h
def ccE {ρ:Ren} (L:Lays.n240 E.P ρ) (X:Builder.X72 E.P ρ):lM E (ρ.f 240):=⟨ccF (ρ.t 72),Td L X⟩
theorem CZ (a:Addr) (n:Nat) (b o:Nat):(w.freeze a n).cell? ⟨b,o,none⟩=w.cell? ⟨b,o,none⟩:=by
 unfold World.freeze
 split
 ·rfl
 ·simp only [World.cell?,Array.getElem?_modify]
  by_cases e:a.block=b
  ·subst e
   simp only [if_true]
   cases h:w.heap[a.block]? with
   | none=>rfl
   | some x=>cases x <;> simp
  ·simp [e]
theorem C0 {a:Addr} {n:Nat} {b:Nat} (h:b≠a.block):(w.freeze a n).heap[b]?=w.heap[b]?:=by
 unfold World.freeze
 split
 ·rfl
 ·simp only [Array.getElem?_modify]
  rw [if_neg (Ne.symm h)]
theorem C1 (a:Addr) (n:Nat):(w.freeze a n).heap.size=w.heap.size:=by
 unfold World.freeze
 split <;> simp
set_option maxHeartbeats 2000000 in
set_option maxRecDepth 100000 in
theorem Bd {P:Program} {ρ:Ren} (L:Lays.n169 P ρ) (X:Builder.Extra P ρ) (b g cap:Nat) (p:Value) (cur:Array Value) (l:List UInt8) (w:World) (h0:l≠[])
  (ZF:w.heap[b]?=some (.cells #[p,.slice (some ⟨g,0,none⟩) l.length cap] (ρ.t 72) (0,0))) (hg:w.heap[g]?=some (.cells cur (ρ.t 5) (0,0))) (hnc:l.length≤cap) (Wi:cap≤maxLen) (oV:cur.size=cap)
  (fR:∀ (j:Nat) (x:UInt8),l[j]?=some x→w.cell? ⟨g,j,none⟩=some (.int .u8 x.toNat)) :
  Calls P (ρ.f 169) #[.pointer (some ⟨b,0,none⟩)] w fun e w'=>e=.returned (.string ⟨l.toArray⟩)∧w'=w.drew.freeze ⟨g,0,none⟩ l.length:=by
 have vN:l.length≠0:=by simpa using h0
 have c1:w.drew.cell? ⟨b,1,none⟩=some (.slice (some ⟨g,0,none⟩) l.length cap):=by
  have:w.drew.heap[b]?=some (.cells #[p,.slice (some ⟨g,0,none⟩) l.length cap] (ρ.t 72) (0,0)):=ZF
  rw [Lib.cell_of_heap this]; rfl
 have hSD:(Builtin.unsafeSliceData_ #[(ρ.t 37)] (ρ.t 127) #[.slice (some ⟨g,0,none⟩) l.length cap]).run P w.drew=.ok (.pointer (some ⟨g,0,none⟩)) w.drew:=
  Lib.run_unsafeSliceData_row _ _ _ _ _ _ (by omega)
 have hUS:(Builtin.unsafeString_ #[(ρ.t 127),(ρ.t 3)] (ρ.t 9) #[.pointer (some ⟨g,0,none⟩),.int .i64 l.length]).run P w.drew=.ok (.string ⟨l.toArray⟩) (w.drew.freeze ⟨g,0,none⟩ l.length):=by
  refine Lib.run_unsafeString_row w.drew (ρ.t 127) (ρ.t 3) (ρ.t 9) (ρ.t 5) L.t127 X.cellsByte g cur.size (by have qd:w.drew.heap[g]?=some (.cells cur (ρ.t 5) (0,0)):=hg; simp [World.shape?,qd]) l h0 (by omega) (by unfold maxLen at Wi; omega) ?_
  intro j x hx
  have:=fR j x hx
  rw [cA,Nat.zero_add]
  exact this
 have mixed:=L.mixed
 have t72:=L.t72; have a72:=L.a72; have z72:=L.z72; have v72:=L.v72; have u72:=run_underlying L.t72
 have t70:=L.t70; have a70:=L.a70; have z70:=L.z70; have v70:=L.v70; have u70:=run_underlying L.t70
 have t37:=L.t37; have a37:=L.a37; have z37:=L.z37; have v37:=L.v37; have u37:=run_underlying L.t37
 have t127:=L.t127; have a127:=L.a127; have z127:=L.z127; have v127:=L.v127; have aej:=run_underlying L.t127
 have t3:=L.t3; have a3:=L.a3; have z3:=L.z3; have v3:=L.v3; have u3:=run_underlying L.t3
 have t9:=L.t9; have a9:=L.a9; have z9:=L.z9; have v9:=L.v9; have u9:=run_underlying L.t9
 have t5:=X.t5; have a5:=X.a5; have z5:=X.z5; have v5:=X.v5; have u5:=run_underlying X.t5
 clear fR
 go_enter L.f169,Body.n169_ntmps ρ
 go_wp2
 go_region_o
 all_goals (go_wp2; go_ret; exact ⟨rfl,rfl⟩)
theorem dq.frozen {G:List GO} (hg:dq E R w G) {t f sz el g c n:Nat} (_ht:nth G t=some (.tok f sz el)) (hr:nth R.obj t=some (.tok f g c)) {cur:Array Value} {fz:Nat × Nat} (hc:w.heap[g]?=some (.cells cur el fz)) :
  dq E R (w.drew.freeze ⟨g,0,none⟩ n) (aD G t .dead)∧Step R w (fun _=>0) fk R (w.drew.freeze ⟨g,0,none⟩ n) (fun _=>0) fk:=by
 have hl:Live R g:=⟨t,_,hr,rfl⟩
 have cq:∀ b,b≠g→(w.drew.freeze ⟨g,0,none⟩ n).heap[b]?=w.heap[b]?:=fun b hb=>C0 (w:=w.drew) (a:=⟨g,0,none⟩) hb
 have eO:(w.drew.freeze ⟨g,0,none⟩ n).heap.size=w.heap.size:=C1 (w:=w.drew) _ _
 have e:Ext R w R (w.drew.freeze ⟨g,0,none⟩ n):=⟨fun _ _ h=>h,fun b o _=>CZ (w:=w.drew) _ _ b o,fun _ ro h=>⟨ro,h,cw.refl ro⟩,fun b r hb=>⟨r,by
  by_cases e:b=g
  ·subst e; rw [hc] at hb; cases hb
  ·rw [cq b e]; exact hb,rfl,rfl,rfl,rfl,rfl⟩⟩
 have YX:∀ (v:World) (a:Addr) (m:Nat),(v.freeze a m).os=v.os∧(v.freeze a m).tape=v.tape∧(v.freeze a m).output=v.output∧(v.freeze a m).drawn=v.drawn:=by
  intro v a m
  unfold World.freeze
  split <;> exact ⟨rfl,rfl,rfl,rfl⟩
 refine ⟨⟨by rw [hZ]; exact hg.len,fun id go ro q1 q2=>?_,hg.inj,fun b o hi=>by rw [eO]; exact hg.wf b o hi,fun x cs hx=>(hg.b6 x cs hx).mono e,by rw [(YX _ _ _).2.2.2]; exact Nat.le_succ_of_le hg.lo⟩,⟨e,(YX _ _ _).1,(YX _ _ _).2.1,(YX _ _ _).2.2.1,by rw [eO]; exact Nat.le_refl _,fun b hb hn=>cq b (fun e=>hn (e ▸ .inl hl)),fun _ _ ho=>ho,fun _ _ hi _ _=>hi⟩⟩
 rcases da q1 with ⟨rfl,rfl,_⟩ | ⟨cm,q1⟩
 ·rw [hr] at q2
  cases q2
  show g < _
  rw [eO]
  exact bg hc
 ·refine (hg.obj id go ro q1 q2).mono e (fun b hb=>cq b (fun e=>cm ?_)) (fun _ _ _ hi=>hi)
  subst e
  exact hg.inj t id _ _ b hr q2 rfl hb
theorem xz {b:Nat}:∀ {es:List AV} {o:Nat},gk R w b o 1 es→allFit (aO.fits (.int .u8)) es=true→∀ (j:Nat) (e:AV),es[j]?=some e→w.cell? ⟨b,o+j,none⟩=some (.int .u8 e.kZ)
 | [],_,_,_,j,x,h=>by simp at h
 | a :: xs,o,.cons _ _ _ hc t,hf,0,x,h=>by
  simp only [allFit,Bool.and_eq_true] at hf
  simp only [List.getElem?_cons_zero] at h
  cases h
  cases a <;> first | (cases hf.1; done) | skip
  have hk:IntKind.u8=_:=of_decide_eq_true (show RW _ _=true from hf.1)
  subst hk
  cases hc with
  | cons h1 h2 h3 h4 h5=>
  cases h4
  exact h1
 | a :: xs,o,.cons _ _ _ hc t,hf,j+1,x,h=>by
  simp only [allFit,Bool.and_eq_true] at hf
  simp only [List.getElem?_cons_succ] at h
  have:=xz t hf.2 j x h
  rw [show o+(j+1)=o+1+j by omega]
  exact this
def Be:List AV→Bool
 | []=>true
 | a :: l=>(match a with
  | .int .u8 n=>decide (0≤n)&&decide (n < 256)
  | _=>false)&&Be l
theorem xA:∀ {es:List AV},Be es=true→allFit (aO.fits (.int .u8)) es=true∧∀ e∈es,0≤e.kZ∧e.kZ < 256
 | [],_=>⟨rfl,fun e he=>by simp at he⟩
 | a :: l,h=>by
  simp only [Be,Bool.and_eq_true] at h
  obtain ⟨h1,h2⟩:=xA h.2
  have ha:=h.1
  split at ha
  ·rename_i n
   rw [Bool.and_eq_true] at ha
   refine ⟨by simp only [allFit,h1,Bool.and_true]; rfl,fun e he=>?_⟩
   rcases List.mem_cons.1 he with rfl | he
   ·exact ⟨of_decide_eq_true ha.1,of_decide_eq_true ha.2⟩
   ·exact h2 e he
  ·cases ha
def Te (ty:Nat) (args:List AV) (G:List GO):Option (Bool × AV × List GO):=match args with
 | [.ptr id 0]=>match nth G id with
  | some (.row [_,.list .nil _ _] el)=>some (Nat.beq el ty,.str [],G)
  | some (.row [_,.list (.own t) 1 es] el)=>match nth G t with
   | some (.tok f 1 e)=>some (Nat.beq el ty&&Nat.beq e 5&&!es.isEmpty&&decide (f=es.length)&&Be es,.str (iB es),aD G t .dead)
   | _=>none
  | _=>none
 | _=>none
theorem NF {ρ:Ren} (L:Lays.n169 E.P ρ) (X:Builder.Extra E.P ρ) (h5:ρ.t 5=5) (hE:E.lo=0) (args:List AV) (G:List GO) (r:AV) (G':List GO) (h:Te (ρ.t 72) args G=some (true,r,G')):cu E (ρ.f 169) args G (fun r' zO=>r'=r∧zO=G'):=by
 refine ⟨⟨_,L.f169,rfl,rfl⟩,fun R w cs hg hl=>callsIn_wide.2 ?_⟩
 unfold Te at h
 split at h
 ·rename_i id
  cases hl with
  | cons a1 hl=>
  cases hl
  cases a1 with
  | @ptr _ _ b hb=>
  split at h
  ·rename_i pv _ es el hid
   injection h with h; injection h with h1 h; injection h with h2 h3
   have h1:=Nat.eq_of_beq_eq_true h1
   subst h1; subst h2; subst h3
   obtain ⟨vs,k1,k2,k3,k4⟩:=hg.obj id _ _ hid hb
   cases k2 with
   | @cons _ c1 _ _ q1 k2=>
   cases k2 with
   | @cons _ c2 _ _ q2 k2=>
   cases k2
   cases q2 with
   | list _ _ _ hk=>exact hk.elim
   | jE=>
    refine (Any.Builder_String_nil L X w.heap.size b c1 w k1).mono fun e w' ⟨he,hw⟩=>?_
    subst he
    exact ⟨.str [],G,R,⟨rfl,rfl⟩,Rel.str _,Below.HK hw hg hE,Below.zU hw hg.wf⟩
  ·rename_i pv t es el hid
   split at h
   ·rename_i f e ht
    injection h with h; injection h with h1 h; injection h with h2 h3
    subst h2; subst h3
    simp only [Bool.and_eq_true] at h1
    obtain ⟨⟨⟨⟨h1,h4⟩,h6⟩,h7⟩,h8⟩:=h1
    have h1:=Nat.eq_of_beq_eq_true h1
    have h4:=Nat.eq_of_beq_eq_true h4
    have h7:=of_decide_eq_true h7
    subst h1; subst h4; subst h7
    obtain ⟨vs,k1,k2,k3,k4⟩:=hg.obj id _ _ hid hb
    cases k2 with
    | @cons _ c1 _ _ q1 k2=>
    cases k2 with
    | @cons _ c2 _ _ q2 k2=>
    cases k2
    cases q2 with
    | lZ _ _=>simp at h6
    | @list _ _ _ g o len cap hE hlen gX hk=>
    subst hlen
    obtain ⟨ro,bH,tN⟩:=hk
    have cH:=hg.obj t _ _ ht bH
    cases ro with
    | none=>exact cH.elim
    | bz=>exact tN.elim
    | bU _=>exact cH.elim
    | bf _=>exact cH.elim
    | tok f' g' c'=>
     obtain ⟨rfl,cur,iN,m1,m2,m3,m4⟩:=cH
     obtain ⟨rfl,rfl,rfl⟩:=tN.2 rfl
     obtain ⟨n1,n2⟩:=xA h8
     have Vo:(iB es).length=es.length:=List.length_map _
     have cm:es≠[]:=by intro e; rw [e] at h6; simp at h6
     have fR:∀ (j:Nat) (x:UInt8),(iB es)[j]?=some x→w.cell? ⟨g,j,none⟩=some (.int .u8 x.toNat):=by
      intro j x hx
      unfold iB at hx
      rw [List.getElem?_map] at hx
      cases he:es[j]? with
      | none=>rw [he] at hx; cases hx
      | some a=>
       rw [he] at hx
       cases hx
       have h1:=xz hE n1 j a he
       rw [Nat.zero_add] at h1
       have h2:=n2 a (List.mem_of_getElem? he)
       rw [h1]
       have:(UInt8.ofNat a.kZ.toNat).toNat=a.kZ.toNat:=by
        rw [UInt8.toNat_ofNat']
        omega
       show some (Value.int .u8 a.kZ)=some (Value.int .u8 ((UInt8.ofNat a.kZ.toNat).toNat:Int))
       rw [this,Int.toNat_of_nonneg h2.1]
     refine (Bd L X b g cap c1 cur (iB es) w (by intro e; exact cm (List.eq_nil_of_length_eq_zero (by rw [← Vo,e]; rfl))) (by rw [Vo]; exact k1) (by rw [h5]; exact iN) (by rw [Vo]; exact gX) m2 (by omega) fR).mono fun e w' ⟨he,hw⟩=>?_
     subst he
     subst hw
     obtain ⟨r1,r2⟩:=dq.frozen (n:=(iB es).length) hg ht bH iN
     exact ⟨.str (iB es),_,R,⟨rfl,rfl⟩,Rel.str _,r1,r2⟩
   ·cases h
  ·cases h
 ·cases h
def aaE {ρ:Ren} (L:Lays.n169 E.P ρ) (X:Builder.Extra E.P ρ) (h5:ρ.t 5=5) (hE:E.lo=0:=by rfl):lM E (ρ.f 169):=⟨Te (ρ.t 72),NF L X h5 hE⟩
end
end Go.Am
namespace Go.Am
open Go
theorem ki {x:Int} (h:-9223372036854775808≤x∧x≤9223372036854775807):IntKind.wrap .i64 x=x:=IntWalk.i64_in x (by omega)
def e7 (N:Nat):Prop:=18446744073709551616≤N
theorem a6 {V X:Type} (rd:V→Option (V ⊕ X)) (n:Nat) (v:V):aN rd (n+1) v=(rd v).bind fun o=>Sum.elim (fun v'=>aN rd n v') (fun x=>some x) o:=rfl
theorem gM {α:Type} (g:α→AV) (xs:List α) (k:Nat) (h:k < xs.length):aj (xs.map g) k=g xs[k]:=by
 unfold aj
 rw [a8,List.getElem?_map,List.getElem?_eq_getElem h]
 rfl
def foldI {S α Y:Type} (st:S→α→S ⊕ Y):S→List α→S ⊕ Y
 | s,[]=>.inl s
 | s,a :: l=>Sum.elim (fun s'=>foldI st s' l) (fun y=>.inr y) (st s a)
theorem nr {V X S α Y:Type} {rd:V→Option (V ⊕ X)} (l:List α) (E:S→Nat→V) (st:S→α→S ⊕ Y) (fin:S→X) (ex:Y→X) (P:S→Nat→Prop)
  (h:∀ s k (hk:k < l.length),P s k→rd (E s k)=some (Sum.map (fun s'=>E s' (k+1)) ex (st s l[k]))∧∀ s',st s l[k]=.inl s'→P s' (k+1))
  (h0:∀ s,P s l.length→rd (E s l.length)=some (.inr (fin s))) :
  ∀ n s k,k≤l.length→l.length < n+k→P s k→aN rd n (E s k)=some (Sum.elim fin ex (foldI st s (l.drop k)))
 | 0,s,k,hk,hn,_=>by omega
 | n+1,s,k,hk,hn,hP=>by
  rw [a6]
  by_cases cg:k < l.length
  ·obtain ⟨h1,h2⟩:=h s k cg hP
   rw [h1,List.drop_eq_getElem_cons cg]
   simp only [Option.bind_some,foldI]
   cases hs:st s l[k] with
   | inl s'=>
    simp only [Sum.map_inl,Sum.elim_inl]
    exact nr l E st fin ex P h h0 n s' (k+1) (by omega) (by omega) (h2 s' hs)
   | inr y=>simp only [Sum.map_inr,Sum.elim_inr]
  ·have:k=l.length:=by omega
   subst this
   rw [h0 s hP,List.drop_eq_nil_of_le (Nat.le_refl _)]
   rfl
theorem dh {V X S α:Type} {rd:V→Option (V ⊕ X)} (l:List α) (E:S→Nat→V) (f:S→α→S) (fin:S→X) (P:S→Nat→Prop)
  (h:∀ s k (hk:k < l.length),P s k→rd (E s k)=some (.inl (E (f s l[k]) (k+1)))∧P (f s l[k]) (k+1))
  (h0:∀ s,P s l.length→rd (E s l.length)=some (.inr (fin s))) :
  ∀ n s k,k≤l.length→l.length < n+k→P s k→aN rd n (E s k)=some (fin ((l.drop k).foldl f s))
 | 0,s,k,hk,hn,_=>by omega
 | n+1,s,k,hk,hn,hP=>by
  rw [a6]
  by_cases cg:k < l.length
  ·obtain ⟨h1,h2⟩:=h s k cg hP
   rw [h1,List.drop_eq_getElem_cons cg]
   simp only [Option.bind_some,Sum.elim_inl,List.foldl_cons]
   exact dh l E f fin P h h0 n _ (k+1) (by omega) (by omega) h2
  ·have:k=l.length:=by omega
   subst this
   rw [h0 s hP,List.drop_eq_nil_of_le (Nat.le_refl _)]
   rfl
theorem fa {V X:Type} {rd:V→Option (V ⊕ X)} (m:Nat) (E:Nat→V) (x:X) (h:∀ k,k < m→rd (E k)=some (.inl (E (k+1)))) (h0:rd (E m)=some (.inr x)) :
  ∀ n k,k≤m→m < n+k→aN rd n (E k)=some x
 | 0,k,hk,hn=>by omega
 | n+1,k,hk,hn=>by
  rw [a6]
  by_cases cg:k < m
  ·rw [h k cg]
   simp only [Option.bind_some,Sum.elim_inl]
   exact fa m E x h h0 n (k+1) (by omega) (by omega)
  ·have:k=m:=by omega
   subst this
   rw [h0]
   rfl
theorem ay {k n:Nat} (h:k < n):decide (0≤(k:Int)∧(k:Int) < (n:Int))=true:=by simp; omega
theorem aX {k n:Nat} (h:k < n):decide ((k:Int) < (n:Int))=true:=by simpa using h
theorem bJ (n:Nat):decide ((n:Int) < (n:Int))=false:=by simp
theorem bN {k:Nat} (h:k < 9223372036854775807):IntKind.wrap .i64 ((k:Int)+1)=((k+1:Nat):Int):=by rw [ki (by omega)]; simp
def Rk (n lo hi:Int):Int:=if n < lo∨n > hi then 3 else 0
def bT:List Int→Int
 | []=>0
 | x :: l=>if x=0 then bT l else x
theorem nt {l:List Int}:bT l=0↔∀ x∈l,x=0:=by
 induction l with
 | nil=>simp [bT]
 | cons x l ih=>
  simp only [bT,List.mem_cons,forall_eq_or_imp]
  by_cases h:x=0
  ·simp [h,ih]
  ·simp [h]
theorem qC {rd:Int→Option (Int ⊕ (Int ⊕ Unit))} (l:List Int)
  (h:∀ k (hk:k < l.length),rd (k:Int)=some (if l[k]=0 then .inl ((k+1:Nat):Int) else .inr (.inl l[k]))) (h0:rd (l.length:Int)=some (.inr (.inr ()))) (n:Nat) (hn:l.length < n) :
  ∃ o,aN rd n 0=some o∧Sum.elim (fun x=>x) (fun _=>0) o=bT l:=by
 have key:=nr (rd:=rd) (S:=Unit) (Y:=Int) l (fun _ k=>(k:Int)) (fun _ x=>if x=0 then .inl () else .inr x) (fun _=>.inr ()) (fun x=>.inl x) (fun _ _=>True)
  (fun s k hk _=>⟨by rw [h k hk]; by_cases e:l[k]=0 <;> simp [e],fun _ _=>trivial⟩) (fun _ _=>h0) n () 0 (Nat.zero_le _) (by omega) trivial
 refine ⟨_,key,?_⟩
 rw [List.drop_zero]
 clear key h h0 hn
 induction l with
 | nil=>rfl
 | cons x l ih=>
  simp only [foldI,bT]
  by_cases e:x=0
  ·simp only [e,if_true,Sum.elim_inl]; exact ih
  ·simp [e]
theorem ul {rd:Int→Option (Int ⊕ (Int ⊕ Unit))} (l:List Int)
  (h:∀ k (hk:k < l.length),rd (k:Int)=some (if l[k]=0 then .inl ((k+1:Nat):Int) else .inr (.inl l[k]))) (h0:rd (l.length:Int)=some (.inr (.inr ()))) (n:Nat) (hn:l.length < n) :
  aN rd n 0=some (if bT l=0 then .inr () else .inl (bT l)):=by
 have key:=nr (rd:=rd) (S:=Unit) (Y:=Int) l (fun _ k=>(k:Int)) (fun _ x=>if x=0 then .inl () else .inr x) (fun _=>.inr ()) (fun x=>.inl x) (fun _ _=>True)
  (fun s k hk _=>⟨by rw [h k hk]; by_cases e:l[k]=0 <;> simp [e],fun _ _=>trivial⟩) (fun _ _=>h0) n () 0 (Nat.zero_le _) (by omega) trivial
 rw [List.drop_zero] at key
 refine key.trans (congrArg some ?_)
 clear key h h0 hn
 induction l with
 | nil=>rfl
 | cons x l ih=>
  simp only [foldI,bT]
  by_cases e:x=0
  ·simp only [e,if_true,Sum.elim_inl]; exact ih
  ·simp [e]
end Go.Am
