/- The abstract machine: the evaluator is sound. -/
import Derived.Test.YtfiopgedfcaodaaGreatDoorAmKJ
import GoSem.ClaimJoined
import Derived.Below
import Derived.ChangeSame
import Derived.Carry
import Derived.RowKit
import Derived.FnData
import Derived.Lib.Builder
import Derived.Lib.UnsafeStr
import Derived.Shelf.Strings.Builder1
import Derived.IntWalk
set_option linter.all false
namespace Go.Am
open Go
section
variable {C:Ctx} {ih:EvT}
def SoundE (C:Ctx) (ih:EvT):Prop:=∀ (f:FuncId) (p:Nat) (c:Code) (X:Type) (cmb:Option X→Option X→Option X),CmbOk cmb→∀ (K:Exit→St→Option X) (s:St) (x:X),
 codeDraws (C.D.dt f) c=true→ih f p c X cmb K s=some x→AWpX C.D.toEnv c (fun e s'=>K e s'=some x) s
theorem eqC_ok {X:Type}:CmbOk (eqC (X:=X)):=fun a b x h=>by
 unfold eqC at h
 by_cases e:a=b
 ·rw [if_pos e] at h
  exact ⟨h,e ▸ h⟩
 ·rw [if_neg e] at h
  cases h
theorem callI_sound (hs:SoundE C ih) {X:Type} {cmb:Option X→Option X→Option X} (hm:CmbOk cmb):CallOk C.D.toEnv (callI C ih cmb):=fun g args G K x h=>by
 unfold callI at h
 obtain ⟨hok,h⟩:=cond_some h
 split at h
 ·rename_i fn hfn
  split at h
  ·rename_i b hb
   obtain ⟨hn,h⟩:=cond_some h
   have fin:∀ {K':AV→List GO→Option X},ih g 1 b X cmb (bodyO C.D.toEnv fn K') (St.init fn.ntmps args G)=some x→ACalls C.D.toEnv g args G (fun r G'=>K' r G'=some x):=by
    intro K' h
    refine ACalls.intro hfn hb (by simpa using hn) ((hs g 1 b X cmb hm _ _ x (C.D.draws g fn b hok hfn hb) h).mono fun e s' hq=>?_)
    have hq:=hq.1
    unfold bodyO at hq
    unfold bodyQ
    cases e <;> first | (cases hq; done) | skip
    all_goals (simp only at hq ⊢)
    all_goals (split at hq <;> first | (cases hq; done) | skip)
    all_goals (rename_i hl; rw [hl]; simp only)
    all_goals (split at hq <;> first | (cases hq; done) | skip)
    all_goals (rename_i hl2; rw [hl2]; exact hq)
   cases hfz:C.D.glb g 131072 with
   | true=>rw [hfz] at h; exact ACalls.frz (fin h)
   | false=>rw [hfz] at h; exact fin h
  ·cases h
 ·cases h
theorem callO_sound (htab:∀ g e,C.tab g=some e→EntryOk C.D.toEnv g e) (hs:SoundE C ih) {X:Type} {cmb:Option X→Option X→Option X} (hm:CmbOk cmb):CallOk C.D.toEnv (callO C ih cmb):=fun g args G K x h=>by
 unfold callO at h
 split at h
 ·rename_i e he
  obtain ⟨a,ha,h⟩:=bind_some h
  obtain ⟨y,hy,h⟩:=bind_some h
  refine ACalls.weak (e.ps.dec_ok ha).1 (((htab g e he a y hy) G).mono fun r G' hr=>?_)
  obtain ⟨rfl,rfl⟩:=hr
  exact h
 ·split at h
  ·rename_i e he
   split at h
   ·rename_i c r G' hf
    obtain ⟨hc,h⟩:=cond_some h
    subst hc
    refine (e.ok args G r G' hf).mono fun r' G'' hh=>?_
    obtain ⟨rfl,rfl⟩:=hh
    exact h
   ·cases h
  ·split at h
   ·rename_i e he
    obtain ⟨a,ha,h⟩:=bind_some h
    obtain ⟨y,hy,h⟩:=bind_some h
    refine ACalls.weak (e.ps.dec_ok ha).1 ((e.ok a y hy G).mono fun r G' hr=>?_)
    obtain ⟨z,rfl,hr⟩:=hr
    exact (goX_both e.outs z hr).trans h
   ·exact callI_sound hs hm g args G K x h
theorem psOk_mem {n:Nat}:∀ {l:List Tmp},psOk n l=true→∀ t∈l,t < n
 | [],_,t,ht=>by simp at ht
 | a :: l,h,t,ht=>by
  simp only [psOk,Bool.and_eq_true] at h
  rcases List.mem_cons.1 ht with rfl | ht
  ·exact blt_lt h.1
  ·exact psOk_mem h.2 t ht
theorem rndO_sound (hs:SoundE C ih) {X:Type} {cmb:Option X→Option X→Option X} (hm:CmbOk cmb):RndOk C.D.toEnv (rndO C ih cmb):=fun id args G K x h=>by
 unfold rndO at h
 split at h
 ·rename_i p fp sl n ps asn bd d hG
  obtain ⟨hc,h⟩:=cond_some h
  simp only [Bool.and_eq_true] at hc
  obtain ⟨⟨⟨h1,h2⟩,h3⟩,h4⟩:=hc
  refine ARound.intro hG (Nat.eq_of_beq_eq_true h1) (psOk_mem h2) ((hs _ _ asn X cmb hm _ _ x h3 h).mono fun e s1 hq=>?_)
  have hq:=hq.1
  unfold assignQ
  cases e with
  | normal=>
   simp only at hq ⊢
   split at hq
   ·rename_i p' fn sl' n' ps' asn' bd' d' hG1
    rw [hG1]
    simp only
    refine (hs _ _ bd X cmb hm _ _ x h4 hq).mono fun e2 s2 hq2=>?_
    have hq2:roundO id K e2 s2=some x:=hq2.1
    unfold roundO at hq2
    unfold roundQ
    split at hq2
    ·rename_i hG2
     rw [hG2]
     cases e2 <;> first | (cases hq2; done) | exact hq2
    ·cases hq2
   ·cases hq
  | _=>cases hq
 ·cases h
theorem AWpX.of {E:Env} {c:Code} {Q Q':Exit→St→Prop} {s:St} (h:AWpX E c Q s) (hq:∀ e s',Q e s'→Ext0 s s'→Q' e s'):AWp E c Q' s:=
 AWp.mono h fun e s' hh=>hq e s' hh.1 hh.2
theorem decJ_go {s s':St} {e:Exit}:∀ {outs:List (XK × Tmpl)} {o:JT outs},decJ s outs e s'=some o→∃ (t:Tmpl) (v:t.ps.T),t.dec s s'=some v∧∀ (α:Type) (K:Exit→St→α),goJ s outs o K=K e (t.st s v)
 | [],o,h=>by cases h
 | [x],o,h=>by
  obtain ⟨h1,h2⟩:=cond_some (show (bif x.1.is e then x.2.dec s s' else none)=some o from h)
  exact ⟨x.2,o,h2,fun _ K=>by rw [XK.is_eq h1]; rfl⟩
 | x :: y :: l,o,h=>by
  have h:(bif x.1.is e then (x.2.dec s s').bind fun v=>some (.inl v) else (decJ s (y :: l) e s').bind fun o=>some (.inr o))=some o:=h
  cases hx:x.1.is e with
  | true=>
   rw [hx] at h
   obtain ⟨v,h1,h2⟩:=bind_some h
   cases h2
   exact ⟨x.2,v,h1,fun _ K=>by rw [XK.is_eq hx]; rfl⟩
  | false=>
   rw [hx] at h
   obtain ⟨v,h1,h2⟩:=bind_some h
   cases h2
   obtain ⟨t,u,k1,k2⟩:=decJ_go h1
   exact ⟨t,u,k1,fun α K=>k2 α K⟩
theorem Tmpl.st_ext (t:Tmpl) (s:St) (v:t.ps.T):Ext0 s (t.st s v):=by
 have h1:∀ (W:List Tmp) (b:Slots),∃ pre,putW W b=pre++b:=fun W b=>by
  induction W with
  | nil=>exact ⟨[],rfl⟩
  | cons t W ih=>obtain ⟨p,hp⟩:=ih; exact ⟨.put t .none :: p,by simp [putW,hp]⟩
 have h2:∀ (ts:List Tmp) (l:List AV) (b:Slots),∃ pre,putSl ts l b=pre++b:=fun ts=>by
  induction ts with
  | nil=>intro l b; exact ⟨[],by cases l <;> rfl⟩
  | cons t ts ih=>
   intro l b
   cases l with
   | nil=>exact ⟨[],rfl⟩
   | cons a l=>obtain ⟨p,hp⟩:=ih l b; exact ⟨.put t (.v a) :: p,by simp [putSl,hp]⟩
 have h3:∀ (bx:List (Nat × Nat)) (l:List AV) (b:Boxes),∃ pre,putBx bx l b=pre++b:=fun bx=>by
  induction bx with
  | nil=>intro l b; exact ⟨[],rfl⟩
  | cons x bx ih=>
   obtain ⟨k,n⟩:=x
   intro l b
   obtain ⟨p,hp⟩:=ih (l.drop n) b
   exact ⟨(k,l.take n) :: p,by simp [putBx,hp]⟩
 have h4:∀ (l:List (Tmp × Nat × Nat)) (b:Slots),∃ pre,putLps l b=pre++b:=fun l b=>by
  induction l with
  | nil=>exact ⟨[],rfl⟩
  | cons x l ih=>obtain ⟨t,k,o⟩:=x; obtain ⟨p,hp⟩:=ih; exact ⟨.put t (.lp k o) :: p,by simp [putLps,hp]⟩
 obtain ⟨p1,e1⟩:=h1 t.W s.slots
 obtain ⟨p2,e2⟩:=h2 t.sl (t.vals v) (putW t.W s.slots)
 obtain ⟨p3,e3⟩:=h3 t.bx ((t.vals v).drop t.sl.length) s.boxes
 obtain ⟨p4,e4⟩:=h4 t.lps (p2++(p1++s.slots))
 exact ⟨⟨p4++(p2++p1),by rw [show (t.st s v).slots=putLps t.lps (putSl t.sl (t.vals v) (putW t.W s.slots)) from rfl,e2,e1,e4,List.append_assoc,List.append_assoc]⟩,⟨p3,e3⟩,rfl⟩
theorem AWp.loopT {E:Env} {c:Code} {s s1:St} {gh:List (Loc × Nat × TypeId)} {head:Tmpl} {outs:List (XK × Tmpl)} {rd:head.ps.T→Option (head.ps.T ⊕ JT outs)} {N:Nat} {v0:head.ps.T} {o:JT outs} {Q:Exit→St→Prop}
  (hg:Am.ghosts gh s=some s1) (h0:head.dec s1 s1=some v0) (hr:∀ v r,rd v=some r→AWpX E c (fun e s'=>loopO s1 head outs e s'=some r) (head.st s1 v))
  (hl:loopR rd N v0=some o) (hQ:∀ (t:Tmpl) (v:t.ps.T) (e:Exit),(∀ (α:Type) (K:Exit→St→α),goJ s1 outs o K=K e (t.st s1 v))→Q e (t.st s1 v)∧Ext0 s (t.st s1 v)) :
  AWpX E (.loop c) Q s:=fun R0 w β a F hr0 hf0=>by
 obtain ⟨R,k1,k2,k3,_⟩:=ghosts_rep hr0 hg
 have hf:FenceOk R s1.ro F:=by rw [k3]; exact hf0.mono k2.ext
 obtain ⟨i1,i2⟩:=Tmpl.rep (Ext0.refl s1) k1 k1 (Step.refl R w β s1.boxes) h0
 refine wpIn_loopN (fun m a' w'=>∃ v R' β',loopR rd m v=some o∧Rep E R' w' β' (head.st s1 v) a'∧Step R w β s1.boxes R' w' β' (head.st s1 v).boxes) ?_ ⟨v0,_,β,hl,i1,i2⟩
 rintro m a' w' ⟨v,R',β',hm,hr',hst⟩
 cases m with
 | zero=>cases hm
 | succ m=>
  obtain ⟨r,h1,h2⟩:=bind_some (show ((rd v).bind fun o=>Sum.elim (fun v'=>loopR rd m v') (fun x=>some x) o)=some o from hm)
  refine wpIn_mono (hr v r h1 R' w' β' a' F hr' (hf.mono hst.ext)) ?_
  rintro e a2 w2 ⟨s2,R2,β2,⟨hK,hx⟩,hr2,hst2,hro2⟩
  have hx2:Ext0 s1 s2:=(head.st_ext s1 v).trans hx
  have st2:=hst.trans hst2
  have out:∀ {u:JT outs},decJ s1 outs e s2=some u→r=.inr u→Res E R0 w β s (fun e s'=>Q e s'∧Ext0 s s') e a2 w2:=fun {u} hu hru=>by
   subst hru
   cases h2
   obtain ⟨t,v',q1,q2⟩:=decJ_go hu
   obtain ⟨j1,j2⟩:=Tmpl.rep hx2 k1 hr2 st2 q1
   exact ⟨t.st s1 v',_,β2,hQ t v' e q2,j1,k2.trans j2,k3⟩
  cases e with
  | normal=>
   obtain ⟨v',q1,q2⟩:=bind_some (show ((head.dec s1 s2).bind fun v=>some (.inl v))=some r from hK)
   cases q2
   obtain ⟨j1,j2⟩:=Tmpl.rep hx2 k1 hr2 st2 q1
   exact ⟨m,Nat.lt_succ_self m,v',_,β2,h2,j1,j2⟩
  | exit i=>obtain ⟨u,q1,q2⟩:=bind_some (show ((decJ s1 outs (.exit i) s2).bind fun o=>some (.inr o))=some r from hK); exact out q1 (Option.some.inj q2).symm
  | ret=>obtain ⟨u,q1,q2⟩:=bind_some (show ((decJ s1 outs .ret s2).bind fun o=>some (.inr o))=some r from hK); exact out q1 (Option.some.inj q2).symm
  | goto i=>obtain ⟨u,q1,q2⟩:=bind_some (show ((decJ s1 outs (.goto i) s2).bind fun o=>some (.inr o))=some r from hK); exact out q1 (Option.some.inj q2).symm
  | panic i=>obtain ⟨u,q1,q2⟩:=bind_some (show ((decJ s1 outs (.panic i) s2).bind fun o=>some (.inr o))=some r from hK); exact out q1 (Option.some.inj q2).symm
  | outgrown=>obtain ⟨u,q1,q2⟩:=bind_some (show ((decJ s1 outs .outgrown s2).bind fun o=>some (.inr o))=some r from hK); exact out q1 (Option.some.inj q2).symm
theorem AWp.loopTK {E:Env} {c:Code} {s s1:St} {gh:List (Loc × Nat × TypeId)} {head:Tmpl} {outs:List (XK × Tmpl)} {rd:(head.ps.T→Option (JT outs))→head.ps.T→Option (JT outs)} {N:Nat} {v0:head.ps.T} {o:JT outs} {Q:Exit→St→Prop}
  (hg:Am.ghosts gh s=some s1) (h0:head.dec s1 s1=some v0) (hr:∀ k v u,rd k v=some u→AWpX E c (fun e s'=>loopKO s1 head outs k e s'=some u) (head.st s1 v))
  (hl:loopK rd N v0=some o) (hQ:∀ (t:Tmpl) (v:t.ps.T) (e:Exit),(∀ (α:Type) (K:Exit→St→α),goJ s1 outs o K=K e (t.st s1 v))→Q e (t.st s1 v)∧Ext0 s (t.st s1 v)) :
  AWpX E (.loop c) Q s:=fun R0 w β a F hr0 hf0=>by
 obtain ⟨R,k1,k2,k3,_⟩:=ghosts_rep hr0 hg
 have hf:FenceOk R s1.ro F:=by rw [k3]; exact hf0.mono k2.ext
 obtain ⟨i1,i2⟩:=Tmpl.rep (Ext0.refl s1) k1 k1 (Step.refl R w β s1.boxes) h0
 refine wpIn_loopN (fun m a' w'=>∃ v R' β',loopK rd m v=some o∧Rep E R' w' β' (head.st s1 v) a'∧Step R w β s1.boxes R' w' β' (head.st s1 v).boxes) ?_ ⟨v0,_,β,hl,i1,i2⟩
 rintro m a' w' ⟨v,R',β',hm,hr',hst⟩
 cases m with
 | zero=>cases hm
 | succ m=>
  refine wpIn_mono (hr (loopK rd m) v o hm R' w' β' a' F hr' (hf.mono hst.ext)) ?_
  rintro e a2 w2 ⟨s2,R2,β2,⟨hK,hx⟩,hr2,hst2,hro2⟩
  have hx2:Ext0 s1 s2:=(head.st_ext s1 v).trans hx
  have st2:=hst.trans hst2
  have out:decJ s1 outs e s2=some o→Res E R0 w β s (fun e s'=>Q e s'∧Ext0 s s') e a2 w2:=fun hu=>by
   obtain ⟨t,v',q1,q2⟩:=decJ_go hu
   obtain ⟨j1,j2⟩:=Tmpl.rep hx2 k1 hr2 st2 q1
   exact ⟨t.st s1 v',_,β2,hQ t v' e q2,j1,k2.trans j2,k3⟩
  cases e with
  | normal=>
   obtain ⟨v',q1,q2⟩:=bind_some (show (head.dec s1 s2).bind (loopK rd m)=some o from hK)
   obtain ⟨j1,j2⟩:=Tmpl.rep hx2 k1 hr2 st2 q1
   exact ⟨m,Nat.lt_succ_self m,v',_,β2,q2,j1,j2⟩
  | exit i=>exact out hK
  | ret=>exact out hK
  | goto i=>exact out hK
  | panic i=>exact out hK
  | outgrown=>exact out hK
end
def PreOk (E:Env):List Bool→Code→(Exit→St→Prop)→St→Prop
 | [],_,Q,s=>Q .normal s
 | true :: k,.seq x y,Q,s=>AWpX E x (thenQ (PreOk E k y Q) Q) s
 | false :: k,.seq x _,Q,s=>PreOk E k x Q s
 | _ :: _,_,_,_=>False
def SufOk (E:Env):List Bool→Code→(Exit→St→Prop)→St→Prop
 | [],c,Q,s=>AWpX E c Q s
 | true :: k,.seq _ y,Q,s=>SufOk E k y Q s
 | false :: k,.seq x y,Q,s=>SufOk E k x (thenQ (AWpX E y Q) Q) s
 | _ :: _,_,_,_=>False
def SufIn (F:Fence) (P:Program):List Bool→Code→(Exit→Act→World→Prop)→Act→World→Prop
 | [],c,Q,a,w=>c.wpIn F 0 P Q a w
 | true :: k,.seq _ y,Q,a,w=>SufIn F P k y Q a w
 | false :: k,.seq x y,Q,a,w=>SufIn F P k x (Exit.then (fun a' w'=>y.wpIn F 0 P Q a' w') Q) a w
 | _ :: _,_,_,_,_=>False
section rot
variable {E:Env} {s1:St} {R:Realm} {w:World} {β:Nat→Nat} {F:Fence}
def At (E:Env) (s1:St) (R:Realm) (w:World) (β:Nat→Nat) (s:St) (a:Act) (w':World):Prop:=
 ∃ R' β',Ext0 s1 s∧Rep E R' w' β' s a∧Step R w β s1.boxes R' w' β' s.boxes∧s.ro=s1.ro
theorem AWpX.at {c:Code} {Q:Exit→St→Prop} {s:St} {a:Act} {w':World} {Φ:Exit→Act→World→Prop} (hf:FenceOk R s1.ro F) (h:AWpX E c Q s) (hat:At E s1 R w β s a w') (hQ:∀ e s' a' w',Q e s'→At E s1 R w β s' a' w'→Φ e a' w'):c.wpIn F 0 E.P Φ a w':=by
 obtain ⟨R',β',hx,hr,hst,hro⟩:=hat
 refine wpIn_mono (h R' w' β' a F hr (by rw [hro]; exact hf.mono hst.ext)) ?_
 rintro e a2 w2 ⟨s2,R2,β2,⟨hq,hx2⟩,hr2,hst2,hro2⟩
 exact hQ e s2 a2 w2 hq ⟨R2,β2,hx.trans hx2,hr2,hst.trans hst2,hro2.trans hro⟩
theorem SufOk.at (hf:FenceOk R s1.ro F):∀ (k:List Bool) (c:Code) {Q:Exit→St→Prop} {s:St} {a:Act} {w':World} {Φ:Exit→Act→World→Prop},SufOk E k c Q s→At E s1 R w β s a w'→(∀ e s' a' w',Q e s'→At E s1 R w β s' a' w'→Φ e a' w')→SufIn F E.P k c Φ a w'
 | [],c,Q,s,a,w',Φ,h,hat,hQ=>AWpX.at hf h hat hQ
 | true :: k,c,Q,s,a,w',Φ,h,hat,hQ=>by
  cases c with
  | seq x y=>exact SufOk.at hf k y h hat hQ
  | _=>exact h.elim
 | false :: k,c,Q,s,a,w',Φ,h,hat,hQ=>by
  cases c with
  | seq x y=>
   refine SufOk.at hf k x (Q:=thenQ (AWpX E y Q) Q) h hat fun e s' a' w' hq hat'=>?_
   cases e with
   | normal=>exact AWpX.at hf hq hat' hQ
   | _=>exact hQ _ s' a' w' hq hat'
  | _=>exact h.elim
theorem PreOk.at (hf:FenceOk R s1.ro F):∀ (k:List Bool) (c:Code) {Q:Exit→St→Prop} {s:St} {a:Act} {w':World} {Φ:Exit→Act→World→Prop},PreOk E k c Q s→At E s1 R w β s a w' →
  (∀ s' a' w',Q .normal s'→At E s1 R w β s' a' w'→SufIn F E.P k c Φ a' w')→(∀ e s' a' w',e≠.normal→Q e s'→At E s1 R w β s' a' w'→Φ e a' w')→c.wpIn F 0 E.P Φ a w'
 | [],c,Q,s,a,w',Φ,h,hat,hS,hQ=>hS s a w' h hat
 | true :: k,c,Q,s,a,w',Φ,h,hat,hS,hQ=>by
  cases c with
  | seq x y=>
   refine wpIn_seq (AWpX.at hf (show AWpX E x (thenQ (PreOk E k y Q) Q) s from h) hat fun e s' a' w' hq hat'=>?_)
   cases e with
   | normal=>exact PreOk.at hf k y hq hat' hS hQ
   | exit i=>exact hQ _ s' a' w' (by simp) hq hat'
   | ret=>exact hQ _ s' a' w' (by simp) hq hat'
   | goto i=>exact hQ _ s' a' w' (by simp) hq hat'
   | panic i=>exact hQ _ s' a' w' (by simp) hq hat'
   | outgrown=>exact hQ _ s' a' w' (by simp) hq hat'
  | _=>exact h.elim
 | false :: k,c,Q,s,a,w',Φ,h,hat,hS,hQ=>by
  cases c with
  | seq x y=>
   refine wpIn_seq (PreOk.at hf k x (Q:=Q) h hat hS fun e s' a' w' hne hq hat'=>?_)
   cases e with
   | normal=>exact absurd rfl hne
   | exit i=>exact hQ _ s' a' w' hne hq hat'
   | ret=>exact hQ _ s' a' w' hne hq hat'
   | goto i=>exact hQ _ s' a' w' hne hq hat'
   | panic i=>exact hQ _ s' a' w' hne hq hat'
   | outgrown=>exact hQ _ s' a' w' hne hq hat'
  | _=>exact h.elim
end rot
theorem AWp.loopRot {E:Env} {b:Code} {s s1:St} {gh:List (Loc × Nat × TypeId)} {head:Tmpl} {outs:List (XK × Tmpl)} {pre:St→Option (head.ps.T ⊕ JT outs)} {rd:head.ps.T→Option (head.ps.T ⊕ JT outs)} {N:Nat} {k:List Bool} {r0:head.ps.T ⊕ JT outs} {o:JT outs} {Q:Exit→St→Prop}
  (hg:Am.ghosts gh s=some s1) (h0:pre s1=some r0)
  (hp:∀ s2 r,pre s2=some r→PreOk E k b (fun e s'=>loopO s1 head outs e s'=some r) s2)
  (hr:∀ v r,rd v=some r→SufOk E k b (fun e s'=>thenO pre (loopO s1 head outs) e s'=some r) (head.st s1 v))
  (hl:Sum.elim (fun v=>loopR rd N v) (fun x=>some x) r0=some o) (hQ:∀ (t:Tmpl) (v:t.ps.T) (e:Exit),(∀ (α:Type) (K:Exit→St→α),goJ s1 outs o K=K e (t.st s1 v))→Q e (t.st s1 v)∧Ext0 s (t.st s1 v)) :
  AWpX E (.loop b) Q s:=fun R0 w β a F hr0 hf0=>by
 obtain ⟨R,k1,k2,k3,_⟩:=ghosts_rep hr0 hg
 have hf:FenceOk R s1.ro F:=by rw [k3]; exact hf0.mono k2.ext
 refine wpIn_loopN (fun n a' w'=>∃ s2 r,pre s2=some r∧Sum.elim (fun v=>loopR rd n v) (fun x=>some x) r=some o∧At E s1 R w β s2 a' w') ?_ ⟨s1,r0,h0,hl,R,β,Ext0.refl s1,k1,Step.refl _ _ _ _,rfl⟩
 rintro n a' w' ⟨s2,r,hpr,hlr,hat⟩
 -- a way out
 have out:∀ {e:Exit} {s3:St} {a3:Act} {w3:World} {r:head.ps.T ⊕ JT outs} {n:Nat},e≠.normal→loopO s1 head outs e s3=some r→Sum.elim (fun v=>loopR rd n v) (fun x=>some x) r=some o→At E s1 R w β s3 a3 w3→Res E R0 w β s (fun e s'=>Q e s'∧Ext0 s s') e a3 w3:=fun {e s3 a3 w3 r n} hne hK hlr hat=>by
  obtain ⟨R3,β3,hx3,hr3,hst3,hro3⟩:=hat
  have key:∀ {u:JT outs},decJ s1 outs e s3=some u→r=.inr u→Res E R0 w β s (fun e s'=>Q e s'∧Ext0 s s') e a3 w3:=fun {u} hu hru=>by
   subst hru
   obtain rfl:=Option.some.inj hlr
   obtain ⟨t,v',q1,q2⟩:=decJ_go hu
   obtain ⟨j1,j2⟩:=Tmpl.rep hx3 k1 hr3 hst3 q1
   exact ⟨t.st s1 v',_,_,hQ t v' _ q2,j1,k2.trans j2,k3⟩
  cases e with
  | normal=>exact absurd rfl hne
  | exit i=>obtain ⟨u,q1,q2⟩:=bind_some (show ((decJ s1 outs (.exit i) s3).bind fun o=>some (.inr o))=some r from hK); exact key q1 (Option.some.inj q2).symm
  | ret=>obtain ⟨u,q1,q2⟩:=bind_some (show ((decJ s1 outs .ret s3).bind fun o=>some (.inr o))=some r from hK); exact key q1 (Option.some.inj q2).symm
  | goto i=>obtain ⟨u,q1,q2⟩:=bind_some (show ((decJ s1 outs (.goto i) s3).bind fun o=>some (.inr o))=some r from hK); exact key q1 (Option.some.inj q2).symm
  | panic i=>obtain ⟨u,q1,q2⟩:=bind_some (show ((decJ s1 outs (.panic i) s3).bind fun o=>some (.inr o))=some r from hK); exact key q1 (Option.some.inj q2).symm
  | outgrown=>obtain ⟨u,q1,q2⟩:=bind_some (show ((decJ s1 outs .outgrown s3).bind fun o=>some (.inr o))=some r from hK); exact key q1 (Option.some.inj q2).symm
 refine PreOk.at hf k b (hp s2 r hpr) hat (fun s3 a3 w3 hK hat3=>?_) (fun e s3 a3 w3 hne hK hat3=>?_)
 ·obtain ⟨v,q1,q2⟩:=bind_some (show ((head.dec s1 s3).bind fun v=>some (.inl v))=some r from hK)
  obtain rfl:=Option.some.inj q2
  have hlv:loopR rd n v=some o:=hlr
  cases n with
  | zero=>cases hlv
  | succ n=>
   obtain ⟨r',h1,h2⟩:=bind_some (show ((rd v).bind fun o=>Sum.elim (fun v'=>loopR rd n v') (fun x=>some x) o)=some o from hlv)
   obtain ⟨R3,β3,hx3,hr3,hst3,hro3⟩:=hat3
   obtain ⟨j1,j2⟩:=Tmpl.rep hx3 k1 hr3 hst3 q1
   refine SufOk.at hf k b (hr v r' h1) ⟨_,_,head.st_ext s1 v,j1,j2,rfl⟩ fun e s4 a4 w4 hK4 hat4=>?_
   cases e with
   | normal=>exact ⟨n,Nat.lt_succ_self n,s4,r',hK4,h2,hat4⟩
   | exit i=>exact out (by simp) hK4 h2 hat4
   | ret=>exact out (by simp) hK4 h2 hat4
   | goto i=>exact out (by simp) hK4 h2 hat4
   | panic i=>exact out (by simp) hK4 h2 hat4
   | outgrown=>exact out (by simp) hK4 h2 hat4
 ·have:=out hne hK hlr hat3
  cases e with
  | normal=>exact absurd rfl hne
  | _=>exact this
theorem preO_sound {C:Ctx} {ih:EvT} (hs:SoundE C ih) {X:Type} {f:FuncId} {K:Exit→St→Option X}:∀ (k:List Bool) (q:Nat) (c:Code) (s:St) (x:X),codeDraws (C.D.dt f) c=true→preO ih eqC f K k q c s=some x→PreOk C.D.toEnv k c (fun e s'=>K e s'=some x) s
 | [],_,_,_,_,_,h=>h
 | true :: k,q,c,s,x,hd,h=>by
  cases c with
  | seq a b=>
   rw [codeDraws,Bool.and_eq_true] at hd
   refine (hs f _ a X eqC eqC_ok _ s x hd.1 h).of fun e s' hq hx=>?_
   cases e with
   | normal=>exact ⟨preO_sound hs k (2 * q+1) b s' x hd.2 hq,hx⟩
   | _=>exact ⟨hq,hx⟩
  | _=>cases h
 | false :: k,q,c,s,x,hd,h=>by
  cases c with
  | seq a b=>
   rw [codeDraws,Bool.and_eq_true] at hd
   exact preO_sound hs k (2 * q) a s x hd.1 h
  | _=>cases h
theorem SufOk.mono {E:Env}:∀ (k:List Bool) (c:Code) {Q Q':Exit→St→Prop} {s:St},(∀ e s',Q e s'→Q' e s')→SufOk E k c Q s→SufOk E k c Q' s
 | [],c,Q,Q',s,hQ,h=>AWp.mono h fun e s' hh=>⟨hQ e s' hh.1,hh.2⟩
 | true :: k,c,Q,Q',s,hQ,h=>by
  cases c with
  | seq x y=>exact SufOk.mono k y hQ h
  | _=>exact h.elim
 | false :: k,c,Q,Q',s,hQ,h=>by
  cases c with
  | seq x y=>
   refine SufOk.mono k x (Q:=thenQ (AWpX E y Q) Q) (Q':=thenQ (AWpX E y Q') Q') (fun e s' hq=>?_) h
   cases e with
   | normal=>exact AWp.mono hq fun e s' hh=>⟨hQ e s' hh.1,hh.2⟩
   | _=>exact hQ _ s' hq
  | _=>exact h.elim
theorem sufO_sound {C:Ctx} {ih:EvT} (hs:SoundE C ih) {X:Type} {f:FuncId}:∀ (k:List Bool) (q:Nat) (c:Code) (K:Exit→St→Option X) (s:St) (x:X),codeDraws (C.D.dt f) c=true→sufO ih eqC f k q c K s=some x→SufOk C.D.toEnv k c (fun e s'=>K e s'=some x) s
 | [],_,c,K,s,x,hd,h=>hs f _ c X eqC eqC_ok K s x hd h
 | true :: k,q,c,K,s,x,hd,h=>by
  cases c with
  | seq a b=>
   rw [codeDraws,Bool.and_eq_true] at hd
   exact sufO_sound hs k (2 * q+1) b K s x hd.2 h
  | _=>cases h
 | false :: k,q,c,K,s,x,hd,h=>by
  cases c with
  | seq a b=>
   rw [codeDraws,Bool.and_eq_true] at hd
   refine SufOk.mono k a (fun e s' hq=>?_) (sufO_sound hs k (2 * q) a _ s x hd.1 h)
   cases e with
   | normal=>exact hs f _ b X eqC eqC_ok K s' x hd.2 hq
   | _=>exact hq
  | _=>cases h
theorem ev_sound {C:Ctx} (htab:∀ g e,C.tab g=some e→EntryOk C.D.toEnv g e) (n:Nat):SoundE C (ev C n):=by
 induction n using Nat.strongRecOn with
 | _ n ihn=>
 cases n with
 | zero=>intro f p c X cmb _ K s x _ h; cases h
 | succ n=>
  have hs:=ihn n (Nat.lt_succ_self n)
  have plain:∀ (f:FuncId) (p:Nat) (c:Code) (X:Type) (cmb:Option X→Option X→Option X),CmbOk cmb→∀ (K:Exit→St→Option X) (s:St) (x:X),((∃ b,c=.loop b)→C.cert f p=none) →
    codeDraws (C.D.dt f) c=true→plainO C (ev C n) f p c X cmb K s=some x→AWpX C.D.toEnv c (fun e s'=>K e s'=some x) s:=by
   intro f p c X cmb hm K s x hcl hd h
   have hcall:=callO_sound htab hs hm
   have hrnd:=rndO_sound hs hm
   unfold plainO at h
   cases c with
   | skip=>exact AWp.skip ⟨h,Ext0.refl s⟩
   | label l=>exact AWp.label ⟨h,Ext0.refl s⟩
   | exit id=>exact AWp.exit ⟨h,Ext0.refl s⟩
   | ret=>exact AWp.ret ⟨h,Ext0.refl s⟩
   | seq a b=>
    rw [codeDraws,Bool.and_eq_true] at hd
    refine AWp.seq ((hs f _ a X cmb hm _ s x hd.1 h).of fun e s' hq hx=>?_)
    cases e with
    | normal=>exact (hs f _ b X cmb hm _ s' x hd.2 hq).of fun e s2 hq2 hx2=>⟨hq2,hx.trans hx2⟩
    | _=>exact ⟨hq,hx⟩
   | cond co a b=>
    rw [codeDraws,Bool.and_eq_true] at hd
    simp only at h
    split at h
    ·rename_i t hb
     refine AWp.cond hb (fun e=>?_) (fun e=>?_)
     ·subst e; exact hs f _ a X cmb hm _ s x hd.1 h
     ·subst e; exact hs f _ b X cmb hm _ s x hd.2 h
    ·cases h
   | block id c=>
    refine AWp.block ((hs f _ c X cmb hm _ s x hd h).of fun e s' hq hx=>?_)
    cases e with
    | exit id'=>
     simp only [blockO] at hq
     refine ⟨fun e=>?_,fun e=>?_⟩
     ·subst e; rw [beq_self] at hq; exact ⟨hq,hx⟩
     ·rw [beq_ne e] at hq; exact ⟨hq,hx⟩
    | _=>exact ⟨hq,hx⟩
   | scope c=>
    refine AWp.scope ((hs f _ c X cmb hm _ s x hd h).of fun e s' hq hx=>?_)
    cases e with
    | goto l=>cases hq
    | _=>exact ⟨hq,hx⟩
   | region id ops dr=>
    cases dr with
    | false=>exact AWp.region (f:=f) (awOps_ext (oOps_sound hcall hrnd h))
    | true=>
     simp only at h
     rw [codeDraws] at hd
     split at h
     ·rename_i pl hT
      rw [hT] at hd
      exact AWp.draw (f:=f) hd (awT_ext (oT_sound hcall hrnd hm h))
     ·cases h
   | loop b=>
    have hcert:=hcl ⟨b,rfl⟩
    refine AWp.loop (fun m s'=>m≤n+1∧ev C m f p (.loop b) X cmb K s'=some x∧Ext0 s s') ?_ (m:=n+1) ⟨Nat.le_refl _,?_,Ext0.refl s⟩
    ·rintro m s' ⟨hm',hr,hx⟩
     cases m with
     | zero=>cases hr
     | succ m=>
      have hr':stepE C (ev C m) f p (.loop b) X cmb K s'=some x:=hr
      unfold stepE at hr'
      rw [hcert] at hr'
      refine (ihn m (by omega) f _ b X cmb hm _ s' x hd hr').of fun e s2 hq hx2=>?_
      cases e with
      | normal=>exact ⟨m,Nat.lt_succ_self m,by omega,hq,hx.trans hx2⟩
      | _=>exact ⟨hq,hx.trans hx2⟩
    ·show stepE C (ev C n) f p (.loop b) X cmb K s=some x
     unfold stepE
     rw [hcert]
     exact h
   | rangeFunc g ps asn bd=>
    simp only at h
    split at h
    ·rename_i hro
     split at h
     ·rename_i hf first cap hg
      refine AWp.rangeFunc (4096 * p+f) hro hg ((hcall _ _ _ _ _ h).mono fun r G' hq=>?_)
      unfold rfQ
      split at hq
      ·rename_i busy pending fn sl nn pp aa bb dd done hnth
       rw [hnth]
       simp only
       obtain ⟨h1,h2⟩:=cond_some hq
       refine ⟨by cases busy <;> cases done <;> simp_all,?_⟩
       have hxx:∀ (G:List GO) (m:List Nat),Ext0 s ⟨s.slots,s.boxes,G,m,s.ro,s.n⟩:=fun _ _=>⟨⟨[],rfl⟩,⟨[],rfl⟩,rfl⟩
       split at h2
       ·rw [frc_eq] at h2; exact ⟨h2,hxx _ _⟩
       ·rw [frc_eq] at h2; exact AWp.ret ⟨h2,hxx _ _⟩
       ·rw [frc_eq] at h2; exact AWp.exit ⟨h2,hxx _ _⟩
       ·cases h2
      ·cases hq
     ·cases h
    ·cases h
   | _=>cases h
  intro f p c X cmb hm K s x hd h
  change stepE C (ev C n) f p c X cmb K s=some x at h
  unfold stepE at h
  split at h
  ·rename_i hc
   exact plain f p c X cmb hm K s x (fun _=>hc) hd h
  ·rename_i ct hct
   split at h
   ·rename_i outs0 hc
    generalize fillW (asgC c []) outs0=outs at h
    cases hil:isLoop c with
    | true=>rw [hil] at h; cases h
    | false=>
    rw [hil] at h
    obtain ⟨o,h1,h2⟩:=bind_some (show (plainO C (ev C n) f p c (JT outs) eqC (decJ s outs) s).bind (fun o=>goJ s outs o K)=some x from h)
    have hp:=plain f p c (JT outs) eqC eqC_ok (decJ s outs) s o (fun ⟨b,hb⟩=>by subst hb; cases hil) hd h1
    refine AWp.tmpl (s:=s) (Q':=fun e s'=>decJ s outs e s'=some o) (AWp.mono hp fun e s' hh=>⟨hh.2,hh.1⟩) fun e s' hq=>?_
    obtain ⟨t,v,q1,q2⟩:=decJ_go hq
    exact ⟨t,v,q1,(q2 _ K).symm.trans h2,t.st_ext s v⟩
   ·rename_i gh head0 outs0 hc
    split at h
    ·rename_i b
     split at h
     ·rename_i s1 hg
      generalize fillW (asgC b []) outs0=outs at h
      generalize fillT (asgC b []) head0=head at h
      unfold loopE at h
      obtain ⟨v0,h0,h⟩:=bind_some h
      obtain ⟨o,hl,h⟩:=bind_some h
      refine AWp.loopT hg h0 (fun v r hr=>hs f _ b _ eqC eqC_ok _ _ r hd hr) hl fun t v e hgo=>?_
      exact ⟨(hgo _ K).symm.trans h,(ghosts_ext hg).trans (t.st_ext s1 v)⟩
     ·cases h
    ·cases h
   ·rename_i k gh head0 outs0 hc
    split at h
    ·rename_i b
     split at h
     ·rename_i s1 hg
      generalize fillW (asgC b []) outs0=outs at h
      generalize fillT (asgC b []) head0=head at h
      unfold rotE at h
      obtain ⟨o,hl,h⟩:=bind_some h
      obtain ⟨r0,h0,hl⟩:=bind_some hl
      refine AWp.loopRot hg h0 (fun s2 r hr=>preO_sound hs k (2 * p) b s2 r hd hr) (fun v r hr=>sufO_sound hs k (2 * p) b _ _ r hd hr) hl fun t v e hgo=>?_
      exact ⟨(hgo _ K).symm.trans h,(ghosts_ext hg).trans (t.st_ext s1 v)⟩
     ·cases h
    ·cases h
   ·rename_i gh head0 outs0 hc
    split at h
    ·rename_i b
     split at h
     ·rename_i s1 hg
      generalize fillW (asgC b []) outs0=outs at h
      generalize fillT (asgC b []) head0=head at h
      unfold loopKE at h
      obtain ⟨v0,h0,h⟩:=bind_some h
      obtain ⟨o,hl,h⟩:=bind_some h
      refine AWp.loopTK hg h0 (fun k v u hu=>hs f _ b _ eqC eqC_ok _ _ u hd hu) hl fun t v e hgo=>?_
      exact ⟨(hgo _ K).symm.trans h,(ghosts_ext hg).trans (t.st_ext s1 v)⟩
     ·cases h
    ·cases h
   ·cases h
end Go.Am
namespace Go.Am
open Go
noncomputable def Ctx.fn (C:Ctx) (n:Nat) (g:FuncId) (ps:Pats) (p:Pat) (x:ps.T):Option p.T:=
 callI C (ev C n) eqC g (ps.enc x) [] (fun r _=>p.dec r)
theorem Ctx.fn_ok {C:Ctx} (htab:∀ g e,C.tab g=some e→EntryOk C.D.toEnv g e) {n:Nat} {g:FuncId} {ps:Pats} {p:Pat} (h1:ps.under 0=true) (h2:p.under 0=true) :
  EntryOk C.D.toEnv g ⟨ps,p,C.fn n g ps p⟩:=fun x y h=>by
 refine PCalls.mono (PCalls.of (p:=p) (Q:=fun z=>z=y) (ps.enc_under x h1) h2 ((callI_sound (ev_sound htab n) eqC_ok g _ [] _ y h).mono fun r _ hr=>⟨y,hr,rfl⟩)) ?_
 rintro r ⟨z,rfl,rfl⟩
 rfl
theorem PCalls.env {E E':Env} {g:FuncId} {args:List AV} {Q:AV→Prop} (hP:E.P=E'.P) (hg:E.glob=E'.glob) (h:PCalls E g args Q) (hlo:E.lo=E'.lo:=by rfl) (hgx:E.gx=E'.gx:=by rfl):PCalls E' g args Q:=by
 have go:∀ {R:Realm} {w:World} {x:Nat} {cs:List AV},GlobOk E R w x cs↔GlobOk E' R w x cs:=fun {R w x cs}=>by unfold GlobOk; rw [hgx]
 have rep:∀ {R:Realm} {w:World} {G:List GO},RepG E R w G↔RepG E' R w G:=fun {R w G}=>
  ⟨fun h=>⟨h.len,h.obj,h.inj,h.wf,fun g cs hh=>go.1 (h.glob g cs (by rw [hg]; exact hh)),by rw [← hlo]; exact h.lo⟩,fun h=>⟨h.len,h.obj,h.inj,h.wf,fun g cs hh=>go.2 (h.glob g cs (by rw [← hg]; exact hh)),by rw [hlo]; exact h.lo⟩⟩
 intro G
 obtain ⟨h1,h2⟩:=h G
 rw [hP] at h1 h2
 refine ⟨h1,fun R w cs hr hl=>(h2 R w cs (rep.2 hr) hl).mono fun e w' he=>?_⟩
 cases e with
 | returned c=>obtain ⟨r,G',R',k1,k2,k3,k4⟩:=he; exact ⟨r,G',R',k1,k2,rep.1 k3,k4⟩
 | panicked c=>exact he
 | outgrown=>exact he
theorem PCalls.more {E E':Env} {g:FuncId} {args:List AV} {Q:AV→Prop} (hP:E.P=E'.P) (hg:∀ g cs,E.glob g=some cs→E'.glob g=some cs) (h:PCalls E g args Q) (hlo:E.lo=E'.lo:=by rfl) (hgx:E.gx=fun _=>false:=by rfl):PCalls E' g args Q:=by
 intro G
 obtain ⟨h1,h2⟩:=h G
 rw [hP] at h1 h2
 refine ⟨h1,fun R w cs hr hl=>(h2 R w cs ⟨hr.len,hr.obj,hr.inj,hr.wf,fun g cs hh=>⟨(hr.glob g cs (hg g cs hh)).1,fun hx=>by rw [hgx] at hx; cases hx⟩,by rw [hlo]; exact hr.lo⟩ hl).mono fun e w' he=>?_⟩
 cases e with
 | returned c=>
  obtain ⟨r,G',R',k1,k2,k3,k4⟩:=he
  exact ⟨r,G',R',k1,k2,⟨k3.len,k3.obj,k3.inj,k3.wf,fun g cs hh=>(hr.glob g cs hh).mono k4.ext,by rw [← hlo]; exact k3.lo⟩,k4⟩
 | panicked c=>exact he
 | outgrown=>exact he
def tabF:List (Nat × Entry)→FuncId→Option Entry
 | [],_=>none
 | (a,e) :: l,g=>bif Nat.beq a g then some e else tabF l g
theorem tabF_ok {E:Env}:∀ {l:List (Nat × Entry)},(∀ a e,(a,e)∈l→EntryOk E a e)→∀ g e,tabF l g=some e→EntryOk E g e
 | [],_,g,e,h=>by cases h
 | (a,x) :: l,hl,g,e,h=>by
  unfold tabF at h
  cases hb:Nat.beq a g with
  | true=>
   rw [hb] at h
   cases h
   rw [← Nat.eq_of_beq_eq_true hb]
   exact hl a _ (by simp)
  | false=>
   rw [hb] at h
   exact tabF_ok (fun a e hm=>hl a e (by simp [hm])) g e h
def certL:List (Nat × Cert)→Nat→Option Cert
 | [],_=>none
 | (a,c) :: l,p=>bif Nat.beq a p then some c else certL l p
def certF:List (Nat × List (Nat × Cert))→FuncId→Nat→Option Cert
 | [],_,_=>none
 | (a,c) :: l,g,p=>bif Nat.beq a g then certL c p else certF l g p
def unitCmb:Option Unit→Option Unit→Option Unit
 | some _,some _=>some ()
 | _,_=>none
theorem unitCmb_ok:CmbOk unitCmb:=fun a b x h=>by
 cases a <;> cases b <;> first | (cases h; done) | exact ⟨rfl,rfl⟩
theorem closed_call {C:Ctx} (htab:∀ g e,C.tab g=some e→EntryOk C.D.toEnv g e) {n:Nat} {g:FuncId} {args:List AV} {p:Pat} {ok:p.T→Bool} (h1:underL 0 args=true) (h2:p.under 0=true)
  (h:callI C (ev C n) unitCmb g args [] (fun r _=>bif p.fits r&&ok (p.decD r) then some () else none)=some ()):PCalls C.D.toEnv g args (fun r=>∃ y,r=p.enc y∧ok y=true):=
 PCalls.of (p:=p) (Q:=fun y=>ok y=true) h1 h2 ((callI_sound (ev_sound htab n) unitCmb_ok g args [] _ () h).mono fun r _ hr=>by
  obtain ⟨k,_⟩:=cond_some hr
  rw [Bool.and_eq_true] at k
  exact ⟨p.decD r,by simp [Pat.dec,k.1],k.2⟩)
end Go.Am
namespace Go.Am
open Go
def allR (w:World):Realm:=⟨fun b _=>b < w.heap.size,[]⟩
mutual
def Pat.wf:(p:Pat)→p.T→Prop
 | .int k,(n:Int)=>k.min≤n∧n≤k.max
 | .bool,_=>True
 | .str,(s:List UInt8)=>s.length≤maxLen
 | .agg ps,x=>ps.wf x
 | .tup ps,x=>ps.wf x
 | .list _ p,(xs:List p.T)=>xs.length≤maxLen∧∀ x∈xs,p.wf x
 | .own _ _ p,(xs:List p.T)=>xs.length≤maxLen∧∀ x∈xs,p.wf x
 | .fam _ _ p,(x:Nat × List p.T)=>x.2.length≤maxLen∧∀ y∈x.2,p.wf y
 | .cst _,_=>True
 | .two _ _,_=>True
def Pats.wf:(ps:Pats)→ps.T→Prop
 | .nil,_=>True
 | .cons p .nil,x=>p.wf x
 | .cons p (.cons q ps),x=>p.wf x.1∧(Pats.cons q ps).wf x.2
end
def mkPats:List Pat→Pats
 | []=>.nil
 | p :: l=>.cons p (mkPats l)
def patS {β:Type} (g:β→Option (List Pat)):List β→Option (List Pat)
 | []=>some []
 | x :: l=>match g x,patS g l with
  | some a,some b=>some (a++b)
  | _,_=>none
def tiles {β:Type} (off len:β→Nat):Nat→List β→Option Nat
 | o,[]=>some o
 | o,x :: l=>bif Nat.beq (off x) o then tiles off len (o+len x) l else none
def isSome (n:Nat):Option Nat→Bool
 | some m=>Nat.beq m n
 | none=>false
def elemPat (ag:Bool) (ps:List Pat):Option Pat:=match ag,ps with
 | true,ps=>some (.agg (mkPats ps))
 | false,[p]=>some p
 | _,_=>none
def patF (P:Program):Nat→TypeId→Option (List Pat)
 | 0,_=>none
 | n+1,t=>match P.underlying t with
  | some .bool=>some [.bool]
  | some (.int k)=>some [.int k]
  | some .string=>some [.str]
  | some (.slice e)=>match patF P n e,P.underlying e with
   | some ps,some u=>match elemPat (Go.Am.aggD u) ps with
    | some pe=>bif Nat.blt 0 (P.cellsOf e) then some [.list (P.cellsOf e) pe] else none
    | none=>none
   | _,_=>none
  | some (.struct fs)=>bif isSome (P.cellsOf t) (tiles Field.offset (fun f=>P.cellsOf f.type) 0 fs.toList) then patS (fun f=>patF P n f.type) fs.toList else none
  | some (.array m e)=>bif isSome (P.cellsOf t) (tiles (fun i=>i * P.cellsOf e) (fun _=>P.cellsOf e) 0 (List.range m)) then patS (fun _=>patF P n e) (List.range m) else none
  | _=>none
def Leaf (a:AV):Prop:=a.notTup=true∧a.cells=[a]∧a.closed=true
def FitF:List Pat→List AV→Prop
 | [],[]=>True
 | p :: ps,a :: ags=>p.fits a=true∧(p.wf (p.decD a)∧Leaf a)∧FitF ps ags
 | _,_=>False
theorem FitF.append:∀ {ps qs:List Pat} {ags bs:List AV},FitF ps ags→FitF qs bs→FitF (ps++qs) (ags++bs)
 | [],_,[],_,_,h=>h
 | _ :: _,_,_ :: _,_,k,h=>⟨k.1,k.2.1,FitF.append k.2.2 h⟩
 | [],_,_ :: _,_,h,_=>h.elim
 | _ :: _,_,[],_,h,_=>h.elim
theorem FitF.mk:∀ {ps:List Pat} {ags:List AV},FitF ps ags→(mkPats ps).fits ags=true∧(mkPats ps).wf ((mkPats ps).decD ags)
 | [],[],_=>⟨rfl,trivial⟩
 | [p],[a],h=>⟨by
   change (p.fits a&&(List.isEmpty ([]:List AV)))=true
   rw [h.1]
   rfl,h.2.1.1⟩
 | p :: q :: ps,a :: ags,h=>by
  obtain ⟨h1,h2⟩:=FitF.mk (ps:=q :: ps) h.2.2
  refine ⟨?_,h.2.1.1,h2⟩
  change (p.fits a&&(mkPats (q :: ps)).fits ags)=true
  rw [h.1,h1]
  rfl
 | [],_ :: _,h=>h.elim
 | _ :: _,[],h=>h.elim
 | [_],_ :: _ :: _,h=>h.2.2.elim
theorem elem_fit {ag:Bool} {ps:List Pat} {pe:Pat} (h:elemPat ag ps=some pe) {ags:List AV} (hf:FitF ps ags) :
  ∃ e,(if ag then e=.agg ags else ags=[e])∧pe.fits e=true∧pe.wf (pe.decD e):=by
 unfold elemPat at h
 split at h
 ·cases h
  obtain ⟨h1,h2⟩:=hf.mk
  exact ⟨.agg ags,rfl,h1,h2⟩
 ·rename_i p
  cases h
  match ags,hf with
  | [a],hf=>exact ⟨a,rfl,hf.1,hf.2.1.1⟩
  | [],hf=>exact hf.elim
  | _ :: _ :: _,hf=>exact hf.2.2.elim
 ·cases h
theorem fit_tup:∀ {ps:List Pat} {ags:List AV},FitF ps ags→∀ a∈ags,a.notTup=true∧a.cells=[a]∧a.closed=true
 | [],[],_,a,ha=>by simp at ha
 | _ :: _,b :: ags,hf,a,ha=>by
  rcases List.mem_cons.1 ha with rfl | ha
  ·exact hf.2.1.2
  ·exact fit_tup hf.2.2 a ha
 | [],_ :: _,h,_,_=>h.elim
 | _ :: _,[],h,_,_=>h.elim
theorem all_fit {pe:Pat}:∀ {es:List AV},(∀ x∈es,pe.fits x=true∧pe.wf (pe.decD x))→allFit pe.fits es=true∧∀ x∈es.map pe.decD,pe.wf x
 | [],_=>⟨rfl,by simp⟩
 | a :: es,h=>by
  obtain ⟨h1,h2⟩:=all_fit (es:=es) fun x hx=>h x (by simp [hx])
  refine ⟨by simp only [allFit,Bool.and_eq_true]; exact ⟨(h a (by simp)).1,h1⟩,fun x hx=>?_⟩
  rcases List.mem_cons.1 hx with rfl | hx
  ·exact (h a (by simp)).2
  ·exact h2 x hx
section read
variable {H:Type} {enc:TypeId × Value→H} {P:Program} {w:World} {R:Realm} {base:Nat} {spare:Nat→Bool} {held:Bool}
theorem mapM_cons_some {α β:Type} {f:α→Option β} {x:α} {l:List α} {r:List β} (h:(x :: l).mapM f=some r):∃ y ys,f x=some y∧l.mapM f=some ys∧r=y :: ys:=by
 rw [List.mapM_cons] at h
 cases hx:f x with
 | none=>rw [hx] at h; cases h
 | some y=>
  rw [hx] at h
  cases hl:l.mapM f with
  | none=>rw [hl] at h; cases h
  | some ys=>rw [hl] at h; cases h; exact ⟨y,ys,rfl,rfl,rfl⟩
theorem segs_rel {β:Type} {off len:β→Nat} {g:β→Option (List Pat)} {cs:List Value} {f:β→Option (DataW H × List MemPlace)}
  (hf:∀ x ps y,g x=some ps→f x=some y→∃ ags,RelL R w ags ((cs.drop (off x)).take (len x))∧FitF ps ags∧∀ v∈(cs.drop (off x)).take (len x),v.oneCell'=true) :
  ∀ {L:List β} {o m:Nat} {ps:List Pat} {ys:List (DataW H × List MemPlace)},tiles off len o L=some m→patS g L=some ps→L.mapM f=some ys →
   o≤m∧∃ ags,RelL R w ags ((cs.drop o).take (m - o))∧FitF ps ags∧∀ v∈(cs.drop o).take (m - o),v.oneCell'=true
 | [],o,m,ps,ys,ht,hp,_=>by
  simp only [tiles] at ht
  simp only [patS] at hp
  cases ht; cases hp
  exact ⟨Nat.le_refl _,[],by simpa using RelL.nil,trivial,by simp⟩
 | x :: L,o,m,ps,ys,ht,hp,hm=>by
  unfold tiles at ht
  cases hb:Nat.beq (off x) o with
  | false=>rw [hb] at ht; cases ht
  | true=>
   rw [hb] at ht
   have hb:=Nat.eq_of_beq_eq_true hb
   unfold patS at hp
   split at hp
   ·rename_i pa pb h1 h2
    cases hp
    obtain ⟨y,ys',k1,k2,rfl⟩:=mapM_cons_some hm
    obtain ⟨ags,q1,q2,q3⟩:=hf x pa y h1 k1
    obtain ⟨hle,bs,r1,r2,r3⟩:=segs_rel hf (show tiles off len (o+len x) L=some m from ht) h2 k2
    have e:(cs.drop o).take (m - o)=(cs.drop (off x)).take (len x)++(cs.drop (o+len x)).take (m - (o+len x)):=by
     rw [hb,show m - o=len x+(m - (o+len x)) by omega,List.take_add,List.drop_drop]
    rw [e]
    refine ⟨by omega,ags++bs,q1.append r1,q2.append r2,fun v hv=>?_⟩
    rcases List.mem_append.1 hv with hv | hv
    ·exact q3 v hv
    ·exact r3 v hv
   ·cases hp
theorem mapM_get {α β:Type} {f:α→Option β}:∀ {l:List α} {r:List β},l.mapM f=some r→∀ (i:Nat) (x:α),l[i]?=some x→∃ y,r[i]?=some y∧f x=some y
 | [],r,_,i,x,hx=>by simp at hx
 | a :: l,r,h,i,x,hx=>by
  obtain ⟨y,ys,h1,h2,rfl⟩:=mapM_cons_some h
  cases i with
  | zero=>simp at hx; subst hx; exact ⟨y,by simp,h1⟩
  | succ i=>obtain ⟨z,h3,h4⟩:=mapM_get h2 i x (by simpa using hx); exact ⟨z,by simpa using h3,h4⟩
theorem mapM_length {α β:Type} {f:α→Option β}:∀ {l:List α} {r:List β},l.mapM f=some r→r.length=l.length
 | [],r,h=>by simp at h; subst h; rfl
 | a :: l,r,h=>by
  obtain ⟨y,ys,h1,h2,rfl⟩:=mapM_cons_some h
  simp [mapM_length h2]
theorem cell_lt {a:Addr} {v:Value} (h:w.cell? a=some v):a.block < w.heap.size:=by
 unfold World.cell? at h
 split at h
 ·rename_i hb; exact block_lt hb
 ·cases h
theorem elems_rel {e:TypeId} {ps:List Pat} {pe:Pat} {ag:Bool} {fuel:Nat} (hp:∀ (cs:List Value) (y:DataW H × List MemPlace),DataW.trod enc P w base spare held fuel e cs=some y→∃ ags,RelL (allR w) w ags cs∧FitF ps ags∧∀ v∈cs,v.oneCell'=true) (he:elemPat ag ps=some pe) {b off len:Nat} {r:List (DataW H × List MemPlace)}
  (h:(List.range len).mapM (fun i=>(w.cells? base ((⟨b,off,none⟩:Addr).add (i * P.cellsOf e)) (P.cellsOf e)).bind (DataW.trod enc P w base spare held fuel e))=some r) :
  ∀ (m i:Nat),i+m=len→∃ es,RelE (allR w) w b (off+i * P.cellsOf e) (P.cellsOf e) es∧es.length=m∧∀ x∈es,pe.fits x=true∧pe.wf (pe.decD x)
 | 0,i,_=>⟨[],.nil,rfl,by simp⟩
 | m+1,i,hi=>by
  obtain ⟨es,h1,h2,h3⟩:=elems_rel hp he h m (i+1) (by omega)
  obtain ⟨y,_,hy⟩:=mapM_get h i i (by rw [List.getElem?_range (by omega)])
  obtain ⟨cs,hc,hy⟩:=bind_some hy
  obtain ⟨ags,q1,q2,q3⟩:=hp _ _ hy
  obtain ⟨x,hx,f1,f2⟩:=elem_fit he q2
  have hcells:w.cells? base ((⟨b,off,none⟩:Addr).add (i * P.cellsOf e)) (P.cellsOf e)=some cs:=hc
  unfold World.cells? at hcells
  split at hcells
  ·have hlen:=mapM_length hcells
   rw [List.length_range] at hlen
   have hcl:x.cells=ags∧x.notTup=true∧x.closed=true:=by
    have hall:=fit_tup q2
    cases ag with
    | true=>
     simp only [if_true] at hx
     subst hx
     refine ⟨rfl,rfl,?_⟩
     show closedL ags=true
     clear h1 h2 h3 q1 q2 f1 f2
     induction ags with
     | nil=>rfl
     | cons a ags ih=>simp only [closedL,Bool.and_eq_true]; exact ⟨(hall a (by simp)).2.2,ih (fun z hz=>hall z (by simp [hz]))⟩
    | false=>
     simp only [Bool.false_eq_true,if_false] at hx
     subst hx
     obtain ⟨k1,k2,k3⟩:=hall x (by simp)
     exact ⟨k2,k1,k3⟩
   have hget:∀ j v,cs[j]?=some v→w.cell? ⟨b,off+i * P.cellsOf e+j,none⟩=some v:=fun j v hv=>by
    have hj:j < P.cellsOf e:=by have:=(List.getElem?_eq_some_iff.1 hv).1; omega
    obtain ⟨v',k1,k2⟩:=mapM_get hcells j j (by rw [List.getElem?_range hj])
    rw [hv] at k1
    cases k1
    rw [addr_add,addr_add] at k2
    exact k2
   refine ⟨x :: es,.cons ?_ hcl.2.1 hcl.2.2 ?_ ?_,by simp [h2],fun z hz=>?_⟩
   ·rw [hcl.1,q1.length,hlen]
   ·rw [hcl.1]
    refine RelC.make q1 q3 hget (fun j hj=>?_)
    have hj':j < cs.length:=by rw [← q1.length]; exact hj
    exact cell_lt (hget j cs[j] (List.getElem?_eq_getElem hj'))
   ·rw [show off+i * P.cellsOf e+P.cellsOf e=off+(i+1) * P.cellsOf e by rw [Nat.add_mul]; omega]
    exact h1
   ·rcases List.mem_cons.1 hz with rfl | hz
    ·exact ⟨f1,f2⟩
    ·exact h3 z hz
  ·cases hcells
theorem flat_rel (hsp:∀ b,spare b=true):∀ (n:Nat) {t:TypeId} {ps:List Pat},patF P n t=some ps→∀ {fuel:Nat} {cs:List Value} {y:DataW H × List MemPlace},DataW.trod enc P w base spare held fuel t cs=some y →
  ∃ ags,RelL (allR w) w ags cs∧FitF ps ags∧∀ v∈cs,v.oneCell'=true
 | 0,_,_,h,_,_,_,_=>by cases h
 | n+1,t,ps,h,0,_,_,hy=>by cases hy
 | n+1,t,ps,h,fuel+1,cs,y,hy=>by
  unfold patF at h
  unfold DataW.trod at hy
  split at h
  ·rename_i hu
   cases h
   rw [hu] at hy
   cases cs with
   | nil=>cases hy
   | cons v l=>
    cases l with
    | cons v2 l=>(cases v <;> first | (cases hy; done) | (rename_i a; cases a <;> cases hy; done) | (rename_i a b; cases a <;> cases hy; done) | (rename_i a b c; cases a <;> first | (cases hy; done) | (cases b <;> first | (cases hy; done) | (cases c <;> cases hy))))
    | nil=>
     cases v with
     | bool b=>exact ⟨[.bool b],.one (.bool b),⟨rfl,⟨trivial,rfl,rfl,rfl⟩,trivial⟩,by simp [Value.oneCell']⟩
     | pointer a=>cases a <;> cases hy
     | slice a b c=>cases a <;> first | (cases hy; done) | (cases b <;> first | (cases hy; done) | (cases c <;> cases hy))
     | map a=>cases a <;> cases hy
     | chan a=>cases a <;> cases hy
     | _=>cases hy
  ·rename_i k hu
   cases h
   rw [hu] at hy
   cases cs with
   | nil=>cases hy
   | cons v l=>
    cases l with
    | cons v2 l=>(cases v <;> first | (cases hy; done) | (rename_i a; cases a <;> cases hy; done) | (rename_i a b; cases a <;> cases hy; done) | (rename_i a b c; cases a <;> first | (cases hy; done) | (cases b <;> first | (cases hy; done) | (cases c <;> cases hy))))
    | nil=>
     cases v with
     | int k' i=>
      have hy:(if k'=k∧(Lit.int k i).wf=true then some (.lit (.int k i),[]) else none)=some y:=hy
      split at hy
      ·rename_i hc
       obtain ⟨rfl,hw⟩:=hc
       exact ⟨[.int k' i],.one (.int k' i),⟨decide_eq_true rfl,⟨by have h:=hw; simp [Lit.wf] at h; exact h,rfl,rfl,rfl⟩,trivial⟩,by simp [Value.oneCell']⟩
      ·cases hy
     | pointer a=>cases a <;> cases hy
     | slice a b c=>cases a <;> first | (cases hy; done) | (cases b <;> first | (cases hy; done) | (cases c <;> cases hy))
     | map a=>cases a <;> cases hy
     | chan a=>cases a <;> cases hy
     | _=>cases hy
  ·rename_i hu
   cases h
   rw [hu] at hy
   cases cs with
   | nil=>cases hy
   | cons v l=>
    cases l with
    | cons v2 l=>(cases v <;> first | (cases hy; done) | (rename_i a; cases a <;> cases hy; done) | (rename_i a b; cases a <;> cases hy; done) | (rename_i a b c; cases a <;> first | (cases hy; done) | (cases b <;> first | (cases hy; done) | (cases c <;> cases hy))))
    | nil=>
     cases v with
     | string s=>
      have hy:(if s.size≤maxLen then some (.lit (.string s.data.toList),[]) else none)=some y:=hy
      split at hy
      ·rename_i hc
       exact ⟨[.str s.data.toList],.one (.str s.data.toList),⟨rfl,⟨by simpa [Pat.wf,Pat.decD,AV.strD] using hc,rfl,rfl,rfl⟩,trivial⟩,by simp [Value.oneCell']⟩
      ·cases hy
     | pointer a=>cases a <;> cases hy
     | slice a b c=>cases a <;> first | (cases hy; done) | (cases b <;> first | (cases hy; done) | (cases c <;> cases hy))
     | map a=>cases a <;> cases hy
     | chan a=>cases a <;> cases hy
     | _=>cases hy
  ·rename_i e hu
   rw [hu] at hy
   split at h
   ·rename_i ps' u h1 h2
    split at h
    ·rename_i pe h3
     obtain ⟨hz,h⟩:=cond_some h
     cases h
     have hz:=Nat.le_of_ble_eq_true hz
     cases cs with
     | nil=>cases hy
     | cons v l=>
      cases l with
      | cons v2 l=>(cases v <;> first | (cases hy; done) | (rename_i a; cases a <;> cases hy; done) | (rename_i a b; cases a <;> cases hy; done) | (rename_i a b c; cases a <;> first | (cases hy; done) | (cases b <;> first | (cases hy; done) | (cases c <;> cases hy))))
      | nil=>
       cases v with
       | slice a len cap=>
        cases a with
        | none=>
         have hz:len=0∧cap=0:=by
          cases len with
          | zero=>cases cap with
           | zero=>exact ⟨rfl,rfl⟩
           | succ _=>cases hy
          | succ _=>cases hy
         obtain ⟨rfl,rfl⟩:=hz
         exact ⟨[.list .opn (P.cellsOf e) []],.one .lopn,⟨by simp [Pat.fits,allFit],⟨⟨Nat.zero_le _,fun x hx=>by change x∈([]:List pe.T) at hx; cases hx⟩,rfl,rfl,rfl⟩,trivial⟩,by simp [Value.oneCell']⟩
        | some a=>
         have hy:(if base≤a.block∧len≤cap∧cap≤maxLen then
          ((List.range len).mapM (fun i=>(w.cells? base (a.add (i * P.cellsOf e)) (P.cellsOf e)).bind (DataW.trod enc P w base spare held fuel e))).bind fun elems=>
           (if spare a.block then (List.range (cap - len)).mapM (fun j=>(w.cells? base (a.add ((len+j) * P.cellsOf e)) (P.cellsOf e)).bind (DataW.trod enc P w base spare held fuel e)) else some []).map fun rest=>
            (DataW.slice (elems.map (·.1)) (rest.map (·.1)),MemPlace.row a ((elems.length+rest.length) * P.cellsOf e)++(elems++rest).flatMap (·.2))
          else none)=some y:=hy
         split at hy
         ·rename_i hc
          obtain ⟨elems,k1,hy⟩:=bind_some hy
          rw [if_pos (hsp _)] at hy
          by_cases hcap:cap=0
          ·subst hcap
           have hl0:len=0:=Nat.le_zero.1 hc.2.1
           subst hl0
           exact ⟨[.list .opn (P.cellsOf e) []],.one .lemp,⟨by simp [Pat.fits,allFit],⟨⟨Nat.zero_le _,fun x hx=>by change x∈([]:List pe.T) at hx; cases hx⟩,rfl,rfl,rfl⟩,trivial⟩,by simp [Value.oneCell']⟩
          ·have hspot:a.spot=none:=by
            have hany:∃ y,(w.cells? base (a.add (0 * P.cellsOf e)) (P.cellsOf e)).bind (DataW.trod enc P w base spare held fuel e)=some y:=by
             by_cases hl0:len=0
             ·subst hl0
              cases hr:(List.range (cap - 0)).mapM (fun j=>(w.cells? base (a.add ((0+j) * P.cellsOf e)) (P.cellsOf e)).bind (DataW.trod enc P w base spare held fuel e)) with
              | none=>rw [hr] at hy; cases hy
              | some r=>
               obtain ⟨z,_,hz⟩:=mapM_get hr 0 0 (by rw [List.getElem?_range (by omega)])
               exact ⟨z,hz⟩
             ·obtain ⟨z,_,hz⟩:=mapM_get k1 0 0 (by rw [List.getElem?_range (by omega)])
              exact ⟨z,hz⟩
            obtain ⟨z,hz'⟩:=hany
            obtain ⟨cs,hcs,_⟩:=bind_some hz'
            unfold World.cells? at hcs
            split at hcs
            ·obtain ⟨v,_,hv⟩:=mapM_get hcs 0 0 (by rw [List.getElem?_range (by omega)])
             rw [Nat.zero_mul] at hv
             unfold World.cell? at hv
             split at hv
             ·split at hv
              ·cases hv
              ·rename_i hs
               simpa [Addr.add] using hs
             ·cases hv
            ·cases hcs
           obtain ⟨b,off,spot⟩:=a
           have hspot:spot=none:=hspot
           subst hspot
           obtain ⟨es,q1,q2,q3⟩:=elems_rel (fun cs y hy=>flat_rel hsp n h1 hy) h3 k1 len 0 (by omega)
           rw [Nat.zero_mul,Nat.add_zero] at q1
           obtain ⟨f1,f2⟩:=all_fit q3
           refine ⟨[.list .opn (P.cellsOf e) es],.one (.list q1 q2.symm hc.2.1 trivial),⟨?_,⟨⟨?_,f2⟩,rfl,rfl,rfl⟩,trivial⟩,by simp [Value.oneCell']⟩
           ·simp only [Pat.fits,Bool.and_eq_true,Bool.or_eq_true]
            exact ⟨.inl (Nat.beq_refl _),f1⟩
           ·have:es.length≤maxLen:=by rw [q2]; omega
            show (es.map pe.decD).length≤maxLen
            rw [List.length_map]
            exact this
         ·cases hy
       | pointer a=>cases a <;> cases hy
       | map a=>cases a <;> cases hy
       | chan a=>cases a <;> cases hy
       | _=>cases hy
    ·cases h
   ·cases h
  ·rename_i fs hu
   rw [hu] at hy
   have hy:(if cs.length=P.cellsOf t then (fs.toList.mapM fun f=>DataW.trod enc P w base spare held fuel f.type ((cs.drop f.offset).take (P.cellsOf f.type))).map fun xs=>(.agg (xs.map (·.1)),xs.flatMap (·.2)) else none)=some y:=hy
   split at hy
   ·rename_i hl
    obtain ⟨h1,h2⟩:=cond_some h
    cases hm:fs.toList.mapM fun f=>DataW.trod enc P w base spare held fuel f.type ((cs.drop f.offset).take (P.cellsOf f.type)) with
    | none=>rw [hm] at hy; cases hy
    | some ys=>
     cases ht:tiles Field.offset (fun f=>P.cellsOf f.type) 0 fs.toList with
     | none=>rw [ht] at h1; cases h1
     | some m=>
      rw [ht] at h1
      have h1:=Nat.eq_of_beq_eq_true (show Nat.beq m (P.cellsOf t)=true from h1)
      obtain ⟨_,ags,q1,q2,q3⟩:=segs_rel (R:=allR w) (w:=w) (off:=Field.offset) (len:=fun f=>P.cellsOf f.type) (cs:=cs) (fun x ps y hx hy'=>flat_rel hsp n hx hy') ht h2 hm
      rw [h1,← hl] at q1 q3
      simp only [List.drop_zero,Nat.sub_zero,List.take_length] at q1 q3
      exact ⟨ags,q1,q2,q3⟩
   ·cases hy
  ·rename_i m e hu
   rw [hu] at hy
   have hy:(if cs.length=P.cellsOf t then ((List.range m).mapM fun i=>DataW.trod enc P w base spare held fuel e ((cs.drop (i * P.cellsOf e)).take (P.cellsOf e))).map fun xs=>(.agg (xs.map (·.1)),xs.flatMap (·.2)) else none)=some y:=hy
   split at hy
   ·rename_i hl
    obtain ⟨h1,h2⟩:=cond_some h
    cases hm:(List.range m).mapM fun i=>DataW.trod enc P w base spare held fuel e ((cs.drop (i * P.cellsOf e)).take (P.cellsOf e)) with
    | none=>rw [hm] at hy; cases hy
    | some ys=>
     cases ht:tiles (fun i=>i * P.cellsOf e) (fun _=>P.cellsOf e) 0 (List.range m) with
     | none=>rw [ht] at h1; cases h1
     | some k=>
      rw [ht] at h1
      have h1:=Nat.eq_of_beq_eq_true (show Nat.beq k (P.cellsOf t)=true from h1)
      obtain ⟨_,ags,q1,q2,q3⟩:=segs_rel (R:=allR w) (w:=w) (off:=fun i=>i * P.cellsOf e) (len:=fun _=>P.cellsOf e) (cs:=cs) (fun x ps y hx hy'=>flat_rel hsp n hx hy') ht h2 hm
      rw [h1,← hl] at q1 q3
      simp only [List.drop_zero,Nat.sub_zero,List.take_length] at q1 q3
      exact ⟨ags,q1,q2,q3⟩
   ·cases hy
  ·cases h
def patV (P:Program) (n:Nat) (t:TypeId):Option Pat:=match P.underlying t with
 | some u=>match patF P n t with
  | some ps=>elemPat (Go.Am.aggD u) ps
  | none=>none
 | none=>none
theorem arg_rel (hsp:∀ b,spare b=true) {n:Nat} {t:TypeId} {p:Pat} (hp:patV P n t=some p) {v:Value} {d:DataW H} {pl:List MemPlace} {r:Reach} {base':Nat} (ht:DataW.Trod enc P w base spare held t v d pl) (hok:Value.okWide P w r base' t v) :
  ∃ x:p.T,Rel (allR w) w (p.enc x) v∧p.wf x:=by
 obtain ⟨fuel,ht⟩:=ht
 have fin:∀ {a:AV},p.fits a=true→p.wf (p.decD a)→Rel (allR w) w a v→∃ x:p.T,Rel (allR w) w (p.enc x) v∧p.wf x:=fun {a} h1 h2 h3=>⟨p.decD a,(p.fits_ok h1).weak _ _ _ h3,h2⟩
 unfold patV at hp
 split at hp
 ·rename_i u hu
  split at hp
  ·rename_i ps h1
   obtain ⟨ags,q1,q2,q3⟩:=flat_rel hsp n h1 ht
   obtain ⟨x,hx,f1,f2⟩:=elem_fit hp q2
   cases hag:Go.Am.aggD u with
   | true=>
    rw [hag] at hx
    simp only [if_true] at hx
    subst hx
    have:∃ cs,v=.agg cs:=by
     unfold Value.okWide at hok
     rw [hu] at hok
     cases u <;> first | (cases hag; done) | (obtain ⟨cs,h,_⟩:=hok; exact ⟨cs,h⟩)
    obtain ⟨⟨cs⟩,rfl⟩:=this
    exact fin f1 f2 (.agg q1 q3)
   | false=>
    rw [hag] at hx
    simp only [Bool.false_eq_true,if_false] at hx
    subst hx
    have hv:v.cells.toList=[v]:=by
     cases v with
     | agg cs=>
      exfalso
      unfold Value.okWide at hok
      rw [hu] at hok
      cases u <;> first | (cases hag; done) | (simp [Cell.okWide,Cell.ok,hu] at hok)
     | _=>rfl
    rw [hv] at q1
    cases q1 with
    | cons q1 _=>exact fin f1 f2 q1
  ·cases hp
 ·cases hp
def patVs (P:Program) (n:Nat):List TypeId→Option (List Pat)
 | []=>some []
 | t :: l=>match patV P n t,patVs P n l with
  | some p,some r=>some (p :: r)
  | _,_=>none
theorem args_rel (hsp:∀ b,spare b=true) {n:Nat} {r:Reach} {base':Nat}:∀ {ts:List TypeId} {ps:List Pat} {vs:List Value} {ds:List (DataW H)} {pl:List MemPlace},patVs P n ts=some ps→DataW.TrodAll enc P w base spare held ts vs ds pl →
  (∀ (j:Nat) t v,ts[j]?=some t→vs[j]?=some v→Value.okWide P w r base' t v)→∃ x:(mkPats ps).T,RelL (allR w) w ((mkPats ps).enc x) vs∧(mkPats ps).wf x
 | [],ps,vs,ds,pl,hp,ht,_=>by
  simp only [patVs] at hp
  cases hp
  cases vs with
  | nil=>exact ⟨(),.nil,trivial⟩
  | cons _ _=>cases ds <;> exact ht.elim
 | t :: ts,ps,vs,ds,pl,hp,ht,hok=>by
  unfold patVs at hp
  split at hp
  ·rename_i p r h1 h2
   cases hp
   cases vs with
   | nil=>cases ds <;> exact ht.elim
   | cons v vs=>
    cases ds with
    | nil=>exact ht.elim
    | cons d ds=>
     obtain ⟨p1,p2,k1,k2,_⟩:=ht
     obtain ⟨x,q1,q2⟩:=arg_rel hsp h1 k1 (hok 0 t v rfl rfl)
     obtain ⟨y,q3,q4⟩:=args_rel hsp h2 k2 (fun j t v hj hv=>hok (j+1) t v (by simpa using hj) (by simpa using hv))
     cases r with
     | nil=>
      cases q3
      exact ⟨x,.one q1,q2⟩
     | cons p' r=>exact ⟨(x,y),.cons q1 q3,q2,q4⟩
  ·cases hp
end read
end Go.Am
namespace Go.Am
open Go Go.RowKit Go.WideShapes Go.ChangeShapes
section
variable {H:Type} {enc:TypeId × Value→H} {P:Program}
theorem post_below {f:Func} {s:ChangeSpec} {apart fresh handsOn again:Bool} {W W':World} {args:Array Value} {v:Value} {ds gs:List (DataW H)} {before pa pv:List MemPlace}
  (hW:DataW.Whole enc P f.params.toList s.vars apart W args.toList ds gs before)
  (hres:∀ (b:Nat) (sp:Nat→Bool) (hd:Bool),DataW.TrodAll enc P W' b sp hd f.resultTypes.toList (v.resultList f.resultTypes.size) (s.fn H (ds++gs)).results [])
  (hargs:∀ sp:Nat→Bool,(∀ p∈before,sp p.block=true)→DataW.TrodAll enc P W' 0 sp true f.params.toList args.toList (s.fn H (ds++gs)).args pa)
  (hvars:∀ sp:Nat→Bool,(∀ p∈before,sp p.block=true)→DataW.TrodVars enc P W' sp s.vars (s.fn H (ds++gs)).vars pv)
  (hps:before=pa++pv) (hb:Below W.heap.size W W')
  (hok:∀ (j:Nat) (t:TypeId) (r:Value),f.resultTypes[j]?=some t→(v.resultList f.resultTypes.size)[j]?=some r→Value.okWide P W' .any 0 t r) :
  s.post enc P f apart fresh handsOn again W args v W':=by
 have hlt:∀ p∈before,p.block < W.heap.size:=fun p hp=>hW.lt p hp
 have hold:∀ p∈before,(fun b=>decide (b < W.heap.size)) p.block=true:=fun p hp=>by simpa using hlt p hp
 refine ⟨ds,gs,before,[],pa,pv,hW,hres _ _ _,hargs _ hold,hvars _ hold,World.keptBut_mono (fun p hp=>⟨hp,?_⟩) (hb.frame (·∈before)),fun _=>?_⟩
 ·rw [hps,List.mem_append] at hp
  exact Or.inr hp
 ·obtain ⟨_,_,_,_,_,hz,hn⟩:=hW
  refine ⟨hok,_,_,([]++pa)++pv,⟨[]++pa,pv,trodAll_append (hargs _ (fun _ _=>rfl)) (hres _ _ _),hvars _ (fun _ _=>rfl),rfl,?_,?_⟩,?_⟩
  ·intro b off hp
   have hin:MemPlace.cell b off∈before:=by rw [hps]; simpa using hp
   rw [hb.frozen (hlt _ hin)]
   exact hz b off hin
  ·intro ha
   have:=hn ha
   rw [hps] at this
   simpa using this
  ·intro p hp _
   rw [hps]
   simpa using hp
theorem trodAll_stays (hl:laidOutB P=true) {W W':World} (hb:Below W.heap.size W W') {sp:Nat→Bool}:∀ {ts:List TypeId} {vs:List Value} {ds:List (DataW H)} {pl:List MemPlace},
  (∀ t∈ts,P.readableRec t=true∧t < P.types.size)→DataW.TrodAll enc P W 0 (fun _=>true) true ts vs ds pl→(∀ p∈pl,p.block < W.heap.size)→(∀ p∈pl,sp p.block=true) →
  DataW.TrodAll enc P W' 0 sp true ts vs ds pl
 | [],[],[],_,_,h,_,_=>h
 | t :: ts,v :: vs,d :: ds,pl,hr,h,hlt,hsp=>by
  obtain ⟨p,q,h1,h2,rfl⟩:=h
  refine ⟨p,q,?_,trodAll_stays hl hb (fun t ht=>hr t (by simp [ht])) h2 (fun x hx=>hlt x (by simp [hx])) (fun x hx=>hsp x (by simp [hx])),rfl⟩
  exact WideElems.Trod_stays hl (hr t (by simp)).1 (hr t (by simp)).2 h1 (fun x hx=>hb.same (hlt x (by simp [hx]))) (fun x hx=>hsp x (by simp [hx]))
 | [],[],_ :: _,_,_,h,_,_=>h.elim
 | [],_ :: _,_,_,_,h,_,_=>h.elim
 | _ :: _,[],_,_,_,h,_,_=>h.elim
 | _ :: _,_ :: _,[],_,_,h,_,_=>h.elim
theorem law_calls {E:Env} {f:FuncId} {fn:Func} {s:ChangeSpec} {ps:List Pat} {apart fresh handsOn again:Bool} {W:World} {base:Nat} {args:Array Value} {ds gs:List (DataW H)} {before:List MemPlace} {n tb:Nat}
  (hent:∀ x,(mkPats ps).wf x→PCalls E f ((mkPats ps).enc x) (fun r=>r=.bool true)) (hpat:patVs E.P n fn.params.toList=some ps)
  (hval:∀ (j:Nat) t v,fn.params[j]?=some t→args[j]?=some v→Value.okWide E.P W .any base t v)
  (hW:DataW.Whole enc E.P fn.params.toList s.vars apart W args.toList ds gs before) (hglob:∀ g cs,E.glob g=some cs→RelC (allR W) W g 0 cs)
  (hvars:s.vars=[]) (hsp:∀ ds:List (DataW H),ds.length=fn.params.toList.length→s.fn H ds={ results:=[.lit (.bool true)],args:=ds })
  (hres:fn.resultTypes=#[tb]) (hub:E.P.underlying tb=some .bool) (hl:laidOutB E.P=true) (hr:∀ t∈fn.params.toList,E.P.readableRec t=true∧t < E.P.types.size) (hlo:E.lo=0:=by rfl) (hgx:∀ g cs,E.glob g=some cs→E.gx g=true→g < W.heap.size∧W.cell? ⟨g,cs.length,none⟩=none:=by intro _ _ _ h; exact Bool.noConfusion (show false=true from h)) :
  Calls E.P f args W fun e W'=>∃ v,e=.returned v∧s.post enc E.P fn apart fresh handsOn again W args v W':=by
 have hW0:=hW
 obtain ⟨p,q,hA,hV,rfl,hfz,hnd⟩:=hW
 obtain ⟨rfl,rfl⟩:gs=[]∧q=[]:=by
  rw [hvars] at hV
  cases gs with
  | nil=>exact ⟨rfl,hV⟩
  | cons g r=>exact absurd hV (by intro h; cases h)
 obtain ⟨x,hx,hwf⟩:=args_rel (fun _=>rfl) (n:=n) hpat hA (r:=.any) (base':=base) (fun j t v hj hv=>hval j t v (by simpa using hj) (by simpa using hv))
 have hlen:ds.length=fn.params.toList.length:=by
  clear hval hfz hnd hW0 hx hwf hsp hpat hr
  revert hA
  generalize fn.params.toList=ts
  generalize args.toList=vs
  generalize p=pl
  clear p
  intro hA
  induction ts generalizing vs ds pl with
  | nil=>cases vs <;> cases ds <;> first | rfl | exact hA.elim
  | cons t ts ih=>
   cases vs with
   | nil=>cases ds <;> exact hA.elim
   | cons v vs=>
    cases ds with
    | nil=>exact hA.elim
    | cons d ds=>
     obtain ⟨p,q,_,h2,_⟩:=hA
     simp [ih vs q h2]
 have hG:RepG E (allR W) W []:=⟨rfl,fun id go ro h=>by simp [nth] at h,fun i j ri rj b h=>by simp [allR,nth] at h,fun b o h=>h,fun g cs hg=>⟨hglob g cs hg,fun hx=>hgx g cs hg hx⟩,by rw [hlo]; exact Nat.zero_le _⟩
 have hc:=(hent x hwf [])
 refine (callsIn_wide.1 (hc.2 (allR W) W args.toList hG hx)).mono fun e W' he=>?_
 cases e with
 | panicked c=>exact he.elim
 | outgrown=>exact he.elim
 | returned c=>
  obtain ⟨r,G',R',⟨_,rfl⟩,hrel,_,st⟩:=he
  cases hrel
  have hb:Below W.heap.size W W':=⟨st.os,st.tape,st.output,st.size,fun k hk=>st.keep k hk fun ho=>by
   obtain ⟨id,ro,h1,_⟩:=own_noBox ho
   simp [allR,nth] at h1⟩
  have hlt:∀ y∈p,y.block < W.heap.size:=fun y hy=>by simpa using hW0.lt y (by simpa using hy)
  have e1:s.fn H (ds++[])={ results:=[.lit (.bool true)],args:=ds }:=by rw [List.append_nil]; exact hsp ds hlen
  refine ⟨_,rfl,post_below (pa:=p) (pv:=[]) hW0 ?_ ?_ ?_ rfl hb ?_⟩
  ·intro b sp hd
   rw [e1,hres]
   exact trodAll_mk1 (shut_bool hub true)
  ·intro sp hsp'
   rw [e1]
   exact trodAll_stays hl hb hr hA hlt (fun y hy=>hsp' y (by simpa using hy))
  ·intro sp _
   rw [e1,hvars]
   rfl
  ·intro j t r hj hr'
   rw [hres] at hj hr'
   cases j with
   | succ j=>simp at hj
   | zero=>
    simp at hj
    subst hj
    have:r=.bool true:=by simpa [Value.resultList] using hr'.symm
    subst this
    simp [Value.okWide,Cell.okWide,Cell.ok,hub]
end
end Go.Am
namespace Go.Am
open Go
theorem mapM_nth {α β:Type} {f:α→Option β}:∀ {l:List α} {r:List β},l.mapM f=some r→r.length=l.length∧∀ (i:Nat) (x:α),l[i]?=some x→∃ y,r[i]?=some y∧f x=some y
 | [],r,h=>by
  cases h
  exact ⟨rfl,fun i x h=>by simp at h⟩
 | a :: l,r,h=>by
  obtain ⟨y,ys,h1,h2,rfl⟩:=mapM_cons_some h
  obtain ⟨k1,k2⟩:=mapM_nth h2
  refine ⟨by simp [k1],fun i x hx=>?_⟩
  cases i with
  | zero=>
   simp at hx
   subst hx
   exact ⟨y,rfl,h1⟩
  | succ i=>simpa using k2 i x (by simpa using hx)
section
variable {P:Program} {W:World}
theorem relC_ints {g:Nat} {cs:Array Value} {k:IntKind} (hg:g < W.heap.size):∀ (xs:List Int) (o:Nat),(∀ i,i < xs.length→W.cell? ⟨g,o+i,none⟩=some (.int k (xs[i]?.getD 0)))→RelC (allR W) W g o (xs.map fun x=>.int k x)
 | [],_,_=>.nil
 | x :: xs,o,h=>.cons (h 0 (by simp)) rfl hg (.int k x) (relC_ints (cs:=cs) hg xs (o+1) fun i hi=>by
   have:=h (i+1) (by simpa using hi)
   rw [show o+1+i=o+(i+1) by omega]
   simpa using this)
theorem trod_int {k:IntKind} {t:TypeId} {x:Int} {c:Value} {q:List MemPlace} {fuel:Nat} (he:P.underlying t=some (.int k)) (h:DataW.trod (fun _=>()) P W 0 (fun _=>true) false fuel t [c]=some (.lit (.int k x),q)):c=.int k x:=by
 cases fuel with
 | zero=>simp [DataW.trod] at h
 | succ fuel=>
  unfold DataW.trod at h
  simp only [he] at h
  cases c <;> simp at h
  obtain ⟨⟨rfl,_⟩,h2,_⟩:=h
  subst h2
  rfl
theorem relC_cells2 {g:Nat} {k:IntKind} (hg:g < W.heap.size):∀ (xs:List (Int × Int)) (o:Nat),(∀ i (hi:i < xs.length),W.cell? ⟨g,o+2 * i,none⟩=some (.int k xs[i].1)∧W.cell? ⟨g,o+2 * i+1,none⟩=some (.int k xs[i].2))→RelC (allR W) W g o (xs.flatMap fun x=>[.int k x.1,.int k x.2])
 | [],_,_=>.nil
 | x :: xs,o,h=>by
  obtain ⟨h1,h2⟩:=h 0 (by simp)
  refine .cons h1 rfl hg (.int k x.1) (.cons h2 rfl hg (.int k x.2) (relC_cells2 hg xs (o+1+1) fun i hi=>?_))
  have:=h (i+1) (by simpa using hi)
  rw [show o+1+1+2 * i=o+2 * (i+1) by omega]
  simpa using this
theorem laid_pairs {nm:String} {xs:List (Int × Int)} {k:IntKind} {g t e ti:Nat} {f1 f2:Field} (hg:P.globalNamed nm=some g) (ht:(P.globals[g]?).map (·.type)=some t) (hu:P.underlying t=some (.array xs.length e)) (he:P.underlying e=some (.struct #[f1,f2])) (h1o:f1.offset=0) (h1t:f1.type=ti) (h2o:f2.offset=1) (h2t:f2.type=ti)
  (hi:P.underlying ti=some (.int k)) (hci:P.cellsOf ti=1) (hc:P.cellsOf e=2) (hct:P.cellsOf t=xs.length * 2) (hx:0 < xs.length) :
  ∀ {l:List (String × DataW Unit)} {ps:List MemPlace},DataW.LaidVars P W l ps→(nm,DataW.agg (xs.map fun x=>.agg [.lit (.int k x.1),.lit (.int k x.2)]))∈l →
  RelC (allR W) W g 0 (xs.flatMap fun x=>[.int k x.1,.int k x.2])
 | [],_,_,hm=>by simp at hm
 | (n,d) :: r,ps,h,hm=>by
  obtain ⟨g',t',cs,fuel,p,q,h1,h2,h3,h4,h5,_⟩:=h
  rcases List.mem_cons.1 hm with hm | hm
  ·injection hm with e1 e2
   subst e1; subst e2
   obtain rfl:g=g':=Option.some.inj (hg.symm.trans h1)
   obtain rfl:t=t':=Option.some.inj (ht.symm.trans h2)
   cases fuel with
   | zero=>simp [DataW.trod] at h4
   | succ fuel=>
    unfold DataW.trod at h4
    simp only [hu,hc] at h4
    split at h4
    ·rename_i hlen
     rw [hct] at hlen
     cases hm2:(List.range xs.length).mapM fun i=>DataW.trod (fun _=>()) P W 0 (fun _=>true) false fuel e ((cs.toList.drop (i * 2)).take 2) with
     | none=>rw [hm2] at h4; cases h4
     | some ys=>
      rw [hm2] at h4
      have h6:ys.map (·.1)=xs.map fun x=>DataW.agg [.lit (.int k x.1),.lit (.int k x.2)]:=by
       have:=congrArg Prod.fst (Option.some.inj h4)
       injection this
      obtain ⟨k1,k2⟩:=mapM_nth hm2
      have hcell:∀ i (hi:i < xs.length),W.cell? ⟨g,0+2 * i,none⟩=some (.int k xs[i].1)∧W.cell? ⟨g,0+2 * i+1,none⟩=some (.int k xs[i].2):=fun i hi'=>by
       have hl:2 * i+1 < cs.toList.length:=by omega
       obtain ⟨y,e1,e2⟩:=k2 i i (by rw [List.getElem?_eq_getElem (by simpa using hi')]; simp)
       have e3:y.1=DataW.agg [.lit (.int k xs[i].1),.lit (.int k xs[i].2)]:=by
        have:=congrArg (fun l=>l[i]?) h6
        simp only [List.getElem?_map,e1,Option.map_some] at this
        rw [List.getElem?_eq_getElem hi'] at this
        simpa using this
       have e4:(cs.toList.drop (i * 2)).take 2=[cs.toList[2 * i]'(by omega),cs.toList[2 * i+1]]:=by
        rw [Nat.mul_comm,List.drop_eq_getElem_cons (by omega),List.drop_eq_getElem_cons (by omega)]
        rfl
       rw [e4] at e2
       cases fuel with
       | zero=>simp [DataW.trod] at e2
       | succ fuel=>
        unfold DataW.trod at e2
        simp only [he,hc,List.length_cons,List.length_nil,if_true,h1o,h2o,h1t,h2t,hci,List.drop_zero,List.take_succ_cons,List.take_zero,List.drop_succ_cons,List.mapM_cons,List.mapM_nil] at e2
        have g1:W.cell? ⟨g,0+2 * i,none⟩=some (cs.toList[2 * i]'(by omega)):=by
         rw [Go.World.var?_cell hg h3,← Array.getElem?_toList,Nat.zero_add,List.getElem?_eq_getElem (by omega)]
        have g2:W.cell? ⟨g,0+2 * i+1,none⟩=some cs.toList[2 * i+1]:=by
         rw [Go.World.var?_cell hg h3,← Array.getElem?_toList,Nat.zero_add,List.getElem?_eq_getElem hl]
        rw [g1,g2]
        generalize cs.toList[2 * i]'(by omega)=c1 at e2
        generalize cs.toList[2 * i+1]=c2 at e2
        cases q1:DataW.trod (fun _=>()) P W 0 (fun _=>true) false fuel ti [c1] with
        | none=>rw [q1] at e2; simp at e2
        | some y1=>
         cases q2:DataW.trod (fun _=>()) P W 0 (fun _=>true) false fuel ti [c2] with
         | none=>rw [q1,q2] at e2; simp at e2
         | some y2=>
          rw [q1,q2] at e2
          simp at e2
          rw [← e2] at e3
          simp at e3
          obtain ⟨d1,m1⟩:=y1
          obtain ⟨d2,m2⟩:=y2
          simp only at e3
          obtain ⟨rfl,rfl⟩:=e3
          exact ⟨congrArg some (trod_int hi q1),congrArg some (trod_int hi q2)⟩
      have hgs:g < W.heap.size:=by
       have h0:=(hcell 0 hx).1
       unfold World.cell? at h0
       split at h0
       ·rename_i hh
        exact (Array.getElem?_eq_some_iff.1 hh).1
       ·cases h0
      exact relC_cells2 hgs xs 0 hcell
    ·cases h4
  ·exact laid_pairs hg ht hu he h1o h1t h2o h2t hi hci hc hct hx h5 hm
end
end Go.Am
namespace Go.Am
open Go
theorem allFit_encs {p:Pat} (hp:p.plain=true) (l:List p.T):allFit p.fits (List.map p.enc l)=true:=by
 induction l with
 | nil=>rfl
 | cons x l ih=>simp [allFit,ih,(p.fits_enc x hp).1]
theorem map_decs {p:Pat} (hp:p.plain=true) (l:List p.T):List.map p.decD (List.map p.enc l)=l:=by
 induction l with
 | nil=>rfl
 | cons x l ih=>simp [ih,(p.fits_enc x hp).2]
end Go.Am
namespace Go.Am
open Go Go.RowKit
section
variable {E:Env} {R:Realm} {w w':World}
theorem Below.extR (h:Below w.heap.size w w') (wf:∀ b o,R.I b o→b < w.heap.size):Ext R w R w':=
 ⟨fun _ _ h=>h,fun b o hi=>cell_of_block (h.block b (wf b o hi)) o,fun _ ro h=>⟨ro,h,RoLe.refl ro⟩,.old fun b hb=>h.block b hb⟩
theorem Below.repG {G:List GO} (h:Below w.heap.size w w') (hg:RepG E R w G) (hE:E.lo=0):RepG E R w' G:=
 hg.keep (Below.extR h hg.wf) rfl (fun b hb=>h.block b (hg.live_lt hb)) (fun _ _ _ hi=>hi) (fun b o hi=>Nat.lt_of_lt_of_le (hg.wf b o hi) h.size) (fun _=>by rw [hE]; exact Nat.zero_le _)
theorem Below.stepR {β:Nat→Nat} {bx:Boxes} (h:Below w.heap.size w w') (wf:∀ b o,R.I b o→b < w.heap.size):Step R w β bx R w' β bx:=
 ⟨Below.extR h wf,h.os,h.tape,h.output,h.size,fun b hb _=>h.block b hb,fun _ _ ho=>ho,fun _ _ hi _ _=>hi⟩
theorem PCalls.below {g:FuncId} {args:List AV} {r:AV} (hp:Plain E.P g)
  (h:∀ (R:Realm) (w:World) (cs:List Value),RelL R w args cs→Calls E.P g ⟨cs⟩ w (fun e w'=>∃ v,e=.returned v∧(∀ R,Rel R w' r v)∧Below w.heap.size w w')) (hE:E.lo=0):PCalls E g args (fun r'=>r'=r):=fun G=>
 ⟨hp,fun R w cs hg hl=>callsIn_wide.2 ((h R w cs hl).mono fun e w' ⟨v,he,hv,hb⟩=>by
  subst he
  exact ⟨r,G,R,⟨rfl,rfl⟩,hv R,Below.repG hb hg hE,Below.stepR hb hg.wf⟩)⟩
theorem Plain.of {P : Program} {g : FuncId} {fn : Func} (h : P.funcs[g]? = some fn) (h1 : fn.body.isNone = false) (h2 : (fn.name == "runtime.NumGoroutine") = false) : Plain P g := ⟨fn, h, h1, h2⟩
end
def p2 (a b:Pat):Pats:=.cons a (.cons b .nil)
def p1 (a:Pat):Pats:=.cons a .nil
def trimLeftT:List UInt8 × List UInt8→Option (List UInt8)
 | (s,[c])=>bif Nat.blt c.toNat 128 then some (s.dropWhile (· == c)) else none
 | _=>none
def dig2 (n:Int):List UInt8:=bif decide (n < 10) then [UInt8.ofNat (48+n.toNat)] else [UInt8.ofNat (48+n.toNat / 10),UInt8.ofNat (48+n.toNat % 10)]
def itoaT (n:Int):Option (List UInt8):=bif decide (0≤n)&&decide (n < 100) then some (dig2 n) else none
def joinL:List (List UInt8)→List UInt8→List UInt8
 | [],_=>[]
 | [a],_=>a
 | a :: l,sep=>a++sep++joinL l sep
def joinT (x:List (List UInt8) × List UInt8):Option (List UInt8):=bif decide (x.1.length≤140737488355328)&&decide ((joinL x.1 x.2).length≤140737488355328) then some (joinL x.1 x.2) else none
def trimLeftE:Entry:=⟨p2 .str .str,.str,trimLeftT⟩
def itoaE:Entry:=⟨p1 (.int .i64),.str,itoaT⟩
def joinE':Entry:=⟨p2 (.list 1 .str) .str,.str,joinT⟩
section
variable {E:Env}
theorem trimLeft_ok {g:FuncId} (hp:Plain E.P g)
  (h:∀ (s:ByteArray) (c:UInt8),c.toNat < 128→∀ w:World,Calls E.P g #[.string s,.string ⟨#[c]⟩] w fun e w'=>e=.returned (.string ⟨(s.data.toList.dropWhile (· == c)).toArray⟩)∧w'=w) (hE:E.lo=0:=by rfl):EntryOk E g trimLeftE:=fun x y hT=>by
 obtain ⟨s,c⟩:=x
 match c,hT with
 | [c],hT=>
  obtain ⟨h1,h2⟩:=cond_some' hT
  subst h2
  refine PCalls.below hp (fun R w cs hl=>?_) hE
  cases hl with
  | cons a1 hl=>
  cases hl with
  | cons a2 hl=>
  cases hl
  cases a1; cases a2
  refine (h ⟨⟨s⟩⟩ c (Nat.le_of_ble_eq_true h1) w).mono ?_
  rintro e w' ⟨rfl,rfl⟩
  exact ⟨_,rfl,fun _=>Rel.str _,Below.refl _ _⟩
where
 cond_some' {c:Bool} {a x:List UInt8} (h:(bif c then some a else none)=some x):c=true∧a=x:=by
  cases c
  ·cases h
  ·exact ⟨rfl,Option.some.inj h⟩
theorem itoa_ok {g:FuncId} (hp:Plain E.P g)
  (h:∀ (i:Nat),i < 100→∀ w:World,Calls E.P g #[.int .i64 i] w fun e w'=>e=.returned (.string ⟨(dig2 i).toArray⟩)∧w'=w) (hE:E.lo=0:=by rfl):EntryOk E g itoaE:=fun x y hT=>by
 obtain ⟨n,rfl⟩:∃ n:Int,(show itoaE.ps.T from n)=x:=⟨x,rfl⟩
 obtain ⟨h1,h2⟩:=trimLeft_ok.cond_some' (show (bif decide ((0:Int)≤n)&&decide (n < 100) then some (dig2 n) else none)=some y from hT)
 subst h2
 rw [Bool.and_eq_true] at h1
 have a:=of_decide_eq_true h1.1
 have b:=of_decide_eq_true h1.2
 obtain ⟨i,rfl⟩:∃ i:Nat,n=i:=⟨n.toNat,by omega⟩
 refine PCalls.below hp (fun R w cs hl=>?_) hE
 cases hl with
 | cons a1 hl=>
 cases hl
 cases a1
 refine (h i (by omega) w).mono ?_
 rintro e w' ⟨rfl,rfl⟩
 exact ⟨_,rfl,fun _=>Rel.str _,Below.refl _ _⟩
theorem relE_strs {R:Realm} {w:World} {b:Nat}:∀ {xs:List (List UInt8)} {o:Nat},RelE R w b o 1 (xs.map (fun l=>AV.str l))→∀ (j:Nat) x,(xs.map fun l=>(⟨⟨l⟩⟩:ByteArray))[j]?=some x→w.cell? ⟨b,o+j,none⟩=some (.string x)
 | [],_,_,j,x,h=>by simp at h
 | a :: xs,o,.cons _ _ _ hc t,0,x,h=>by
  cases hc with
  | cons h1 h2 h3 h4 h5=>
  cases h4
  simp only [List.map_cons,List.getElem?_cons_zero] at h
  cases h
  exact h1
 | a :: xs,o,.cons _ _ _ hc t,j+1,x,h=>by
  simp only [List.map_cons,List.getElem?_cons_succ] at h
  have:=relE_strs t j x h
  rw [show o+(j+1)=o+1+j by omega]
  exact this
theorem join_ok {g:FuncId} (hp:Plain E.P g)
  (h0:∀ (a:Option Addr) (c:Nat) (sep:ByteArray) (w:World),Calls E.P g #[.slice a 0 c,.string sep] w fun e w'=>e=.returned (.string ⟨#[]⟩)∧w'=w)
  (h:∀ (bk o c:Nat) (xs:List ByteArray) (sep:ByteArray) (w:World),(∀ (j:Nat) x,xs[j]?=some x→w.cell? ⟨bk,o+j,none⟩=some (.string x))→bk < w.heap.size→xs.length≤140737488355328→xs.length≤c→(joinL (xs.map (·.data.toList)) sep.data.toList).length≤140737488355328 →
   Calls E.P g #[.slice (some ⟨bk,o,none⟩) xs.length c,.string sep] w fun e w'=>e=.returned (.string ⟨(joinL (xs.map (·.data.toList)) sep.data.toList).toArray⟩)∧Below w.heap.size w w') (hE:E.lo=0:=by rfl):EntryOk E g joinE':=fun x y hT=>by
 obtain ⟨xs,sep,rfl⟩:∃ (xs:List (List UInt8)) (sep:List UInt8),x=(xs,sep):=⟨x.1,x.2,rfl⟩
 obtain ⟨h1,h2⟩:=trimLeft_ok.cond_some' (show (bif decide (xs.length≤140737488355328)&&decide ((joinL xs sep).length≤140737488355328) then some (joinL xs sep) else none)=some y from hT)
 subst h2
 rw [Bool.and_eq_true] at h1
 have b1:=of_decide_eq_true h1.1
 have b2:=of_decide_eq_true h1.2
 refine PCalls.below hp (fun R w cs hl=>?_) hE
 cases hl with
 | @cons _ c1 _ _ a1 hl=>
 cases hl with
 | cons a2 hl=>
 cases hl
 cases a2
 have key:(xs=[]∧∃ a c',c1=.slice a 0 c')∨∃ bk o c',c1=.slice (some ⟨bk,o,none⟩) xs.length c'∧xs.length≤c'∧RelE R w bk o 1 (xs.map (fun l=>AV.str l)):=by
  have a1':Rel R w (.list .opn 1 (xs.map (fun l=>AV.str l))) c1:=a1
  generalize he:xs.map (fun l=>AV.str l)=es at a1'
  cases a1' with
  | lopn=>exact .inl ⟨by simpa using he,none,0,rfl⟩
  | @lemp _ ad=>exact .inl ⟨by simpa using he,some ad,0,rfl⟩
  | list h hl hc hk=>
   rw [← he,List.length_map] at hl
   subst hl
   exact .inr ⟨_,_,_,rfl,hc,h⟩
 by_cases hx:xs=[]
 ·subst hx
  obtain ⟨a,c',rfl⟩:∃ a c',c1=.slice a 0 c':=by
   rcases key with ⟨_,hk⟩ | ⟨bk,o,c',rfl,_⟩
   ·exact hk
   ·exact ⟨_,_,rfl⟩
  refine (h0 a c' ⟨⟨sep⟩⟩ w).mono ?_
  rintro e w' ⟨rfl,rfl⟩
  exact ⟨_,rfl,fun _=>Rel.str _,Below.refl _ _⟩
 ·rcases key with ⟨hk,_⟩ | ⟨bk,o,c',rfl,hc,hE⟩
  ·exact absurd hk hx
  ·have hcell:=relE_strs hE
   have hbk:bk < w.heap.size:=by
    match xs,hx with
    | x :: xs,_=>
     have:=hcell 0 ⟨⟨x⟩⟩ rfl
     unfold World.cell? at this
     rcases Nat.lt_or_ge bk w.heap.size with h' | h'
     ·exact h'
     ·rw [Array.getElem?_eq_none (by simpa using h')] at this
      cases this
   have hm:(xs.map fun l=>(⟨⟨l⟩⟩:ByteArray)).map (fun x=>x.data.toList)=xs:=by simp [List.map_map,Function.comp_def]
   have:=h bk o c' (xs.map fun l=>(⟨⟨l⟩⟩:ByteArray)) ⟨⟨sep⟩⟩ w hcell hbk (by rw [List.length_map]; exact b1) (by rw [List.length_map]; exact hc) (by rw [hm]; exact b2)
   rw [hm,List.length_map] at this
   refine this.mono ?_
   rintro e w' ⟨rfl,hb⟩
   exact ⟨_,rfl,fun _=>Rel.str _,hb⟩
end
end Go.Am
namespace Go.Am
open Go Go.RowKit Go.Proofs Go.Shelf
section
variable {E:Env} {R:Realm} {w w':World}
theorem RepG.rep {G:List GO} (h:RepG E R w G):Rep E R w (fun _=>0) ⟨[],noBox,G,[],none,0⟩ { tmps:=#[],defers:=[] }:=
 ⟨h,⟨fun k cs hk=>by simp [noBox,lkB] at hk,fun k k' cs cs' hk=>by simp [noBox,lkB] at hk⟩,fun i hi=>absurd rfl hi,rfl,trivial⟩
theorem cell_freeze (a:Addr) (n:Nat) (b o:Nat):(w.freeze a n).cell? ⟨b,o,none⟩=w.cell? ⟨b,o,none⟩:=by
 unfold World.freeze
 split
 ·rfl
 ·simp only [World.cell?,Array.getElem?_modify]
  by_cases e:a.block=b
  ·subst e
   simp only [if_true]
   cases h:w.heap[a.block]? with
   | none=>rfl
   | some x=>cases x <;> simp
  ·simp [e]
theorem heap_freeze {a:Addr} {n:Nat} {b:Nat} (h:b≠a.block):(w.freeze a n).heap[b]?=w.heap[b]?:=by
 unfold World.freeze
 split
 ·rfl
 ·simp only [Array.getElem?_modify]
  rw [if_neg (Ne.symm h)]
theorem size_freeze (a:Addr) (n:Nat):(w.freeze a n).heap.size=w.heap.size:=by
 unfold World.freeze
 split <;> simp
theorem RepG.frozen {G:List GO} (hg:RepG E R w G) {t f sz el g c n:Nat} (_ht:nth G t=some (.tok f sz el)) (hr:nth R.obj t=some (.tok f g c)) {cur:Array Value} {fz:Nat × Nat} (hc:w.heap[g]?=some (.cells cur el fz)) :
  RepG E R (w.drew.freeze ⟨g,0,none⟩ n) (setN G t .dead)∧Step R w (fun _=>0) noBox R (w.drew.freeze ⟨g,0,none⟩ n) (fun _=>0) noBox:=by
 have hl:Live R g:=⟨t,_,hr,rfl⟩
 have keep:∀ b,b≠g→(w.drew.freeze ⟨g,0,none⟩ n).heap[b]?=w.heap[b]?:=fun b hb=>heap_freeze (w:=w.drew) (a:=⟨g,0,none⟩) hb
 have hsz:(w.drew.freeze ⟨g,0,none⟩ n).heap.size=w.heap.size:=size_freeze (w:=w.drew) _ _
 have e:Ext R w R (w.drew.freeze ⟨g,0,none⟩ n):=⟨fun _ _ h=>h,fun b o _=>cell_freeze (w:=w.drew) _ _ b o,fun _ ro h=>⟨ro,h,RoLe.refl ro⟩,fun b r hb=>⟨r,by
  by_cases e:b=g
  ·subst e; rw [hc] at hb; cases hb
  ·rw [keep b e]; exact hb,rfl,rfl,rfl,rfl,rfl⟩⟩
 have hos:∀ (v:World) (a:Addr) (m:Nat),(v.freeze a m).os=v.os∧(v.freeze a m).tape=v.tape∧(v.freeze a m).output=v.output∧(v.freeze a m).drawn=v.drawn:=by
  intro v a m
  unfold World.freeze
  split <;> exact ⟨rfl,rfl,rfl,rfl⟩
 refine ⟨⟨by rw [length_setN]; exact hg.len,fun id go ro q1 q2=>?_,hg.inj,fun b o hi=>by rw [hsz]; exact hg.wf b o hi,fun x cs hx=>(hg.glob x cs hx).mono e,by rw [(hos _ _ _).2.2.2]; exact Nat.le_succ_of_le hg.lo⟩,⟨e,(hos _ _ _).1,(hos _ _ _).2.1,(hos _ _ _).2.2.1,by rw [hsz]; exact Nat.le_refl _,fun b hb hn=>keep b (fun e=>hn (e ▸ .inl hl)),fun _ _ ho=>ho,fun _ _ hi _ _=>hi⟩⟩
 rcases nth_setN q1 with ⟨rfl,rfl,_⟩ | ⟨hne,q1⟩
 ·rw [hr] at q2
  cases q2
  show g < _
  rw [hsz]
  exact block_lt hc
 ·refine (hg.obj id go ro q1 q2).mono e (fun b hb=>keep b (fun e=>hne ?_)) (fun _ _ _ hi=>hi)
  subst e
  exact hg.inj t id _ _ b hr q2 rfl hb
end
end Go.Am
namespace Go.Am
open Go
theorem w64 {x:Int} (h:-9223372036854775808≤x∧x≤9223372036854775807):IntKind.wrap .i64 x=x:=IntWalk.i64_in x (by omega)
def Big (N:Nat):Prop:=18446744073709551616≤N
theorem loopR_succ {V X:Type} (rd:V→Option (V ⊕ X)) (n:Nat) (v:V):loopR rd (n+1) v=(rd v).bind fun o=>Sum.elim (fun v'=>loopR rd n v') (fun x=>some x) o:=rfl
theorem nthD_map {α:Type} (g:α→AV) (xs:List α) (k:Nat) (h:k < xs.length):nthD (xs.map g) k=g xs[k]:=by
 unfold nthD
 rw [nth_eq,List.getElem?_map,List.getElem?_eq_getElem h]
 rfl
theorem div_in {a g:Int} (ha:0≤a) (ha':a≤9223372036854775807) (hg:0 < g):IntKind.wrap .i64 (a.tdiv g)=a / g:=by
 rw [Int.tdiv_eq_ediv_of_nonneg ha]
 have h1:0≤a / g:=Int.ediv_nonneg ha (by omega)
 have h2:a / g≤a:=Int.ediv_le_self g ha
 exact w64 (by omega)
def foldI {S α Y:Type} (st:S→α→S ⊕ Y):S→List α→S ⊕ Y
 | s,[]=>.inl s
 | s,a :: l=>Sum.elim (fun s'=>foldI st s' l) (fun y=>.inr y) (st s a)
theorem loopR_fold {V X S α Y:Type} {rd:V→Option (V ⊕ X)} (l:List α) (E:S→Nat→V) (st:S→α→S ⊕ Y) (fin:S→X) (ex:Y→X) (P:S→Nat→Prop)
  (h:∀ s k (hk:k < l.length),P s k→rd (E s k)=some (Sum.map (fun s'=>E s' (k+1)) ex (st s l[k]))∧∀ s',st s l[k]=.inl s'→P s' (k+1))
  (h0:∀ s,P s l.length→rd (E s l.length)=some (.inr (fin s))) :
  ∀ n s k,k≤l.length→l.length < n+k→P s k→loopR rd n (E s k)=some (Sum.elim fin ex (foldI st s (l.drop k)))
 | 0,s,k,hk,hn,_=>by omega
 | n+1,s,k,hk,hn,hP=>by
  rw [loopR_succ]
  by_cases hlt:k < l.length
  ·obtain ⟨h1,h2⟩:=h s k hlt hP
   rw [h1,List.drop_eq_getElem_cons hlt]
   simp only [Option.bind_some,foldI]
   cases hs:st s l[k] with
   | inl s'=>
    simp only [Sum.map_inl,Sum.elim_inl]
    exact loopR_fold l E st fin ex P h h0 n s' (k+1) (by omega) (by omega) (h2 s' hs)
   | inr y=>simp only [Sum.map_inr,Sum.elim_inr]
  ·have:k=l.length:=by omega
   subst this
   rw [h0 s hP,List.drop_eq_nil_of_le (Nat.le_refl _)]
   rfl
theorem loopR_foldl {V X S α:Type} {rd:V→Option (V ⊕ X)} (l:List α) (E:S→Nat→V) (f:S→α→S) (fin:S→X) (P:S→Nat→Prop)
  (h:∀ s k (hk:k < l.length),P s k→rd (E s k)=some (.inl (E (f s l[k]) (k+1)))∧P (f s l[k]) (k+1))
  (h0:∀ s,P s l.length→rd (E s l.length)=some (.inr (fin s))) :
  ∀ n s k,k≤l.length→l.length < n+k→P s k→loopR rd n (E s k)=some (fin ((l.drop k).foldl f s))
 | 0,s,k,hk,hn,_=>by omega
 | n+1,s,k,hk,hn,hP=>by
  rw [loopR_succ]
  by_cases hlt:k < l.length
  ·obtain ⟨h1,h2⟩:=h s k hlt hP
   rw [h1,List.drop_eq_getElem_cons hlt]
   simp only [Option.bind_some,Sum.elim_inl,List.foldl_cons]
   exact loopR_foldl l E f fin P h h0 n _ (k+1) (by omega) (by omega) h2
  ·have:k=l.length:=by omega
   subst this
   rw [h0 s hP,List.drop_eq_nil_of_le (Nat.le_refl _)]
   rfl
theorem loopR_count {V X:Type} {rd:V→Option (V ⊕ X)} (m:Nat) (E:Nat→V) (x:X) (h:∀ k,k < m→rd (E k)=some (.inl (E (k+1)))) (h0:rd (E m)=some (.inr x)) :
  ∀ n k,k≤m→m < n+k→loopR rd n (E k)=some x
 | 0,k,hk,hn=>by omega
 | n+1,k,hk,hn=>by
  rw [loopR_succ]
  by_cases hlt:k < m
  ·rw [h k hlt]
   simp only [Option.bind_some,Sum.elim_inl]
   exact loopR_count m E x h h0 n (k+1) (by omega) (by omega)
  ·have:k=m:=by omega
   subst this
   rw [h0]
   rfl
theorem in_range {k n:Nat} (h:k < n):decide (0≤(k:Int)∧(k:Int) < (n:Int))=true:=by simp; omega
theorem lt_range {k n:Nat} (h:k < n):decide ((k:Int) < (n:Int))=true:=by simpa using h
theorem ge_range (n:Nat):decide ((n:Int) < (n:Int))=false:=by simp
theorem w_succ {k:Nat} (h:k < 9223372036854775807):IntKind.wrap .i64 ((k:Int)+1)=((k+1:Nat):Int):=by rw [w64 (by omega)]; simp
def rng (n lo hi:Int):Int:=if n < lo∨n > hi then 3 else 0
def firstNZ:List Int→Int
 | []=>0
 | x :: l=>if x=0 then firstNZ l else x
theorem firstNZ_zero {l:List Int}:firstNZ l=0↔∀ x∈l,x=0:=by
 induction l with
 | nil=>simp [firstNZ]
 | cons x l ih=>
  simp only [firstNZ,List.mem_cons,forall_eq_or_imp]
  by_cases h:x=0
  ·simp [h,ih]
  ·simp [h]
theorem first_loop {rd:Int→Option (Int ⊕ (Int ⊕ Unit))} (l:List Int)
  (h:∀ k (hk:k < l.length),rd (k:Int)=some (if l[k]=0 then .inl ((k+1:Nat):Int) else .inr (.inl l[k]))) (h0:rd (l.length:Int)=some (.inr (.inr ()))) (n:Nat) (hn:l.length < n) :
  ∃ o,loopR rd n 0=some o∧Sum.elim (fun x=>x) (fun _=>0) o=firstNZ l:=by
 have key:=loopR_fold (rd:=rd) (S:=Unit) (Y:=Int) l (fun _ k=>(k:Int)) (fun _ x=>if x=0 then .inl () else .inr x) (fun _=>.inr ()) (fun x=>.inl x) (fun _ _=>True)
  (fun s k hk _=>⟨by rw [h k hk]; by_cases e:l[k]=0 <;> simp [e],fun _ _=>trivial⟩) (fun _ _=>h0) n () 0 (Nat.zero_le _) (by omega) trivial
 refine ⟨_,key,?_⟩
 rw [List.drop_zero]
 clear key h h0 hn
 induction l with
 | nil=>rfl
 | cons x l ih=>
  simp only [foldI,firstNZ]
  by_cases e:x=0
  ·simp only [e,if_true,Sum.elim_inl]; exact ih
  ·simp [e]
theorem first_loop2 {rd:Int→Option (Int ⊕ (Int ⊕ Unit))} (l:List Int)
  (h:∀ k (hk:k < l.length),rd (k:Int)=some (if l[k]=0 then .inl ((k+1:Nat):Int) else .inr (.inl l[k]))) (h0:rd (l.length:Int)=some (.inr (.inr ()))) (n:Nat) (hn:l.length < n) :
  loopR rd n 0=some (if firstNZ l=0 then .inr () else .inl (firstNZ l)):=by
 have key:=loopR_fold (rd:=rd) (S:=Unit) (Y:=Int) l (fun _ k=>(k:Int)) (fun _ x=>if x=0 then .inl () else .inr x) (fun _=>.inr ()) (fun x=>.inl x) (fun _ _=>True)
  (fun s k hk _=>⟨by rw [h k hk]; by_cases e:l[k]=0 <;> simp [e],fun _ _=>trivial⟩) (fun _ _=>h0) n () 0 (Nat.zero_le _) (by omega) trivial
 rw [List.drop_zero] at key
 refine key.trans (congrArg some ?_)
 clear key h h0 hn
 induction l with
 | nil=>rfl
 | cons x l ih=>
  simp only [foldI,firstNZ]
  by_cases e:x=0
  ·simp only [e,if_true,Sum.elim_inl]; exact ih
  ·simp [e]
theorem rune_at (s:List UInt8) (k:Nat) (hk:k < s.length):((s[k].toNat < 128)→decodeA s k=(s[k].toNat,1))∧(128≤s[k].toNat→128≤(decodeA s k).1):=by
 have e1:s.getD k 0=s[k]:=by simp [hk]
 constructor
 ·intro h
  have:Nat.blt s[k].toNat 128=true:=Nat.ble_eq_true_of_le h
  unfold decodeA
  rw [e1,this]
  rfl
 ·intro h
  have:Nat.blt s[k].toNat 128=false:=by
   cases hb:Nat.blt s[k].toNat 128 with
   | false=>rfl
   | true=>have:=Nat.le_of_ble_eq_true hb; omega
  unfold decodeA
  rw [e1,this]
  simp only [cond_false]
  have e2:((⟨⟨s⟩⟩:ByteArray).get! (k+0)).toNat=s[k].toNat:=by
   simp [ByteArray.get!,hk]
  unfold Utf8.decode
  simp only [e2,if_neg (by omega:¬ s[k].toNat < 128)]
  have hr:(128:Nat)≤Utf8.runeError:=by decide
  repeat' split
  all_goals first | exact hr | skip
  all_goals simp_all
  all_goals omega
end Go.Am
