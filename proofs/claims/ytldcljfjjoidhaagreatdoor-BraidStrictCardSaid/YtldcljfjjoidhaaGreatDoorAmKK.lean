/- The abstract machine: the evaluator is sound. -/
import Derived.Test.YtldcljfjjoidhaaGreatDoorAmKJ
import GoSem.ClaimJoined
import Derived.Below
import Derived.ChangeSame
import Derived.Carry
import Derived.RowKit
import Derived.FnData
import Derived.Lib.Builder
import Derived.Lib.UnsafeStr
import Derived.Shelf.Strings.Builder1
import Derived.IntWalk
set_option linter.all false
open Array renaming getElem?_modify→abQ, getElem_modify→abR
open Bool renaming and_eq_true→aaa
open Go.DataW renaming trod→aax, TrodAll→aa4
open Go.Field renaming offset→abS
open Go.Value renaming oneCell'→aaR, okWide→aaX
open Go.World renaming cell?→abq, freeze→abN
open List renaming getElem?_range→aaC, mem_cons→aaH, range→aaM, drop_zero→aa9, drop_eq_getElem_cons→abJ, getElem?_eq_getElem→abK, drop_eq_nil_of_le→abP
open Nat renaming eq_of_beq_eq_true→aab, beq→aaB, lt_succ_self→aaY, zero_le→aa3, le_of_ble_eq_true→aa5, le_refl→aba
open Option renaming bind_some→abO
open Option.some renaming inj→aac
open Sum renaming elim→aaZ, elim_inl→aa6
open UInt8 renaming ofNat→abu
namespace Go.Am
open Go
section
variable {C:fj} {ih:Yf}
def uG (C:fj) (ih:Yf):Prop:=∀ (f:FuncId) (p:Nat) (c:Code) (X:Type) (fg:Option X→Option X→Option X),vF fg→∀ (K:Exit→St→Option X) (s:St) (x:X),
 bG (C.D.dt f) c=true→ih f p c X fg K s=some x→mr C.D.toEnv c (fun e s'=>K e s'=some x) s
theorem rV {X:Type}:vF (C5 (X:=X)):=fun a b x h=>by
 unfold C5 at h;by_cases e:a=b
 ·rw [if_pos e] at h;exact ⟨h,e ▸ h⟩
 ·rw [if_neg e] at h;cases h
theorem pR (hs:uG C ih) {X:Type} {fg:Option X→Option X→Option X} (hm:vF fg):od C.D.toEnv (Ea C ih fg):=fun g args G K x h=>by
 unfold Ea at h;obtain ⟨eJ,h⟩:=bq h;split at h
 ·rename_i fn Yg;split at h
  ·rename_i b hb;obtain ⟨hn,h⟩:=bq h;have fin:∀ {K':AV→List GO→Option X},ih g 1 b X fg (LP C.D.toEnv fn K') (St.init fn.ntmps args G)=some x→cB C.D.toEnv g args G (fun r G'=>K' r G'=some x):=by
    intro K' h;refine cB.intro Yg hb (by simpa using hn) ((hs g 1 b X fg hm _ _ x (C.D.TQ g fn b eJ Yg hb) h).mono fun e s' hq=>?_);have hq:=hq.1;unfold LP at hq;unfold TM;cases e <;> first | (cases hq; done) | skip
    all_goals (simp only at hq ⊢)
    all_goals (split at hq <;> first | (cases hq; done) | skip)
    all_goals (rename_i hl; rw [hl]; simp only)
    all_goals (split at hq <;> first | (cases hq; done) | skip)
    all_goals (rename_i Lt; rw [Lt]; exact hq)
   cases hfz:C.D.BQ g 131072 with
   |true=>rw [hfz] at h; exact cB.frz (fin h)
   |false=>rw [hfz] at h; exact fin h
  ·cases h
 ·cases h
theorem Ed (CB:∀ g e,C.wP g=some e→ai C.D.toEnv g e) (hs:uG C ih) {X:Type} {fg:Option X→Option X→Option X} (hm:vF fg):od C.D.toEnv (Eb C ih fg):=fun g args G K x h=>by
 unfold Eb at h;split at h
 ·rename_i e he;obtain ⟨a,ha,h⟩:=bind_some h;obtain ⟨y,hy,h⟩:=bind_some h;refine cB.gY (e.ps.rH ha).1 (((CB g e he a y hy) G).mono fun r G' hr=>?_);obtain ⟨rfl,rfl⟩:=hr;exact h
 ·split at h
  ·rename_i e he;split at h
   ·rename_i c r G' hf;obtain ⟨hc,h⟩:=bq h;subst hc;refine (e.ok args G r G' hf).mono fun r' Bn hh=>?_
    obtain ⟨rfl,rfl⟩:=hh;exact h
   ·cases h
  ·split at h
   ·rename_i e he;obtain ⟨a,ha,h⟩:=bind_some h;obtain ⟨y,hy,h⟩:=bind_some h;refine cB.gY (e.ps.rH ha).1 ((e.ok a y hy G).mono fun r G' hr=>?_);obtain ⟨z,rfl,hr⟩:=hr;exact (D9 e.outs z hr).trans h
   ·exact pR hs hm g args G K x h
theorem Ee {n:Nat}:∀ {l:List Tmp},PM n l=true→∀ t∈l,t < n
 |[],_,t,ht=>by simp at ht
 |a :: l,h,t,ht=>by
  simp only [PM,aaa] at h;rcases aaH.1 ht with rfl|ht
  ·exact jV h.1
  ·exact Ee h.2 t ht
theorem GG (hs:uG C ih) {X:Type} {fg:Option X→Option X→Option X} (hm:vF fg):vG C.D.toEnv (PN C ih fg):=fun id args G K x h=>by
 unfold PN at h;split at h
 ·rename_i p fp sl n ps s5 bd d hG;obtain ⟨hc,h⟩:=bq h;simp only [aaa] at hc;obtain ⟨⟨⟨h1,h2⟩,h3⟩,h4⟩:=hc;refine kE.intro hG (aab h1) (Ee h2) ((hs _ _ s5 X fg hm _ _ x h3 h).mono fun e s1 hq=>?_);have hq:=hq.1;unfold Cp;cases e with
  |normal=>
   simp only at hq ⊢;split at hq
   ·rename_i p' fn X7 n' Zs PG Yb d' hG1;rw [hG1];simp only;refine (hs _ _ bd X fg hm _ _ x h4 hq).mono fun e2 s2 pc=>?_
    have pc:GB id K e2 s2=some x:=pc.1;unfold GB at pc;unfold Gv;split at pc
    ·rename_i Zh;rw [Zh];cases e2 <;> first | (cases pc; done) | exact pc
    ·cases pc
   ·cases hq
  |_=>cases hq
 ·cases h
theorem mr.of {E:Env} {c:Code} {Q Q':Exit→St→Prop} {s:St} (h:mr E c Q s) (hq:∀ e s',Q e s'→aX s s'→Q' e s'):fU E c Q' s:=
 fU.mono h fun e s' hh=>hq e s' hh.1 hh.2
theorem tv {s s':St} {e:Exit}:∀ {outs:List (XK × cM)} {o:JT outs},ly s outs e s'=some o→∃ (t:cM) (v:t.ps.T),t.dec s s'=some v∧∀ (α:Type) (K:Exit→St→α),O4 s outs o K=K e (t.st s v)
 |[],o,h=>by cases h
 |[x],o,h=>by
  obtain ⟨h1,h2⟩:=bq (show (bif x.1.is e then x.2.dec s s' else none)=some o from h);exact ⟨x.2,o,h2,fun _ K=>by rw [XK.HZ h1]; rfl⟩
 |x :: y :: l,o,h=>by
  have h:(bif x.1.is e then (x.2.dec s s').bind fun v=>some (.inl v) else (ly s (y :: l) e s').bind fun o=>some (.inr o))=some o:=h;cases hx:x.1.is e with
  |true=>
   rw [hx] at h;obtain ⟨v,h1,h2⟩:=bind_some h;cases h2;exact ⟨x.2,v,h1,fun _ K=>by rw [XK.HZ hx]; rfl⟩
  |false=>
   rw [hx] at h;obtain ⟨v,h1,h2⟩:=bind_some h;cases h2;obtain ⟨t,u,k1,k2⟩:=tv h1;exact ⟨t,u,k1,fun α K=>k2 α K⟩
theorem cM.rW (t:cM) (s:St) (v:t.ps.T):aX s (t.st s v):=by
 have h1:∀ (W:List Tmp) (b:bh),∃ pre,yB W b=pre++b:=fun W b=>by
  induction W with
  |nil=>exact ⟨[],rfl⟩
  |cons t W ih=>obtain ⟨p,hp⟩:=ih; exact ⟨.put t .none :: p,by simp [yB,hp]⟩
 have h2:∀ (ts:List Tmp) (l:List AV) (b:bh),∃ pre,pJ ts l b=pre++b:=fun ts=>by
  induction ts with
  |nil=>intro l b; exact ⟨[],by cases l <;> rfl⟩
  |cons t ts ih=>
   intro l b;cases l with
   |nil=>exact ⟨[],rfl⟩
   |cons a l=>obtain ⟨p,hp⟩:=ih l b; exact ⟨.put t (.v a) :: p,by simp [pJ,hp]⟩
 have h3:∀ (bx:List (Nat × Nat)) (l:List AV) (b:cO),∃ pre,vA bx l b=pre++b:=fun bx=>by
  induction bx with
  |nil=>intro l b; exact ⟨[],rfl⟩
  |cons x bx ih=>
   obtain ⟨k,n⟩:=x;intro l b;obtain ⟨p,hp⟩:=ih (l.drop n) b;exact ⟨(k,l.take n) :: p,by simp [vA,hp]⟩
 have h4:∀ (l:List (Tmp × Nat × Nat)) (b:bh),∃ pre,pK l b=pre++b:=fun l b=>by
  induction l with
  |nil=>exact ⟨[],rfl⟩
  |cons x l ih=>obtain ⟨t,k,o⟩:=x; obtain ⟨p,hp⟩:=ih; exact ⟨.put t (.lp k o) :: p,by simp [pK,hp]⟩
 obtain ⟨p1,e1⟩:=h1 t.W s.ae;obtain ⟨p2,e2⟩:=h2 t.sl (t.qU v) (yB t.W s.ae);obtain ⟨p3,e3⟩:=h3 t.bx ((t.qU v).drop t.sl.length) s.boxes;obtain ⟨p4,e4⟩:=h4 t.X9 (p2++(p1++s.ae));exact ⟨⟨p4++(p2++p1),by rw [show (t.st s v).ae=pK t.X9 (pJ t.sl (t.qU v) (yB t.W s.ae)) from rfl,e2,e1,e4,List.append_assoc,List.append_assoc]⟩,⟨p3,e3⟩,rfl⟩
theorem fU.ZD {E:Env} {c:Code} {s s1:St} {gh:List (Loc × Nat × TypeId)} {head:cM} {outs:List (XK × cM)} {rd:head.ps.T→Option (head.ps.T ⊕ JT outs)} {N:Nat} {v0:head.ps.T} {o:JT outs} {Q:Exit→St→Prop}
  (hg:Am.ia gh s=some s1) (h0:head.dec s1 s1=some v0) (hr:∀ v r,rd v=some r→mr E c (fun e s'=>vE s1 head outs e s'=some r) (head.st s1 v))
  (hl:aH rd N v0=some o) (hQ:∀ (t:cM) (v:t.ps.T) (e:Exit),(∀ (α:Type) (K:Exit→St→α),O4 s1 outs o K=K e (t.st s1 v))→Q e (t.st s1 v)∧aX s (t.st s1 v)) :
  mr E (.loop c) Q s:=fun R0 w β a F T7 OX=>by
 obtain ⟨R,k1,k2,k3,_⟩:=kD T7 hg;have hf:bV R s1.ro F:=by rw [k3]; exact OX.mono k2.ext
 obtain ⟨i1,i2⟩:=cM.C3 (aX.refl s1) k1 k1 (Step.refl R w β s1.boxes) h0;refine nS (fun m a' w'=>∃ v R' β',aH rd m v=some o∧bl E R' w' β' (head.st s1 v) a'∧Step R w β s1.boxes R' w' β' (head.st s1 v).boxes) ?_ ⟨v0,_,β,hl,i1,i2⟩;rintro m a' w' ⟨v,R',β',hm,mh,lu⟩;cases m with
 |zero=>cases hm
 |succ m=>
  obtain ⟨r,h1,h2⟩:=bind_some (show ((rd v).bind fun o=>aaZ (fun v'=>aH rd m v') (fun x=>some x) o)=some o from hm);refine wpIn_mono (hr v r h1 R' w' β' a' F mh (hf.mono lu.ext)) ?_;rintro e a2 w2 ⟨s2,R2,β2,⟨hK,hx⟩,Dz,LW,Jw⟩;have Ku:aX s1 s2:=(head.rW s1 v).trans hx;have st2:=lu.trans LW;have out:∀ {u:JT outs},ly s1 outs e s2=some u→r=.inr u→Zc E R0 w β s (fun e s'=>Q e s'∧aX s s') e a2 w2:=fun {u} hu hru=>by
   subst hru;cases h2;obtain ⟨t,v',q1,q2⟩:=tv hu;obtain ⟨j1,j2⟩:=cM.C3 Ku k1 Dz st2 q1;exact ⟨t.st s1 v',_,β2,hQ t v' e q2,j1,k2.trans j2,k3⟩
  cases e with
  |normal=>
   obtain ⟨v',q1,q2⟩:=bind_some (show ((head.dec s1 s2).bind fun v=>some (.inl v))=some r from hK);cases q2;obtain ⟨j1,j2⟩:=cM.C3 Ku k1 Dz st2 q1;exact ⟨m,aaY m,v',_,β2,h2,j1,j2⟩
  |exit i=>obtain ⟨u,q1,q2⟩:=bind_some (show ((ly s1 outs (.exit i) s2).bind fun o=>some (.inr o))=some r from hK); exact out q1 (aac q2).symm
  |ret=>obtain ⟨u,q1,q2⟩:=bind_some (show ((ly s1 outs .ret s2).bind fun o=>some (.inr o))=some r from hK); exact out q1 (aac q2).symm
  |goto i=>obtain ⟨u,q1,q2⟩:=bind_some (show ((ly s1 outs (.goto i) s2).bind fun o=>some (.inr o))=some r from hK); exact out q1 (aac q2).symm
  |panic i=>obtain ⟨u,q1,q2⟩:=bind_some (show ((ly s1 outs (.panic i) s2).bind fun o=>some (.inr o))=some r from hK); exact out q1 (aac q2).symm
  |outgrown=>obtain ⟨u,q1,q2⟩:=bind_some (show ((ly s1 outs .outgrown s2).bind fun o=>some (.inr o))=some r from hK); exact out q1 (aac q2).symm
theorem fU.VH {E:Env} {c:Code} {s s1:St} {gh:List (Loc × Nat × TypeId)} {head:cM} {outs:List (XK × cM)} {rd:(head.ps.T→Option (JT outs))→head.ps.T→Option (JT outs)} {N:Nat} {v0:head.ps.T} {o:JT outs} {Q:Exit→St→Prop}
  (hg:Am.ia gh s=some s1) (h0:head.dec s1 s1=some v0) (hr:∀ k v u,rd k v=some u→mr E c (fun e s'=>LR s1 head outs k e s'=some u) (head.st s1 v))
  (hl:mW rd N v0=some o) (hQ:∀ (t:cM) (v:t.ps.T) (e:Exit),(∀ (α:Type) (K:Exit→St→α),O4 s1 outs o K=K e (t.st s1 v))→Q e (t.st s1 v)∧aX s (t.st s1 v)) :
  mr E (.loop c) Q s:=fun R0 w β a F T7 OX=>by
 obtain ⟨R,k1,k2,k3,_⟩:=kD T7 hg;have hf:bV R s1.ro F:=by rw [k3]; exact OX.mono k2.ext
 obtain ⟨i1,i2⟩:=cM.C3 (aX.refl s1) k1 k1 (Step.refl R w β s1.boxes) h0;refine nS (fun m a' w'=>∃ v R' β',mW rd m v=some o∧bl E R' w' β' (head.st s1 v) a'∧Step R w β s1.boxes R' w' β' (head.st s1 v).boxes) ?_ ⟨v0,_,β,hl,i1,i2⟩;rintro m a' w' ⟨v,R',β',hm,mh,lu⟩;cases m with
 |zero=>cases hm
 |succ m=>
  refine wpIn_mono (hr (mW rd m) v o hm R' w' β' a' F mh (hf.mono lu.ext)) ?_;rintro e a2 w2 ⟨s2,R2,β2,⟨hK,hx⟩,Dz,LW,Jw⟩;have Ku:aX s1 s2:=(head.rW s1 v).trans hx;have st2:=lu.trans LW;have out:ly s1 outs e s2=some o→Zc E R0 w β s (fun e s'=>Q e s'∧aX s s') e a2 w2:=fun hu=>by
   obtain ⟨t,v',q1,q2⟩:=tv hu;obtain ⟨j1,j2⟩:=cM.C3 Ku k1 Dz st2 q1;exact ⟨t.st s1 v',_,β2,hQ t v' e q2,j1,k2.trans j2,k3⟩
  cases e with
  |normal=>
   obtain ⟨v',q1,q2⟩:=bind_some (show (head.dec s1 s2).bind (mW rd m)=some o from hK);obtain ⟨j1,j2⟩:=cM.C3 Ku k1 Dz st2 q1;exact ⟨m,aaY m,v',_,β2,q2,j1,j2⟩
  |exit i=>exact out hK
  |ret=>exact out hK
  |goto i=>exact out hK
  |panic i=>exact out hK
  |outgrown=>exact out hK
end
def rA (E:Env):List Bool→Code→(Exit→St→Prop)→St→Prop
 |[],_,Q,s=>Q .normal s
 |true :: k,.seq x y,Q,s=>mr E x (vr (rA E k y Q) Q) s
 |false :: k,.seq x _,Q,s=>rA E k x Q s
 |_ :: _,_,_,_=>False
def kP (E:Env):List Bool→Code→(Exit→St→Prop)→St→Prop
 |[],c,Q,s=>mr E c Q s
 |true :: k,.seq _ y,Q,s=>kP E k y Q s
 |false :: k,.seq x y,Q,s=>kP E k x (vr (mr E y Q) Q) s
 |_ :: _,_,_,_=>False
def H8 (F:Fence) (P:Program):List Bool→Code→(Exit→Act→World→Prop)→Act→World→Prop
 |[],c,Q,a,w=>c.wpIn F 0 P Q a w
 |true :: k,.seq _ y,Q,a,w=>H8 F P k y Q a w
 |false :: k,.seq x y,Q,a,w=>H8 F P k x (Exit.then (fun a' w'=>y.wpIn F 0 P Q a' w') Q) a w
 |_ :: _,_,_,_,_=>False
section rot
variable {E:Env} {s1:St} {R:ak} {w:World} {β:Nat→Nat} {F:Fence}
def At (E:Env) (s1:St) (R:ak) (w:World) (β:Nat→Nat) (s:St) (a:Act) (w':World):Prop:=
 ∃ R' β',aX s1 s∧bl E R' w' β' s a∧Step R w β s1.boxes R' w' β' s.boxes∧s.ro=s1.ro
theorem mr.at {c:Code} {Q:Exit→St→Prop} {s:St} {a:Act} {w':World} {Φ:Exit→Act→World→Prop} (hf:bV R s1.ro F) (h:mr E c Q s) (oG:At E s1 R w β s a w') (hQ:∀ e s' a' w',Q e s'→At E s1 R w β s' a' w'→Φ e a' w'):c.wpIn F 0 E.P Φ a w':=by
 obtain ⟨R',β',hx,hr,lu,b6⟩:=oG;refine wpIn_mono (h R' w' β' a F hr (by rw [b6]; exact hf.mono lu.ext)) ?_;rintro e a2 w2 ⟨s2,R2,β2,⟨hq,Ku⟩,Dz,LW,Jw⟩;exact hQ e s2 a2 w2 hq ⟨R2,β2,hx.trans Ku,Dz,lu.trans LW,Jw.trans b6⟩
theorem kP.at (hf:bV R s1.ro F):∀ (k:List Bool) (c:Code) {Q:Exit→St→Prop} {s:St} {a:Act} {w':World} {Φ:Exit→Act→World→Prop},kP E k c Q s→At E s1 R w β s a w'→(∀ e s' a' w',Q e s'→At E s1 R w β s' a' w'→Φ e a' w')→H8 F E.P k c Φ a w'
 |[],c,Q,s,a,w',Φ,h,oG,hQ=>mr.at hf h oG hQ
 |true :: k,c,Q,s,a,w',Φ,h,oG,hQ=>by
  cases c with
  |seq x y=>exact kP.at hf k y h oG hQ
  |_=>exact h.elim
 |false :: k,c,Q,s,a,w',Φ,h,oG,hQ=>by
  cases c with
  |seq x y=>
   refine kP.at hf k x (Q:=vr (mr E y Q) Q) h oG fun e s' a' w' hq rX=>?_
   cases e with
   |normal=>exact mr.at hf hq rX hQ
   |_=>exact hQ _ s' a' w' hq rX
  |_=>exact h.elim
theorem rA.at (hf:bV R s1.ro F):∀ (k:List Bool) (c:Code) {Q:Exit→St→Prop} {s:St} {a:Act} {w':World} {Φ:Exit→Act→World→Prop},rA E k c Q s→At E s1 R w β s a w' →
  (∀ s' a' w',Q .normal s'→At E s1 R w β s' a' w'→H8 F E.P k c Φ a' w')→(∀ e s' a' w',e≠.normal→Q e s'→At E s1 R w β s' a' w'→Φ e a' w')→c.wpIn F 0 E.P Φ a w'
 |[],c,Q,s,a,w',Φ,h,oG,hS,hQ=>hS s a w' h oG
 |true :: k,c,Q,s,a,w',Φ,h,oG,hS,hQ=>by
  cases c with
  |seq x y=>
   refine wpIn_seq (mr.at hf (show mr E x (vr (rA E k y Q) Q) s from h) oG fun e s' a' w' hq rX=>?_);cases e with
   |normal=>exact rA.at hf k y hq rX hS hQ
   |exit i=>exact hQ _ s' a' w' (by simp) hq rX
   |ret=>exact hQ _ s' a' w' (by simp) hq rX
   |goto i=>exact hQ _ s' a' w' (by simp) hq rX
   |panic i=>exact hQ _ s' a' w' (by simp) hq rX
   |outgrown=>exact hQ _ s' a' w' (by simp) hq rX
  |_=>exact h.elim
 |false :: k,c,Q,s,a,w',Φ,h,oG,hS,hQ=>by
  cases c with
  |seq x y=>
   refine wpIn_seq (rA.at hf k x (Q:=Q) h oG hS fun e s' a' w' cQ hq rX=>?_);cases e with
   |normal=>exact absurd rfl cQ
   |exit i=>exact hQ _ s' a' w' cQ hq rX
   |ret=>exact hQ _ s' a' w' cQ hq rX
   |goto i=>exact hQ _ s' a' w' cQ hq rX
   |panic i=>exact hQ _ s' a' w' cQ hq rX
   |outgrown=>exact hQ _ s' a' w' cQ hq rX
  |_=>exact h.elim
end rot
theorem fU.PP {E:Env} {b:Code} {s s1:St} {gh:List (Loc × Nat × TypeId)} {head:cM} {outs:List (XK × cM)} {pre:St→Option (head.ps.T ⊕ JT outs)} {rd:head.ps.T→Option (head.ps.T ⊕ JT outs)} {N:Nat} {k:List Bool} {r0:head.ps.T ⊕ JT outs} {o:JT outs} {Q:Exit→St→Prop}
  (hg:Am.ia gh s=some s1) (h0:pre s1=some r0)
  (hp:∀ s2 r,pre s2=some r→rA E k b (fun e s'=>vE s1 head outs e s'=some r) s2)
  (hr:∀ v r,rd v=some r→kP E k b (fun e s'=>Bp pre (vE s1 head outs) e s'=some r) (head.st s1 v))
  (hl:aaZ (fun v=>aH rd N v) (fun x=>some x) r0=some o) (hQ:∀ (t:cM) (v:t.ps.T) (e:Exit),(∀ (α:Type) (K:Exit→St→α),O4 s1 outs o K=K e (t.st s1 v))→Q e (t.st s1 v)∧aX s (t.st s1 v)) :
  mr E (.loop b) Q s:=fun R0 w β a F T7 OX=>by
 obtain ⟨R,k1,k2,k3,_⟩:=kD T7 hg;have hf:bV R s1.ro F:=by rw [k3]; exact OX.mono k2.ext
 refine nS (fun n a' w'=>∃ s2 r,pre s2=some r∧aaZ (fun v=>aH rd n v) (fun x=>some x) r=some o∧At E s1 R w β s2 a' w') ?_ ⟨s1,r0,h0,hl,R,β,aX.refl s1,k1,Step.refl _ _ _ _,rfl⟩;rintro n a' w' ⟨s2,r,Zl,hlr,oG⟩
 -- a way out
 have out:∀ {e:Exit} {s3:St} {a3:Act} {w3:World} {r:head.ps.T ⊕ JT outs} {n:Nat},e≠.normal→vE s1 head outs e s3=some r→aaZ (fun v=>aH rd n v) (fun x=>some x) r=some o→At E s1 R w β s3 a3 w3→Zc E R0 w β s (fun e s'=>Q e s'∧aX s s') e a3 w3:=fun {e s3 a3 w3 r n} cQ hK hlr oG=>by
  obtain ⟨R3,β3,hx3,Zg,VI,adA⟩:=oG;have key:∀ {u:JT outs},ly s1 outs e s3=some u→r=.inr u→Zc E R0 w β s (fun e s'=>Q e s'∧aX s s') e a3 w3:=fun {u} hu hru=>by
   subst hru;obtain rfl:=aac hlr;obtain ⟨t,v',q1,q2⟩:=tv hu;obtain ⟨j1,j2⟩:=cM.C3 hx3 k1 Zg VI q1;exact ⟨t.st s1 v',_,_,hQ t v' _ q2,j1,k2.trans j2,k3⟩
  cases e with
  |normal=>exact absurd rfl cQ
  |exit i=>obtain ⟨u,q1,q2⟩:=bind_some (show ((ly s1 outs (.exit i) s3).bind fun o=>some (.inr o))=some r from hK); exact key q1 (aac q2).symm
  |ret=>obtain ⟨u,q1,q2⟩:=bind_some (show ((ly s1 outs .ret s3).bind fun o=>some (.inr o))=some r from hK); exact key q1 (aac q2).symm
  |goto i=>obtain ⟨u,q1,q2⟩:=bind_some (show ((ly s1 outs (.goto i) s3).bind fun o=>some (.inr o))=some r from hK); exact key q1 (aac q2).symm
  |panic i=>obtain ⟨u,q1,q2⟩:=bind_some (show ((ly s1 outs (.panic i) s3).bind fun o=>some (.inr o))=some r from hK); exact key q1 (aac q2).symm
  |outgrown=>obtain ⟨u,q1,q2⟩:=bind_some (show ((ly s1 outs .outgrown s3).bind fun o=>some (.inr o))=some r from hK); exact key q1 (aac q2).symm
 refine rA.at hf k b (hp s2 r Zl) oG (fun s3 a3 w3 hK VJ=>?_) (fun e s3 a3 w3 cQ hK VJ=>?_)
 ·obtain ⟨v,q1,q2⟩:=bind_some (show ((head.dec s1 s3).bind fun v=>some (.inl v))=some r from hK);obtain rfl:=aac q2;have C1:aH rd n v=some o:=hlr;cases n with
  |zero=>cases C1
  |succ n=>
   obtain ⟨r',h1,h2⟩:=bind_some (show ((rd v).bind fun o=>aaZ (fun v'=>aH rd n v') (fun x=>some x) o)=some o from C1);obtain ⟨R3,β3,hx3,Zg,VI,adA⟩:=VJ;obtain ⟨j1,j2⟩:=cM.C3 hx3 k1 Zg VI q1;refine kP.at hf k b (hr v r' h1) ⟨_,_,head.rW s1 v,j1,j2,rfl⟩ fun e s4 a4 w4 Yh JD=>?_
   cases e with
   |normal=>exact ⟨n,aaY n,s4,r',Yh,h2,JD⟩
   |exit i=>exact out (by simp) Yh h2 JD
   |ret=>exact out (by simp) Yh h2 JD
   |goto i=>exact out (by simp) Yh h2 JD
   |panic i=>exact out (by simp) Yh h2 JD
   |outgrown=>exact out (by simp) Yh h2 JD
 ·have:=out cQ hK hlr VJ;cases e with
  |normal=>exact absurd rfl cQ
  |_=>exact this
theorem rY {C:fj} {ih:Yf} (hs:uG C ih) {X:Type} {f:FuncId} {K:Exit→St→Option X}:∀ (k:List Bool) (q:Nat) (c:Code) (s:St) (x:X),bG (C.D.dt f) c=true→LU ih C5 f K k q c s=some x→rA C.D.toEnv k c (fun e s'=>K e s'=some x) s
 |[],_,_,_,_,_,h=>h
 |true :: k,q,c,s,x,hd,h=>by
  cases c with
  |seq a b=>
   rw [bG,aaa] at hd;refine (hs f _ a X C5 rV _ s x hd.1 h).of fun e s' hq hx=>?_
   cases e with
   |normal=>exact ⟨rY hs k (2 * q+1) b s' x hd.2 hq,hx⟩
   |_=>exact ⟨hq,hx⟩
  |_=>cases h
 |false :: k,q,c,s,x,hd,h=>by
  cases c with
  |seq a b=>
   rw [bG,aaa] at hd;exact rY hs k (2 * q) a s x hd.1 h
  |_=>cases h
theorem kP.mono {E:Env}:∀ (k:List Bool) (c:Code) {Q Q':Exit→St→Prop} {s:St},(∀ e s',Q e s'→Q' e s')→kP E k c Q s→kP E k c Q' s
 |[],c,Q,Q',s,hQ,h=>fU.mono h fun e s' hh=>⟨hQ e s' hh.1,hh.2⟩
 |true :: k,c,Q,Q',s,hQ,h=>by
  cases c with
  |seq x y=>exact kP.mono k y hQ h
  |_=>exact h.elim
 |false :: k,c,Q,Q',s,hQ,h=>by
  cases c with
  |seq x y=>
   refine kP.mono k x (Q:=vr (mr E y Q) Q) (Q':=vr (mr E y Q') Q') (fun e s' hq=>?_) h;cases e with
   |normal=>exact fU.mono hq fun e s' hh=>⟨hQ e s' hh.1,hh.2⟩
   |_=>exact hQ _ s' hq
  |_=>exact h.elim
theorem rZ {C:fj} {ih:Yf} (hs:uG C ih) {X:Type} {f:FuncId}:∀ (k:List Bool) (q:Nat) (c:Code) (K:Exit→St→Option X) (s:St) (x:X),bG (C.D.dt f) c=true→PO ih C5 f k q c K s=some x→kP C.D.toEnv k c (fun e s'=>K e s'=some x) s
 |[],_,c,K,s,x,hd,h=>hs f _ c X C5 rV K s x hd h
 |true :: k,q,c,K,s,x,hd,h=>by
  cases c with
  |seq a b=>
   rw [bG,aaa] at hd;exact rZ hs k (2 * q+1) b K s x hd.2 h
  |_=>cases h
 |false :: k,q,c,K,s,x,hd,h=>by
  cases c with
  |seq a b=>
   rw [bG,aaa] at hd;refine kP.mono k a (fun e s' hq=>?_) (rZ hs k (2 * q) a _ s x hd.1 h);cases e with
   |normal=>exact hs f _ b X C5 rV K s' x hd.2 hq
   |_=>exact hq
  |_=>cases h
theorem Ef {C:fj} (CB:∀ g e,C.wP g=some e→ai C.D.toEnv g e) (n:Nat):uG C (ev C n):=by
 induction n using Nat.strongRecOn with
 |_ n ihn=>
 cases n with
 |zero=>intro f p c X fg _ K s x _ h; cases h
 |succ n=>
  have hs:=ihn n (aaY n);have plain:∀ (f:FuncId) (p:Nat) (c:Code) (X:Type) (fg:Option X→Option X→Option X),vF fg→∀ (K:Exit→St→Option X) (s:St) (x:X),((∃ b,c=.loop b)→C.n9 f p=none) →
    bG (C.D.dt f) c=true→yS C (ev C n) f p c X fg K s=some x→mr C.D.toEnv c (fun e s'=>K e s'=some x) s:=by
   intro f p c X fg hm K s x jm hd h;have LX:=Ed CB hs hm;have ZE:=GG hs hm;unfold yS at h;cases c with
   |skip=>exact fU.skip ⟨h,aX.refl s⟩
   |label l=>exact fU.label ⟨h,aX.refl s⟩
   |exit id=>exact fU.exit ⟨h,aX.refl s⟩
   |ret=>exact fU.ret ⟨h,aX.refl s⟩
   |seq a b=>
    rw [bG,aaa] at hd;refine fU.seq ((hs f _ a X fg hm _ s x hd.1 h).of fun e s' hq hx=>?_);cases e with
    |normal=>exact (hs f _ b X fg hm _ s' x hd.2 hq).of fun e s2 pc Ku=>⟨pc,hx.trans Ku⟩
    |_=>exact ⟨hq,hx⟩
   |cond co a b=>
    rw [bG,aaa] at hd;simp only at h;split at h
    ·rename_i t hb;refine fU.cond hb (fun e=>?_) (fun e=>?_)
     ·subst e; exact hs f _ a X fg hm _ s x hd.1 h
     ·subst e; exact hs f _ b X fg hm _ s x hd.2 h
    ·cases h
   |block id c=>
    refine fU.block ((hs f _ c X fg hm _ s x hd h).of fun e s' hq hx=>?_);cases e with
    |exit jL=>
     simp only [LO] at hq;refine ⟨fun e=>?_,fun e=>?_⟩
     ·subst e; rw [sH] at hq; exact ⟨hq,hx⟩
     ·rw [nK e] at hq; exact ⟨hq,hx⟩
    |_=>exact ⟨hq,hx⟩
   |scope c=>
    refine fU.scope ((hs f _ c X fg hm _ s x hd h).of fun e s' hq hx=>?_);cases e with
    |goto l=>cases hq
    |_=>exact ⟨hq,hx⟩
   |region id ops dr=>
    cases dr with
    |false=>exact fU.region (f:=f) (Bq (yZ LX ZE h))
    |true=>
     simp only at h;rw [bG] at hd;split at h
     ·rename_i pl hT;rw [hT] at hd;exact fU.draw (f:=f) hd (tu (jE LX ZE hm h))
     ·cases h
   |loop b=>
    have T8:=jm ⟨b,rfl⟩;refine fU.loop (fun m s'=>m≤n+1∧ev C m f p (.loop b) X fg K s'=some x∧aX s s') ?_ (m:=n+1) ⟨aba _,?_,aX.refl s⟩
    ·rintro m s' ⟨UL,hr,hx⟩;cases m with
     |zero=>cases hr
     |succ m=>
      have mh:yU C (ev C m) f p (.loop b) X fg K s'=some x:=hr;unfold yU at mh;rw [T8] at mh;refine (ihn m (by omega) f _ b X fg hm _ s' x hd mh).of fun e s2 hq Ku=>?_
      cases e with
      |normal=>exact ⟨m,aaY m,by omega,hq,hx.trans Ku⟩
      |_=>exact ⟨hq,hx.trans Ku⟩
    ·show yU C (ev C n) f p (.loop b) X fg K s=some x;unfold yU;rw [T8];exact h
   |rangeFunc g ps s5 bd=>
    simp only at h;split at h
    ·rename_i b6;split at h
     ·rename_i hf first cap hg
      refine fU.rangeFunc (4096 * p+f) b6 hg ((LX _ _ _ _ _ h).mono fun r G' hq=>?_);unfold rfQ;split at hq
      ·rename_i busy pending fn sl nn pp aa bb dd done Vw;rw [Vw];simp only;obtain ⟨h1,h2⟩:=bq hq;refine ⟨by cases busy <;> cases done <;> simp_all,?_⟩;have Zk:∀ (G:List GO) (m:List Nat),aX s ⟨s.ae,s.boxes,G,m,s.ro,s.n⟩:=fun _ _=>⟨⟨[],rfl⟩,⟨[],rfl⟩,rfl⟩
       split at h2
       ·rw [c9] at h2; exact ⟨h2,Zk _ _⟩
       ·rw [c9] at h2; exact fU.ret ⟨h2,Zk _ _⟩
       ·rw [c9] at h2; exact fU.exit ⟨h2,Zk _ _⟩
       ·cases h2
      ·cases hq
     ·cases h
    ·cases h
   |_=>cases h
  intro f p c X fg hm K s x hd h;change yU C (ev C n) f p c X fg K s=some x at h;unfold yU at h;split at h
  ·rename_i hc;exact plain f p c X fg hm K s x (fun _=>hc) hd h
  ·rename_i ct hct;split at h
   ·rename_i za hc;generalize to (kO c []) za=outs at h;cases K9:LQ c with
    |true=>rw [K9] at h; cases h
    |false=>
    rw [K9] at h;obtain ⟨o,h1,h2⟩:=bind_some (show (yS C (ev C n) f p c (JT outs) C5 (ly s outs) s).bind (fun o=>O4 s outs o K)=some x from h);have hp:=plain f p c (JT outs) C5 rV (ly s outs) s o (fun ⟨b,hb⟩=>by subst hb; cases K9) hd h1;refine fU.adt (s:=s) (Q':=fun e s'=>ly s outs e s'=some o) (fU.mono hp fun e s' hh=>⟨hh.2,hh.1⟩) fun e s' hq=>?_
    obtain ⟨t,v,q1,q2⟩:=tv hq;exact ⟨t,v,q1,(q2 _ K).symm.trans h2,t.rW s v⟩
   ·rename_i gh Eg za hc;split at h
    ·rename_i b;split at h
     ·rename_i s1 hg;generalize to (kO b []) za=outs at h;generalize yT (kO b []) Eg=head at h;unfold T4 at h;obtain ⟨v0,h0,h⟩:=bind_some h;obtain ⟨o,hl,h⟩:=bind_some h;refine fU.ZD hg h0 (fun v r hr=>hs f _ b _ C5 rV _ _ r hd hr) hl fun t v e iE=>?_
      exact ⟨(iE _ K).symm.trans h,(oa hg).trans (t.rW s1 v)⟩
     ·cases h
    ·cases h
   ·rename_i k gh Eg za hc;split at h
    ·rename_i b;split at h
     ·rename_i s1 hg;generalize to (kO b []) za=outs at h;generalize yT (kO b []) Eg=head at h;unfold ZC at h;obtain ⟨o,hl,h⟩:=bind_some h;obtain ⟨r0,h0,hl⟩:=bind_some hl;refine fU.PP hg h0 (fun s2 r hr=>rY hs k (2 * p) b s2 r hd hr) (fun v r hr=>rZ hs k (2 * p) b _ _ r hd hr) hl fun t v e iE=>?_
      exact ⟨(iE _ K).symm.trans h,(oa hg).trans (t.rW s1 v)⟩
     ·cases h
    ·cases h
   ·rename_i gh Eg za hc;split at h
    ·rename_i b;split at h
     ·rename_i s1 hg;generalize to (kO b []) za=outs at h;generalize yT (kO b []) Eg=head at h;unfold LS at h;obtain ⟨v0,h0,h⟩:=bind_some h;obtain ⟨o,hl,h⟩:=bind_some h;refine fU.VH hg h0 (fun k v u hu=>hs f _ b _ C5 rV _ _ u hd hu) hl fun t v e iE=>?_
      exact ⟨(iE _ K).symm.trans h,(oa hg).trans (t.rW s1 v)⟩
     ·cases h
    ·cases h
   ·cases h
end Go.Am
namespace Go.Am
open Go
noncomputable def fj.fn (C:fj) (n:Nat) (g:FuncId) (ps:aJ) (p:aM) (x:ps.T):Option p.T:=
 Ea C (ev C n) C5 g (ps.enc x) [] (fun r _=>p.dec r)
theorem fj.bH {C:fj} (CB:∀ g e,C.wP g=some e→ai C.D.toEnv g e) {n:Nat} {g:FuncId} {ps:aJ} {p:aM} (h1:ps.under 0=true) (h2:p.under 0=true) :
  ai C.D.toEnv g ⟨ps,p,C.fn n g ps p⟩:=fun x y h=>by
 refine aR.mono (aR.of (p:=p) (Q:=fun z=>z=y) (ps.dG x h1) h2 ((pR (Ef CB n) rV g _ [] _ y h).mono fun r _ hr=>⟨y,hr,rfl⟩)) ?_;rintro r ⟨z,rfl,rfl⟩;rfl
theorem aR.env {E E':Env} {g:FuncId} {args:List AV} {Q:AV→Prop} (hP:E.P=E'.P) (hg:E.ck=E'.ck) (h:aR E g args Q) (FM:E.lo=E'.lo:=by rfl) (PQ:E.gx=E'.gx:=by rfl):aR E' g args Q:=by
 have go:∀ {R:ak} {w:World} {x:Nat} {cs:List AV},jR E R w x cs↔jR E' R w x cs:=fun {R w x cs}=>by unfold jR; rw [PQ]
 have C3:∀ {R:ak} {w:World} {G:List GO},dB E R w G↔dB E' R w G:=fun {R w G}=>
  ⟨fun h=>⟨h.len,h.obj,h.inj,h.wf,fun g cs hh=>go.1 (h.ck g cs (by rw [hg]; exact hh)),by rw [← FM]; exact h.lo⟩,fun h=>⟨h.len,h.obj,h.inj,h.wf,fun g cs hh=>go.2 (h.ck g cs (by rw [← hg]; exact hh)),by rw [FM]; exact h.lo⟩⟩
 intro G;obtain ⟨h1,h2⟩:=h G;rw [hP] at h1 h2;refine ⟨h1,fun R w cs hr hl=>(h2 R w cs (C3.2 hr) hl).mono fun e w' he=>?_⟩;cases e with
 |returned c=>obtain ⟨r,G',R',k1,k2,k3,k4⟩:=he; exact ⟨r,G',R',k1,k2,C3.1 k3,k4⟩
 |panicked c=>exact he
 |outgrown=>exact he
theorem aR.more {E E':Env} {g:FuncId} {args:List AV} {Q:AV→Prop} (hP:E.P=E'.P) (hg:∀ g cs,E.ck g=some cs→E'.ck g=some cs) (h:aR E g args Q) (FM:E.lo=E'.lo:=by rfl) (PQ:E.gx=fun _=>false:=by rfl):aR E' g args Q:=by
 intro G;obtain ⟨h1,h2⟩:=h G;rw [hP] at h1 h2;refine ⟨h1,fun R w cs hr hl=>(h2 R w cs ⟨hr.len,hr.obj,hr.inj,hr.wf,fun g cs hh=>⟨(hr.ck g cs (hg g cs hh)).1,fun hx=>by rw [PQ] at hx; cases hx⟩,by rw [FM]; exact hr.lo⟩ hl).mono fun e w' he=>?_⟩;cases e with
 |returned c=>
  obtain ⟨r,G',R',k1,k2,k3,k4⟩:=he;exact ⟨r,G',R',k1,k2,⟨k3.len,k3.obj,k3.inj,k3.wf,fun g cs hh=>(hr.ck g cs hh).mono k4.ext,by rw [← FM]; exact k3.lo⟩,k4⟩
 |panicked c=>exact he
 |outgrown=>exact he
def wv:List (Nat × aP)→FuncId→Option aP
 |[],_=>none
 |(a,e) :: l,g=>bif aaB a g then some e else wv l g
theorem fL {E:Env}:∀ {l:List (Nat × aP)},(∀ a e,(a,e)∈l→ai E a e)→∀ g e,wv l g=some e→ai E g e
 |[],_,g,e,h=>by cases h
 |(a,x) :: l,hl,g,e,h=>by
  unfold wv at h;cases hb:aaB a g with
  |true=>
   rw [hb] at h;cases h;rw [← aab hb];exact hl a _ (by simp)
  |false=>
   rw [hb] at h;exact fL (fun a e hm=>hl a e (by simp [hm])) g e h
theorem rB {E:Env}:∀ g e,wv [] g=some e→ai E g e:=fun _ _ h=>by cases h
theorem eH {E:Env} {a:Nat} {x:aP} {l:List (Nat × aP)} (hx:ai E a x) (hl:∀ g e,wv l g=some e→ai E g e):∀ g e,wv ((a,x) :: l) g=some e→ai E g e:=fun g e h=>by
 unfold wv at h;cases hb:aaB a g with
 |true=>
  rw [hb] at h;cases h;rw [← aab hb];exact hx
 |false=>
  rw [hb] at h;exact hl g e h
def T9:List (Nat × cN)→Nat→Option cN
 |[],_=>none
 |(a,c) :: l,p=>bif aaB a p then some c else T9 l p
def H9:List (Nat × List (Nat × cN))→FuncId→Nat→Option cN
 |[],_,_=>none
 |(a,c) :: l,g,p=>bif aaB a g then T9 c p else H9 l g p
def Ia:Option Unit→Option Unit→Option Unit
 |some _,some _=>some ()
 |_,_=>none
theorem GH:vF Ia:=fun a b x h=>by
 cases a <;> cases b <;> first | (cases h; done) | exact ⟨rfl,rfl⟩
theorem cS {C:fj} (CB:∀ g e,C.wP g=some e→ai C.D.toEnv g e) {n:Nat} {g:FuncId} {args:List AV} {p:aM} {ok:p.T→Bool} (h1:aC 0 args=true) (h2:p.under 0=true)
  (h:Ea C (ev C n) Ia g args [] (fun r _=>bif p.fits r&&ok (p.bA r) then some () else none)=some ()):aR C.D.toEnv g args (fun r=>∃ y,r=p.enc y∧ok y=true):=
 aR.of (p:=p) (Q:=fun y=>ok y=true) h1 h2 ((pR (Ef CB n) GH g args [] _ () h).mono fun r _ hr=>by
  obtain ⟨k,_⟩:=bq hr;rw [aaa] at k;exact ⟨p.bA r,by simp [aM.dec,k.1],k.2⟩)
end Go.Am
namespace Go.Am
open Go
def oe (w:World):ak:=⟨fun b _=>b < w.heap.size,[]⟩
mutual
def aM.wf:(p:aM)→p.T→Prop
 |.int k,(n:Int)=>k.min≤n∧n≤k.max
 |.bool,_=>True
 |.str,(s:List UInt8)=>s.length≤maxLen
 |.agg ps,x=>ps.wf x
 |.bk ps,x=>ps.wf x
 |.list _ p,(xs:List p.T)=>xs.length≤maxLen∧∀ x∈xs,p.wf x
 |.own _ _ p,(xs:List p.T)=>xs.length≤maxLen∧∀ x∈xs,p.wf x
 |.bB _ _ p,(x:Nat × List p.T)=>x.2.length≤maxLen∧∀ y∈x.2,p.wf y
 |.bN _,_=>True
 |.two _ _,_=>True
def aJ.wf:(ps:aJ)→ps.T→Prop
 |.nil,_=>True
 |.cons p .nil,x=>p.wf x
 |.cons p (.cons q ps),x=>p.wf x.1∧(aJ.cons q ps).wf x.2
end
def kQ:List aM→aJ
 |[]=>.nil
 |p :: l=>.cons p (kQ l)
def JE {β:Type} (g:β→Option (List aM)):List β→Option (List aM)
 |[]=>some []
 |x :: l=>match g x,JE g l with
  |some a,some b=>some (a++b)
  |_,_=>none
def tw {β:Type} (off len:β→Nat):Nat→List β→Option Nat
 |o,[]=>some o
 |o,x :: l=>bif aaB (off x) o then tw off len (o+len x) l else none
def isSome (n:Nat):Option Nat→Bool
 |some m=>aaB m n
 |none=>false
def tx (ag:Bool) (ps:List aM):Option aM:=match ag,ps with
 |true,ps=>some (.agg (kQ ps))
 |false,[p]=>some p
 |_,_=>none
def JF (P:Program):Nat→TypeId→Option (List aM)
 |0,_=>none
 |n+1,t=>match P.underlying t with
  |some .bool=>some [.bool]
  |some (.int k)=>some [.int k]
  |some .string=>some [.str]
  |some (.slice e)=>match JF P n e,P.underlying e with
   |some ps,some u=>match tx (Go.Am.jM u) ps with
    |some pe=>bif Nat.blt 0 (P.cellsOf e) then some [.list (P.cellsOf e) pe] else none
    |none=>none
   |_,_=>none
  |some (.struct fs)=>bif isSome (P.cellsOf t) (tw abS (fun f=>P.cellsOf f.type) 0 fs.toList) then JE (fun f=>JF P n f.type) fs.toList else none
  |some (.array m e)=>bif isSome (P.cellsOf t) (tw (fun i=>i * P.cellsOf e) (fun _=>P.cellsOf e) 0 (aaM m)) then JE (fun _=>JF P n e) (aaM m) else none
  |_=>none
def adC (a:AV):Prop:=a.aY=true∧a.cells=[a]∧a.closed=true
def r7:List aM→List AV→Prop
 |[],[]=>True
 |p :: ps,a :: lP=>p.fits a=true∧(p.wf (p.bA a)∧adC a)∧r7 ps lP
 |_,_=>False
theorem r7.append:∀ {ps qs:List aM} {lP bs:List AV},r7 ps lP→r7 qs bs→r7 (ps++qs) (lP++bs)
 |[],_,[],_,_,h=>h
 |_ :: _,_,_ :: _,_,k,h=>⟨k.1,k.2.1,r7.append k.2.2 h⟩
 |[],_,_ :: _,_,h,_=>h.elim
 |_ :: _,_,[],_,h,_=>h.elim
theorem r7.mk:∀ {ps:List aM} {lP:List AV},r7 ps lP→(kQ ps).fits lP=true∧(kQ ps).wf ((kQ ps).bA lP)
 |[],[],_=>⟨rfl,trivial⟩
 |[p],[a],h=>⟨by
   change (p.fits a&&(List.isEmpty ([]:List AV)))=true;rw [h.1];rfl,h.2.1.1⟩
 |p :: q :: ps,a :: lP,h=>by
  obtain ⟨h1,h2⟩:=r7.mk (ps:=q :: ps) h.2.2;refine ⟨?_,h.2.1.1,h2⟩;change (p.fits a&&(kQ (q :: ps)).fits lP)=true;rw [h.1,h1];rfl
 |[],_ :: _,h=>h.elim
 |_ :: _,[],h=>h.elim
 |[_],_ :: _ :: _,h=>h.2.2.elim
theorem Eh {ag:Bool} {ps:List aM} {pe:aM} (h:tx ag ps=some pe) {lP:List AV} (hf:r7 ps lP) :
  ∃ e,(if ag then e=.agg lP else lP=[e])∧pe.fits e=true∧pe.wf (pe.bA e):=by
 unfold tx at h;split at h
 ·cases h;obtain ⟨h1,h2⟩:=hf.mk;exact ⟨.agg lP,rfl,h1,h2⟩
 ·rename_i p;cases h
  match lP,hf with
  |[a],hf=>exact ⟨a,rfl,hf.1,hf.2.1.1⟩
  |[],hf=>exact hf.elim
  |_ :: _ :: _,hf=>exact hf.2.2.elim
 ·cases h
theorem Ib:∀ {ps:List aM} {lP:List AV},r7 ps lP→∀ a∈lP,a.aY=true∧a.cells=[a]∧a.closed=true
 |[],[],_,a,ha=>by simp at ha
 |_ :: _,b :: lP,hf,a,ha=>by
  rcases aaH.1 ha with rfl|ha
  ·exact hf.2.1.2
  ·exact Ib hf.2.2 a ha
 |[],_ :: _,h,_,_=>h.elim
 |_ :: _,[],h,_,_=>h.elim
theorem Ic {pe:aM}:∀ {es:List AV},(∀ x∈es,pe.fits x=true∧pe.wf (pe.bA x))→allFit pe.fits es=true∧∀ x∈es.map pe.bA,pe.wf x
 |[],_=>⟨rfl,by simp⟩
 |a :: es,h=>by
  obtain ⟨h1,h2⟩:=Ic (es:=es) fun x hx=>h x (by simp [hx])
  refine ⟨by simp only [allFit,aaa]; exact ⟨(h a (by simp)).1,h1⟩,fun x hx=>?_⟩;rcases aaH.1 hx with rfl|hx
  ·exact (h a (by simp)).2
  ·exact h2 x hx
section read
variable {H:Type} {enc:TypeId × Value→H} {P:Program} {w:World} {R:ak} {base:Nat} {spare:Nat→Bool} {held:Bool}
theorem kR {α β:Type} {f:α→Option β} {x:α} {l:List α} {r:List β} (h:(x :: l).mapM f=some r):∃ y ys,f x=some y∧l.mapM f=some ys∧r=y :: ys:=by
 rw [List.mapM_cons] at h;cases hx:f x with
 |none=>rw [hx] at h; cases h
 |some y=>
  rw [hx] at h;cases hl:l.mapM f with
  |none=>rw [hl] at h; cases h
  |some ys=>rw [hl] at h; cases h; exact ⟨y,ys,rfl,rfl,rfl⟩
theorem zb {β:Type} {off len:β→Nat} {g:β→Option (List aM)} {cs:List Value} {f:β→Option (DataW H × List MemPlace)}
  (hf:∀ x ps y,g x=some ps→f x=some y→∃ lP,aK R w lP ((cs.drop (off x)).take (len x))∧r7 ps lP∧∀ v∈(cs.drop (off x)).take (len x),v.oneCell'=true) :
  ∀ {L:List β} {o m:Nat} {ps:List aM} {ys:List (DataW H × List MemPlace)},tw off len o L=some m→JE g L=some ps→L.mapM f=some ys →
   o≤m∧∃ lP,aK R w lP ((cs.drop o).take (m - o))∧r7 ps lP∧∀ v∈(cs.drop o).take (m - o),v.oneCell'=true
 |[],o,m,ps,ys,ht,hp,_=>by
  simp only [tw] at ht;simp only [JE] at hp;cases ht; cases hp;exact ⟨aba _,[],by simpa using aK.nil,trivial,by simp⟩
 |x :: L,o,m,ps,ys,ht,hp,hm=>by
  unfold tw at ht;cases hb:aaB (off x) o with
  |false=>rw [hb] at ht; cases ht
  |true=>
   rw [hb] at ht;have hb:=aab hb;unfold JE at hp;split at hp
   ·rename_i pa pb h1 h2;cases hp;obtain ⟨y,ys',k1,k2,rfl⟩:=kR hm;obtain ⟨lP,q1,q2,q3⟩:=hf x pa y h1 k1;obtain ⟨hle,bs,r1,r2,r3⟩:=zb hf (show tw off len (o+len x) L=some m from ht) h2 k2;have e:(cs.drop o).take (m - o)=(cs.drop (off x)).take (len x)++(cs.drop (o+len x)).take (m - (o+len x)):=by
     rw [hb,show m - o=len x+(m - (o+len x)) by omega,List.take_add,List.drop_drop]
    rw [e];refine ⟨by omega,lP++bs,q1.append r1,q2.append r2,fun v hv=>?_⟩;rcases List.mem_append.1 hv with hv|hv
    ·exact q3 v hv
    ·exact r3 v hv
   ·cases hp
theorem mX {α β:Type} {f:α→Option β}:∀ {l:List α} {r:List β},l.mapM f=some r→∀ (i:Nat) (x:α),l[i]?=some x→∃ y,r[i]?=some y∧f x=some y
 |[],r,_,i,x,hx=>by simp at hx
 |a :: l,r,h,i,x,hx=>by
  obtain ⟨y,ys,h1,h2,rfl⟩:=kR h;cases i with
  |zero=>simp at hx; subst hx; exact ⟨y,by simp,h1⟩
  |succ i=>obtain ⟨z,h3,h4⟩:=mX h2 i x (by simpa using hx); exact ⟨z,by simpa using h3,h4⟩
theorem mapM_length {α β:Type} {f:α→Option β}:∀ {l:List α} {r:List β},l.mapM f=some r→r.length=l.length
 |[],r,h=>by simp at h; subst h; rfl
 |a :: l,r,h=>by
  obtain ⟨y,ys,h1,h2,rfl⟩:=kR h;simp [mapM_length h2]
theorem PR {a:Addr} {v:Value} (h:w.cell? a=some v):a.block < w.heap.size:=by
 unfold abq at h;split at h
 ·rename_i hb; exact bi hb
 ·cases h
theorem Br {e:TypeId} {ps:List aM} {pe:aM} {ag:Bool} {r8:Nat} (hp:∀ (cs:List Value) (y:DataW H × List MemPlace),aax enc P w base spare held r8 e cs=some y→∃ lP,aK (oe w) w lP cs∧r7 ps lP∧∀ v∈cs,v.oneCell'=true) (he:tx ag ps=some pe) {b off len:Nat} {r:List (DataW H × List MemPlace)}
  (h:(aaM len).mapM (fun i=>(w.cells? base ((⟨b,off,none⟩:Addr).add (i * P.cellsOf e)) (P.cellsOf e)).bind (aax enc P w base spare held r8 e))=some r) :
  ∀ (m i:Nat),i+m=len→∃ es,gl (oe w) w b (off+i * P.cellsOf e) (P.cellsOf e) es∧es.length=m∧∀ x∈es,pe.fits x=true∧pe.wf (pe.bA x)
 |0,i,_=>⟨[],.nil,rfl,by simp⟩
 |m+1,i,hi=>by
  obtain ⟨es,h1,h2,h3⟩:=Br hp he h m (i+1) (by omega);obtain ⟨y,_,hy⟩:=mX h i i (by rw [aaC (by omega)]);obtain ⟨cs,hc,hy⟩:=bind_some hy;obtain ⟨lP,q1,q2,q3⟩:=hp _ _ hy;obtain ⟨x,hx,f1,f2⟩:=Eh he q2;have mi:w.cells? base ((⟨b,off,none⟩:Addr).add (i * P.cellsOf e)) (P.cellsOf e)=some cs:=hc;unfold World.cells? at mi;split at mi
  ·have hlen:=mapM_length mi;rw [List.length_range] at hlen;have jm:x.cells=lP∧x.aY=true∧x.closed=true:=by
    have oK:=Ib q2;cases ag with
    |true=>
     simp only [if_true] at hx;subst hx;refine ⟨rfl,rfl,?_⟩;show aB lP=true;clear h1 h2 h3 q1 q2 f1 f2
     induction lP with
     |nil=>rfl
     |cons a lP ih=>simp only [aB,aaa]; exact ⟨(oK a (by simp)).2.2,ih (fun z hz=>oK z (by simp [hz]))⟩
    |false=>
     simp only [Bool.false_eq_true,if_false] at hx;subst hx;obtain ⟨k1,k2,k3⟩:=oK x (by simp);exact ⟨k2,k1,k3⟩
   have j5:∀ j v,cs[j]?=some v→w.cell? ⟨b,off+i * P.cellsOf e+j,none⟩=some v:=fun j v hv=>by
    have hj:j < P.cellsOf e:=by have:=(List.getElem?_eq_some_iff.1 hv).1; omega
    obtain ⟨v',k1,k2⟩:=mX mi j j (by rw [aaC hj]);rw [hv] at k1;cases k1;rw [cH,cH] at k2;exact k2
   refine ⟨x :: es,.cons ?_ jm.2.1 jm.2.2 ?_ ?_,by simp [h2],fun z hz=>?_⟩
   ·rw [jm.1,q1.length,hlen]
   ·rw [jm.1];refine dR.make q1 q3 j5 (fun j hj=>?_);have OU:j < cs.length:=by rw [← q1.length]; exact hj
    exact PR (j5 j cs[j] (abK OU))
   ·rw [show off+i * P.cellsOf e+P.cellsOf e=off+(i+1) * P.cellsOf e by rw [Nat.add_mul]; omega];exact h1
   ·rcases aaH.1 hz with rfl|hz
    ·exact ⟨f1,f2⟩
    ·exact h3 z hz
  ·cases mi
theorem tz (C2:∀ b,spare b=true):∀ (n:Nat) {t:TypeId} {ps:List aM},JF P n t=some ps→∀ {r8:Nat} {cs:List Value} {y:DataW H × List MemPlace},aax enc P w base spare held r8 t cs=some y →
  ∃ lP,aK (oe w) w lP cs∧r7 ps lP∧∀ v∈cs,v.oneCell'=true
 |0,_,_,h,_,_,_,_=>by cases h
 |n+1,t,ps,h,0,_,_,hy=>by cases hy
 |n+1,t,ps,h,r8+1,cs,y,hy=>by
  unfold JF at h;unfold aax at hy;split at h
  ·rename_i hu;cases h;rw [hu] at hy;cases cs with
   |nil=>cases hy
   |cons v l=>
    cases l with
    |cons v2 l=>(cases v <;> first | (cases hy; done) | (rename_i a; cases a <;> cases hy; done) | (rename_i a b; cases a <;> cases hy; done) | (rename_i a b c; cases a <;> first | (cases hy; done) | (cases b <;> first | (cases hy; done) | (cases c <;> cases hy))))
    |nil=>
     cases v with
     |bool b=>exact ⟨[.bool b],.one (.bool b),⟨rfl,⟨trivial,rfl,rfl,rfl⟩,trivial⟩,by simp [aaR]⟩
     |pointer a=>cases a <;> cases hy
     |slice a b c=>cases a <;> first | (cases hy; done) | (cases b <;> first | (cases hy; done) | (cases c <;> cases hy))
     |map a=>cases a <;> cases hy
     |chan a=>cases a <;> cases hy
     |_=>cases hy
  ·rename_i k hu;cases h;rw [hu] at hy;cases cs with
   |nil=>cases hy
   |cons v l=>
    cases l with
    |cons v2 l=>(cases v <;> first | (cases hy; done) | (rename_i a; cases a <;> cases hy; done) | (rename_i a b; cases a <;> cases hy; done) | (rename_i a b c; cases a <;> first | (cases hy; done) | (cases b <;> first | (cases hy; done) | (cases c <;> cases hy))))
    |nil=>
     cases v with
     |int k' i=>
      have hy:(if k'=k∧(Lit.int k i).wf=true then some (.lit (.int k i),[]) else none)=some y:=hy;split at hy
      ·rename_i hc;obtain ⟨rfl,hw⟩:=hc;exact ⟨[.int k' i],.one (.int k' i),⟨decide_eq_true rfl,⟨by have h:=hw; simp [Lit.wf] at h; exact h,rfl,rfl,rfl⟩,trivial⟩,by simp [aaR]⟩
      ·cases hy
     |pointer a=>cases a <;> cases hy
     |slice a b c=>cases a <;> first | (cases hy; done) | (cases b <;> first | (cases hy; done) | (cases c <;> cases hy))
     |map a=>cases a <;> cases hy
     |chan a=>cases a <;> cases hy
     |_=>cases hy
  ·rename_i hu;cases h;rw [hu] at hy;cases cs with
   |nil=>cases hy
   |cons v l=>
    cases l with
    |cons v2 l=>(cases v <;> first | (cases hy; done) | (rename_i a; cases a <;> cases hy; done) | (rename_i a b; cases a <;> cases hy; done) | (rename_i a b c; cases a <;> first | (cases hy; done) | (cases b <;> first | (cases hy; done) | (cases c <;> cases hy))))
    |nil=>
     cases v with
     |string s=>
      have hy:(if s.size≤maxLen then some (.lit (.string s.data.toList),[]) else none)=some y:=hy;split at hy
      ·rename_i hc;exact ⟨[.str s.data.toList],.one (.str s.data.toList),⟨rfl,⟨by simpa [aM.wf,aM.bA,AV.UC] using hc,rfl,rfl,rfl⟩,trivial⟩,by simp [aaR]⟩
      ·cases hy
     |pointer a=>cases a <;> cases hy
     |slice a b c=>cases a <;> first | (cases hy; done) | (cases b <;> first | (cases hy; done) | (cases c <;> cases hy))
     |map a=>cases a <;> cases hy
     |chan a=>cases a <;> cases hy
     |_=>cases hy
  ·rename_i e hu;rw [hu] at hy;split at h
   ·rename_i Zs u h1 h2;split at h
    ·rename_i pe h3;obtain ⟨hz,h⟩:=bq h;cases h;have hz:=aa5 hz;cases cs with
     |nil=>cases hy
     |cons v l=>
      cases l with
      |cons v2 l=>(cases v <;> first | (cases hy; done) | (rename_i a; cases a <;> cases hy; done) | (rename_i a b; cases a <;> cases hy; done) | (rename_i a b c; cases a <;> first | (cases hy; done) | (cases b <;> first | (cases hy; done) | (cases c <;> cases hy))))
      |nil=>
       cases v with
       |slice a len cap=>
        cases a with
        |none=>
         have hz:len=0∧cap=0:=by
          cases len with
          |zero=>cases cap with
           |zero=>exact ⟨rfl,rfl⟩
           |succ _=>cases hy
          |succ _=>cases hy
         obtain ⟨rfl,rfl⟩:=hz;exact ⟨[.list .lq (P.cellsOf e) []],.one .ja,⟨by simp [aM.fits,allFit],⟨⟨aa3 _,fun x hx=>by change x∈([]:List pe.T) at hx; cases hx⟩,rfl,rfl,rfl⟩,trivial⟩,by simp [aaR]⟩
        |some a=>
         have hy:(if base≤a.block∧len≤cap∧cap≤maxLen then
          ((aaM len).mapM (fun i=>(w.cells? base (a.add (i * P.cellsOf e)) (P.cellsOf e)).bind (aax enc P w base spare held r8 e))).bind fun Ie=>
           (if spare a.block then (aaM (cap - len)).mapM (fun j=>(w.cells? base (a.add ((len+j) * P.cellsOf e)) (P.cellsOf e)).bind (aax enc P w base spare held r8 e)) else some []).map fun rest=>
            (DataW.slice (Ie.map (·.1)) (rest.map (·.1)),MemPlace.row a ((Ie.length+rest.length) * P.cellsOf e)++(Ie++rest).flatMap (·.2))
          else none)=some y:=hy
         split at hy
         ·rename_i hc;obtain ⟨Ie,k1,hy⟩:=bind_some hy;rw [if_pos (C2 _)] at hy;by_cases hU:cap=0
          ·subst hU;have uk:len=0:=Nat.le_zero.1 hc.2.1;subst uk;exact ⟨[.list .lq (P.cellsOf e) []],.one .nI,⟨by simp [aM.fits,allFit],⟨⟨aa3 _,fun x hx=>by change x∈([]:List pe.T) at hx; cases hx⟩,rfl,rfl,rfl⟩,trivial⟩,by simp [aaR]⟩
          ·have LY:a.spot=none:=by
            have Vs:∃ y,(w.cells? base (a.add (0 * P.cellsOf e)) (P.cellsOf e)).bind (aax enc P w base spare held r8 e)=some y:=by
             by_cases uk:len=0
             ·subst uk;cases hr:(aaM (cap - 0)).mapM (fun j=>(w.cells? base (a.add ((0+j) * P.cellsOf e)) (P.cellsOf e)).bind (aax enc P w base spare held r8 e)) with
              |none=>rw [hr] at hy; cases hy
              |some r=>
               obtain ⟨z,_,hz⟩:=mX hr 0 0 (by rw [aaC (by omega)]);exact ⟨z,hz⟩
             ·obtain ⟨z,_,hz⟩:=mX k1 0 0 (by rw [aaC (by omega)]);exact ⟨z,hz⟩
            obtain ⟨z,hz'⟩:=Vs;obtain ⟨cs,ql,_⟩:=bind_some hz';unfold World.cells? at ql;split at ql
            ·obtain ⟨v,_,hv⟩:=mX ql 0 0 (by rw [aaC (by omega)]);rw [Nat.zero_mul] at hv;unfold abq at hv;split at hv
             ·split at hv
              ·cases hv
              ·rename_i hs;simpa [Addr.add] using hs
             ·cases hv
            ·cases ql
           obtain ⟨b,off,spot⟩:=a;have LY:spot=none:=LY;subst LY;obtain ⟨es,q1,q2,q3⟩:=Br (fun cs y hy=>tz C2 n h1 hy) h3 k1 len 0 (by omega);rw [Nat.zero_mul,Nat.add_zero] at q1;obtain ⟨f1,f2⟩:=Ic q3;refine ⟨[.list .lq (P.cellsOf e) es],.one (.list q1 q2.symm hc.2.1 trivial),⟨?_,⟨⟨?_,f2⟩,rfl,rfl,rfl⟩,trivial⟩,by simp [aaR]⟩
           ·simp only [aM.fits,aaa,Bool.or_eq_true];exact ⟨.inl (Nat.beq_refl _),f1⟩
           ·have:es.length≤maxLen:=by rw [q2]; omega
            show (es.map pe.bA).length≤maxLen;rw [List.length_map];exact this
         ·cases hy
       |pointer a=>cases a <;> cases hy
       |map a=>cases a <;> cases hy
       |chan a=>cases a <;> cases hy
       |_=>cases hy
    ·cases h
   ·cases h
  ·rename_i fs hu;rw [hu] at hy;have hy:(if cs.length=P.cellsOf t then (fs.toList.mapM fun f=>aax enc P w base spare held r8 f.type ((cs.drop f.offset).take (P.cellsOf f.type))).map fun xs=>(.agg (xs.map (·.1)),xs.flatMap (·.2)) else none)=some y:=hy;split at hy
   ·rename_i hl;obtain ⟨h1,h2⟩:=bq h;cases hm:fs.toList.mapM fun f=>aax enc P w base spare held r8 f.type ((cs.drop f.offset).take (P.cellsOf f.type)) with
    |none=>rw [hm] at hy; cases hy
    |some ys=>
     cases ht:tw abS (fun f=>P.cellsOf f.type) 0 fs.toList with
     |none=>rw [ht] at h1; cases h1
     |some m=>
      rw [ht] at h1;have h1:=aab (show aaB m (P.cellsOf t)=true from h1);obtain ⟨_,lP,q1,q2,q3⟩:=zb (R:=oe w) (w:=w) (off:=abS) (len:=fun f=>P.cellsOf f.type) (cs:=cs) (fun x ps y hx hy'=>tz C2 n hx hy') ht h2 hm;rw [h1,← hl] at q1 q3;simp only [aa9,Nat.sub_zero,List.take_length] at q1 q3;exact ⟨lP,q1,q2,q3⟩
   ·cases hy
  ·rename_i m e hu;rw [hu] at hy;have hy:(if cs.length=P.cellsOf t then ((aaM m).mapM fun i=>aax enc P w base spare held r8 e ((cs.drop (i * P.cellsOf e)).take (P.cellsOf e))).map fun xs=>(.agg (xs.map (·.1)),xs.flatMap (·.2)) else none)=some y:=hy;split at hy
   ·rename_i hl;obtain ⟨h1,h2⟩:=bq h;cases hm:(aaM m).mapM fun i=>aax enc P w base spare held r8 e ((cs.drop (i * P.cellsOf e)).take (P.cellsOf e)) with
    |none=>rw [hm] at hy; cases hy
    |some ys=>
     cases ht:tw (fun i=>i * P.cellsOf e) (fun _=>P.cellsOf e) 0 (aaM m) with
     |none=>rw [ht] at h1; cases h1
     |some k=>
      rw [ht] at h1;have h1:=aab (show aaB k (P.cellsOf t)=true from h1);obtain ⟨_,lP,q1,q2,q3⟩:=zb (R:=oe w) (w:=w) (off:=fun i=>i * P.cellsOf e) (len:=fun _=>P.cellsOf e) (cs:=cs) (fun x ps y hx hy'=>tz C2 n hx hy') ht h2 hm;rw [h1,← hl] at q1 q3;simp only [aa9,Nat.sub_zero,List.take_length] at q1 q3;exact ⟨lP,q1,q2,q3⟩
   ·cases hy
  ·cases h
def VK (P:Program) (n:Nat) (t:TypeId):Option aM:=match P.underlying t with
 |some u=>match JF P n t with
  |some ps=>tx (Go.Am.jM u) ps
  |none=>none
 |none=>none
theorem PS (C2:∀ b,spare b=true) {n:Nat} {t:TypeId} {p:aM} (hp:VK P n t=some p) {v:Value} {d:DataW H} {pl:List MemPlace} {r:Reach} {base':Nat} (ht:DataW.Trod enc P w base spare held t v d pl) (eJ:aaX P w r base' t v) :
  ∃ x:p.T,Rel (oe w) w (p.enc x) v∧p.wf x:=by
 obtain ⟨r8,ht⟩:=ht;have fin:∀ {a:AV},p.fits a=true→p.wf (p.bA a)→Rel (oe w) w a v→∃ x:p.T,Rel (oe w) w (p.enc x) v∧p.wf x:=fun {a} h1 h2 h3=>⟨p.bA a,(p.dc h1).gY _ _ _ h3,h2⟩
 unfold VK at hp;split at hp
 ·rename_i u hu;split at hp
  ·rename_i ps h1;obtain ⟨lP,q1,q2,q3⟩:=tz C2 n h1 ht;obtain ⟨x,hx,f1,f2⟩:=Eh hp q2;cases BY:Go.Am.jM u with
   |true=>
    rw [BY] at hx;simp only [if_true] at hx;subst hx;have:∃ cs,v=.agg cs:=by
     unfold aaX at eJ;rw [hu] at eJ;cases u <;> first | (cases BY; done) | (obtain ⟨cs,h,_⟩:=eJ; exact ⟨cs,h⟩)
    obtain ⟨⟨cs⟩,rfl⟩:=this;exact fin f1 f2 (.agg q1 q3)
   |false=>
    rw [BY] at hx;simp only [Bool.false_eq_true,if_false] at hx;subst hx;have hv:v.cells.toList=[v]:=by
     cases v with
     |agg cs=>
      exfalso;unfold aaX at eJ;rw [hu] at eJ;cases u <;> first | (cases BY; done) | (simp [Cell.okWide,Cell.ok,hu] at eJ)
     |_=>rfl
    rw [hv] at q1;cases q1 with
    |cons q1 _=>exact fin f1 f2 q1
  ·cases hp
 ·cases hp
def Ei (P:Program) (n:Nat):List TypeId→Option (List aM)
 |[]=>some []
 |t :: l=>match VK P n t,Ei P n l with
  |some p,some r=>some (p :: r)
  |_,_=>none
theorem Ej (C2:∀ b,spare b=true) {n:Nat} {r:Reach} {base':Nat}:∀ {ts:List TypeId} {ps:List aM} {vs:List Value} {ds:List (DataW H)} {pl:List MemPlace},Ei P n ts=some ps→aa4 enc P w base spare held ts vs ds pl →
  (∀ (j:Nat) t v,ts[j]?=some t→vs[j]?=some v→aaX P w r base' t v)→∃ x:(kQ ps).T,aK (oe w) w ((kQ ps).enc x) vs∧(kQ ps).wf x
 |[],ps,vs,ds,pl,hp,ht,_=>by
  simp only [Ei] at hp;cases hp;cases vs with
  |nil=>exact ⟨(),.nil,trivial⟩
  |cons _ _=>cases ds <;> exact ht.elim
 |t :: ts,ps,vs,ds,pl,hp,ht,eJ=>by
  unfold Ei at hp;split at hp
  ·rename_i p r h1 h2;cases hp;cases vs with
   |nil=>cases ds <;> exact ht.elim
   |cons v vs=>
    cases ds with
    |nil=>exact ht.elim
    |cons d ds=>
     obtain ⟨p1,p2,k1,k2,_⟩:=ht;obtain ⟨x,q1,q2⟩:=PS C2 h1 k1 (eJ 0 t v rfl rfl);obtain ⟨y,q3,q4⟩:=Ej C2 h2 k2 (fun j t v hj hv=>eJ (j+1) t v (by simpa using hj) (by simpa using hv));cases r with
     |nil=>
      cases q3;exact ⟨x,.one q1,q2⟩
     |cons p' r=>exact ⟨(x,y),.cons q1 q3,q2,q4⟩
  ·cases hp
end read
end Go.Am
namespace Go.Am
open Go Go.RowKit Go.WideShapes Go.ChangeShapes
section
variable {H:Type} {enc:TypeId × Value→H} {P:Program}
theorem GI {f:Func} {s:ChangeSpec} {apart fresh handsOn again:Bool} {W W':World} {args:Array Value} {v:Value} {ds gs:List (DataW H)} {before pa pv:List MemPlace}
  (hW:DataW.Whole enc P f.params.toList s.vars apart W args.toList ds gs before)
  (Gb:∀ (b:Nat) (sp:Nat→Bool) (hd:Bool),aa4 enc P W' b sp hd f.resultTypes.toList (v.resultList f.resultTypes.size) (s.fn H (ds++gs)).results [])
  (vk:∀ sp:Nat→Bool,(∀ p∈before,sp p.block=true)→aa4 enc P W' 0 sp true f.params.toList args.toList (s.fn H (ds++gs)).args pa)
  (Ek:∀ sp:Nat→Bool,(∀ p∈before,sp p.block=true)→DataW.TrodVars enc P W' sp s.vars (s.fn H (ds++gs)).vars pv)
  (FB:before=pa++pv) (hb:Below W.heap.size W W')
  (eJ:∀ (j:Nat) (t:TypeId) (r:Value),f.resultTypes[j]?=some t→(v.resultList f.resultTypes.size)[j]?=some r→aaX P W' .any 0 t r) :
  s.post enc P f apart fresh handsOn again W args v W':=by
 have bZ:∀ p∈before,p.block < W.heap.size:=fun p hp=>hW.lt p hp
 have hold:∀ p∈before,(fun b=>decide (b < W.heap.size)) p.block=true:=fun p hp=>by simpa using bZ p hp
 refine ⟨ds,gs,before,[],pa,pv,hW,Gb _ _ _,vk _ hold,Ek _ hold,World.keptBut_mono (fun p hp=>⟨hp,?_⟩) (hb.frame (·∈before)),fun _=>?_⟩
 ·rw [FB,List.mem_append] at hp;exact Or.inr hp
 ·obtain ⟨_,_,_,_,_,hz,hn⟩:=hW;refine ⟨eJ,_,_,([]++pa)++pv,⟨[]++pa,pv,trodAll_append (vk _ (fun _ _=>rfl)) (Gb _ _ _),Ek _ (fun _ _=>rfl),rfl,?_,?_⟩,?_⟩
  ·intro b off hp;have FG:MemPlace.cell b off∈before:=by rw [FB]; simpa using hp
   rw [hb.frozen (bZ _ FG)];exact hz b off FG
  ·intro ha;have:=hn ha;rw [FB] at this;simpa using this
  ·intro p hp _;rw [FB];simpa using hp
theorem rC (hl:laidOutB P=true) {W W':World} (hb:Below W.heap.size W W') {sp:Nat→Bool}:∀ {ts:List TypeId} {vs:List Value} {ds:List (DataW H)} {pl:List MemPlace},
  (∀ t∈ts,P.readableRec t=true∧t < P.types.size)→aa4 enc P W 0 (fun _=>true) true ts vs ds pl→(∀ p∈pl,p.block < W.heap.size)→(∀ p∈pl,sp p.block=true) →
  aa4 enc P W' 0 sp true ts vs ds pl
 |[],[],[],_,_,h,_,_=>h
 |t :: ts,v :: vs,d :: ds,pl,hr,h,bZ,C2=>by
  obtain ⟨p,q,h1,h2,rfl⟩:=h;refine ⟨p,q,?_,rC hl hb (fun t ht=>hr t (by simp [ht])) h2 (fun x hx=>bZ x (by simp [hx])) (fun x hx=>C2 x (by simp [hx])),rfl⟩;exact WideElems.Trod_stays hl (hr t (by simp)).1 (hr t (by simp)).2 h1 (fun x hx=>hb.same (bZ x (by simp [hx]))) (fun x hx=>C2 x (by simp [hx]))
 |[],[],_ :: _,_,_,h,_,_=>h.elim
 |[],_ :: _,_,_,_,h,_,_=>h.elim
 |_ :: _,[],_,_,_,h,_,_=>h.elim
 |_ :: _,_ :: _,[],_,_,h,_,_=>h.elim
theorem JG {E:Env} {f:FuncId} {fn:Func} {s:ChangeSpec} {ps:List aM} {apart fresh handsOn again:Bool} {W:World} {base:Nat} {args:Array Value} {ds gs:List (DataW H)} {before:List MemPlace} {n tb:Nat}
  (adE:∀ x,(kQ ps).wf x→aR E f ((kQ ps).enc x) (fun r=>r=.bool true)) (ZF:Ei E.P n fn.params.toList=some ps)
  (JH:∀ (j:Nat) t v,fn.params[j]?=some t→args[j]?=some v→aaX E.P W .any base t v)
  (hW:DataW.Whole enc E.P fn.params.toList s.vars apart W args.toList ds gs before) (ZG:∀ g cs,E.ck g=some cs→dR (oe W) W g 0 cs)
  (Ek:s.vars=[]) (C2:∀ ds:List (DataW H),ds.length=fn.params.toList.length→s.fn H ds={ results:=[.lit (.bool true)],args:=ds })
  (Gb:fn.resultTypes=#[tb]) (hub:E.P.underlying tb=some .bool) (hl:laidOutB E.P=true) (hr:∀ t∈fn.params.toList,E.P.readableRec t=true∧t < E.P.types.size) (FM:E.lo=0:=by rfl) (PQ:∀ g cs,E.ck g=some cs→E.gx g=true→g < W.heap.size∧W.cell? ⟨g,cs.length,none⟩=none:=by intro _ _ _ h; exact Bool.noConfusion (show false=true from h)) :
  Calls E.P f args W fun e W'=>∃ v,e=.returned v∧s.post enc E.P fn apart fresh handsOn again W args v W':=by
 have hW0:=hW;obtain ⟨p,q,hA,hV,rfl,hfz,hnd⟩:=hW;obtain ⟨rfl,rfl⟩:gs=[]∧q=[]:=by
  rw [Ek] at hV;cases gs with
  |nil=>exact ⟨rfl,hV⟩
  |cons g r=>exact absurd hV (by intro h; cases h)
 obtain ⟨x,hx,Yi⟩:=Ej (fun _=>rfl) (n:=n) ZF hA (r:=.any) (base':=base) (fun j t v hj hv=>JH j t v (by simpa using hj) (by simpa using hv));have hlen:ds.length=fn.params.toList.length:=by
  clear JH hfz hnd hW0 hx Yi C2 ZF hr;revert hA;generalize fn.params.toList=ts;generalize args.toList=vs;generalize p=pl;clear p;intro hA
  induction ts generalizing vs ds pl with
  |nil=>cases vs <;> cases ds <;> first | rfl | exact hA.elim
  |cons t ts ih=>
   cases vs with
   |nil=>cases ds <;> exact hA.elim
   |cons v vs=>
    cases ds with
    |nil=>exact hA.elim
    |cons d ds=>
     obtain ⟨p,q,_,h2,_⟩:=hA;simp [ih vs q h2]
 have hG:dB E (oe W) W []:=⟨rfl,fun id go ro h=>by simp [nth] at h,fun i j ri rj b h=>by simp [oe,nth] at h,fun b o h=>h,fun g cs hg=>⟨ZG g cs hg,fun hx=>PQ g cs hg hx⟩,by rw [FM]; exact aa3 _⟩;have hc:=(adE x Yi []);refine (callsIn_wide.1 (hc.2 (oe W) W args.toList hG hx)).mono fun e W' he=>?_
 cases e with
 |panicked c=>exact he.elim
 |outgrown=>exact he.elim
 |returned c=>
  obtain ⟨r,G',R',⟨_,rfl⟩,ej,_,st⟩:=he;cases ej;have hb:Below W.heap.size W W':=⟨st.os,st.tape,st.output,st.size,fun k hk=>st.aW k hk fun ho=>by
   obtain ⟨id,ro,h1,_⟩:=eP ho;simp [oe,nth] at h1⟩
  have bZ:∀ y∈p,y.block < W.heap.size:=fun y hy=>by simpa using hW0.lt y (by simpa using hy)
  have e1:s.fn H (ds++[])={ results:=[.lit (.bool true)],args:=ds }:=by rw [List.append_nil]; exact C2 ds hlen
  refine ⟨_,rfl,GI (pa:=p) (pv:=[]) hW0 ?_ ?_ ?_ rfl hb ?_⟩
  ·intro b sp hd;rw [e1,Gb];exact trodAll_mk1 (shut_bool hub true)
  ·intro sp adG;rw [e1];exact rC hl hb hr hA bZ (fun y hy=>adG y (by simpa using hy))
  ·intro sp _;rw [e1,Ek];rfl
  ·intro j t r hj mh;rw [Gb] at hj mh;cases j with
   |succ j=>simp at hj
   |zero=>
    simp at hj;subst hj;have:r=.bool true:=by simpa [Value.resultList] using mh.symm
    subst this;simp [aaX,Cell.okWide,Cell.ok,hub]
end
end Go.Am
namespace Go.Am
open Go
section
variable {P:Program} {W:World}
theorem uH {g:Nat} {cs:Array Value} {k:IntKind} (hg:g < W.heap.size):∀ (xs:List Int) (o:Nat),(∀ i,i < xs.length→W.cell? ⟨g,o+i,none⟩=some (.int k (xs[i]?.getD 0)))→dR (oe W) W g o (xs.map fun x=>.int k x)
 |[],_,_=>.nil
 |x :: xs,o,h=>.cons (h 0 (by simp)) rfl hg (.int k x) (uH (cs:=cs) hg xs (o+1) fun i hi=>by
   have:=h (i+1) (by simpa using hi);rw [show o+1+i=o+(i+1) by omega];simpa using this)
end
end Go.Am
namespace Go.Am
open Go
theorem eD {p:aM} (hp:p.plain=true) (l:List p.T):allFit p.fits (List.map p.enc l)=true:=by
 induction l with
 |nil=>rfl
 |cons x l ih=>simp [allFit,ih,(p.bU x hp).1]
theorem iM {p:aM} (hp:p.plain=true) (l:List p.T):List.map p.bA (List.map p.enc l)=l:=by
 induction l with
 |nil=>rfl
 |cons x l ih=>simp [ih,(p.bU x hp).2]
end Go.Am
namespace Go.Am
open Go Go.RowKit
section
variable {E:Env} {R:ak} {w w':World}
theorem Below.VL (h:Below w.heap.size w w') (wf:∀ b o,R.I b o→b < w.heap.size):Ext R w R w':=
 ⟨fun _ _ h=>h,fun b o hi=>cb (h.block b (wf b o hi)) o,fun _ ro h=>⟨ro,h,cF.refl ro⟩,.old fun b hb=>h.block b hb⟩
theorem Below.JI {G:List GO} (h:Below w.heap.size w w') (hg:dB E R w G) (hE:E.lo=0):dB E R w' G:=
 hg.aW (Below.VL h hg.wf) rfl (fun b hb=>h.block b (hg.b9 hb)) (fun _ _ _ hi=>hi) (fun b o hi=>Nat.lt_of_lt_of_le (hg.wf b o hi) h.size) (fun _=>by rw [hE]; exact aa3 _)
theorem Below.Bs {β:Nat→Nat} {bx:cO} (h:Below w.heap.size w w') (wf:∀ b o,R.I b o→b < w.heap.size):Step R w β bx R w' β bx:=
 ⟨Below.VL h wf,h.os,h.tape,h.output,h.size,fun b hb _=>h.block b hb,fun _ _ ho=>ho,fun _ _ hi _ _=>hi⟩
theorem aR.below {g:FuncId} {args:List AV} {r:AV} (hp:Plain E.P g)
  (h:∀ (R:ak) (w:World) (cs:List Value),aK R w args cs→Calls E.P g ⟨cs⟩ w (fun e w'=>∃ v,e=.returned v∧(∀ R,Rel R w' r v)∧Below w.heap.size w w')) (hE:E.lo=0):aR E g args (fun r'=>r'=r):=fun G=>
 ⟨hp,fun R w cs hg hl=>callsIn_wide.2 ((h R w cs hl).mono fun e w' ⟨v,he,hv,hb⟩=>by
  subst he;exact ⟨r,G,R,⟨rfl,rfl⟩,hv R,Below.JI hb hg hE,Below.Bs hb hg.wf⟩)⟩
theorem Plain.of {P : Program} {g : FuncId} {fn : Func} (h : P.funcs[g]? = some fn) (h1 : fn.body.isNone = false) (h2 : (fn.name == "runtime.NumGoroutine") = false) : Plain P g := ⟨fn, h, h1, h2⟩
end
def p2 (a b:aM):aJ:=.cons a (.cons b .nil)
def p1 (a:aM):aJ:=.cons a .nil
def JJ:List UInt8 × List UInt8→Option (List UInt8)
 |(s,[c])=>bif Nat.blt c.toNat 128 then some (s.dropWhile (· == c)) else none
 |_=>none
def VM (n:Int):List UInt8:=bif decide (n < 10) then [abu (48+n.toNat)] else [abu (48+n.toNat / 10),abu (48+n.toNat % 10)]
def zd:List (List UInt8)→List UInt8→List UInt8
 |[],_=>[]
 |[a],_=>a
 |a :: l,sep=>a++sep++zd l sep
def JK:aP:=⟨p2 .str .str,.str,JJ⟩
section
variable {E:Env}
theorem El {g:FuncId} (hp:Plain E.P g)
  (h:∀ (s:ByteArray) (c:UInt8),c.toNat < 128→∀ w:World,Calls E.P g #[.string s,.string ⟨#[c]⟩] w fun e w'=>e=.returned (.string ⟨(s.data.toList.dropWhile (· == c)).toArray⟩)∧w'=w) (hE:E.lo=0:=by rfl):ai E g JK:=fun x y hT=>by
 obtain ⟨s,c⟩:=x
 match c,hT with
 |[c],hT=>
  obtain ⟨h1,h2⟩:=cond_some' hT;subst h2;refine aR.below hp (fun R w cs hl=>?_) hE;cases hl with
  |cons a1 hl=>
  cases hl with
  |cons a2 hl=>
  cases hl;cases a1; cases a2;refine (h ⟨⟨s⟩⟩ c (aa5 h1) w).mono ?_;rintro e w' ⟨rfl,rfl⟩;exact ⟨_,rfl,fun _=>Rel.str _,Below.refl _ _⟩
where
 cond_some' {c:Bool} {a x:List UInt8} (h:(bif c then some a else none)=some x):c=true∧a=x:=by
  cases c
  ·cases h
  ·exact ⟨rfl,aac h⟩
end
end Go.Am
namespace Go.Am
open Go Go.RowKit Go.Proofs Go.Shelf
section
variable {E:Env} {R:ak} {w w':World}
theorem Em {b:Nat} {x y v:Value} {el:TypeId} {fz:Nat × Nat} (h:w.heap[b]?=some (.cells #[x,y] el fz)):w.setCell ⟨b,0,none⟩ v=w.setRow b #[v,y]:=by
 unfold World.setCell World.setRow;congr 1;apply Array.ext
 ·simp
 ·intro i h1 h2;rw [abR,abR];by_cases e:b=i
  ·subst e;have bZ:b < w.heap.size:=bi h;have hv:w.heap[b]=.cells #[x,y] el fz:=(Array.getElem?_eq_some_iff.1 h).2;simp [hv]
  ·simp [e]
theorem dB.C3 {G:List GO} (h:dB E R w G):bl E R w (fun _=>0) ⟨[],fq,G,[],none,0⟩ { tmps:=#[],defers:=[] }:=
 ⟨h,⟨fun k cs hk=>by simp [fq,dy] at hk,fun k k' cs cs' hk=>by simp [fq,dy] at hk⟩,fun i hi=>absurd rfl hi,rfl,trivial⟩
def PT (id:Nat):AV→Bool
 |.fm=>true
 |.ptr i 0=>aaB i id
 |_=>false
def ccF (ty:Nat) (args:List AV) (G:List GO):Option (Bool × AV × List GO):=match args with
 |[.ptr id 0]=>match nth G id with
  |some (.row [c,b] el)=>some (aaB el ty&&PT id c,.bk [],aF G id (.row [.ptr id 0,b] el))
  |_=>none
 |_=>none
theorem VN {ρ:Ren} (L:Lays.n240 E.P ρ) (X:Builder.X72 E.P ρ) (args:List AV) (G:List GO) (r:AV) (G':List GO) (h:ccF (ρ.t 72) args G=some (true,r,G')):cB E (ρ.f 240) args G (fun r' Bn=>r'=r∧Bn=G'):=by
 refine ⟨⟨_,L.f240,rfl,rfl⟩,fun R w cs hg hl=>callsIn_wide.2 ?_⟩;unfold ccF at h;split at h
 ·rename_i id;cases hl with
  |cons a1 hl=>
  cases hl;cases a1 with
  | @ptr _ _ b hb=>
  split at h
  ·rename_i cv bv el hid;injection h with h; injection h with h1 h; injection h with h2 h3;rw [aaa] at h1;obtain ⟨h1,E8⟩:=h1;have h1:=aab h1;subst h1; subst h2; subst h3;obtain ⟨vs,k1,k2,k3,k4⟩:=hg.obj id _ _ hid hb;cases k2 with
   | @cons _ c1 _ _ q1 k2=>
   cases k2 with
   | @cons _ c2 _ _ q2 k2=>
   cases k2;unfold PT at E8;split at E8
   case h_3=>cases E8
   case h_2 i=>
    have E8:=aab E8;subst E8;cases q1 with
    | @ptr _ _ b' gL=>
    rw [hb] at gL;cases gL;refine (Any.Builder_copyCheck_used L X b w (by simp [abq,k1])).mono fun e w' ⟨he,hw⟩=>?_
    subst he; subst hw;rw [ju hid];exact ⟨.bk [],G,R,⟨rfl,rfl⟩,Rel.bk .nil,hg,Step.refl _ _ _ _⟩
   cases q1;have F9:∀ v∈[Value.pointer (some ⟨b,0,none⟩),c2],v.oneCell'=true:=by
    intro v hv;rcases aaH.1 hv with rfl|hv
    ·rfl
    ·exact k3 v (by rw [List.mem_singleton.1 hv]; simp)
   refine (Any.Builder_copyCheck_fresh L X b w (by simp [abq,k1]) (by simp [World.shape?,k1]) (by simp [World.frozen?,k1])).mono fun e w' ⟨he,hw⟩=>?_
   subst he;rw [Em k1] at hw;subst hw;obtain ⟨r1,r2⟩:=(dB.C3 hg).setRow (cs':=[.ptr id 0,bv]) (us:=[.pointer (some ⟨b,0,none⟩),c2]) hid hb k1 (.cons (Rel.ptr hb) (.cons q2 .nil)) F9;exact ⟨.bk [],_,R,⟨rfl,rfl⟩,Rel.bk .nil,r1.g,r2⟩
  ·cases h
 ·cases h
def ccE {ρ:Ren} (L:Lays.n240 E.P ρ) (X:Builder.X72 E.P ρ):kN E (ρ.f 240):=⟨ccF (ρ.t 72),VN L X⟩
theorem En (a:Addr) (n:Nat) (b o:Nat):(w.freeze a n).cell? ⟨b,o,none⟩=w.cell? ⟨b,o,none⟩:=by
 unfold abN;split
 ·rfl
 ·simp only [abq,abQ];by_cases e:a.block=b
  ·subst e;simp only [if_true];cases h:w.heap[a.block]? with
   |none=>rfl
   |some x=>cases x <;> simp
  ·simp [e]
theorem Eo {a:Addr} {n:Nat} {b:Nat} (h:b≠a.block):(w.freeze a n).heap[b]?=w.heap[b]?:=by
 unfold abN;split
 ·rfl
 ·simp only [abQ];rw [if_neg (Ne.symm h)]
theorem Ep (a:Addr) (n:Nat):(w.freeze a n).heap.size=w.heap.size:=by
 unfold abN;split <;> simp
set_option maxHeartbeats 2000000 in
set_option maxRecDepth 100000 in
theorem CC {P:Program} {ρ:Ren} (L:Lays.n169 P ρ) (X:Builder.Extra P ρ) (b g cap:Nat) (p:Value) (cur:Array Value) (l:List UInt8) (w:World) (h0:l≠[])
  (hbk:w.heap[b]?=some (.cells #[p,.slice (some ⟨g,0,none⟩) l.length cap] (ρ.t 72) (0,0))) (hg:w.heap[g]?=some (.cells cur (ρ.t 5) (0,0))) (hnc:l.length≤cap) (YW:cap≤maxLen) (ql:cur.size=cap)
  (fT:∀ (j:Nat) (x:UInt8),l[j]?=some x→w.cell? ⟨g,j,none⟩=some (.int .u8 x.toNat)) :
  Calls P (ρ.f 169) #[.pointer (some ⟨b,0,none⟩)] w fun e w'=>e=.returned (.string ⟨l.toArray⟩)∧w'=w.drew.freeze ⟨g,0,none⟩ l.length:=by
 have uk:l.length≠0:=by simpa using h0
 have c1:w.drew.cell? ⟨b,1,none⟩=some (.slice (some ⟨g,0,none⟩) l.length cap):=by
  have:w.drew.heap[b]?=some (.cells #[p,.slice (some ⟨g,0,none⟩) l.length cap] (ρ.t 72) (0,0)):=hbk;rw [Lib.cell_of_heap this]; rfl
 have hSD:(Builtin.unsafeSliceData_ #[(ρ.t 37)] (ρ.t 127) #[.slice (some ⟨g,0,none⟩) l.length cap]).run P w.drew=.ok (.pointer (some ⟨g,0,none⟩)) w.drew:=
  Lib.run_unsafeSliceData_row _ _ _ _ _ _ (by omega)
 have hUS:(Builtin.unsafeString_ #[(ρ.t 127),(ρ.t 3)] (ρ.t 9) #[.pointer (some ⟨g,0,none⟩),.int .i64 l.length]).run P w.drew=.ok (.string ⟨l.toArray⟩) (w.drew.freeze ⟨g,0,none⟩ l.length):=by
  refine Lib.run_unsafeString_row w.drew (ρ.t 127) (ρ.t 3) (ρ.t 9) (ρ.t 5) L.t127 X.cellsByte g cur.size (by have rI:w.drew.heap[g]?=some (.cells cur (ρ.t 5) (0,0)):=hg; simp [World.shape?,rI]) l h0 (by omega) (by unfold maxLen at YW; omega) ?_;intro j x hx;have:=fT j x hx;rw [cH,Nat.zero_add];exact this
 have mixed:=L.mixed;have t72:=L.t72; have a72:=L.a72; have z72:=L.z72; have v72:=L.v72; have u72:=run_underlying L.t72;have t70:=L.t70; have a70:=L.a70; have z70:=L.z70; have v70:=L.v70; have u70:=run_underlying L.t70;have t37:=L.t37; have a37:=L.a37; have z37:=L.z37; have v37:=L.v37; have u37:=run_underlying L.t37;have t127:=L.t127; have a127:=L.a127; have z127:=L.z127; have v127:=L.v127; have aiL:=run_underlying L.t127;have t3:=L.t3; have a3:=L.a3; have z3:=L.z3; have v3:=L.v3; have u3:=run_underlying L.t3;have t9:=L.t9; have a9:=L.a9; have z9:=L.z9; have v9:=L.v9; have u9:=run_underlying L.t9;have t5:=X.t5; have a5:=X.a5; have z5:=X.z5; have v5:=X.v5; have u5:=run_underlying X.t5;clear fT
 go_enter L.f169,Body.n169_ntmps ρ
 go_wp2
 go_region_o
 all_goals (go_wp2; go_ret; exact ⟨rfl,rfl⟩)
theorem dB.frozen {G:List GO} (hg:dB E R w G) {t f sz el g c n:Nat} (_ht:nth G t=some (.tok f sz el)) (hr:nth R.obj t=some (.tok f g c)) {cur:Array Value} {fz:Nat × Nat} (hc:w.heap[g]?=some (.cells cur el fz)) :
  dB E R (w.drew.freeze ⟨g,0,none⟩ n) (aF G t .dead)∧Step R w (fun _=>0) fq R (w.drew.freeze ⟨g,0,none⟩ n) (fun _=>0) fq:=by
 have hl:Live R g:=⟨t,_,hr,rfl⟩;have aW:∀ b,b≠g→(w.drew.freeze ⟨g,0,none⟩ n).heap[b]?=w.heap[b]?:=fun b hb=>Eo (w:=w.drew) (a:=⟨g,0,none⟩) hb
 have eY:(w.drew.freeze ⟨g,0,none⟩ n).heap.size=w.heap.size:=Ep (w:=w.drew) _ _;have e:Ext R w R (w.drew.freeze ⟨g,0,none⟩ n):=⟨fun _ _ h=>h,fun b o _=>En (w:=w.drew) _ _ b o,fun _ ro h=>⟨ro,h,cF.refl ro⟩,fun b r hb=>⟨r,by
  by_cases e:b=g
  ·subst e; rw [hc] at hb; cases hb
  ·rw [aW b e]; exact hb,rfl,rfl,rfl,rfl,rfl⟩⟩
 have hos:∀ (v:World) (a:Addr) (m:Nat),(v.freeze a m).os=v.os∧(v.freeze a m).tape=v.tape∧(v.freeze a m).output=v.output∧(v.freeze a m).drawn=v.drawn:=by
  intro v a m;unfold abN;split <;> exact ⟨rfl,rfl,rfl,rfl⟩
 refine ⟨⟨by rw [ik]; exact hg.len,fun id go ro q1 q2=>?_,hg.inj,fun b o hi=>by rw [eY]; exact hg.wf b o hi,fun x cs hx=>(hg.ck x cs hx).mono e,by rw [(hos _ _ _).2.2.2]; exact Nat.le_succ_of_le hg.lo⟩,⟨e,(hos _ _ _).1,(hos _ _ _).2.1,(hos _ _ _).2.2.1,by rw [eY]; exact aba _,fun b hb hn=>aW b (fun e=>hn (e ▸ .inl hl)),fun _ _ ho=>ho,fun _ _ hi _ _=>hi⟩⟩;rcases dp q1 with ⟨rfl,rfl,_⟩|⟨cQ,q1⟩
 ·rw [hr] at q2;cases q2;show g < _;rw [eY];exact bi hc
 ·refine (hg.obj id go ro q1 q2).mono e (fun b hb=>aW b (fun e=>cQ ?_)) (fun _ _ _ hi=>hi);subst e;exact hg.inj t id _ _ b hr q2 rfl hb
theorem ze {b:Nat}:∀ {es:List AV} {o:Nat},gl R w b o 1 es→allFit (aM.fits (.int .u8)) es=true→∀ (j:Nat) (e:AV),es[j]?=some e→w.cell? ⟨b,o+j,none⟩=some (.int .u8 e.lr)
 |[],_,_,_,j,x,h=>by simp at h
 |a :: xs,o,.cons _ _ _ hc t,hf,0,x,h=>by
  simp only [allFit,aaa] at hf;simp only [List.getElem?_cons_zero] at h;cases h;cases a <;> first | (cases hf.1; done) | skip
  have hk:IntKind.u8=_:=of_decide_eq_true (show UA _ _=true from hf.1);subst hk;cases hc with
  |cons h1 h2 h3 h4 h5=>
  cases h4;exact h1
 |a :: xs,o,.cons _ _ _ hc t,hf,j+1,x,h=>by
  simp only [allFit,aaa] at hf;simp only [List.getElem?_cons_succ] at h;have:=ze t hf.2 j x h;rw [show o+(j+1)=o+1+j by omega];exact this
def r9:List AV→Bool
 |[]=>true
 |a :: l=>(match a with
  |.int .u8 n=>decide (0≤n)&&decide (n < 256)
  |_=>false)&&r9 l
theorem zf:∀ {es:List AV},r9 es=true→allFit (aM.fits (.int .u8)) es=true∧∀ e∈es,0≤e.lr∧e.lr < 256
 |[],_=>⟨rfl,fun e he=>by simp at he⟩
 |a :: l,h=>by
  simp only [r9,aaa] at h;obtain ⟨h1,h2⟩:=zf h.2;have ha:=h.1;split at ha
  ·rename_i n;rw [aaa] at ha;refine ⟨by simp only [allFit,h1,Bool.and_true]; rfl,fun e he=>?_⟩;rcases aaH.1 he with rfl|he
   ·exact ⟨of_decide_eq_true ha.1,of_decide_eq_true ha.2⟩
   ·exact h2 e he
  ·cases ha
def VO (ty:Nat) (args:List AV) (G:List GO):Option (Bool × AV × List GO):=match args with
 |[.ptr id 0]=>match nth G id with
  |some (.row [_,.list .nil _ _] el)=>some (aaB el ty,.str [],G)
  |some (.row [_,.list (.own t) 1 es] el)=>match nth G t with
   |some (.tok f 1 e)=>some (aaB el ty&&aaB e 5&&!es.isEmpty&&decide (f=es.length)&&r9 es,.str (fP es),aF G t .dead)
   |_=>none
  |_=>none
 |_=>none
theorem PU {ρ:Ren} (L:Lays.n169 E.P ρ) (X:Builder.Extra E.P ρ) (h5:ρ.t 5=5) (hE:E.lo=0) (args:List AV) (G:List GO) (r:AV) (G':List GO) (h:VO (ρ.t 72) args G=some (true,r,G')):cB E (ρ.f 169) args G (fun r' Bn=>r'=r∧Bn=G'):=by
 refine ⟨⟨_,L.f169,rfl,rfl⟩,fun R w cs hg hl=>callsIn_wide.2 ?_⟩;unfold VO at h;split at h
 ·rename_i id;cases hl with
  |cons a1 hl=>
  cases hl;cases a1 with
  | @ptr _ _ b hb=>
  split at h
  ·rename_i pv _ es el hid;injection h with h; injection h with h1 h; injection h with h2 h3;have h1:=aab h1;subst h1; subst h2; subst h3;obtain ⟨vs,k1,k2,k3,k4⟩:=hg.obj id _ _ hid hb;cases k2 with
   | @cons _ c1 _ _ q1 k2=>
   cases k2 with
   | @cons _ c2 _ _ q2 k2=>
   cases k2;cases q2 with
   |list _ _ _ hk=>exact hk.elim
   |kz=>
    refine (Any.Builder_String_nil L X w.heap.size b c1 w k1).mono fun e w' ⟨he,hw⟩=>?_
    subst he;exact ⟨.str [],G,R,⟨rfl,rfl⟩,Rel.str _,Below.JI hw hg hE,Below.Bs hw hg.wf⟩
  ·rename_i pv t es el hid;split at h
   ·rename_i f e ht;injection h with h; injection h with h1 h; injection h with h2 h3;subst h2; subst h3;simp only [aaa] at h1;obtain ⟨⟨⟨⟨h1,h4⟩,h6⟩,h7⟩,h8⟩:=h1;have h1:=aab h1;have h4:=aab h4;have h7:=of_decide_eq_true h7;subst h1; subst h4; subst h7;obtain ⟨vs,k1,k2,k3,k4⟩:=hg.obj id _ _ hid hb;cases k2 with
    | @cons _ c1 _ _ q1 k2=>
    cases k2 with
    | @cons _ c2 _ _ q2 k2=>
    cases k2;cases q2 with
    |mH _ _=>simp at h6
    | @list _ _ _ g o len cap hE hlen hU hk=>
    subst hlen;obtain ⟨ro,b6,wG⟩:=hk;have cR:=hg.obj t _ _ ht b6;cases ro with
    |none=>exact cR.elim
    |bO=>exact wG.elim
    |ca _=>exact cR.elim
    |bB _=>exact cR.elim
    |tok f' g' c'=>
     obtain ⟨rfl,cur,iW,m1,m2,m3,m4⟩:=cR;obtain ⟨rfl,rfl,rfl⟩:=wG.2 rfl;obtain ⟨n1,n2⟩:=zf h8;have O0:(fP es).length=es.length:=List.length_map _;have cQ:es≠[]:=by intro e; rw [e] at h6; simp at h6
     have fT:∀ (j:Nat) (x:UInt8),(fP es)[j]?=some x→w.cell? ⟨g,j,none⟩=some (.int .u8 x.toNat):=by
      intro j x hx;unfold fP at hx;rw [List.getElem?_map] at hx;cases he:es[j]? with
      |none=>rw [he] at hx; cases hx
      |some a=>
       rw [he] at hx;cases hx;have h1:=ze hE n1 j a he;rw [Nat.zero_add] at h1;have h2:=n2 a (List.mem_of_getElem? he);rw [h1];have:(abu a.lr.toNat).toNat=a.lr.toNat:=by
        rw [UInt8.toNat_ofNat'];omega
       show some (Value.int .u8 a.lr)=some (Value.int .u8 ((abu a.lr.toNat).toNat:Int));rw [this,Int.toNat_of_nonneg h2.1]
     refine (CC L X b g cap c1 cur (fP es) w (by intro e; exact cQ (List.eq_nil_of_length_eq_zero (by rw [← O0,e]; rfl))) (by rw [O0]; exact k1) (by rw [h5]; exact iW) (by rw [O0]; exact hU) m2 (by omega) fT).mono fun e w' ⟨he,hw⟩=>?_
     subst he;subst hw;obtain ⟨r1,r2⟩:=dB.frozen (n:=(fP es).length) hg ht b6 iW;exact ⟨.str (fP es),_,R,⟨rfl,rfl⟩,Rel.str _,r1,r2⟩
   ·cases h
  ·cases h
 ·cases h
def ZH {ρ:Ren} (L:Lays.n169 E.P ρ) (X:Builder.Extra E.P ρ) (h5:ρ.t 5=5) (hE:E.lo=0:=by rfl):kN E (ρ.f 169):=⟨VO (ρ.t 72),PU L X h5 hE⟩
end
end Go.Am
namespace Go.Am
open Go
theorem gF {x:Int} (h:-9223372036854775808≤x∧x≤9223372036854775807):IntKind.wrap .i64 x=x:=IntWalk.i64_in x (by omega)
def fD (N:Nat):Prop:=18446744073709551616≤N
theorem bF {V X:Type} (rd:V→Option (V ⊕ X)) (n:Nat) (v:V):aH rd (n+1) v=(rd v).bind fun o=>aaZ (fun v'=>aH rd n v') (fun x=>some x) o:=rfl
theorem iN {α:Type} (g:α→AV) (xs:List α) (k:Nat) (h:k < xs.length):ah (xs.map g) k=g xs[k]:=by
 unfold ah;rw [bg,List.getElem?_map,abK h];rfl
def foldI {S α Y:Type} (st:S→α→S ⊕ Y):S→List α→S ⊕ Y
 |s,[]=>.inl s
 |s,a :: l=>aaZ (fun s'=>foldI st s' l) (fun y=>.inr y) (st s a)
theorem fZ {V X S α Y:Type} {rd:V→Option (V ⊕ X)} (l:List α) (E:S→Nat→V) (st:S→α→S ⊕ Y) (fin:S→X) (ex:Y→X) (P:S→Nat→Prop)
  (h:∀ s k (hk:k < l.length),P s k→rd (E s k)=some (Sum.map (fun s'=>E s' (k+1)) ex (st s l[k]))∧∀ s',st s l[k]=.inl s'→P s' (k+1))
  (h0:∀ s,P s l.length→rd (E s l.length)=some (.inr (fin s))) :
  ∀ n s k,k≤l.length→l.length < n+k→P s k→aH rd n (E s k)=some (aaZ fin ex (foldI st s (l.drop k)))
 |0,s,k,hk,hn,_=>by omega
 |n+1,s,k,hk,hn,hP=>by
  rw [bF];by_cases bZ:k < l.length
  ·obtain ⟨h1,h2⟩:=h s k bZ hP;rw [h1,abJ bZ];simp only [abO,foldI];cases hs:st s l[k] with
   |inl s'=>
    simp only [Sum.map_inl,aa6];exact fZ l E st fin ex P h h0 n s' (k+1) (by omega) (by omega) (h2 s' hs)
   |inr y=>simp only [Sum.map_inr,Sum.elim_inr]
  ·have:k=l.length:=by omega
   subst this;rw [h0 s hP,abP (aba _)];rfl
theorem lQ {V X S α:Type} {rd:V→Option (V ⊕ X)} (l:List α) (E:S→Nat→V) (f:S→α→S) (fin:S→X) (P:S→Nat→Prop)
  (h:∀ s k (hk:k < l.length),P s k→rd (E s k)=some (.inl (E (f s l[k]) (k+1)))∧P (f s l[k]) (k+1))
  (h0:∀ s,P s l.length→rd (E s l.length)=some (.inr (fin s))) :
  ∀ n s k,k≤l.length→l.length < n+k→P s k→aH rd n (E s k)=some (fin ((l.drop k).foldl f s))
 |0,s,k,hk,hn,_=>by omega
 |n+1,s,k,hk,hn,hP=>by
  rw [bF];by_cases bZ:k < l.length
  ·obtain ⟨h1,h2⟩:=h s k bZ hP;rw [h1,abJ bZ];simp only [abO,aa6,List.foldl_cons];exact lQ l E f fin P h h0 n _ (k+1) (by omega) (by omega) h2
  ·have:k=l.length:=by omega
   subst this;rw [h0 s hP,abP (aba _)];rfl
theorem cT {V X:Type} {rd:V→Option (V ⊕ X)} (m:Nat) (E:Nat→V) (x:X) (h:∀ k,k < m→rd (E k)=some (.inl (E (k+1)))) (h0:rd (E m)=some (.inr x)) :
  ∀ n k,k≤m→m < n+k→aH rd n (E k)=some x
 |0,k,hk,hn=>by omega
 |n+1,k,hk,hn=>by
  rw [bF];by_cases bZ:k < m
  ·rw [h k bZ];simp only [abO,aa6];exact cT m E x h h0 n (k+1) (by omega) (by omega)
  ·have:k=m:=by omega
   subst this;rw [h0];rfl
theorem bt {k n:Nat} (h:k < n):decide (0≤(k:Int)∧(k:Int) < (n:Int))=true:=by simp; omega
theorem bP {k n:Nat} (h:k < n):decide ((k:Int) < (n:Int))=true:=by simpa using h
theorem cw (n:Nat):decide ((n:Int) < (n:Int))=false:=by simp
theorem bS {k:Nat} (h:k < 9223372036854775807):IntKind.wrap .i64 ((k:Int)+1)=((k+1:Nat):Int):=by rw [gF (by omega)]; simp
def tA (n lo hi:Int):Int:=if n < lo∨n > hi then 3 else 0
def aU:List Int→Int
 |[]=>0
 |x :: l=>if x=0 then aU l else x
theorem gu {l:List Int}:aU l=0↔∀ x∈l,x=0:=by
 induction l with
 |nil=>simp [aU]
 |cons x l ih=>
  simp only [aU,aaH,forall_eq_or_imp];by_cases h:x=0
  ·simp [h,ih]
  ·simp [h]
theorem og {rd:Int→Option (Int ⊕ (Int ⊕ Unit))} (l:List Int)
  (h:∀ k (hk:k < l.length),rd (k:Int)=some (if l[k]=0 then .inl ((k+1:Nat):Int) else .inr (.inl l[k]))) (h0:rd (l.length:Int)=some (.inr (.inr ()))) (n:Nat) (hn:l.length < n) :
  ∃ o,aH rd n 0=some o∧aaZ (fun x=>x) (fun _=>0) o=aU l:=by
 have key:=fZ (rd:=rd) (S:=Unit) (Y:=Int) l (fun _ k=>(k:Int)) (fun _ x=>if x=0 then .inl () else .inr x) (fun _=>.inr ()) (fun x=>.inl x) (fun _ _=>True)
  (fun s k hk _=>⟨by rw [h k hk]; by_cases e:l[k]=0 <;> simp [e],fun _ _=>trivial⟩) (fun _ _=>h0) n () 0 (aa3 _) (by omega) trivial
 refine ⟨_,key,?_⟩;rw [aa9];clear key h h0 hn
 induction l with
 |nil=>rfl
 |cons x l ih=>
  simp only [foldI,aU];by_cases e:x=0
  ·simp only [e,if_true,aa6]; exact ih
  ·simp [e]
theorem jF {rd:Int→Option (Int ⊕ (Int ⊕ Unit))} (l:List Int)
  (h:∀ k (hk:k < l.length),rd (k:Int)=some (if l[k]=0 then .inl ((k+1:Nat):Int) else .inr (.inl l[k]))) (h0:rd (l.length:Int)=some (.inr (.inr ()))) (n:Nat) (hn:l.length < n) :
  aH rd n 0=some (if aU l=0 then .inr () else .inl (aU l)):=by
 have key:=fZ (rd:=rd) (S:=Unit) (Y:=Int) l (fun _ k=>(k:Int)) (fun _ x=>if x=0 then .inl () else .inr x) (fun _=>.inr ()) (fun x=>.inl x) (fun _ _=>True)
  (fun s k hk _=>⟨by rw [h k hk]; by_cases e:l[k]=0 <;> simp [e],fun _ _=>trivial⟩) (fun _ _=>h0) n () 0 (aa3 _) (by omega) trivial
 rw [aa9] at key;refine key.trans (congrArg some ?_);clear key h h0 hn
 induction l with
 |nil=>rfl
 |cons x l ih=>
  simp only [foldI,aU];by_cases e:x=0
  ·simp only [e,if_true,aa6]; exact ih
  ·simp [e]
theorem Ig (s:List UInt8) (k:Nat) (hk:k < s.length):((s[k].toNat < 128)→bp s k=(s[k].toNat,1))∧(128≤s[k].toNat→128≤(bp s k).1):=by
 have e1:s.getD k 0=s[k]:=by simp [hk]
 constructor
 ·intro h;have:Nat.blt s[k].toNat 128=true:=Nat.ble_eq_true_of_le h;unfold bp;rw [e1,this];rfl
 ·intro h;have:Nat.blt s[k].toNat 128=false:=by
   cases hb:Nat.blt s[k].toNat 128 with
   |false=>rfl
   |true=>have:=aa5 hb; omega
  unfold bp;rw [e1,this];simp only [cond_false];have e2:((⟨⟨s⟩⟩:ByteArray).get! (k+0)).toNat=s[k].toNat:=by
   simp [ByteArray.get!,hk]
  unfold Utf8.decode;simp only [e2,if_neg (by omega:¬ s[k].toNat < 128)];have hr:(128:Nat)≤Utf8.runeError:=by decide
  repeat' split
  all_goals first | exact hr | skip
  all_goals simp_all
  all_goals omega
end Go.Am
