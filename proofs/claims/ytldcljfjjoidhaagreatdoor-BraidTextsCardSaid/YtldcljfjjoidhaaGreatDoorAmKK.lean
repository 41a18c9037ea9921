/- The abstract machine: the evaluator is sound. -/
import Derived.Test.YtldcljfjjoidhaaGreatDoorAmKJ
import GoSem.ClaimJoined
import Derived.Below
import Derived.ChangeSame
import Derived.Carry
import Derived.RowKit
import Derived.FnData
import Derived.Lib.Builder
import Derived.Lib.UnsafeStr
import Derived.Shelf.Strings.Builder1
import Derived.IntWalk
set_option linter.all false
open Array renaming getElem?_modify→abN, getElem_modify→abS
open Bool renaming and_eq_true→aab
open Go.DataW renaming trod→aae, TrodAll→aa1
open Go.Field renaming offset→abT
open Go.Value renaming oneCell'→aao, okWide→aap
open Go.World renaming cell?→aa6, freeze→aby
open List renaming getElem?_range→aag, mem_cons→aah, range→aai, drop_zero→aa4, drop_eq_getElem_cons→aa8, getElem?_eq_getElem→abx, drop_eq_nil_of_le→abI
open Nat renaming eq_of_beq_eq_true→aac, beq→aaf, lt_succ_self→aaF, zero_le→aa0, le_of_ble_eq_true→aa2, le_refl→aa5
open Option renaming bind_some→abD
open Option.some renaming inj→aad
open Sum renaming elim→aaZ, elim_inl→aa3
open UInt8 renaming ofNat→aa7
namespace Go.Am
open Go
section
variable {C:eB} {ih:Y7}
def uN (C:eB) (ih:Y7):Prop:=∀ (f:FuncId) (p:Nat) (c:Code) (X:Type) (fg:Option X→Option X→Option X),vU fg→∀ (K:Exit→St→Option X) (s:St) (x:X),
 bN (C.D.dt f) c=true→ih f p c X fg K s=some x→mC C.D.toEnv c (fun e s'=>K e s'=some x) s
theorem si {X:Type}:vU (Dh (X:=X)):=fun a b x h=>by
 unfold Dh at h;by_cases e:a=b
 ·rw [if_pos e] at h;exact ⟨h,e ▸ h⟩
 ·rw [if_neg e] at h;cases h
theorem pZ (hs:uN C ih) {X:Type} {fg:Option X→Option X→Option X} (hm:vU fg):ot C.D.toEnv (Em C ih fg):=fun g args G K x h=>by
 unfold Em at h;obtain ⟨eN,h⟩:=bA h;split at h
 ·rename_i fn Y8;split at h
  ·rename_i b hb;obtain ⟨hn,h⟩:=bA h;have fin:∀ {K':AV→List GO→Option X},ih g 1 b X fg (Mg C.D.toEnv fn K') (St.init fn.ntmps args G)=some x→cG C.D.toEnv g args G (fun r G'=>K' r G'=some x):=by
    intro K' h;refine cG.intro Y8 hb (by simpa using hn) ((hs g 1 b X fg hm _ _ x (C.D.Uu g fn b eN Y8 hb) h).mono fun e s' hq=>?_);have hq:=hq.1;unfold Mg at hq;unfold Uq;cases e <;> first | (cases hq; done) | skip
    all_goals (simp only at hq ⊢)
    all_goals (split at hq <;> first | (cases hq; done) | skip)
    all_goals (rename_i hl; rw [hl]; simp only)
    all_goals (split at hq <;> first | (cases hq; done) | skip)
    all_goals (rename_i LR; rw [LR]; exact hq)
   cases hfz:C.D.BZ g 131072 with
   |true=>rw [hfz] at h; exact cG.frz (fin h)
   |false=>rw [hfz] at h; exact fin h
  ·cases h
 ·cases h
theorem Ep (CL:∀ g e,C.xe g=some e→ai C.D.toEnv g e) (hs:uN C ih) {X:Type} {fg:Option X→Option X→Option X} (hm:vU fg):ot C.D.toEnv (En C ih fg):=fun g args G K x h=>by
 unfold En at h;split at h
 ·rename_i e he;obtain ⟨a,ha,h⟩:=bind_some h;obtain ⟨y,hy,h⟩:=bind_some h;refine cG.hY (e.ps.rU ha).1 (((CL g e he a y hy) G).mono fun r G' hr=>?_);obtain ⟨rfl,rfl⟩:=hr;exact h
 ·split at h
  ·rename_i e he;split at h
   ·rename_i c r G' hf;obtain ⟨hc,h⟩:=bA h;subst hc;refine (e.ok args G r G' hf).mono fun r' Br hh=>?_
    obtain ⟨rfl,rfl⟩:=hh;exact h
   ·cases h
  ·split at h
   ·rename_i e he;obtain ⟨a,ha,h⟩:=bind_some h;obtain ⟨y,hy,h⟩:=bind_some h;refine cG.hY (e.ps.rU ha).1 ((e.ok a y hy G).mono fun r G' hr=>?_);obtain ⟨z,rfl,hr⟩:=hr;exact (El e.outs z hr).trans h
   ·exact pZ hs hm g args G K x h
theorem Er {n:Nat}:∀ {l:List Tmp},P4 n l=true→∀ t∈l,t < n
 |[],_,t,ht=>by simp at ht
 |a :: l,h,t,ht=>by
  simp only [P4,aab] at h;rcases aah.1 ht with rfl|ht
  ·exact jZ h.1
  ·exact Er h.2 t ht
theorem G4 (hs:uN C ih) {X:Type} {fg:Option X→Option X→Option X} (hm:vU fg):vV C.D.toEnv (P5 C ih fg):=fun id args G K x h=>by
 unfold P5 at h;split at h
 ·rename_i p fp sl n ps tj bd d hG;obtain ⟨hc,h⟩:=bA h;simp only [aab] at hc;obtain ⟨⟨⟨h1,h2⟩,h3⟩,h4⟩:=hc;refine kH.intro hG (aac h1) (Er h2) ((hs _ _ tj X fg hm _ _ x h3 h).mono fun e s1 hq=>?_);have hq:=hq.1;unfold Cz;cases e with
  |normal=>
   simp only at hq ⊢;split at hq
   ·rename_i p' fn Y1 n' ps' PY Y4 d' hG1;rw [hG1];simp only;refine (hs _ _ bd X fg hm _ _ x h4 hq).mono fun e2 s2 pu=>?_
    have pu:GX id K e2 s2=some x:=pu.1;unfold GX at pu;unfold GQ;split at pu
    ·rename_i hG2;rw [hG2];cases e2 <;> first | (cases pu; done) | exact pu
    ·cases pu
   ·cases hq
  |_=>cases hq
 ·cases h
theorem mC.of {E:Env} {c:Code} {Q Q':Exit→St→Prop} {s:St} (h:mC E c Q s) (hq:∀ e s',Q e s'→a7 s s'→Q' e s'):fS E c Q' s:=
 fS.mono h fun e s' hh=>hq e s' hh.1 hh.2
theorem tJ {s s':St} {e:Exit}:∀ {outs:List (XK × cU)} {o:JT outs},lC s outs e s'=some o→∃ (t:cU) (v:t.ps.T),t.dec s s'=some v∧∀ (α:Type) (K:Exit→St→α),Pp s outs o K=K e (t.st s v)
 |[],o,h=>by cases h
 |[x],o,h=>by
  obtain ⟨h1,h2⟩:=bA (show (bif x.1.is e then x.2.dec s s' else none)=some o from h);exact ⟨x.2,o,h2,fun _ K=>by rw [XK.Ij h1]; rfl⟩
 |x :: y :: l,o,h=>by
  have h:(bif x.1.is e then (x.2.dec s s').bind fun v=>some (.inl v) else (lC s (y :: l) e s').bind fun o=>some (.inr o))=some o:=h;cases hx:x.1.is e with
  |true=>
   rw [hx] at h;obtain ⟨v,h1,h2⟩:=bind_some h;cases h2;exact ⟨x.2,v,h1,fun _ K=>by rw [XK.Ij hx]; rfl⟩
  |false=>
   rw [hx] at h;obtain ⟨v,h1,h2⟩:=bind_some h;cases h2;obtain ⟨t,u,k1,k2⟩:=tJ h1;exact ⟨t,u,k1,fun α K=>k2 α K⟩
theorem cU.sj (t:cU) (s:St) (v:t.ps.T):a7 s (t.st s v):=by
 have h1:∀ (W:List Tmp) (b:bj),∃ pre,yO W b=pre++b:=fun W b=>by
  induction W with
  |nil=>exact ⟨[],rfl⟩
  |cons t W ih=>obtain ⟨p,hp⟩:=ih; exact ⟨.put t .none :: p,by simp [yO,hp]⟩
 have h2:∀ (ts:List Tmp) (l:List AV) (b:bj),∃ pre,pR ts l b=pre++b:=fun ts=>by
  induction ts with
  |nil=>intro l b; exact ⟨[],by cases l <;> rfl⟩
  |cons t ts ih=>
   intro l b;cases l with
   |nil=>exact ⟨[],rfl⟩
   |cons a l=>obtain ⟨p,hp⟩:=ih l b; exact ⟨.put t (.v a) :: p,by simp [pR,hp]⟩
 have h3:∀ (bx:List (Nat × Nat)) (l:List AV) (b:cV),∃ pre,vP bx l b=pre++b:=fun bx=>by
  induction bx with
  |nil=>intro l b; exact ⟨[],rfl⟩
  |cons x bx ih=>
   obtain ⟨k,n⟩:=x;intro l b;obtain ⟨p,hp⟩:=ih (l.drop n) b;exact ⟨(k,l.take n) :: p,by simp [vP,hp]⟩
 have h4:∀ (l:List (Tmp × Nat × Nat)) (b:bj),∃ pre,pS l b=pre++b:=fun l b=>by
  induction l with
  |nil=>exact ⟨[],rfl⟩
  |cons x l ih=>obtain ⟨t,k,o⟩:=x; obtain ⟨p,hp⟩:=ih; exact ⟨.put t (.lp k o) :: p,by simp [pS,hp]⟩
 obtain ⟨p1,e1⟩:=h1 t.W s.ae;obtain ⟨p2,e2⟩:=h2 t.sl (t.ru v) (yO t.W s.ae);obtain ⟨p3,e3⟩:=h3 t.bx ((t.ru v).drop t.sl.length) s.boxes;obtain ⟨p4,e4⟩:=h4 t.Y2 (p2++(p1++s.ae));exact ⟨⟨p4++(p2++p1),by rw [show (t.st s v).ae=pS t.Y2 (pR t.sl (t.ru v) (yO t.W s.ae)) from rfl,e2,e1,e4,List.append_assoc,List.append_assoc]⟩,⟨p3,e3⟩,rfl⟩
theorem fS.aaA {E:Env} {c:Code} {s s1:St} {gh:List (Loc × Nat × TypeId)} {head:cU} {outs:List (XK × cU)} {rd:head.ps.T→Option (head.ps.T ⊕ JT outs)} {N:Nat} {v0:head.ps.T} {o:JT outs} {Q:Exit→St→Prop}
  (hg:Am.ij gh s=some s1) (h0:head.dec s1 s1=some v0) (hr:∀ v r,rd v=some r→mC E c (fun e s'=>vT s1 head outs e s'=some r) (head.st s1 v))
  (hl:ay rd N v0=some o) (hQ:∀ (t:cU) (v:t.ps.T) (e:Exit),(∀ (α:Type) (K:Exit→St→α),Pp s1 outs o K=K e (t.st s1 v))→Q e (t.st s1 v)∧a7 s (t.st s1 v)) :
  mC E (.loop c) Q s:=fun R0 w β a F Mm Ph=>by
 obtain ⟨R,k1,k2,k3,_⟩:=kG Mm hg;have hf:bY R s1.ro F:=by rw [k3]; exact Ph.mono k2.ext
 obtain ⟨i1,i2⟩:=cU.Df (a7.refl s1) k1 k1 (Step.refl R w β s1.boxes) h0;refine n3 (fun m a' w'=>∃ v R' β',ay rd m v=some o∧bt E R' w' β' (head.st s1 v) a'∧Step R w β s1.boxes R' w' β' (head.st s1 v).boxes) ?_ ⟨v0,_,β,hl,i1,i2⟩;rintro m a' w' ⟨v,R',β',hm,ms,jz⟩;cases m with
 |zero=>cases hm
 |succ m=>
  obtain ⟨r,h1,h2⟩:=bind_some (show ((rd v).bind fun o=>aaZ (fun v'=>ay rd m v') (fun x=>some x) o)=some o from hm);refine wpIn_mono (hr v r h1 R' w' β' a' F ms (hf.mono jz.ext)) ?_;rintro e a2 w2 ⟨s2,R2,β2,⟨hK,hx⟩,DN,Mn,JQ⟩;have KO:a7 s1 s2:=(head.sj s1 v).trans hx;have st2:=jz.trans Mn;have out:∀ {u:JT outs},lC s1 outs e s2=some u→r=.inr u→Z9 E R0 w β s (fun e s'=>Q e s'∧a7 s s') e a2 w2:=fun {u} hu hru=>by
   subst hru;cases h2;obtain ⟨t,v',q1,q2⟩:=tJ hu;obtain ⟨j1,j2⟩:=cU.Df KO k1 DN st2 q1;exact ⟨t.st s1 v',_,β2,hQ t v' e q2,j1,k2.trans j2,k3⟩
  cases e with
  |normal=>
   obtain ⟨v',q1,q2⟩:=bind_some (show ((head.dec s1 s2).bind fun v=>some (.inl v))=some r from hK);cases q2;obtain ⟨j1,j2⟩:=cU.Df KO k1 DN st2 q1;exact ⟨m,aaF m,v',_,β2,h2,j1,j2⟩
  |exit i=>obtain ⟨u,q1,q2⟩:=bind_some (show ((lC s1 outs (.exit i) s2).bind fun o=>some (.inr o))=some r from hK); exact out q1 (aad q2).symm
  |ret=>obtain ⟨u,q1,q2⟩:=bind_some (show ((lC s1 outs .ret s2).bind fun o=>some (.inr o))=some r from hK); exact out q1 (aad q2).symm
  |goto i=>obtain ⟨u,q1,q2⟩:=bind_some (show ((lC s1 outs (.goto i) s2).bind fun o=>some (.inr o))=some r from hK); exact out q1 (aad q2).symm
  |panic i=>obtain ⟨u,q1,q2⟩:=bind_some (show ((lC s1 outs (.panic i) s2).bind fun o=>some (.inr o))=some r from hK); exact out q1 (aad q2).symm
  |outgrown=>obtain ⟨u,q1,q2⟩:=bind_some (show ((lC s1 outs .outgrown s2).bind fun o=>some (.inr o))=some r from hK); exact out q1 (aad q2).symm
theorem fS.Wk {E:Env} {c:Code} {s s1:St} {gh:List (Loc × Nat × TypeId)} {head:cU} {outs:List (XK × cU)} {rd:(head.ps.T→Option (JT outs))→head.ps.T→Option (JT outs)} {N:Nat} {v0:head.ps.T} {o:JT outs} {Q:Exit→St→Prop}
  (hg:Am.ij gh s=some s1) (h0:head.dec s1 s1=some v0) (hr:∀ k v u,rd k v=some u→mC E c (fun e s'=>Mi s1 head outs k e s'=some u) (head.st s1 v))
  (hl:nf rd N v0=some o) (hQ:∀ (t:cU) (v:t.ps.T) (e:Exit),(∀ (α:Type) (K:Exit→St→α),Pp s1 outs o K=K e (t.st s1 v))→Q e (t.st s1 v)∧a7 s (t.st s1 v)) :
  mC E (.loop c) Q s:=fun R0 w β a F Mm Ph=>by
 obtain ⟨R,k1,k2,k3,_⟩:=kG Mm hg;have hf:bY R s1.ro F:=by rw [k3]; exact Ph.mono k2.ext
 obtain ⟨i1,i2⟩:=cU.Df (a7.refl s1) k1 k1 (Step.refl R w β s1.boxes) h0;refine n3 (fun m a' w'=>∃ v R' β',nf rd m v=some o∧bt E R' w' β' (head.st s1 v) a'∧Step R w β s1.boxes R' w' β' (head.st s1 v).boxes) ?_ ⟨v0,_,β,hl,i1,i2⟩;rintro m a' w' ⟨v,R',β',hm,ms,jz⟩;cases m with
 |zero=>cases hm
 |succ m=>
  refine wpIn_mono (hr (nf rd m) v o hm R' w' β' a' F ms (hf.mono jz.ext)) ?_;rintro e a2 w2 ⟨s2,R2,β2,⟨hK,hx⟩,DN,Mn,JQ⟩;have KO:a7 s1 s2:=(head.sj s1 v).trans hx;have st2:=jz.trans Mn;have out:lC s1 outs e s2=some o→Z9 E R0 w β s (fun e s'=>Q e s'∧a7 s s') e a2 w2:=fun hu=>by
   obtain ⟨t,v',q1,q2⟩:=tJ hu;obtain ⟨j1,j2⟩:=cU.Df KO k1 DN st2 q1;exact ⟨t.st s1 v',_,β2,hQ t v' e q2,j1,k2.trans j2,k3⟩
  cases e with
  |normal=>
   obtain ⟨v',q1,q2⟩:=bind_some (show (head.dec s1 s2).bind (nf rd m)=some o from hK);obtain ⟨j1,j2⟩:=cU.Df KO k1 DN st2 q1;exact ⟨m,aaF m,v',_,β2,q2,j1,j2⟩
  |exit i=>exact out hK
  |ret=>exact out hK
  |goto i=>exact out hK
  |panic i=>exact out hK
  |outgrown=>exact out hK
end
def rO (E:Env):List Bool→Code→(Exit→St→Prop)→St→Prop
 |[],_,Q,s=>Q .normal s
 |true :: k,.seq x y,Q,s=>mC E x (vH (rO E k y Q) Q) s
 |false :: k,.seq x _,Q,s=>rO E k x Q s
 |_ :: _,_,_,_=>False
def kS (E:Env):List Bool→Code→(Exit→St→Prop)→St→Prop
 |[],c,Q,s=>mC E c Q s
 |true :: k,.seq _ y,Q,s=>kS E k y Q s
 |false :: k,.seq x y,Q,s=>kS E k x (vH (mC E y Q) Q) s
 |_ :: _,_,_,_=>False
def Ir (F:Fence) (P:Program):List Bool→Code→(Exit→Act→World→Prop)→Act→World→Prop
 |[],c,Q,a,w=>c.wpIn F 0 P Q a w
 |true :: k,.seq _ y,Q,a,w=>Ir F P k y Q a w
 |false :: k,.seq x y,Q,a,w=>Ir F P k x (Exit.then (fun a' w'=>y.wpIn F 0 P Q a' w') Q) a w
 |_ :: _,_,_,_,_=>False
section rot
variable {E:Env} {s1:St} {R:ak} {w:World} {β:Nat→Nat} {F:Fence}
def At (E:Env) (s1:St) (R:ak) (w:World) (β:Nat→Nat) (s:St) (a:Act) (w':World):Prop:=
 ∃ R' β',a7 s1 s∧bt E R' w' β' s a∧Step R w β s1.boxes R' w' β' s.boxes∧s.ro=s1.ro
theorem mC.at {c:Code} {Q:Exit→St→Prop} {s:St} {a:Act} {w':World} {Φ:Exit→Act→World→Prop} (hf:bY R s1.ro F) (h:mC E c Q s) (nJ:At E s1 R w β s a w') (hQ:∀ e s' a' w',Q e s'→At E s1 R w β s' a' w'→Φ e a' w'):c.wpIn F 0 E.P Φ a w':=by
 obtain ⟨R',β',hx,hr,jz,b9⟩:=nJ;refine wpIn_mono (h R' w' β' a F hr (by rw [b9]; exact hf.mono jz.ext)) ?_;rintro e a2 w2 ⟨s2,R2,β2,⟨hq,KO⟩,DN,Mn,JQ⟩;exact hQ e s2 a2 w2 hq ⟨R2,β2,hx.trans KO,DN,jz.trans Mn,JQ.trans b9⟩
theorem kS.at (hf:bY R s1.ro F):∀ (k:List Bool) (c:Code) {Q:Exit→St→Prop} {s:St} {a:Act} {w':World} {Φ:Exit→Act→World→Prop},kS E k c Q s→At E s1 R w β s a w'→(∀ e s' a' w',Q e s'→At E s1 R w β s' a' w'→Φ e a' w')→Ir F E.P k c Φ a w'
 |[],c,Q,s,a,w',Φ,h,nJ,hQ=>mC.at hf h nJ hQ
 |true :: k,c,Q,s,a,w',Φ,h,nJ,hQ=>by
  cases c with
  |seq x y=>exact kS.at hf k y h nJ hQ
  |_=>exact h.elim
 |false :: k,c,Q,s,a,w',Φ,h,nJ,hQ=>by
  cases c with
  |seq x y=>
   refine kS.at hf k x (Q:=vH (mC E y Q) Q) h nJ fun e s' a' w' hq sk=>?_
   cases e with
   |normal=>exact mC.at hf hq sk hQ
   |_=>exact hQ _ s' a' w' hq sk
  |_=>exact h.elim
theorem rO.at (hf:bY R s1.ro F):∀ (k:List Bool) (c:Code) {Q:Exit→St→Prop} {s:St} {a:Act} {w':World} {Φ:Exit→Act→World→Prop},rO E k c Q s→At E s1 R w β s a w' →
  (∀ s' a' w',Q .normal s'→At E s1 R w β s' a' w'→Ir F E.P k c Φ a' w')→(∀ e s' a' w',e≠.normal→Q e s'→At E s1 R w β s' a' w'→Φ e a' w')→c.wpIn F 0 E.P Φ a w'
 |[],c,Q,s,a,w',Φ,h,nJ,hS,hQ=>hS s a w' h nJ
 |true :: k,c,Q,s,a,w',Φ,h,nJ,hS,hQ=>by
  cases c with
  |seq x y=>
   refine wpIn_seq (mC.at hf (show mC E x (vH (rO E k y Q) Q) s from h) nJ fun e s' a' w' hq sk=>?_);cases e with
   |normal=>exact rO.at hf k y hq sk hS hQ
   |exit i=>exact hQ _ s' a' w' (by simp) hq sk
   |ret=>exact hQ _ s' a' w' (by simp) hq sk
   |goto i=>exact hQ _ s' a' w' (by simp) hq sk
   |panic i=>exact hQ _ s' a' w' (by simp) hq sk
   |outgrown=>exact hQ _ s' a' w' (by simp) hq sk
  |_=>exact h.elim
 |false :: k,c,Q,s,a,w',Φ,h,nJ,hS,hQ=>by
  cases c with
  |seq x y=>
   refine wpIn_seq (rO.at hf k x (Q:=Q) h nJ hS fun e s' a' w' cS hq sk=>?_);cases e with
   |normal=>exact absurd rfl cS
   |exit i=>exact hQ _ s' a' w' cS hq sk
   |ret=>exact hQ _ s' a' w' cS hq sk
   |goto i=>exact hQ _ s' a' w' cS hq sk
   |panic i=>exact hQ _ s' a' w' cS hq sk
   |outgrown=>exact hQ _ s' a' w' cS hq sk
  |_=>exact h.elim
end rot
theorem fS.P7 {E:Env} {b:Code} {s s1:St} {gh:List (Loc × Nat × TypeId)} {head:cU} {outs:List (XK × cU)} {pre:St→Option (head.ps.T ⊕ JT outs)} {rd:head.ps.T→Option (head.ps.T ⊕ JT outs)} {N:Nat} {k:List Bool} {r0:head.ps.T ⊕ JT outs} {o:JT outs} {Q:Exit→St→Prop}
  (hg:Am.ij gh s=some s1) (h0:pre s1=some r0)
  (hp:∀ s2 r,pre s2=some r→rO E k b (fun e s'=>vT s1 head outs e s'=some r) s2)
  (hr:∀ v r,rd v=some r→kS E k b (fun e s'=>Bt pre (vT s1 head outs) e s'=some r) (head.st s1 v))
  (hl:aaZ (fun v=>ay rd N v) (fun x=>some x) r0=some o) (hQ:∀ (t:cU) (v:t.ps.T) (e:Exit),(∀ (α:Type) (K:Exit→St→α),Pp s1 outs o K=K e (t.st s1 v))→Q e (t.st s1 v)∧a7 s (t.st s1 v)) :
  mC E (.loop b) Q s:=fun R0 w β a F Mm Ph=>by
 obtain ⟨R,k1,k2,k3,_⟩:=kG Mm hg;have hf:bY R s1.ro F:=by rw [k3]; exact Ph.mono k2.ext
 refine n3 (fun n a' w'=>∃ s2 r,pre s2=some r∧aaZ (fun v=>ay rd n v) (fun x=>some x) r=some o∧At E s1 R w β s2 a' w') ?_ ⟨s1,r0,h0,hl,R,β,a7.refl s1,k1,Step.refl _ _ _ _,rfl⟩;rintro n a' w' ⟨s2,r,hpr,hlr,nJ⟩
 -- a way out
 have out:∀ {e:Exit} {s3:St} {a3:Act} {w3:World} {r:head.ps.T ⊕ JT outs} {n:Nat},e≠.normal→vT s1 head outs e s3=some r→aaZ (fun v=>ay rd n v) (fun x=>some x) r=some o→At E s1 R w β s3 a3 w3→Z9 E R0 w β s (fun e s'=>Q e s'∧a7 s s') e a3 w3:=fun {e s3 a3 w3 r n} cS hK hlr nJ=>by
  obtain ⟨R3,β3,hx3,hr3,Wl,aeO⟩:=nJ;have key:∀ {u:JT outs},lC s1 outs e s3=some u→r=.inr u→Z9 E R0 w β s (fun e s'=>Q e s'∧a7 s s') e a3 w3:=fun {u} hu hru=>by
   subst hru;obtain rfl:=aad hlr;obtain ⟨t,v',q1,q2⟩:=tJ hu;obtain ⟨j1,j2⟩:=cU.Df hx3 k1 hr3 Wl q1;exact ⟨t.st s1 v',_,_,hQ t v' _ q2,j1,k2.trans j2,k3⟩
  cases e with
  |normal=>exact absurd rfl cS
  |exit i=>obtain ⟨u,q1,q2⟩:=bind_some (show ((lC s1 outs (.exit i) s3).bind fun o=>some (.inr o))=some r from hK); exact key q1 (aad q2).symm
  |ret=>obtain ⟨u,q1,q2⟩:=bind_some (show ((lC s1 outs .ret s3).bind fun o=>some (.inr o))=some r from hK); exact key q1 (aad q2).symm
  |goto i=>obtain ⟨u,q1,q2⟩:=bind_some (show ((lC s1 outs (.goto i) s3).bind fun o=>some (.inr o))=some r from hK); exact key q1 (aad q2).symm
  |panic i=>obtain ⟨u,q1,q2⟩:=bind_some (show ((lC s1 outs (.panic i) s3).bind fun o=>some (.inr o))=some r from hK); exact key q1 (aad q2).symm
  |outgrown=>obtain ⟨u,q1,q2⟩:=bind_some (show ((lC s1 outs .outgrown s3).bind fun o=>some (.inr o))=some r from hK); exact key q1 (aad q2).symm
 refine rO.at hf k b (hp s2 r hpr) nJ (fun s3 a3 w3 hK Wm=>?_) (fun e s3 a3 w3 cS hK Wm=>?_)
 ·obtain ⟨v,q1,q2⟩:=bind_some (show ((head.dec s1 s3).bind fun v=>some (.inl v))=some r from hK);obtain rfl:=aad q2;have Dc:ay rd n v=some o:=hlr;cases n with
  |zero=>cases Dc
  |succ n=>
   obtain ⟨r',h1,h2⟩:=bind_some (show ((rd v).bind fun o=>aaZ (fun v'=>ay rd n v') (fun x=>some x) o)=some o from Dc);obtain ⟨R3,β3,hx3,hr3,Wl,aeO⟩:=Wm;obtain ⟨j1,j2⟩:=cU.Df hx3 k1 hr3 Wl q1;refine kS.at hf k b (hr v r' h1) ⟨_,_,head.sj s1 v,j1,j2,rfl⟩ fun e s4 a4 w4 Y9 JY=>?_
   cases e with
   |normal=>exact ⟨n,aaF n,s4,r',Y9,h2,JY⟩
   |exit i=>exact out (by simp) Y9 h2 JY
   |ret=>exact out (by simp) Y9 h2 JY
   |goto i=>exact out (by simp) Y9 h2 JY
   |panic i=>exact out (by simp) Y9 h2 JY
   |outgrown=>exact out (by simp) Y9 h2 JY
 ·have:=out cS hK hlr Wm;cases e with
  |normal=>exact absurd rfl cS
  |_=>exact this
theorem so {C:eB} {ih:Y7} (hs:uN C ih) {X:Type} {f:FuncId} {K:Exit→St→Option X}:∀ (k:List Bool) (q:Nat) (c:Code) (s:St) (x:X),bN (C.D.dt f) c=true→Mk ih Dh f K k q c s=some x→rO C.D.toEnv k c (fun e s'=>K e s'=some x) s
 |[],_,_,_,_,_,h=>h
 |true :: k,q,c,s,x,hd,h=>by
  cases c with
  |seq a b=>
   rw [bN,aab] at hd;refine (hs f _ a X Dh si _ s x hd.1 h).of fun e s' hq hx=>?_
   cases e with
   |normal=>exact ⟨so hs k (2 * q+1) b s' x hd.2 hq,hx⟩
   |_=>exact ⟨hq,hx⟩
  |_=>cases h
 |false :: k,q,c,s,x,hd,h=>by
  cases c with
  |seq a b=>
   rw [bN,aab] at hd;exact so hs k (2 * q) a s x hd.1 h
  |_=>cases h
theorem kS.mono {E:Env}:∀ (k:List Bool) (c:Code) {Q Q':Exit→St→Prop} {s:St},(∀ e s',Q e s'→Q' e s')→kS E k c Q s→kS E k c Q' s
 |[],c,Q,Q',s,hQ,h=>fS.mono h fun e s' hh=>⟨hQ e s' hh.1,hh.2⟩
 |true :: k,c,Q,Q',s,hQ,h=>by
  cases c with
  |seq x y=>exact kS.mono k y hQ h
  |_=>exact h.elim
 |false :: k,c,Q,Q',s,hQ,h=>by
  cases c with
  |seq x y=>
   refine kS.mono k x (Q:=vH (mC E y Q) Q) (Q':=vH (mC E y Q') Q') (fun e s' hq=>?_) h;cases e with
   |normal=>exact fS.mono hq fun e s' hh=>⟨hQ e s' hh.1,hh.2⟩
   |_=>exact hQ _ s' hq
  |_=>exact h.elim
theorem sq {C:eB} {ih:Y7} (hs:uN C ih) {X:Type} {f:FuncId}:∀ (k:List Bool) (q:Nat) (c:Code) (K:Exit→St→Option X) (s:St) (x:X),bN (C.D.dt f) c=true→P6 ih Dh f k q c K s=some x→kS C.D.toEnv k c (fun e s'=>K e s'=some x) s
 |[],_,c,K,s,x,hd,h=>hs f _ c X Dh si K s x hd h
 |true :: k,q,c,K,s,x,hd,h=>by
  cases c with
  |seq a b=>
   rw [bN,aab] at hd;exact sq hs k (2 * q+1) b K s x hd.2 h
  |_=>cases h
 |false :: k,q,c,K,s,x,hd,h=>by
  cases c with
  |seq a b=>
   rw [bN,aab] at hd;refine kS.mono k a (fun e s' hq=>?_) (sq hs k (2 * q) a _ s x hd.1 h);cases e with
   |normal=>exact hs f _ b X Dh si K s' x hd.2 hq
   |_=>exact hq
  |_=>cases h
theorem Es {C:eB} (CL:∀ g e,C.xe g=some e→ai C.D.toEnv g e) (n:Nat):uN C (ev C n):=by
 induction n using Nat.strongRecOn with
 |_ n ihn=>
 cases n with
 |zero=>intro f p c X fg _ K s x _ h; cases h
 |succ n=>
  have hs:=ihn n (aaF n);have plain:∀ (f:FuncId) (p:Nat) (c:Code) (X:Type) (fg:Option X→Option X→Option X),vU fg→∀ (K:Exit→St→Option X) (s:St) (x:X),((∃ b,c=.loop b)→C.oo f p=none) →
    bN (C.D.dt f) c=true→zf C (ev C n) f p c X fg K s=some x→mC C.D.toEnv c (fun e s'=>K e s'=some x) s:=by
   intro f p c X fg hm K s x jo hd h;have Mo:=Ep CL hs hm;have aaB:=G4 hs hm;unfold zf at h;cases c with
   |skip=>exact fS.skip ⟨h,a7.refl s⟩
   |label l=>exact fS.label ⟨h,a7.refl s⟩
   |exit id=>exact fS.exit ⟨h,a7.refl s⟩
   |ret=>exact fS.ret ⟨h,a7.refl s⟩
   |seq a b=>
    rw [bN,aab] at hd;refine fS.seq ((hs f _ a X fg hm _ s x hd.1 h).of fun e s' hq hx=>?_);cases e with
    |normal=>exact (hs f _ b X fg hm _ s' x hd.2 hq).of fun e s2 pu KO=>⟨pu,hx.trans KO⟩
    |_=>exact ⟨hq,hx⟩
   |cond co a b=>
    rw [bN,aab] at hd;simp only at h;split at h
    ·rename_i t hb;refine fS.cond hb (fun e=>?_) (fun e=>?_)
     ·subst e; exact hs f _ a X fg hm _ s x hd.1 h
     ·subst e; exact hs f _ b X fg hm _ s x hd.2 h
    ·cases h
   |block id c=>
    refine fS.block ((hs f _ c X fg hm _ s x hd h).of fun e s' hq hx=>?_);cases e with
    |exit jP=>
     simp only [Mf] at hq;refine ⟨fun e=>?_,fun e=>?_⟩
     ·subst e; rw [sT] at hq; exact ⟨hq,hx⟩
     ·rw [nS e] at hq; exact ⟨hq,hx⟩
    |_=>exact ⟨hq,hx⟩
   |scope c=>
    refine fS.scope ((hs f _ c X fg hm _ s x hd h).of fun e s' hq hx=>?_);cases e with
    |goto l=>cases hq
    |_=>exact ⟨hq,hx⟩
   |region id ops dr=>
    cases dr with
    |false=>exact fS.region (f:=f) (Bu (zm Mo aaB h))
    |true=>
     simp only at h;rw [bN] at hd;split at h
     ·rename_i pl hT;rw [hT] at hd;exact fS.draw (f:=f) hd (tH (jH Mo aaB hm h))
     ·cases h
   |loop b=>
    have UK:=jo ⟨b,rfl⟩;refine fS.loop (fun m s'=>m≤n+1∧ev C m f p (.loop b) X fg K s'=some x∧a7 s s') ?_ (m:=n+1) ⟨aa5 _,?_,a7.refl s⟩
    ·rintro m s' ⟨Vn,hr,hx⟩;cases m with
     |zero=>cases hr
     |succ m=>
      have ms:zh C (ev C m) f p (.loop b) X fg K s'=some x:=hr;unfold zh at ms;rw [UK] at ms;refine (ihn m (by omega) f _ b X fg hm _ s' x hd ms).of fun e s2 hq KO=>?_
      cases e with
      |normal=>exact ⟨m,aaF m,by omega,hq,hx.trans KO⟩
      |_=>exact ⟨hq,hx.trans KO⟩
    ·show zh C (ev C n) f p (.loop b) X fg K s=some x;unfold zh;rw [UK];exact h
   |rangeFunc g ps tj bd=>
    simp only at h;split at h
    ·rename_i b9;split at h
     ·rename_i hf first cap hg
      refine fS.rangeFunc (4096 * p+f) b9 hg ((Mo _ _ _ _ _ h).mono fun r G' hq=>?_);unfold rfQ;split at hq
      ·rename_i busy pending fn sl nn pp aa bb dd done V9;rw [V9];simp only;obtain ⟨h1,h2⟩:=bA hq;refine ⟨by cases busy <;> cases done <;> simp_all,?_⟩;have hxx:∀ (G:List GO) (m:List Nat),a7 s ⟨s.ae,s.boxes,G,m,s.ro,s.n⟩:=fun _ _=>⟨⟨[],rfl⟩,⟨[],rfl⟩,rfl⟩
       split at h2
       ·rw [df] at h2; exact ⟨h2,hxx _ _⟩
       ·rw [df] at h2; exact fS.ret ⟨h2,hxx _ _⟩
       ·rw [df] at h2; exact fS.exit ⟨h2,hxx _ _⟩
       ·cases h2
      ·cases hq
     ·cases h
    ·cases h
   |_=>cases h
  intro f p c X fg hm K s x hd h;change zh C (ev C n) f p c X fg K s=some x at h;unfold zh at h;split at h
  ·rename_i hc;exact plain f p c X fg hm K s x (fun _=>hc) hd h
  ·rename_i ct hct;split at h
   ·rename_i zn hc;generalize tF (kR c []) zn=outs at h;cases Lu:Mh c with
    |true=>rw [Lu] at h; cases h
    |false=>
    rw [Lu] at h;obtain ⟨o,h1,h2⟩:=bind_some (show (zf C (ev C n) f p c (JT outs) Dh (lC s outs) s).bind (fun o=>Pp s outs o K)=some x from h);have hp:=plain f p c (JT outs) Dh si (lC s outs) s o (fun ⟨b,hb⟩=>by subst hb; cases Lu) hd h1;refine fS.aeH (s:=s) (Q':=fun e s'=>lC s outs e s'=some o) (fS.mono hp fun e s' hh=>⟨hh.2,hh.1⟩) fun e s' hq=>?_
    obtain ⟨t,v,q1,q2⟩:=tJ hq;exact ⟨t,v,q1,(q2 _ K).symm.trans h2,t.sj s v⟩
   ·rename_i gh Et zn hc;split at h
    ·rename_i b;split at h
     ·rename_i s1 hg;generalize tF (kR b []) zn=outs at h;generalize zg (kR b []) Et=head at h;unfold UI at h;obtain ⟨v0,h0,h⟩:=bind_some h;obtain ⟨o,hl,h⟩:=bind_some h;refine fS.aaA hg h0 (fun v r hr=>hs f _ b _ Dh si _ _ r hd hr) hl fun t v e iH=>?_
      exact ⟨(iH _ K).symm.trans h,(oq hg).trans (t.sj s1 v)⟩
     ·cases h
    ·cases h
   ·rename_i k gh Et zn hc;split at h
    ·rename_i b;split at h
     ·rename_i s1 hg;generalize tF (kR b []) zn=outs at h;generalize zg (kR b []) Et=head at h;unfold aaz at h;obtain ⟨o,hl,h⟩:=bind_some h;obtain ⟨r0,h0,hl⟩:=bind_some hl;refine fS.P7 hg h0 (fun s2 r hr=>so hs k (2 * p) b s2 r hd hr) (fun v r hr=>sq hs k (2 * p) b _ _ r hd hr) hl fun t v e iH=>?_
      exact ⟨(iH _ K).symm.trans h,(oq hg).trans (t.sj s1 v)⟩
     ·cases h
    ·cases h
   ·rename_i gh Et zn hc;split at h
    ·rename_i b;split at h
     ·rename_i s1 hg;generalize tF (kR b []) zn=outs at h;generalize zg (kR b []) Et=head at h;unfold Mj at h;obtain ⟨v0,h0,h⟩:=bind_some h;obtain ⟨o,hl,h⟩:=bind_some h;refine fS.Wk hg h0 (fun k v u hu=>hs f _ b _ Dh si _ _ u hd hu) hl fun t v e iH=>?_
      exact ⟨(iH _ K).symm.trans h,(oq hg).trans (t.sj s1 v)⟩
     ·cases h
    ·cases h
   ·cases h
end Go.Am
namespace Go.Am
open Go
noncomputable def eB.fn (C:eB) (n:Nat) (g:FuncId) (ps:aM) (p:aP) (x:ps.T):Option p.T:=
 Em C (ev C n) Dh g (ps.enc x) [] (fun r _=>p.dec r)
theorem eB.bk {C:eB} (CL:∀ g e,C.xe g=some e→ai C.D.toEnv g e) {n:Nat} {g:FuncId} {ps:aM} {p:aP} (h1:ps.under 0=true) (h2:p.under 0=true) :
  ai C.D.toEnv g ⟨ps,p,C.fn n g ps p⟩:=fun x y h=>by
 refine aU.mono (aU.of (p:=p) (Q:=fun z=>z=y) (ps.dH x h1) h2 ((pZ (Es CL n) si g _ [] _ y h).mono fun r _ hr=>⟨y,hr,rfl⟩)) ?_;rintro r ⟨z,rfl,rfl⟩;rfl
theorem aU.env {E E':Env} {g:FuncId} {args:List AV} {Q:AV→Prop} (hP:E.P=E'.P) (hg:E.cr=E'.cr) (h:aU E g args Q) (F6:E.lo=E'.lo:=by rfl) (P8:E.gx=E'.gx:=by rfl):aU E' g args Q:=by
 have go:∀ {R:ak} {w:World} {x:Nat} {cs:List AV},jV E R w x cs↔jV E' R w x cs:=fun {R w x cs}=>by unfold jV; rw [P8]
 have Df:∀ {R:ak} {w:World} {G:List GO},dC E R w G↔dC E' R w G:=fun {R w G}=>
  ⟨fun h=>⟨h.len,h.obj,h.inj,h.wf,fun g cs hh=>go.1 (h.cr g cs (by rw [hg]; exact hh)),by rw [← F6]; exact h.lo⟩,fun h=>⟨h.len,h.obj,h.inj,h.wf,fun g cs hh=>go.2 (h.cr g cs (by rw [← hg]; exact hh)),by rw [F6]; exact h.lo⟩⟩
 intro G;obtain ⟨h1,h2⟩:=h G;rw [hP] at h1 h2;refine ⟨h1,fun R w cs hr hl=>(h2 R w cs (Df.2 hr) hl).mono fun e w' he=>?_⟩;cases e with
 |returned c=>obtain ⟨r,G',R',k1,k2,k3,k4⟩:=he; exact ⟨r,G',R',k1,k2,Df.1 k3,k4⟩
 |panicked c=>exact he
 |outgrown=>exact he
theorem aU.more {E E':Env} {g:FuncId} {args:List AV} {Q:AV→Prop} (hP:E.P=E'.P) (hg:∀ g cs,E.cr g=some cs→E'.cr g=some cs) (h:aU E g args Q) (F6:E.lo=E'.lo:=by rfl) (P8:E.gx=fun _=>false:=by rfl):aU E' g args Q:=by
 intro G;obtain ⟨h1,h2⟩:=h G;rw [hP] at h1 h2;refine ⟨h1,fun R w cs hr hl=>(h2 R w cs ⟨hr.len,hr.obj,hr.inj,hr.wf,fun g cs hh=>⟨(hr.cr g cs (hg g cs hh)).1,fun hx=>by rw [P8] at hx; cases hx⟩,by rw [F6]; exact hr.lo⟩ hl).mono fun e w' he=>?_⟩;cases e with
 |returned c=>
  obtain ⟨r,G',R',k1,k2,k3,k4⟩:=he;exact ⟨r,G',R',k1,k2,⟨k3.len,k3.obj,k3.inj,k3.wf,fun g cs hh=>(hr.cr g cs hh).mono k4.ext,by rw [← F6]; exact k3.lo⟩,k4⟩
 |panicked c=>exact he
 |outgrown=>exact he
def wI:List (Nat × aD)→FuncId→Option aD
 |[],_=>none
 |(a,e) :: l,g=>bif aaf a g then some e else wI l g
theorem fJ {E:Env}:∀ {l:List (Nat × aD)},(∀ a e,(a,e)∈l→ai E a e)→∀ g e,wI l g=some e→ai E g e
 |[],_,g,e,h=>by cases h
 |(a,x) :: l,hl,g,e,h=>by
  unfold wI at h;cases hb:aaf a g with
  |true=>
   rw [hb] at h;cases h;rw [← aac hb];exact hl a _ (by simp)
  |false=>
   rw [hb] at h;exact fJ (fun a e hm=>hl a e (by simp [hm])) g e h
theorem ng {E:Env}:∀ g e,wI [] g=some e→ai E g e:=fun _ _ h=>by cases h
theorem dI {E:Env} {a:Nat} {x:aD} {l:List (Nat × aD)} (hx:ai E a x) (hl:∀ g e,wI l g=some e→ai E g e):∀ g e,wI ((a,x) :: l) g=some e→ai E g e:=fun g e h=>by
 unfold wI at h;cases hb:aaf a g with
 |true=>
  rw [hb] at h;cases h;rw [← aac hb];exact hx
 |false=>
  rw [hb] at h;exact hl g e h
def UL:List (Nat × cA)→Nat→Option cA
 |[],_=>none
 |(a,c) :: l,p=>bif aaf a p then some c else UL l p
def Is:List (Nat × List (Nat × cA))→FuncId→Nat→Option cA
 |[],_,_=>none
 |(a,c) :: l,g,p=>bif aaf a g then UL c p else Is l g p
def It:Option Unit→Option Unit→Option Unit
 |some _,some _=>some ()
 |_,_=>none
theorem G5:vU It:=fun a b x h=>by
 cases a <;> cases b <;> first | (cases h; done) | exact ⟨rfl,rfl⟩
theorem cY {C:eB} (CL:∀ g e,C.xe g=some e→ai C.D.toEnv g e) {n:Nat} {g:FuncId} {args:List AV} {p:aP} {ok:p.T→Bool} (h1:aG 0 args=true) (h2:p.under 0=true)
  (h:Em C (ev C n) It g args [] (fun r _=>bif p.fits r&&ok (p.bJ r) then some () else none)=some ()):aU C.D.toEnv g args (fun r=>∃ y,r=p.enc y∧ok y=true):=
 aU.of (p:=p) (Q:=fun y=>ok y=true) h1 h2 ((pZ (Es CL n) G5 g args [] _ () h).mono fun r _ hr=>by
  obtain ⟨k,_⟩:=bA hr;rw [aab] at k;exact ⟨p.bJ r,by simp [aP.dec,k.1],k.2⟩)
end Go.Am
namespace Go.Am
open Go
def ou (w:World):ak:=⟨fun b _=>b < w.heap.size,[]⟩
mutual
def aP.wf:(p:aP)→p.T→Prop
 |.int k,(n:Int)=>k.min≤n∧n≤k.max
 |.bool,_=>True
 |.str,(s:List UInt8)=>s.length≤maxLen
 |.agg ps,x=>ps.wf x
 |.bq ps,x=>ps.wf x
 |.list _ p,(xs:List p.T)=>xs.length≤maxLen∧∀ x∈xs,p.wf x
 |.own _ _ p,(xs:List p.T)=>xs.length≤maxLen∧∀ x∈xs,p.wf x
 |.bK _ _ p,(x:Nat × List p.T)=>x.2.length≤maxLen∧∀ y∈x.2,p.wf y
 |.bT _,_=>True
 |.two _ _,_=>True
def aM.wf:(ps:aM)→ps.T→Prop
 |.nil,_=>True
 |.cons p .nil,x=>p.wf x
 |.cons p (.cons q ps),x=>p.wf x.1∧(aM.cons q ps).wf x.2
end
def kT:List aP→aM
 |[]=>.nil
 |p :: l=>.cons p (kT l)
def JZ {β:Type} (g:β→Option (List aP)):List β→Option (List aP)
 |[]=>some []
 |x :: l=>match g x,JZ g l with
  |some a,some b=>some (a++b)
  |_,_=>none
def tK {β:Type} (off len:β→Nat):Nat→List β→Option Nat
 |o,[]=>some o
 |o,x :: l=>bif aaf (off x) o then tK off len (o+len x) l else none
def isSome (n:Nat):Option Nat→Bool
 |some m=>aaf m n
 |none=>false
def tL (ag:Bool) (ps:List aP):Option aP:=match ag,ps with
 |true,ps=>some (.agg (kT ps))
 |false,[p]=>some p
 |_,_=>none
def J0 (P:Program):Nat→TypeId→Option (List aP)
 |0,_=>none
 |n+1,t=>match P.underlying t with
  |some .bool=>some [.bool]
  |some (.int k)=>some [.int k]
  |some .string=>some [.str]
  |some (.slice e)=>match J0 P n e,P.underlying e with
   |some ps,some u=>match tL (Go.Am.jQ u) ps with
    |some pe=>bif Nat.blt 0 (P.cellsOf e) then some [.list (P.cellsOf e) pe] else none
    |none=>none
   |_,_=>none
  |some (.struct fs)=>bif isSome (P.cellsOf t) (tK abT (fun f=>P.cellsOf f.type) 0 fs.toList) then JZ (fun f=>J0 P n f.type) fs.toList else none
  |some (.array m e)=>bif isSome (P.cellsOf t) (tK (fun i=>i * P.cellsOf e) (fun _=>P.cellsOf e) 0 (aai m)) then JZ (fun _=>J0 P n e) (aai m) else none
  |_=>none
def aeQ (a:AV):Prop:=a.a8=true∧a.cells=[a]∧a.closed=true
def sr:List aP→List AV→Prop
 |[],[]=>True
 |p :: ps,a :: lX=>p.fits a=true∧(p.wf (p.bJ a)∧aeQ a)∧sr ps lX
 |_,_=>False
theorem sr.append:∀ {ps qs:List aP} {lX bs:List AV},sr ps lX→sr qs bs→sr (ps++qs) (lX++bs)
 |[],_,[],_,_,h=>h
 |_ :: _,_,_ :: _,_,k,h=>⟨k.1,k.2.1,sr.append k.2.2 h⟩
 |[],_,_ :: _,_,h,_=>h.elim
 |_ :: _,_,[],_,h,_=>h.elim
theorem sr.mk:∀ {ps:List aP} {lX:List AV},sr ps lX→(kT ps).fits lX=true∧(kT ps).wf ((kT ps).bJ lX)
 |[],[],_=>⟨rfl,trivial⟩
 |[p],[a],h=>⟨by
   change (p.fits a&&(List.isEmpty ([]:List AV)))=true;rw [h.1];rfl,h.2.1.1⟩
 |p :: q :: ps,a :: lX,h=>by
  obtain ⟨h1,h2⟩:=sr.mk (ps:=q :: ps) h.2.2;refine ⟨?_,h.2.1.1,h2⟩;change (p.fits a&&(kT (q :: ps)).fits lX)=true;rw [h.1,h1];rfl
 |[],_ :: _,h=>h.elim
 |_ :: _,[],h=>h.elim
 |[_],_ :: _ :: _,h=>h.2.2.elim
theorem Eu {ag:Bool} {ps:List aP} {pe:aP} (h:tL ag ps=some pe) {lX:List AV} (hf:sr ps lX) :
  ∃ e,(if ag then e=.agg lX else lX=[e])∧pe.fits e=true∧pe.wf (pe.bJ e):=by
 unfold tL at h;split at h
 ·cases h;obtain ⟨h1,h2⟩:=hf.mk;exact ⟨.agg lX,rfl,h1,h2⟩
 ·rename_i p;cases h
  match lX,hf with
  |[a],hf=>exact ⟨a,rfl,hf.1,hf.2.1.1⟩
  |[],hf=>exact hf.elim
  |_ :: _ :: _,hf=>exact hf.2.2.elim
 ·cases h
theorem Iu:∀ {ps:List aP} {lX:List AV},sr ps lX→∀ a∈lX,a.a8=true∧a.cells=[a]∧a.closed=true
 |[],[],_,a,ha=>by simp at ha
 |_ :: _,b :: lX,hf,a,ha=>by
  rcases aah.1 ha with rfl|ha
  ·exact hf.2.1.2
  ·exact Iu hf.2.2 a ha
 |[],_ :: _,h,_,_=>h.elim
 |_ :: _,[],h,_,_=>h.elim
theorem Iv {pe:aP}:∀ {es:List AV},(∀ x∈es,pe.fits x=true∧pe.wf (pe.bJ x))→allFit pe.fits es=true∧∀ x∈es.map pe.bJ,pe.wf x
 |[],_=>⟨rfl,by simp⟩
 |a :: es,h=>by
  obtain ⟨h1,h2⟩:=Iv (es:=es) fun x hx=>h x (by simp [hx])
  refine ⟨by simp only [allFit,aab]; exact ⟨(h a (by simp)).1,h1⟩,fun x hx=>?_⟩;rcases aah.1 hx with rfl|hx
  ·exact (h a (by simp)).2
  ·exact h2 x hx
section read
variable {H:Type} {enc:TypeId × Value→H} {P:Program} {w:World} {R:ak} {base:Nat} {spare:Nat→Bool} {held:Bool}
theorem kU {α β:Type} {f:α→Option β} {x:α} {l:List α} {r:List β} (h:(x :: l).mapM f=some r):∃ y ys,f x=some y∧l.mapM f=some ys∧r=y :: ys:=by
 rw [List.mapM_cons] at h;cases hx:f x with
 |none=>rw [hx] at h; cases h
 |some y=>
  rw [hx] at h;cases hl:l.mapM f with
  |none=>rw [hl] at h; cases h
  |some ys=>rw [hl] at h; cases h; exact ⟨y,ys,rfl,rfl,rfl⟩
theorem zo {β:Type} {off len:β→Nat} {g:β→Option (List aP)} {cs:List Value} {f:β→Option (DataW H × List MemPlace)}
  (hf:∀ x ps y,g x=some ps→f x=some y→∃ lX,aN R w lX ((cs.drop (off x)).take (len x))∧sr ps lX∧∀ v∈(cs.drop (off x)).take (len x),v.oneCell'=true) :
  ∀ {L:List β} {o m:Nat} {ps:List aP} {ys:List (DataW H × List MemPlace)},tK off len o L=some m→JZ g L=some ps→L.mapM f=some ys →
   o≤m∧∃ lX,aN R w lX ((cs.drop o).take (m - o))∧sr ps lX∧∀ v∈(cs.drop o).take (m - o),v.oneCell'=true
 |[],o,m,ps,ys,ht,hp,_=>by
  simp only [tK] at ht;simp only [JZ] at hp;cases ht; cases hp;exact ⟨aa5 _,[],by simpa using aN.nil,trivial,by simp⟩
 |x :: L,o,m,ps,ys,ht,hp,hm=>by
  unfold tK at ht;cases hb:aaf (off x) o with
  |false=>rw [hb] at ht; cases ht
  |true=>
   rw [hb] at ht;have hb:=aac hb;unfold JZ at hp;split at hp
   ·rename_i pa pb h1 h2;cases hp;obtain ⟨y,ys',k1,k2,rfl⟩:=kU hm;obtain ⟨lX,q1,q2,q3⟩:=hf x pa y h1 k1;obtain ⟨hle,bs,r1,r2,r3⟩:=zo hf (show tK off len (o+len x) L=some m from ht) h2 k2;have e:(cs.drop o).take (m - o)=(cs.drop (off x)).take (len x)++(cs.drop (o+len x)).take (m - (o+len x)):=by
     rw [hb,show m - o=len x+(m - (o+len x)) by omega,List.take_add,List.drop_drop]
    rw [e];refine ⟨by omega,lX++bs,q1.append r1,q2.append r2,fun v hv=>?_⟩;rcases List.mem_append.1 hv with hv|hv
    ·exact q3 v hv
    ·exact r3 v hv
   ·cases hp
theorem nh {α β:Type} {f:α→Option β}:∀ {l:List α} {r:List β},l.mapM f=some r→∀ (i:Nat) (x:α),l[i]?=some x→∃ y,r[i]?=some y∧f x=some y
 |[],r,_,i,x,hx=>by simp at hx
 |a :: l,r,h,i,x,hx=>by
  obtain ⟨y,ys,h1,h2,rfl⟩:=kU h;cases i with
  |zero=>simp at hx; subst hx; exact ⟨y,by simp,h1⟩
  |succ i=>obtain ⟨z,h3,h4⟩:=nh h2 i x (by simpa using hx); exact ⟨z,by simpa using h3,h4⟩
theorem mapM_length {α β:Type} {f:α→Option β}:∀ {l:List α} {r:List β},l.mapM f=some r→r.length=l.length
 |[],r,h=>by simp at h; subst h; rfl
 |a :: l,r,h=>by
  obtain ⟨y,ys,h1,h2,rfl⟩:=kU h;simp [mapM_length h2]
theorem P9 {a:Addr} {v:Value} (h:w.cell? a=some v):a.block < w.heap.size:=by
 unfold aa6 at h;split at h
 ·rename_i hb; exact bl hb
 ·cases h
theorem Bv {e:TypeId} {ps:List aP} {pe:aP} {ag:Bool} {ss:Nat} (hp:∀ (cs:List Value) (y:DataW H × List MemPlace),aae enc P w base spare held ss e cs=some y→∃ lX,aN (ou w) w lX cs∧sr ps lX∧∀ v∈cs,v.oneCell'=true) (he:tL ag ps=some pe) {b off len:Nat} {r:List (DataW H × List MemPlace)}
  (h:(aai len).mapM (fun i=>(w.cells? base ((⟨b,off,none⟩:Addr).add (i * P.cellsOf e)) (P.cellsOf e)).bind (aae enc P w base spare held ss e))=some r) :
  ∀ (m i:Nat),i+m=len→∃ es,gj (ou w) w b (off+i * P.cellsOf e) (P.cellsOf e) es∧es.length=m∧∀ x∈es,pe.fits x=true∧pe.wf (pe.bJ x)
 |0,i,_=>⟨[],.nil,rfl,by simp⟩
 |m+1,i,hi=>by
  obtain ⟨es,h1,h2,h3⟩:=Bv hp he h m (i+1) (by omega);obtain ⟨y,_,hy⟩:=nh h i i (by rw [aag (by omega)]);obtain ⟨cs,hc,hy⟩:=bind_some hy;obtain ⟨lX,q1,q2,q3⟩:=hp _ _ hy;obtain ⟨x,hx,f1,f2⟩:=Eu he q2;have mu:w.cells? base ((⟨b,off,none⟩:Addr).add (i * P.cellsOf e)) (P.cellsOf e)=some cs:=hc;unfold World.cells? at mu;split at mu
  ·have hlen:=mapM_length mu;rw [List.length_range] at hlen;have jo:x.cells=lX∧x.a8=true∧x.closed=true:=by
    have oX:=Iu q2;cases ag with
    |true=>
     simp only [if_true] at hx;subst hx;refine ⟨rfl,rfl,?_⟩;show aF lX=true;clear h1 h2 h3 q1 q2 f1 f2
     induction lX with
     |nil=>rfl
     |cons a lX ih=>simp only [aF,aab]; exact ⟨(oX a (by simp)).2.2,ih (fun z hz=>oX z (by simp [hz]))⟩
    |false=>
     simp only [Bool.false_eq_true,if_false] at hx;subst hx;obtain ⟨k1,k2,k3⟩:=oX x (by simp);exact ⟨k2,k1,k3⟩
   have ka:∀ j v,cs[j]?=some v→w.cell? ⟨b,off+i * P.cellsOf e+j,none⟩=some v:=fun j v hv=>by
    have hj:j < P.cellsOf e:=by have:=(List.getElem?_eq_some_iff.1 hv).1; omega
    obtain ⟨v',k1,k2⟩:=nh mu j j (by rw [aag hj]);rw [hv] at k1;cases k1;rw [cM,cM] at k2;exact k2
   refine ⟨x :: es,.cons ?_ jo.2.1 jo.2.2 ?_ ?_,by simp [h2],fun z hz=>?_⟩
   ·rw [jo.1,q1.length,hlen]
   ·rw [jo.1];refine dV.make q1 q3 ka (fun j hj=>?_);have Pe:j < cs.length:=by rw [← q1.length]; exact hj
    exact P9 (ka j cs[j] (abx Pe))
   ·rw [show off+i * P.cellsOf e+P.cellsOf e=off+(i+1) * P.cellsOf e by rw [Nat.add_mul]; omega];exact h1
   ·rcases aah.1 hz with rfl|hz
    ·exact ⟨f1,f2⟩
    ·exact h3 z hz
  ·cases mu
theorem tM (De:∀ b,spare b=true):∀ (n:Nat) {t:TypeId} {ps:List aP},J0 P n t=some ps→∀ {ss:Nat} {cs:List Value} {y:DataW H × List MemPlace},aae enc P w base spare held ss t cs=some y →
  ∃ lX,aN (ou w) w lX cs∧sr ps lX∧∀ v∈cs,v.oneCell'=true
 |0,_,_,h,_,_,_,_=>by cases h
 |n+1,t,ps,h,0,_,_,hy=>by cases hy
 |n+1,t,ps,h,ss+1,cs,y,hy=>by
  unfold J0 at h;unfold aae at hy;split at h
  ·rename_i hu;cases h;rw [hu] at hy;cases cs with
   |nil=>cases hy
   |cons v l=>
    cases l with
    |cons v2 l=>(cases v <;> first | (cases hy; done) | (rename_i a; cases a <;> cases hy; done) | (rename_i a b; cases a <;> cases hy; done) | (rename_i a b c; cases a <;> first | (cases hy; done) | (cases b <;> first | (cases hy; done) | (cases c <;> cases hy))))
    |nil=>
     cases v with
     |bool b=>exact ⟨[.bool b],.one (.bool b),⟨rfl,⟨trivial,rfl,rfl,rfl⟩,trivial⟩,by simp [aao]⟩
     |pointer a=>cases a <;> cases hy
     |slice a b c=>cases a <;> first | (cases hy; done) | (cases b <;> first | (cases hy; done) | (cases c <;> cases hy))
     |map a=>cases a <;> cases hy
     |chan a=>cases a <;> cases hy
     |_=>cases hy
  ·rename_i k hu;cases h;rw [hu] at hy;cases cs with
   |nil=>cases hy
   |cons v l=>
    cases l with
    |cons v2 l=>(cases v <;> first | (cases hy; done) | (rename_i a; cases a <;> cases hy; done) | (rename_i a b; cases a <;> cases hy; done) | (rename_i a b c; cases a <;> first | (cases hy; done) | (cases b <;> first | (cases hy; done) | (cases c <;> cases hy))))
    |nil=>
     cases v with
     |int k' i=>
      have hy:(if k'=k∧(Lit.int k i).wf=true then some (.lit (.int k i),[]) else none)=some y:=hy;split at hy
      ·rename_i hc;obtain ⟨rfl,hw⟩:=hc;exact ⟨[.int k' i],.one (.int k' i),⟨decide_eq_true rfl,⟨by have h:=hw; simp [Lit.wf] at h; exact h,rfl,rfl,rfl⟩,trivial⟩,by simp [aao]⟩
      ·cases hy
     |pointer a=>cases a <;> cases hy
     |slice a b c=>cases a <;> first | (cases hy; done) | (cases b <;> first | (cases hy; done) | (cases c <;> cases hy))
     |map a=>cases a <;> cases hy
     |chan a=>cases a <;> cases hy
     |_=>cases hy
  ·rename_i hu;cases h;rw [hu] at hy;cases cs with
   |nil=>cases hy
   |cons v l=>
    cases l with
    |cons v2 l=>(cases v <;> first | (cases hy; done) | (rename_i a; cases a <;> cases hy; done) | (rename_i a b; cases a <;> cases hy; done) | (rename_i a b c; cases a <;> first | (cases hy; done) | (cases b <;> first | (cases hy; done) | (cases c <;> cases hy))))
    |nil=>
     cases v with
     |string s=>
      have hy:(if s.size≤maxLen then some (.lit (.string s.data.toList),[]) else none)=some y:=hy;split at hy
      ·rename_i hc;exact ⟨[.str s.data.toList],.one (.str s.data.toList),⟨rfl,⟨by simpa [aP.wf,aP.bJ,AV.Ve] using hc,rfl,rfl,rfl⟩,trivial⟩,by simp [aao]⟩
      ·cases hy
     |pointer a=>cases a <;> cases hy
     |slice a b c=>cases a <;> first | (cases hy; done) | (cases b <;> first | (cases hy; done) | (cases c <;> cases hy))
     |map a=>cases a <;> cases hy
     |chan a=>cases a <;> cases hy
     |_=>cases hy
  ·rename_i e hu;rw [hu] at hy;split at h
   ·rename_i ps' u h1 h2;split at h
    ·rename_i pe h3;obtain ⟨hz,h⟩:=bA h;cases h;have hz:=aa2 hz;cases cs with
     |nil=>cases hy
     |cons v l=>
      cases l with
      |cons v2 l=>(cases v <;> first | (cases hy; done) | (rename_i a; cases a <;> cases hy; done) | (rename_i a b; cases a <;> cases hy; done) | (rename_i a b c; cases a <;> first | (cases hy; done) | (cases b <;> first | (cases hy; done) | (cases c <;> cases hy))))
      |nil=>
       cases v with
       |slice a len cap=>
        cases a with
        |none=>
         have hz:len=0∧cap=0:=by
          cases len with
          |zero=>cases cap with
           |zero=>exact ⟨rfl,rfl⟩
           |succ _=>cases hy
          |succ _=>cases hy
         obtain ⟨rfl,rfl⟩:=hz;exact ⟨[.list .ly (P.cellsOf e) []],.one .jc,⟨by simp [aP.fits,allFit],⟨⟨aa0 _,fun x hx=>by change x∈([]:List pe.T) at hx; cases hx⟩,rfl,rfl,rfl⟩,trivial⟩,by simp [aao]⟩
        |some a=>
         have hy:(if base≤a.block∧len≤cap∧cap≤maxLen then
          ((aai len).mapM (fun i=>(w.cells? base (a.add (i * P.cellsOf e)) (P.cellsOf e)).bind (aae enc P w base spare held ss e))).bind fun Iw=>
           (if spare a.block then (aai (cap - len)).mapM (fun j=>(w.cells? base (a.add ((len+j) * P.cellsOf e)) (P.cellsOf e)).bind (aae enc P w base spare held ss e)) else some []).map fun rest=>
            (DataW.slice (Iw.map (·.1)) (rest.map (·.1)),MemPlace.row a ((Iw.length+rest.length) * P.cellsOf e)++(Iw++rest).flatMap (·.2))
          else none)=some y:=hy
         split at hy
         ·rename_i hc;obtain ⟨Iw,k1,hy⟩:=bind_some hy;rw [if_pos (De _)] at hy;by_cases ib:cap=0
          ·subst ib;have uv:len=0:=Nat.le_zero.1 hc.2.1;subst uv;exact ⟨[.list .ly (P.cellsOf e) []],.one .nQ,⟨by simp [aP.fits,allFit],⟨⟨aa0 _,fun x hx=>by change x∈([]:List pe.T) at hx; cases hx⟩,rfl,rfl,rfl⟩,trivial⟩,by simp [aao]⟩
          ·have Mp:a.spot=none:=by
            have V4:∃ y,(w.cells? base (a.add (0 * P.cellsOf e)) (P.cellsOf e)).bind (aae enc P w base spare held ss e)=some y:=by
             by_cases uv:len=0
             ·subst uv;cases hr:(aai (cap - 0)).mapM (fun j=>(w.cells? base (a.add ((0+j) * P.cellsOf e)) (P.cellsOf e)).bind (aae enc P w base spare held ss e)) with
              |none=>rw [hr] at hy; cases hy
              |some r=>
               obtain ⟨z,_,hz⟩:=nh hr 0 0 (by rw [aag (by omega)]);exact ⟨z,hz⟩
             ·obtain ⟨z,_,hz⟩:=nh k1 0 0 (by rw [aag (by omega)]);exact ⟨z,hz⟩
            obtain ⟨z,hz'⟩:=V4;obtain ⟨cs,qF,_⟩:=bind_some hz';unfold World.cells? at qF;split at qF
            ·obtain ⟨v,_,hv⟩:=nh qF 0 0 (by rw [aag (by omega)]);rw [Nat.zero_mul] at hv;unfold aa6 at hv;split at hv
             ·split at hv
              ·cases hv
              ·rename_i hs;simpa [Addr.add] using hs
             ·cases hv
            ·cases qF
           obtain ⟨b,off,spot⟩:=a;have Mp:spot=none:=Mp;subst Mp;obtain ⟨es,q1,q2,q3⟩:=Bv (fun cs y hy=>tM De n h1 hy) h3 k1 len 0 (by omega);rw [Nat.zero_mul,Nat.add_zero] at q1;obtain ⟨f1,f2⟩:=Iv q3;refine ⟨[.list .ly (P.cellsOf e) es],.one (.list q1 q2.symm hc.2.1 trivial),⟨?_,⟨⟨?_,f2⟩,rfl,rfl,rfl⟩,trivial⟩,by simp [aao]⟩
           ·simp only [aP.fits,aab,Bool.or_eq_true];exact ⟨.inl (Nat.beq_refl _),f1⟩
           ·have:es.length≤maxLen:=by rw [q2]; omega
            show (es.map pe.bJ).length≤maxLen;rw [List.length_map];exact this
         ·cases hy
       |pointer a=>cases a <;> cases hy
       |map a=>cases a <;> cases hy
       |chan a=>cases a <;> cases hy
       |_=>cases hy
    ·cases h
   ·cases h
  ·rename_i fs hu;rw [hu] at hy;have hy:(if cs.length=P.cellsOf t then (fs.toList.mapM fun f=>aae enc P w base spare held ss f.type ((cs.drop f.offset).take (P.cellsOf f.type))).map fun xs=>(.agg (xs.map (·.1)),xs.flatMap (·.2)) else none)=some y:=hy;split at hy
   ·rename_i hl;obtain ⟨h1,h2⟩:=bA h;cases hm:fs.toList.mapM fun f=>aae enc P w base spare held ss f.type ((cs.drop f.offset).take (P.cellsOf f.type)) with
    |none=>rw [hm] at hy; cases hy
    |some ys=>
     cases ht:tK abT (fun f=>P.cellsOf f.type) 0 fs.toList with
     |none=>rw [ht] at h1; cases h1
     |some m=>
      rw [ht] at h1;have h1:=aac (show aaf m (P.cellsOf t)=true from h1);obtain ⟨_,lX,q1,q2,q3⟩:=zo (R:=ou w) (w:=w) (off:=abT) (len:=fun f=>P.cellsOf f.type) (cs:=cs) (fun x ps y hx hy'=>tM De n hx hy') ht h2 hm;rw [h1,← hl] at q1 q3;simp only [aa4,Nat.sub_zero,List.take_length] at q1 q3;exact ⟨lX,q1,q2,q3⟩
   ·cases hy
  ·rename_i m e hu;rw [hu] at hy;have hy:(if cs.length=P.cellsOf t then ((aai m).mapM fun i=>aae enc P w base spare held ss e ((cs.drop (i * P.cellsOf e)).take (P.cellsOf e))).map fun xs=>(.agg (xs.map (·.1)),xs.flatMap (·.2)) else none)=some y:=hy;split at hy
   ·rename_i hl;obtain ⟨h1,h2⟩:=bA h;cases hm:(aai m).mapM fun i=>aae enc P w base spare held ss e ((cs.drop (i * P.cellsOf e)).take (P.cellsOf e)) with
    |none=>rw [hm] at hy; cases hy
    |some ys=>
     cases ht:tK (fun i=>i * P.cellsOf e) (fun _=>P.cellsOf e) 0 (aai m) with
     |none=>rw [ht] at h1; cases h1
     |some k=>
      rw [ht] at h1;have h1:=aac (show aaf k (P.cellsOf t)=true from h1);obtain ⟨_,lX,q1,q2,q3⟩:=zo (R:=ou w) (w:=w) (off:=fun i=>i * P.cellsOf e) (len:=fun _=>P.cellsOf e) (cs:=cs) (fun x ps y hx hy'=>tM De n hx hy') ht h2 hm;rw [h1,← hl] at q1 q3;simp only [aa4,Nat.sub_zero,List.take_length] at q1 q3;exact ⟨lX,q1,q2,q3⟩
   ·cases hy
  ·cases h
def Wn (P:Program) (n:Nat) (t:TypeId):Option aP:=match P.underlying t with
 |some u=>match J0 P n t with
  |some ps=>tL (Go.Am.jQ u) ps
  |none=>none
 |none=>none
theorem Qa (De:∀ b,spare b=true) {n:Nat} {t:TypeId} {p:aP} (hp:Wn P n t=some p) {v:Value} {d:DataW H} {pl:List MemPlace} {r:Reach} {base':Nat} (ht:DataW.Trod enc P w base spare held t v d pl) (eN:aap P w r base' t v) :
  ∃ x:p.T,Rel (ou w) w (p.enc x) v∧p.wf x:=by
 obtain ⟨ss,ht⟩:=ht;have fin:∀ {a:AV},p.fits a=true→p.wf (p.bJ a)→Rel (ou w) w a v→∃ x:p.T,Rel (ou w) w (p.enc x) v∧p.wf x:=fun {a} h1 h2 h3=>⟨p.bJ a,(p.dh h1).hY _ _ _ h3,h2⟩
 unfold Wn at hp;split at hp
 ·rename_i u hu;split at hp
  ·rename_i ps h1;obtain ⟨lX,q1,q2,q3⟩:=tM De n h1 ht;obtain ⟨x,hx,f1,f2⟩:=Eu hp q2;cases B7:Go.Am.jQ u with
   |true=>
    rw [B7] at hx;simp only [if_true] at hx;subst hx;have:∃ cs,v=.agg cs:=by
     unfold aap at eN;rw [hu] at eN;cases u <;> first | (cases B7; done) | (obtain ⟨cs,h,_⟩:=eN; exact ⟨cs,h⟩)
    obtain ⟨⟨cs⟩,rfl⟩:=this;exact fin f1 f2 (.agg q1 q3)
   |false=>
    rw [B7] at hx;simp only [Bool.false_eq_true,if_false] at hx;subst hx;have hv:v.cells.toList=[v]:=by
     cases v with
     |agg cs=>
      exfalso;unfold aap at eN;rw [hu] at eN;cases u <;> first | (cases B7; done) | (simp [Cell.okWide,Cell.ok,hu] at eN)
     |_=>rfl
    rw [hv] at q1;cases q1 with
    |cons q1 _=>exact fin f1 f2 q1
  ·cases hp
 ·cases hp
def Ev (P:Program) (n:Nat):List TypeId→Option (List aP)
 |[]=>some []
 |t :: l=>match Wn P n t,Ev P n l with
  |some p,some r=>some (p :: r)
  |_,_=>none
theorem Ew (De:∀ b,spare b=true) {n:Nat} {r:Reach} {base':Nat}:∀ {ts:List TypeId} {ps:List aP} {vs:List Value} {ds:List (DataW H)} {pl:List MemPlace},Ev P n ts=some ps→aa1 enc P w base spare held ts vs ds pl →
  (∀ (j:Nat) t v,ts[j]?=some t→vs[j]?=some v→aap P w r base' t v)→∃ x:(kT ps).T,aN (ou w) w ((kT ps).enc x) vs∧(kT ps).wf x
 |[],ps,vs,ds,pl,hp,ht,_=>by
  simp only [Ev] at hp;cases hp;cases vs with
  |nil=>exact ⟨(),.nil,trivial⟩
  |cons _ _=>cases ds <;> exact ht.elim
 |t :: ts,ps,vs,ds,pl,hp,ht,eN=>by
  unfold Ev at hp;split at hp
  ·rename_i p r h1 h2;cases hp;cases vs with
   |nil=>cases ds <;> exact ht.elim
   |cons v vs=>
    cases ds with
    |nil=>exact ht.elim
    |cons d ds=>
     obtain ⟨p1,p2,k1,k2,_⟩:=ht;obtain ⟨x,q1,q2⟩:=Qa De h1 k1 (eN 0 t v rfl rfl);obtain ⟨y,q3,q4⟩:=Ew De h2 k2 (fun j t v hj hv=>eN (j+1) t v (by simpa using hj) (by simpa using hv));cases r with
     |nil=>
      cases q3;exact ⟨x,.one q1,q2⟩
     |cons p' r=>exact ⟨(x,y),.cons q1 q3,q2,q4⟩
  ·cases hp
end read
end Go.Am
namespace Go.Am
open Go Go.RowKit Go.WideShapes Go.ChangeShapes
section
variable {H:Type} {enc:TypeId × Value→H} {P:Program}
theorem G6 {f:Func} {s:ChangeSpec} {apart fresh handsOn again:Bool} {W W':World} {args:Array Value} {v:Value} {ds gs:List (DataW H)} {before pa pv:List MemPlace}
  (hW:DataW.Whole enc P f.params.toList s.vars apart W args.toList ds gs before)
  (Gu:∀ (b:Nat) (sp:Nat→Bool) (hd:Bool),aa1 enc P W' b sp hd f.resultTypes.toList (v.resultList f.resultTypes.size) (s.fn H (ds++gs)).results [])
  (vA:∀ sp:Nat→Bool,(∀ p∈before,sp p.block=true)→aa1 enc P W' 0 sp true f.params.toList args.toList (s.fn H (ds++gs)).args pa)
  (Ex:∀ sp:Nat→Bool,(∀ p∈before,sp p.block=true)→DataW.TrodVars enc P W' sp s.vars (s.fn H (ds++gs)).vars pv)
  (Jl:before=pa++pv) (hb:Below W.heap.size W W')
  (eN:∀ (j:Nat) (t:TypeId) (r:Value),f.resultTypes[j]?=some t→(v.resultList f.resultTypes.size)[j]?=some r→aap P W' .any 0 t r) :
  s.post enc P f apart fresh handsOn again W args v W':=by
 have cm:∀ p∈before,p.block < W.heap.size:=fun p hp=>hW.lt p hp
 have hold:∀ p∈before,(fun b=>decide (b < W.heap.size)) p.block=true:=fun p hp=>by simpa using cm p hp
 refine ⟨ds,gs,before,[],pa,pv,hW,Gu _ _ _,vA _ hold,Ex _ hold,World.keptBut_mono (fun p hp=>⟨hp,?_⟩) (hb.frame (·∈before)),fun _=>?_⟩
 ·rw [Jl,List.mem_append] at hp;exact Or.inr hp
 ·obtain ⟨_,_,_,_,_,hz,hn⟩:=hW;refine ⟨eN,_,_,([]++pa)++pv,⟨[]++pa,pv,trodAll_append (vA _ (fun _ _=>rfl)) (Gu _ _ _),Ex _ (fun _ _=>rfl),rfl,?_,?_⟩,?_⟩
  ·intro b off hp;have FY:MemPlace.cell b off∈before:=by rw [Jl]; simpa using hp
   rw [hb.frozen (cm _ FY)];exact hz b off FY
  ·intro ha;have:=hn ha;rw [Jl] at this;simpa using this
  ·intro p hp _;rw [Jl];simpa using hp
theorem rP (hl:laidOutB P=true) {W W':World} (hb:Below W.heap.size W W') {sp:Nat→Bool}:∀ {ts:List TypeId} {vs:List Value} {ds:List (DataW H)} {pl:List MemPlace},
  (∀ t∈ts,P.readableRec t=true∧t < P.types.size)→aa1 enc P W 0 (fun _=>true) true ts vs ds pl→(∀ p∈pl,p.block < W.heap.size)→(∀ p∈pl,sp p.block=true) →
  aa1 enc P W' 0 sp true ts vs ds pl
 |[],[],[],_,_,h,_,_=>h
 |t :: ts,v :: vs,d :: ds,pl,hr,h,cm,De=>by
  obtain ⟨p,q,h1,h2,rfl⟩:=h;refine ⟨p,q,?_,rP hl hb (fun t ht=>hr t (by simp [ht])) h2 (fun x hx=>cm x (by simp [hx])) (fun x hx=>De x (by simp [hx])),rfl⟩;exact WideElems.Trod_stays hl (hr t (by simp)).1 (hr t (by simp)).2 h1 (fun x hx=>hb.same (cm x (by simp [hx]))) (fun x hx=>De x (by simp [hx]))
 |[],[],_ :: _,_,_,h,_,_=>h.elim
 |[],_ :: _,_,_,_,h,_,_=>h.elim
 |_ :: _,[],_,_,_,h,_,_=>h.elim
 |_ :: _,_ :: _,[],_,_,h,_,_=>h.elim
theorem J1 {E:Env} {f:FuncId} {fn:Func} {s:ChangeSpec} {ps:List aP} {apart fresh handsOn again:Bool} {W:World} {base:Nat} {args:Array Value} {ds gs:List (DataW H)} {before:List MemPlace} {n tb:Nat}
  (aeS:∀ x,(kT ps).wf x→aU E f ((kT ps).enc x) (fun r=>r=.bool true)) (aaC:Ev E.P n fn.params.toList=some ps)
  (J2:∀ (j:Nat) t v,fn.params[j]?=some t→args[j]?=some v→aap E.P W .any base t v)
  (hW:DataW.Whole enc E.P fn.params.toList s.vars apart W args.toList ds gs before) (aaD:∀ g cs,E.cr g=some cs→dV (ou W) W g 0 cs)
  (Ex:s.vars=[]) (De:∀ ds:List (DataW H),ds.length=fn.params.toList.length→s.fn H ds={ results:=[.lit (.bool true)],args:=ds })
  (Gu:fn.resultTypes=#[tb]) (hub:E.P.underlying tb=some .bool) (hl:laidOutB E.P=true) (hr:∀ t∈fn.params.toList,E.P.readableRec t=true∧t < E.P.types.size) (F6:E.lo=0:=by rfl) (P8:∀ g cs,E.cr g=some cs→E.gx g=true→g < W.heap.size∧W.cell? ⟨g,cs.length,none⟩=none:=by intro _ _ _ h; exact Bool.noConfusion (show false=true from h)) :
  Calls E.P f args W fun e W'=>∃ v,e=.returned v∧s.post enc E.P fn apart fresh handsOn again W args v W':=by
 have hW0:=hW;obtain ⟨p,q,hA,hV,rfl,hfz,hnd⟩:=hW;obtain ⟨rfl,rfl⟩:gs=[]∧q=[]:=by
  rw [Ex] at hV;cases gs with
  |nil=>exact ⟨rfl,hV⟩
  |cons g r=>exact absurd hV (by intro h; cases h)
 obtain ⟨x,hx,Za⟩:=Ew (fun _=>rfl) (n:=n) aaC hA (r:=.any) (base':=base) (fun j t v hj hv=>J2 j t v (by simpa using hj) (by simpa using hv));have hlen:ds.length=fn.params.toList.length:=by
  clear J2 hfz hnd hW0 hx Za De aaC hr;revert hA;generalize fn.params.toList=ts;generalize args.toList=vs;generalize p=pl;clear p;intro hA
  induction ts generalizing vs ds pl with
  |nil=>cases vs <;> cases ds <;> first | rfl | exact hA.elim
  |cons t ts ih=>
   cases vs with
   |nil=>cases ds <;> exact hA.elim
   |cons v vs=>
    cases ds with
    |nil=>exact hA.elim
    |cons d ds=>
     obtain ⟨p,q,_,h2,_⟩:=hA;simp [ih vs q h2]
 have hG:dC E (ou W) W []:=⟨rfl,fun id go ro h=>by simp [nth] at h,fun i j ri rj b h=>by simp [ou,nth] at h,fun b o h=>h,fun g cs hg=>⟨aaD g cs hg,fun hx=>P8 g cs hg hx⟩,by rw [F6]; exact aa0 _⟩;have hc:=(aeS x Za []);refine (callsIn_wide.1 (hc.2 (ou W) W args.toList hG hx)).mono fun e W' he=>?_
 cases e with
 |panicked c=>exact he.elim
 |outgrown=>exact he.elim
 |returned c=>
  obtain ⟨r,G',R',⟨_,rfl⟩,eD,_,st⟩:=he;cases eD;have hb:Below W.heap.size W W':=⟨st.os,st.tape,st.output,st.size,fun k hk=>st.aY k hk fun ho=>by
   obtain ⟨id,ro,h1,_⟩:=eU ho;simp [ou,nth] at h1⟩
  have cm:∀ y∈p,y.block < W.heap.size:=fun y hy=>by simpa using hW0.lt y (by simpa using hy)
  have e1:s.fn H (ds++[])={ results:=[.lit (.bool true)],args:=ds }:=by rw [List.append_nil]; exact De ds hlen
  refine ⟨_,rfl,G6 (pa:=p) (pv:=[]) hW0 ?_ ?_ ?_ rfl hb ?_⟩
  ·intro b sp hd;rw [e1,Gu];exact trodAll_mk1 (shut_bool hub true)
  ·intro sp aeU;rw [e1];exact rP hl hb hr hA cm (fun y hy=>aeU y (by simpa using hy))
  ·intro sp _;rw [e1,Ex];rfl
  ·intro j t r hj ms;rw [Gu] at hj ms;cases j with
   |succ j=>simp at hj
   |zero=>
    simp at hj;subst hj;have:r=.bool true:=by simpa [Value.resultList] using ms.symm
    subst this;simp [aap,Cell.okWide,Cell.ok,hub]
end
end Go.Am
namespace Go.Am
open Go
section
variable {P:Program} {W:World}
theorem uO {g:Nat} {cs:Array Value} {k:IntKind} (hg:g < W.heap.size):∀ (xs:List Int) (o:Nat),(∀ i,i < xs.length→W.cell? ⟨g,o+i,none⟩=some (.int k (xs[i]?.getD 0)))→dV (ou W) W g o (xs.map fun x=>.int k x)
 |[],_,_=>.nil
 |x :: xs,o,h=>.cons (h 0 (by simp)) rfl hg (.int k x) (uO (cs:=cs) hg xs (o+1) fun i hi=>by
   have:=h (i+1) (by simpa using hi);rw [show o+1+i=o+(i+1) by omega];simpa using this)
end
end Go.Am
namespace Go.Am
open Go
theorem dP {p:aP} (hp:p.plain=true) (l:List p.T):allFit p.fits (List.map p.enc l)=true:=by
 induction l with
 |nil=>rfl
 |cons x l ih=>simp [allFit,ih,(p.bX x hp).1]
theorem gN {p:aP} (hp:p.plain=true) (l:List p.T):List.map p.bJ (List.map p.enc l)=l:=by
 induction l with
 |nil=>rfl
 |cons x l ih=>simp [ih,(p.bX x hp).2]
end Go.Am
namespace Go.Am
open Go Go.RowKit
section
variable {E:Env} {R:ak} {w w':World}
theorem Below.Wo (h:Below w.heap.size w w') (wf:∀ b o,R.I b o→b < w.heap.size):Ext R w R w':=
 ⟨fun _ _ h=>h,fun b o hi=>cn (h.block b (wf b o hi)) o,fun _ ro h=>⟨ro,h,cJ.refl ro⟩,.old fun b hb=>h.block b hb⟩
theorem Below.J3 {G:List GO} (h:Below w.heap.size w w') (hg:dC E R w G) (hE:E.lo=0):dC E R w' G:=
 hg.aY (Below.Wo h hg.wf) rfl (fun b hb=>h.block b (hg.cj hb)) (fun _ _ _ hi=>hi) (fun b o hi=>Nat.lt_of_lt_of_le (hg.wf b o hi) h.size) (fun _=>by rw [hE]; exact aa0 _)
theorem Below.Bw {β:Nat→Nat} {bx:cV} (h:Below w.heap.size w w') (wf:∀ b o,R.I b o→b < w.heap.size):Step R w β bx R w' β bx:=
 ⟨Below.Wo h wf,h.os,h.tape,h.output,h.size,fun b hb _=>h.block b hb,fun _ _ ho=>ho,fun _ _ hi _ _=>hi⟩
theorem aU.below {g:FuncId} {args:List AV} {r:AV} (hp:Plain E.P g)
  (h:∀ (R:ak) (w:World) (cs:List Value),aN R w args cs→Calls E.P g ⟨cs⟩ w (fun e w'=>∃ v,e=.returned v∧(∀ R,Rel R w' r v)∧Below w.heap.size w w')) (hE:E.lo=0):aU E g args (fun r'=>r'=r):=fun G=>
 ⟨hp,fun R w cs hg hl=>callsIn_wide.2 ((h R w cs hl).mono fun e w' ⟨v,he,hv,hb⟩=>by
  subst he;exact ⟨r,G,R,⟨rfl,rfl⟩,hv R,Below.J3 hb hg hE,Below.Bw hb hg.wf⟩)⟩
theorem Plain.of {P : Program} {g : FuncId} {fn : Func} (h : P.funcs[g]? = some fn) (h1 : fn.body.isNone = false) (h2 : (fn.name == "runtime.NumGoroutine") = false) : Plain P g := ⟨fn, h, h1, h2⟩
end
def p2 (a b:aP):aM:=.cons a (.cons b .nil)
def p1 (a:aP):aM:=.cons a .nil
def J4:List UInt8 × List UInt8→Option (List UInt8)
 |(s,[c])=>bif Nat.blt c.toNat 128 then some (s.dropWhile (· == c)) else none
 |_=>none
def Wp (n:Int):List UInt8:=bif decide (n < 10) then [aa7 (48+n.toNat)] else [aa7 (48+n.toNat / 10),aa7 (48+n.toNat % 10)]
def J5:aD:=⟨p2 .str .str,.str,J4⟩
section
variable {E:Env}
theorem Ey {g:FuncId} (hp:Plain E.P g)
  (h:∀ (s:ByteArray) (c:UInt8),c.toNat < 128→∀ w:World,Calls E.P g #[.string s,.string ⟨#[c]⟩] w fun e w'=>e=.returned (.string ⟨(s.data.toList.dropWhile (· == c)).toArray⟩)∧w'=w) (hE:E.lo=0:=by rfl):ai E g J5:=fun x y hT=>by
 obtain ⟨s,c⟩:=x
 match c,hT with
 |[c],hT=>
  obtain ⟨h1,h2⟩:=cond_some' hT;subst h2;refine aU.below hp (fun R w cs hl=>?_) hE;cases hl with
  |cons a1 hl=>
  cases hl with
  |cons a2 hl=>
  cases hl;cases a1; cases a2;refine (h ⟨⟨s⟩⟩ c (aa2 h1) w).mono ?_;rintro e w' ⟨rfl,rfl⟩;exact ⟨_,rfl,fun _=>Rel.str _,Below.refl _ _⟩
where
 cond_some' {c:Bool} {a x:List UInt8} (h:(bif c then some a else none)=some x):c=true∧a=x:=by
  cases c
  ·cases h
  ·exact ⟨rfl,aad h⟩
end
end Go.Am
namespace Go.Am
open Go Go.RowKit Go.Proofs Go.Shelf
section
variable {E:Env} {R:ak} {w w':World}
theorem Ez {b:Nat} {x y v:Value} {el:TypeId} {fz:Nat × Nat} (h:w.heap[b]?=some (.cells #[x,y] el fz)):w.setCell ⟨b,0,none⟩ v=w.setRow b #[v,y]:=by
 unfold World.setCell World.setRow;congr 1;apply Array.ext
 ·simp
 ·intro i h1 h2;rw [abS,abS];by_cases e:b=i
  ·subst e;have cm:b < w.heap.size:=bl h;have hv:w.heap[b]=.cells #[x,y] el fz:=(Array.getElem?_eq_some_iff.1 h).2;simp [hv]
  ·simp [e]
theorem dC.Df {G:List GO} (h:dC E R w G):bt E R w (fun _=>0) ⟨[],fk,G,[],none,0⟩ { tmps:=#[],defers:=[] }:=
 ⟨h,⟨fun k cs hk=>by simp [fk,dA] at hk,fun k k' cs cs' hk=>by simp [fk,dA] at hk⟩,fun i hi=>absurd rfl hi,rfl,trivial⟩
def Qb (id:Nat):AV→Bool
 |.fj=>true
 |.ptr i 0=>aaf i id
 |_=>false
def ccF (ty:Nat) (args:List AV) (G:List GO):Option (Bool × AV × List GO):=match args with
 |[.ptr id 0]=>match nth G id with
  |some (.row [c,b] el)=>some (aaf el ty&&Qb id c,.bq [],aI G id (.row [.ptr id 0,b] el))
  |_=>none
 |_=>none
theorem Wq {ρ:Ren} (L:Lays.n240 E.P ρ) (X:Builder.X72 E.P ρ) (args:List AV) (G:List GO) (r:AV) (G':List GO) (h:ccF (ρ.t 72) args G=some (true,r,G')):cG E (ρ.f 240) args G (fun r' Br=>r'=r∧Br=G'):=by
 refine ⟨⟨_,L.f240,rfl,rfl⟩,fun R w cs hg hl=>callsIn_wide.2 ?_⟩;unfold ccF at h;split at h
 ·rename_i id;cases hl with
  |cons a1 hl=>
  cases hl;cases a1 with
  | @ptr _ _ b hb=>
  split at h
  ·rename_i cv bv el hid;injection h with h; injection h with h1 h; injection h with h2 h3;rw [aab] at h1;obtain ⟨h1,Ft⟩:=h1;have h1:=aac h1;subst h1; subst h2; subst h3;obtain ⟨vs,k1,k2,k3,k4⟩:=hg.obj id _ _ hid hb;cases k2 with
   | @cons _ c1 _ _ q1 k2=>
   cases k2 with
   | @cons _ c2 _ _ q2 k2=>
   cases k2;unfold Qb at Ft;split at Ft
   case h_3=>cases Ft
   case h_2 i=>
    have Ft:=aac Ft;subst Ft;cases q1 with
    | @ptr _ _ b' gJ=>
    rw [hb] at gJ;cases gJ;refine (Any.Builder_copyCheck_used L X b w (by simp [aa6,k1])).mono fun e w' ⟨he,hw⟩=>?_
    subst he; subst hw;rw [jw hid];exact ⟨.bq [],G,R,⟨rfl,rfl⟩,Rel.bq .nil,hg,Step.refl _ _ _ _⟩
   cases q1;have Gs:∀ v∈[Value.pointer (some ⟨b,0,none⟩),c2],v.oneCell'=true:=by
    intro v hv;rcases aah.1 hv with rfl|hv
    ·rfl
    ·exact k3 v (by rw [List.mem_singleton.1 hv]; simp)
   refine (Any.Builder_copyCheck_fresh L X b w (by simp [aa6,k1]) (by simp [World.shape?,k1]) (by simp [World.frozen?,k1])).mono fun e w' ⟨he,hw⟩=>?_
   subst he;rw [Ez k1] at hw;subst hw;obtain ⟨r1,r2⟩:=(dC.Df hg).setRow (cs':=[.ptr id 0,bv]) (us:=[.pointer (some ⟨b,0,none⟩),c2]) hid hb k1 (.cons (Rel.ptr hb) (.cons q2 .nil)) Gs;exact ⟨.bq [],_,R,⟨rfl,rfl⟩,Rel.bq .nil,r1.g,r2⟩
  ·cases h
 ·cases h
def ccE {ρ:Ren} (L:Lays.n240 E.P ρ) (X:Builder.X72 E.P ρ):kQ E (ρ.f 240):=⟨ccF (ρ.t 72),Wq L X⟩
theorem EA (a:Addr) (n:Nat) (b o:Nat):(w.freeze a n).cell? ⟨b,o,none⟩=w.cell? ⟨b,o,none⟩:=by
 unfold aby;split
 ·rfl
 ·simp only [aa6,abN];by_cases e:a.block=b
  ·subst e;simp only [if_true];cases h:w.heap[a.block]? with
   |none=>rfl
   |some x=>cases x <;> simp
  ·simp [e]
theorem EB {a:Addr} {n:Nat} {b:Nat} (h:b≠a.block):(w.freeze a n).heap[b]?=w.heap[b]?:=by
 unfold aby;split
 ·rfl
 ·simp only [abN];rw [if_neg (Ne.symm h)]
theorem EC (a:Addr) (n:Nat):(w.freeze a n).heap.size=w.heap.size:=by
 unfold aby;split <;> simp
set_option maxHeartbeats 2000000 in
set_option maxRecDepth 100000 in
theorem CM {P:Program} {ρ:Ren} (L:Lays.n169 P ρ) (X:Builder.Extra P ρ) (b g cap:Nat) (p:Value) (cur:Array Value) (l:List UInt8) (w:World) (h0:l≠[])
  (hbk:w.heap[b]?=some (.cells #[p,.slice (some ⟨g,0,none⟩) l.length cap] (ρ.t 72) (0,0))) (hg:w.heap[g]?=some (.cells cur (ρ.t 5) (0,0))) (hnc:l.length≤cap) (ZU:cap≤maxLen) (qF:cur.size=cap)
  (fR:∀ (j:Nat) (x:UInt8),l[j]?=some x→w.cell? ⟨g,j,none⟩=some (.int .u8 x.toNat)) :
  Calls P (ρ.f 169) #[.pointer (some ⟨b,0,none⟩)] w fun e w'=>e=.returned (.string ⟨l.toArray⟩)∧w'=w.drew.freeze ⟨g,0,none⟩ l.length:=by
 have uv:l.length≠0:=by simpa using h0
 have c1:w.drew.cell? ⟨b,1,none⟩=some (.slice (some ⟨g,0,none⟩) l.length cap):=by
  have:w.drew.heap[b]?=some (.cells #[p,.slice (some ⟨g,0,none⟩) l.length cap] (ρ.t 72) (0,0)):=hbk;rw [Lib.cell_of_heap this]; rfl
 have hSD:(Builtin.unsafeSliceData_ #[(ρ.t 37)] (ρ.t 127) #[.slice (some ⟨g,0,none⟩) l.length cap]).run P w.drew=.ok (.pointer (some ⟨g,0,none⟩)) w.drew:=
  Lib.run_unsafeSliceData_row _ _ _ _ _ _ (by omega)
 have hUS:(Builtin.unsafeString_ #[(ρ.t 127),(ρ.t 3)] (ρ.t 9) #[.pointer (some ⟨g,0,none⟩),.int .i64 l.length]).run P w.drew=.ok (.string ⟨l.toArray⟩) (w.drew.freeze ⟨g,0,none⟩ l.length):=by
  refine Lib.run_unsafeString_row w.drew (ρ.t 127) (ρ.t 3) (ρ.t 9) (ρ.t 5) L.t127 X.cellsByte g cur.size (by have rV:w.drew.heap[g]?=some (.cells cur (ρ.t 5) (0,0)):=hg; simp [World.shape?,rV]) l h0 (by omega) (by unfold maxLen at ZU; omega) ?_;intro j x hx;have:=fR j x hx;rw [cM,Nat.zero_add];exact this
 have mixed:=L.mixed;have t72:=L.t72; have a72:=L.a72; have z72:=L.z72; have v72:=L.v72; have u72:=run_underlying L.t72;have t70:=L.t70; have a70:=L.a70; have z70:=L.z70; have v70:=L.v70; have u70:=run_underlying L.t70;have t37:=L.t37; have a37:=L.a37; have z37:=L.z37; have v37:=L.v37; have u37:=run_underlying L.t37;have t127:=L.t127; have a127:=L.a127; have z127:=L.z127; have v127:=L.v127; have aj3:=run_underlying L.t127;have t3:=L.t3; have a3:=L.a3; have z3:=L.z3; have v3:=L.v3; have u3:=run_underlying L.t3;have t9:=L.t9; have a9:=L.a9; have z9:=L.z9; have v9:=L.v9; have u9:=run_underlying L.t9;have t5:=X.t5; have a5:=X.a5; have z5:=X.z5; have v5:=X.v5; have u5:=run_underlying X.t5;clear fR
 go_enter L.f169,Body.n169_ntmps ρ
 go_wp2
 go_region_o
 all_goals (go_wp2; go_ret; exact ⟨rfl,rfl⟩)
theorem dC.frozen {G:List GO} (hg:dC E R w G) {t f sz el g c n:Nat} (_ht:nth G t=some (.tok f sz el)) (hr:nth R.obj t=some (.tok f g c)) {cur:Array Value} {fz:Nat × Nat} (hc:w.heap[g]?=some (.cells cur el fz)) :
  dC E R (w.drew.freeze ⟨g,0,none⟩ n) (aI G t .dead)∧Step R w (fun _=>0) fk R (w.drew.freeze ⟨g,0,none⟩ n) (fun _=>0) fk:=by
 have hl:Live R g:=⟨t,_,hr,rfl⟩;have aY:∀ b,b≠g→(w.drew.freeze ⟨g,0,none⟩ n).heap[b]?=w.heap[b]?:=fun b hb=>EB (w:=w.drew) (a:=⟨g,0,none⟩) hb
 have e7:(w.drew.freeze ⟨g,0,none⟩ n).heap.size=w.heap.size:=EC (w:=w.drew) _ _;have e:Ext R w R (w.drew.freeze ⟨g,0,none⟩ n):=⟨fun _ _ h=>h,fun b o _=>EA (w:=w.drew) _ _ b o,fun _ ro h=>⟨ro,h,cJ.refl ro⟩,fun b r hb=>⟨r,by
  by_cases e:b=g
  ·subst e; rw [hc] at hb; cases hb
  ·rw [aY b e]; exact hb,rfl,rfl,rfl,rfl,rfl⟩⟩
 have hos:∀ (v:World) (a:Addr) (m:Nat),(v.freeze a m).os=v.os∧(v.freeze a m).tape=v.tape∧(v.freeze a m).output=v.output∧(v.freeze a m).drawn=v.drawn:=by
  intro v a m;unfold aby;split <;> exact ⟨rfl,rfl,rfl,rfl⟩
 refine ⟨⟨by rw [iw]; exact hg.len,fun id go ro q1 q2=>?_,hg.inj,fun b o hi=>by rw [e7]; exact hg.wf b o hi,fun x cs hx=>(hg.cr x cs hx).mono e,by rw [(hos _ _ _).2.2.2]; exact Nat.le_succ_of_le hg.lo⟩,⟨e,(hos _ _ _).1,(hos _ _ _).2.1,(hos _ _ _).2.2.1,by rw [e7]; exact aa5 _,fun b hb hn=>aY b (fun e=>hn (e ▸ .inl hl)),fun _ _ ho=>ho,fun _ _ hi _ _=>hi⟩⟩;rcases du q1 with ⟨rfl,rfl,_⟩|⟨cS,q1⟩
 ·rw [hr] at q2;cases q2;show g < _;rw [e7];exact bl hc
 ·refine (hg.obj id go ro q1 q2).mono e (fun b hb=>aY b (fun e=>cS ?_)) (fun _ _ _ hi=>hi);subst e;exact hg.inj t id _ _ b hr q2 rfl hb
theorem zp {b:Nat}:∀ {es:List AV} {o:Nat},gj R w b o 1 es→allFit (aP.fits (.int .u8)) es=true→∀ (j:Nat) (e:AV),es[j]?=some e→w.cell? ⟨b,o+j,none⟩=some (.int .u8 e.lz)
 |[],_,_,_,j,x,h=>by simp at h
 |a :: xs,o,.cons _ _ _ hc t,hf,0,x,h=>by
  simp only [allFit,aab] at hf;simp only [List.getElem?_cons_zero] at h;cases h;cases a <;> first | (cases hf.1; done) | skip
  have hk:IntKind.u8=_:=of_decide_eq_true (show Vc _ _=true from hf.1);subst hk;cases hc with
  |cons h1 h2 h3 h4 h5=>
  cases h4;exact h1
 |a :: xs,o,.cons _ _ _ hc t,hf,j+1,x,h=>by
  simp only [allFit,aab] at hf;simp only [List.getElem?_cons_succ] at h;have:=zp t hf.2 j x h;rw [show o+(j+1)=o+1+j by omega];exact this
def su:List AV→Bool
 |[]=>true
 |a :: l=>(match a with
  |.int .u8 n=>decide (0≤n)&&decide (n < 256)
  |_=>false)&&su l
theorem zq:∀ {es:List AV},su es=true→allFit (aP.fits (.int .u8)) es=true∧∀ e∈es,0≤e.lz∧e.lz < 256
 |[],_=>⟨rfl,fun e he=>by simp at he⟩
 |a :: l,h=>by
  simp only [su,aab] at h;obtain ⟨h1,h2⟩:=zq h.2;have ha:=h.1;split at ha
  ·rename_i n;rw [aab] at ha;refine ⟨by simp only [allFit,h1,Bool.and_true]; rfl,fun e he=>?_⟩;rcases aah.1 he with rfl|he
   ·exact ⟨of_decide_eq_true ha.1,of_decide_eq_true ha.2⟩
   ·exact h2 e he
  ·cases ha
def Wr (ty:Nat) (args:List AV) (G:List GO):Option (Bool × AV × List GO):=match args with
 |[.ptr id 0]=>match nth G id with
  |some (.row [_,.list .nil _ _] el)=>some (aaf el ty,.str [],G)
  |some (.row [_,.list (.own t) 1 es] el)=>match nth G t with
   |some (.tok f 1 e)=>some (aaf el ty&&aaf e 5&&!es.isEmpty&&decide (f=es.length)&&su es,.str (fN es),aI G t .dead)
   |_=>none
  |_=>none
 |_=>none
theorem Qd {ρ:Ren} (L:Lays.n169 E.P ρ) (X:Builder.Extra E.P ρ) (h5:ρ.t 5=5) (hE:E.lo=0) (args:List AV) (G:List GO) (r:AV) (G':List GO) (h:Wr (ρ.t 72) args G=some (true,r,G')):cG E (ρ.f 169) args G (fun r' Br=>r'=r∧Br=G'):=by
 refine ⟨⟨_,L.f169,rfl,rfl⟩,fun R w cs hg hl=>callsIn_wide.2 ?_⟩;unfold Wr at h;split at h
 ·rename_i id;cases hl with
  |cons a1 hl=>
  cases hl;cases a1 with
  | @ptr _ _ b hb=>
  split at h
  ·rename_i pv _ es el hid;injection h with h; injection h with h1 h; injection h with h2 h3;have h1:=aac h1;subst h1; subst h2; subst h3;obtain ⟨vs,k1,k2,k3,k4⟩:=hg.obj id _ _ hid hb;cases k2 with
   | @cons _ c1 _ _ q1 k2=>
   cases k2 with
   | @cons _ c2 _ _ q2 k2=>
   cases k2;cases q2 with
   |list _ _ _ hk=>exact hk.elim
   |kC=>
    refine (Any.Builder_String_nil L X w.heap.size b c1 w k1).mono fun e w' ⟨he,hw⟩=>?_
    subst he;exact ⟨.str [],G,R,⟨rfl,rfl⟩,Rel.str _,Below.J3 hw hg hE,Below.Bw hw hg.wf⟩
  ·rename_i pv t es el hid;split at h
   ·rename_i f e ht;injection h with h; injection h with h1 h; injection h with h2 h3;subst h2; subst h3;simp only [aab] at h1;obtain ⟨⟨⟨⟨h1,h4⟩,h6⟩,h7⟩,h8⟩:=h1;have h1:=aac h1;have h4:=aac h4;have h7:=of_decide_eq_true h7;subst h1; subst h4; subst h7;obtain ⟨vs,k1,k2,k3,k4⟩:=hg.obj id _ _ hid hb;cases k2 with
    | @cons _ c1 _ _ q1 k2=>
    cases k2 with
    | @cons _ c2 _ _ q2 k2=>
    cases k2;cases q2 with
    |mN _ _=>simp at h6
    | @list _ _ _ g o len cap hE hlen ib hk=>
    subst hlen;obtain ⟨ro,b9,wS⟩:=hk;have cX:=hg.obj t _ _ ht b9;cases ro with
    |none=>exact cX.elim
    |bU=>exact wS.elim
    |ck _=>exact cX.elim
    |bK _=>exact cX.elim
    |tok f' g' c'=>
     obtain ⟨rfl,cur,iZ,m1,m2,m3,m4⟩:=cX;obtain ⟨rfl,rfl,rfl⟩:=wS.2 rfl;obtain ⟨n1,n2⟩:=zq h8;have Pl:(fN es).length=es.length:=List.length_map _;have cS:es≠[]:=by intro e; rw [e] at h6; simp at h6
     have fR:∀ (j:Nat) (x:UInt8),(fN es)[j]?=some x→w.cell? ⟨g,j,none⟩=some (.int .u8 x.toNat):=by
      intro j x hx;unfold fN at hx;rw [List.getElem?_map] at hx;cases he:es[j]? with
      |none=>rw [he] at hx; cases hx
      |some a=>
       rw [he] at hx;cases hx;have h1:=zp hE n1 j a he;rw [Nat.zero_add] at h1;have h2:=n2 a (List.mem_of_getElem? he);rw [h1];have:(aa7 a.lz.toNat).toNat=a.lz.toNat:=by
        rw [UInt8.toNat_ofNat'];omega
       show some (Value.int .u8 a.lz)=some (Value.int .u8 ((aa7 a.lz.toNat).toNat:Int));rw [this,Int.toNat_of_nonneg h2.1]
     refine (CM L X b g cap c1 cur (fN es) w (by intro e; exact cS (List.eq_nil_of_length_eq_zero (by rw [← Pl,e]; rfl))) (by rw [Pl]; exact k1) (by rw [h5]; exact iZ) (by rw [Pl]; exact ib) m2 (by omega) fR).mono fun e w' ⟨he,hw⟩=>?_
     subst he;subst hw;obtain ⟨r1,r2⟩:=dC.frozen (n:=(fN es).length) hg ht b9 iZ;exact ⟨.str (fN es),_,R,⟨rfl,rfl⟩,Rel.str _,r1,r2⟩
   ·cases h
  ·cases h
 ·cases h
def aaE {ρ:Ren} (L:Lays.n169 E.P ρ) (X:Builder.Extra E.P ρ) (h5:ρ.t 5=5) (hE:E.lo=0:=by rfl):kQ E (ρ.f 169):=⟨Wr (ρ.t 72),Qd L X h5 hE⟩
end
end Go.Am
namespace Go.Am
open Go
theorem fA {x:Int} (h:-9223372036854775808≤x∧x≤9223372036854775807):IntKind.wrap .i64 x=x:=IntWalk.i64_in x (by omega)
def eE (N:Nat):Prop:=18446744073709551616≤N
theorem bE {V X:Type} (rd:V→Option (V ⊕ X)) (n:Nat) (v:V):ay rd (n+1) v=(rd v).bind fun o=>aaZ (fun v'=>ay rd n v') (fun x=>some x) o:=rfl
theorem gO {α:Type} (g:α→AV) (xs:List α) (k:Nat) (h:k < xs.length):ah (xs.map g) k=g xs[k]:=by
 unfold ah;rw [bi,List.getElem?_map,abx h];rfl
def foldI {S α Y:Type} (st:S→α→S ⊕ Y):S→List α→S ⊕ Y
 |s,[]=>.inl s
 |s,a :: l=>aaZ (fun s'=>foldI st s' l) (fun y=>.inr y) (st s a)
theorem fh {V X S α Y:Type} {rd:V→Option (V ⊕ X)} (l:List α) (E:S→Nat→V) (st:S→α→S ⊕ Y) (fin:S→X) (ex:Y→X) (P:S→Nat→Prop)
  (h:∀ s k (hk:k < l.length),P s k→rd (E s k)=some (Sum.map (fun s'=>E s' (k+1)) ex (st s l[k]))∧∀ s',st s l[k]=.inl s'→P s' (k+1))
  (h0:∀ s,P s l.length→rd (E s l.length)=some (.inr (fin s))) :
  ∀ n s k,k≤l.length→l.length < n+k→P s k→ay rd n (E s k)=some (aaZ fin ex (foldI st s (l.drop k)))
 |0,s,k,hk,hn,_=>by omega
 |n+1,s,k,hk,hn,hP=>by
  rw [bE];by_cases cm:k < l.length
  ·obtain ⟨h1,h2⟩:=h s k cm hP;rw [h1,aa8 cm];simp only [abD,foldI];cases hs:st s l[k] with
   |inl s'=>
    simp only [Sum.map_inl,aa3];exact fh l E st fin ex P h h0 n s' (k+1) (by omega) (by omega) (h2 s' hs)
   |inr y=>simp only [Sum.map_inr,Sum.elim_inr]
  ·have:k=l.length:=by omega
   subst this;rw [h0 s hP,abI (aa5 _)];rfl
theorem jI {V X S α:Type} {rd:V→Option (V ⊕ X)} (l:List α) (E:S→Nat→V) (f:S→α→S) (fin:S→X) (P:S→Nat→Prop)
  (h:∀ s k (hk:k < l.length),P s k→rd (E s k)=some (.inl (E (f s l[k]) (k+1)))∧P (f s l[k]) (k+1))
  (h0:∀ s,P s l.length→rd (E s l.length)=some (.inr (fin s))) :
  ∀ n s k,k≤l.length→l.length < n+k→P s k→ay rd n (E s k)=some (fin ((l.drop k).foldl f s))
 |0,s,k,hk,hn,_=>by omega
 |n+1,s,k,hk,hn,hP=>by
  rw [bE];by_cases cm:k < l.length
  ·obtain ⟨h1,h2⟩:=h s k cm hP;rw [h1,aa8 cm];simp only [abD,aa3,List.foldl_cons];exact jI l E f fin P h h0 n _ (k+1) (by omega) (by omega) h2
  ·have:k=l.length:=by omega
   subst this;rw [h0 s hP,abI (aa5 _)];rfl
theorem cE {V X:Type} {rd:V→Option (V ⊕ X)} (m:Nat) (E:Nat→V) (x:X) (h:∀ k,k < m→rd (E k)=some (.inl (E (k+1)))) (h0:rd (E m)=some (.inr x)) :
  ∀ n k,k≤m→m < n+k→ay rd n (E k)=some x
 |0,k,hk,hn=>by omega
 |n+1,k,hk,hn=>by
  rw [bE];by_cases cm:k < m
  ·rw [h k cm];simp only [abD,aa3];exact cE m E x h h0 n (k+1) (by omega) (by omega)
  ·have:k=m:=by omega
   subst this;rw [h0];rfl
theorem aO {k n:Nat} (h:k < n):decide (0≤(k:Int)∧(k:Int) < (n:Int))=true:=by simp; omega
theorem aX {k n:Nat} (h:k < n):decide ((k:Int) < (n:Int))=true:=by simpa using h
theorem bL (n:Nat):decide ((n:Int) < (n:Int))=false:=by simp
theorem bp {k:Nat} (h:k < 9223372036854775807):IntKind.wrap .i64 ((k:Int)+1)=((k+1:Nat):Int):=by rw [fA (by omega)]; simp
def ov (n lo hi:Int):Int:=if n < lo∨n > hi then 3 else 0
def aZ:List Int→Int
 |[]=>0
 |x :: l=>if x=0 then aZ l else x
theorem gq {l:List Int}:aZ l=0↔∀ x∈l,x=0:=by
 induction l with
 |nil=>simp [aZ]
 |cons x l ih=>
  simp only [aZ,aah,forall_eq_or_imp];by_cases h:x=0
  ·simp [h,ih]
  ·simp [h]
theorem ow {rd:Int→Option (Int ⊕ (Int ⊕ Unit))} (l:List Int)
  (h:∀ k (hk:k < l.length),rd (k:Int)=some (if l[k]=0 then .inl ((k+1:Nat):Int) else .inr (.inl l[k]))) (h0:rd (l.length:Int)=some (.inr (.inr ()))) (n:Nat) (hn:l.length < n) :
  ∃ o,ay rd n 0=some o∧aaZ (fun x=>x) (fun _=>0) o=aZ l:=by
 have key:=fh (rd:=rd) (S:=Unit) (Y:=Int) l (fun _ k=>(k:Int)) (fun _ x=>if x=0 then .inl () else .inr x) (fun _=>.inr ()) (fun x=>.inl x) (fun _ _=>True)
  (fun s k hk _=>⟨by rw [h k hk]; by_cases e:l[k]=0 <;> simp [e],fun _ _=>trivial⟩) (fun _ _=>h0) n () 0 (aa0 _) (by omega) trivial
 refine ⟨_,key,?_⟩;rw [aa4];clear key h h0 hn
 induction l with
 |nil=>rfl
 |cons x l ih=>
  simp only [foldI,aZ];by_cases e:x=0
  ·simp only [e,if_true,aa3]; exact ih
  ·simp [e]
theorem jJ {rd:Int→Option (Int ⊕ (Int ⊕ Unit))} (l:List Int)
  (h:∀ k (hk:k < l.length),rd (k:Int)=some (if l[k]=0 then .inl ((k+1:Nat):Int) else .inr (.inl l[k]))) (h0:rd (l.length:Int)=some (.inr (.inr ()))) (n:Nat) (hn:l.length < n) :
  ay rd n 0=some (if aZ l=0 then .inr () else .inl (aZ l)):=by
 have key:=fh (rd:=rd) (S:=Unit) (Y:=Int) l (fun _ k=>(k:Int)) (fun _ x=>if x=0 then .inl () else .inr x) (fun _=>.inr ()) (fun x=>.inl x) (fun _ _=>True)
  (fun s k hk _=>⟨by rw [h k hk]; by_cases e:l[k]=0 <;> simp [e],fun _ _=>trivial⟩) (fun _ _=>h0) n () 0 (aa0 _) (by omega) trivial
 rw [aa4] at key;refine key.trans (congrArg some ?_);clear key h h0 hn
 induction l with
 |nil=>rfl
 |cons x l ih=>
  simp only [foldI,aZ];by_cases e:x=0
  ·simp only [e,if_true,aa3]; exact ih
  ·simp [e]
theorem Ix (s:List UInt8) (k:Nat) (hk:k < s.length):((s[k].toNat < 128)→bz s k=(s[k].toNat,1))∧(128≤s[k].toNat→128≤(bz s k).1):=by
 have e1:s.getD k 0=s[k]:=by simp [hk]
 constructor
 ·intro h;have:Nat.blt s[k].toNat 128=true:=Nat.ble_eq_true_of_le h;unfold bz;rw [e1,this];rfl
 ·intro h;have:Nat.blt s[k].toNat 128=false:=by
   cases hb:Nat.blt s[k].toNat 128 with
   |false=>rfl
   |true=>have:=aa2 hb; omega
  unfold bz;rw [e1,this];simp only [cond_false];have e2:((⟨⟨s⟩⟩:ByteArray).get! (k+0)).toNat=s[k].toNat:=by
   simp [ByteArray.get!,hk]
  unfold Utf8.decode;simp only [e2,if_neg (by omega:¬ s[k].toNat < 128)];have hr:(128:Nat)≤Utf8.runeError:=by decide
  repeat' split
  all_goals first | exact hr | skip
  all_goals simp_all
  all_goals omega
end Go.Am
