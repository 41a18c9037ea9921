/- The abstract machine: the evaluator is sound. -/
import Derived.Test.YtldcljfjjoidhaaGreatDoorAmKJ
import GoSem.ClaimJoined
import Derived.Below
import Derived.ChangeSame
import Derived.Carry
import Derived.RowKit
import Derived.FnData
import Derived.Lib.Builder
import Derived.Lib.UnsafeStr
import Derived.Shelf.Strings.Builder1
import Derived.IntWalk
set_option linter.all false
open Array renaming getElem?_modify→abF, getElem_modify→abG
open Bool renaming and_eq_true→aad
open Go.DataW renaming trod→aaB, TrodAll→abt
open Go.Field renaming offset→abH
open Go.Value renaming oneCell'→abn, okWide→abo
open Go.World renaming cell?→abx, freeze→abB
open List renaming getElem?_range→aaY, mem_cons→abi, range→abj, drop_zero→abv, drop_eq_getElem_cons→abz, getElem?_eq_getElem→abA, drop_eq_nil_of_le→abD
open Nat renaming eq_of_beq_eq_true→aao, beq→aaO, lt_succ_self→abp, zero_le→abr, le_refl→abw, le_of_ble_eq_true→abE
open Option renaming bind_some→abC
open Option.some renaming inj→aau
open Sum renaming elim→abq, elim_inl→abu
open UInt8 renaming ofNat→aby
namespace Go.Am
open Go
section
variable {C:fU} {ih:EvT}
def vM (C:fU) (ih:EvT):Prop:=∀ (f:FuncId) (p:Nat) (c:Code) (X:Type) (gv:Option X→Option X→Option X),xl gv→∀ (K:Exit→St→Option X) (s:St) (x:X),
 bL (C.D.dt f) c=true→ih f p c X gv K s=some x→nP C.D.toEnv c (fun e s'=>K e s'=some x) s
theorem te {X:Type}:xl (ET (X:=X)):=fun a b x h=>by
 unfold ET at h;by_cases e:a=b
 ·rw [if_pos e] at h;exact ⟨h,e ▸ h⟩
 ·rw [if_neg e] at h;cases h
theorem qY (hs:vM C ih) {X:Type} {gv:Option X→Option X→Option X} (hm:xl gv):pG C.D.toEnv (FX C ih gv):=fun g args G K x h=>by
 unfold FX at h;obtain ⟨dS,h⟩:=bt h;split at h
 ·rename_i fn hfn;split at h
  ·rename_i b hb;obtain ⟨hn,h⟩:=bt h;have fin:∀ {K':AV→List GO→Option X},ih g 1 b X gv (NQ C.D.toEnv fn K') (St.init fn.ntmps args G)=some x→cO C.D.toEnv g args G (fun r G'=>K' r G'=some x):=by
    intro K' h;refine cO.intro hfn hb (by simpa using hn) ((hs g 1 b X gv hm _ _ x (C.D.WT g fn b dS hfn hb) h).mono fun e s' hq=>?_);have hq:=hq.1;unfold NQ at hq;unfold WN;cases e <;> first | (cases hq; done) | skip
    all_goals (simp only at hq ⊢)
    all_goals (split at hq <;> first | (cases hq; done) | skip)
    all_goals (rename_i hl; rw [hl]; simp only)
    all_goals (split at hq <;> first | (cases hq; done) | skip)
    all_goals (rename_i s7; rw [s7]; exact hq)
   cases hfz:C.D.Dt g 131072 with
   |true=>rw [hfz] at h; exact cO.frz (fin h)
   |false=>rw [hfz] at h; exact fin h
  ·cases h
 ·cases h
theorem F0 (Ei:∀ g e,C.Bx g=some e→aj C.D.toEnv g e) (hs:vM C ih) {X:Type} {gv:Option X→Option X→Option X} (hm:xl gv):pG C.D.toEnv (FY C ih gv):=fun g args G K x h=>by
 unfold FY at h;split at h
 ·rename_i e he;obtain ⟨a,ha,h⟩:=bind_some h;obtain ⟨y,hy,h⟩:=bind_some h;refine cO.jc (e.ps.sT ha).1 (((Ei g e he a y hy) G).mono fun r G' hr=>?_);obtain ⟨rfl,rfl⟩:=hr;exact h
 ·split at h
  ·rename_i e he;split at h
   ·rename_i c r G' hf;obtain ⟨hc,h⟩:=bt h;subst hc;refine (e.ok args G r G' hf).mono fun r' CO hh=>?_
    obtain ⟨rfl,rfl⟩:=hh;exact h
   ·cases h
  ·split at h
   ·rename_i e he;obtain ⟨a,ha,h⟩:=bind_some h;obtain ⟨y,hy,h⟩:=bind_some h;refine cO.jc (e.ps.sT ha).1 ((e.ok a y hy G).mono fun r G' hr=>?_);obtain ⟨z,rfl,hr⟩:=hr;exact (FW e.outs z hr).trans h
   ·exact qY hs hm g args G K x h
theorem F1 {n:Nat}:∀ {l:List Tmp},Sw n l=true→∀ t∈l,t < n
 |[],_,t,ht=>by simp at ht
 |a :: l,h,t,ht=>by
  simp only [Sw,aad] at h;rcases abi.1 ht with rfl|ht
  ·exact lm h.1
  ·exact F1 h.2 t ht
theorem II (hs:vM C ih) {X:Type} {gv:Option X→Option X→Option X} (hm:xl gv):xm C.D.toEnv (Sx C ih gv):=fun id args G K x h=>by
 unfold Sx at h;split at h
 ·rename_i p fp sl n ps uk bd d hG;obtain ⟨hc,h⟩:=bt h;simp only [aad] at hc;obtain ⟨⟨⟨h1,h2⟩,h3⟩,h4⟩:=hc;refine mh.intro hG (aao h1) (F1 h2) ((hs _ _ uk X gv hm _ _ x h3 h).mono fun e s1 hq=>?_);have hq:=hq.1;unfold D6;cases e with
  |normal=>
   simp only at hq ⊢;split at hq
   ·rename_i p' fn sl' n' ps' Sp bd' d' hG1;rw [hG1];simp only;refine (hs _ _ bd X gv hm _ _ x h4 hq).mono fun e2 s2 qq=>?_
    have qq:IE id K e2 s2=some x:=qq.1;unfold IE at qq;unfold Iy;split at qq
    ·rename_i hG2;rw [hG2];cases e2 <;> first | (cases qq; done) | exact qq
    ·cases qq
   ·cases hq
  |_=>cases hq
 ·cases h
theorem nP.of {E:Env} {c:Code} {Q Q':Exit→St→Prop} {s:St} (h:nP E c Q s) (hq:∀ e s',Q e s'→aZ s s'→Q' e s'):hU E c Q' s:=
 hU.mono h fun e s' hh=>hq e s' hh.1 hh.2
theorem uE {s s':St} {e:Exit}:∀ {outs:List (XK × da)} {o:JT outs},mR s outs e s'=some o→∃ (t:da) (v:t.ps.T),t.dec s s'=some v∧∀ (α:Type) (K:Exit→St→α),Rv s outs o K=K e (t.st s v)
 |[],o,h=>by cases h
 |[x],o,h=>by
  obtain ⟨h1,h2⟩:=bt (show (bif x.1.is e then x.2.dec s s' else none)=some o from h);exact ⟨x.2,o,h2,fun _ K=>by rw [XK.JP h1]; rfl⟩
 |x :: y :: l,o,h=>by
  have h:(bif x.1.is e then (x.2.dec s s').bind fun v=>some (.inl v) else (mR s (y :: l) e s').bind fun o=>some (.inr o))=some o:=h;cases hx:x.1.is e with
  |true=>
   rw [hx] at h;obtain ⟨v,h1,h2⟩:=bind_some h;cases h2;exact ⟨x.2,v,h1,fun _ K=>by rw [XK.JP hx]; rfl⟩
  |false=>
   rw [hx] at h;obtain ⟨v,h1,h2⟩:=bind_some h;cases h2;obtain ⟨t,u,k1,k2⟩:=uE h1;exact ⟨t,u,k1,fun α K=>k2 α K⟩
theorem da.tf (t:da) (s:St) (v:t.ps.T):aZ s (t.st s v):=by
 have h1:∀ (W:List Tmp) (b:bk),∃ pre,Ab W b=pre++b:=fun W b=>by
  induction W with
  |nil=>exact ⟨[],rfl⟩
  |cons t W ih=>obtain ⟨p,hp⟩:=ih; exact ⟨.put t .none :: p,by simp [Ab,hp]⟩
 have h2:∀ (ts:List Tmp) (l:List AV) (b:bk),∃ pre,qP ts l b=pre++b:=fun ts=>by
  induction ts with
  |nil=>intro l b; exact ⟨[],by cases l <;> rfl⟩
  |cons t ts ih=>
   intro l b;cases l with
   |nil=>exact ⟨[],rfl⟩
   |cons a l=>obtain ⟨p,hp⟩:=ih l b; exact ⟨.put t (.v a) :: p,by simp [qP,hp]⟩
 have h3:∀ (bx:List (Nat × Nat)) (l:List AV) (b:dc),∃ pre,xg bx l b=pre++b:=fun bx=>by
  induction bx with
  |nil=>intro l b; exact ⟨[],rfl⟩
  |cons x bx ih=>
   obtain ⟨k,n⟩:=x;intro l b;obtain ⟨p,hp⟩:=ih (l.drop n) b;exact ⟨(k,l.take n) :: p,by simp [xg,hp]⟩
 have h4:∀ (l:List (Tmp × Nat × Nat)) (b:bk),∃ pre,qQ l b=pre++b:=fun l b=>by
  induction l with
  |nil=>exact ⟨[],rfl⟩
  |cons x l ih=>obtain ⟨t,k,o⟩:=x; obtain ⟨p,hp⟩:=ih; exact ⟨.put t (.lp k o) :: p,by simp [qQ,hp]⟩
 obtain ⟨p1,e1⟩:=h1 t.W s.ab;obtain ⟨p2,e2⟩:=h2 t.sl (t.ss v) (Ab t.W s.ab);obtain ⟨p3,e3⟩:=h3 t.bx ((t.ss v).drop t.sl.length) s.boxes;obtain ⟨p4,e4⟩:=h4 t.lps (p2++(p1++s.ab));exact ⟨⟨p4++(p2++p1),by rw [show (t.st s v).ab=qQ t.lps (qP t.sl (t.ss v) (Ab t.W s.ab)) from rfl,e2,e1,e4,List.append_assoc,List.append_assoc]⟩,⟨p3,e3⟩,rfl⟩
theorem hU.adl {E:Env} {c:Code} {s s1:St} {gh:List (Loc × Nat × TypeId)} {head:da} {outs:List (XK × da)} {rd:head.ps.T→Option (head.ps.T ⊕ JT outs)} {N:Nat} {v0:head.ps.T} {o:JT outs} {Q:Exit→St→Prop}
  (hg:Am.ji gh s=some s1) (h0:head.dec s1 s1=some v0) (hr:∀ v r,rd v=some r→nP E c (fun e s'=>xj s1 head outs e s'=some r) (head.st s1 v))
  (hl:az rd N v0=some o) (hQ:∀ (t:da) (v:t.ps.T) (e:Exit),(∀ (α:Type) (K:Exit→St→α),Rv s1 outs o K=K e (t.st s1 v))→Q e (t.st s1 v)∧aZ s (t.st s1 v)) :
  nP E (.loop c) Q s:=fun R0 w β a F hr0 Rq=>by
 obtain ⟨R,k1,k2,k3,_⟩:=mg hr0 hg;have hf:bZ R s1.ro F:=by rw [k3]; exact Rq.mono k2.ext
 obtain ⟨i1,i2⟩:=da.CF (aZ.refl s1) k1 k1 (Step.refl R w β s1.boxes) h0;refine po (fun m a' w'=>∃ v R' β',az rd m v=some o∧bq E R' w' β' (head.st s1 v) a'∧Step R w β s1.boxes R' w' β' (head.st s1 v).boxes) ?_ ⟨v0,_,β,hl,i1,i2⟩;rintro m a' w' ⟨v,R',β',hm,nF,mP⟩;cases m with
 |zero=>cases hm
 |succ m=>
  obtain ⟨r,h1,h2⟩:=bind_some (show ((rd v).bind fun o=>abq (fun v'=>az rd m v') (fun x=>some x) o)=some o from hm);refine wpIn_mono (hr v r h1 R' w' β' a' F nF (hf.mono mP.ext)) ?_;rintro e a2 w2 ⟨s2,R2,β2,⟨hK,hx⟩,Fo,NW,Ly⟩;have IJ:aZ s1 s2:=(head.tf s1 v).trans hx;have st2:=mP.trans NW;have out:∀ {u:JT outs},mR s1 outs e s2=some u→r=.inr u→Res E R0 w β s (fun e s'=>Q e s'∧aZ s s') e a2 w2:=fun {u} hu hru=>by
   subst hru;cases h2;obtain ⟨t,v',q1,q2⟩:=uE hu;obtain ⟨j1,j2⟩:=da.CF IJ k1 Fo st2 q1;exact ⟨t.st s1 v',_,β2,hQ t v' e q2,j1,k2.trans j2,k3⟩
  cases e with
  |normal=>
   obtain ⟨v',q1,q2⟩:=bind_some (show ((head.dec s1 s2).bind fun v=>some (.inl v))=some r from hK);cases q2;obtain ⟨j1,j2⟩:=da.CF IJ k1 Fo st2 q1;exact ⟨m,abp m,v',_,β2,h2,j1,j2⟩
  |exit i=>obtain ⟨u,q1,q2⟩:=bind_some (show ((mR s1 outs (.exit i) s2).bind fun o=>some (.inr o))=some r from hK); exact out q1 (aau q2).symm
  |ret=>obtain ⟨u,q1,q2⟩:=bind_some (show ((mR s1 outs .ret s2).bind fun o=>some (.inr o))=some r from hK); exact out q1 (aau q2).symm
  |goto i=>obtain ⟨u,q1,q2⟩:=bind_some (show ((mR s1 outs (.goto i) s2).bind fun o=>some (.inr o))=some r from hK); exact out q1 (aau q2).symm
  |panic i=>obtain ⟨u,q1,q2⟩:=bind_some (show ((mR s1 outs (.panic i) s2).bind fun o=>some (.inr o))=some r from hK); exact out q1 (aau q2).symm
  |outgrown=>obtain ⟨u,q1,q2⟩:=bind_some (show ((mR s1 outs .outgrown s2).bind fun o=>some (.inr o))=some r from hK); exact out q1 (aau q2).symm
theorem hU.YL {E:Env} {c:Code} {s s1:St} {gh:List (Loc × Nat × TypeId)} {head:da} {outs:List (XK × da)} {rd:(head.ps.T→Option (JT outs))→head.ps.T→Option (JT outs)} {N:Nat} {v0:head.ps.T} {o:JT outs} {Q:Exit→St→Prop}
  (hg:Am.ji gh s=some s1) (h0:head.dec s1 s1=some v0) (hr:∀ k v u,rd k v=some u→nP E c (fun e s'=>NS s1 head outs k e s'=some u) (head.st s1 v))
  (hl:oA rd N v0=some o) (hQ:∀ (t:da) (v:t.ps.T) (e:Exit),(∀ (α:Type) (K:Exit→St→α),Rv s1 outs o K=K e (t.st s1 v))→Q e (t.st s1 v)∧aZ s (t.st s1 v)) :
  nP E (.loop c) Q s:=fun R0 w β a F hr0 Rq=>by
 obtain ⟨R,k1,k2,k3,_⟩:=mg hr0 hg;have hf:bZ R s1.ro F:=by rw [k3]; exact Rq.mono k2.ext
 obtain ⟨i1,i2⟩:=da.CF (aZ.refl s1) k1 k1 (Step.refl R w β s1.boxes) h0;refine po (fun m a' w'=>∃ v R' β',oA rd m v=some o∧bq E R' w' β' (head.st s1 v) a'∧Step R w β s1.boxes R' w' β' (head.st s1 v).boxes) ?_ ⟨v0,_,β,hl,i1,i2⟩;rintro m a' w' ⟨v,R',β',hm,nF,mP⟩;cases m with
 |zero=>cases hm
 |succ m=>
  refine wpIn_mono (hr (oA rd m) v o hm R' w' β' a' F nF (hf.mono mP.ext)) ?_;rintro e a2 w2 ⟨s2,R2,β2,⟨hK,hx⟩,Fo,NW,Ly⟩;have IJ:aZ s1 s2:=(head.tf s1 v).trans hx;have st2:=mP.trans NW;have out:mR s1 outs e s2=some o→Res E R0 w β s (fun e s'=>Q e s'∧aZ s s') e a2 w2:=fun hu=>by
   obtain ⟨t,v',q1,q2⟩:=uE hu;obtain ⟨j1,j2⟩:=da.CF IJ k1 Fo st2 q1;exact ⟨t.st s1 v',_,β2,hQ t v' e q2,j1,k2.trans j2,k3⟩
  cases e with
  |normal=>
   obtain ⟨v',q1,q2⟩:=bind_some (show (head.dec s1 s2).bind (oA rd m)=some o from hK);obtain ⟨j1,j2⟩:=da.CF IJ k1 Fo st2 q1;exact ⟨m,abp m,v',_,β2,q2,j1,j2⟩
  |exit i=>exact out hK
  |ret=>exact out hK
  |goto i=>exact out hK
  |panic i=>exact out hK
  |outgrown=>exact out hK
end
def sL (E:Env):List Bool→Code→(Exit→St→Prop)→St→Prop
 |[],_,Q,s=>Q .normal s
 |true :: k,.seq x y,Q,s=>nP E x (wV (sL E k y Q) Q) s
 |false :: k,.seq x _,Q,s=>sL E k x Q s
 |_ :: _,_,_,_=>False
def mw (E:Env):List Bool→Code→(Exit→St→Prop)→St→Prop
 |[],c,Q,s=>nP E c Q s
 |true :: k,.seq _ y,Q,s=>mw E k y Q s
 |false :: k,.seq x y,Q,s=>mw E k x (wV (nP E y Q) Q) s
 |_ :: _,_,_,_=>False
def JY (F:Fence) (P:Program):List Bool→Code→(Exit→Act→World→Prop)→Act→World→Prop
 |[],c,Q,a,w=>c.wpIn F 0 P Q a w
 |true :: k,.seq _ y,Q,a,w=>JY F P k y Q a w
 |false :: k,.seq x y,Q,a,w=>JY F P k x (Exit.then (fun a' w'=>y.wpIn F 0 P Q a' w') Q) a w
 |_ :: _,_,_,_,_=>False
section rot
variable {E:Env} {s1:St} {R:ak} {w:World} {β:Nat→Nat} {F:Fence}
def At (E:Env) (s1:St) (R:ak) (w:World) (β:Nat→Nat) (s:St) (a:Act) (w':World):Prop:=
 ∃ R' β',aZ s1 s∧bq E R' w' β' s a∧Step R w β s1.boxes R' w' β' s.boxes∧s.ro=s1.ro
theorem nP.at {c:Code} {Q:Exit→St→Prop} {s:St} {a:Act} {w':World} {Φ:Exit→Act→World→Prop} (hf:bZ R s1.ro F) (h:nP E c Q s) (p0:At E s1 R w β s a w') (hQ:∀ e s' a' w',Q e s'→At E s1 R w β s' a' w'→Φ e a' w'):c.wpIn F 0 E.P Φ a w':=by
 obtain ⟨R',β',hx,hr,mP,ca⟩:=p0;refine wpIn_mono (h R' w' β' a F hr (by rw [ca]; exact hf.mono mP.ext)) ?_;rintro e a2 w2 ⟨s2,R2,β2,⟨hq,IJ⟩,Fo,NW,Ly⟩;exact hQ e s2 a2 w2 hq ⟨R2,β2,hx.trans IJ,Fo,mP.trans NW,Ly.trans ca⟩
theorem mw.at (hf:bZ R s1.ro F):∀ (k:List Bool) (c:Code) {Q:Exit→St→Prop} {s:St} {a:Act} {w':World} {Φ:Exit→Act→World→Prop},mw E k c Q s→At E s1 R w β s a w'→(∀ e s' a' w',Q e s'→At E s1 R w β s' a' w'→Φ e a' w')→JY F E.P k c Φ a w'
 |[],c,Q,s,a,w',Φ,h,p0,hQ=>nP.at hf h p0 hQ
 |true :: k,c,Q,s,a,w',Φ,h,p0,hQ=>by
  cases c with
  |seq x y=>exact mw.at hf k y h p0 hQ
  |_=>exact h.elim
 |false :: k,c,Q,s,a,w',Φ,h,p0,hQ=>by
  cases c with
  |seq x y=>
   refine mw.at hf k x (Q:=wV (nP E y Q) Q) h p0 fun e s' a' w' hq tg=>?_
   cases e with
   |normal=>exact nP.at hf hq tg hQ
   |_=>exact hQ _ s' a' w' hq tg
  |_=>exact h.elim
theorem sL.at (hf:bZ R s1.ro F):∀ (k:List Bool) (c:Code) {Q:Exit→St→Prop} {s:St} {a:Act} {w':World} {Φ:Exit→Act→World→Prop},sL E k c Q s→At E s1 R w β s a w' →
  (∀ s' a' w',Q .normal s'→At E s1 R w β s' a' w'→JY F E.P k c Φ a' w')→(∀ e s' a' w',e≠.normal→Q e s'→At E s1 R w β s' a' w'→Φ e a' w')→c.wpIn F 0 E.P Φ a w'
 |[],c,Q,s,a,w',Φ,h,p0,hS,hQ=>hS s a w' h p0
 |true :: k,c,Q,s,a,w',Φ,h,p0,hS,hQ=>by
  cases c with
  |seq x y=>
   refine wpIn_seq (nP.at hf (show nP E x (wV (sL E k y Q) Q) s from h) p0 fun e s' a' w' hq tg=>?_);cases e with
   |normal=>exact sL.at hf k y hq tg hS hQ
   |exit i=>exact hQ _ s' a' w' (by simp) hq tg
   |ret=>exact hQ _ s' a' w' (by simp) hq tg
   |goto i=>exact hQ _ s' a' w' (by simp) hq tg
   |panic i=>exact hQ _ s' a' w' (by simp) hq tg
   |outgrown=>exact hQ _ s' a' w' (by simp) hq tg
  |_=>exact h.elim
 |false :: k,c,Q,s,a,w',Φ,h,p0,hS,hQ=>by
  cases c with
  |seq x y=>
   refine wpIn_seq (sL.at hf k x (Q:=Q) h p0 hS fun e s' a' w' cK hq tg=>?_);cases e with
   |normal=>exact absurd rfl cK
   |exit i=>exact hQ _ s' a' w' cK hq tg
   |ret=>exact hQ _ s' a' w' cK hq tg
   |goto i=>exact hQ _ s' a' w' cK hq tg
   |panic i=>exact hQ _ s' a' w' cK hq tg
   |outgrown=>exact hQ _ s' a' w' cK hq tg
  |_=>exact h.elim
end rot
theorem hU.Sz {E:Env} {b:Code} {s s1:St} {gh:List (Loc × Nat × TypeId)} {head:da} {outs:List (XK × da)} {pre:St→Option (head.ps.T ⊕ JT outs)} {rd:head.ps.T→Option (head.ps.T ⊕ JT outs)} {N:Nat} {k:List Bool} {r0:head.ps.T ⊕ JT outs} {o:JT outs} {Q:Exit→St→Prop}
  (hg:Am.ji gh s=some s1) (h0:pre s1=some r0)
  (hp:∀ s2 r,pre s2=some r→sL E k b (fun e s'=>xj s1 head outs e s'=some r) s2)
  (hr:∀ v r,rd v=some r→mw E k b (fun e s'=>CQ pre (xj s1 head outs) e s'=some r) (head.st s1 v))
  (hl:abq (fun v=>az rd N v) (fun x=>some x) r0=some o) (hQ:∀ (t:da) (v:t.ps.T) (e:Exit),(∀ (α:Type) (K:Exit→St→α),Rv s1 outs o K=K e (t.st s1 v))→Q e (t.st s1 v)∧aZ s (t.st s1 v)) :
  nP E (.loop b) Q s:=fun R0 w β a F hr0 Rq=>by
 obtain ⟨R,k1,k2,k3,_⟩:=mg hr0 hg;have hf:bZ R s1.ro F:=by rw [k3]; exact Rq.mono k2.ext
 refine po (fun n a' w'=>∃ s2 r,pre s2=some r∧abq (fun v=>az rd n v) (fun x=>some x) r=some o∧At E s1 R w β s2 a' w') ?_ ⟨s1,r0,h0,hl,R,β,aZ.refl s1,k1,Step.refl _ _ _ _,rfl⟩;rintro n a' w' ⟨s2,r,WS,hlr,p0⟩
 -- a way out
 have out:∀ {e:Exit} {s3:St} {a3:Act} {w3:World} {r:head.ps.T ⊕ JT outs} {n:Nat},e≠.normal→xj s1 head outs e s3=some r→abq (fun v=>az rd n v) (fun x=>some x) r=some o→At E s1 R w β s3 a3 w3→Res E R0 w β s (fun e s'=>Q e s'∧aZ s s') e a3 w3:=fun {e s3 a3 w3 r n} cK hK hlr p0=>by
  obtain ⟨R3,β3,hx3,hr3,YM,ahd⟩:=p0;have key:∀ {u:JT outs},mR s1 outs e s3=some u→r=.inr u→Res E R0 w β s (fun e s'=>Q e s'∧aZ s s') e a3 w3:=fun {u} hu hru=>by
   subst hru;obtain rfl:=aau hlr;obtain ⟨t,v',q1,q2⟩:=uE hu;obtain ⟨j1,j2⟩:=da.CF hx3 k1 hr3 YM q1;exact ⟨t.st s1 v',_,_,hQ t v' _ q2,j1,k2.trans j2,k3⟩
  cases e with
  |normal=>exact absurd rfl cK
  |exit i=>obtain ⟨u,q1,q2⟩:=bind_some (show ((mR s1 outs (.exit i) s3).bind fun o=>some (.inr o))=some r from hK); exact key q1 (aau q2).symm
  |ret=>obtain ⟨u,q1,q2⟩:=bind_some (show ((mR s1 outs .ret s3).bind fun o=>some (.inr o))=some r from hK); exact key q1 (aau q2).symm
  |goto i=>obtain ⟨u,q1,q2⟩:=bind_some (show ((mR s1 outs (.goto i) s3).bind fun o=>some (.inr o))=some r from hK); exact key q1 (aau q2).symm
  |panic i=>obtain ⟨u,q1,q2⟩:=bind_some (show ((mR s1 outs (.panic i) s3).bind fun o=>some (.inr o))=some r from hK); exact key q1 (aau q2).symm
  |outgrown=>obtain ⟨u,q1,q2⟩:=bind_some (show ((mR s1 outs .outgrown s3).bind fun o=>some (.inr o))=some r from hK); exact key q1 (aau q2).symm
 refine sL.at hf k b (hp s2 r WS) p0 (fun s3 a3 w3 hK YN=>?_) (fun e s3 a3 w3 cK hK YN=>?_)
 ·obtain ⟨v,q1,q2⟩:=bind_some (show ((head.dec s1 s3).bind fun v=>some (.inl v))=some r from hK);obtain rfl:=aau q2;have ER:az rd n v=some o:=hlr;cases n with
  |zero=>cases ER
  |succ n=>
   obtain ⟨r',h1,h2⟩:=bind_some (show ((rd v).bind fun o=>abq (fun v'=>az rd n v') (fun x=>some x) o)=some o from ER);obtain ⟨R3,β3,hx3,hr3,YM,ahd⟩:=YN;obtain ⟨j1,j2⟩:=da.CF hx3 k1 hr3 YM q1;refine mw.at hf k b (hr v r' h1) ⟨_,_,head.tf s1 v,j1,j2,rfl⟩ fun e s4 a4 w4 hK4 LG=>?_
   cases e with
   |normal=>exact ⟨n,abp n,s4,r',hK4,h2,LG⟩
   |exit i=>exact out (by simp) hK4 h2 LG
   |ret=>exact out (by simp) hK4 h2 LG
   |goto i=>exact out (by simp) hK4 h2 LG
   |panic i=>exact out (by simp) hK4 h2 LG
   |outgrown=>exact out (by simp) hK4 h2 LG
 ·have:=out cK hK hlr YN;cases e with
  |normal=>exact absurd rfl cK
  |_=>exact this
theorem th {C:fU} {ih:EvT} (hs:vM C ih) {X:Type} {f:FuncId} {K:Exit→St→Option X}:∀ (k:List Bool) (q:Nat) (c:Code) (s:St) (x:X),bL (C.D.dt f) c=true→NU ih ET f K k q c s=some x→sL C.D.toEnv k c (fun e s'=>K e s'=some x) s
 |[],_,_,_,_,_,h=>h
 |true :: k,q,c,s,x,hd,h=>by
  cases c with
  |seq a b=>
   rw [bL,aad] at hd;refine (hs f _ a X ET te _ s x hd.1 h).of fun e s' hq hx=>?_
   cases e with
   |normal=>exact ⟨th hs k (2 * q+1) b s' x hd.2 hq,hx⟩
   |_=>exact ⟨hq,hx⟩
  |_=>cases h
 |false :: k,q,c,s,x,hd,h=>by
  cases c with
  |seq a b=>
   rw [bL,aad] at hd;exact th hs k (2 * q) a s x hd.1 h
  |_=>cases h
theorem mw.mono {E:Env}:∀ (k:List Bool) (c:Code) {Q Q':Exit→St→Prop} {s:St},(∀ e s',Q e s'→Q' e s')→mw E k c Q s→mw E k c Q' s
 |[],c,Q,Q',s,hQ,h=>hU.mono h fun e s' hh=>⟨hQ e s' hh.1,hh.2⟩
 |true :: k,c,Q,Q',s,hQ,h=>by
  cases c with
  |seq x y=>exact mw.mono k y hQ h
  |_=>exact h.elim
 |false :: k,c,Q,Q',s,hQ,h=>by
  cases c with
  |seq x y=>
   refine mw.mono k x (Q:=wV (nP E y Q) Q) (Q':=wV (nP E y Q') Q') (fun e s' hq=>?_) h;cases e with
   |normal=>exact hU.mono hq fun e s' hh=>⟨hQ e s' hh.1,hh.2⟩
   |_=>exact hQ _ s' hq
  |_=>exact h.elim
theorem tj {C:fU} {ih:EvT} (hs:vM C ih) {X:Type} {f:FuncId}:∀ (k:List Bool) (q:Nat) (c:Code) (K:Exit→St→Option X) (s:St) (x:X),bL (C.D.dt f) c=true→Sy ih ET f k q c K s=some x→mw C.D.toEnv k c (fun e s'=>K e s'=some x) s
 |[],_,c,K,s,x,hd,h=>hs f _ c X ET te K s x hd h
 |true :: k,q,c,K,s,x,hd,h=>by
  cases c with
  |seq a b=>
   rw [bL,aad] at hd;exact tj hs k (2 * q+1) b K s x hd.2 h
  |_=>cases h
 |false :: k,q,c,K,s,x,hd,h=>by
  cases c with
  |seq a b=>
   rw [bL,aad] at hd;refine mw.mono k a (fun e s' hq=>?_) (tj hs k (2 * q) a _ s x hd.1 h);cases e with
   |normal=>exact hs f _ b X ET te K s' x hd.2 hq
   |_=>exact hq
  |_=>cases h
theorem F2 {C:fU} (Ei:∀ g e,C.Bx g=some e→aj C.D.toEnv g e) (n:Nat):vM C (ev C n):=by
 induction n using Nat.strongRecOn with
 |_ n ihn=>
 cases n with
 |zero=>intro f p c X gv _ K s x _ h; cases h
 |succ n=>
  have hs:=ihn n (abp n);have plain:∀ (f:FuncId) (p:Nat) (c:Code) (X:Type) (gv:Option X→Option X→Option X),xl gv→∀ (K:Exit→St→Option X) (s:St) (x:X),((∃ b,c=.loop b)→C.qU f p=none) →
    bL (C.D.dt f) c=true→As C (ev C n) f p c X gv K s=some x→nP C.D.toEnv c (fun e s'=>K e s'=some x) s:=by
   intro f p c X gv hm K s x jN hd h;have NX:=F0 Ei hs hm;have adn:=II hs hm;unfold As at h;cases c with
   |skip=>exact hU.skip ⟨h,aZ.refl s⟩
   |label l=>exact hU.label ⟨h,aZ.refl s⟩
   |exit id=>exact hU.exit ⟨h,aZ.refl s⟩
   |ret=>exact hU.ret ⟨h,aZ.refl s⟩
   |seq a b=>
    rw [bL,aad] at hd;refine hU.seq ((hs f _ a X gv hm _ s x hd.1 h).of fun e s' hq hx=>?_);cases e with
    |normal=>exact (hs f _ b X gv hm _ s' x hd.2 hq).of fun e s2 qq IJ=>⟨qq,hx.trans IJ⟩
    |_=>exact ⟨hq,hx⟩
   |cond co a b=>
    rw [bL,aad] at hd;simp only at h;split at h
    ·rename_i t hb;refine hU.cond hb (fun e=>?_) (fun e=>?_)
     ·subst e; exact hs f _ a X gv hm _ s x hd.1 h
     ·subst e; exact hs f _ b X gv hm _ s x hd.2 h
    ·cases h
   |block id c=>
    refine hU.block ((hs f _ c X gv hm _ s x hd h).of fun e s' hq hx=>?_);cases e with
    |exit kV=>
     simp only [NP] at hq;refine ⟨fun e=>?_,fun e=>?_⟩
     ·subst e; rw [tQ] at hq; exact ⟨hq,hx⟩
     ·rw [oY e] at hq; exact ⟨hq,hx⟩
    |_=>exact ⟨hq,hx⟩
   |scope c=>
    refine hU.scope ((hs f _ c X gv hm _ s x hd h).of fun e s' hq hx=>?_);cases e with
    |goto l=>cases hq
    |_=>exact ⟨hq,hx⟩
   |region id ops dr=>
    cases dr with
    |false=>exact hU.region (f:=f) (CR (AA NX adn h))
    |true=>
     simp only at h;rw [bL] at hd;split at h
     ·rename_i pl hT;rw [hT] at hd;exact hU.draw (f:=f) hd (uD (kK NX adn hm h))
     ·cases h
   |loop b=>
    have W8:=jN ⟨b,rfl⟩;refine hU.loop (fun m s'=>m≤n+1∧ev C m f p (.loop b) X gv K s'=some x∧aZ s s') ?_ (m:=n+1) ⟨abw _,?_,aZ.refl s⟩
    ·rintro m s' ⟨XQ,hr,hx⟩;cases m with
     |zero=>cases hr
     |succ m=>
      have nF:Av C (ev C m) f p (.loop b) X gv K s'=some x:=hr;unfold Av at nF;rw [W8] at nF;refine (ihn m (by omega) f _ b X gv hm _ s' x hd nF).of fun e s2 hq IJ=>?_
      cases e with
      |normal=>exact ⟨m,abp m,by omega,hq,hx.trans IJ⟩
      |_=>exact ⟨hq,hx.trans IJ⟩
    ·show Av C (ev C n) f p (.loop b) X gv K s=some x;unfold Av;rw [W8];exact h
   |rangeFunc g ps uk bd=>
    simp only at h;split at h
    ·rename_i ca;split at h
     ·rename_i hf first cap hg
      refine hU.rangeFunc (4096 * p+f) ca hg ((NX _ _ _ _ _ h).mono fun r G' hq=>?_);unfold rfQ;split at hq
      ·rename_i busy pending fn sl nn pp aa bb dd done YA;rw [YA];simp only;obtain ⟨h1,h2⟩:=bt hq;refine ⟨by cases busy <;> cases done <;> simp_all,?_⟩;have hxx:∀ (G:List GO) (m:List Nat),aZ s ⟨s.ab,s.boxes,G,m,s.ro,s.n⟩:=fun _ _=>⟨⟨[],rfl⟩,⟨[],rfl⟩,rfl⟩
       split at h2
       ·rw [dK] at h2; exact ⟨h2,hxx _ _⟩
       ·rw [dK] at h2; exact hU.ret ⟨h2,hxx _ _⟩
       ·rw [dK] at h2; exact hU.exit ⟨h2,hxx _ _⟩
       ·cases h2
      ·cases hq
     ·cases h
    ·cases h
   |_=>cases h
  intro f p c X gv hm K s x hd h;change Av C (ev C n) f p c X gv K s=some x at h;unfold Av at h;split at h
  ·rename_i hc;exact plain f p c X gv hm K s x (fun _=>hc) hd h
  ·rename_i ct hct;split at h
   ·rename_i AB hc;generalize uB (mu c []) AB=outs at h;cases M9:NR c with
    |true=>rw [M9] at h; cases h
    |false=>
    rw [M9] at h;obtain ⟨o,h1,h2⟩:=bind_some (show (As C (ev C n) f p c (JT outs) ET (mR s outs) s).bind (fun o=>Rv s outs o K)=some x from h);have hp:=plain f p c (JT outs) ET te (mR s outs) s o (fun ⟨b,hb⟩=>by subst hb; cases M9) hd h1;refine hU.ag5 (s:=s) (Q':=fun e s'=>mR s outs e s'=some o) (hU.mono hp fun e s' hh=>⟨hh.2,hh.1⟩) fun e s' hq=>?_
    obtain ⟨t,v,q1,q2⟩:=uE hq;exact ⟨t,v,q1,(q2 _ K).symm.trans h2,t.tf s v⟩
   ·rename_i gh F4 AB hc;split at h
    ·rename_i b;split at h
     ·rename_i s1 hg;generalize uB (mu b []) AB=outs at h;generalize Au (mu b []) F4=head at h;unfold W6 at h;obtain ⟨v0,h0,h⟩:=bind_some h;obtain ⟨o,hl,h⟩:=bind_some h;refine hU.adl hg h0 (fun v r hr=>hs f _ b _ ET te _ _ r hd hr) hl fun t v e jH=>?_
      exact ⟨(jH _ K).symm.trans h,(pF hg).trans (t.tf s1 v)⟩
     ·cases h
    ·cases h
   ·rename_i k gh F4 AB hc;split at h
    ·rename_i b;split at h
     ·rename_i s1 hg;generalize uB (mu b []) AB=outs at h;generalize Au (mu b []) F4=head at h;unfold adk at h;obtain ⟨o,hl,h⟩:=bind_some h;obtain ⟨r0,h0,hl⟩:=bind_some hl;refine hU.Sz hg h0 (fun s2 r hr=>th hs k (2 * p) b s2 r hd hr) (fun v r hr=>tj hs k (2 * p) b _ _ r hd hr) hl fun t v e jH=>?_
      exact ⟨(jH _ K).symm.trans h,(pF hg).trans (t.tf s1 v)⟩
     ·cases h
    ·cases h
   ·rename_i gh F4 AB hc;split at h
    ·rename_i b;split at h
     ·rename_i s1 hg;generalize uB (mu b []) AB=outs at h;generalize Au (mu b []) F4=head at h;unfold NT at h;obtain ⟨v0,h0,h⟩:=bind_some h;obtain ⟨o,hl,h⟩:=bind_some h;refine hU.YL hg h0 (fun k v u hu=>hs f _ b _ ET te _ _ u hd hu) hl fun t v e jH=>?_
      exact ⟨(jH _ K).symm.trans h,(pF hg).trans (t.tf s1 v)⟩
     ·cases h
    ·cases h
   ·cases h
end Go.Am
namespace Go.Am
open Go
noncomputable def fU.fn (C:fU) (n:Nat) (g:FuncId) (ps:aQ) (p:aO) (x:ps.T):Option p.T:=
 FX C (ev C n) ET g (ps.enc x) [] (fun r _=>p.dec r)
theorem fU.bA {C:fU} (Ei:∀ g e,C.Bx g=some e→aj C.D.toEnv g e) {n:Nat} {g:FuncId} {ps:aQ} {p:aO} (h1:ps.under 0=true) (h2:p.under 0=true) :
  aj C.D.toEnv g ⟨ps,p,C.fn n g ps p⟩:=fun x y h=>by
 refine a6.mono (a6.of (p:=p) (Q:=fun z=>z=y) (ps.eK x h1) h2 ((qY (F2 Ei n) te g _ [] _ y h).mono fun r _ hr=>⟨y,hr,rfl⟩)) ?_;rintro r ⟨z,rfl,rfl⟩;rfl
theorem a6.env {E E':Env} {g:FuncId} {args:List AV} {Q:AV→Prop} (hP:E.P=E'.P) (hg:E.cw=E'.cw) (h:a6 E g args Q) (HL:E.lo=E'.lo:=by rfl) (SA:E.gx=E'.gx:=by rfl):a6 E' g args Q:=by
 have go:∀ {R:ak} {w:World} {x:Nat} {cs:List AV},lg E R w x cs↔lg E' R w x cs:=fun {R w x cs}=>by unfold lg; rw [SA]
 have CF:∀ {R:ak} {w:World} {G:List GO},eI E R w G↔eI E' R w G:=fun {R w G}=>
  ⟨fun h=>⟨h.len,h.obj,h.inj,h.wf,fun g cs hh=>go.1 (h.cw g cs (by rw [hg]; exact hh)),by rw [← HL]; exact h.lo⟩,fun h=>⟨h.len,h.obj,h.inj,h.wf,fun g cs hh=>go.2 (h.cw g cs (by rw [← hg]; exact hh)),by rw [HL]; exact h.lo⟩⟩
 intro G;obtain ⟨h1,h2⟩:=h G;rw [hP] at h1 h2;refine ⟨h1,fun R w cs hr hl=>(h2 R w cs (CF.2 hr) hl).mono fun e w' he=>?_⟩;cases e with
 |returned c=>obtain ⟨r,G',R',k1,k2,k3,k4⟩:=he; exact ⟨r,G',R',k1,k2,CF.1 k3,k4⟩
 |panicked c=>exact he
 |outgrown=>exact he
theorem a6.more {E E':Env} {g:FuncId} {args:List AV} {Q:AV→Prop} (hP:E.P=E'.P) (hg:∀ g cs,E.cw g=some cs→E'.cw g=some cs) (h:a6 E g args Q) (HL:E.lo=E'.lo:=by rfl) (SA:E.gx=fun _=>false:=by rfl):a6 E' g args Q:=by
 intro G;obtain ⟨h1,h2⟩:=h G;rw [hP] at h1 h2;refine ⟨h1,fun R w cs hr hl=>(h2 R w cs ⟨hr.len,hr.obj,hr.inj,hr.wf,fun g cs hh=>⟨(hr.cw g cs (hg g cs hh)).1,fun hx=>by rw [SA] at hx; cases hx⟩,by rw [HL]; exact hr.lo⟩ hl).mono fun e w' he=>?_⟩;cases e with
 |returned c=>
  obtain ⟨r,G',R',k1,k2,k3,k4⟩:=he;exact ⟨r,G',R',k1,k2,⟨k3.len,k3.obj,k3.inj,k3.wf,fun g cs hh=>(hr.cw g cs hh).mono k4.ext,by rw [← HL]; exact k3.lo⟩,k4⟩
 |panicked c=>exact he
 |outgrown=>exact he
def xY:List (Nat × aR)→FuncId→Option aR
 |[],_=>none
 |(a,e) :: l,g=>bif aaO a g then some e else xY l g
theorem iA {E:Env}:∀ {l:List (Nat × aR)},(∀ a e,(a,e)∈l→aj E a e)→∀ g e,xY l g=some e→aj E g e
 |[],_,g,e,h=>by cases h
 |(a,x) :: l,hl,g,e,h=>by
  unfold xY at h;cases hb:aaO a g with
  |true=>
   rw [hb] at h;cases h;rw [← aao hb];exact hl a _ (by simp)
  |false=>
   rw [hb] at h;exact iA (fun a e hm=>hl a e (by simp [hm])) g e h
theorem qa {E:Env}:∀ g e,xY [] g=some e→aj E g e:=fun _ _ h=>by cases h
theorem eZ {E:Env} {a:Nat} {x:aR} {l:List (Nat × aR)} (hx:aj E a x) (hl:∀ g e,xY l g=some e→aj E g e):∀ g e,xY ((a,x) :: l) g=some e→aj E g e:=fun g e h=>by
 unfold xY at h;cases hb:aaO a g with
 |true=>
  rw [hb] at h;cases h;rw [← aao hb];exact hx
 |false=>
  rw [hb] at h;exact hl g e h
def W9:List (Nat × cW)→Nat→Option cW
 |[],_=>none
 |(a,c) :: l,p=>bif aaO a p then some c else W9 l p
def JZ:List (Nat × List (Nat × cW))→FuncId→Nat→Option cW
 |[],_,_=>none
 |(a,c) :: l,g,p=>bif aaO a g then W9 c p else JZ l g p
def J0:Option Unit→Option Unit→Option Unit
 |some _,some _=>some ()
 |_,_=>none
theorem IK:xl J0:=fun a b x h=>by
 cases a <;> cases b <;> first | (cases h; done) | exact ⟨rfl,rfl⟩
theorem dH {C:fU} (Ei:∀ g e,C.Bx g=some e→aj C.D.toEnv g e) {n:Nat} {g:FuncId} {args:List AV} {p:aO} {ok:p.T→Bool} (h1:aI 0 args=true) (h2:p.under 0=true)
  (h:FX C (ev C n) J0 g args [] (fun r _=>bif p.fits r&&ok (p.bC r) then some () else none)=some ()):a6 C.D.toEnv g args (fun r=>∃ y,r=p.enc y∧ok y=true):=
 a6.of (p:=p) (Q:=fun y=>ok y=true) h1 h2 ((qY (F2 Ei n) IK g args [] _ () h).mono fun r _ hr=>by
  obtain ⟨k,_⟩:=bt hr;rw [aad] at k;exact ⟨p.bC r,by simp [aO.dec,k.1],k.2⟩)
end Go.Am
namespace Go.Am
open Go
def pH (w:World):ak:=⟨fun b _=>b < w.heap.size,[]⟩
mutual
def aO.wf:(p:aO)→p.T→Prop
 |.int k,(n:Int)=>k.min≤n∧n≤k.max
 |.bool,_=>True
 |.str,(s:List UInt8)=>s.length≤maxLen
 |.agg ps,x=>ps.wf x
 |.bu ps,x=>ps.wf x
 |.list _ p,(xs:List p.T)=>xs.length≤maxLen∧∀ x∈xs,p.wf x
 |.own _ _ p,(xs:List p.T)=>xs.length≤maxLen∧∀ x∈xs,p.wf x
 |.bF _ _ p,(x:Nat × List p.T)=>x.2.length≤maxLen∧∀ y∈x.2,p.wf y
 |.dO _,_=>True
 |.two _ _,_=>True
def aQ.wf:(ps:aQ)→ps.T→Prop
 |.nil,_=>True
 |.cons p .nil,x=>p.wf x
 |.cons p (.cons q ps),x=>p.wf x.1∧(aQ.cons q ps).wf x.2
end
def my:List aO→aQ
 |[]=>.nil
 |p :: l=>.cons p (my l)
def LH {β:Type} (g:β→Option (List aO)):List β→Option (List aO)
 |[]=>some []
 |x :: l=>match g x,LH g l with
  |some a,some b=>some (a++b)
  |_,_=>none
def uF {β:Type} (off len:β→Nat):Nat→List β→Option Nat
 |o,[]=>some o
 |o,x :: l=>bif aaO (off x) o then uF off len (o+len x) l else none
def isSome (n:Nat):Option Nat→Bool
 |some m=>aaO m n
 |none=>false
def uG (ag:Bool) (ps:List aO):Option aO:=match ag,ps with
 |true,ps=>some (.agg (my ps))
 |false,[p]=>some p
 |_,_=>none
def LI (P:Program):Nat→TypeId→Option (List aO)
 |0,_=>none
 |n+1,t=>match P.underlying t with
  |some .bool=>some [.bool]
  |some (.int k)=>some [.int k]
  |some .string=>some [.str]
  |some (.slice e)=>match LI P n e,P.underlying e with
   |some ps,some u=>match uG (Go.Am.kX u) ps with
    |some pe=>bif Nat.blt 0 (P.cellsOf e) then some [.list (P.cellsOf e) pe] else none
    |none=>none
   |_,_=>none
  |some (.struct fs)=>bif isSome (P.cellsOf t) (uF abH (fun f=>P.cellsOf f.type) 0 fs.toList) then LH (fun f=>LI P n f.type) fs.toList else none
  |some (.array m e)=>bif isSome (P.cellsOf t) (uF (fun i=>i * P.cellsOf e) (fun _=>P.cellsOf e) 0 (abj m)) then LH (fun _=>LI P n e) (abj m) else none
  |_=>none
def ahf (a:AV):Prop:=a.ba=true∧a.cells=[a]∧a.closed=true
def tk:List aO→List AV→Prop
 |[],[]=>True
 |p :: ps,a :: nw=>p.fits a=true∧(p.wf (p.bC a)∧ahf a)∧tk ps nw
 |_,_=>False
theorem tk.append:∀ {ps qs:List aO} {nw bs:List AV},tk ps nw→tk qs bs→tk (ps++qs) (nw++bs)
 |[],_,[],_,_,h=>h
 |_ :: _,_,_ :: _,_,k,h=>⟨k.1,k.2.1,tk.append k.2.2 h⟩
 |[],_,_ :: _,_,h,_=>h.elim
 |_ :: _,_,[],_,h,_=>h.elim
theorem tk.mk:∀ {ps:List aO} {nw:List AV},tk ps nw→(my ps).fits nw=true∧(my ps).wf ((my ps).bC nw)
 |[],[],_=>⟨rfl,trivial⟩
 |[p],[a],h=>⟨by
   change (p.fits a&&(List.isEmpty ([]:List AV)))=true;rw [h.1];rfl,h.2.1.1⟩
 |p :: q :: ps,a :: nw,h=>by
  obtain ⟨h1,h2⟩:=tk.mk (ps:=q :: ps) h.2.2;refine ⟨?_,h.2.1.1,h2⟩;change (p.fits a&&(my (q :: ps)).fits nw)=true;rw [h.1,h1];rfl
 |[],_ :: _,h=>h.elim
 |_ :: _,[],h=>h.elim
 |[_],_ :: _ :: _,h=>h.2.2.elim
theorem F5 {ag:Bool} {ps:List aO} {pe:aO} (h:uG ag ps=some pe) {nw:List AV} (hf:tk ps nw) :
  ∃ e,(if ag then e=.agg nw else nw=[e])∧pe.fits e=true∧pe.wf (pe.bC e):=by
 unfold uG at h;split at h
 ·cases h;obtain ⟨h1,h2⟩:=hf.mk;exact ⟨.agg nw,rfl,h1,h2⟩
 ·rename_i p;cases h
  match nw,hf with
  |[a],hf=>exact ⟨a,rfl,hf.1,hf.2.1.1⟩
  |[],hf=>exact hf.elim
  |_ :: _ :: _,hf=>exact hf.2.2.elim
 ·cases h
theorem J1:∀ {ps:List aO} {nw:List AV},tk ps nw→∀ a∈nw,a.ba=true∧a.cells=[a]∧a.closed=true
 |[],[],_,a,ha=>by simp at ha
 |_ :: _,b :: nw,hf,a,ha=>by
  rcases abi.1 ha with rfl|ha
  ·exact hf.2.1.2
  ·exact J1 hf.2.2 a ha
 |[],_ :: _,h,_,_=>h.elim
 |_ :: _,[],h,_,_=>h.elim
theorem J2 {pe:aO}:∀ {es:List AV},(∀ x∈es,pe.fits x=true∧pe.wf (pe.bC x))→allFit pe.fits es=true∧∀ x∈es.map pe.bC,pe.wf x
 |[],_=>⟨rfl,by simp⟩
 |a :: es,h=>by
  obtain ⟨h1,h2⟩:=J2 (es:=es) fun x hx=>h x (by simp [hx])
  refine ⟨by simp only [allFit,aad]; exact ⟨(h a (by simp)).1,h1⟩,fun x hx=>?_⟩;rcases abi.1 hx with rfl|hx
  ·exact (h a (by simp)).2
  ·exact h2 x hx
section read
variable {H:Type} {enc:TypeId × Value→H} {P:Program} {w:World} {R:ak} {base:Nat} {spare:Nat→Bool} {held:Bool}
theorem mz {α β:Type} {f:α→Option β} {x:α} {l:List α} {r:List β} (h:(x :: l).mapM f=some r):∃ y ys,f x=some y∧l.mapM f=some ys∧r=y :: ys:=by
 rw [List.mapM_cons] at h;cases hx:f x with
 |none=>rw [hx] at h; cases h
 |some y=>
  rw [hx] at h;cases hl:l.mapM f with
  |none=>rw [hl] at h; cases h
  |some ys=>rw [hl] at h; cases h; exact ⟨y,ys,rfl,rfl,rfl⟩
theorem AD {β:Type} {off len:β→Nat} {g:β→Option (List aO)} {cs:List Value} {f:β→Option (DataW H × List MemPlace)}
  (hf:∀ x ps y,g x=some ps→f x=some y→∃ nw,aP R w nw ((cs.drop (off x)).take (len x))∧tk ps nw∧∀ v∈(cs.drop (off x)).take (len x),v.oneCell'=true) :
  ∀ {L:List β} {o m:Nat} {ps:List aO} {ys:List (DataW H × List MemPlace)},uF off len o L=some m→LH g L=some ps→L.mapM f=some ys →
   o≤m∧∃ nw,aP R w nw ((cs.drop o).take (m - o))∧tk ps nw∧∀ v∈(cs.drop o).take (m - o),v.oneCell'=true
 |[],o,m,ps,ys,ht,hp,_=>by
  simp only [uF] at ht;simp only [LH] at hp;cases ht; cases hp;exact ⟨abw _,[],by simpa using aP.nil,trivial,by simp⟩
 |x :: L,o,m,ps,ys,ht,hp,hm=>by
  unfold uF at ht;cases hb:aaO (off x) o with
  |false=>rw [hb] at ht; cases ht
  |true=>
   rw [hb] at ht;have hb:=aao hb;unfold LH at hp;split at hp
   ·rename_i pa pb h1 h2;cases hp;obtain ⟨y,ys',k1,k2,rfl⟩:=mz hm;obtain ⟨nw,q1,q2,q3⟩:=hf x pa y h1 k1;obtain ⟨hle,bs,r1,r2,r3⟩:=AD hf (show uF off len (o+len x) L=some m from ht) h2 k2;have e:(cs.drop o).take (m - o)=(cs.drop (off x)).take (len x)++(cs.drop (o+len x)).take (m - (o+len x)):=by
     rw [hb,show m - o=len x+(m - (o+len x)) by omega,List.take_add,List.drop_drop]
    rw [e];refine ⟨by omega,nw++bs,q1.append r1,q2.append r2,fun v hv=>?_⟩;rcases List.mem_append.1 hv with hv|hv
    ·exact q3 v hv
    ·exact r3 v hv
   ·cases hp
theorem oB {α β:Type} {f:α→Option β}:∀ {l:List α} {r:List β},l.mapM f=some r→∀ (i:Nat) (x:α),l[i]?=some x→∃ y,r[i]?=some y∧f x=some y
 |[],r,_,i,x,hx=>by simp at hx
 |a :: l,r,h,i,x,hx=>by
  obtain ⟨y,ys,h1,h2,rfl⟩:=mz h;cases i with
  |zero=>simp at hx; subst hx; exact ⟨y,by simp,h1⟩
  |succ i=>obtain ⟨z,h3,h4⟩:=oB h2 i x (by simpa using hx); exact ⟨z,by simpa using h3,h4⟩
theorem mapM_length {α β:Type} {f:α→Option β}:∀ {l:List α} {r:List β},l.mapM f=some r→r.length=l.length
 |[],r,h=>by simp at h; subst h; rfl
 |a :: l,r,h=>by
  obtain ⟨y,ys,h1,h2,rfl⟩:=mz h;simp [mapM_length h2]
theorem SB {a:Addr} {v:Value} (h:w.cell? a=some v):a.block < w.heap.size:=by
 unfold abx at h;split at h
 ·rename_i hb; exact bo hb
 ·cases h
theorem CS {e:TypeId} {ps:List aO} {pe:aO} {ag:Bool} {tn:Nat} (hp:∀ (cs:List Value) (y:DataW H × List MemPlace),aaB enc P w base spare held tn e cs=some y→∃ nw,aP (pH w) w nw cs∧tk ps nw∧∀ v∈cs,v.oneCell'=true) (he:uG ag ps=some pe) {b off len:Nat} {r:List (DataW H × List MemPlace)}
  (h:(abj len).mapM (fun i=>(w.cells? base ((⟨b,off,none⟩:Addr).add (i * P.cellsOf e)) (P.cellsOf e)).bind (aaB enc P w base spare held tn e))=some r) :
  ∀ (m i:Nat),i+m=len→∃ es,iu (pH w) w b (off+i * P.cellsOf e) (P.cellsOf e) es∧es.length=m∧∀ x∈es,pe.fits x=true∧pe.wf (pe.bC x)
 |0,i,_=>⟨[],.nil,rfl,by simp⟩
 |m+1,i,hi=>by
  obtain ⟨es,h1,h2,h3⟩:=CS hp he h m (i+1) (by omega);obtain ⟨y,_,hy⟩:=oB h i i (by rw [aaY (by omega)]);obtain ⟨cs,hc,hy⟩:=bind_some hy;obtain ⟨nw,q1,q2,q3⟩:=hp _ _ hy;obtain ⟨x,hx,f1,f2⟩:=F5 he q2;have nG:w.cells? base ((⟨b,off,none⟩:Addr).add (i * P.cellsOf e)) (P.cellsOf e)=some cs:=hc;unfold World.cells? at nG;split at nG
  ·have hlen:=mapM_length nG;rw [List.length_range] at hlen;have jN:x.cells=nw∧x.ba=true∧x.closed=true:=by
    have qc:=J1 q2;cases ag with
    |true=>
     simp only [if_true] at hx;subst hx;refine ⟨rfl,rfl,?_⟩;show bg nw=true;clear h1 h2 h3 q1 q2 f1 f2
     induction nw with
     |nil=>rfl
     |cons a nw ih=>simp only [bg,aad]; exact ⟨(qc a (by simp)).2.2,ih (fun z hz=>qc z (by simp [hz]))⟩
    |false=>
     simp only [Bool.false_eq_true,if_false] at hx;subst hx;obtain ⟨k1,k2,k3⟩:=qc x (by simp);exact ⟨k2,k1,k3⟩
   have lC:∀ j v,cs[j]?=some v→w.cell? ⟨b,off+i * P.cellsOf e+j,none⟩=some v:=fun j v hv=>by
    have hj:j < P.cellsOf e:=by have:=(List.getElem?_eq_some_iff.1 hv).1; omega
    obtain ⟨v',k1,k2⟩:=oB nG j j (by rw [aaY hj]);rw [hv] at k1;cases k1;rw [cZ,cZ] at k2;exact k2
   refine ⟨x :: es,.cons ?_ jN.2.1 jN.2.2 ?_ ?_,by simp [h2],fun z hz=>?_⟩
   ·rw [jN.1,q1.length,hlen]
   ·rw [jN.1];refine fk.make q1 q3 lC (fun j hj=>?_);have Rn:j < cs.length:=by rw [← q1.length]; exact hj
    exact SB (lC j cs[j] (abA Rn))
   ·rw [show off+i * P.cellsOf e+P.cellsOf e=off+(i+1) * P.cellsOf e by rw [Nat.add_mul]; omega];exact h1
   ·rcases abi.1 hz with rfl|hz
    ·exact ⟨f1,f2⟩
    ·exact h3 z hz
  ·cases nG
theorem uH (Cs:∀ b,spare b=true):∀ (n:Nat) {t:TypeId} {ps:List aO},LI P n t=some ps→∀ {tn:Nat} {cs:List Value} {y:DataW H × List MemPlace},aaB enc P w base spare held tn t cs=some y →
  ∃ nw,aP (pH w) w nw cs∧tk ps nw∧∀ v∈cs,v.oneCell'=true
 |0,_,_,h,_,_,_,_=>by cases h
 |n+1,t,ps,h,0,_,_,hy=>by cases hy
 |n+1,t,ps,h,tn+1,cs,y,hy=>by
  unfold LI at h;unfold aaB at hy;split at h
  ·rename_i hu;cases h;rw [hu] at hy;cases cs with
   |nil=>cases hy
   |cons v l=>
    cases l with
    |cons v2 l=>(cases v <;> first | (cases hy; done) | (rename_i a; cases a <;> cases hy; done) | (rename_i a b; cases a <;> cases hy; done) | (rename_i a b c; cases a <;> first | (cases hy; done) | (cases b <;> first | (cases hy; done) | (cases c <;> cases hy))))
    |nil=>
     cases v with
     |bool b=>exact ⟨[.bool b],.one (.bool b),⟨rfl,⟨trivial,rfl,rfl,rfl⟩,trivial⟩,by simp [abn]⟩
     |pointer a=>cases a <;> cases hy
     |slice a b c=>cases a <;> first | (cases hy; done) | (cases b <;> first | (cases hy; done) | (cases c <;> cases hy))
     |map a=>cases a <;> cases hy
     |chan a=>cases a <;> cases hy
     |_=>cases hy
  ·rename_i k hu;cases h;rw [hu] at hy;cases cs with
   |nil=>cases hy
   |cons v l=>
    cases l with
    |cons v2 l=>(cases v <;> first | (cases hy; done) | (rename_i a; cases a <;> cases hy; done) | (rename_i a b; cases a <;> cases hy; done) | (rename_i a b c; cases a <;> first | (cases hy; done) | (cases b <;> first | (cases hy; done) | (cases c <;> cases hy))))
    |nil=>
     cases v with
     |int k' i=>
      have hy:(if k'=k∧(Lit.int k i).wf=true then some (.lit (.int k i),[]) else none)=some y:=hy;split at hy
      ·rename_i hc;obtain ⟨rfl,hw⟩:=hc;exact ⟨[.int k' i],.one (.int k' i),⟨decide_eq_true rfl,⟨by have h:=hw; simp [Lit.wf] at h; exact h,rfl,rfl,rfl⟩,trivial⟩,by simp [abn]⟩
      ·cases hy
     |pointer a=>cases a <;> cases hy
     |slice a b c=>cases a <;> first | (cases hy; done) | (cases b <;> first | (cases hy; done) | (cases c <;> cases hy))
     |map a=>cases a <;> cases hy
     |chan a=>cases a <;> cases hy
     |_=>cases hy
  ·rename_i hu;cases h;rw [hu] at hy;cases cs with
   |nil=>cases hy
   |cons v l=>
    cases l with
    |cons v2 l=>(cases v <;> first | (cases hy; done) | (rename_i a; cases a <;> cases hy; done) | (rename_i a b; cases a <;> cases hy; done) | (rename_i a b c; cases a <;> first | (cases hy; done) | (cases b <;> first | (cases hy; done) | (cases c <;> cases hy))))
    |nil=>
     cases v with
     |string s=>
      have hy:(if s.size≤maxLen then some (.lit (.string s.data.toList),[]) else none)=some y:=hy;split at hy
      ·rename_i hc;exact ⟨[.str s.data.toList],.one (.str s.data.toList),⟨rfl,⟨by simpa [aO.wf,aO.bC,AV.XH] using hc,rfl,rfl,rfl⟩,trivial⟩,by simp [abn]⟩
      ·cases hy
     |pointer a=>cases a <;> cases hy
     |slice a b c=>cases a <;> first | (cases hy; done) | (cases b <;> first | (cases hy; done) | (cases c <;> cases hy))
     |map a=>cases a <;> cases hy
     |chan a=>cases a <;> cases hy
     |_=>cases hy
  ·rename_i e hu;rw [hu] at hy;split at h
   ·rename_i ps' u h1 h2;split at h
    ·rename_i pe h3;obtain ⟨hz,h⟩:=bt h;cases h;have hz:=abE hz;cases cs with
     |nil=>cases hy
     |cons v l=>
      cases l with
      |cons v2 l=>(cases v <;> first | (cases hy; done) | (rename_i a; cases a <;> cases hy; done) | (rename_i a b; cases a <;> cases hy; done) | (rename_i a b c; cases a <;> first | (cases hy; done) | (cases b <;> first | (cases hy; done) | (cases c <;> cases hy))))
      |nil=>
       cases v with
       |slice a len cap=>
        cases a with
        |none=>
         have hz:len=0∧cap=0:=by
          cases len with
          |zero=>cases cap with
           |zero=>exact ⟨rfl,rfl⟩
           |succ _=>cases hy
          |succ _=>cases hy
         obtain ⟨rfl,rfl⟩:=hz;exact ⟨[.list .lM (P.cellsOf e) []],.one .j9,⟨by simp [aO.fits,allFit],⟨⟨abr _,fun x hx=>by change x∈([]:List pe.T) at hx; cases hx⟩,rfl,rfl,rfl⟩,trivial⟩,by simp [abn]⟩
        |some a=>
         have hy:(if base≤a.block∧len≤cap∧cap≤maxLen then
          ((abj len).mapM (fun i=>(w.cells? base (a.add (i * P.cellsOf e)) (P.cellsOf e)).bind (aaB enc P w base spare held tn e))).bind fun J3=>
           (if spare a.block then (abj (cap - len)).mapM (fun j=>(w.cells? base (a.add ((len+j) * P.cellsOf e)) (P.cellsOf e)).bind (aaB enc P w base spare held tn e)) else some []).map fun rest=>
            (DataW.slice (J3.map (·.1)) (rest.map (·.1)),MemPlace.row a ((J3.length+rest.length) * P.cellsOf e)++(J3++rest).flatMap (·.2))
          else none)=some y:=hy
         split at hy
         ·rename_i hc;obtain ⟨J3,k1,hy⟩:=bind_some hy;rw [if_pos (Cs _)] at hy;by_cases jK:cap=0
          ·subst jK;have zl:len=0:=Nat.le_zero.1 hc.2.1;subst zl;exact ⟨[.list .lM (P.cellsOf e) []],.one .oW,⟨by simp [aO.fits,allFit],⟨⟨abr _,fun x hx=>by change x∈([]:List pe.T) at hx; cases hx⟩,rfl,rfl,rfl⟩,trivial⟩,by simp [abn]⟩
          ·have NY:a.spot=none:=by
            have DU:∃ y,(w.cells? base (a.add (0 * P.cellsOf e)) (P.cellsOf e)).bind (aaB enc P w base spare held tn e)=some y:=by
             by_cases zl:len=0
             ·subst zl;cases hr:(abj (cap - 0)).mapM (fun j=>(w.cells? base (a.add ((0+j) * P.cellsOf e)) (P.cellsOf e)).bind (aaB enc P w base spare held tn e)) with
              |none=>rw [hr] at hy; cases hy
              |some r=>
               obtain ⟨z,_,hz⟩:=oB hr 0 0 (by rw [aaY (by omega)]);exact ⟨z,hz⟩
             ·obtain ⟨z,_,hz⟩:=oB k1 0 0 (by rw [aaY (by omega)]);exact ⟨z,hz⟩
            obtain ⟨z,hz'⟩:=DU;obtain ⟨cs,rJ,_⟩:=bind_some hz';unfold World.cells? at rJ;split at rJ
            ·obtain ⟨v,_,hv⟩:=oB rJ 0 0 (by rw [aaY (by omega)]);rw [Nat.zero_mul] at hv;unfold abx at hv;split at hv
             ·split at hv
              ·cases hv
              ·rename_i hs;simpa [Addr.add] using hs
             ·cases hv
            ·cases rJ
           obtain ⟨b,off,spot⟩:=a;have NY:spot=none:=NY;subst NY;obtain ⟨es,q1,q2,q3⟩:=CS (fun cs y hy=>uH Cs n h1 hy) h3 k1 len 0 (by omega);rw [Nat.zero_mul,Nat.add_zero] at q1;obtain ⟨f1,f2⟩:=J2 q3;refine ⟨[.list .lM (P.cellsOf e) es],.one (.list q1 q2.symm hc.2.1 trivial),⟨?_,⟨⟨?_,f2⟩,rfl,rfl,rfl⟩,trivial⟩,by simp [abn]⟩
           ·simp only [aO.fits,aad,Bool.or_eq_true];exact ⟨.inl (Nat.beq_refl _),f1⟩
           ·have:es.length≤maxLen:=by rw [q2]; omega
            show (es.map pe.bC).length≤maxLen;rw [List.length_map];exact this
         ·cases hy
       |pointer a=>cases a <;> cases hy
       |map a=>cases a <;> cases hy
       |chan a=>cases a <;> cases hy
       |_=>cases hy
    ·cases h
   ·cases h
  ·rename_i fs hu;rw [hu] at hy;have hy:(if cs.length=P.cellsOf t then (fs.toList.mapM fun f=>aaB enc P w base spare held tn f.type ((cs.drop f.offset).take (P.cellsOf f.type))).map fun xs=>(.agg (xs.map (·.1)),xs.flatMap (·.2)) else none)=some y:=hy;split at hy
   ·rename_i hl;obtain ⟨h1,h2⟩:=bt h;cases hm:fs.toList.mapM fun f=>aaB enc P w base spare held tn f.type ((cs.drop f.offset).take (P.cellsOf f.type)) with
    |none=>rw [hm] at hy; cases hy
    |some ys=>
     cases ht:uF abH (fun f=>P.cellsOf f.type) 0 fs.toList with
     |none=>rw [ht] at h1; cases h1
     |some m=>
      rw [ht] at h1;have h1:=aao (show aaO m (P.cellsOf t)=true from h1);obtain ⟨_,nw,q1,q2,q3⟩:=AD (R:=pH w) (w:=w) (off:=abH) (len:=fun f=>P.cellsOf f.type) (cs:=cs) (fun x ps y hx hy'=>uH Cs n hx hy') ht h2 hm;rw [h1,← hl] at q1 q3;simp only [abv,Nat.sub_zero,List.take_length] at q1 q3;exact ⟨nw,q1,q2,q3⟩
   ·cases hy
  ·rename_i m e hu;rw [hu] at hy;have hy:(if cs.length=P.cellsOf t then ((abj m).mapM fun i=>aaB enc P w base spare held tn e ((cs.drop (i * P.cellsOf e)).take (P.cellsOf e))).map fun xs=>(.agg (xs.map (·.1)),xs.flatMap (·.2)) else none)=some y:=hy;split at hy
   ·rename_i hl;obtain ⟨h1,h2⟩:=bt h;cases hm:(abj m).mapM fun i=>aaB enc P w base spare held tn e ((cs.drop (i * P.cellsOf e)).take (P.cellsOf e)) with
    |none=>rw [hm] at hy; cases hy
    |some ys=>
     cases ht:uF (fun i=>i * P.cellsOf e) (fun _=>P.cellsOf e) 0 (abj m) with
     |none=>rw [ht] at h1; cases h1
     |some k=>
      rw [ht] at h1;have h1:=aao (show aaO k (P.cellsOf t)=true from h1);obtain ⟨_,nw,q1,q2,q3⟩:=AD (R:=pH w) (w:=w) (off:=fun i=>i * P.cellsOf e) (len:=fun _=>P.cellsOf e) (cs:=cs) (fun x ps y hx hy'=>uH Cs n hx hy') ht h2 hm;rw [h1,← hl] at q1 q3;simp only [abv,Nat.sub_zero,List.take_length] at q1 q3;exact ⟨nw,q1,q2,q3⟩
   ·cases hy
  ·cases h
def YO (P:Program) (n:Nat) (t:TypeId):Option aO:=match P.underlying t with
 |some u=>match LI P n t with
  |some ps=>uG (Go.Am.kX u) ps
  |none=>none
 |none=>none
theorem SC (Cs:∀ b,spare b=true) {n:Nat} {t:TypeId} {p:aO} (hp:YO P n t=some p) {v:Value} {d:DataW H} {pl:List MemPlace} {r:Reach} {base':Nat} (ht:DataW.Trod enc P w base spare held t v d pl) (dS:abo P w r base' t v) :
  ∃ x:p.T,Rel (pH w) w (p.enc x) v∧p.wf x:=by
 obtain ⟨tn,ht⟩:=ht;have fin:∀ {a:AV},p.fits a=true→p.wf (p.bC a)→Rel (pH w) w a v→∃ x:p.T,Rel (pH w) w (p.enc x) v∧p.wf x:=fun {a} h1 h2 h3=>⟨p.bC a,(p.dL h1).jc _ _ _ h3,h2⟩
 unfold YO at hp;split at hp
 ·rename_i u hu;split at hp
  ·rename_i ps h1;obtain ⟨nw,q1,q2,q3⟩:=uH Cs n h1 ht;obtain ⟨x,hx,f1,f2⟩:=F5 hp q2;cases DB:Go.Am.kX u with
   |true=>
    rw [DB] at hx;simp only [if_true] at hx;subst hx;have:∃ cs,v=.agg cs:=by
     unfold abo at dS;rw [hu] at dS;cases u <;> first | (cases DB; done) | (obtain ⟨cs,h,_⟩:=dS; exact ⟨cs,h⟩)
    obtain ⟨⟨cs⟩,rfl⟩:=this;exact fin f1 f2 (.agg q1 q3)
   |false=>
    rw [DB] at hx;simp only [Bool.false_eq_true,if_false] at hx;subst hx;have hv:v.cells.toList=[v]:=by
     cases v with
     |agg cs=>
      exfalso;unfold abo at dS;rw [hu] at dS;cases u <;> first | (cases DB; done) | (simp [Cell.okWide,Cell.ok,hu] at dS)
     |_=>rfl
    rw [hv] at q1;cases q1 with
    |cons q1 _=>exact fin f1 f2 q1
  ·cases hp
 ·cases hp
def F6 (P:Program) (n:Nat):List TypeId→Option (List aO)
 |[]=>some []
 |t :: l=>match YO P n t,F6 P n l with
  |some p,some r=>some (p :: r)
  |_,_=>none
theorem F7 (Cs:∀ b,spare b=true) {n:Nat} {r:Reach} {base':Nat}:∀ {ts:List TypeId} {ps:List aO} {vs:List Value} {ds:List (DataW H)} {pl:List MemPlace},F6 P n ts=some ps→abt enc P w base spare held ts vs ds pl →
  (∀ (j:Nat) t v,ts[j]?=some t→vs[j]?=some v→abo P w r base' t v)→∃ x:(my ps).T,aP (pH w) w ((my ps).enc x) vs∧(my ps).wf x
 |[],ps,vs,ds,pl,hp,ht,_=>by
  simp only [F6] at hp;cases hp;cases vs with
  |nil=>exact ⟨(),.nil,trivial⟩
  |cons _ _=>cases ds <;> exact ht.elim
 |t :: ts,ps,vs,ds,pl,hp,ht,dS=>by
  unfold F6 at hp;split at hp
  ·rename_i p r h1 h2;cases hp;cases vs with
   |nil=>cases ds <;> exact ht.elim
   |cons v vs=>
    cases ds with
    |nil=>exact ht.elim
    |cons d ds=>
     obtain ⟨p1,p2,k1,k2,_⟩:=ht;obtain ⟨x,q1,q2⟩:=SC Cs h1 k1 (dS 0 t v rfl rfl);obtain ⟨y,q3,q4⟩:=F7 Cs h2 k2 (fun j t v hj hv=>dS (j+1) t v (by simpa using hj) (by simpa using hv));cases r with
     |nil=>
      cases q3;exact ⟨x,.one q1,q2⟩
     |cons p' r=>exact ⟨(x,y),.cons q1 q3,q2,q4⟩
  ·cases hp
end read
end Go.Am
namespace Go.Am
open Go Go.RowKit Go.WideShapes Go.ChangeShapes
section
variable {H:Type} {enc:TypeId × Value→H} {P:Program}
theorem IL {f:Func} {s:ChangeSpec} {apart fresh handsOn again:Bool} {W W':World} {args:Array Value} {v:Value} {ds gs:List (DataW H)} {before pa pv:List MemPlace}
  (hW:DataW.Whole enc P f.params.toList s.vars apart W args.toList ds gs before)
  (Ib:∀ (b:Nat) (sp:Nat→Bool) (hd:Bool),abt enc P W' b sp hd f.resultTypes.toList (v.resultList f.resultTypes.size) (s.fn H (ds++gs)).results [])
  (wO:∀ sp:Nat→Bool,(∀ p∈before,sp p.block=true)→abt enc P W' 0 sp true f.params.toList args.toList (s.fn H (ds++gs)).args pa)
  (F8:∀ sp:Nat→Bool,(∀ p∈before,sp p.block=true)→DataW.TrodVars enc P W' sp s.vars (s.fn H (ds++gs)).vars pv)
  (Ms:before=pa++pv) (hb:Below W.heap.size W W')
  (dS:∀ (j:Nat) (t:TypeId) (r:Value),f.resultTypes[j]?=some t→(v.resultList f.resultTypes.size)[j]?=some r→abo P W' .any 0 t r) :
  s.post enc P f apart fresh handsOn again W args v W':=by
 have bY:∀ p∈before,p.block < W.heap.size:=fun p hp=>hW.lt p hp
 have hold:∀ p∈before,(fun b=>decide (b < W.heap.size)) p.block=true:=fun p hp=>by simpa using bY p hp
 refine ⟨ds,gs,before,[],pa,pv,hW,Ib _ _ _,wO _ hold,F8 _ hold,World.keptBut_mono (fun p hp=>⟨hp,?_⟩) (hb.frame (·∈before)),fun _=>?_⟩
 ·rw [Ms,List.mem_append] at hp;exact Or.inr hp
 ·obtain ⟨_,_,_,_,_,hz,hn⟩:=hW;refine ⟨dS,_,_,([]++pa)++pv,⟨[]++pa,pv,trodAll_append (wO _ (fun _ _=>rfl)) (Ib _ _ _),F8 _ (fun _ _=>rfl),rfl,?_,?_⟩,?_⟩
  ·intro b off hp;have Cr:MemPlace.cell b off∈before:=by rw [Ms]; simpa using hp
   rw [hb.frozen (bY _ Cr)];exact hz b off Cr
  ·intro ha;have:=hn ha;rw [Ms] at this;simpa using this
  ·intro p hp _;rw [Ms];simpa using hp
theorem sM (hl:laidOutB P=true) {W W':World} (hb:Below W.heap.size W W') {sp:Nat→Bool}:∀ {ts:List TypeId} {vs:List Value} {ds:List (DataW H)} {pl:List MemPlace},
  (∀ t∈ts,P.readableRec t=true∧t < P.types.size)→abt enc P W 0 (fun _=>true) true ts vs ds pl→(∀ p∈pl,p.block < W.heap.size)→(∀ p∈pl,sp p.block=true) →
  abt enc P W' 0 sp true ts vs ds pl
 |[],[],[],_,_,h,_,_=>h
 |t :: ts,v :: vs,d :: ds,pl,hr,h,bY,Cs=>by
  obtain ⟨p,q,h1,h2,rfl⟩:=h;refine ⟨p,q,?_,sM hl hb (fun t ht=>hr t (by simp [ht])) h2 (fun x hx=>bY x (by simp [hx])) (fun x hx=>Cs x (by simp [hx])),rfl⟩;exact WideElems.Trod_stays hl (hr t (by simp)).1 (hr t (by simp)).2 h1 (fun x hx=>hb.same (bY x (by simp [hx]))) (fun x hx=>Cs x (by simp [hx]))
 |[],[],_ :: _,_,_,h,_,_=>h.elim
 |[],_ :: _,_,_,_,h,_,_=>h.elim
 |_ :: _,[],_,_,_,h,_,_=>h.elim
 |_ :: _,_ :: _,[],_,_,h,_,_=>h.elim
theorem LJ {E:Env} {f:FuncId} {fn:Func} {s:ChangeSpec} {ps:List aO} {apart fresh handsOn again:Bool} {W:World} {base:Nat} {args:Array Value} {ds gs:List (DataW H)} {before:List MemPlace} {n tb:Nat}
  (ahh:∀ x,(my ps).wf x→a6 E f ((my ps).enc x) (fun r=>r=.bool true)) (ado:F6 E.P n fn.params.toList=some ps)
  (F9:∀ (j:Nat) t v,fn.params[j]?=some t→args[j]?=some v→abo E.P W .any base t v)
  (hW:DataW.Whole enc E.P fn.params.toList s.vars apart W args.toList ds gs before) (adp:∀ g cs,E.cw g=some cs→fk (pH W) W g 0 cs)
  (F8:s.vars=[]) (Cs:∀ ds:List (DataW H),ds.length=fn.params.toList.length→s.fn H ds={ results:=[.lit (.bool true)],args:=ds })
  (Ib:fn.resultTypes=#[tb]) (hub:E.P.underlying tb=some .bool) (hl:laidOutB E.P=true) (hr:∀ t∈fn.params.toList,E.P.readableRec t=true∧t < E.P.types.size) (HL:E.lo=0:=by rfl) (SA:∀ g cs,E.cw g=some cs→E.gx g=true→g < W.heap.size∧W.cell? ⟨g,cs.length,none⟩=none:=by intro _ _ _ h; exact Bool.noConfusion (show false=true from h)) :
  Calls E.P f args W fun e W'=>∃ v,e=.returned v∧s.post enc E.P fn apart fresh handsOn again W args v W':=by
 have hW0:=hW;obtain ⟨p,q,hA,hV,rfl,hfz,Rw⟩:=hW;obtain ⟨rfl,rfl⟩:gs=[]∧q=[]:=by
  rw [F8] at hV;cases gs with
  |nil=>exact ⟨rfl,hV⟩
  |cons g r=>exact absurd hV (by intro h; cases h)
 obtain ⟨x,hx,hwf⟩:=F7 (fun _=>rfl) (n:=n) ado hA (r:=.any) (base':=base) (fun j t v hj hv=>F9 j t v (by simpa using hj) (by simpa using hv));have hlen:ds.length=fn.params.toList.length:=by
  clear F9 hfz Rw hW0 hx hwf Cs ado hr;revert hA;generalize fn.params.toList=ts;generalize args.toList=vs;generalize p=pl;clear p;intro hA
  induction ts generalizing vs ds pl with
  |nil=>cases vs <;> cases ds <;> first | rfl | exact hA.elim
  |cons t ts ih=>
   cases vs with
   |nil=>cases ds <;> exact hA.elim
   |cons v vs=>
    cases ds with
    |nil=>exact hA.elim
    |cons d ds=>
     obtain ⟨p,q,_,h2,_⟩:=hA;simp [ih vs q h2]
 have hG:eI E (pH W) W []:=⟨rfl,fun id go ro h=>by simp [nth] at h,fun i j ri rj b h=>by simp [pH,nth] at h,fun b o h=>h,fun g cs hg=>⟨adp g cs hg,fun hx=>SA g cs hg hx⟩,by rw [HL]; exact abr _⟩;have hc:=(ahh x hwf []);refine (callsIn_wide.1 (hc.2 (pH W) W args.toList hG hx)).mono fun e W' he=>?_
 cases e with
 |panicked c=>exact he.elim
 |outgrown=>exact he.elim
 |returned c=>
  obtain ⟨r,G',R',⟨_,rfl⟩,fF,_,st⟩:=he;cases fF;have hb:Below W.heap.size W W':=⟨st.os,st.tape,st.output,st.size,fun k hk=>st.bJ k hk fun ho=>by
   obtain ⟨id,ro,h1,_⟩:=fZ ho;simp [pH,nth] at h1⟩
  have bY:∀ y∈p,y.block < W.heap.size:=fun y hy=>by simpa using hW0.lt y (by simpa using hy)
  have e1:s.fn H (ds++[])={ results:=[.lit (.bool true)],args:=ds }:=by rw [List.append_nil]; exact Cs ds hlen
  refine ⟨_,rfl,IL (pa:=p) (pv:=[]) hW0 ?_ ?_ ?_ rfl hb ?_⟩
  ·intro b sp hd;rw [e1,Ib];exact trodAll_mk1 (shut_bool hub true)
  ·intro sp ahj;rw [e1];exact sM hl hb hr hA bY (fun y hy=>ahj y (by simpa using hy))
  ·intro sp _;rw [e1,F8];rfl
  ·intro j t r hj nF;rw [Ib] at hj nF;cases j with
   |succ j=>simp at hj
   |zero=>
    simp at hj;subst hj;have:r=.bool true:=by simpa [Value.resultList] using nF.symm
    subst this;simp [abo,Cell.okWide,Cell.ok,hub]
end
end Go.Am
namespace Go.Am
open Go
section
variable {P:Program} {W:World}
theorem vN {g:Nat} {cs:Array Value} {k:IntKind} (hg:g < W.heap.size):∀ (xs:List Int) (o:Nat),(∀ i,i < xs.length→W.cell? ⟨g,o+i,none⟩=some (.int k (xs[i]?.getD 0)))→fk (pH W) W g o (xs.map fun x=>.int k x)
 |[],_,_=>.nil
 |x :: xs,o,h=>.cons (h 0 (by simp)) rfl hg (.int k x) (vN (cs:=cs) hg xs (o+1) fun i hi=>by
   have:=h (i+1) (by simpa using hi);rw [show o+1+i=o+(i+1) by omega];simpa using this)
end
end Go.Am
namespace Go.Am
open Go
theorem dI {p:aO} (hp:p.plain=true) (l:List p.T):allFit p.fits (List.map p.enc l)=true:=by
 induction l with
 |nil=>rfl
 |cons x l ih=>simp [allFit,ih,(p.bI x hp).1]
theorem gC {p:aO} (hp:p.plain=true) (l:List p.T):List.map p.bC (List.map p.enc l)=l:=by
 induction l with
 |nil=>rfl
 |cons x l ih=>simp [ih,(p.bI x hp).2]
end Go.Am
namespace Go.Am
open Go Go.RowKit
section
variable {E:Env} {R:ak} {w w':World}
theorem Below.YP (h:Below w.heap.size w w') (wf:∀ b o,R.I b o→b < w.heap.size):Ext R w R w':=
 ⟨fun _ _ h=>h,fun b o hi=>cm (h.block b (wf b o hi)) o,fun _ ro h=>⟨ro,h,cV.refl ro⟩,.old fun b hb=>h.block b hb⟩
theorem Below.LL {G:List GO} (h:Below w.heap.size w w') (hg:eI E R w G) (hE:E.lo=0):eI E R w' G:=
 hg.bJ (Below.YP h hg.wf) rfl (fun b hb=>h.block b (hg.cj hb)) (fun _ _ _ hi=>hi) (fun b o hi=>Nat.lt_of_lt_of_le (hg.wf b o hi) h.size) (fun _=>by rw [hE]; exact abr _)
theorem Below.CT {β:Nat→Nat} {bx:dc} (h:Below w.heap.size w w') (wf:∀ b o,R.I b o→b < w.heap.size):Step R w β bx R w' β bx:=
 ⟨Below.YP h wf,h.os,h.tape,h.output,h.size,fun b hb _=>h.block b hb,fun _ _ ho=>ho,fun _ _ hi _ _=>hi⟩
theorem a6.below {g:FuncId} {args:List AV} {r:AV} (hp:Plain E.P g)
  (h:∀ (R:ak) (w:World) (cs:List Value),aP R w args cs→Calls E.P g ⟨cs⟩ w (fun e w'=>∃ v,e=.returned v∧(∀ R,Rel R w' r v)∧Below w.heap.size w w')) (hE:E.lo=0):a6 E g args (fun r'=>r'=r):=fun G=>
 ⟨hp,fun R w cs hg hl=>callsIn_wide.2 ((h R w cs hl).mono fun e w' ⟨v,he,hv,hb⟩=>by
  subst he;exact ⟨r,G,R,⟨rfl,rfl⟩,hv R,Below.LL hb hg hE,Below.CT hb hg.wf⟩)⟩
theorem Plain.of {P : Program} {g : FuncId} {fn : Func} (h : P.funcs[g]? = some fn) (h1 : fn.body.isNone = false) (h2 : (fn.name == "runtime.NumGoroutine") = false) : Plain P g := ⟨fn, h, h1, h2⟩
end
def p2 (a b:aO):aQ:=.cons a (.cons b .nil)
def p1 (a:aO):aQ:=.cons a .nil
def LM:List UInt8 × List UInt8→Option (List UInt8)
 |(s,[c])=>bif Nat.blt c.toNat 128 then some (s.dropWhile (· == c)) else none
 |_=>none
def YQ (n:Int):List UInt8:=bif decide (n < 10) then [aby (48+n.toNat)] else [aby (48+n.toNat / 10),aby (48+n.toNat % 10)]
def LN:aR:=⟨p2 .str .str,.str,LM⟩
section
variable {E:Env}
theorem Ga {g:FuncId} (hp:Plain E.P g)
  (h:∀ (s:ByteArray) (c:UInt8),c.toNat < 128→∀ w:World,Calls E.P g #[.string s,.string ⟨#[c]⟩] w fun e w'=>e=.returned (.string ⟨(s.data.toList.dropWhile (· == c)).toArray⟩)∧w'=w) (hE:E.lo=0:=by rfl):aj E g LN:=fun x y hT=>by
 obtain ⟨s,c⟩:=x
 match c,hT with
 |[c],hT=>
  obtain ⟨h1,h2⟩:=cond_some' hT;subst h2;refine a6.below hp (fun R w cs hl=>?_) hE;cases hl with
  |cons a1 hl=>
  cases hl with
  |cons a2 hl=>
  cases hl;cases a1; cases a2;refine (h ⟨⟨s⟩⟩ c (abE h1) w).mono ?_;rintro e w' ⟨rfl,rfl⟩;exact ⟨_,rfl,fun _=>Rel.str _,Below.refl _ _⟩
where
 cond_some' {c:Bool} {a x:List UInt8} (h:(bif c then some a else none)=some x):c=true∧a=x:=by
  cases c
  ·cases h
  ·exact ⟨rfl,aau h⟩
end
end Go.Am
namespace Go.Am
open Go Go.RowKit Go.Proofs Go.Shelf
section
variable {E:Env} {R:ak} {w w':World}
theorem Gb {b:Nat} {x y v:Value} {el:TypeId} {fz:Nat × Nat} (h:w.heap[b]?=some (.cells #[x,y] el fz)):w.setCell ⟨b,0,none⟩ v=w.setRow b #[v,y]:=by
 unfold World.setCell World.setRow;congr 1;apply Array.ext
 ·simp
 ·intro i h1 h2;rw [abG,abG];by_cases e:b=i
  ·subst e;have bY:b < w.heap.size:=bo h;have hv:w.heap[b]=.cells #[x,y] el fz:=(Array.getElem?_eq_some_iff.1 h).2;simp [hv]
  ·simp [e]
theorem eI.CF {G:List GO} (h:eI E R w G):bq E R w (fun _=>0) ⟨[],gy,G,[],none,0⟩ { tmps:=#[],defers:=[] }:=
 ⟨h,⟨fun k cs hk=>by simp [gy,eF] at hk,fun k k' cs cs' hk=>by simp [gy,eF] at hk⟩,fun i hi=>absurd rfl hi,rfl,trivial⟩
def adq (id:Nat):AV→Bool
 |.jI=>true
 |.ptr i 0=>aaO i id
 |_=>false
def ccF (ty:Nat) (args:List AV) (G:List GO):Option (Bool × AV × List GO):=match args with
 |[.ptr id 0]=>match nth G id with
  |some (.row [c,b] el)=>some (aaO el ty&&adq id c,.bu [],aG G id (.row [.ptr id 0,b] el))
  |_=>none
 |_=>none
theorem YR {ρ:Ren} (L:Lays.n240 E.P ρ) (X:Builder.X72 E.P ρ) (args:List AV) (G:List GO) (r:AV) (G':List GO) (h:ccF (ρ.t 72) args G=some (true,r,G')):cO E (ρ.f 240) args G (fun r' CO=>r'=r∧CO=G'):=by
 refine ⟨⟨_,L.f240,rfl,rfl⟩,fun R w cs hg hl=>callsIn_wide.2 ?_⟩;unfold ccF at h;split at h
 ·rename_i id;cases hl with
  |cons a1 hl=>
  cases hl;cases a1 with
  | @ptr _ _ b hb=>
  split at h
  ·rename_i cv bv el hid;injection h with h; injection h with h1 h; injection h with h2 h3;rw [aad] at h1;obtain ⟨h1,Hb⟩:=h1;have h1:=aao h1;subst h1; subst h2; subst h3;obtain ⟨vs,k1,k2,k3,k4⟩:=hg.obj id _ _ hid hb;cases k2 with
   | @cons _ c1 _ _ q1 k2=>
   cases k2 with
   | @cons _ c2 _ _ q2 k2=>
   cases k2;unfold adq at Hb;split at Hb
   case h_3=>cases Hb
   case h_2 i=>
    have Hb:=aao Hb;subst Hb;cases q1 with
    | @ptr _ _ b' ka=>
    rw [hb] at ka;cases ka;refine (Any.Builder_copyCheck_used L X b w (by simp [abx,k1])).mono fun e w' ⟨he,hw⟩=>?_
    subst he; subst hw;rw [kA hid];exact ⟨.bu [],G,R,⟨rfl,rfl⟩,Rel.bu .nil,hg,Step.refl _ _ _ _⟩
   cases q1;have H9:∀ v∈[Value.pointer (some ⟨b,0,none⟩),c2],v.oneCell'=true:=by
    intro v hv;rcases abi.1 hv with rfl|hv
    ·rfl
    ·exact k3 v (by rw [List.mem_singleton.1 hv]; simp)
   refine (Any.Builder_copyCheck_fresh L X b w (by simp [abx,k1]) (by simp [World.shape?,k1]) (by simp [World.frozen?,k1])).mono fun e w' ⟨he,hw⟩=>?_
   subst he;rw [Gb k1] at hw;subst hw;obtain ⟨r1,r2⟩:=(eI.CF hg).setRow (cs':=[.ptr id 0,bv]) (us:=[.pointer (some ⟨b,0,none⟩),c2]) hid hb k1 (.cons (Rel.ptr hb) (.cons q2 .nil)) H9;exact ⟨.bu [],_,R,⟨rfl,rfl⟩,Rel.bu .nil,r1.g,r2⟩
  ·cases h
 ·cases h
def ccE {ρ:Ren} (L:Lays.n240 E.P ρ) (X:Builder.X72 E.P ρ):nK E (ρ.f 240):=⟨ccF (ρ.t 72),YR L X⟩
theorem Gc (a:Addr) (n:Nat) (b o:Nat):(w.freeze a n).cell? ⟨b,o,none⟩=w.cell? ⟨b,o,none⟩:=by
 unfold abB;split
 ·rfl
 ·simp only [abx,abF];by_cases e:a.block=b
  ·subst e;simp only [if_true];cases h:w.heap[a.block]? with
   |none=>rfl
   |some x=>cases x <;> simp
  ·simp [e]
theorem Gd {a:Addr} {n:Nat} {b:Nat} (h:b≠a.block):(w.freeze a n).heap[b]?=w.heap[b]?:=by
 unfold abB;split
 ·rfl
 ·simp only [abF];rw [if_neg (Ne.symm h)]
theorem Ge (a:Addr) (n:Nat):(w.freeze a n).heap.size=w.heap.size:=by
 unfold abB;split <;> simp
set_option maxHeartbeats 2000000 in
set_option maxRecDepth 100000 in
theorem Ej {P:Program} {ρ:Ren} (L:Lays.n169 P ρ) (X:Builder.Extra P ρ) (b g cap:Nat) (p:Value) (cur:Array Value) (l:List UInt8) (w:World) (h0:l≠[])
  (hbk:w.heap[b]?=some (.cells #[p,.slice (some ⟨g,0,none⟩) l.length cap] (ρ.t 72) (0,0))) (hg:w.heap[g]?=some (.cells cur (ρ.t 5) (0,0))) (hnc:l.length≤cap) (hcm:cap≤maxLen) (rJ:cur.size=cap)
  (hJ:∀ (j:Nat) (x:UInt8),l[j]?=some x→w.cell? ⟨g,j,none⟩=some (.int .u8 x.toNat)) :
  Calls P (ρ.f 169) #[.pointer (some ⟨b,0,none⟩)] w fun e w'=>e=.returned (.string ⟨l.toArray⟩)∧w'=w.drew.freeze ⟨g,0,none⟩ l.length:=by
 have zl:l.length≠0:=by simpa using h0
 have c1:w.drew.cell? ⟨b,1,none⟩=some (.slice (some ⟨g,0,none⟩) l.length cap):=by
  have:w.drew.heap[b]?=some (.cells #[p,.slice (some ⟨g,0,none⟩) l.length cap] (ρ.t 72) (0,0)):=hbk;rw [Lib.cell_of_heap this]; rfl
 have hSD:(Builtin.unsafeSliceData_ #[(ρ.t 37)] (ρ.t 127) #[.slice (some ⟨g,0,none⟩) l.length cap]).run P w.drew=.ok (.pointer (some ⟨g,0,none⟩)) w.drew:=
  Lib.run_unsafeSliceData_row _ _ _ _ _ _ (by omega)
 have hUS:(Builtin.unsafeString_ #[(ρ.t 127),(ρ.t 3)] (ρ.t 9) #[.pointer (some ⟨g,0,none⟩),.int .i64 l.length]).run P w.drew=.ok (.string ⟨l.toArray⟩) (w.drew.freeze ⟨g,0,none⟩ l.length):=by
  refine Lib.run_unsafeString_row w.drew (ρ.t 127) (ρ.t 3) (ρ.t 9) (ρ.t 5) L.t127 X.cellsByte g cur.size (by have sk:w.drew.heap[g]?=some (.cells cur (ρ.t 5) (0,0)):=hg; simp [World.shape?,sk]) l h0 (by omega) (by unfold maxLen at hcm; omega) ?_;intro j x hx;have:=hJ j x hx;rw [cZ,Nat.zero_add];exact this
 have mixed:=L.mixed;have t72:=L.t72; have a72:=L.a72; have z72:=L.z72; have v72:=L.v72; have u72:=run_underlying L.t72;have t70:=L.t70; have a70:=L.a70; have z70:=L.z70; have v70:=L.v70; have u70:=run_underlying L.t70;have t37:=L.t37; have a37:=L.a37; have z37:=L.z37; have v37:=L.v37; have u37:=run_underlying L.t37;have t127:=L.t127; have a127:=L.a127; have z127:=L.z127; have v127:=L.v127; have alL:=run_underlying L.t127;have t3:=L.t3; have a3:=L.a3; have z3:=L.z3; have v3:=L.v3; have u3:=run_underlying L.t3;have t9:=L.t9; have a9:=L.a9; have z9:=L.z9; have v9:=L.v9; have u9:=run_underlying L.t9;have t5:=X.t5; have a5:=X.a5; have z5:=X.z5; have v5:=X.v5; have u5:=run_underlying X.t5;clear hJ
 go_enter L.f169,Body.n169_ntmps ρ
 go_wp2
 go_region_o
 all_goals (go_wp2; go_ret; exact ⟨rfl,rfl⟩)
theorem eI.frozen {G:List GO} (hg:eI E R w G) {t f sz el g c n:Nat} (_ht:nth G t=some (.tok f sz el)) (hr:nth R.obj t=some (.tok f g c)) {cur:Array Value} {fz:Nat × Nat} (hc:w.heap[g]?=some (.cells cur el fz)) :
  eI E R (w.drew.freeze ⟨g,0,none⟩ n) (aG G t .dead)∧Step R w (fun _=>0) gy R (w.drew.freeze ⟨g,0,none⟩ n) (fun _=>0) gy:=by
 have hl:Live R g:=⟨t,_,hr,rfl⟩;have bJ:∀ b,b≠g→(w.drew.freeze ⟨g,0,none⟩ n).heap[b]?=w.heap[b]?:=fun b hb=>Gd (w:=w.drew) (a:=⟨g,0,none⟩) hb
 have gi:(w.drew.freeze ⟨g,0,none⟩ n).heap.size=w.heap.size:=Ge (w:=w.drew) _ _;have e:Ext R w R (w.drew.freeze ⟨g,0,none⟩ n):=⟨fun _ _ h=>h,fun b o _=>Gc (w:=w.drew) _ _ b o,fun _ ro h=>⟨ro,h,cV.refl ro⟩,fun b r hb=>⟨r,by
  by_cases e:b=g
  ·subst e; rw [hc] at hb; cases hb
  ·rw [bJ b e]; exact hb,rfl,rfl,rfl,rfl,rfl⟩⟩
 have hos:∀ (v:World) (a:Addr) (m:Nat),(v.freeze a m).os=v.os∧(v.freeze a m).tape=v.tape∧(v.freeze a m).output=v.output∧(v.freeze a m).drawn=v.drawn:=by
  intro v a m;unfold abB;split <;> exact ⟨rfl,rfl,rfl,rfl⟩
 refine ⟨⟨by rw [jr]; exact hg.len,fun id go ro q1 q2=>?_,hg.inj,fun b o hi=>by rw [gi]; exact hg.wf b o hi,fun x cs hx=>(hg.cw x cs hx).mono e,by rw [(hos _ _ _).2.2.2]; exact Nat.le_succ_of_le hg.lo⟩,⟨e,(hos _ _ _).1,(hos _ _ _).2.1,(hos _ _ _).2.2.1,by rw [gi]; exact abw _,fun b hb hn=>bJ b (fun e=>hn (e ▸ .inl hl)),fun _ _ ho=>ho,fun _ _ hi _ _=>hi⟩⟩;rcases dW q1 with ⟨rfl,rfl,_⟩|⟨cK,q1⟩
 ·rw [hr] at q2;cases q2;show g < _;rw [gi];exact bo hc
 ·refine (hg.obj id go ro q1 q2).mono e (fun b hb=>bJ b (fun e=>cK ?_)) (fun _ _ _ hi=>hi);subst e;exact hg.inj t id _ _ b hr q2 rfl hb
theorem AE {b:Nat}:∀ {es:List AV} {o:Nat},iu R w b o 1 es→allFit (aO.fits (.int .u8)) es=true→∀ (j:Nat) (e:AV),es[j]?=some e→w.cell? ⟨b,o+j,none⟩=some (.int .u8 e.mN)
 |[],_,_,_,j,x,h=>by simp at h
 |a :: xs,o,.cons _ _ _ hc t,hf,0,x,h=>by
  simp only [allFit,aad] at hf;simp only [List.getElem?_cons_zero] at h;cases h;cases a <;> first | (cases hf.1; done) | skip
  have hk:IntKind.u8=_:=of_decide_eq_true (show XF _ _=true from hf.1);subst hk;cases hc with
  |cons h1 h2 h3 h4 h5=>
  cases h4;exact h1
 |a :: xs,o,.cons _ _ _ hc t,hf,j+1,x,h=>by
  simp only [allFit,aad] at hf;simp only [List.getElem?_cons_succ] at h;have:=AE t hf.2 j x h;rw [show o+(j+1)=o+1+j by omega];exact this
def Ek:List AV→Bool
 |[]=>true
 |a :: l=>(match a with
  |.int .u8 n=>decide (0≤n)&&decide (n < 256)
  |_=>false)&&Ek l
theorem AF:∀ {es:List AV},Ek es=true→allFit (aO.fits (.int .u8)) es=true∧∀ e∈es,0≤e.mN∧e.mN < 256
 |[],_=>⟨rfl,fun e he=>by simp at he⟩
 |a :: l,h=>by
  simp only [Ek,aad] at h;obtain ⟨h1,h2⟩:=AF h.2;have ha:=h.1;split at ha
  ·rename_i n;rw [aad] at ha;refine ⟨by simp only [allFit,h1,Bool.and_true]; rfl,fun e he=>?_⟩;rcases abi.1 he with rfl|he
   ·exact ⟨of_decide_eq_true ha.1,of_decide_eq_true ha.2⟩
   ·exact h2 e he
  ·cases ha
def YS (ty:Nat) (args:List AV) (G:List GO):Option (Bool × AV × List GO):=match args with
 |[.ptr id 0]=>match nth G id with
  |some (.row [_,.list .nil _ _] el)=>some (aaO el ty,.str [],G)
  |some (.row [_,.list (.own t) 1 es] el)=>match nth G t with
   |some (.tok f 1 e)=>some (aaO el ty&&aaO e 5&&!es.isEmpty&&decide (f=es.length)&&Ek es,.str (jJ es),aG G t .dead)
   |_=>none
  |_=>none
 |_=>none
theorem SD {ρ:Ren} (L:Lays.n169 E.P ρ) (X:Builder.Extra E.P ρ) (h5:ρ.t 5=5) (hE:E.lo=0) (args:List AV) (G:List GO) (r:AV) (G':List GO) (h:YS (ρ.t 72) args G=some (true,r,G')):cO E (ρ.f 169) args G (fun r' CO=>r'=r∧CO=G'):=by
 refine ⟨⟨_,L.f169,rfl,rfl⟩,fun R w cs hg hl=>callsIn_wide.2 ?_⟩;unfold YS at h;split at h
 ·rename_i id;cases hl with
  |cons a1 hl=>
  cases hl;cases a1 with
  | @ptr _ _ b hb=>
  split at h
  ·rename_i pv _ es el hid;injection h with h; injection h with h1 h; injection h with h2 h3;have h1:=aao h1;subst h1; subst h2; subst h3;obtain ⟨vs,k1,k2,k3,k4⟩:=hg.obj id _ _ hid hb;cases k2 with
   | @cons _ c1 _ _ q1 k2=>
   cases k2 with
   | @cons _ c2 _ _ q2 k2=>
   cases k2;cases q2 with
   |list _ _ _ hk=>exact hk.elim
   |mb=>
    refine (Any.Builder_String_nil L X w.heap.size b c1 w k1).mono fun e w' ⟨he,hw⟩=>?_
    subst he;exact ⟨.str [],G,R,⟨rfl,rfl⟩,Rel.str _,Below.LL hw hg hE,Below.CT hw hg.wf⟩
  ·rename_i pv t es el hid;split at h
   ·rename_i f e ht;injection h with h; injection h with h1 h; injection h with h2 h3;subst h2; subst h3;simp only [aad] at h1;obtain ⟨⟨⟨⟨h1,h4⟩,h6⟩,h7⟩,h8⟩:=h1;have h1:=aao h1;have h4:=aao h4;have h7:=of_decide_eq_true h7;subst h1; subst h4; subst h7;obtain ⟨vs,k1,k2,k3,k4⟩:=hg.obj id _ _ hid hb;cases k2 with
    | @cons _ c1 _ _ q1 k2=>
    cases k2 with
    | @cons _ c2 _ _ q2 k2=>
    cases k2;cases q2 with
    |oa _ _=>simp at h6
    | @list _ _ _ g o len cap hE hlen jK hk=>
    subst hlen;obtain ⟨ro,ca,yo⟩:=hk;have df:=hg.obj t _ _ ht ca;cases ro with
    |none=>exact df.elim
    |bS=>exact yo.elim
    |ck _=>exact df.elim
    |bF _=>exact df.elim
    |tok f' g' c'=>
     obtain ⟨rfl,cur,jY,m1,m2,m3,m4⟩:=df;obtain ⟨rfl,rfl,rfl⟩:=yo.2 rfl;obtain ⟨n1,n2⟩:=AF h8;have hbl:(jJ es).length=es.length:=List.length_map _;have cK:es≠[]:=by intro e; rw [e] at h6; simp at h6
     have hJ:∀ (j:Nat) (x:UInt8),(jJ es)[j]?=some x→w.cell? ⟨g,j,none⟩=some (.int .u8 x.toNat):=by
      intro j x hx;unfold jJ at hx;rw [List.getElem?_map] at hx;cases he:es[j]? with
      |none=>rw [he] at hx; cases hx
      |some a=>
       rw [he] at hx;cases hx;have h1:=AE hE n1 j a he;rw [Nat.zero_add] at h1;have h2:=n2 a (List.mem_of_getElem? he);rw [h1];have:(aby a.mN.toNat).toNat=a.mN.toNat:=by
        rw [UInt8.toNat_ofNat'];omega
       show some (Value.int .u8 a.mN)=some (Value.int .u8 ((aby a.mN.toNat).toNat:Int));rw [this,Int.toNat_of_nonneg h2.1]
     refine (Ej L X b g cap c1 cur (jJ es) w (by intro e; exact cK (List.eq_nil_of_length_eq_zero (by rw [← hbl,e]; rfl))) (by rw [hbl]; exact k1) (by rw [h5]; exact jY) (by rw [hbl]; exact jK) m2 (by omega) hJ).mono fun e w' ⟨he,hw⟩=>?_
     subst he;subst hw;obtain ⟨r1,r2⟩:=eI.frozen (n:=(jJ es).length) hg ht ca jY;exact ⟨.str (jJ es),_,R,⟨rfl,rfl⟩,Rel.str _,r1,r2⟩
   ·cases h
  ·cases h
 ·cases h
def ahl {ρ:Ren} (L:Lays.n169 E.P ρ) (X:Builder.Extra E.P ρ) (h5:ρ.t 5=5) (hE:E.lo=0:=by rfl):nK E (ρ.f 169):=⟨YS (ρ.t 72),SD L X h5 hE⟩
end
end Go.Am
namespace Go.Am
open Go
theorem fT {x:Int} (h:-9223372036854775808≤x∧x≤9223372036854775807):IntKind.wrap .i64 x=x:=IntWalk.i64_in x (by omega)
def fC (N:Nat):Prop:=18446744073709551616≤N
theorem aX {V X:Type} (rd:V→Option (V ⊕ X)) (n:Nat) (v:V):az rd (n+1) v=(rd v).bind fun o=>abq (fun v'=>az rd n v') (fun x=>some x) o:=rfl
theorem gd {α:Type} (g:α→AV) (xs:List α) (k:Nat) (h:k < xs.length):ae (xs.map g) k=g xs[k]:=by
 unfold ae;rw [bj,List.getElem?_map,abA h];rfl
def foldI {S α Y:Type} (st:S→α→S ⊕ Y):S→List α→S ⊕ Y
 |s,[]=>.inl s
 |s,a :: l=>abq (fun s'=>foldI st s' l) (fun y=>.inr y) (st s a)
theorem mA {V X S α Y:Type} {rd:V→Option (V ⊕ X)} (l:List α) (E:S→Nat→V) (st:S→α→S ⊕ Y) (fin:S→X) (ex:Y→X) (P:S→Nat→Prop)
  (h:∀ s k (hk:k < l.length),P s k→rd (E s k)=some (Sum.map (fun s'=>E s' (k+1)) ex (st s l[k]))∧∀ s',st s l[k]=.inl s'→P s' (k+1))
  (h0:∀ s,P s l.length→rd (E s l.length)=some (.inr (fin s))) :
  ∀ n s k,k≤l.length→l.length < n+k→P s k→az rd n (E s k)=some (abq fin ex (foldI st s (l.drop k)))
 |0,s,k,hk,hn,_=>by omega
 |n+1,s,k,hk,hn,hP=>by
  rw [aX];by_cases bY:k < l.length
  ·obtain ⟨h1,h2⟩:=h s k bY hP;rw [h1,abz bY];simp only [abC,foldI];cases hs:st s l[k] with
   |inl s'=>
    simp only [Sum.map_inl,abu];exact mA l E st fin ex P h h0 n s' (k+1) (by omega) (by omega) (h2 s' hs)
   |inr y=>simp only [Sum.map_inr,Sum.elim_inr]
  ·have:k=l.length:=by omega
   subst this;rw [h0 s hP,abD (abw _)];rfl
theorem kL {V X S α:Type} {rd:V→Option (V ⊕ X)} (l:List α) (E:S→Nat→V) (f:S→α→S) (fin:S→X) (P:S→Nat→Prop)
  (h:∀ s k (hk:k < l.length),P s k→rd (E s k)=some (.inl (E (f s l[k]) (k+1)))∧P (f s l[k]) (k+1))
  (h0:∀ s,P s l.length→rd (E s l.length)=some (.inr (fin s))) :
  ∀ n s k,k≤l.length→l.length < n+k→P s k→az rd n (E s k)=some (fin ((l.drop k).foldl f s))
 |0,s,k,hk,hn,_=>by omega
 |n+1,s,k,hk,hn,hP=>by
  rw [aX];by_cases bY:k < l.length
  ·obtain ⟨h1,h2⟩:=h s k bY hP;rw [h1,abz bY];simp only [abC,abu,List.foldl_cons];exact kL l E f fin P h h0 n _ (k+1) (by omega) (by omega) h2
  ·have:k=l.length:=by omega
   subst this;rw [h0 s hP,abD (abw _)];rfl
theorem cU {V X:Type} {rd:V→Option (V ⊕ X)} (m:Nat) (E:Nat→V) (x:X) (h:∀ k,k < m→rd (E k)=some (.inl (E (k+1)))) (h0:rd (E m)=some (.inr x)) :
  ∀ n k,k≤m→m < n+k→az rd n (E k)=some x
 |0,k,hk,hn=>by omega
 |n+1,k,hk,hn=>by
  rw [aX];by_cases bY:k < m
  ·rw [h k bY];simp only [abC,abu];exact cU m E x h h0 n (k+1) (by omega) (by omega)
  ·have:k=m:=by omega
   subst this;rw [h0];rfl
theorem ay {k n:Nat} (h:k < n):decide (0≤(k:Int)∧(k:Int) < (n:Int))=true:=by simp; omega
theorem a7 {k n:Nat} (h:k < n):decide ((k:Int) < (n:Int))=true:=by simpa using h
theorem bO (n:Nat):decide ((n:Int) < (n:Int))=false:=by simp
theorem bw {k:Nat} (h:k < 9223372036854775807):IntKind.wrap .i64 ((k:Int)+1)=((k+1:Nat):Int):=by rw [fT (by omega)]; simp
def EU (n lo hi:Int):Int:=if n < lo∨n > hi then 3 else 0
def aU:List Int→Int
 |[]=>0
 |x :: l=>if x=0 then aU l else x
theorem dz {l:List Int}:aU l=0↔∀ x∈l,x=0:=by
 induction l with
 |nil=>simp [aU]
 |cons x l ih=>
  simp only [aU,abi,forall_eq_or_imp];by_cases h:x=0
  ·simp [h,ih]
  ·simp [h]
theorem pI {rd:Int→Option (Int ⊕ (Int ⊕ Unit))} (l:List Int)
  (h:∀ k (hk:k < l.length),rd (k:Int)=some (if l[k]=0 then .inl ((k+1:Nat):Int) else .inr (.inl l[k]))) (h0:rd (l.length:Int)=some (.inr (.inr ()))) (n:Nat) (hn:l.length < n) :
  ∃ o,az rd n 0=some o∧abq (fun x=>x) (fun _=>0) o=aU l:=by
 have key:=mA (rd:=rd) (S:=Unit) (Y:=Int) l (fun _ k=>(k:Int)) (fun _ x=>if x=0 then .inl () else .inr x) (fun _=>.inr ()) (fun x=>.inl x) (fun _ _=>True)
  (fun s k hk _=>⟨by rw [h k hk]; by_cases e:l[k]=0 <;> simp [e],fun _ _=>trivial⟩) (fun _ _=>h0) n () 0 (abr _) (by omega) trivial
 refine ⟨_,key,?_⟩;rw [abv];clear key h h0 hn
 induction l with
 |nil=>rfl
 |cons x l ih=>
  simp only [foldI,aU];by_cases e:x=0
  ·simp only [e,if_true,abu]; exact ih
  ·simp [e]
theorem jz {rd:Int→Option (Int ⊕ (Int ⊕ Unit))} (l:List Int)
  (h:∀ k (hk:k < l.length),rd (k:Int)=some (if l[k]=0 then .inl ((k+1:Nat):Int) else .inr (.inl l[k]))) (h0:rd (l.length:Int)=some (.inr (.inr ()))) (n:Nat) (hn:l.length < n) :
  az rd n 0=some (if aU l=0 then .inr () else .inl (aU l)):=by
 have key:=mA (rd:=rd) (S:=Unit) (Y:=Int) l (fun _ k=>(k:Int)) (fun _ x=>if x=0 then .inl () else .inr x) (fun _=>.inr ()) (fun x=>.inl x) (fun _ _=>True)
  (fun s k hk _=>⟨by rw [h k hk]; by_cases e:l[k]=0 <;> simp [e],fun _ _=>trivial⟩) (fun _ _=>h0) n () 0 (abr _) (by omega) trivial
 rw [abv] at key;refine key.trans (congrArg some ?_);clear key h h0 hn
 induction l with
 |nil=>rfl
 |cons x l ih=>
  simp only [foldI,aU];by_cases e:x=0
  ·simp only [e,if_true,abu]; exact ih
  ·simp [e]
end Go.Am
