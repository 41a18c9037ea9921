/- The abstract machine: a function out of its body; code as a proposition that computes. -/
import Derived.Test.YtegoimldbgdeiaaAmKF
import Derived.OrdersIn
set_option linter.all false
namespace Go.Am
open Go
def PW:Nat→List AV→aW
 | _,[]=>[]
 | n,a :: l=>.put n (.v a) :: PW (n+1) l
def St.init (ntmps:Nat) (args:List AV) (G:List GO):St:=
 ⟨PW 0 args,[],G,[],none,max ntmps args.length⟩
def nC:List Nat→List GO→Option (List GO)
 | [],G=>some G
 | id :: l,G=>match nth G id with
  | some (.defers true)=>nC l (az G id (.defers false))
  | _=>none
def Co (E:Env) (s:St):List ResultVar→Option (List AV)
 | []=>some []
 | .tmp t :: l=>match lk s.ae t,Co E s l with
  | .v a,some r=>some (a :: r)
  | _,_=>none
 | .cell p t :: l=>match pQ E s t (lk s.ae p),Co E s l with
  | some a,some r=>some (a :: r)
  | _,_=>none
def GI (E:Env) (s:St) (fn:Func):Option AV:=match Co E s fn.results.toList with
 | some [a]=>some a
 | some l=>some (.bh l)
 | none=>none
def K6 (E:Env) (fn:Func) (Q:AV→List GO→Prop):Exit→St→Prop
 | .normal,s | .ret,s=>match nC s.marks s.G with
  | some G=>match GI E (s.bO G) fn with
   | some r=>Q r G
   | none=>False
  | none=>False
 | _,_=>False
section fns
variable {E:Env} {R:ak} {w:World} {β:Nat→Nat} {s:St} {a:Act}
def uC (tmps:Array Value):ResultVar→Sem Value
 | .tmp t=>pure (tmps.getD t undef)
 | .cell p t=>do loadVar t (← asAddr (tmps.getD p undef))
theorem uD (fn:Func) (tmps:Array Value):results fn tmps=(do
  let vs ← fn.results.mapM (uC tmps)
  pure (if h:vs.size=1 then vs[0] else .tuple vs)):=by
 unfold results
 congr 1
theorem qp (h:aY E R w β s a):∀ {l:List ResultVar} {r:List AV},Co E s l=some r →
  ∃ vs,(l.mapM (uC a.tmps)).run E.P w=.ok vs w∧aI R w r vs
 | [],r,hl=>by
  simp [Co] at hl
  subst hl
  exact ⟨[],by simp,.nil⟩
 | .tmp t :: l,r,hl=>by
  unfold Co at hl
  split at hl
  ·rename_i x r' h1 h2
   cases hl
   obtain ⟨vs,g1,g2⟩:=qp h h2
   obtain ⟨c,k1,k2⟩:=h.t t (by rw [h1]; simp)
   rw [h1] at k2
   have hg:a.tmps.getD t undef=c:=by simp [Array.getD_eq_getD_getElem?,k1]
   refine ⟨c :: vs,?_,.cons k2 g2⟩
   simp only [List.mapM_cons,Sem.run_bind,Sem.run_pure,Result.andThen_ok,uC,hg,g1]
  ·cases hl
 | .cell p t :: l,r,hl=>by
  unfold Co at hl
  split at hl
  ·rename_i v r' h1 h2
   ·cases hl
    obtain ⟨vs,g1,g2⟩:=qp h h2
    obtain ⟨c,k1,k2⟩:=h.t p (fun e=>by rw [e] at h1; unfold pQ at h1; split at h1 <;> simp_all [lS])
    have hg:a.tmps.getD p undef=c:=by simp [Array.getD_eq_getD_getElem?,k1]
    unfold pQ at h1
    split at h1
    ·rename_i i cs off hi hc
     split at h1
     ·rename_i l' hs
      obtain ⟨b,o',us,e,q1,q2,q3⟩:=sf h k2 hc
      obtain ⟨m1,m2,m3,m4⟩:=n8 hs q1 q2
      obtain ⟨c',pY,dF⟩:=mY (E:=E) hi (b:=b) (off:=o'+off) m1 m2 m3 (fun j y hy=>by rw [Nat.add_assoc]; exact q3 _ _ (m4 j y hy)) h1
      refine ⟨c' :: vs,?_,.cons dF g2⟩
      have ha:(asAddr c).run E.P w=.ok ⟨b,o'+off,none⟩ w:=by rw [e]; rfl
      have Uf:(uC a.tmps (.cell p t)).run E.P w=.ok c' w:=by
       simp only [uC,Sem.run_bind,hg,ha,Result.andThen_ok,pY]
      simp only [List.mapM_cons,Sem.run_bind,Sem.run_pure,Result.andThen_ok,Uf,g1]
     ·cases h1
    ·cases h1
  ·cases hl
theorem GJ (h:aY E R w β s a) {fn:Func} {r:AV} (hr:GI E s fn=some r):∃ c,(results fn a.tmps).run E.P w=.ok c w∧Rel R w r c:=by
 unfold GI at hr
 split at hr
 ·rename_i x hl
  cases hr
  obtain ⟨vs,g1,g2⟩:=qp h hl
  cases g2 with
  | @cons _ c _ _ g2 g3=>
  cases g3
  refine ⟨c,?_,g2⟩
  rw [uD,Array.mapM_eq_mapM_toList]
  simp only [Sem.run_bind,Sem.run_map]
  rw [g1]
  simp
 ·rename_i l cM hl
  cases hr
  obtain ⟨vs,g1,g2⟩:=qp h hl
  refine ⟨.tuple ⟨vs⟩,?_,.bh g2⟩
  have hlen:vs.length≠1:=by
   rw [← g2.length]
   intro e
   match l,e with
   | [x],_=>exact cM x rfl
  rw [uD,Array.mapM_eq_mapM_toList]
  simp only [Sem.run_bind,Sem.run_map]
  rw [g1]
  simp [hlen]
 ·cases hr
theorem E3 (fn:Func) (Q:Ending→World→Prop):∀ {marks:List Nat} {G G':List GO} {R:ak} {w:World} {β:Nat→Nat} {s:St} {a:Act},aY E R w β (s.bO G) a→oF R marks a.defers→nC marks G=some G' →
  (∀ w' ,aY E R w' β (s.bO G') a→Step R w β s.boxes R w' β s.boxes→∃ v,(results fn a.tmps).run E.P w'=.ok v w'∧Q (.returned v) w')→LeavesInM Fence.wide 0 E.P fn a.tmps Q a.defers .returning w:=by
 intro marks
 have key:∀ (marks:List Nat) (ds:List Deferred) (G G':List GO) (R:ak) (w:World) (β:Nat→Nat) (s:St) (a:Act),aY E R w β (s.bO G) a→oF R marks ds→nC marks G=some G' →
   (∀ w' ,aY E R w' β (s.bO G') a→Step R w β s.boxes R w' β s.boxes→∃ v,(results fn a.tmps).run E.P w'=.ok v w'∧Q (.returned v) w')→LeavesInM Fence.wide 0 E.P fn a.tmps Q ds .returning w:=by
  intro marks
  induction marks with
  | nil=>
   intro ds G G' R w β s a hr hd hl hq
   cases ds with
   | cons _ _=>exact hd.elim
   | nil=>
    simp [nC] at hl
    subst hl
    obtain ⟨v,h1,h2⟩:=hq w hr (Step.refl _ _ _ _)
    exact ⟨v,h1,h2⟩
  | cons id marks ih=>
   intro ds G G' R w β s a hr hd hl hq
   cases ds with
   | nil=>exact hd.elim
   | cons d ds=>
    obtain ⟨⟨b,hb,rfl⟩,hd⟩:=hd
    unfold nC at hl
    split at hl
    ·rename_i hg
     have Ug:w.heap[b]?=some (.deferred (some [])):=hr.g.obj id _ _ hg hb
     have bT:=a8 Ug
     have Gg:(Instr.takeDeferred b).run E.P w=.ok [] (World.put w b (.deferred none)):=by
      simp only [Instr.takeDeferred,getObj,setObj,Sem.run_bind,Sem.run,Ug,Result.andThen_ok,Sem.run_pure]
      rfl
     obtain ⟨q1,q2⟩:=hr.setObj (s:=s.bO G) (x':=.deferred none) (go':=.defers false) hb Ug trivial trivial (fun _ e=>by cases e) (gn w b _ bT)
     refine ⟨by simp,.inl ⟨b,_,rfl,Gg,?_⟩⟩
     refine ih ds (az G id (.defers false)) G' R _ β s a q1 hd hl (fun w' kA jI=>?_)
     exact hq w' kA (q2.trans jI)
    ·cases hl
 intro G G' R w β s a hr hd hl hq
 exact key marks a.defers G G' R w β s a hr hd hl hq
end fns
end Go.Am
namespace Go.Am
open Go
section intro
variable {E:Env} {R R':ak} {w w':World} {β β':Nat→Nat}
theorem uE {bx F4:cA} (h:Step R w β bx R' w' β' F4) (hn:∀ k cs,dy bx k≠some cs):Step R w (fun _=>0) fw R' w' (fun _=>0) fw:=by
 have own:∀ b,Own R β bx b→Live R b:=fun b ho=>by
  rcases ho with ho | ⟨k,cs,hk,_⟩
  ·exact ho
  ·exact absurd hk (hn k cs)
 exact ⟨h.ext,h.os,h.tape,h.output,h.size,fun b hb rJ=>h.aZ b hb (fun ho=>rJ (.inl (own b ho))),fun b hb ho=>.inl (own b (h.own b hb (.inl (fc ho)))),fun b o hi hb rJ=>h.im b o hi hb (fun ho=>rJ (.inl (own b ho)))⟩
theorem GK:∀ {l:List AV} {n i:Nat},(i < n∨n+l.length≤i→lk (PW n l) i=.none)∧(∀ a,l[i - n]?=some a→n≤i→lk (PW n l) i=.v a)
 | [],n,i=>⟨fun _=>rfl,fun a h=>by simp at h⟩
 | b :: l,n,i=>by
  obtain ⟨h1,h2⟩:=GK (l:=l) (n:=n+1) (i:=i)
  refine ⟨fun h=>?_,fun a h hn=>?_⟩
  ·simp only [List.length_cons] at h
   simp only [PW]
   rw [aL (by omega)]
   exact h1 (by omega)
  ·simp only [PW]
   by_cases e:n=i
   ·subst e
    rw [ay]
    simp at h
    rw [h]
   ·rw [aL e]
    refine h2 a ?_ (by omega)
    have:i - n=(i - (n+1))+1:=by omega
    rw [this] at h
    simpa using h
theorem GM {ntmps:Nat} {args:List AV} {cs:List Value} {G:List GO} (hg:dW E R w G) (hl:aI R w args cs) :
  aY E R w (fun _=>0) (St.init ntmps args G) { tmps:=⟨cs⟩++Array.replicate (ntmps - (⟨cs⟩:Array Value).size) undef,defers:=[] }:=by
 have hlen:=hl.length
 refine ⟨hg,⟨fun k c hk=>?_,fun k k' c c' hk _ _=>?_⟩,fun i hi=>?_,?_,trivial⟩
 ·simp [St.init,dy] at hk
 ·simp [St.init,dy] at hk
 ·simp only [St.init] at hi ⊢
  obtain ⟨h1,h2⟩:=GK (l:=args) (n:=0) (i:=i)
  by_cases bT:i < args.length
  ·have hy:args[i]?=some args[i]:=List.getElem?_eq_getElem bT
   obtain ⟨c,k1,k2⟩:=hl.get hy
   rw [h2 _ (by rw [Nat.sub_zero]; exact hy) (Nat.zero_le _)]
   refine ⟨c,?_,k2⟩
   rw [Array.getElem?_append_left (by simp; omega)]
   simpa using k1
  ·exact absurd (h1 (by omega)) hi
 ·simp [St.init]
  omega
theorem Cp {ntmps:Nat} {args:List AV} {G:List GO} (k:Nat) (cs:List AV):dy (St.init ntmps args G).boxes k≠some cs:=by
 simp [St.init,dy]
theorem cH.intro {g : FuncId} {fn : Func} {c : Code} {args : List AV} {G : List GO} {Q : AV → List GO → Prop} (hf : E.P.funcs[g]? = some fn) (hb : fn.body = some c) (hn : (fn.name == "runtime.NumGoroutine") = false)
  (h:eV E c (K6 E fn Q) (St.init fn.ntmps args G)):cH E g args G Q:=by
 refine ⟨⟨fn,hf,by simp [hb],hn⟩,fun R w cs hg hl=>?_⟩
 refine callsIn_of_wp_marks hf hb trivial (wpIn_mono (h R w (fun _=>0) _ Fence.wide (GM hg hl) rfl) ?_)
 rintro e a' w' ⟨s',R',β',hq,hr,jI,bI⟩
 have fin:(match nC s'.marks s'.G with
  | some G=>match GI E (s'.bO G) fn with
   | some r=>Q r G
   | none=>False
  | none=>False)→LeavesInM Fence.wide 0 E.P fn a'.tmps (DI E R w Q) a'.defers .returning w':=by
  intro hq
  split at hq
  ·rename_i G2 Rd
   split at hq
   ·rename_i r Cq
    refine E3 fn (DI E R w Q) (s:=s') (G:=s'.G) hr hr.d Rd (fun I1 uA oQ=>?_)
    obtain ⟨v,h1,h2⟩:=GJ uA Cq
    exact ⟨v,h1,r,G2,R',hq,h2,uA.g,uE (jI.trans oQ) Cp⟩
   ·exact hq.elim
  ·exact hq.elim
 cases e with
 | normal=>exact fin hq
 | ret=>exact fin hq
 | exit _=>exact hq.elim
 | goto _=>exact hq.elim
 | panic _=>exact hq.elim
 | outgrown=>exact hq.elim
end intro
end Go.Am
namespace Go.Am
open Go
def St.fb (s:St) (pre:aW) (preB:cA) (G:List GO):St:=⟨pre++s.ae,preB++s.boxes,G,s.marks,s.ro,s.n⟩
def PX (al:Bool) (dst:Option Tmp) (pre:aW):Prop:=
 pre=[]∨∃ d x,dst=some d∧(pre=[.put d x]∨(al=true∧pre=[.put d x,.kill d]))
def bC (al w:Bool) (dst:Option Tmp) (s t s' t':St):Prop:=
 ∃ pre preB G,PX al dst pre∧(w=false→preB=[]∧G=s.G∧∃ x,s'=s.put dst x∧t'=t.put dst x)∧s'=s.fb pre preB G∧t'=t.fb pre preB G
section
variable {E:Env} {s t:St} {o:Oper}
theorem kJ (s:St) (d:Tmp) (x:SV):s.put (some d) x=bif Nat.blt d s.n then s.fb [.put d x] [] s.G else s:=by
 cases h:Nat.blt d s.n <;> simp [St.put,h,St.fb]
theorem bC.put {al w:Bool} (hn:s.n=t.n) (hG:s.G=t.G) (dst:Option Tmp) (x:SV):bC al w dst s t (s.put dst x) (t.put dst x):=by
 cases dst with
 | none=>exact ⟨[],[],s.G,.inl rfl,fun _=>⟨rfl,rfl,x,rfl,rfl⟩,rfl,by rw [hG]; rfl⟩
 | some d=>
  have hx:∃ y,s.put (some d) x=s.put (some d) y∧t.put (some d) x=t.put (some d) y:=⟨x,rfl,rfl⟩
  revert hx
  generalize hs:s.put (some d) x=s'
  generalize ht:t.put (some d) x=t'
  intro hx
  rw [kJ] at hs ht
  rw [← hn] at ht
  revert hs ht
  cases Nat.blt d s.n with
  | true=>exact fun hs ht=>⟨[.put d x],[],s.G,.inr ⟨d,x,rfl,.inl rfl⟩,fun _=>⟨rfl,rfl,hx⟩,hs.symm,by rw [hG]; exact ht.symm⟩
  | false=>exact fun hs ht=>⟨[],[],s.G,.inl rfl,fun _=>⟨rfl,rfl,hx⟩,hs.symm,by rw [hG]; exact ht.symm⟩
theorem bC.dj {al:Bool} (hn:s.n=t.n) (G:List GO) (dst:Option Tmp) (x:SV):bC al true dst s t ((s.bO G).put dst x) ((t.bO G).put dst x):=by
 cases dst with
 | none=>exact ⟨[],[],G,.inl rfl,fun h=>(by cases h),rfl,rfl⟩
 | some d=>
  rw [kJ,kJ,show (t.bO G).n=(s.bO G).n from hn.symm]
  cases Nat.blt d (s.bO G).n with
  | true=>exact ⟨[.put d x],[],G,.inr ⟨d,x,rfl,.inl rfl⟩,fun h=>(by cases h),rfl,rfl⟩
  | false=>exact ⟨[],[],G,.inl rfl,fun h=>(by cases h),rfl,rfl⟩
theorem bC.bO {al:Bool} (G:List GO) (dst:Option Tmp):bC al true dst s t (s.bO G) (t.bO G):=⟨[],[],G,.inl rfl,fun h=>(by cases h),rfl,rfl⟩
theorem bC.sM {al:Bool} (hG:s.G=t.G) (dst:Option Tmp) (d:Nat) (cs:List AV):bC al true dst s t (s.sM d cs) (t.sM d cs):=
 ⟨[],[(d,cs)],s.G,.inl rfl,fun h=>(by cases h),rfl,(by rw [hG]; rfl)⟩
theorem fX {a b:aW}:∀ {l:List Operand},(∀ y∈l,bi E a y=bi E b y)→kS E a l=kS E b l
 | [],_=>rfl
 | x :: l,h=>by
  simp only [kS]
  rw [h x (by simp),fX (l:=l) (fun y hy=>h y (by simp [hy]))]
theorem lB {a b:aW}:∀ {l:List (Nat × Operand)},(∀ p∈l,bi E a p.2=bi E b p.2)→IC E a l=IC E b l
 | [],_=>rfl
 | (i,x) :: l,h=>by
  simp only [IC]
  rw [h (i,x) (by simp),lB (l:=l) (fun y hy=>h y (by simp [hy]))]
theorem wP (hG:s.G=t.G) (p:SV) (hB:∀ k off,p=.lp k off→dy s.boxes k=dy t.boxes k):lS s p=lS t p:=by
 unfold lS
 rw [hG]
 cases p with
 | lp k off=>simp only [hB k off rfl]
 | v a=>cases a <;> rfl
 | _=>rfl
theorem Ap (hG:s.G=t.G) (ty:TypeId) (p:SV) (hB:∀ k off,p=.lp k off→dy s.boxes k=dy t.boxes k):pQ E s ty p=pQ E t ty p:=by
 unfold pQ
 rw [wP hG p hB]
theorem ss (hG:s.G=t.G) (id f i sz:Nat) (ty:TypeId):tK E s id f i sz ty=tK E t id f i sz ty:=by
 unfold tK
 rw [hG]
theorem Aq (hG:s.G=t.G) (ty:TypeId) (p:SV) (hB:∀ k off,p=.lp k off→dy s.boxes k=dy t.boxes k):xf E s ty p=xf E t ty p:=by
 unfold xf
 split
 ·rw [ss hG]
 ·rw [Ap hG _ _ hB]
theorem Ar (hG:s.G=t.G) (esz:Nat) (d x:AV):pS s esz d x=pS t esz d x:=by
 unfold pS
 rw [hG]
theorem su {f:FuncId} {dst:Option Tmp} {el:TypeId} {cs:List AV} {c:Bool} {s':St} (hn:s.n=t.n) (hG:s.G=t.G) (h:eR E f s dst el cs=some (c,s')) :
  ∃ t',eR E f t dst el cs=some (c,t')∧bC true true dst s t s' t':=by
 unfold eR at *
 cases dst with
 | none=>cases h
 | some d=>
  simp only at *
  split at h
  ·rename_i hg
   injection h with h
   injection h with h1 h2
   subst h1 h2
   rw [if_pos hg]
   refine ⟨_,rfl,?_⟩
   have:=bC.dj (al:=true) hn (s.G++[.row cs el]) (some d) (.v (.ptr s.G.length 0))
   rw [hG] at this
   have e:s.dH (.row cs el)=s.bO (t.G++[.row cs el]):=by rw [← hG]; rfl
   rw [e,hG]
   exact this
  ·rename_i hg
   rw [if_neg hg,← hn]
   split at h
   ·rename_i hb
    injection h with h
    injection h with h1 h2
    subst h1 h2
    refine ⟨_,rfl,[.put d (.lp d 0),.kill d],[(d,cs)],s.G,.inr ⟨d,_,rfl,.inr ⟨rfl,rfl⟩⟩,fun h=>(by cases h),?_,?_⟩
    ·simp [St.put,St.sM,St.kill,hb,St.fb]
    ·simp only [St.put,St.sM,St.kill,← hn,hb,St.fb,hG]
     rfl
   ·cases h
theorem As {ty:TypeId} {p x:SV} {s':St} {al:Bool} {dst:Option Tmp} (hG:s.G=t.G) (hB:∀ k off,p=.lp k off→dy s.boxes k=dy t.boxes k) (h:iW E s ty p x=some s') :
  ∃ t',iW E t ty p x=some t'∧bC al true dst s t s' t':=by
 unfold iW at *
 split at h
 ·split at h
  ·rename_i hc
   rw [if_pos hc]
   split at h
   ·rw [← hB _ _ rfl]
    split at h
    ·split at h
     ·rename_i E4
      cases h
      simp only [E4,if_true]
      exact ⟨_,rfl,.sM hG _ _ _⟩
     ·cases h
    ·cases h
   ·rw [← hG]
    split at h
    ·split at h
     ·rename_i E4
      cases h
      simp only [E4,if_true]
      exact ⟨_,rfl,.bO _ _⟩
     ·cases h
    ·cases h
   ·cases h
  ·cases h
 ·cases h
theorem Au {ty:TypeId} {p x:SV} {c:Bool} {s':St} {al:Bool} {dst:Option Tmp} (hG:s.G=t.G) (hB:∀ k off,p=.lp k off→dy s.boxes k=dy t.boxes k) (h:iX E s ty p x=some (c,s')) :
  ∃ t',iX E t ty p x=some (c,t')∧bC al true dst s t s' t':=by
 unfold iX at *
 split at h
 ·rw [← hG]
  split at h
  ·split at h
   ·rename_i h1 h2 hc
    simp only [hc,if_true]
    split at h
    ·rename_i E4
     injection h with h; injection h with e1 e2
     subst e1; subst e2
     simp only [E4,if_true]
     exact ⟨_,rfl,.bO _ _⟩
    ·rename_i E4
     rw [if_neg E4,← ss hG]
     split at h
     ·rename_i hg
      split at h
      ·rename_i Ym
       injection h with h; injection h with e1 e2
       subst e1; subst e2
       simp only [Ym,if_true]
       exact ⟨_,rfl,.bO _ _⟩
      ·cases h
     ·cases h
   ·cases h
  ·cases h
 ·split at h
  ·rename_i s1 hs
   injection h with h; injection h with e1 e2
   subst e1; subst e2
   obtain ⟨t',h3,h4⟩:=As (al:=al) (dst:=dst) hG hB hs
   simp only [h3]
   exact ⟨_,rfl,h4⟩
  ·cases h
def bJ:Op→Bool
 | .alloc _=>true
 | .box _ _=>true
 | _=>false
def ra:Op→Bool
 | .move _ | .assign _ | .pick _ _ _ | .build _ _ | .buildSlice _ _ _ | .load _ _ | .binOp _ _ _ _ _ | .unOp _ _ _ | .convert _ _ _ | .makeFunc _ _ _ | .fieldAddr _ _ _ | .field _ _ _
 | .indexAddr _ _ _ | .index _ _ _ | .slice _ _ _ _ _ | .extract _ _ | .lookup _ _ _ _ | .nilCheck _=>true
 | .call { callee:=.builtin .len,.. }=>true
 | .call { callee:=.builtin .max,.. }=>true
 | .call { callee:=.builtin .min,.. }=>true
 | _=>false
def MM:Op→Bool
 | .load _ _=>true
 | .lookup _ _ _ _=>true
 | .call _=>true
 | .convert _ _ _=>true
 | _=>false
def Jh:Builtin→Bool
 | .append | .copy | .clear=>true
 | _=>false
theorem wQ {dst:Option Tmp} {b:Builtin} {l:List AV} {tys:List TypeId} {c:Bool} {s':St} {al:Bool} (hn:s.n=t.n) (hG:s.G=t.G) (h:bG E s dst b l tys=some (c,s')) :
  ∃ t',bG E t dst b l tys=some (c,t')∧bC al (Jh b) dst s t s' t':=by
 obtain ⟨sl,bx,G,m,ro,n⟩:=s
 obtain ⟨PY,F4,G',m',lh,n'⟩:=t
 have hc:=fun esz d x=>Ar (s:=⟨sl,bx,G,m,ro,n⟩) (t:=⟨PY,F4,G',m',lh,n'⟩) hG esz d x
 simp only at hn hG
 subst hn hG
 unfold bG at h ⊢
 simp only [← hc]
 cases b
 all_goals (try (cases h; done))
 all_goals (try simp only at h ⊢)
 all_goals (try (split at h <;> first | (cases h; done) | simp only at h ⊢))
 all_goals (repeat' (split at h))
 all_goals (first | (cases h; done) | skip)
 all_goals (injection h with h; injection h with h1 h2; subst h1 h2)
 all_goals (try simp only [if_true, *])
 all_goals (first | exact ⟨_,rfl,.put (by rfl) (by rfl) _ _⟩ | exact ⟨_,rfl,.dj (by rfl) _ _ _⟩ | exact ⟨_,rfl,.bO _ _⟩)
theorem uF (hG:s.G=t.G) (a b:TypeId) (x:SV):ln E s a b x=ln E t a b x:=by
 unfold ln
 rw [hG]
theorem wR (hG:s.G=t.G) (ty:TypeId) (m k:SV):kF E s ty m k=kF E t ty m k:=by
 have:mapOf s=mapOf t:=by funext m; unfold mapOf; rw [hG]
 unfold kF iD
 rw [this,hG]
theorem qq {ty:TypeId} {m k x:SV} {s':St} {al:Bool} {dst:Option Tmp} (hG:s.G=t.G) (h:eT E s ty m k x=some s') :
  ∃ t',eT E t ty m k x=some t'∧bC al true dst s t s' t':=by
 unfold eT at *
 rw [← hG]
 repeat' (split at h)
 all_goals (first | (cases h; done) | skip)
 cases h
 simp only [*]
 exact ⟨_,rfl,.bO _ _⟩
theorem Cr {dst:Option Tmp} {x:SV} {s':St} {al:Bool} (hn:s.n=t.n) (hG:s.G=t.G) (h:kG s dst x=some s') :
  ∃ t',kG t dst x=some t'∧bC al true dst s t s' t':=by
 unfold kG at *
 rw [← hG]
 split at h
 ·split at h
  ·rename_i l pos hg
   cases hb:Nat.blt pos l.length with
   | true=>
    rw [hb] at h
    simp only [cond_true] at h ⊢
    cases h
    exact ⟨_,rfl,.dj hn _ _ _⟩
   | false=>
    rw [hb] at h
    simp only [cond_false] at h ⊢
    cases h
    obtain ⟨pre,preB,G,p1,p2,p3⟩:=bC.put (al:=al) (w:=true) hn hG dst (.v (.bh [.bool false]))
    exact ⟨_,rfl,pre,preB,G,p1,p2,p3⟩
  ·cases h
 ·cases h
theorem mq {f:FuncId} {r:Bool × St} (h:gk E f s o=some r):∃ args tys,o.op=.call { callee:=.builtin .append,args:=args,argTypes:=tys }:=by
 unfold gk at h
 split at h
 ·split at h
  ·split at h
   ·rename_i args tys ho
    exact ⟨args,tys,ho⟩
   ·cases h
  ·cases h
 ·cases h
theorem uG {f:FuncId} {c:Bool} {s':St} {al:Bool} (hn:s.n=t.n) (hG:s.G=t.G) (dX:∀ y∈o.op.operands,bi E s.ae y=bi E t.ae y)
  (h:gk E f s o=some (c,s')):∃ t',gk E f t o=some (c,t')∧bC al true o.dst s t s' t':=by
 obtain ⟨args,tys,ho⟩:=mq h
 have h1:kS E s.ae args.toList=kS E t.ae args.toList:=fX fun y hy=>dX y (by rw [ho]; simp [Op.operands,Call.operands]; simpa using hy)
 unfold gk at h ⊢
 rw [ho] at h ⊢
 simp only [h1,hG] at h ⊢
 repeat' (split at h)
 all_goals (first | (cases h; done) | skip)
 injection h with h; injection h with h2 h3
 subst h2 h3
 simp only [*,if_true]
 refine ⟨_,rfl,?_⟩
 exact bC.dj hn _ _ _
theorem s7 {f:FuncId} (hn:s.n=t.n) (hG:s.G=t.G) (dX:∀ y∈o.op.operands,bi E s.ae y=bi E t.ae y) (h:gk E f s o=none):gk E f t o=none:=by
 cases ht:gk E f t o with
 | none=>rfl
 | some r=>
  obtain ⟨t',h1,_⟩:=uG (s:=t) (t:=s) (al:=false) hn.symm hG.symm (fun y hy=>(dX y hy).symm) (c:=r.1) (s':=r.2) ht
  rw [h] at h1
  cases h1
theorem qt {f:FuncId} {c:Bool} {s':St} (hn:s.n=t.n) (hG:s.G=t.G) (hB:∀ k off,(∃ y∈o.op.operands,bi E s.ae y=.lp k off)→dy s.boxes k=dy t.boxes k) (dX:∀ y∈o.op.operands,bi E s.ae y=bi E t.ae y)
  (h:an E f s o=some (c,s')):∃ t',an E f t o=some (c,t')∧bC (bJ o.op) (!ra o.op) o.dst s t s' t':=by
 obtain ⟨dst,op,ty,pos,after,guard⟩:=o
 cases op
 case move x=>
  simp only [an,dX x (by simp [Op.operands])] at h ⊢
  split at h
  all_goals (injection h with h; injection h with h1 h2; subst h1 h2; (try simp only [*]); exact ⟨_,rfl,.put hn hG _ _⟩)
 case assign x=>
  simp only [an,dX x (by simp [Op.operands])] at h ⊢
  split at h
  all_goals (injection h with h; injection h with h1 h2; subst h1 h2; (try simp only [*]); exact ⟨_,rfl,.put hn hG _ _⟩)
 case pick x y z=>
  simp only [an,dX x (by simp [Op.operands]),dX y (by simp [Op.operands]),dX z (by simp [Op.operands])] at h ⊢
  split at h
  ·injection h with h; injection h with h1 h2; subst h1 h2; (try simp only [*]); exact ⟨_,rfl,.put hn hG _ _⟩
  ·cases h
 case alloc e=>
  simp only [an] at h ⊢
  repeat' (split at h)
  all_goals (first | (cases h; done) | skip)
  simp only [*]
  exact su hn hG h
 case box e x=>
  simp only [an,dX x (by simp [Op.operands])] at h ⊢
  repeat' (split at h)
  all_goals (first | (cases h; done) | skip)
  simp only [*]
  exact su hn hG h
 case build ty ps=>
  have he:lT E s ty ps.toList=lT E t ty ps.toList:=by
   unfold lT
   rw [lB (fun p hp=>dX p.2 (by simp only [Op.operands,List.mem_toArray,List.mem_map]; exact ⟨p,hp,rfl⟩))]
  simp only [an,he] at h ⊢
  split at h
  ·injection h with h; injection h with h1 h2; subst h1 h2; (try simp only [*]); exact ⟨_,rfl,.put hn hG _ _⟩
  ·cases h
 case buildSlice ty len ps=>
  have he:bQ E s ty len ps.toList=bQ E t ty len ps.toList:=by
   unfold bQ
   rw [lB (fun p hp=>dX p.2 (by simp only [Op.operands,List.mem_toArray,List.mem_map]; exact ⟨p,hp,rfl⟩))]
  simp only [an,he] at h ⊢
  split at h
  ·injection h with h; injection h with h1 h2; subst h1 h2; (try simp only [*]); exact ⟨_,rfl,.put hn hG _ _⟩
  ·cases h
 case load ty x=>
  simp only [an,dX x (by simp [Op.operands])] at h ⊢
  rw [Aq hG ty _ (fun k off e=>hB k off ⟨x,by simp [Op.operands],by rw [dX x (by simp [Op.operands])]; exact e⟩)] at h
  split at h
  ·injection h with h; injection h with h1 h2; subst h1 h2; (try simp only [*]); exact ⟨_,rfl,.put hn hG _ _⟩
  ·cases h
 case store ty x y=>
  simp only [an,dX x (by simp [Op.operands]),dX y (by simp [Op.operands])] at h ⊢
  split at h
  ·rename_i s1 hs
   injection h with h; injection h with h1 h2; subst h1 h2
   obtain ⟨t',h3,h4⟩:=Au (al:=false) (dst:=none) hG (fun k off e=>hB k off ⟨x,by simp [Op.operands],by rw [dX x (by simp [Op.operands])]; exact e⟩) hs
   rw [h3]
   exact ⟨_,rfl,h4⟩
  ·cases h
 case binOp op a x y b=>
  simp only [an,dX x (by simp [Op.operands]),dX y (by simp [Op.operands])] at h ⊢
  repeat' (split at h)
  all_goals (first | (cases h; done) | skip)
  all_goals (injection h with h; injection h with h1 h2; subst h1 h2; (try simp only [*]); exact ⟨_,rfl,.put hn hG _ _⟩)
 case unOp op a x=>
  simp only [an,dX x (by simp [Op.operands])] at h ⊢
  repeat' (split at h)
  all_goals (first | (cases h; done) | skip)
  all_goals (injection h with h; injection h with h1 h2; subst h1 h2; (try simp only [*]); exact ⟨_,rfl,.put hn hG _ _⟩)
 case nilCheck x=>
  simp only [an,dX x (by simp [Op.operands])] at h ⊢
  repeat' (split at h)
  all_goals (first | (cases h; done) | skip)
  all_goals (injection h with h; injection h with h1 h2; subst h1 h2; (try simp only [*]); exact ⟨_,rfl,.put hn hG _ _⟩)
 case convert a b x=>
  simp only [an,dX x (by simp [Op.operands]),uF hG] at h ⊢
  repeat' (split at h)
  all_goals (first | (cases h; done) | skip)
  all_goals (injection h with h; injection h with h1 h2; subst h1 h2; (try simp only [*]); exact ⟨_,rfl,.put hn hG _ _⟩)
 case makeFunc fo a b=>
  cases fo with
  | func g=>
   have h1:kS E s.ae a.toList=kS E t.ae a.toList:=fX fun y hy=>dX y (by simp only [Op.operands,Array.mem_append]; exact .inl (by simpa using hy))
   have h2:kS E s.ae b.toList=kS E t.ae b.toList:=fX fun y hy=>dX y (by simp only [Op.operands,Array.mem_append]; exact .inr (by simpa using hy))
   simp only [an,h1,h2] at h ⊢
   repeat' (split at h)
   all_goals (first | (cases h; done) | skip)
   all_goals (injection h with h; injection h with h1 h2; subst h1 h2; (try simp only [*]); exact ⟨_,rfl,.put hn hG _ _⟩)
  | _=>simp [an] at h
 case fieldAddr a x j=>
  simp only [an,dX x (by simp [Op.operands])] at h ⊢
  repeat' (split at h)
  all_goals (first | (cases h; done) | skip)
  all_goals (injection h with h; injection h with h1 h2; subst h1 h2; (try simp only [*]); exact ⟨_,rfl,.put hn hG _ _⟩)
 case field a x j=>
  simp only [an,dX x (by simp [Op.operands])] at h ⊢
  repeat' (split at h)
  all_goals (first | (cases h; done) | skip)
  all_goals (injection h with h; injection h with h1 h2; subst h1 h2; (try simp only [*]); exact ⟨_,rfl,.put hn hG _ _⟩)
 case indexAddr a x y=>
  simp only [an,dX x (by simp [Op.operands]),dX y (by simp [Op.operands])] at h ⊢
  repeat' (split at h)
  all_goals (first | (cases h; done) | skip)
  all_goals (injection h with h; injection h with h1 h2; subst h1 h2; (try simp only [*]); exact ⟨_,rfl,.put hn hG _ _⟩)
 case index a x y=>
  simp only [an,dX x (by simp [Op.operands]),dX y (by simp [Op.operands])] at h ⊢
  repeat' (split at h)
  all_goals (first | (cases h; done) | skip)
  all_goals (injection h with h; injection h with h1 h2; subst h1 h2; (try simp only [*]); exact ⟨_,rfl,.put hn hG _ _⟩)
 case slice a x lo hi mx=>
  have h1:lU E s.ae lo=lU E t.ae lo:=by
   cases lo with
   | none=>rfl
   | some y=>simp only [lU]; rw [dX y (by simp [Op.operands])]
  have h2:lU E s.ae hi=lU E t.ae hi:=by
   cases hi with
   | none=>rfl
   | some y=>simp only [lU]; rw [dX y (by simp [Op.operands])]
  simp only [an,dX x (by simp [Op.operands]),h1,h2] at h ⊢
  repeat' (split at h)
  all_goals (first | (cases h; done) | skip)
  all_goals (injection h with h; injection h with h1 h2; subst h1 h2; (try simp only [*]); exact ⟨_,rfl,.put hn hG _ _⟩)
 case extract x i=>
  simp only [an,dX x (by simp [Op.operands])] at h ⊢
  repeat' (split at h)
  all_goals (first | (cases h; done) | skip)
  all_goals (injection h with h; injection h with h1 h2; subst h1 h2; (try simp only [*]); exact ⟨_,rfl,.put hn hG _ _⟩)
 case makeSlice ty x y=>
  simp only [an,dX x (by simp [Op.operands]),dX y (by simp [Op.operands])] at h ⊢
  repeat' (split at h)
  all_goals (first | (cases h; done) | skip)
  all_goals (injection h with h; injection h with h1 h2; subst h1 h2)
  all_goals (simp only [*])
  all_goals (refine ⟨_,rfl,?_⟩)
  all_goals (have e:∀ o,t.dH o=t.bO (s.G++[o]):=fun o=>by rw [hG]; rfl)
  all_goals (rw [e,← hG])
  all_goals (exact bC.dj (al:=false) hn _ dst _)
 case lookup ty x y ok=>
  simp only [an,dX x (by simp [Op.operands]),dX y (by simp [Op.operands]),wR hG] at h ⊢
  split at h
  ·injection h with h; injection h with h1 h2; subst h1 h2; (try simp only [*]); exact ⟨_,rfl,.put hn hG _ _⟩
  ·cases h
 case mapUpdate ty x y z=>
  simp only [an,dX x (by simp [Op.operands]),dX y (by simp [Op.operands]),dX z (by simp [Op.operands])] at h ⊢
  split at h
  ·rename_i s1 hs
   injection h with h; injection h with h1 h2; subst h1 h2
   obtain ⟨t',h3,h4⟩:=qq (al:=false) (dst:=none) hG hs
   rw [h3]
   exact ⟨_,rfl,h4⟩
  ·cases h
 case insert ty x y z=>
  simp only [an,dX x (by simp [Op.operands]),dX y (by simp [Op.operands]),dX z (by simp [Op.operands])] at h ⊢
  split at h
  ·rename_i s1 hs
   injection h with h; injection h with h1 h2; subst h1 h2
   obtain ⟨t',h3,h4⟩:=qq (al:=false) (dst:=none) hG hs
   rw [h3]
   exact ⟨_,rfl,h4⟩
  ·cases h
 case entry x=>
  simp only [an,dX x (by simp [Op.operands])] at h ⊢
  have e:rA E s (bi E t.ae x)=rA E t (bi E t.ae x):=by unfold rA; rw [hG]
  rw [e] at h
  split at h
  ·injection h with h; injection h with h1 h2; subst h1 h2; (try simp only [*]); exact ⟨_,rfl,.put hn hG _ _⟩
  ·cases h
 case mapEntry ty x y=>
  simp only [an,dX x (by simp [Op.operands]),dX y (by simp [Op.operands])] at h ⊢
  unfold fV at h ⊢
  rw [← hG]
  repeat' (split at h)
  all_goals (first | (cases h; done) | skip)
  rename_i jL
  repeat' (split at jL)
  all_goals (first | (cases jL; done) | skip)
  injection jL with jL; injection jL with h3 jL; injection jL with h4 h5
  injection h with h; injection h with h1 h2; subst h1 h2 h3 h4 h5
  simp only [*,if_true]
  exact ⟨_,rfl,bC.dj (al:=false) hn _ dst _⟩
 case entryStore ty x y z=>
  simp only [an,dX x (by simp [Op.operands]),dX y (by simp [Op.operands]),dX z (by simp [Op.operands])] at h ⊢
  unfold dV at h ⊢
  rw [← hG]
  repeat' (split at h)
  all_goals (first | (cases h; done) | skip)
  rename_i jL
  repeat' (split at jL)
  all_goals (first | (cases jL; done) | skip)
  injection jL with jL; injection jL with h3 h5
  injection h with h; injection h with h1 h2; subst h1 h2 h3 h5
  simp only [*]
  exact ⟨_,rfl,.bO _ _⟩
 case range ty x=>
  simp only [an,dX x (by simp [Op.operands])] at h ⊢
  repeat' (split at h)
  all_goals (first | (cases h; done) | skip)
  ·injection h with h; injection h with h1 h2; subst h1 h2
   (try simp only [*])
   refine ⟨_,rfl,?_⟩
   have e:∀ o,t.dH o=t.bO (s.G++[o]):=fun o=>by rw [hG]; rfl
   rw [e,← hG]
   exact bC.dj (al:=false) hn _ dst _
  ·rename_i hk hg
   injection h with h; injection h with h1 h2; subst h1 h2
   have zD:=hg
   rw [hG] at zD
   simp only [hk,zD]
   refine ⟨_,rfl,?_⟩
   have e:∀ o,t.dH o=t.bO (s.G++[o]):=fun o=>by rw [hG]; rfl
   rw [e,← hG]
   exact bC.dj (al:=false) hn _ dst _
 case next x b=>
  cases b with
  | false=>simp [an] at h
  | true=>
   simp only [an,dX x (by simp [Op.operands])] at h ⊢
   split at h
   ·rename_i s1 hs
    injection h with h; injection h with h1 h2; subst h1 h2
    obtain ⟨t',h3,h4⟩:=Cr (al:=false) hn hG hs
    rw [h3]
    exact ⟨_,rfl,h4⟩
   ·cases h
 case makeMap ty r=>
  cases r with
  | none=>
   simp only [an] at h ⊢
   injection h with h; injection h with h1 h2; subst h1 h2
   refine ⟨_,rfl,?_⟩
   have:=bC.dj (al:=false) hn (s.G++[.map []]) dst (.v (.map s.G.length))
   have e:∀ o,t.dH o=t.bO (s.G++[o]):=fun o=>by rw [hG]; rfl
   rw [e,← hG]
   exact this
  | some _=>simp [an] at h
 case call cl=>
  obtain ⟨callee,args,tys⟩:=cl
  cases callee with
  | builtin b=>
   have h1:kS E s.ae args.toList=kS E t.ae args.toList:=fX fun y hy=>dX y (by simp [Op.operands,Call.operands]; simpa using hy)
   cases hf:gk E f s { dst:=dst,op:=.call { callee:=.builtin b,args:=args,argTypes:=tys },type:=ty,pos:=pos,after:=after,guard:=guard } with
   | some r=>
    simp only [an,hf] at h
    obtain ⟨t',q1,q2⟩:=uG (al:=bJ (.call { callee:=.builtin b,args:=args,argTypes:=tys })) hn hG dX (c:=r.1) (s':=r.2) hf
    cases h
    obtain ⟨a2,t2,ho⟩:=mq hf
    cases ho
    refine ⟨t',by simp only [an,q1],?_⟩
    exact q2
   | none=>
   have Q4:=s7 hn hG dX hf
   simp only [an,hf,Q4,h1] at h ⊢
   split at h
   ·(try simp only [*])
    obtain ⟨t',h3,h4⟩:=wQ (al:=false) hn hG h
    refine ⟨t',h3,?_⟩
    have:(!ra (.call { callee:=.builtin b,args:=args,argTypes:=tys }))=Jh b∨Jh b=false:=by cases b <;> simp [ra,Jh]
    rcases this with this | this
    ·rw [this]; exact h4
    ·obtain ⟨pre,preB,G,p1,p2,p3⟩:=h4
     exact ⟨pre,preB,G,p1,fun _=>p2 this,p3⟩
   ·cases h
  | _=>simp [an] at h
 all_goals (simp [an] at h)
theorem gH {f:FuncId} {c:Bool} {s':St} (hn:s.n=t.n) (hG:s.G=t.G) (hB:dy s.boxes=dy t.boxes) (dX:∀ y∈o.op.operands,bi E s.ae y=bi E t.ae y)
  (h:an E f s o=some (c,s')):∃ t',an E f t o=some (c,t')∧bC (bJ o.op) (!ra o.op) o.dst s t s' t':=
 qt hn hG (fun k _ _=>by rw [hB]) dX h
end
end Go.Am
namespace Go.Am
open Go
structure ob (s t:St):Prop where
 l:lk s.ae=lk t.ae
 b:dy s.boxes=dy t.boxes
 G:s.G=t.G
 m:s.marks=t.marks
 ro:s.ro=t.ro
 n:s.n=t.n
theorem ob.refl (s:St):ob s s:=⟨rfl,rfl,rfl,rfl,rfl,rfl⟩
theorem ob.symm {s t:St} (h:ob s t):ob t s:=⟨h.l.symm,h.b.symm,h.G.symm,h.m.symm,h.ro.symm,h.n.symm⟩
theorem ob.trans {s t u:St} (h:ob s t) (k:ob t u):ob s u:=⟨h.l.trans k.l,h.b.trans k.b,h.G.trans k.G,h.m.trans k.m,h.ro.trans k.ro,h.n.trans k.n⟩
theorem lC {a b:aW} {e:Nat} (h:lk a e=lk b e):∀ pre:aW,lk (pre++a) e=lk (pre++b) e
 | []=>h
 | .put d x :: pre=>by
  simp only [List.cons_append,lk]
  rw [lC h pre]
 | .kill d :: pre=>by
  simp only [List.cons_append,lk]
  rw [lC h pre]
theorem uH {a b:cA} {e:Nat} (h:dy a e=dy b e):∀ pre:cA,dy (pre++a) e=dy (pre++b) e
 | []=>h
 | (d,x) :: pre=>by
  simp only [List.cons_append,dy]
  rw [uH h pre]
theorem ob.fb {s t:St} (h:ob s t) (pre:aW) (preB:cA) (G:List GO):ob (s.fb pre preB G) (t.fb pre preB G):=
 ⟨funext fun e=>lC (by rw [h.l]) pre,funext fun e=>uH (by rw [h.b]) preB,rfl,h.m,h.ro,h.n⟩
theorem GN {E:Env} {a b:aW} {x:Operand} (h:∀ t,x=.tmp t→lk a t=lk b t):bi E a x=bi E b x:=by
 cases x with
 | tmp t=>exact h t rfl
 | _=>rfl
theorem ob.bi {E:Env} {s t:St} (h:ob s t) (x:Operand):bi E s.ae x=bi E t.ae x:=GN fun e _=>by rw [h.l]
section yM
variable {E:Env} {R:ak} {w:World} {β:Nat→Nat} {s t:St} {a:Act}
theorem aY.eqv (h:aY E R w β s a) (e:ob s t):aY E R w β t a where
 g:=by rw [← e.G]; exact h.g
 b:=⟨fun k cs hk=>h.b.box k cs (by rw [e.b]; exact hk),fun k k' c c' h1 h2=>h.b.inj k k' c c' (by rw [e.b]; exact h1) (by rw [e.b]; exact h2)⟩
 t:=fun i hi=>by
  rw [← e.l] at hi ⊢
  exact h.t i hi
 n:=by rw [← e.n]; exact h.n
 d:=by rw [← e.m]; exact h.d
theorem to {bx F4:cA} (h:dy bx=dy F4) {b:Nat} (k:Own R β bx b):Own R β F4 b:=by
 rcases k with k | ⟨j,cs,h1,h2⟩
 ·exact .inl k
 ·exact .inr ⟨j,cs,by rw [← h]; exact h1,h2⟩
theorem Step.eqv {R':ak} {w':World} {β':Nat→Nat} {bx F4 cx Ww:cA} (h:Step R w β bx R' w' β' F4) (h1:dy bx=dy cx) (h2:dy F4=dy Ww):Step R w β cx R' w' β' Ww:=
 ⟨h.ext,h.os,h.tape,h.output,h.size,fun b hb hn=>h.aZ b hb (fun ho=>hn (to h1 ho)),fun b hb ho=>to h1 (h.own b hb (to h2.symm ho)),fun b o hi hb hn=>h.im b o hi hb (fun ho=>hn (to h1 ho))⟩
end yM
section ops
variable {E:Env} {s t:St} {f:FuncId} {o:Oper} {K K':St→Prop}
def Inv (K:St→Prop):Prop:=∀ s t,ob s t→K s→K t
theorem Av {op:Op} (h:ra op=true):bJ op=false:=by
 cases op <;> simp_all [ra,bJ]
theorem rO (hn:s.n=t.n) (hG:s.G=t.G) (hB:dy s.boxes=dy t.boxes) (dX:∀ y∈o.op.operands,bi E s.ae y=bi E t.ae y) (h:jz E f o K s)
  (hK:∀ pre preB G,PX (bJ o.op) o.dst pre→(ra o.op=true→preB=[]∧G=s.G)→K (s.fb pre preB G)→K' (t.fb pre preB G)):jz E f o K' t:=by
 unfold jz at h ⊢
 split at h
 ·rename_i x args tys ho
  have h1:bi E s.ae x=bi E t.ae x:=dX x (by rw [ho]; simp [Op.operands,Call.operands])
  have h2:kS E s.ae args.toList=kS E t.ae args.toList:=fX fun y hy=>dX y (by rw [ho]; simp [Op.operands,Call.operands]; exact .inr (by simpa using hy))
  try simp only [ho]
  rw [← h1,← h2,← hG]
  split at h
  ·refine cH.mono h fun r G' hk=>?_
   obtain ⟨pre,preB,G,p1,p2,p3,p4⟩:=bC.dj (s:=s) (t:=t) (al:=bJ o.op) hn G' o.dst (.v r)
   rw [p3] at hk
   rw [p4]
   exact hK pre preB G p1 (fun e=>by rw [ho] at e; simp [ra] at e) hk
  ·refine j4.mono h fun r G' hk=>?_
   obtain ⟨pre,preB,G,p1,p2,p3,p4⟩:=bC.dj (s:=s) (t:=t) (al:=bJ o.op) hn G' o.dst (.v (.bool r))
   rw [p3] at hk
   rw [p4]
   exact hK pre preB G p1 (fun e=>by rw [ho] at e; simp [ra] at e) hk
  ·exact h.elim
 ·exact h.elim
 ·split at h
  ·rename_i c s' hs
   obtain ⟨t',h1,pre,preB,G,p1,p2,p3,p4⟩:=gH hn hG hB dX hs
   rw [h1]
   obtain ⟨rfl,hk⟩:=h.out
   refine dq.mk rfl ?_
   rw [p3] at hk
   rw [p4]
   exact hK pre preB G p1 (fun e=>⟨(p2 (by simp [e])).1,(p2 (by simp [e])).2.1⟩) hk
  ·exact h.elim
theorem rP (h:jz E f o K s) (hK:∀ s,K s→K' s):jz E f o K' s:=
 rO rfl rfl rfl (fun _ _=>rfl) h fun _ _ _ _ _ hk=>hK _ hk
theorem uI (h:jz E f o K s) (e:ob s t) (hK:Inv K):jz E f o K t:=
 rO e.n e.G e.b (fun y _=>e.bi y) h fun _ _ _ _ _ hk=>hK _ _ (e.fb _ _ _) hk
def zH (ops:List Oper) (s:St) (o:Oper):Option Bool:=match o.guard with
 | none=>some true
 | some (j,want)=>match nA ops j with
  | some d=>match lk s.ae d with
   | .v (.bool b)=>some (b == want)
   | .v (.bh [])=>some false
   | _=>none
  | none=>none
theorem Aw (s:St) {d:Tmp} {x:SV} (h:lk s.ae d=x):ob s (s.put (some d) x):=by
 simp only [St.put]
 split
 ·refine ⟨funext fun e=>?_,rfl,rfl,rfl,rfl,rfl⟩
  by_cases k:d=e
  ·subst k; rw [ay]; exact h
  ·rw [aL k]
 ·exact ob.refl s
theorem ob.put {s t:St} (h:ob s t) (d:Option Tmp) (x:SV):ob (s.put d x) (t.put d x):=by
 obtain ⟨pre,preB,G,_,_,p3,p4⟩:=bC.put (s:=s) (t:=t) (al:=false) (w:=false) h.n h.G d x
 rw [p3,p4]
 exact h.fb _ _ _
theorem fO {ops:List Oper} (hK:Inv K):bU E f ops o K s↔(zH ops s o=some true∧jz E f o K s)∨(zH ops s o=some false∧K (s.put o.dst (.v fG))):=by
 unfold bU zH
 cases hg:o.guard with
 | none=>simp
 | some p=>
  obtain ⟨j,want⟩:=p
  simp only
  cases hd:nA ops j with
  | none=>simp
  | some d=>
   simp only
   cases hl:lk s.ae d with
   | none=>simp
   | lp _ _=>simp
   | v a=>
    cases a with
    | bool b=>
     have e1:b=want→ob s (s.put (some d) (.v (.bool want))):=fun e=>Aw s (by rw [hl,e])
     have e2:b=(!want)→ob s (s.put (some d) (.v (.bool (!want)))):=fun e=>Aw s (by rw [hl,e])
     constructor
     ·intro ⟨h1,h2⟩
      by_cases e:b=want
      ·exact .inl ⟨by simp [e],uI (h1 e) (e1 e).symm hK⟩
      ·have e':b=(!want):=by cases b <;> cases want <;> simp_all
       exact .inr ⟨by simp [e],hK _ _ ((e2 e').symm.put _ _) (h2 e')⟩
     ·rintro (⟨h1,h2⟩ | ⟨h1,h2⟩)
      ·have e:b=want:=by simpa using h1
       exact ⟨fun e=>uI h2 (e1 e) hK,fun e'=>by subst e; cases b <;> cases e'⟩
      ·have e:¬ b=want:=by simpa using h1
       exact ⟨fun k=>absurd k e,fun e'=>hK _ _ ((e2 e').put _ _) h2⟩
    | bh vs=>cases vs <;> simp
    | _=>simp
theorem bV {ops:List Oper} (h:bU E f ops o K s) (hK:∀ s,K s→K' s):bU E f ops o K' s:=by
 unfold bU at h ⊢
 split at h
 ·exact rP h hK
 ·split at h
  ·exact h.elim
  ·split at h
   ·exact ⟨fun e=>rP (h.1 e) hK,fun e=>hK _ (h.2 e)⟩
   ·exact hK _ h
   ·exact h.elim
theorem yN {ops:List Oper} (e:ob s t):zH ops s o=zH ops t o:=by
 unfold zH
 rw [e.l]
theorem Ax {ops:List Oper} (hK:Inv K):Inv (bU E f ops o K):=fun s t e h=>by
 rw [fO hK] at h ⊢
 rcases h with ⟨h1,h2⟩ | ⟨h1,h2⟩
 ·exact .inl ⟨by rw [← yN e]; exact h1,uI h2 e hK⟩
 ·exact .inr ⟨by rw [← yN e]; exact h1,hK _ _ (e.put _ _) h2⟩
end ops
end Go.Am
namespace Go.Am
open Go
def GP (dst:Option Tmp) (s t s' t':St):Prop:=∃ x,s'=s.put dst x∧t'=t.put dst x
section
variable {E:Env} {s t:St} {o:Oper}
theorem GP.put (_:s.n=t.n) (dst:Option Tmp) (x:SV):GP dst s t (s.put dst x) (t.put dst x):=⟨x,rfl,rfl⟩
theorem Ay {f:FuncId} {c:Bool} {s':St} (hN:ra o.op=true) (hR:MM o.op=false) (hn:s.n=t.n) (dX:∀ y∈o.op.operands,bi E s.ae y=bi E t.ae y)
  (h:an E f s o=some (c,s')):∃ t',an E f t o=some (c,t')∧GP o.dst s t s' t':=by
 obtain ⟨dst,op,ty,pos,after,guard⟩:=o
 cases op
 case move x=>
  simp only [an,dX x (by simp [Op.operands])] at h ⊢
  split at h
  all_goals (injection h with h; injection h with h1 h2; subst h1 h2; (try simp only [*]); exact ⟨_,rfl,.put hn _ _⟩)
 case assign x=>
  simp only [an,dX x (by simp [Op.operands])] at h ⊢
  split at h
  all_goals (injection h with h; injection h with h1 h2; subst h1 h2; (try simp only [*]); exact ⟨_,rfl,.put hn _ _⟩)
 case pick x y z=>
  simp only [an,dX x (by simp [Op.operands]),dX y (by simp [Op.operands]),dX z (by simp [Op.operands])] at h ⊢
  split at h
  ·injection h with h; injection h with h1 h2; subst h1 h2; (try simp only [*]); exact ⟨_,rfl,.put hn _ _⟩
  ·cases h
 case build ty ps=>
  have he:lT E s ty ps.toList=lT E t ty ps.toList:=by
   unfold lT
   rw [lB (fun p hp=>dX p.2 (by simp only [Op.operands,List.mem_toArray,List.mem_map]; exact ⟨p,hp,rfl⟩))]
  simp only [an,he] at h ⊢
  split at h
  ·injection h with h; injection h with h1 h2; subst h1 h2; (try simp only [*]); exact ⟨_,rfl,.put hn _ _⟩
  ·cases h
 case buildSlice ty len ps=>
  have he:bQ E s ty len ps.toList=bQ E t ty len ps.toList:=by
   unfold bQ
   rw [lB (fun p hp=>dX p.2 (by simp only [Op.operands,List.mem_toArray,List.mem_map]; exact ⟨p,hp,rfl⟩))]
  simp only [an,he] at h ⊢
  split at h
  ·injection h with h; injection h with h1 h2; subst h1 h2; (try simp only [*]); exact ⟨_,rfl,.put hn _ _⟩
  ·cases h
 case binOp op a x y b=>
  simp only [an,dX x (by simp [Op.operands]),dX y (by simp [Op.operands])] at h ⊢
  repeat' (split at h)
  all_goals (first | (cases h; done) | skip)
  all_goals (injection h with h; injection h with h1 h2; subst h1 h2; (try simp only [*]); exact ⟨_,rfl,.put hn _ _⟩)
 case unOp op a x=>
  simp only [an,dX x (by simp [Op.operands])] at h ⊢
  repeat' (split at h)
  all_goals (first | (cases h; done) | skip)
  all_goals (injection h with h; injection h with h1 h2; subst h1 h2; (try simp only [*]); exact ⟨_,rfl,.put hn _ _⟩)
 case convert a b x=>simp [MM] at hR
 case nilCheck x=>
  simp only [an,dX x (by simp [Op.operands])] at h ⊢
  repeat' (split at h)
  all_goals (first | (cases h; done) | skip)
  all_goals (injection h with h; injection h with h1 h2; subst h1 h2; (try simp only [*]); exact ⟨_,rfl,.put hn _ _⟩)
 case makeFunc fo a b=>
  cases fo with
  | func g=>
   have h1:kS E s.ae a.toList=kS E t.ae a.toList:=fX fun y hy=>dX y (by simp only [Op.operands,Array.mem_append]; exact .inl (by simpa using hy))
   have h2:kS E s.ae b.toList=kS E t.ae b.toList:=fX fun y hy=>dX y (by simp only [Op.operands,Array.mem_append]; exact .inr (by simpa using hy))
   simp only [an,h1,h2] at h ⊢
   repeat' (split at h)
   all_goals (first | (cases h; done) | skip)
   all_goals (injection h with h; injection h with h1 h2; subst h1 h2; (try simp only [*]); exact ⟨_,rfl,.put hn _ _⟩)
  | _=>simp [an] at h
 case fieldAddr a x j=>
  simp only [an,dX x (by simp [Op.operands])] at h ⊢
  repeat' (split at h)
  all_goals (first | (cases h; done) | skip)
  all_goals (injection h with h; injection h with h1 h2; subst h1 h2; (try simp only [*]); exact ⟨_,rfl,.put hn _ _⟩)
 case field a x j=>
  simp only [an,dX x (by simp [Op.operands])] at h ⊢
  repeat' (split at h)
  all_goals (first | (cases h; done) | skip)
  all_goals (injection h with h; injection h with h1 h2; subst h1 h2; (try simp only [*]); exact ⟨_,rfl,.put hn _ _⟩)
 case indexAddr a x y=>
  simp only [an,dX x (by simp [Op.operands]),dX y (by simp [Op.operands])] at h ⊢
  repeat' (split at h)
  all_goals (first | (cases h; done) | skip)
  all_goals (injection h with h; injection h with h1 h2; subst h1 h2; (try simp only [*]); exact ⟨_,rfl,.put hn _ _⟩)
 case index a x y=>
  simp only [an,dX x (by simp [Op.operands]),dX y (by simp [Op.operands])] at h ⊢
  repeat' (split at h)
  all_goals (first | (cases h; done) | skip)
  all_goals (injection h with h; injection h with h1 h2; subst h1 h2; (try simp only [*]); exact ⟨_,rfl,.put hn _ _⟩)
 case slice a x lo hi mx=>
  have h1:lU E s.ae lo=lU E t.ae lo:=by
   cases lo with
   | none=>rfl
   | some y=>simp only [lU]; rw [dX y (by simp [Op.operands])]
  have h2:lU E s.ae hi=lU E t.ae hi:=by
   cases hi with
   | none=>rfl
   | some y=>simp only [lU]; rw [dX y (by simp [Op.operands])]
  simp only [an,dX x (by simp [Op.operands]),h1,h2] at h ⊢
  repeat' (split at h)
  all_goals (first | (cases h; done) | skip)
  all_goals (injection h with h; injection h with h1 h2; subst h1 h2; (try simp only [*]); exact ⟨_,rfl,.put hn _ _⟩)
 case extract x i=>
  simp only [an,dX x (by simp [Op.operands])] at h ⊢
  repeat' (split at h)
  all_goals (first | (cases h; done) | skip)
  all_goals (injection h with h; injection h with h1 h2; subst h1 h2; (try simp only [*]); exact ⟨_,rfl,.put hn _ _⟩)
 all_goals (first | (simp [ra] at hN; done) | (simp [MM] at hR; done))
end
end Go.Am
namespace Go.Am
open Go
section
variable {E:Env} {s t:St} {f:FuncId} {ops:Array Oper} {o oj oi:Oper} {d:Tmp} {x:SV} {K:St→Prop}
theorem GQ (ops:Array Oper) (j:Nat):nA ops.toList j=(ops[j]?).bind (·.dst):=by
 unfold nA
 rw [aU,Array.getElem?_toList]
 cases ops[j]? <;> rfl
theorem mr {e:Tmp} (h:.tmp e∈o.op.operands):e∈o.looksAt ops:=
 List.mem_append_left _ (List.mem_filterMap.2 ⟨.tmp e,by simpa using h,rfl⟩)
theorem je {j:Nat} {want:Bool} {e:Tmp} (h:o.guard=some (j,want)) (he:nA ops.toList j=some e):e∈o.looksAt ops:=by
 rw [GQ] at he
 refine List.mem_append_right _ ?_
 rw [h]
 simp [he]
theorem j5 (h:∀ e∈o.looksAt ops,lk s.ae e=lk t.ae e):∀ y∈o.op.operands,bi E s.ae y=bi E t.ae y:=fun _ hy=>
 GN fun e he=>h e (mr (he ▸ hy))
theorem jN (h:∀ e∈o.looksAt ops,lk s.ae e=lk t.ae e):zH ops.toList s o=zH ops.toList t o:=by
 unfold zH
 split
 ·rfl
 ·rename_i j want hg
  split
  ·rename_i e he
   rw [h e (je hg he)]
  ·rfl
theorem tp (s:St) (d:Tmp) (x:SV) {e:Nat} (h:d≠e):lk (s.put (some d) x).ae e=lk s.ae e:=by
 simp only [St.put]
 split
 ·exact aL h
 ·rfl
theorem fP (s:St) (d:Option Tmp) (x:SV):(s.put d x).boxes=s.boxes∧(s.put d x).G=s.G∧(s.put d x).n=s.n∧(s.put d x).marks=s.marks∧(s.put d x).ro=s.ro:=by
 cases d with
 | none=>exact ⟨rfl,rfl,rfl,rfl,rfl⟩
 | some d=>
  simp only [St.put]
  split <;> exact ⟨rfl,rfl,rfl,rfl,rfl⟩
def uJ (E:Env) (f:FuncId) (ops:Array Oper) (o:Oper) (s:St) (x:SV):Prop:=
 (zH ops.toList s o=some true∧an E f s o=some (true,s.put o.dst x))∨(zH ops.toList s o=some false∧x=.v fG)
theorem GR {c:Bool} {s':St} (hN:ra o.op=true) (h:an E f s o=some (c,s')):∃ x,s'=s.put o.dst x:=by
 obtain ⟨t',_,pre,preB,G,_,h2,_,_⟩:=gH (t:=s) rfl rfl rfl (fun _ _=>rfl) h
 obtain ⟨_,_,x,hx,_⟩:=h2 (by simp [hN])
 exact ⟨x,hx⟩
theorem GS (hN:ra o.op=true):jz E f o K s↔∃ s',an E f s o=some (true,s')∧K s':=by
 unfold jz
 split
 ·rename_i h
  rw [h] at hN
  simp [ra] at hN
 ·rename_i h
  rw [h] at hN
  simp [ra] at hN
 ·split
  ·rename_i c s' hs
   constructor
   ·intro h
    obtain ⟨rfl,hk⟩:=h.out
    exact ⟨s',hs,hk⟩
   ·rintro ⟨yC,h1,h2⟩
    rw [hs] at h1
    cases h1
    exact dq.mk rfl h2
  ·rename_i hs
   constructor
   ·exact fun h=>h.elim
   ·rintro ⟨yC,h1,_⟩
    rw [hs] at h1
    cases h1
theorem uK (hN:ra o.op=true) (hK:Inv K) (h:bU E f ops.toList o K s):∃ x,uJ E f ops o s x∧K (s.put o.dst x):=by
 rcases (fO hK).1 h with ⟨h1,h2⟩ | ⟨h1,h2⟩
 ·obtain ⟨s',h3,h4⟩:=(GS hN).1 h2
  obtain ⟨x,rfl⟩:=GR hN h3
  exact ⟨x,.inl ⟨h1,h3⟩,h4⟩
 ·exact ⟨_,.inr ⟨h1,rfl⟩,h2⟩
theorem uL (hN:ra o.op=true) (hK:Inv K) (hx:uJ E f ops o s x) (h:K (s.put o.dst x)):bU E f ops.toList o K s:=by
 rw [fO hK]
 rcases hx with ⟨h1,h2⟩ | ⟨h1,rfl⟩
 ·exact .inl ⟨h1,(GS hN).2 ⟨_,h2,h⟩⟩
 ·exact .inr ⟨h1,h⟩
def Cs (E:Env) (f:FuncId) (ops:List Oper) (o:Oper) (s:St):Prop:=match zH ops s o with
 | some true=>match o.dst,an E f s o with
  | some d,some (c,s')=>c=true∧lk s'.ae d=lk s.ae d
  | _,_=>False
 | some false=>True
 | none=>False
theorem Ji (hN:ra o.op=true) (hd:d∉o.looksAt ops) (cM:o.dst≠some d) (he:∀ e,d≠e→lk s.ae e=lk t.ae e) (hB:dy s.boxes=dy t.boxes) (hG:s.G=t.G) (hn:s.n=t.n)
  (h:Cs E f ops.toList o s):Cs E f ops.toList o t:=by
 have hl:∀ e∈o.looksAt ops,lk s.ae e=lk t.ae e:=fun e hm=>he e fun k=>hd (k ▸ hm)
 unfold Cs at h ⊢
 rw [← jN hl]
 split
 ·rename_i hg
  rw [hg] at h
  simp only at h
  split at h
  ·rename_i e c s' E5 hs
   obtain ⟨t',h3,pre,preB,G,_,h4,_,_⟩:=gH hn hG hB (j5 hl) hs
   obtain ⟨_,_,y,h5,h6⟩:=h4 (by simp [hN])
   rw [E5,h3]
   refine ⟨h.1,?_⟩
   have Wx:d≠e:=fun k=>cM (by rw [E5,k])
   have h7:=h.2
   rw [h5,E5] at h7
   rw [h6,E5,← he e Wx]
   simp only [St.put,← hn] at h7 ⊢
   split
   ·rename_i hb
    rw [hb] at h7
    simp only [ay] at h7 ⊢
    exact h7
   ·exact (he e Wx).symm
  ·exact h.elim
 ·trivial
 ·rename_i hg
  rw [hg] at h
  exact h
theorem Jj (hN:ra o.op=true) (e:ob s t) (h:Cs E f ops.toList o s):Cs E f ops.toList o t:=by
 unfold Cs at h ⊢
 rw [← yN e]
 split
 ·rename_i hg
  rw [hg] at h
  simp only at h
  split at h
  ·rename_i d c s' E5 hs
   obtain ⟨t',h3,pre,preB,G,_,h4,_,_⟩:=gH e.n e.G e.b (fun y _=>e.bi y) hs
   obtain ⟨_,_,y,h5,h6⟩:=h4 (by simp [hN])
   rw [E5,h3]
   refine ⟨h.1,?_⟩
   rw [h6,← (e.put o.dst y).l,← h5,← e.l]
   exact h.2
  ·exact h.elim
 ·trivial
 ·rename_i hg
  rw [hg] at h
  exact h
def iK (oj oi:Oper):Bool:=bJ oi.op || (MM oj.op&&!ra oi.op)
theorem GU {al:Bool} {dst:Option Tmp} {pre:aW} (h:PX al dst pre) {e:Nat} (he:dst≠some e) (l:aW):lk (pre++l) e=lk l e∨(al=true∧∃ k off,lk l e=.lp k off):=by
 rcases h with rfl | ⟨d,y,rfl,rfl | ⟨rfl,rfl⟩⟩
 ·exact .inl rfl
 ·exact .inl (aL fun k=>he (by rw [k]))
 ·simp only [List.cons_append,List.nil_append]
  rw [aL (fun k=>he (by rw [k]))]
  simp only [lk]
  cases hl:lk l e with
  | lp k off=>exact .inr ⟨trivial,k,off,rfl⟩
  | _=>exact .inl rfl
theorem qu {al:Bool} {pre:aW} (preB:cA) (G:List GO) (h:PX al oi.dst pre) (cM:oi.dst≠some d) (hx:al=false∨∃ a,x=.v a):ob ((s.put (some d) x).fb pre preB G) ((s.fb pre preB G).put (some d) x):=by
 have hb:∀ b,Nat.blt d s.n=b→ob ((s.put (some d) x).fb pre preB G) ((s.fb pre preB G).put (some d) x):=fun b hb=>by
  have li:Nat.blt d (s.fb pre preB G).n=b:=hb
  rw [kJ,kJ,hb,li]
  cases b with
  | false=>exact ob.refl _
  | true=>
   refine ⟨funext fun e=>?_,rfl,rfl,rfl,rfl,rfl⟩
   simp only [cond_true,St.fb,List.cons_append,List.nil_append]
   by_cases k:d=e
   ·subst k
    rw [ay]
    rcases GU h cM (.put d x :: s.ae) with h1 | ⟨h1,k,off,h2⟩
    ·rw [h1,ay]
    ·rw [ay] at h2
     rcases hx with hx | ⟨a,hx⟩
     ·rw [hx] at h1; cases h1
     ·rw [hx] at h2; cases h2
   ·rw [aL k]
    exact lC (aL k) pre
 exact hb _ rfl
theorem E6 (hN:ra oj.op=true) (DJ:oj.dst=some d) (Az:d∉oj.looksAt ops) (PZ:oj.apart ops oi=true) (hK:Inv K) (hx:uJ E f ops oj s x) {pre:aW} {preB:cA} {G:List GO}
  (AA:PX (bJ oi.op) oi.dst pre) (Re:ra oi.op=true→preB=[]∧G=s.G) (hk:K ((s.put (some d) x).fb pre preB G)) (QR:∀ t',K t'→iK oj oi=true→Cs E f ops.toList oj t') :
  ∃ x',uJ E f ops oj (s.fb pre preB G) x'∧K ((s.fb pre preB G).put (some d) x'):=by
 obtain ⟨_,cM,uo⟩:=Oper.apart_spec PZ
 have GV:oi.dst≠some d:=cM d DJ
 have qv:∀ e∈oj.looksAt ops,oi.dst≠some e:=fun e he k=>uo e k he
 have ua:∀ e∈oj.looksAt ops,(bJ oi.op=false∨∃ b,lk s.ae e=.v b)→lk s.ae e=lk (s.fb pre preB G).ae e:=fun e he ha=>by
  rcases GU AA (qv e he) s.ae with h1 | ⟨h1,k,off,h2⟩
  ·exact h1.symm
  ·rcases ha with ha | ⟨b,ha⟩
   ·rw [ha] at h1; cases h1
   ·rw [ha] at h2; cases h2
 have Jk:∀ b,zH ops.toList s oj=some b→zH ops.toList (s.fb pre preB G) oj=some b:=fun b hb=>by
  unfold zH at hb ⊢
  split
  ·rename_i hg; rw [hg] at hb; exact hb
  ·rename_i j want hg
   rw [hg] at hb
   simp only at hb
   split
   ·rename_i e he
    rw [he] at hb
    simp only at hb
    split at hb
    ·rename_i b' hl
     have:=ua e (je hg he) (.inr ⟨_,hl⟩)
     rw [← this,hl]
     exact hb
    ·rename_i hl
     have:=ua e (je hg he) (.inr ⟨_,hl⟩)
     rw [← this,hl]
     exact hb
    ·cases hb
   ·rename_i he; rw [he] at hb; cases hb
 rcases hx with ⟨h1,h2⟩ | ⟨h1,rfl⟩
 ·rw [DJ] at h2
  by_cases Uh:iK oj oi=true
  ·have hr:=QR _ hk Uh
   -- the state with the slot, and the one without it
   have yB:∀ e,d≠e→lk ((s.put (some d) x).fb pre preB G).ae e=lk (s.fb pre preB G).ae e:=fun e he=>lC (tp s d x he) pre
   have hB:dy ((s.put (some d) x).fb pre preB G).boxes=dy (s.fb pre preB G).boxes:=by
    simp only [St.fb]; rw [(fP s _ x).1]
   have hn:((s.put (some d) x).fb pre preB G).n=(s.fb pre preB G).n:=(fP s _ x).2.2.1
   have Jl:∀ e∈oj.looksAt ops,lk ((s.put (some d) x).fb pre preB G).ae e=lk (s.fb pre preB G).ae e:=fun e he=>yB e fun k=>Az (k ▸ he)
   have Yn:zH ops.toList ((s.put (some d) x).fb pre preB G) oj=some true:=by rw [jN Jl]; exact Jk _ h1
   unfold Cs at hr
   rw [Yn] at hr
   simp only [DJ] at hr
   split at hr
   ·rename_i d' c s' Ds hs
    cases Ds
    obtain ⟨rfl,hr⟩:=hr
    obtain ⟨t',h3,p,pB,G2,_,h4,_,_⟩:=gH (t:=s.fb pre preB G) hn rfl hB (j5 Jl) hs
    obtain ⟨_,_,y,h5,h6⟩:=h4 (by simp [hN])
    rw [h6] at h3
    rw [h5,DJ] at hr
    refine ⟨y,.inl ⟨Jk _ h1,h3⟩,hK _ _ ?_ hk⟩
    have Wy:((s.put (some d) x).fb pre preB G).marks=(s.fb pre preB G).marks∧((s.put (some d) x).fb pre preB G).ro=(s.fb pre preB G).ro:=(fP s _ x).2.2.2
    obtain ⟨q1,q2,q3,q4,q5⟩:=fP (s.fb pre preB G) (some d) y
    refine ⟨funext fun e=>?_,by rw [q1]; exact hB,by rw [q2]; rfl,by rw [q4]; exact Wy.1,by rw [q5]; exact Wy.2,by rw [q3]; exact hn⟩
    by_cases k:d=e
    ·subst k
     rw [← hr]
     have hb:∀ b,Nat.blt d s.n=b→lk (((s.put (some d) x).fb pre preB G).put (some d) y).ae d=lk ((s.fb pre preB G).put (some d) y).ae d:=fun b hb=>by
      have Rf:Nat.blt d (s.fb pre preB G).n=b:=hb
      have DK:Nat.blt d ((s.put (some d) x).fb pre preB G).n=b:=by rw [hn]; exact hb
      rw [kJ _ d y,kJ _ d y,Rf,DK]
      cases b with
      | true=>simp [St.fb,ay]
      | false=>
       simp only [cond_false]
       rw [kJ,hb]
       rfl
     exact hb _ rfl
    ·rw [tp _ _ _ k]
     exact yB e k
   ·exact hr.elim
  ·have E7:bJ oi.op=false:=by cases ha:bJ oi.op <;> simp_all [iK]
   have hl:∀ e∈oj.looksAt ops,lk s.ae e=lk (s.fb pre preB G).ae e:=fun e he=>ua e he (.inl E7)
   have fin:∀ y,s.put (some d) x=s.put (some d) y→an E f (s.fb pre preB G) oj=some (true,(s.fb pre preB G).put oj.dst y) →
     ∃ x',uJ E f ops oj (s.fb pre preB G) x'∧K ((s.fb pre preB G).put (some d) x'):=fun y hy hs=>by
    refine ⟨y,.inl ⟨Jk _ h1,hs⟩,hK _ _ (qu (oi:=oi) preB G AA GV (.inl E7)) ?_⟩
    rw [← hy]
    exact hk
   cases Yo:ra oi.op with
   | true=>
    obtain ⟨rfl,rfl⟩:=Re Yo
    obtain ⟨t',h3,p,pB,G2,_,h4,_,_⟩:=gH (s:=s) (t:=s.fb pre [] s.G) rfl rfl rfl (j5 hl) h2
    obtain ⟨_,_,y,h5,h6⟩:=h4 (by simp [hN])
    rw [DJ] at h5
    exact fin y h5 (by rw [h3,h6])
   | false=>
    have hR:MM oj.op=false:=by cases ha:MM oj.op <;> simp_all [iK]
    obtain ⟨t',h3,y,h5,h6⟩:=Ay (s:=s) (t:=s.fb pre preB G) hN hR rfl (j5 hl) h2
    rw [DJ] at h5
    exact fin y h5 (by rw [h3,h6])
 ·exact ⟨_,.inr ⟨Jk _ h1,rfl⟩,hK _ _ (qu (oi:=oi) preB G AA GV (.inr ⟨_,rfl⟩)) hk⟩
end
end Go.Am
namespace Go.Am
open Go
section
variable {E:Env} {s t:St} {o:Oper}
def gX (E:Env) (s:St) (o:Oper) (s':St):Prop:=
 (s'.ae=s.ae∨∃ d x,o.dst=some d∧(s'.ae=.put d x :: s.ae∨s'.ae=.put d x :: .kill d :: s.ae)∧∀ k off,x=.lp k off→(∃ y∈o.op.operands,∃ fH,bi E s.ae y=.lp k fH)∨(bJ o.op=true∧k=d)) ∧
 (s'.boxes=s.boxes∨∃ k cs,s'.boxes=(k,cs) :: s.boxes∧((bJ o.op=true∧o.dst=some k)∨∃ y∈o.op.operands,∃ off,bi E s.ae y=.lp k off))
theorem kK {s1:St} (h1:s1.ae=s.ae) (h2:s1.boxes=s.boxes) {x:SV} (hx:∀ k off,x=.lp k off→∃ y∈o.op.operands,∃ fH,bi E s.ae y=.lp k fH):gX E s o (s1.put o.dst x):=by
 refine ⟨?_,.inl (by rw [(fP s1 o.dst x).1,h2])⟩
 cases hd:o.dst with
 | none=>exact .inl h1
 | some d=>
  simp only [St.put]
  split
  ·exact .inr ⟨d,x,rfl,.inl (by rw [h1]),fun k off h=>.inl (hx k off h)⟩
  ·exact .inl h1
theorem j6 {s1:St} (h1:s1.ae=s.ae) (h2:s1.boxes=s.boxes) (a:AV):gX E s o (s1.put o.dst (.v a)):=kK h1 h2 fun k off h=>by cases h
theorem lD {s1:St} (h1:s1.ae=s.ae) (h2:s1.boxes=s.boxes):gX E s o s1:=⟨.inl h1,.inl h2⟩
theorem Jm {k:Nat} {cs:List AV} (h:∃ y∈o.op.operands,∃ off,bi E s.ae y=.lp k off):gX E s o (s.sM k cs):=⟨.inl rfl,.inr ⟨k,cs,rfl,.inr h⟩⟩
theorem AB {n:Nat} {x:SV} {k off:Nat} (h:xd n x=some (.lp k off)):∃ fH,x=.lp k fH:=by
 unfold xd at h
 split at h <;> cases h
 exact ⟨_,rfl⟩
theorem wS {ty:TypeId} {x:SV} {j k off:Nat} (h:jS E ty x j=some (.lp k off)):∃ fH,x=.lp k fH:=by
 unfold jS at h
 repeat' (split at h)
 all_goals (first | (cases h; done) | exact AB h)
theorem wT {ty:TypeId} {x ix:SV} {c:Bool} {k off:Nat} (h:jR E ty x ix=some (c,.lp k off)):∃ fH,x=.lp k fH:=by
 unfold jR at h
 repeat' (split at h)
 all_goals (first | (cases h; done) | skip)
 rename_i hm
 injection h with h; injection h with h1 h2; subst h2
 exact AB hm
theorem Ct {ty:TypeId} {p x:SV} {s':St} (hp:∀ k off,p=.lp k off→∃ y∈o.op.operands,∃ fH,bi E s.ae y=.lp k fH) (h:iW E s ty p x=some s'):gX E s o s':=by
 unfold iW at h
 repeat' (split at h)
 all_goals (first | (cases h; done) | skip)
 ·cases h; exact Jm (hp _ _ rfl)
 ·cases h; exact lD rfl rfl
theorem Cu {ty:TypeId} {p x:SV} {c:Bool} {s':St} (hp:∀ k off,p=.lp k off→∃ y∈o.op.operands,∃ fH,bi E s.ae y=.lp k fH) (h:iX E s ty p x=some (c,s')):gX E s o s':=by
 unfold iX at h
 repeat' (split at h)
 all_goals (first | (cases h; done) | skip)
 ·injection h with h; injection h with h1 h2; subst h2; exact lD rfl rfl
 ·injection h with h; injection h with h1 h2; subst h2; exact lD rfl rfl
 ·rename_i hs
  injection h with h; injection h with h1 h2; subst h2; exact Ct hp hs
theorem sw {ty:TypeId} {m k x:SV} {s':St} (h:eT E s ty m k x=some s'):gX E s o s':=by
 unfold eT at h
 repeat' (split at h)
 all_goals (first | (cases h; done) | skip)
 cases h; exact lD rfl rfl
theorem E8 {x:SV} {s':St} (h:kG s o.dst x=some s'):gX E s o s':=by
 unfold kG at h
 split at h
 ·split at h
  ·rename_i l pos hg
   cases hb:Nat.blt pos l.length with
   | true=>
    rw [hb] at h
    simp only [cond_true] at h
    cases h
    exact j6 rfl rfl _
   | false=>
    rw [hb] at h
    simp only [cond_false] at h
    cases h
    exact j6 rfl rfl _
  ·cases h
 ·cases h
theorem yO {b:Builtin} {l:List AV} {tys:List TypeId} {c:Bool} {s':St} (h:bG E s o.dst b l tys=some (c,s')):gX E s o s':=by
 unfold bG at h
 cases b
 all_goals (try (cases h; done))
 all_goals (try simp only at h)
 all_goals (try (split at h <;> first | (cases h; done) | simp only at h))
 all_goals (repeat' (split at h))
 all_goals (first | (cases h; done) | skip)
 all_goals (injection h with h; injection h with h1 h2; subst h1 h2)
 all_goals (first | exact j6 rfl rfl _ | exact lD rfl rfl)
theorem E9 {f:FuncId} {c:Bool} {s':St} (h:gk E f s o=some (c,s')):gX E s o s':=by
 unfold gk at h
 repeat' (split at h)
 all_goals (first | (cases h; done) | skip)
 injection h with h; injection h with h2 h3
 subst h3
 exact j6 rfl rfl _
theorem uM {f:FuncId} {el:TypeId} {cs:List AV} {c:Bool} {s':St} (ha:bJ o.op=true) (h:eR E f s o.dst el cs=some (c,s')):gX E s o s':=by
 unfold eR at h
 split at h
 ·cases h
 ·rename_i d hd
  split at h
  ·injection h with h; injection h with h1 h2; subst h2
   rw [← hd]
   exact j6 rfl rfl _
  ·split at h
   ·rename_i hb
    injection h with h; injection h with h1 h2; subst h2
    refine ⟨.inr ⟨d,.lp d 0,hd,.inr ?_,fun k off h=>by cases h; exact .inr ⟨ha,rfl⟩⟩,.inr ⟨d,cs,?_,.inl ⟨ha,hd⟩⟩⟩
    ·simp only [St.put,St.sM,St.kill,hb]
    ·rw [(fP _ (some d) (.lp d 0)).1]; rfl
   ·cases h
theorem Cv {f:FuncId} {c:Bool} {s':St} (h:an E f s o=some (c,s')):gX E s o s':=by
 cases ho:o.op
 case move x=>
  simp only [an,ho] at h
  split at h
  all_goals (injection h with h; injection h with h1 h2; subst h2)
  ·exact j6 rfl rfl _
  ·rename_i k off hx
   exact kK rfl rfl fun k' fH e=>by cases e; exact ⟨x,by rw [ho]; simp [Op.operands],_,hx⟩
  ·exact kK rfl rfl fun k' fH e=>by cases e
 case assign x=>
  simp only [an,ho] at h
  split at h
  all_goals (injection h with h; injection h with h1 h2; subst h2)
  ·exact j6 rfl rfl _
  ·rename_i k off hx
   exact kK rfl rfl fun k' fH e=>by cases e; exact ⟨x,by rw [ho]; simp [Op.operands],_,hx⟩
  ·exact kK rfl rfl fun k' fH e=>by cases e
 case nilCheck x=>
  simp only [an,ho] at h
  split at h
  ·injection h with h; injection h with h1 h2; subst h2
   exact j6 rfl rfl _
  ·rename_i k off hx
   injection h with h; injection h with h1 h2; subst h2
   exact kK rfl rfl fun k' fH e=>by cases e; exact ⟨x,by rw [ho]; simp [Op.operands],_,hx⟩
  ·cases h
 case fieldAddr a x j=>
  simp only [an,ho] at h
  split at h
  ·rename_i p hp
   injection h with h; injection h with h1 h2; subst h2
   exact kK rfl rfl fun k' fH e=>by subst e; exact ⟨x,by rw [ho]; simp [Op.operands],wS hp⟩
  ·cases h
 case indexAddr a x y=>
  simp only [an,ho] at h
  split at h
  ·rename_i c' p hp
   injection h with h; injection h with h1 h2; subst h2
   exact kK rfl rfl fun k' fH e=>by subst e; exact ⟨x,by rw [ho]; simp [Op.operands],wT hp⟩
  ·cases h
 case alloc e=>
  simp only [an,ho] at h
  repeat' (split at h)
  all_goals (first | (cases h; done) | skip)
  exact uM (by rw [ho]; rfl) h
 case box e x=>
  simp only [an,ho] at h
  repeat' (split at h)
  all_goals (first | (cases h; done) | skip)
  exact uM (by rw [ho]; rfl) h
 case store ty x y=>
  simp only [an,ho] at h
  split at h
  ·rename_i hs
   injection h with h; injection h with h1 h2; subst h2
   exact Cu (fun k off e=>⟨x,by rw [ho]; simp [Op.operands],off,e⟩) hs
  ·cases h
 case mapUpdate ty x y z=>
  simp only [an,ho] at h
  split at h
  ·rename_i hs
   injection h with h; injection h with h1 h2; subst h2
   exact sw hs
  ·cases h
 case insert ty x y z=>
  simp only [an,ho] at h
  split at h
  ·rename_i hs
   injection h with h; injection h with h1 h2; subst h2
   exact sw hs
  ·cases h
 case mapEntry ty x y=>
  simp only [an,ho] at h
  split at h
  ·rename_i hs
   injection h with h; injection h with h1 h2; subst h2
   unfold fV at hs
   repeat' (split at hs)
   all_goals (first | (cases hs; done) | skip)
   injection hs with hs; injection hs with h3 hs; injection hs with h4 h5
   subst h5
   exact j6 rfl rfl _
  ·cases h
 case entryStore ty x y z=>
  simp only [an,ho] at h
  split at h
  ·rename_i hs
   injection h with h; injection h with h1 h2; subst h2
   unfold dV at hs
   repeat' (split at hs)
   all_goals (first | (cases hs; done) | skip)
   injection hs with hs; injection hs with h3 h4
   subst h4
   exact lD rfl rfl
  ·cases h
 case next x b=>
  cases b with
  | false=>simp [an,ho] at h
  | true=>
   simp only [an,ho] at h
   split at h
   ·rename_i hs
    injection h with h; injection h with h1 h2; subst h2
    exact E8 hs
   ·cases h
 case call cl=>
  obtain ⟨callee,args,tys⟩:=cl
  cases callee with
  | builtin b=>
   simp only [an,ho] at h
   split at h
   ·rename_i r hf
    cases h
    exact E9 hf
   ·split at h
    ·exact yO h
    ·cases h
  | _=>simp [an,ho] at h
 case makeFunc fo a b=>
  cases fo with
  | func g=>
   simp only [an,ho] at h
   repeat' (split at h)
   all_goals (first | (cases h; done) | skip)
   injection h with h; injection h with h1 h2; subst h2
   exact j6 rfl rfl _
  | _=>simp [an,ho] at h
 case makeMap ty r=>
  cases r with
  | none=>
   simp only [an,ho] at h
   injection h with h; injection h with h1 h2; subst h2
   exact j6 rfl rfl _
  | some _=>simp [an,ho] at h
 all_goals (first
  | (simp [an,ho] at h; done)
  | (simp only [an,ho] at h; (repeat' (split at h)); (all_goals (first | (cases h; done) | skip)); (all_goals (injection h with h; injection h with h1 h2; subst h2)); (all_goals (exact j6 rfl rfl _))))
def pz (s:St) (d:Nat) (cs:List AV):St:=s.fb [.put d (.lp d 0),.kill d] [(d,cs)] s.G
theorem Cw {f:FuncId} {d:Tmp} {c:Bool} {s1:St} (E7:bJ o.op=true) (hd:o.dst=some d) (hg:E.wG f d=false) (h:an E f s o=some (c,s1)) :
  c=true∧∃ cs,s1=pz s d cs∧∀ t:St,t.n=s.n→(∀ y∈o.op.operands,∀ v,bi E s.ae y=.v v→bi E t.ae y=.v v)→an E f t o=some (true,pz t d cs):=by
 have key:∀ (el:TypeId) (cs:List AV),eR E f s o.dst el cs=some (c,s1)→c=true∧s1=pz s d cs∧∀ t:St,t.n=s.n→eR E f t o.dst el cs=some (true,pz t d cs):=by
  intro el cs h
  unfold eR at h
  rw [hd] at h
  simp only [hg,Bool.false_eq_true,if_false] at h
  split at h
  ·rename_i hb
   injection h with h; injection h with h1 h2; subst h1 h2
   refine ⟨rfl,?_,fun t ht=>?_⟩
   ·simp only [St.put,St.sM,St.kill,hb,pz,St.fb]; rfl
   ·unfold eR
    rw [hd]
    simp only [hg,Bool.false_eq_true,if_false,ht,hb]
    simp only [St.put,St.sM,St.kill,ht,hb,pz,St.fb]; rfl
  ·cases h
 cases ho:o.op
 case alloc e=>
  simp only [an,ho] at h ⊢
  split at h
  ·split at h
   ·split at h
    ·rename_i hi _ _ hz ID
     obtain ⟨k1,k2,k3⟩:=key _ _ h
     refine ⟨k1,_,k2,fun t ht _=>?_⟩
     simp only [hi,hz,ID,if_true]
     exact k3 t ht
    ·cases h
   ·cases h
  ·cases h
 case box e x=>
  simp only [an,ho] at h ⊢
  split at h
  ·split at h
   ·rename_i v hv ID
    obtain ⟨k1,k2,k3⟩:=key _ _ h
    refine ⟨k1,_,k2,fun t ht he=>?_⟩
    simp only [he x (by simp [Op.operands]) v hv,ID,if_true]
    exact k3 t ht
   ·cases h
  ·cases h
 all_goals (rw [ho] at E7; simp [bJ] at E7)
theorem DL {pre:aW} {preB:cA} {G:List GO} (h:gX E s o (s.fb pre preB G)) :
  (pre=[]∨∃ d x,o.dst=some d∧(pre=[.put d x]∨pre=[.put d x,.kill d])∧∀ k off,x=.lp k off→(∃ y∈o.op.operands,∃ fH,bi E s.ae y=.lp k fH)∨(bJ o.op=true∧k=d)) ∧
  (preB=[]∨∃ k cs,preB=[(k,cs)]∧((bJ o.op=true∧o.dst=some k)∨∃ y∈o.op.operands,∃ off,bi E s.ae y=.lp k off)):=by
 obtain ⟨h1,h2⟩:=h
 refine ⟨?_,?_⟩
 ·rcases h1 with h1 | ⟨d,x,hd,h1,hx⟩
  ·exact .inl (by simpa [St.fb] using h1)
  ·refine .inr ⟨d,x,hd,?_,hx⟩
   rcases h1 with h1 | h1
   ·left
    have h1:pre++s.ae=[.put d x]++s.ae:=h1
    exact List.append_cancel_right h1
   ·right
    have h1:pre++s.ae=[.put d x,.kill d]++s.ae:=h1
    exact List.append_cancel_right h1
 ·rcases h2 with h2 | ⟨k,cs,h2,hx⟩
  ·exact .inl (by simpa [St.fb] using h2)
  ·refine .inr ⟨k,cs,?_,hx⟩
   have h2:preB++s.boxes=[(k,cs)]++s.boxes:=h2
   exact List.append_cancel_right h2
theorem iL (d e:Nat) (l:aW):lk (.kill d :: l) e=(match lk l e with | .lp k off=>bif Nat.beq k d then .none else .lp k off | x=>x):=rfl
theorem uN {d e:Nat} {l:aW} (h:∀ off,lk l e≠.lp d off):lk (.kill d :: l) e=lk l e:=by
 rw [iL]
 split
 ·rename_i k off hk
  cases hb:Nat.beq k d with
  | true=>exact absurd (by rw [hk,Nat.eq_of_beq_eq_true hb]) (h off)
  | false=>rw [hk]; rfl
 ·rfl
theorem Fa {d:Nat} {pre:aW} {preB:cA} {G:List GO} (cs:List AV) (Jn:gX E s o (s.fb pre preB G)) (cM:o.dst≠some d) (Fb:∀ y∈o.op.operands,∀ off,bi E s.ae y≠.lp d off) :
  ob ((pz s d cs).fb pre preB G) (pz (s.fb pre preB G) d cs):=by
 obtain ⟨h1,h2⟩:=DL Jn
 refine ⟨funext fun e=>?_,funext fun k=>?_,rfl,rfl,rfl,rfl⟩
 ·show lk (pre++([.put d (.lp d 0),.kill d]++s.ae)) e=lk ([.put d (.lp d 0),.kill d]++(pre++s.ae)) e
  rcases h1 with rfl | ⟨d',x,hd,hp,hx⟩
  ·rfl
  ·have S4:d'≠d:=fun c=>cM (by rw [hd,c])
   have sO:∀ off,x≠.lp d off:=fun off c=>by
    rcases hx d off c with ⟨y,hy,fH,ho⟩ | ⟨_,h⟩
    ·exact Fb y hy fH ho
    ·exact S4 h.symm
   by_cases c1:d=e
   ·subst c1
    rcases hp with rfl | rfl
    ·simp only [List.cons_append,List.nil_append]
     rw [aL S4,ay,ay]
    ·simp only [List.cons_append,List.nil_append]
     rw [aL S4,ay,uN (fun off=>by rw [ay]; intro c; cases c; exact S4 rfl),ay]
   ·simp only [List.cons_append,List.nil_append]
    rw [aL c1]
    by_cases c2:d'=e
    ·subst c2
     rcases hp with rfl | rfl
     ·simp only [List.cons_append,List.nil_append]
      rw [ay,uN (fun off=>by rw [ay]; exact sO off),ay]
     ·simp only [List.cons_append,List.nil_append]
      rw [ay,uN (fun off=>by rw [ay]; exact sO off),ay]
    ·rcases hp with rfl | rfl
     ·simp only [List.cons_append,List.nil_append]
      rw [aL c2,aL c1,iL,iL,aL c2]
     ·simp only [List.cons_append,List.nil_append]
      rw [aL c2,iL,aL c1,iL,iL,aL c2,iL]
      cases lk s.ae e with
      | lp k off=>cases hb:Nat.beq k d <;> cases DK:Nat.beq k d' <;> simp [hb,DK]
      | _=>rfl
 ·show dy (preB++([(d,cs)]++s.boxes)) k=dy ([(d,cs)]++(preB++s.boxes)) k
  rcases h2 with rfl | ⟨k',eQ,rfl,hk⟩
  ·rfl
  ·have IE:k'≠d:=fun c=>by
    subst c
    rcases hk with ⟨_,hk⟩ | ⟨y,hy,off,ho⟩
    ·exact cM hk
    ·exact Fb y hy off ho
   simp only [List.cons_append,List.nil_append,dy]
   cases hb:Nat.beq k' k with
   | true=>
    have:Nat.beq d k=false:=by
     cases DK:Nat.beq d k with
     | true=>exact absurd ((Nat.eq_of_beq_eq_true hb).trans (Nat.eq_of_beq_eq_true DK).symm) IE
     | false=>rfl
    rw [this]; rfl
   | false=>rfl
end
section
variable {E:Env} {s t:St} {f:FuncId} {o:Oper} {K K':St→Prop}
theorem Cx (hn:s.n=t.n) (hG:s.G=t.G) (hB:∀ k off,(∃ y∈o.op.operands,bi E s.ae y=.lp k off)→dy s.boxes k=dy t.boxes k) (dX:∀ y∈o.op.operands,bi E s.ae y=bi E t.ae y) (h:jz E f o K s)
  (hK:∀ pre preB G,gX E t o (t.fb pre preB G)→K (s.fb pre preB G)→K' (t.fb pre preB G)):jz E f o K' t:=by
 unfold jz at h ⊢
 split at h
 ·rename_i x args tys ho
  have h1:bi E s.ae x=bi E t.ae x:=dX x (by rw [ho]; simp [Op.operands,Call.operands])
  have h2:kS E s.ae args.toList=kS E t.ae args.toList:=fX fun y hy=>dX y (by rw [ho]; simp [Op.operands,Call.operands]; exact .inr (by simpa using hy))
  try simp only [ho]
  rw [← h1,← h2,← hG]
  split at h
  ·refine cH.mono h fun r G' hk=>?_
   obtain ⟨pre,preB,G,p1,p2,p3,p4⟩:=bC.dj (s:=s) (t:=t) (al:=bJ o.op) hn G' o.dst (.v r)
   rw [p3] at hk
   have hO:gX E t o ((t.bO G').put o.dst (.v r)):=j6 rfl rfl _
   rw [p4] at hO ⊢
   exact hK pre preB G hO hk
  ·refine j4.mono h fun r G' hk=>?_
   obtain ⟨pre,preB,G,p1,p2,p3,p4⟩:=bC.dj (s:=s) (t:=t) (al:=bJ o.op) hn G' o.dst (.v (.bool r))
   rw [p3] at hk
   have hO:gX E t o ((t.bO G').put o.dst (.v (.bool r))):=j6 rfl rfl _
   rw [p4] at hO ⊢
   exact hK pre preB G hO hk
  ·exact h.elim
 ·exact h.elim
 ·split at h
  ·rename_i c s' hs
   obtain ⟨t',h1,pre,preB,G,p1,p2,p3,p4⟩:=qt hn hG hB dX hs
   have hO:=Cv h1
   rw [h1]
   obtain ⟨rfl,hk⟩:=h.out
   refine dq.mk rfl ?_
   rw [p3] at hk
   rw [p4] at hO ⊢
   exact hK pre preB G hO hk
  ·exact h.elim
theorem DM (ha:bJ o.op=true):jz E f o K s↔∃ s',an E f s o=some (true,s')∧K s':=by
 unfold jz
 split
 ·rename_i h
  rw [h] at ha
  simp [bJ] at ha
 ·rename_i h
  rw [h] at ha
  simp [bJ] at ha
 ·split
  ·rename_i c s' hs
   constructor
   ·intro h
    obtain ⟨rfl,hk⟩:=h.out
    exact ⟨s',hs,hk⟩
   ·rintro ⟨yC,h1,h2⟩
    rw [hs] at h1
    cases h1
    exact dq.mk rfl h2
  ·rename_i hs
   constructor
   ·exact fun h=>h.elim
   ·rintro ⟨yC,h1,_⟩
    rw [hs] at h1
    cases h1
end
end Go.Am
