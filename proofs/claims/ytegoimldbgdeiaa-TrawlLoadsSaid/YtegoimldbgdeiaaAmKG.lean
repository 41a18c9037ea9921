/- The abstract machine: a function out of its body; code as a proposition that computes. -/
import Derived.Test.YtegoimldbgdeiaaAmKF
import Derived.OrdersIn
set_option linter.all false
namespace Go.Am
open Go
def NZ:Nat→List AV→aT
 | _,[]=>[]
 | n,a :: l=>.put n (.v a) :: NZ (n+1) l
def St.init (ntmps:Nat) (args:List AV) (G:List GO):St:=
 ⟨NZ 0 args,[],G,[],none,max ntmps args.length⟩
def np:List Nat→List GO→Option (List GO)
 | [],G=>some G
 | id :: l,G=>match nth G id with
  | some (.defers true)=>np l (ax G id (.defers false))
  | _=>none
def Bz (E:Env) (s:St):List ResultVar→Option (List AV)
 | []=>some []
 | .tmp t :: l=>match lk s.ae t,Bz E s l with
  | .v a,some r=>some (a :: r)
  | _,_=>none
 | .cell p t :: l=>match pE E s t (lk s.ae p),Bz E s l with
  | some a,some r=>some (a :: r)
  | _,_=>none
def FA (E:Env) (s:St) (fn:Func):Option AV:=match Bz E s fn.results.toList with
 | some [a]=>some a
 | some l=>some (.bi l)
 | none=>none
def JK (E:Env) (fn:Func) (Q:AV→List GO→Prop):Exit→St→Prop
 | .normal,s | .ret,s=>match np s.marks s.G with
  | some G=>match FA E (s.bF G) fn with
   | some r=>Q r G
   | none=>False
  | none=>False
 | _,_=>False
section fns
variable {E:Env} {R:aj} {w:World} {β:Nat→Nat} {s:St} {a:Act}
def tY (tmps:Array Value):ResultVar→Sem Value
 | .tmp t=>pure (tmps.getD t undef)
 | .cell p t=>do loadVar t (← asAddr (tmps.getD p undef))
theorem tZ (fn:Func) (tmps:Array Value):results fn tmps=(do
  let vs ← fn.results.mapM (tY tmps)
  pure (if h:vs.size=1 then vs[0] else .tuple vs)):=by
 unfold results
 congr 1
theorem qd (h:aV E R w β s a):∀ {l:List ResultVar} {r:List AV},Bz E s l=some r →
  ∃ vs,(l.mapM (tY a.tmps)).run E.P w=.ok vs w∧aE R w r vs
 | [],r,hl=>by
  simp [Bz] at hl
  subst hl
  exact ⟨[],by simp,.nil⟩
 | .tmp t :: l,r,hl=>by
  unfold Bz at hl
  split at hl
  ·rename_i x r' h1 h2
   cases hl
   obtain ⟨vs,g1,g2⟩:=qd h h2
   obtain ⟨c,k1,k2⟩:=h.t t (by rw [h1]; simp)
   rw [h1] at k2
   have hg:a.tmps.getD t undef=c:=by simp [Array.getD_eq_getD_getElem?,k1]
   refine ⟨c :: vs,?_,.cons k2 g2⟩
   simp only [List.mapM_cons,Sem.run_bind,Sem.run_pure,Result.andThen_ok,tY,hg,g1]
  ·cases hl
 | .cell p t :: l,r,hl=>by
  unfold Bz at hl
  split at hl
  ·rename_i v r' h1 h2
   ·cases hl
    obtain ⟨vs,g1,g2⟩:=qd h h2
    obtain ⟨c,k1,k2⟩:=h.t p (fun e=>by rw [e] at h1; unfold pE at h1; split at h1 <;> simp_all [lK])
    have hg:a.tmps.getD p undef=c:=by simp [Array.getD_eq_getD_getElem?,k1]
    unfold pE at h1
    split at h1
    ·rename_i i cs off hi hc
     split at h1
     ·rename_i l' hs
      obtain ⟨b,o',us,e,q1,q2,q3⟩:=rN h k2 hc
      obtain ⟨m1,m2,m3,m4⟩:=nR hs q1 q2
      obtain ⟨c',pM,dv⟩:=mO (E:=E) hi (b:=b) (off:=o'+off) m1 m2 m3 (fun j y hy=>by rw [Nat.add_assoc]; exact q3 _ _ (m4 j y hy)) h1
      refine ⟨c' :: vs,?_,.cons dv g2⟩
      have ha:(asAddr c).run E.P w=.ok ⟨b,o'+off,none⟩ w:=by rw [e]; rfl
      have RN:(tY a.tmps (.cell p t)).run E.P w=.ok c' w:=by
       simp only [tY,Sem.run_bind,hg,ha,Result.andThen_ok,pM]
      simp only [List.mapM_cons,Sem.run_bind,Sem.run_pure,Result.andThen_ok,RN,g1]
     ·cases h1
    ·cases h1
  ·cases hl
theorem FB (h:aV E R w β s a) {fn:Func} {r:AV} (hr:FA E s fn=some r):∃ c,(results fn a.tmps).run E.P w=.ok c w∧Rel R w r c:=by
 unfold FA at hr
 split at hr
 ·rename_i x hl
  cases hr
  obtain ⟨vs,g1,g2⟩:=qd h hl
  cases g2 with
  | @cons _ c _ _ g2 g3=>
  cases g3
  refine ⟨c,?_,g2⟩
  rw [tZ,Array.mapM_eq_mapM_toList]
  simp only [Sem.run_bind,Sem.run_map]
  rw [g1]
  simp
 ·rename_i l cr hl
  cases hr
  obtain ⟨vs,g1,g2⟩:=qd h hl
  refine ⟨.tuple ⟨vs⟩,?_,.bi g2⟩
  have hlen:vs.length≠1:=by
   rw [← g2.length]
   intro e
   match l,e with
   | [x],_=>exact cr x rfl
  rw [tZ,Array.mapM_eq_mapM_toList]
  simp only [Sem.run_bind,Sem.run_map]
  rw [g1]
  simp [hlen]
 ·cases hr
theorem D2 (fn:Func) (Q:Ending→World→Prop):∀ {marks:List Nat} {G G':List GO} {R:aj} {w:World} {β:Nat→Nat} {s:St} {a:Act},aV E R w β (s.bF G) a→ov R marks a.defers→np marks G=some G' →
  (∀ w' ,aV E R w' β (s.bF G') a→Step R w β s.boxes R w' β s.boxes→∃ v,(results fn a.tmps).run E.P w'=.ok v w'∧Q (.returned v) w')→LeavesInM Fence.wide 0 E.P fn a.tmps Q a.defers .returning w:=by
 intro marks
 have key:∀ (marks:List Nat) (ds:List Deferred) (G G':List GO) (R:aj) (w:World) (β:Nat→Nat) (s:St) (a:Act),aV E R w β (s.bF G) a→ov R marks ds→np marks G=some G' →
   (∀ w' ,aV E R w' β (s.bF G') a→Step R w β s.boxes R w' β s.boxes→∃ v,(results fn a.tmps).run E.P w'=.ok v w'∧Q (.returned v) w')→LeavesInM Fence.wide 0 E.P fn a.tmps Q ds .returning w:=by
  intro marks
  induction marks with
  | nil=>
   intro ds G G' R w β s a hr hd hl hq
   cases ds with
   | cons _ _=>exact hd.elim
   | nil=>
    simp [np] at hl
    subst hl
    obtain ⟨v,h1,h2⟩:=hq w hr (Step.refl _ _ _ _)
    exact ⟨v,h1,h2⟩
  | cons id marks ih=>
   intro ds G G' R w β s a hr hd hl hq
   cases ds with
   | nil=>exact hd.elim
   | cons d ds=>
    obtain ⟨⟨b,hb,rfl⟩,hd⟩:=hd
    unfold np at hl
    split at hl
    ·rename_i hg
     have RQ:w.heap[b]?=some (.deferred (some [])):=hr.g.obj id _ _ hg hb
     have bK:=aZ RQ
     have E7:(Instr.takeDeferred b).run E.P w=.ok [] (World.put w b (.deferred none)):=by
      simp only [Instr.takeDeferred,getObj,setObj,Sem.run_bind,Sem.run,RQ,Result.andThen_ok,Sem.run_pure]
      rfl
     obtain ⟨q1,q2⟩:=hr.setObj (s:=s.bF G) (x':=.deferred none) (go':=.defers false) hb RQ trivial trivial (fun _ e=>by cases e) (gi w b _ bK)
     refine ⟨by simp,.inl ⟨b,_,rfl,E7,?_⟩⟩
     refine ih ds (ax G id (.defers false)) G' R _ β s a q1 hd hl (fun w' kv jE=>?_)
     exact hq w' kv (q2.trans jE)
    ·cases hl
 intro G G' R w β s a hr hd hl hq
 exact key marks a.defers G G' R w β s a hr hd hl hq
end fns
end Go.Am
namespace Go.Am
open Go
section intro
variable {E:Env} {R R':aj} {w w':World} {β β':Nat→Nat}
theorem ua {bx EV:cm} (h:Step R w β bx R' w' β' EV) (hn:∀ k cs,de bx k≠some cs):Step R w (fun _=>0) fm R' w' (fun _=>0) fm:=by
 have own:∀ b,Own R β bx b→Live R b:=fun b ho=>by
  rcases ho with ho | ⟨k,cs,hk,_⟩
  ·exact ho
  ·exact absurd hk (hn k cs)
 exact ⟨h.ext,h.os,h.tape,h.output,h.size,fun b hb qZ=>h.aW b hb (fun ho=>qZ (.inl (own b ho))),fun b hb ho=>.inl (own b (h.own b hb (.inl (e8 ho)))),fun b o hi hb qZ=>h.im b o hi hb (fun ho=>qZ (.inl (own b ho)))⟩
theorem FC:∀ {l:List AV} {n i:Nat},(i < n∨n+l.length≤i→lk (NZ n l) i=.none)∧(∀ a,l[i - n]?=some a→n≤i→lk (NZ n l) i=.v a)
 | [],n,i=>⟨fun _=>rfl,fun a h=>by simp at h⟩
 | b :: l,n,i=>by
  obtain ⟨h1,h2⟩:=FC (l:=l) (n:=n+1) (i:=i)
  refine ⟨fun h=>?_,fun a h hn=>?_⟩
  ·simp only [List.length_cons] at h
   simp only [NZ]
   rw [aG (by omega)]
   exact h1 (by omega)
  ·simp only [NZ]
   by_cases e:n=i
   ·subst e
    rw [aw]
    simp at h
    rw [h]
   ·rw [aG e]
    refine h2 a ?_ (by omega)
    have:i - n=(i - (n+1))+1:=by omega
    rw [this] at h
    simpa using h
theorem FD {ntmps:Nat} {args:List AV} {cs:List Value} {G:List GO} (hg:dP E R w G) (hl:aE R w args cs) :
  aV E R w (fun _=>0) (St.init ntmps args G) { tmps:=⟨cs⟩++Array.replicate (ntmps - (⟨cs⟩:Array Value).size) undef,defers:=[] }:=by
 have hlen:=hl.length
 refine ⟨hg,⟨fun k c hk=>?_,fun k k' c c' hk _ _=>?_⟩,fun i hi=>?_,?_,trivial⟩
 ·simp [St.init,de] at hk
 ·simp [St.init,de] at hk
 ·simp only [St.init] at hi ⊢
  obtain ⟨h1,h2⟩:=FC (l:=args) (n:=0) (i:=i)
  by_cases bK:i < args.length
  ·have hy:args[i]?=some args[i]:=List.getElem?_eq_getElem bK
   obtain ⟨c,k1,k2⟩:=hl.get hy
   rw [h2 _ (by rw [Nat.sub_zero]; exact hy) (Nat.zero_le _)]
   refine ⟨c,?_,k2⟩
   rw [Array.getElem?_append_left (by simp; omega)]
   simpa using k1
  ·exact absurd (h1 (by omega)) hi
 ·simp [St.init]
  omega
theorem BA {ntmps:Nat} {args:List AV} {G:List GO} (k:Nat) (cs:List AV):de (St.init ntmps args G).boxes k≠some cs:=by
 simp [St.init,de]
theorem cB.intro {g : FuncId} {fn : Func} {c : Code} {args : List AV} {G : List GO} {Q : AV → List GO → Prop} (hf : E.P.funcs[g]? = some fn) (hb : fn.body = some c) (hn : (fn.name == "runtime.NumGoroutine") = false)
  (h:eQ E c (JK E fn Q) (St.init fn.ntmps args G)):cB E g args G Q:=by
 refine ⟨⟨fn,hf,by simp [hb],hn⟩,fun R w cs hg hl=>?_⟩
 refine callsIn_of_wp_marks hf hb trivial (wpIn_mono (h R w (fun _=>0) _ Fence.wide (FD hg hl) rfl) ?_)
 rintro e a' w' ⟨s',R',β',hq,hr,jE,bA⟩
 have fin:(match np s'.marks s'.G with
  | some G=>match FA E (s'.bF G) fn with
   | some r=>Q r G
   | none=>False
  | none=>False)→LeavesInM Fence.wide 0 E.P fn a'.tmps (CO E R w Q) a'.defers .returning w':=by
  intro hq
  split at hq
  ·rename_i G2 Pc
   split at hq
   ·rename_i r BB
    refine D2 fn (CO E R w Q) (s:=s') (G:=s'.G) hr hr.d Pc (fun HD tW oG=>?_)
    obtain ⟨v,h1,h2⟩:=FB tW BB
    exact ⟨v,h1,r,G2,R',hq,h2,tW.g,ua (jE.trans oG) BA⟩
   ·exact hq.elim
  ·exact hq.elim
 cases e with
 | normal=>exact fin hq
 | ret=>exact fin hq
 | exit _=>exact hq.elim
 | goto _=>exact hq.elim
 | panic _=>exact hq.elim
 | outgrown=>exact hq.elim
end intro
end Go.Am
namespace Go.Am
open Go
def St.eY (s:St) (pre:aT) (preB:cm) (G:List GO):St:=⟨pre++s.ae,preB++s.boxes,G,s.marks,s.ro,s.n⟩
def N0 (al:Bool) (dst:Option Tmp) (pre:aT):Prop:=
 pre=[]∨∃ d x,dst=some d∧(pre=[.put d x]∨(al=true∧pre=[.put d x,.kill d]))
def bq (al w:Bool) (dst:Option Tmp) (s t s' t':St):Prop:=
 ∃ pre preB G,N0 al dst pre∧(w=false→preB=[]∧G=s.G∧∃ x,s'=s.put dst x∧t'=t.put dst x)∧s'=s.eY pre preB G∧t'=t.eY pre preB G
section
variable {E:Env} {s t:St} {o:Oper}
theorem kG (s:St) (d:Tmp) (x:SV):s.put (some d) x=bif Nat.blt d s.n then s.eY [.put d x] [] s.G else s:=by
 cases h:Nat.blt d s.n <;> simp [St.put,h,St.eY]
theorem bq.put {al w:Bool} (hn:s.n=t.n) (hG:s.G=t.G) (dst:Option Tmp) (x:SV):bq al w dst s t (s.put dst x) (t.put dst x):=by
 cases dst with
 | none=>exact ⟨[],[],s.G,.inl rfl,fun _=>⟨rfl,rfl,x,rfl,rfl⟩,rfl,by rw [hG]; rfl⟩
 | some d=>
  have hx:∃ y,s.put (some d) x=s.put (some d) y∧t.put (some d) x=t.put (some d) y:=⟨x,rfl,rfl⟩
  revert hx
  generalize hs:s.put (some d) x=s'
  generalize ht:t.put (some d) x=t'
  intro hx
  rw [kG] at hs ht
  rw [← hn] at ht
  revert hs ht
  cases Nat.blt d s.n with
  | true=>exact fun hs ht=>⟨[.put d x],[],s.G,.inr ⟨d,x,rfl,.inl rfl⟩,fun _=>⟨rfl,rfl,hx⟩,hs.symm,by rw [hG]; exact ht.symm⟩
  | false=>exact fun hs ht=>⟨[],[],s.G,.inl rfl,fun _=>⟨rfl,rfl,hx⟩,hs.symm,by rw [hG]; exact ht.symm⟩
theorem bq.cV {al:Bool} (hn:s.n=t.n) (G:List GO) (dst:Option Tmp) (x:SV):bq al true dst s t ((s.bF G).put dst x) ((t.bF G).put dst x):=by
 cases dst with
 | none=>exact ⟨[],[],G,.inl rfl,fun h=>(by cases h),rfl,rfl⟩
 | some d=>
  rw [kG,kG,show (t.bF G).n=(s.bF G).n from hn.symm]
  cases Nat.blt d (s.bF G).n with
  | true=>exact ⟨[.put d x],[],G,.inr ⟨d,x,rfl,.inl rfl⟩,fun h=>(by cases h),rfl,rfl⟩
  | false=>exact ⟨[],[],G,.inl rfl,fun h=>(by cases h),rfl,rfl⟩
theorem bq.bF {al:Bool} (G:List GO) (dst:Option Tmp):bq al true dst s t (s.bF G) (t.bF G):=⟨[],[],G,.inl rfl,fun h=>(by cases h),rfl,rfl⟩
theorem bq.sr {al:Bool} (hG:s.G=t.G) (dst:Option Tmp) (d:Nat) (cs:List AV):bq al true dst s t (s.sr d cs) (t.sr d cs):=
 ⟨[],[(d,cs)],s.G,.inl rfl,fun h=>(by cases h),rfl,(by rw [hG]; rfl)⟩
theorem fQ {a b:aT}:∀ {l:List Operand},(∀ y∈l,bc E a y=bc E b y)→kP E a l=kP E b l
 | [],_=>rfl
 | x :: l,h=>by
  simp only [kP]
  rw [h x (by simp),fQ (l:=l) (fun y hy=>h y (by simp [hy]))]
theorem lx {a b:aT}:∀ {l:List (Nat × Operand)},(∀ p∈l,bc E a p.2=bc E b p.2)→Hg E a l=Hg E b l
 | [],_=>rfl
 | (i,x) :: l,h=>by
  simp only [Hg]
  rw [h (i,x) (by simp),lx (l:=l) (fun y hy=>h y (by simp [hy]))]
theorem vJ (hG:s.G=t.G) (p:SV) (hB:∀ k off,p=.lp k off→de s.boxes k=de t.boxes k):lK s p=lK t p:=by
 unfold lK
 rw [hG]
 cases p with
 | lp k off=>simp only [hB k off rfl]
 | v a=>cases a <;> rfl
 | _=>rfl
theorem zA (hG:s.G=t.G) (ty:TypeId) (p:SV) (hB:∀ k off,p=.lp k off→de s.boxes k=de t.boxes k):pE E s ty p=pE E t ty p:=by
 unfold pE
 rw [vJ hG p hB]
theorem rX (hG:s.G=t.G) (id f i sz:Nat) (ty:TypeId):td E s id f i sz ty=td E t id f i sz ty:=by
 unfold td
 rw [hG]
theorem zB (hG:s.G=t.G) (ty:TypeId) (p:SV) (hB:∀ k off,p=.lp k off→de s.boxes k=de t.boxes k):wg E s ty p=wg E t ty p:=by
 unfold wg
 split
 ·rw [rX hG]
 ·rw [zA hG _ _ hB]
theorem zC (hG:s.G=t.G) (esz:Nat) (d x:AV):pG s esz d x=pG t esz d x:=by
 unfold pG
 rw [hG]
theorem rY {f:FuncId} {dst:Option Tmp} {el:TypeId} {cs:List AV} {c:Bool} {s':St} (hn:s.n=t.n) (hG:s.G=t.G) (h:eN E f s dst el cs=some (c,s')) :
  ∃ t',eN E f t dst el cs=some (c,t')∧bq true true dst s t s' t':=by
 unfold eN at *
 cases dst with
 | none=>cases h
 | some d=>
  simp only at *
  split at h
  ·rename_i hg
   injection h with h
   injection h with h1 h2
   subst h1 h2
   rw [if_pos hg]
   refine ⟨_,rfl,?_⟩
   have:=bq.cV (al:=true) hn (s.G++[.row cs el]) (some d) (.v (.ptr s.G.length 0))
   rw [hG] at this
   have e:s.dy (.row cs el)=s.bF (t.G++[.row cs el]):=by rw [← hG]; rfl
   rw [e,hG]
   exact this
  ·rename_i hg
   rw [if_neg hg,← hn]
   split at h
   ·rename_i hb
    injection h with h
    injection h with h1 h2
    subst h1 h2
    refine ⟨_,rfl,[.put d (.lp d 0),.kill d],[(d,cs)],s.G,.inr ⟨d,_,rfl,.inr ⟨rfl,rfl⟩⟩,fun h=>(by cases h),?_,?_⟩
    ·simp [St.put,St.sr,St.kill,hb,St.eY]
    ·simp only [St.put,St.sr,St.kill,← hn,hb,St.eY,hG]
     rfl
   ·cases h
theorem zD {ty:TypeId} {p x:SV} {s':St} {al:Bool} {dst:Option Tmp} (hG:s.G=t.G) (hB:∀ k off,p=.lp k off→de s.boxes k=de t.boxes k) (h:iU E s ty p x=some s') :
  ∃ t',iU E t ty p x=some t'∧bq al true dst s t s' t':=by
 unfold iU at *
 split at h
 ·split at h
  ·rename_i hc
   rw [if_pos hc]
   split at h
   ·rw [← hB _ _ rfl]
    split at h
    ·split at h
     ·rename_i HS
      cases h
      simp only [HS,if_true]
      exact ⟨_,rfl,.sr hG _ _ _⟩
     ·cases h
    ·cases h
   ·rw [← hG]
    split at h
    ·split at h
     ·rename_i HS
      cases h
      simp only [HS,if_true]
      exact ⟨_,rfl,.bF _ _⟩
     ·cases h
    ·cases h
   ·cases h
  ·cases h
 ·cases h
theorem zE {ty:TypeId} {p x:SV} {c:Bool} {s':St} {al:Bool} {dst:Option Tmp} (hG:s.G=t.G) (hB:∀ k off,p=.lp k off→de s.boxes k=de t.boxes k) (h:iV E s ty p x=some (c,s')) :
  ∃ t',iV E t ty p x=some (c,t')∧bq al true dst s t s' t':=by
 unfold iV at *
 split at h
 ·rw [← hG]
  split at h
  ·split at h
   ·rename_i h1 h2 hc
    simp only [hc,if_true]
    split at h
    ·rename_i HS
     injection h with h; injection h with e1 e2
     subst e1; subst e2
     simp only [HS,if_true]
     exact ⟨_,rfl,.bF _ _⟩
    ·rename_i HS
     rw [if_neg HS,← rX hG]
     split at h
     ·rename_i hg
      split at h
      ·rename_i VF
       injection h with h; injection h with e1 e2
       subst e1; subst e2
       simp only [VF,if_true]
       exact ⟨_,rfl,.bF _ _⟩
      ·cases h
     ·cases h
   ·cases h
  ·cases h
 ·split at h
  ·rename_i s1 hs
   injection h with h; injection h with e1 e2
   subst e1; subst e2
   obtain ⟨t',h3,h4⟩:=zD (al:=al) (dst:=dst) hG hB hs
   simp only [h3]
   exact ⟨_,rfl,h4⟩
  ·cases h
def bB:Op→Bool
 | .alloc _=>true
 | .box _ _=>true
 | _=>false
def qI:Op→Bool
 | .move _ | .assign _ | .pick _ _ _ | .build _ _ | .buildSlice _ _ _ | .load _ _ | .binOp _ _ _ _ _ | .unOp _ _ _ | .convert _ _ _ | .makeFunc _ _ _ | .fieldAddr _ _ _ | .field _ _ _
 | .indexAddr _ _ _ | .index _ _ _ | .slice _ _ _ _ _ | .extract _ _ | .lookup _ _ _ _ | .nilCheck _=>true
 | .call { callee:=.builtin .len,.. }=>true
 | .call { callee:=.builtin .max,.. }=>true
 | .call { callee:=.builtin .min,.. }=>true
 | _=>false
def Ln:Op→Bool
 | .load _ _=>true
 | .lookup _ _ _ _=>true
 | .call _=>true
 | .convert _ _ _=>true
 | _=>false
def HT:Builtin→Bool
 | .append | .copy | .clear=>true
 | _=>false
theorem vK {dst:Option Tmp} {b:Builtin} {l:List AV} {tys:List TypeId} {c:Bool} {s':St} {al:Bool} (hn:s.n=t.n) (hG:s.G=t.G) (h:bw E s dst b l tys=some (c,s')) :
  ∃ t',bw E t dst b l tys=some (c,t')∧bq al (HT b) dst s t s' t':=by
 obtain ⟨sl,bx,G,m,ro,n⟩:=s
 obtain ⟨N1,EV,G',m',lf,n'⟩:=t
 have hc:=fun esz d x=>zC (s:=⟨sl,bx,G,m,ro,n⟩) (t:=⟨N1,EV,G',m',lf,n'⟩) hG esz d x
 simp only at hn hG
 subst hn hG
 unfold bw at h ⊢
 simp only [← hc]
 cases b
 all_goals (try (cases h; done))
 all_goals (try simp only at h ⊢)
 all_goals (try (split at h <;> first | (cases h; done) | simp only at h ⊢))
 all_goals (repeat' (split at h))
 all_goals (first | (cases h; done) | skip)
 all_goals (injection h with h; injection h with h1 h2; subst h1 h2)
 all_goals (try simp only [if_true, *])
 all_goals (first | exact ⟨_,rfl,.put (by rfl) (by rfl) _ _⟩ | exact ⟨_,rfl,.cV (by rfl) _ _ _⟩ | exact ⟨_,rfl,.bF _ _⟩)
theorem ub (hG:s.G=t.G) (a b:TypeId) (x:SV):lj E s a b x=lj E t a b x:=by
 unfold lj
 rw [hG]
theorem vL (hG:s.G=t.G) (ty:TypeId) (m k:SV):kB E s ty m k=kB E t ty m k:=by
 have:mapOf s=mapOf t:=by funext m; unfold mapOf; rw [hG]
 unfold kB iC
 rw [this,hG]
theorem qe {ty:TypeId} {m k x:SV} {s':St} {al:Bool} {dst:Option Tmp} (hG:s.G=t.G) (h:eP E s ty m k x=some s') :
  ∃ t',eP E t ty m k x=some t'∧bq al true dst s t s' t':=by
 unfold eP at *
 rw [← hG]
 repeat' (split at h)
 all_goals (first | (cases h; done) | skip)
 cases h
 simp only [*]
 exact ⟨_,rfl,.bF _ _⟩
theorem BC {dst:Option Tmp} {x:SV} {s':St} {al:Bool} (hn:s.n=t.n) (hG:s.G=t.G) (h:kC s dst x=some s') :
  ∃ t',kC t dst x=some t'∧bq al true dst s t s' t':=by
 unfold kC at *
 rw [← hG]
 split at h
 ·split at h
  ·rename_i l pos hg
   cases hb:Nat.blt pos l.length with
   | true=>
    rw [hb] at h
    simp only [cond_true] at h ⊢
    cases h
    exact ⟨_,rfl,.cV hn _ _ _⟩
   | false=>
    rw [hb] at h
    simp only [cond_false] at h ⊢
    cases h
    obtain ⟨pre,preB,G,p1,p2,p3⟩:=bq.put (al:=al) (w:=true) hn hG dst (.v (.bi [.bool false]))
    exact ⟨_,rfl,pre,preB,G,p1,p2,p3⟩
  ·cases h
 ·cases h
theorem mg {f:FuncId} {r:Bool × St} (h:gb E f s o=some r):∃ args tys,o.op=.call { callee:=.builtin .append,args:=args,argTypes:=tys }:=by
 unfold gb at h
 split at h
 ·split at h
  ·split at h
   ·rename_i args tys ho
    exact ⟨args,tys,ho⟩
   ·cases h
  ·cases h
 ·cases h
theorem uc {f:FuncId} {c:Bool} {s':St} {al:Bool} (hn:s.n=t.n) (hG:s.G=t.G) (dQ:∀ y∈o.op.operands,bc E s.ae y=bc E t.ae y)
  (h:gb E f s o=some (c,s')):∃ t',gb E f t o=some (c,t')∧bq al true o.dst s t s' t':=by
 obtain ⟨args,tys,ho⟩:=mg h
 have h1:kP E s.ae args.toList=kP E t.ae args.toList:=fQ fun y hy=>dQ y (by rw [ho]; simp [Op.operands,Call.operands]; simpa using hy)
 unfold gb at h ⊢
 rw [ho] at h ⊢
 simp only [h1,hG] at h ⊢
 repeat' (split at h)
 all_goals (first | (cases h; done) | skip)
 injection h with h; injection h with h2 h3
 subst h2 h3
 simp only [*,if_true]
 refine ⟨_,rfl,?_⟩
 exact bq.cV hn _ _ _
theorem sK {f:FuncId} (hn:s.n=t.n) (hG:s.G=t.G) (dQ:∀ y∈o.op.operands,bc E s.ae y=bc E t.ae y) (h:gb E f s o=none):gb E f t o=none:=by
 cases ht:gb E f t o with
 | none=>rfl
 | some r=>
  obtain ⟨t',h1,_⟩:=uc (s:=t) (t:=s) (al:=false) hn.symm hG.symm (fun y hy=>(dQ y hy).symm) (c:=r.1) (s':=r.2) ht
  rw [h] at h1
  cases h1
theorem qf {f:FuncId} {c:Bool} {s':St} (hn:s.n=t.n) (hG:s.G=t.G) (hB:∀ k off,(∃ y∈o.op.operands,bc E s.ae y=.lp k off)→de s.boxes k=de t.boxes k) (dQ:∀ y∈o.op.operands,bc E s.ae y=bc E t.ae y)
  (h:ak E f s o=some (c,s')):∃ t',ak E f t o=some (c,t')∧bq (bB o.op) (!qI o.op) o.dst s t s' t':=by
 obtain ⟨dst,op,ty,pos,after,guard⟩:=o
 cases op
 case move x=>
  simp only [ak,dQ x (by simp [Op.operands])] at h ⊢
  split at h
  all_goals (injection h with h; injection h with h1 h2; subst h1 h2; (try simp only [*]); exact ⟨_,rfl,.put hn hG _ _⟩)
 case assign x=>
  simp only [ak,dQ x (by simp [Op.operands])] at h ⊢
  split at h
  all_goals (injection h with h; injection h with h1 h2; subst h1 h2; (try simp only [*]); exact ⟨_,rfl,.put hn hG _ _⟩)
 case pick x y z=>
  simp only [ak,dQ x (by simp [Op.operands]),dQ y (by simp [Op.operands]),dQ z (by simp [Op.operands])] at h ⊢
  split at h
  ·injection h with h; injection h with h1 h2; subst h1 h2; (try simp only [*]); exact ⟨_,rfl,.put hn hG _ _⟩
  ·cases h
 case alloc e=>
  simp only [ak] at h ⊢
  repeat' (split at h)
  all_goals (first | (cases h; done) | skip)
  simp only [*]
  exact rY hn hG h
 case box e x=>
  simp only [ak,dQ x (by simp [Op.operands])] at h ⊢
  repeat' (split at h)
  all_goals (first | (cases h; done) | skip)
  simp only [*]
  exact rY hn hG h
 case build ty ps=>
  have he:lL E s ty ps.toList=lL E t ty ps.toList:=by
   unfold lL
   rw [lx (fun p hp=>dQ p.2 (by simp only [Op.operands,List.mem_toArray,List.mem_map]; exact ⟨p,hp,rfl⟩))]
  simp only [ak,he] at h ⊢
  split at h
  ·injection h with h; injection h with h1 h2; subst h1 h2; (try simp only [*]); exact ⟨_,rfl,.put hn hG _ _⟩
  ·cases h
 case buildSlice ty len ps=>
  have he:bH E s ty len ps.toList=bH E t ty len ps.toList:=by
   unfold bH
   rw [lx (fun p hp=>dQ p.2 (by simp only [Op.operands,List.mem_toArray,List.mem_map]; exact ⟨p,hp,rfl⟩))]
  simp only [ak,he] at h ⊢
  split at h
  ·injection h with h; injection h with h1 h2; subst h1 h2; (try simp only [*]); exact ⟨_,rfl,.put hn hG _ _⟩
  ·cases h
 case load ty x=>
  simp only [ak,dQ x (by simp [Op.operands])] at h ⊢
  rw [zB hG ty _ (fun k off e=>hB k off ⟨x,by simp [Op.operands],by rw [dQ x (by simp [Op.operands])]; exact e⟩)] at h
  split at h
  ·injection h with h; injection h with h1 h2; subst h1 h2; (try simp only [*]); exact ⟨_,rfl,.put hn hG _ _⟩
  ·cases h
 case store ty x y=>
  simp only [ak,dQ x (by simp [Op.operands]),dQ y (by simp [Op.operands])] at h ⊢
  split at h
  ·rename_i s1 hs
   injection h with h; injection h with h1 h2; subst h1 h2
   obtain ⟨t',h3,h4⟩:=zE (al:=false) (dst:=none) hG (fun k off e=>hB k off ⟨x,by simp [Op.operands],by rw [dQ x (by simp [Op.operands])]; exact e⟩) hs
   rw [h3]
   exact ⟨_,rfl,h4⟩
  ·cases h
 case binOp op a x y b=>
  simp only [ak,dQ x (by simp [Op.operands]),dQ y (by simp [Op.operands])] at h ⊢
  repeat' (split at h)
  all_goals (first | (cases h; done) | skip)
  all_goals (injection h with h; injection h with h1 h2; subst h1 h2; (try simp only [*]); exact ⟨_,rfl,.put hn hG _ _⟩)
 case unOp op a x=>
  simp only [ak,dQ x (by simp [Op.operands])] at h ⊢
  repeat' (split at h)
  all_goals (first | (cases h; done) | skip)
  all_goals (injection h with h; injection h with h1 h2; subst h1 h2; (try simp only [*]); exact ⟨_,rfl,.put hn hG _ _⟩)
 case nilCheck x=>
  simp only [ak,dQ x (by simp [Op.operands])] at h ⊢
  repeat' (split at h)
  all_goals (first | (cases h; done) | skip)
  all_goals (injection h with h; injection h with h1 h2; subst h1 h2; (try simp only [*]); exact ⟨_,rfl,.put hn hG _ _⟩)
 case convert a b x=>
  simp only [ak,dQ x (by simp [Op.operands]),ub hG] at h ⊢
  repeat' (split at h)
  all_goals (first | (cases h; done) | skip)
  all_goals (injection h with h; injection h with h1 h2; subst h1 h2; (try simp only [*]); exact ⟨_,rfl,.put hn hG _ _⟩)
 case makeFunc fo a b=>
  cases fo with
  | func g=>
   have h1:kP E s.ae a.toList=kP E t.ae a.toList:=fQ fun y hy=>dQ y (by simp only [Op.operands,Array.mem_append]; exact .inl (by simpa using hy))
   have h2:kP E s.ae b.toList=kP E t.ae b.toList:=fQ fun y hy=>dQ y (by simp only [Op.operands,Array.mem_append]; exact .inr (by simpa using hy))
   simp only [ak,h1,h2] at h ⊢
   repeat' (split at h)
   all_goals (first | (cases h; done) | skip)
   all_goals (injection h with h; injection h with h1 h2; subst h1 h2; (try simp only [*]); exact ⟨_,rfl,.put hn hG _ _⟩)
  | _=>simp [ak] at h
 case fieldAddr a x j=>
  simp only [ak,dQ x (by simp [Op.operands])] at h ⊢
  repeat' (split at h)
  all_goals (first | (cases h; done) | skip)
  all_goals (injection h with h; injection h with h1 h2; subst h1 h2; (try simp only [*]); exact ⟨_,rfl,.put hn hG _ _⟩)
 case field a x j=>
  simp only [ak,dQ x (by simp [Op.operands])] at h ⊢
  repeat' (split at h)
  all_goals (first | (cases h; done) | skip)
  all_goals (injection h with h; injection h with h1 h2; subst h1 h2; (try simp only [*]); exact ⟨_,rfl,.put hn hG _ _⟩)
 case indexAddr a x y=>
  simp only [ak,dQ x (by simp [Op.operands]),dQ y (by simp [Op.operands])] at h ⊢
  repeat' (split at h)
  all_goals (first | (cases h; done) | skip)
  all_goals (injection h with h; injection h with h1 h2; subst h1 h2; (try simp only [*]); exact ⟨_,rfl,.put hn hG _ _⟩)
 case index a x y=>
  simp only [ak,dQ x (by simp [Op.operands]),dQ y (by simp [Op.operands])] at h ⊢
  repeat' (split at h)
  all_goals (first | (cases h; done) | skip)
  all_goals (injection h with h; injection h with h1 h2; subst h1 h2; (try simp only [*]); exact ⟨_,rfl,.put hn hG _ _⟩)
 case slice a x lo hi mx=>
  have h1:lM E s.ae lo=lM E t.ae lo:=by
   cases lo with
   | none=>rfl
   | some y=>simp only [lM]; rw [dQ y (by simp [Op.operands])]
  have h2:lM E s.ae hi=lM E t.ae hi:=by
   cases hi with
   | none=>rfl
   | some y=>simp only [lM]; rw [dQ y (by simp [Op.operands])]
  simp only [ak,dQ x (by simp [Op.operands]),h1,h2] at h ⊢
  repeat' (split at h)
  all_goals (first | (cases h; done) | skip)
  all_goals (injection h with h; injection h with h1 h2; subst h1 h2; (try simp only [*]); exact ⟨_,rfl,.put hn hG _ _⟩)
 case extract x i=>
  simp only [ak,dQ x (by simp [Op.operands])] at h ⊢
  repeat' (split at h)
  all_goals (first | (cases h; done) | skip)
  all_goals (injection h with h; injection h with h1 h2; subst h1 h2; (try simp only [*]); exact ⟨_,rfl,.put hn hG _ _⟩)
 case makeSlice ty x y=>
  simp only [ak,dQ x (by simp [Op.operands]),dQ y (by simp [Op.operands])] at h ⊢
  repeat' (split at h)
  all_goals (first | (cases h; done) | skip)
  all_goals (injection h with h; injection h with h1 h2; subst h1 h2)
  all_goals (simp only [*])
  all_goals (refine ⟨_,rfl,?_⟩)
  all_goals (have e:∀ o,t.dy o=t.bF (s.G++[o]):=fun o=>by rw [hG]; rfl)
  all_goals (rw [e,← hG])
  all_goals (exact bq.cV (al:=false) hn _ dst _)
 case lookup ty x y ok=>
  simp only [ak,dQ x (by simp [Op.operands]),dQ y (by simp [Op.operands]),vL hG] at h ⊢
  split at h
  ·injection h with h; injection h with h1 h2; subst h1 h2; (try simp only [*]); exact ⟨_,rfl,.put hn hG _ _⟩
  ·cases h
 case mapUpdate ty x y z=>
  simp only [ak,dQ x (by simp [Op.operands]),dQ y (by simp [Op.operands]),dQ z (by simp [Op.operands])] at h ⊢
  split at h
  ·rename_i s1 hs
   injection h with h; injection h with h1 h2; subst h1 h2
   obtain ⟨t',h3,h4⟩:=qe (al:=false) (dst:=none) hG hs
   rw [h3]
   exact ⟨_,rfl,h4⟩
  ·cases h
 case insert ty x y z=>
  simp only [ak,dQ x (by simp [Op.operands]),dQ y (by simp [Op.operands]),dQ z (by simp [Op.operands])] at h ⊢
  split at h
  ·rename_i s1 hs
   injection h with h; injection h with h1 h2; subst h1 h2
   obtain ⟨t',h3,h4⟩:=qe (al:=false) (dst:=none) hG hs
   rw [h3]
   exact ⟨_,rfl,h4⟩
  ·cases h
 case entry x=>
  simp only [ak,dQ x (by simp [Op.operands])] at h ⊢
  have e:qQ E s (bc E t.ae x)=qQ E t (bc E t.ae x):=by unfold qQ; rw [hG]
  rw [e] at h
  split at h
  ·injection h with h; injection h with h1 h2; subst h1 h2; (try simp only [*]); exact ⟨_,rfl,.put hn hG _ _⟩
  ·cases h
 case mapEntry ty x y=>
  simp only [ak,dQ x (by simp [Op.operands]),dQ y (by simp [Op.operands])] at h ⊢
  unfold fO at h ⊢
  rw [← hG]
  repeat' (split at h)
  all_goals (first | (cases h; done) | skip)
  rename_i jH
  repeat' (split at jH)
  all_goals (first | (cases jH; done) | skip)
  injection jH with jH; injection jH with h3 jH; injection jH with h4 h5
  injection h with h; injection h with h1 h2; subst h1 h2 h3 h4 h5
  simp only [*,if_true]
  exact ⟨_,rfl,bq.cV (al:=false) hn _ dst _⟩
 case entryStore ty x y z=>
  simp only [ak,dQ x (by simp [Op.operands]),dQ y (by simp [Op.operands]),dQ z (by simp [Op.operands])] at h ⊢
  unfold dO at h ⊢
  rw [← hG]
  repeat' (split at h)
  all_goals (first | (cases h; done) | skip)
  rename_i jH
  repeat' (split at jH)
  all_goals (first | (cases jH; done) | skip)
  injection jH with jH; injection jH with h3 h5
  injection h with h; injection h with h1 h2; subst h1 h2 h3 h5
  simp only [*]
  exact ⟨_,rfl,.bF _ _⟩
 case range ty x=>
  simp only [ak,dQ x (by simp [Op.operands])] at h ⊢
  repeat' (split at h)
  all_goals (first | (cases h; done) | skip)
  ·injection h with h; injection h with h1 h2; subst h1 h2
   (try simp only [*])
   refine ⟨_,rfl,?_⟩
   have e:∀ o,t.dy o=t.bF (s.G++[o]):=fun o=>by rw [hG]; rfl
   rw [e,← hG]
   exact bq.cV (al:=false) hn _ dst _
  ·rename_i hk hg
   injection h with h; injection h with h1 h2; subst h1 h2
   have yL:=hg
   rw [hG] at yL
   simp only [hk,yL]
   refine ⟨_,rfl,?_⟩
   have e:∀ o,t.dy o=t.bF (s.G++[o]):=fun o=>by rw [hG]; rfl
   rw [e,← hG]
   exact bq.cV (al:=false) hn _ dst _
 case next x b=>
  cases b with
  | false=>simp [ak] at h
  | true=>
   simp only [ak,dQ x (by simp [Op.operands])] at h ⊢
   split at h
   ·rename_i s1 hs
    injection h with h; injection h with h1 h2; subst h1 h2
    obtain ⟨t',h3,h4⟩:=BC (al:=false) hn hG hs
    rw [h3]
    exact ⟨_,rfl,h4⟩
   ·cases h
 case makeMap ty r=>
  cases r with
  | none=>
   simp only [ak] at h ⊢
   injection h with h; injection h with h1 h2; subst h1 h2
   refine ⟨_,rfl,?_⟩
   have:=bq.cV (al:=false) hn (s.G++[.map []]) dst (.v (.map s.G.length))
   have e:∀ o,t.dy o=t.bF (s.G++[o]):=fun o=>by rw [hG]; rfl
   rw [e,← hG]
   exact this
  | some _=>simp [ak] at h
 case call cl=>
  obtain ⟨callee,args,tys⟩:=cl
  cases callee with
  | builtin b=>
   have h1:kP E s.ae args.toList=kP E t.ae args.toList:=fQ fun y hy=>dQ y (by simp [Op.operands,Call.operands]; simpa using hy)
   cases hf:gb E f s { dst:=dst,op:=.call { callee:=.builtin b,args:=args,argTypes:=tys },type:=ty,pos:=pos,after:=after,guard:=guard } with
   | some r=>
    simp only [ak,hf] at h
    obtain ⟨t',q1,q2⟩:=uc (al:=bB (.call { callee:=.builtin b,args:=args,argTypes:=tys })) hn hG dQ (c:=r.1) (s':=r.2) hf
    cases h
    obtain ⟨a2,t2,ho⟩:=mg hf
    cases ho
    refine ⟨t',by simp only [ak,q1],?_⟩
    exact q2
   | none=>
   have O3:=sK hn hG dQ hf
   simp only [ak,hf,O3,h1] at h ⊢
   split at h
   ·(try simp only [*])
    obtain ⟨t',h3,h4⟩:=vK (al:=false) hn hG h
    refine ⟨t',h3,?_⟩
    have:(!qI (.call { callee:=.builtin b,args:=args,argTypes:=tys }))=HT b∨HT b=false:=by cases b <;> simp [qI,HT]
    rcases this with this | this
    ·rw [this]; exact h4
    ·obtain ⟨pre,preB,G,p1,p2,p3⟩:=h4
     exact ⟨pre,preB,G,p1,fun _=>p2 this,p3⟩
   ·cases h
  | _=>simp [ak] at h
 all_goals (simp [ak] at h)
theorem gD {f:FuncId} {c:Bool} {s':St} (hn:s.n=t.n) (hG:s.G=t.G) (hB:de s.boxes=de t.boxes) (dQ:∀ y∈o.op.operands,bc E s.ae y=bc E t.ae y)
  (h:ak E f s o=some (c,s')):∃ t',ak E f t o=some (c,t')∧bq (bB o.op) (!qI o.op) o.dst s t s' t':=
 qf hn hG (fun k _ _=>by rw [hB]) dQ h
end
end Go.Am
namespace Go.Am
open Go
structure nU (s t:St):Prop where
 l:lk s.ae=lk t.ae
 b:de s.boxes=de t.boxes
 G:s.G=t.G
 m:s.marks=t.marks
 ro:s.ro=t.ro
 n:s.n=t.n
theorem nU.refl (s:St):nU s s:=⟨rfl,rfl,rfl,rfl,rfl,rfl⟩
theorem nU.symm {s t:St} (h:nU s t):nU t s:=⟨h.l.symm,h.b.symm,h.G.symm,h.m.symm,h.ro.symm,h.n.symm⟩
theorem nU.trans {s t u:St} (h:nU s t) (k:nU t u):nU s u:=⟨h.l.trans k.l,h.b.trans k.b,h.G.trans k.G,h.m.trans k.m,h.ro.trans k.ro,h.n.trans k.n⟩
theorem ly {a b:aT} {e:Nat} (h:lk a e=lk b e):∀ pre:aT,lk (pre++a) e=lk (pre++b) e
 | []=>h
 | .put d x :: pre=>by
  simp only [List.cons_append,lk]
  rw [ly h pre]
 | .kill d :: pre=>by
  simp only [List.cons_append,lk]
  rw [ly h pre]
theorem uf {a b:cm} {e:Nat} (h:de a e=de b e):∀ pre:cm,de (pre++a) e=de (pre++b) e
 | []=>h
 | (d,x) :: pre=>by
  simp only [List.cons_append,de]
  rw [uf h pre]
theorem nU.eY {s t:St} (h:nU s t) (pre:aT) (preB:cm) (G:List GO):nU (s.eY pre preB G) (t.eY pre preB G):=
 ⟨funext fun e=>ly (by rw [h.l]) pre,funext fun e=>uf (by rw [h.b]) preB,rfl,h.m,h.ro,h.n⟩
theorem FE {E:Env} {a b:aT} {x:Operand} (h:∀ t,x=.tmp t→lk a t=lk b t):bc E a x=bc E b x:=by
 cases x with
 | tmp t=>exact h t rfl
 | _=>rfl
theorem nU.bc {E:Env} {s t:St} (h:nU s t) (x:Operand):bc E s.ae x=bc E t.ae x:=FE fun e _=>by rw [h.l]
section xQ
variable {E:Env} {R:aj} {w:World} {β:Nat→Nat} {s t:St} {a:Act}
theorem aV.eqv (h:aV E R w β s a) (e:nU s t):aV E R w β t a where
 g:=by rw [← e.G]; exact h.g
 b:=⟨fun k cs hk=>h.b.box k cs (by rw [e.b]; exact hk),fun k k' c c' h1 h2=>h.b.inj k k' c c' (by rw [e.b]; exact h1) (by rw [e.b]; exact h2)⟩
 t:=fun i hi=>by
  rw [← e.l] at hi ⊢
  exact h.t i hi
 n:=by rw [← e.n]; exact h.n
 d:=by rw [← e.m]; exact h.d
theorem sU {bx EV:cm} (h:de bx=de EV) {b:Nat} (k:Own R β bx b):Own R β EV b:=by
 rcases k with k | ⟨j,cs,h1,h2⟩
 ·exact .inl k
 ·exact .inr ⟨j,cs,by rw [← h]; exact h1,h2⟩
theorem Step.eqv {R':aj} {w':World} {β':Nat→Nat} {bx EV cx T5:cm} (h:Step R w β bx R' w' β' EV) (h1:de bx=de cx) (h2:de EV=de T5):Step R w β cx R' w' β' T5:=
 ⟨h.ext,h.os,h.tape,h.output,h.size,fun b hb hn=>h.aW b hb (fun ho=>hn (sU h1 ho)),fun b hb ho=>sU h1 (h.own b hb (sU h2.symm ho)),fun b o hi hb hn=>h.im b o hi hb (fun ho=>hn (sU h1 ho))⟩
end xQ
section ops
variable {E:Env} {s t:St} {f:FuncId} {o:Oper} {K K':St→Prop}
def Inv (K:St→Prop):Prop:=∀ s t,nU s t→K s→K t
theorem zF {op:Op} (h:qI op=true):bB op=false:=by
 cases op <;> simp_all [qI,bB]
theorem rk (hn:s.n=t.n) (hG:s.G=t.G) (hB:de s.boxes=de t.boxes) (dQ:∀ y∈o.op.operands,bc E s.ae y=bc E t.ae y) (h:jw E f o K s)
  (hK:∀ pre preB G,N0 (bB o.op) o.dst pre→(qI o.op=true→preB=[]∧G=s.G)→K (s.eY pre preB G)→K' (t.eY pre preB G)):jw E f o K' t:=by
 unfold jw at h ⊢
 split at h
 ·rename_i x args tys ho
  have h1:bc E s.ae x=bc E t.ae x:=dQ x (by rw [ho]; simp [Op.operands,Call.operands])
  have h2:kP E s.ae args.toList=kP E t.ae args.toList:=fQ fun y hy=>dQ y (by rw [ho]; simp [Op.operands,Call.operands]; exact .inr (by simpa using hy))
  try simp only [ho]
  rw [← h1,← h2,← hG]
  split at h
  ·refine cB.mono h fun r G' hk=>?_
   obtain ⟨pre,preB,G,p1,p2,p3,p4⟩:=bq.cV (s:=s) (t:=t) (al:=bB o.op) hn G' o.dst (.v r)
   rw [p3] at hk
   rw [p4]
   exact hK pre preB G p1 (fun e=>by rw [ho] at e; simp [qI] at e) hk
  ·refine jV.mono h fun r G' hk=>?_
   obtain ⟨pre,preB,G,p1,p2,p3,p4⟩:=bq.cV (s:=s) (t:=t) (al:=bB o.op) hn G' o.dst (.v (.bool r))
   rw [p3] at hk
   rw [p4]
   exact hK pre preB G p1 (fun e=>by rw [ho] at e; simp [qI] at e) hk
  ·exact h.elim
 ·exact h.elim
 ·split at h
  ·rename_i c s' hs
   obtain ⟨t',h1,pre,preB,G,p1,p2,p3,p4⟩:=gD hn hG hB dQ hs
   rw [h1]
   obtain ⟨rfl,hk⟩:=h.out
   refine cX.mk rfl ?_
   rw [p3] at hk
   rw [p4]
   exact hK pre preB G p1 (fun e=>⟨(p2 (by simp [e])).1,(p2 (by simp [e])).2.1⟩) hk
  ·exact h.elim
theorem rm (h:jw E f o K s) (hK:∀ s,K s→K' s):jw E f o K' s:=
 rk rfl rfl rfl (fun _ _=>rfl) h fun _ _ _ _ _ hk=>hK _ hk
theorem ug (h:jw E f o K s) (e:nU s t) (hK:Inv K):jw E f o K t:=
 rk e.n e.G e.b (fun y _=>e.bc y) h fun _ _ _ _ _ hk=>hK _ _ (e.eY _ _ _) hk
def yP (ops:List Oper) (s:St) (o:Oper):Option Bool:=match o.guard with
 | none=>some true
 | some (j,want)=>match nj ops j with
  | some d=>match lk s.ae d with
   | .v (.bool b)=>some (b == want)
   | .v (.bi [])=>some false
   | _=>none
  | none=>none
theorem zG (s:St) {d:Tmp} {x:SV} (h:lk s.ae d=x):nU s (s.put (some d) x):=by
 simp only [St.put]
 split
 ·refine ⟨funext fun e=>?_,rfl,rfl,rfl,rfl,rfl⟩
  by_cases k:d=e
  ·subst k; rw [aw]; exact h
  ·rw [aG k]
 ·exact nU.refl s
theorem nU.put {s t:St} (h:nU s t) (d:Option Tmp) (x:SV):nU (s.put d x) (t.put d x):=by
 obtain ⟨pre,preB,G,_,_,p3,p4⟩:=bq.put (s:=s) (t:=t) (al:=false) (w:=false) h.n h.G d x
 rw [p3,p4]
 exact h.eY _ _ _
theorem fI {ops:List Oper} (hK:Inv K):bL E f ops o K s↔(yP ops s o=some true∧jw E f o K s)∨(yP ops s o=some false∧K (s.put o.dst (.v fA))):=by
 unfold bL yP
 cases hg:o.guard with
 | none=>simp
 | some p=>
  obtain ⟨j,want⟩:=p
  simp only
  cases hd:nj ops j with
  | none=>simp
  | some d=>
   simp only
   cases hl:lk s.ae d with
   | none=>simp
   | lp _ _=>simp
   | v a=>
    cases a with
    | bool b=>
     have e1:b=want→nU s (s.put (some d) (.v (.bool want))):=fun e=>zG s (by rw [hl,e])
     have e2:b=(!want)→nU s (s.put (some d) (.v (.bool (!want)))):=fun e=>zG s (by rw [hl,e])
     constructor
     ·intro ⟨h1,h2⟩
      by_cases e:b=want
      ·exact .inl ⟨by simp [e],ug (h1 e) (e1 e).symm hK⟩
      ·have e':b=(!want):=by cases b <;> cases want <;> simp_all
       exact .inr ⟨by simp [e],hK _ _ ((e2 e').symm.put _ _) (h2 e')⟩
     ·rintro (⟨h1,h2⟩ | ⟨h1,h2⟩)
      ·have e:b=want:=by simpa using h1
       exact ⟨fun e=>ug h2 (e1 e) hK,fun e'=>by subst e; cases b <;> cases e'⟩
      ·have e:¬ b=want:=by simpa using h1
       exact ⟨fun k=>absurd k e,fun e'=>hK _ _ ((e2 e').put _ _) h2⟩
    | bi vs=>cases vs <;> simp
    | _=>simp
theorem bM {ops:List Oper} (h:bL E f ops o K s) (hK:∀ s,K s→K' s):bL E f ops o K' s:=by
 unfold bL at h ⊢
 split at h
 ·exact rm h hK
 ·split at h
  ·exact h.elim
  ·split at h
   ·exact ⟨fun e=>rm (h.1 e) hK,fun e=>hK _ (h.2 e)⟩
   ·exact hK _ h
   ·exact h.elim
theorem xR {ops:List Oper} (e:nU s t):yP ops s o=yP ops t o:=by
 unfold yP
 rw [e.l]
theorem zH {ops:List Oper} (hK:Inv K):Inv (bL E f ops o K):=fun s t e h=>by
 rw [fI hK] at h ⊢
 rcases h with ⟨h1,h2⟩ | ⟨h1,h2⟩
 ·exact .inl ⟨by rw [← xR e]; exact h1,ug h2 e hK⟩
 ·exact .inr ⟨by rw [← xR e]; exact h1,hK _ _ (e.put _ _) h2⟩
end ops
end Go.Am
namespace Go.Am
open Go
def FF (dst:Option Tmp) (s t s' t':St):Prop:=∃ x,s'=s.put dst x∧t'=t.put dst x
section
variable {E:Env} {s t:St} {o:Oper}
theorem FF.put (_:s.n=t.n) (dst:Option Tmp) (x:SV):FF dst s t (s.put dst x) (t.put dst x):=⟨x,rfl,rfl⟩
theorem zI {f:FuncId} {c:Bool} {s':St} (hN:qI o.op=true) (hR:Ln o.op=false) (hn:s.n=t.n) (dQ:∀ y∈o.op.operands,bc E s.ae y=bc E t.ae y)
  (h:ak E f s o=some (c,s')):∃ t',ak E f t o=some (c,t')∧FF o.dst s t s' t':=by
 obtain ⟨dst,op,ty,pos,after,guard⟩:=o
 cases op
 case move x=>
  simp only [ak,dQ x (by simp [Op.operands])] at h ⊢
  split at h
  all_goals (injection h with h; injection h with h1 h2; subst h1 h2; (try simp only [*]); exact ⟨_,rfl,.put hn _ _⟩)
 case assign x=>
  simp only [ak,dQ x (by simp [Op.operands])] at h ⊢
  split at h
  all_goals (injection h with h; injection h with h1 h2; subst h1 h2; (try simp only [*]); exact ⟨_,rfl,.put hn _ _⟩)
 case pick x y z=>
  simp only [ak,dQ x (by simp [Op.operands]),dQ y (by simp [Op.operands]),dQ z (by simp [Op.operands])] at h ⊢
  split at h
  ·injection h with h; injection h with h1 h2; subst h1 h2; (try simp only [*]); exact ⟨_,rfl,.put hn _ _⟩
  ·cases h
 case build ty ps=>
  have he:lL E s ty ps.toList=lL E t ty ps.toList:=by
   unfold lL
   rw [lx (fun p hp=>dQ p.2 (by simp only [Op.operands,List.mem_toArray,List.mem_map]; exact ⟨p,hp,rfl⟩))]
  simp only [ak,he] at h ⊢
  split at h
  ·injection h with h; injection h with h1 h2; subst h1 h2; (try simp only [*]); exact ⟨_,rfl,.put hn _ _⟩
  ·cases h
 case buildSlice ty len ps=>
  have he:bH E s ty len ps.toList=bH E t ty len ps.toList:=by
   unfold bH
   rw [lx (fun p hp=>dQ p.2 (by simp only [Op.operands,List.mem_toArray,List.mem_map]; exact ⟨p,hp,rfl⟩))]
  simp only [ak,he] at h ⊢
  split at h
  ·injection h with h; injection h with h1 h2; subst h1 h2; (try simp only [*]); exact ⟨_,rfl,.put hn _ _⟩
  ·cases h
 case binOp op a x y b=>
  simp only [ak,dQ x (by simp [Op.operands]),dQ y (by simp [Op.operands])] at h ⊢
  repeat' (split at h)
  all_goals (first | (cases h; done) | skip)
  all_goals (injection h with h; injection h with h1 h2; subst h1 h2; (try simp only [*]); exact ⟨_,rfl,.put hn _ _⟩)
 case unOp op a x=>
  simp only [ak,dQ x (by simp [Op.operands])] at h ⊢
  repeat' (split at h)
  all_goals (first | (cases h; done) | skip)
  all_goals (injection h with h; injection h with h1 h2; subst h1 h2; (try simp only [*]); exact ⟨_,rfl,.put hn _ _⟩)
 case convert a b x=>simp [Ln] at hR
 case nilCheck x=>
  simp only [ak,dQ x (by simp [Op.operands])] at h ⊢
  repeat' (split at h)
  all_goals (first | (cases h; done) | skip)
  all_goals (injection h with h; injection h with h1 h2; subst h1 h2; (try simp only [*]); exact ⟨_,rfl,.put hn _ _⟩)
 case makeFunc fo a b=>
  cases fo with
  | func g=>
   have h1:kP E s.ae a.toList=kP E t.ae a.toList:=fQ fun y hy=>dQ y (by simp only [Op.operands,Array.mem_append]; exact .inl (by simpa using hy))
   have h2:kP E s.ae b.toList=kP E t.ae b.toList:=fQ fun y hy=>dQ y (by simp only [Op.operands,Array.mem_append]; exact .inr (by simpa using hy))
   simp only [ak,h1,h2] at h ⊢
   repeat' (split at h)
   all_goals (first | (cases h; done) | skip)
   all_goals (injection h with h; injection h with h1 h2; subst h1 h2; (try simp only [*]); exact ⟨_,rfl,.put hn _ _⟩)
  | _=>simp [ak] at h
 case fieldAddr a x j=>
  simp only [ak,dQ x (by simp [Op.operands])] at h ⊢
  repeat' (split at h)
  all_goals (first | (cases h; done) | skip)
  all_goals (injection h with h; injection h with h1 h2; subst h1 h2; (try simp only [*]); exact ⟨_,rfl,.put hn _ _⟩)
 case field a x j=>
  simp only [ak,dQ x (by simp [Op.operands])] at h ⊢
  repeat' (split at h)
  all_goals (first | (cases h; done) | skip)
  all_goals (injection h with h; injection h with h1 h2; subst h1 h2; (try simp only [*]); exact ⟨_,rfl,.put hn _ _⟩)
 case indexAddr a x y=>
  simp only [ak,dQ x (by simp [Op.operands]),dQ y (by simp [Op.operands])] at h ⊢
  repeat' (split at h)
  all_goals (first | (cases h; done) | skip)
  all_goals (injection h with h; injection h with h1 h2; subst h1 h2; (try simp only [*]); exact ⟨_,rfl,.put hn _ _⟩)
 case index a x y=>
  simp only [ak,dQ x (by simp [Op.operands]),dQ y (by simp [Op.operands])] at h ⊢
  repeat' (split at h)
  all_goals (first | (cases h; done) | skip)
  all_goals (injection h with h; injection h with h1 h2; subst h1 h2; (try simp only [*]); exact ⟨_,rfl,.put hn _ _⟩)
 case slice a x lo hi mx=>
  have h1:lM E s.ae lo=lM E t.ae lo:=by
   cases lo with
   | none=>rfl
   | some y=>simp only [lM]; rw [dQ y (by simp [Op.operands])]
  have h2:lM E s.ae hi=lM E t.ae hi:=by
   cases hi with
   | none=>rfl
   | some y=>simp only [lM]; rw [dQ y (by simp [Op.operands])]
  simp only [ak,dQ x (by simp [Op.operands]),h1,h2] at h ⊢
  repeat' (split at h)
  all_goals (first | (cases h; done) | skip)
  all_goals (injection h with h; injection h with h1 h2; subst h1 h2; (try simp only [*]); exact ⟨_,rfl,.put hn _ _⟩)
 case extract x i=>
  simp only [ak,dQ x (by simp [Op.operands])] at h ⊢
  repeat' (split at h)
  all_goals (first | (cases h; done) | skip)
  all_goals (injection h with h; injection h with h1 h2; subst h1 h2; (try simp only [*]); exact ⟨_,rfl,.put hn _ _⟩)
 all_goals (first | (simp [qI] at hN; done) | (simp [Ln] at hR; done))
end
end Go.Am
namespace Go.Am
open Go
section
variable {E:Env} {s t:St} {f:FuncId} {ops:Array Oper} {o oj oi:Oper} {d:Tmp} {x:SV} {K:St→Prop}
theorem FG (ops:Array Oper) (j:Nat):nj ops.toList j=(ops[j]?).bind (·.dst):=by
 unfold nj
 rw [aR,Array.getElem?_toList]
 cases ops[j]? <;> rfl
theorem mh {e:Tmp} (h:.tmp e∈o.op.operands):e∈o.looksAt ops:=
 List.mem_append_left _ (List.mem_filterMap.2 ⟨.tmp e,by simpa using h,rfl⟩)
theorem jc {j:Nat} {want:Bool} {e:Tmp} (h:o.guard=some (j,want)) (he:nj ops.toList j=some e):e∈o.looksAt ops:=by
 rw [FG] at he
 refine List.mem_append_right _ ?_
 rw [h]
 simp [he]
theorem jW (h:∀ e∈o.looksAt ops,lk s.ae e=lk t.ae e):∀ y∈o.op.operands,bc E s.ae y=bc E t.ae y:=fun _ hy=>
 FE fun e he=>h e (mh (he ▸ hy))
theorem jJ (h:∀ e∈o.looksAt ops,lk s.ae e=lk t.ae e):yP ops.toList s o=yP ops.toList t o:=by
 unfold yP
 split
 ·rfl
 ·rename_i j want hg
  split
  ·rename_i e he
   rw [h e (jc hg he)]
  ·rfl
theorem sV (s:St) (d:Tmp) (x:SV) {e:Nat} (h:d≠e):lk (s.put (some d) x).ae e=lk s.ae e:=by
 simp only [St.put]
 split
 ·exact aG h
 ·rfl
theorem fJ (s:St) (d:Option Tmp) (x:SV):(s.put d x).boxes=s.boxes∧(s.put d x).G=s.G∧(s.put d x).n=s.n∧(s.put d x).marks=s.marks∧(s.put d x).ro=s.ro:=by
 cases d with
 | none=>exact ⟨rfl,rfl,rfl,rfl,rfl⟩
 | some d=>
  simp only [St.put]
  split <;> exact ⟨rfl,rfl,rfl,rfl,rfl⟩
def uh (E:Env) (f:FuncId) (ops:Array Oper) (o:Oper) (s:St) (x:SV):Prop:=
 (yP ops.toList s o=some true∧ak E f s o=some (true,s.put o.dst x))∨(yP ops.toList s o=some false∧x=.v fA)
theorem FH {c:Bool} {s':St} (hN:qI o.op=true) (h:ak E f s o=some (c,s')):∃ x,s'=s.put o.dst x:=by
 obtain ⟨t',_,pre,preB,G,_,h2,_,_⟩:=gD (t:=s) rfl rfl rfl (fun _ _=>rfl) h
 obtain ⟨_,_,x,hx,_⟩:=h2 (by simp [hN])
 exact ⟨x,hx⟩
theorem FI (hN:qI o.op=true):jw E f o K s↔∃ s',ak E f s o=some (true,s')∧K s':=by
 unfold jw
 split
 ·rename_i h
  rw [h] at hN
  simp [qI] at hN
 ·rename_i h
  rw [h] at hN
  simp [qI] at hN
 ·split
  ·rename_i c s' hs
   constructor
   ·intro h
    obtain ⟨rfl,hk⟩:=h.out
    exact ⟨s',hs,hk⟩
   ·rintro ⟨xH,h1,h2⟩
    rw [hs] at h1
    cases h1
    exact cX.mk rfl h2
  ·rename_i hs
   constructor
   ·exact fun h=>h.elim
   ·rintro ⟨xH,h1,_⟩
    rw [hs] at h1
    cases h1
theorem ui (hN:qI o.op=true) (hK:Inv K) (h:bL E f ops.toList o K s):∃ x,uh E f ops o s x∧K (s.put o.dst x):=by
 rcases (fI hK).1 h with ⟨h1,h2⟩ | ⟨h1,h2⟩
 ·obtain ⟨s',h3,h4⟩:=(FI hN).1 h2
  obtain ⟨x,rfl⟩:=FH hN h3
  exact ⟨x,.inl ⟨h1,h3⟩,h4⟩
 ·exact ⟨_,.inr ⟨h1,rfl⟩,h2⟩
theorem uj (hN:qI o.op=true) (hK:Inv K) (hx:uh E f ops o s x) (h:K (s.put o.dst x)):bL E f ops.toList o K s:=by
 rw [fI hK]
 rcases hx with ⟨h1,h2⟩ | ⟨h1,rfl⟩
 ·exact .inl ⟨h1,(FI hN).2 ⟨_,h2,h⟩⟩
 ·exact .inr ⟨h1,h⟩
def BD (E:Env) (f:FuncId) (ops:List Oper) (o:Oper) (s:St):Prop:=match yP ops s o with
 | some true=>match o.dst,ak E f s o with
  | some d,some (c,s')=>c=true∧lk s'.ae d=lk s.ae d
  | _,_=>False
 | some false=>True
 | none=>False
theorem HU (hN:qI o.op=true) (hd:d∉o.looksAt ops) (cr:o.dst≠some d) (he:∀ e,d≠e→lk s.ae e=lk t.ae e) (hB:de s.boxes=de t.boxes) (hG:s.G=t.G) (hn:s.n=t.n)
  (h:BD E f ops.toList o s):BD E f ops.toList o t:=by
 have hl:∀ e∈o.looksAt ops,lk s.ae e=lk t.ae e:=fun e hm=>he e fun k=>hd (k ▸ hm)
 unfold BD at h ⊢
 rw [← jJ hl]
 split
 ·rename_i hg
  rw [hg] at h
  simp only at h
  split at h
  ·rename_i e c s' D3 hs
   obtain ⟨t',h3,pre,preB,G,_,h4,_,_⟩:=gD hn hG hB (jW hl) hs
   obtain ⟨_,_,y,h5,h6⟩:=h4 (by simp [hN])
   rw [D3,h3]
   refine ⟨h.1,?_⟩
   have T6:d≠e:=fun k=>cr (by rw [D3,k])
   have h7:=h.2
   rw [h5,D3] at h7
   rw [h6,D3,← he e T6]
   simp only [St.put,← hn] at h7 ⊢
   split
   ·rename_i hb
    rw [hb] at h7
    simp only [aw] at h7 ⊢
    exact h7
   ·exact (he e T6).symm
  ·exact h.elim
 ·trivial
 ·rename_i hg
  rw [hg] at h
  exact h
theorem HV (hN:qI o.op=true) (e:nU s t) (h:BD E f ops.toList o s):BD E f ops.toList o t:=by
 unfold BD at h ⊢
 rw [← xR e]
 split
 ·rename_i hg
  rw [hg] at h
  simp only at h
  split at h
  ·rename_i d c s' D3 hs
   obtain ⟨t',h3,pre,preB,G,_,h4,_,_⟩:=gD e.n e.G e.b (fun y _=>e.bc y) hs
   obtain ⟨_,_,y,h5,h6⟩:=h4 (by simp [hN])
   rw [D3,h3]
   refine ⟨h.1,?_⟩
   rw [h6,← (e.put o.dst y).l,← h5,← e.l]
   exact h.2
  ·exact h.elim
 ·trivial
 ·rename_i hg
  rw [hg] at h
  exact h
def iJ (oj oi:Oper):Bool:=bB oi.op || (Ln oj.op&&!qI oi.op)
theorem FJ {al:Bool} {dst:Option Tmp} {pre:aT} (h:N0 al dst pre) {e:Nat} (he:dst≠some e) (l:aT):lk (pre++l) e=lk l e∨(al=true∧∃ k off,lk l e=.lp k off):=by
 rcases h with rfl | ⟨d,y,rfl,rfl | ⟨rfl,rfl⟩⟩
 ·exact .inl rfl
 ·exact .inl (aG fun k=>he (by rw [k]))
 ·simp only [List.cons_append,List.nil_append]
  rw [aG (fun k=>he (by rw [k]))]
  simp only [lk]
  cases hl:lk l e with
  | lp k off=>exact .inr ⟨trivial,k,off,rfl⟩
  | _=>exact .inl rfl
theorem qg {al:Bool} {pre:aT} (preB:cm) (G:List GO) (h:N0 al oi.dst pre) (cr:oi.dst≠some d) (hx:al=false∨∃ a,x=.v a):nU ((s.put (some d) x).eY pre preB G) ((s.eY pre preB G).put (some d) x):=by
 have hb:∀ b,Nat.blt d s.n=b→nU ((s.put (some d) x).eY pre preB G) ((s.eY pre preB G).put (some d) x):=fun b hb=>by
  have kD:Nat.blt d (s.eY pre preB G).n=b:=hb
  rw [kG,kG,hb,kD]
  cases b with
  | false=>exact nU.refl _
  | true=>
   refine ⟨funext fun e=>?_,rfl,rfl,rfl,rfl,rfl⟩
   simp only [cond_true,St.eY,List.cons_append,List.nil_append]
   by_cases k:d=e
   ·subst k
    rw [aw]
    rcases FJ h cr (.put d x :: s.ae) with h1 | ⟨h1,k,off,h2⟩
    ·rw [h1,aw]
    ·rw [aw] at h2
     rcases hx with hx | ⟨a,hx⟩
     ·rw [hx] at h1; cases h1
     ·rw [hx] at h2; cases h2
   ·rw [aG k]
    exact ly (aG k) pre
 exact hb _ rfl
theorem D4 (hN:qI oj.op=true) (CP:oj.dst=some d) (zJ:d∉oj.looksAt ops) (N2:oj.apart ops oi=true) (hK:Inv K) (hx:uh E f ops oj s x) {pre:aT} {preB:cm} {G:List GO}
  (zK:N0 (bB oi.op) oi.dst pre) (Pd:qI oi.op=true→preB=[]∧G=s.G) (hk:K ((s.put (some d) x).eY pre preB G)) (OQ:∀ t',K t'→iJ oj oi=true→BD E f ops.toList oj t') :
  ∃ x',uh E f ops oj (s.eY pre preB G) x'∧K ((s.eY pre preB G).put (some d) x'):=by
 obtain ⟨_,cr,tN⟩:=Oper.apart_spec N2
 have FK:oi.dst≠some d:=cr d CP
 have qh:∀ e∈oj.looksAt ops,oi.dst≠some e:=fun e he k=>tN e k he
 have tC:∀ e∈oj.looksAt ops,(bB oi.op=false∨∃ b,lk s.ae e=.v b)→lk s.ae e=lk (s.eY pre preB G).ae e:=fun e he ha=>by
  rcases FJ zK (qh e he) s.ae with h1 | ⟨h1,k,off,h2⟩
  ·exact h1.symm
  ·rcases ha with ha | ⟨b,ha⟩
   ·rw [ha] at h1; cases h1
   ·rw [ha] at h2; cases h2
 have HW:∀ b,yP ops.toList s oj=some b→yP ops.toList (s.eY pre preB G) oj=some b:=fun b hb=>by
  unfold yP at hb ⊢
  split
  ·rename_i hg; rw [hg] at hb; exact hb
  ·rename_i j want hg
   rw [hg] at hb
   simp only at hb
   split
   ·rename_i e he
    rw [he] at hb
    simp only at hb
    split at hb
    ·rename_i b' hl
     have:=tC e (jc hg he) (.inr ⟨_,hl⟩)
     rw [← this,hl]
     exact hb
    ·rename_i hl
     have:=tC e (jc hg he) (.inr ⟨_,hl⟩)
     rw [← this,hl]
     exact hb
    ·cases hb
   ·rename_i he; rw [he] at hb; cases hb
 rcases hx with ⟨h1,h2⟩ | ⟨h1,rfl⟩
 ·rw [CP] at h2
  by_cases RR:iJ oj oi=true
  ·have hr:=OQ _ hk RR
   -- the state with the slot, and the one without it
   have xG:∀ e,d≠e→lk ((s.put (some d) x).eY pre preB G).ae e=lk (s.eY pre preB G).ae e:=fun e he=>ly (sV s d x he) pre
   have hB:de ((s.put (some d) x).eY pre preB G).boxes=de (s.eY pre preB G).boxes:=by
    simp only [St.eY]; rw [(fJ s _ x).1]
   have hn:((s.put (some d) x).eY pre preB G).n=(s.eY pre preB G).n:=(fJ s _ x).2.2.1
   have HX:∀ e∈oj.looksAt ops,lk ((s.put (some d) x).eY pre preB G).ae e=lk (s.eY pre preB G).ae e:=fun e he=>xG e fun k=>zJ (k ▸ he)
   have VG:yP ops.toList ((s.put (some d) x).eY pre preB G) oj=some true:=by rw [jJ HX]; exact HW _ h1
   unfold BD at hr
   rw [VG] at hr
   simp only [CP] at hr
   split at hr
   ·rename_i d' c s' Cy hs
    cases Cy
    obtain ⟨rfl,hr⟩:=hr
    obtain ⟨t',h3,p,pB,G2,_,h4,_,_⟩:=gD (t:=s.eY pre preB G) hn rfl hB (jW HX) hs
    obtain ⟨_,_,y,h5,h6⟩:=h4 (by simp [hN])
    rw [h6] at h3
    rw [h5,CP] at hr
    refine ⟨y,.inl ⟨HW _ h1,h3⟩,hK _ _ ?_ hk⟩
    have T7:((s.put (some d) x).eY pre preB G).marks=(s.eY pre preB G).marks∧((s.put (some d) x).eY pre preB G).ro=(s.eY pre preB G).ro:=(fJ s _ x).2.2.2
    obtain ⟨q1,q2,q3,q4,q5⟩:=fJ (s.eY pre preB G) (some d) y
    refine ⟨funext fun e=>?_,by rw [q1]; exact hB,by rw [q2]; rfl,by rw [q4]; exact T7.1,by rw [q5]; exact T7.2,by rw [q3]; exact hn⟩
    by_cases k:d=e
    ·subst k
     rw [← hr]
     have hb:∀ b,Nat.blt d s.n=b→lk (((s.put (some d) x).eY pre preB G).put (some d) y).ae d=lk ((s.eY pre preB G).put (some d) y).ae d:=fun b hb=>by
      have Pe:Nat.blt d (s.eY pre preB G).n=b:=hb
      have EO:Nat.blt d ((s.put (some d) x).eY pre preB G).n=b:=by rw [hn]; exact hb
      rw [kG _ d y,kG _ d y,Pe,EO]
      cases b with
      | true=>simp [St.eY,aw]
      | false=>
       simp only [cond_false]
       rw [kG,hb]
       rfl
     exact hb _ rfl
    ·rw [sV _ _ _ k]
     exact xG e k
   ·exact hr.elim
  ·have D5:bB oi.op=false:=by cases ha:bB oi.op <;> simp_all [iJ]
   have hl:∀ e∈oj.looksAt ops,lk s.ae e=lk (s.eY pre preB G).ae e:=fun e he=>tC e he (.inl D5)
   have fin:∀ y,s.put (some d) x=s.put (some d) y→ak E f (s.eY pre preB G) oj=some (true,(s.eY pre preB G).put oj.dst y) →
     ∃ x',uh E f ops oj (s.eY pre preB G) x'∧K ((s.eY pre preB G).put (some d) x'):=fun y hy hs=>by
    refine ⟨y,.inl ⟨HW _ h1,hs⟩,hK _ _ (qg (oi:=oi) preB G zK FK (.inl D5)) ?_⟩
    rw [← hy]
    exact hk
   cases VH:qI oi.op with
   | true=>
    obtain ⟨rfl,rfl⟩:=Pd VH
    obtain ⟨t',h3,p,pB,G2,_,h4,_,_⟩:=gD (s:=s) (t:=s.eY pre [] s.G) rfl rfl rfl (jW hl) h2
    obtain ⟨_,_,y,h5,h6⟩:=h4 (by simp [hN])
    rw [CP] at h5
    exact fin y h5 (by rw [h3,h6])
   | false=>
    have hR:Ln oj.op=false:=by cases ha:Ln oj.op <;> simp_all [iJ]
    obtain ⟨t',h3,y,h5,h6⟩:=zI (s:=s) (t:=s.eY pre preB G) hN hR rfl (jW hl) h2
    rw [CP] at h5
    exact fin y h5 (by rw [h3,h6])
 ·exact ⟨_,.inr ⟨HW _ h1,rfl⟩,hK _ _ (qg (oi:=oi) preB G zK FK (.inr ⟨_,rfl⟩)) hk⟩
end
end Go.Am
namespace Go.Am
open Go
section
variable {E:Env} {s t:St} {o:Oper}
def gT (E:Env) (s:St) (o:Oper) (s':St):Prop:=
 (s'.ae=s.ae∨∃ d x,o.dst=some d∧(s'.ae=.put d x :: s.ae∨s'.ae=.put d x :: .kill d :: s.ae)∧∀ k off,x=.lp k off→(∃ y∈o.op.operands,∃ fB,bc E s.ae y=.lp k fB)∨(bB o.op=true∧k=d)) ∧
 (s'.boxes=s.boxes∨∃ k cs,s'.boxes=(k,cs) :: s.boxes∧((bB o.op=true∧o.dst=some k)∨∃ y∈o.op.operands,∃ off,bc E s.ae y=.lp k off))
theorem kH {s1:St} (h1:s1.ae=s.ae) (h2:s1.boxes=s.boxes) {x:SV} (hx:∀ k off,x=.lp k off→∃ y∈o.op.operands,∃ fB,bc E s.ae y=.lp k fB):gT E s o (s1.put o.dst x):=by
 refine ⟨?_,.inl (by rw [(fJ s1 o.dst x).1,h2])⟩
 cases hd:o.dst with
 | none=>exact .inl h1
 | some d=>
  simp only [St.put]
  split
  ·exact .inr ⟨d,x,rfl,.inl (by rw [h1]),fun k off h=>.inl (hx k off h)⟩
  ·exact .inl h1
theorem jX {s1:St} (h1:s1.ae=s.ae) (h2:s1.boxes=s.boxes) (a:AV):gT E s o (s1.put o.dst (.v a)):=kH h1 h2 fun k off h=>by cases h
theorem lA {s1:St} (h1:s1.ae=s.ae) (h2:s1.boxes=s.boxes):gT E s o s1:=⟨.inl h1,.inl h2⟩
theorem HY {k:Nat} {cs:List AV} (h:∃ y∈o.op.operands,∃ off,bc E s.ae y=.lp k off):gT E s o (s.sr k cs):=⟨.inl rfl,.inr ⟨k,cs,rfl,.inr h⟩⟩
theorem zL {n:Nat} {x:SV} {k off:Nat} (h:v7 n x=some (.lp k off)):∃ fB,x=.lp k fB:=by
 unfold v7 at h
 split at h <;> cases h
 exact ⟨_,rfl⟩
theorem vM {ty:TypeId} {x:SV} {j k off:Nat} (h:jM E ty x j=some (.lp k off)):∃ fB,x=.lp k fB:=by
 unfold jM at h
 repeat' (split at h)
 all_goals (first | (cases h; done) | exact zL h)
theorem vN {ty:TypeId} {x ix:SV} {c:Bool} {k off:Nat} (h:jL E ty x ix=some (c,.lp k off)):∃ fB,x=.lp k fB:=by
 unfold jL at h
 repeat' (split at h)
 all_goals (first | (cases h; done) | skip)
 rename_i hm
 injection h with h; injection h with h1 h2; subst h2
 exact zL hm
theorem BE {ty:TypeId} {p x:SV} {s':St} (hp:∀ k off,p=.lp k off→∃ y∈o.op.operands,∃ fB,bc E s.ae y=.lp k fB) (h:iU E s ty p x=some s'):gT E s o s':=by
 unfold iU at h
 repeat' (split at h)
 all_goals (first | (cases h; done) | skip)
 ·cases h; exact HY (hp _ _ rfl)
 ·cases h; exact lA rfl rfl
theorem BF {ty:TypeId} {p x:SV} {c:Bool} {s':St} (hp:∀ k off,p=.lp k off→∃ y∈o.op.operands,∃ fB,bc E s.ae y=.lp k fB) (h:iV E s ty p x=some (c,s')):gT E s o s':=by
 unfold iV at h
 repeat' (split at h)
 all_goals (first | (cases h; done) | skip)
 ·injection h with h; injection h with h1 h2; subst h2; exact lA rfl rfl
 ·injection h with h; injection h with h1 h2; subst h2; exact lA rfl rfl
 ·rename_i hs
  injection h with h; injection h with h1 h2; subst h2; exact BE hp hs
theorem rZ {ty:TypeId} {m k x:SV} {s':St} (h:eP E s ty m k x=some s'):gT E s o s':=by
 unfold eP at h
 repeat' (split at h)
 all_goals (first | (cases h; done) | skip)
 cases h; exact lA rfl rfl
theorem D6 {x:SV} {s':St} (h:kC s o.dst x=some s'):gT E s o s':=by
 unfold kC at h
 split at h
 ·split at h
  ·rename_i l pos hg
   cases hb:Nat.blt pos l.length with
   | true=>
    rw [hb] at h
    simp only [cond_true] at h
    cases h
    exact jX rfl rfl _
   | false=>
    rw [hb] at h
    simp only [cond_false] at h
    cases h
    exact jX rfl rfl _
  ·cases h
 ·cases h
theorem xS {b:Builtin} {l:List AV} {tys:List TypeId} {c:Bool} {s':St} (h:bw E s o.dst b l tys=some (c,s')):gT E s o s':=by
 unfold bw at h
 cases b
 all_goals (try (cases h; done))
 all_goals (try simp only at h)
 all_goals (try (split at h <;> first | (cases h; done) | simp only at h))
 all_goals (repeat' (split at h))
 all_goals (first | (cases h; done) | skip)
 all_goals (injection h with h; injection h with h1 h2; subst h1 h2)
 all_goals (first | exact jX rfl rfl _ | exact lA rfl rfl)
theorem D7 {f:FuncId} {c:Bool} {s':St} (h:gb E f s o=some (c,s')):gT E s o s':=by
 unfold gb at h
 repeat' (split at h)
 all_goals (first | (cases h; done) | skip)
 injection h with h; injection h with h2 h3
 subst h3
 exact jX rfl rfl _
theorem uk {f:FuncId} {el:TypeId} {cs:List AV} {c:Bool} {s':St} (ha:bB o.op=true) (h:eN E f s o.dst el cs=some (c,s')):gT E s o s':=by
 unfold eN at h
 split at h
 ·cases h
 ·rename_i d hd
  split at h
  ·injection h with h; injection h with h1 h2; subst h2
   rw [← hd]
   exact jX rfl rfl _
  ·split at h
   ·rename_i hb
    injection h with h; injection h with h1 h2; subst h2
    refine ⟨.inr ⟨d,.lp d 0,hd,.inr ?_,fun k off h=>by cases h; exact .inr ⟨ha,rfl⟩⟩,.inr ⟨d,cs,?_,.inl ⟨ha,hd⟩⟩⟩
    ·simp only [St.put,St.sr,St.kill,hb]
    ·rw [(fJ _ (some d) (.lp d 0)).1]; rfl
   ·cases h
theorem BG {f:FuncId} {c:Bool} {s':St} (h:ak E f s o=some (c,s')):gT E s o s':=by
 cases ho:o.op
 case move x=>
  simp only [ak,ho] at h
  split at h
  all_goals (injection h with h; injection h with h1 h2; subst h2)
  ·exact jX rfl rfl _
  ·rename_i k off hx
   exact kH rfl rfl fun k' fB e=>by cases e; exact ⟨x,by rw [ho]; simp [Op.operands],_,hx⟩
  ·exact kH rfl rfl fun k' fB e=>by cases e
 case assign x=>
  simp only [ak,ho] at h
  split at h
  all_goals (injection h with h; injection h with h1 h2; subst h2)
  ·exact jX rfl rfl _
  ·rename_i k off hx
   exact kH rfl rfl fun k' fB e=>by cases e; exact ⟨x,by rw [ho]; simp [Op.operands],_,hx⟩
  ·exact kH rfl rfl fun k' fB e=>by cases e
 case nilCheck x=>
  simp only [ak,ho] at h
  split at h
  ·injection h with h; injection h with h1 h2; subst h2
   exact jX rfl rfl _
  ·rename_i k off hx
   injection h with h; injection h with h1 h2; subst h2
   exact kH rfl rfl fun k' fB e=>by cases e; exact ⟨x,by rw [ho]; simp [Op.operands],_,hx⟩
  ·cases h
 case fieldAddr a x j=>
  simp only [ak,ho] at h
  split at h
  ·rename_i p hp
   injection h with h; injection h with h1 h2; subst h2
   exact kH rfl rfl fun k' fB e=>by subst e; exact ⟨x,by rw [ho]; simp [Op.operands],vM hp⟩
  ·cases h
 case indexAddr a x y=>
  simp only [ak,ho] at h
  split at h
  ·rename_i c' p hp
   injection h with h; injection h with h1 h2; subst h2
   exact kH rfl rfl fun k' fB e=>by subst e; exact ⟨x,by rw [ho]; simp [Op.operands],vN hp⟩
  ·cases h
 case alloc e=>
  simp only [ak,ho] at h
  repeat' (split at h)
  all_goals (first | (cases h; done) | skip)
  exact uk (by rw [ho]; rfl) h
 case box e x=>
  simp only [ak,ho] at h
  repeat' (split at h)
  all_goals (first | (cases h; done) | skip)
  exact uk (by rw [ho]; rfl) h
 case store ty x y=>
  simp only [ak,ho] at h
  split at h
  ·rename_i hs
   injection h with h; injection h with h1 h2; subst h2
   exact BF (fun k off e=>⟨x,by rw [ho]; simp [Op.operands],off,e⟩) hs
  ·cases h
 case mapUpdate ty x y z=>
  simp only [ak,ho] at h
  split at h
  ·rename_i hs
   injection h with h; injection h with h1 h2; subst h2
   exact rZ hs
  ·cases h
 case insert ty x y z=>
  simp only [ak,ho] at h
  split at h
  ·rename_i hs
   injection h with h; injection h with h1 h2; subst h2
   exact rZ hs
  ·cases h
 case mapEntry ty x y=>
  simp only [ak,ho] at h
  split at h
  ·rename_i hs
   injection h with h; injection h with h1 h2; subst h2
   unfold fO at hs
   repeat' (split at hs)
   all_goals (first | (cases hs; done) | skip)
   injection hs with hs; injection hs with h3 hs; injection hs with h4 h5
   subst h5
   exact jX rfl rfl _
  ·cases h
 case entryStore ty x y z=>
  simp only [ak,ho] at h
  split at h
  ·rename_i hs
   injection h with h; injection h with h1 h2; subst h2
   unfold dO at hs
   repeat' (split at hs)
   all_goals (first | (cases hs; done) | skip)
   injection hs with hs; injection hs with h3 h4
   subst h4
   exact lA rfl rfl
  ·cases h
 case next x b=>
  cases b with
  | false=>simp [ak,ho] at h
  | true=>
   simp only [ak,ho] at h
   split at h
   ·rename_i hs
    injection h with h; injection h with h1 h2; subst h2
    exact D6 hs
   ·cases h
 case call cl=>
  obtain ⟨callee,args,tys⟩:=cl
  cases callee with
  | builtin b=>
   simp only [ak,ho] at h
   split at h
   ·rename_i r hf
    cases h
    exact D7 hf
   ·split at h
    ·exact xS h
    ·cases h
  | _=>simp [ak,ho] at h
 case makeFunc fo a b=>
  cases fo with
  | func g=>
   simp only [ak,ho] at h
   repeat' (split at h)
   all_goals (first | (cases h; done) | skip)
   injection h with h; injection h with h1 h2; subst h2
   exact jX rfl rfl _
  | _=>simp [ak,ho] at h
 case makeMap ty r=>
  cases r with
  | none=>
   simp only [ak,ho] at h
   injection h with h; injection h with h1 h2; subst h2
   exact jX rfl rfl _
  | some _=>simp [ak,ho] at h
 all_goals (first
  | (simp [ak,ho] at h; done)
  | (simp only [ak,ho] at h; (repeat' (split at h)); (all_goals (first | (cases h; done) | skip)); (all_goals (injection h with h; injection h with h1 h2; subst h2)); (all_goals (exact jX rfl rfl _))))
def pg (s:St) (d:Nat) (cs:List AV):St:=s.eY [.put d (.lp d 0),.kill d] [(d,cs)] s.G
theorem BH {f:FuncId} {d:Tmp} {c:Bool} {s1:St} (D5:bB o.op=true) (hd:o.dst=some d) (hg:E.vA f d=false) (h:ak E f s o=some (c,s1)) :
  c=true∧∃ cs,s1=pg s d cs∧∀ t:St,t.n=s.n→(∀ y∈o.op.operands,∀ v,bc E s.ae y=.v v→bc E t.ae y=.v v)→ak E f t o=some (true,pg t d cs):=by
 have key:∀ (el:TypeId) (cs:List AV),eN E f s o.dst el cs=some (c,s1)→c=true∧s1=pg s d cs∧∀ t:St,t.n=s.n→eN E f t o.dst el cs=some (true,pg t d cs):=by
  intro el cs h
  unfold eN at h
  rw [hd] at h
  simp only [hg,Bool.false_eq_true,if_false] at h
  split at h
  ·rename_i hb
   injection h with h; injection h with h1 h2; subst h1 h2
   refine ⟨rfl,?_,fun t ht=>?_⟩
   ·simp only [St.put,St.sr,St.kill,hb,pg,St.eY]; rfl
   ·unfold eN
    rw [hd]
    simp only [hg,Bool.false_eq_true,if_false,ht,hb]
    simp only [St.put,St.sr,St.kill,ht,hb,pg,St.eY]; rfl
  ·cases h
 cases ho:o.op
 case alloc e=>
  simp only [ak,ho] at h ⊢
  split at h
  ·split at h
   ·split at h
    ·rename_i hi _ _ hz Hh
     obtain ⟨k1,k2,k3⟩:=key _ _ h
     refine ⟨k1,_,k2,fun t ht _=>?_⟩
     simp only [hi,hz,Hh,if_true]
     exact k3 t ht
    ·cases h
   ·cases h
  ·cases h
 case box e x=>
  simp only [ak,ho] at h ⊢
  split at h
  ·split at h
   ·rename_i v hv Hh
    obtain ⟨k1,k2,k3⟩:=key _ _ h
    refine ⟨k1,_,k2,fun t ht he=>?_⟩
    simp only [he x (by simp [Op.operands]) v hv,Hh,if_true]
    exact k3 t ht
   ·cases h
  ·cases h
 all_goals (rw [ho] at D5; simp [bB] at D5)
theorem CQ {pre:aT} {preB:cm} {G:List GO} (h:gT E s o (s.eY pre preB G)) :
  (pre=[]∨∃ d x,o.dst=some d∧(pre=[.put d x]∨pre=[.put d x,.kill d])∧∀ k off,x=.lp k off→(∃ y∈o.op.operands,∃ fB,bc E s.ae y=.lp k fB)∨(bB o.op=true∧k=d)) ∧
  (preB=[]∨∃ k cs,preB=[(k,cs)]∧((bB o.op=true∧o.dst=some k)∨∃ y∈o.op.operands,∃ off,bc E s.ae y=.lp k off)):=by
 obtain ⟨h1,h2⟩:=h
 refine ⟨?_,?_⟩
 ·rcases h1 with h1 | ⟨d,x,hd,h1,hx⟩
  ·exact .inl (by simpa [St.eY] using h1)
  ·refine .inr ⟨d,x,hd,?_,hx⟩
   rcases h1 with h1 | h1
   ·left
    have h1:pre++s.ae=[.put d x]++s.ae:=h1
    exact List.append_cancel_right h1
   ·right
    have h1:pre++s.ae=[.put d x,.kill d]++s.ae:=h1
    exact List.append_cancel_right h1
 ·rcases h2 with h2 | ⟨k,cs,h2,hx⟩
  ·exact .inl (by simpa [St.eY] using h2)
  ·refine .inr ⟨k,cs,?_,hx⟩
   have h2:preB++s.boxes=[(k,cs)]++s.boxes:=h2
   exact List.append_cancel_right h2
theorem iK (d e:Nat) (l:aT):lk (.kill d :: l) e=(match lk l e with | .lp k off=>bif Nat.beq k d then .none else .lp k off | x=>x):=rfl
theorem um {d e:Nat} {l:aT} (h:∀ off,lk l e≠.lp d off):lk (.kill d :: l) e=lk l e:=by
 rw [iK]
 split
 ·rename_i k off hk
  cases hb:Nat.beq k d with
  | true=>exact absurd (by rw [hk,Nat.eq_of_beq_eq_true hb]) (h off)
  | false=>rw [hk]; rfl
 ·rfl
theorem D8 {d:Nat} {pre:aT} {preB:cm} {G:List GO} (cs:List AV) (HZ:gT E s o (s.eY pre preB G)) (cr:o.dst≠some d) (D9:∀ y∈o.op.operands,∀ off,bc E s.ae y≠.lp d off) :
  nU ((pg s d cs).eY pre preB G) (pg (s.eY pre preB G) d cs):=by
 obtain ⟨h1,h2⟩:=CQ HZ
 refine ⟨funext fun e=>?_,funext fun k=>?_,rfl,rfl,rfl,rfl⟩
 ·show lk (pre++([.put d (.lp d 0),.kill d]++s.ae)) e=lk ([.put d (.lp d 0),.kill d]++(pre++s.ae)) e
  rcases h1 with rfl | ⟨d',x,hd,hp,hx⟩
  ·rfl
  ·have QN:d'≠d:=fun c=>cr (by rw [hd,c])
   have su:∀ off,x≠.lp d off:=fun off c=>by
    rcases hx d off c with ⟨y,hy,fB,ho⟩ | ⟨_,h⟩
    ·exact D9 y hy fB ho
    ·exact QN h.symm
   by_cases c1:d=e
   ·subst c1
    rcases hp with rfl | rfl
    ·simp only [List.cons_append,List.nil_append]
     rw [aG QN,aw,aw]
    ·simp only [List.cons_append,List.nil_append]
     rw [aG QN,aw,um (fun off=>by rw [aw]; intro c; cases c; exact QN rfl),aw]
   ·simp only [List.cons_append,List.nil_append]
    rw [aG c1]
    by_cases c2:d'=e
    ·subst c2
     rcases hp with rfl | rfl
     ·simp only [List.cons_append,List.nil_append]
      rw [aw,um (fun off=>by rw [aw]; exact su off),aw]
     ·simp only [List.cons_append,List.nil_append]
      rw [aw,um (fun off=>by rw [aw]; exact su off),aw]
    ·rcases hp with rfl | rfl
     ·simp only [List.cons_append,List.nil_append]
      rw [aG c2,aG c1,iK,iK,aG c2]
     ·simp only [List.cons_append,List.nil_append]
      rw [aG c2,iK,aG c1,iK,iK,aG c2,iK]
      cases lk s.ae e with
      | lp k off=>cases hb:Nat.beq k d <;> cases EO:Nat.beq k d' <;> simp [hb,EO]
      | _=>rfl
 ·show de (preB++([(d,cs)]++s.boxes)) k=de ([(d,cs)]++(preB++s.boxes)) k
  rcases h2 with rfl | ⟨k',eM,rfl,hk⟩
  ·rfl
  ·have Hi:k'≠d:=fun c=>by
    subst c
    rcases hk with ⟨_,hk⟩ | ⟨y,hy,off,ho⟩
    ·exact cr hk
    ·exact D9 y hy off ho
   simp only [List.cons_append,List.nil_append,de]
   cases hb:Nat.beq k' k with
   | true=>
    have:Nat.beq d k=false:=by
     cases EO:Nat.beq d k with
     | true=>exact absurd ((Nat.eq_of_beq_eq_true hb).trans (Nat.eq_of_beq_eq_true EO).symm) Hi
     | false=>rfl
    rw [this]; rfl
   | false=>rfl
end
section
variable {E:Env} {s t:St} {f:FuncId} {o:Oper} {K K':St→Prop}
theorem BI (hn:s.n=t.n) (hG:s.G=t.G) (hB:∀ k off,(∃ y∈o.op.operands,bc E s.ae y=.lp k off)→de s.boxes k=de t.boxes k) (dQ:∀ y∈o.op.operands,bc E s.ae y=bc E t.ae y) (h:jw E f o K s)
  (hK:∀ pre preB G,gT E t o (t.eY pre preB G)→K (s.eY pre preB G)→K' (t.eY pre preB G)):jw E f o K' t:=by
 unfold jw at h ⊢
 split at h
 ·rename_i x args tys ho
  have h1:bc E s.ae x=bc E t.ae x:=dQ x (by rw [ho]; simp [Op.operands,Call.operands])
  have h2:kP E s.ae args.toList=kP E t.ae args.toList:=fQ fun y hy=>dQ y (by rw [ho]; simp [Op.operands,Call.operands]; exact .inr (by simpa using hy))
  try simp only [ho]
  rw [← h1,← h2,← hG]
  split at h
  ·refine cB.mono h fun r G' hk=>?_
   obtain ⟨pre,preB,G,p1,p2,p3,p4⟩:=bq.cV (s:=s) (t:=t) (al:=bB o.op) hn G' o.dst (.v r)
   rw [p3] at hk
   have hO:gT E t o ((t.bF G').put o.dst (.v r)):=jX rfl rfl _
   rw [p4] at hO ⊢
   exact hK pre preB G hO hk
  ·refine jV.mono h fun r G' hk=>?_
   obtain ⟨pre,preB,G,p1,p2,p3,p4⟩:=bq.cV (s:=s) (t:=t) (al:=bB o.op) hn G' o.dst (.v (.bool r))
   rw [p3] at hk
   have hO:gT E t o ((t.bF G').put o.dst (.v (.bool r))):=jX rfl rfl _
   rw [p4] at hO ⊢
   exact hK pre preB G hO hk
  ·exact h.elim
 ·exact h.elim
 ·split at h
  ·rename_i c s' hs
   obtain ⟨t',h1,pre,preB,G,p1,p2,p3,p4⟩:=qf hn hG hB dQ hs
   have hO:=BG h1
   rw [h1]
   obtain ⟨rfl,hk⟩:=h.out
   refine cX.mk rfl ?_
   rw [p3] at hk
   rw [p4] at hO ⊢
   exact hK pre preB G hO hk
  ·exact h.elim
theorem CR (ha:bB o.op=true):jw E f o K s↔∃ s',ak E f s o=some (true,s')∧K s':=by
 unfold jw
 split
 ·rename_i h
  rw [h] at ha
  simp [bB] at ha
 ·rename_i h
  rw [h] at ha
  simp [bB] at ha
 ·split
  ·rename_i c s' hs
   constructor
   ·intro h
    obtain ⟨rfl,hk⟩:=h.out
    exact ⟨s',hs,hk⟩
   ·rintro ⟨xH,h1,h2⟩
    rw [hs] at h1
    cases h1
    exact cX.mk rfl h2
  ·rename_i hs
   constructor
   ·exact fun h=>h.elim
   ·rintro ⟨xH,h1,_⟩
    rw [hs] at h1
    cases h1
end
end Go.Am
