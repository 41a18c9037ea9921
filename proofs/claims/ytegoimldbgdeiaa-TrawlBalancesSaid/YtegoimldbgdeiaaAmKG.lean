/- The abstract machine: a function out of its body; code as a proposition that computes. -/
import Derived.Test.YtegoimldbgdeiaaAmKF
import Derived.OrdersIn
set_option linter.all false
namespace Go.Am
open Go
def NT:Nat→List AV→aT
 | _,[]=>[]
 | n,a :: l=>.put n (.v a) :: NT (n+1) l
def St.init (ntmps:Nat) (args:List AV) (G:List GO):St:=
 ⟨NT 0 args,[],G,[],none,max ntmps args.length⟩
def nu:List Nat→List GO→Option (List GO)
 | [],G=>some G
 | id :: l,G=>match nth G id with
  | some (.defers true)=>nu l (ax G id (.defers false))
  | _=>none
def BD (E:Env) (s:St):List ResultVar→Option (List AV)
 | []=>some []
 | .tmp t :: l=>match lk s.ae t,BD E s l with
  | .v a,some r=>some (a :: r)
  | _,_=>none
 | .cell p t :: l=>match pE E s t (lk s.ae p),BD E s l with
  | some a,some r=>some (a :: r)
  | _,_=>none
def Fz (E:Env) (s:St) (fn:Func):Option AV:=match BD E s fn.results.toList with
 | some [a]=>some a
 | some l=>some (.bk l)
 | none=>none
def JP (E:Env) (fn:Func) (Q:AV→List GO→Prop):Exit→St→Prop
 | .normal,s | .ret,s=>match nu s.marks s.G with
  | some G=>match Fz E (s.bF G) fn with
   | some r=>Q r G
   | none=>False
  | none=>False
 | _,_=>False
section fns
variable {E:Env} {R:aj} {w:World} {β:Nat→Nat} {s:St} {a:Act}
def uh (tmps:Array Value):ResultVar→Sem Value
 | .tmp t=>pure (tmps.getD t undef)
 | .cell p t=>do loadVar t (← asAddr (tmps.getD p undef))
theorem ui (fn:Func) (tmps:Array Value):results fn tmps=(do
  let vs ← fn.results.mapM (uh tmps)
  pure (if h:vs.size=1 then vs[0] else .tuple vs)):=by
 unfold results
 congr 1
theorem qd (h:aV E R w β s a):∀ {l:List ResultVar} {r:List AV},BD E s l=some r →
  ∃ vs,(l.mapM (uh a.tmps)).run E.P w=.ok vs w∧aE R w r vs
 | [],r,hl=>by
  simp [BD] at hl
  subst hl
  exact ⟨[],by simp,.nil⟩
 | .tmp t :: l,r,hl=>by
  unfold BD at hl
  split at hl
  ·rename_i x r' h1 h2
   cases hl
   obtain ⟨vs,g1,g2⟩:=qd h h2
   obtain ⟨c,k1,k2⟩:=h.t t (by rw [h1]; simp)
   rw [h1] at k2
   have hg:a.tmps.getD t undef=c:=by simp [Array.getD_eq_getD_getElem?,k1]
   refine ⟨c :: vs,?_,.cons k2 g2⟩
   simp only [List.mapM_cons,Sem.run_bind,Sem.run_pure,Result.andThen_ok,uh,hg,g1]
  ·cases hl
 | .cell p t :: l,r,hl=>by
  unfold BD at hl
  split at hl
  ·rename_i v r' h1 h2
   ·cases hl
    obtain ⟨vs,g1,g2⟩:=qd h h2
    obtain ⟨c,k1,k2⟩:=h.t p (fun e=>by rw [e] at h1; unfold pE at h1; split at h1 <;> simp_all [lN])
    have hg:a.tmps.getD p undef=c:=by simp [Array.getD_eq_getD_getElem?,k1]
    unfold pE at h1
    split at h1
    ·rename_i i cs off hi hc
     split at h1
     ·rename_i l' hs
      obtain ⟨b,o',us,e,q1,q2,q3⟩:=rT h k2 hc
      obtain ⟨m1,m2,m3,m4⟩:=nW hs q1 q2
      obtain ⟨c',pM,dv⟩:=mS (E:=E) hi (b:=b) (off:=o'+off) m1 m2 m3 (fun j y hy=>by rw [Nat.add_assoc]; exact q3 _ _ (m4 j y hy)) h1
      refine ⟨c' :: vs,?_,.cons dv g2⟩
      have ha:(asAddr c).run E.P w=.ok ⟨b,o'+off,none⟩ w:=by rw [e]; rfl
      have RG:(uh a.tmps (.cell p t)).run E.P w=.ok c' w:=by
       simp only [uh,Sem.run_bind,hg,ha,Result.andThen_ok,pM]
      simp only [List.mapM_cons,Sem.run_bind,Sem.run_pure,Result.andThen_ok,RG,g1]
     ·cases h1
    ·cases h1
  ·cases hl
theorem FA (h:aV E R w β s a) {fn:Func} {r:AV} (hr:Fz E s fn=some r):∃ c,(results fn a.tmps).run E.P w=.ok c w∧Rel R w r c:=by
 unfold Fz at hr
 split at hr
 ·rename_i x hl
  cases hr
  obtain ⟨vs,g1,g2⟩:=qd h hl
  cases g2 with
  | @cons _ c _ _ g2 g3=>
  cases g3
  refine ⟨c,?_,g2⟩
  rw [ui,Array.mapM_eq_mapM_toList]
  simp only [Sem.run_bind,Sem.run_map]
  rw [g1]
  simp
 ·rename_i l cq hl
  cases hr
  obtain ⟨vs,g1,g2⟩:=qd h hl
  refine ⟨.tuple ⟨vs⟩,?_,.bk g2⟩
  have hlen:vs.length≠1:=by
   rw [← g2.length]
   intro e
   match l,e with
   | [x],_=>exact cq x rfl
  rw [ui,Array.mapM_eq_mapM_toList]
  simp only [Sem.run_bind,Sem.run_map]
  rw [g1]
  simp [hlen]
 ·cases hr
theorem DY (fn:Func) (Q:Ending→World→Prop):∀ {marks:List Nat} {G G':List GO} {R:aj} {w:World} {β:Nat→Nat} {s:St} {a:Act},aV E R w β (s.bF G) a→ox R marks a.defers→nu marks G=some G' →
  (∀ w' ,aV E R w' β (s.bF G') a→Step R w β s.boxes R w' β s.boxes→∃ v,(results fn a.tmps).run E.P w'=.ok v w'∧Q (.returned v) w')→LeavesInM Fence.wide 0 E.P fn a.tmps Q a.defers .returning w:=by
 intro marks
 have key:∀ (marks:List Nat) (ds:List Deferred) (G G':List GO) (R:aj) (w:World) (β:Nat→Nat) (s:St) (a:Act),aV E R w β (s.bF G) a→ox R marks ds→nu marks G=some G' →
   (∀ w' ,aV E R w' β (s.bF G') a→Step R w β s.boxes R w' β s.boxes→∃ v,(results fn a.tmps).run E.P w'=.ok v w'∧Q (.returned v) w')→LeavesInM Fence.wide 0 E.P fn a.tmps Q ds .returning w:=by
  intro marks
  induction marks with
  | nil=>
   intro ds G G' R w β s a hr hd hl hq
   cases ds with
   | cons _ _=>exact hd.elim
   | nil=>
    simp [nu] at hl
    subst hl
    obtain ⟨v,h1,h2⟩:=hq w hr (Step.refl _ _ _ _)
    exact ⟨v,h1,h2⟩
  | cons id marks ih=>
   intro ds G G' R w β s a hr hd hl hq
   cases ds with
   | nil=>exact hd.elim
   | cons d ds=>
    obtain ⟨⟨b,hb,rfl⟩,hd⟩:=hd
    unfold nu at hl
    split at hl
    ·rename_i hg
     have RH:w.heap[b]?=some (.deferred (some [])):=hr.g.obj id _ _ hg hb
     have bK:=aY RH
     have E6:(Instr.takeDeferred b).run E.P w=.ok [] (World.put w b (.deferred none)):=by
      simp only [Instr.takeDeferred,getObj,setObj,Sem.run_bind,Sem.run,RH,Result.andThen_ok,Sem.run_pure]
      rfl
     obtain ⟨q1,q2⟩:=hr.setObj (s:=s.bF G) (x':=.deferred none) (go':=.defers false) hb RH trivial trivial (fun _ e=>by cases e) (gl w b _ bK)
     refine ⟨by simp,.inl ⟨b,_,rfl,E6,?_⟩⟩
     refine ih ds (ax G id (.defers false)) G' R _ β s a q1 hd hl (fun w' ky jE=>?_)
     exact hq w' ky (q2.trans jE)
    ·cases hl
 intro G G' R w β s a hr hd hl hq
 exact key marks a.defers G G' R w β s a hr hd hl hq
end fns
end Go.Am
namespace Go.Am
open Go
section intro
variable {E:Env} {R R':aj} {w w':World} {β β':Nat→Nat}
theorem uj {bx EU:ck} (h:Step R w β bx R' w' β' EU) (hn:∀ k cs,de bx k≠some cs):Step R w (fun _=>0) fu R' w' (fun _=>0) fu:=by
 have own:∀ b,Own R β bx b→Live R b:=fun b ho=>by
  rcases ho with ho | ⟨k,cs,hk,_⟩
  ·exact ho
  ·exact absurd hk (hn k cs)
 exact ⟨h.ext,h.os,h.tape,h.output,h.size,fun b hb q8=>h.aW b hb (fun ho=>q8 (.inl (own b ho))),fun b hb ho=>.inl (own b (h.own b hb (.inl (fb ho)))),fun b o hi hb q8=>h.im b o hi hb (fun ho=>q8 (.inl (own b ho)))⟩
theorem FB:∀ {l:List AV} {n i:Nat},(i < n∨n+l.length≤i→lk (NT n l) i=.none)∧(∀ a,l[i - n]?=some a→n≤i→lk (NT n l) i=.v a)
 | [],n,i=>⟨fun _=>rfl,fun a h=>by simp at h⟩
 | b :: l,n,i=>by
  obtain ⟨h1,h2⟩:=FB (l:=l) (n:=n+1) (i:=i)
  refine ⟨fun h=>?_,fun a h hn=>?_⟩
  ·simp only [List.length_cons] at h
   simp only [NT]
   rw [aG (by omega)]
   exact h1 (by omega)
  ·simp only [NT]
   by_cases e:n=i
   ·subst e
    rw [aw]
    simp at h
    rw [h]
   ·rw [aG e]
    refine h2 a ?_ (by omega)
    have:i - n=(i - (n+1))+1:=by omega
    rw [this] at h
    simpa using h
theorem FC {ntmps:Nat} {args:List AV} {cs:List Value} {G:List GO} (hg:dP E R w G) (hl:aE R w args cs) :
  aV E R w (fun _=>0) (St.init ntmps args G) { tmps:=⟨cs⟩++Array.replicate (ntmps - (⟨cs⟩:Array Value).size) undef,defers:=[] }:=by
 have hlen:=hl.length
 refine ⟨hg,⟨fun k c hk=>?_,fun k k' c c' hk _ _=>?_⟩,fun i hi=>?_,?_,trivial⟩
 ·simp [St.init,de] at hk
 ·simp [St.init,de] at hk
 ·simp only [St.init] at hi ⊢
  obtain ⟨h1,h2⟩:=FB (l:=args) (n:=0) (i:=i)
  by_cases bK:i < args.length
  ·have hy:args[i]?=some args[i]:=List.getElem?_eq_getElem bK
   obtain ⟨c,k1,k2⟩:=hl.get hy
   rw [h2 _ (by rw [Nat.sub_zero]; exact hy) (Nat.zero_le _)]
   refine ⟨c,?_,k2⟩
   rw [Array.getElem?_append_left (by simp; omega)]
   simpa using k1
  ·exact absurd (h1 (by omega)) hi
 ·simp [St.init]
  omega
theorem BE {ntmps:Nat} {args:List AV} {G:List GO} (k:Nat) (cs:List AV):de (St.init ntmps args G).boxes k≠some cs:=by
 simp [St.init,de]
theorem cA.intro {g : FuncId} {fn : Func} {c : Code} {args : List AV} {G : List GO} {Q : AV → List GO → Prop} (hf : E.P.funcs[g]? = some fn) (hb : fn.body = some c) (hn : (fn.name == "runtime.NumGoroutine") = false)
  (h:eS E c (JP E fn Q) (St.init fn.ntmps args G)):cA E g args G Q:=by
 refine ⟨⟨fn,hf,by simp [hb],hn⟩,fun R w cs hg hl=>?_⟩
 refine callsIn_of_wp_marks hf hb trivial (wpIn_mono (h R w (fun _=>0) _ Fence.wide (FC hg hl) rfl) ?_)
 rintro e a' w' ⟨s',R',β',hq,hr,jE,bA⟩
 have fin:(match nu s'.marks s'.G with
  | some G=>match Fz E (s'.bF G) fn with
   | some r=>Q r G
   | none=>False
  | none=>False)→LeavesInM Fence.wide 0 E.P fn a'.tmps (CN E R w Q) a'.defers .returning w':=by
  intro hq
  split at hq
  ·rename_i G2 O5
   split at hq
   ·rename_i r BF
    refine DY fn (CN E R w Q) (s:=s') (G:=s'.G) hr hr.d O5 (fun HK uf oJ=>?_)
    obtain ⟨v,h1,h2⟩:=FA uf BF
    exact ⟨v,h1,r,G2,R',hq,h2,uf.g,uj (jE.trans oJ) BE⟩
   ·exact hq.elim
  ·exact hq.elim
 cases e with
 | normal=>exact fin hq
 | ret=>exact fin hq
 | exit _=>exact hq.elim
 | goto _=>exact hq.elim
 | panic _=>exact hq.elim
 | outgrown=>exact hq.elim
end intro
end Go.Am
namespace Go.Am
open Go
def St.e7 (s:St) (pre:aT) (preB:ck) (G:List GO):St:=⟨pre++s.ae,preB++s.boxes,G,s.marks,s.ro,s.n⟩
def NU (al:Bool) (dst:Option Tmp) (pre:aT):Prop:=
 pre=[]∨∃ d x,dst=some d∧(pre=[.put d x]∨(al=true∧pre=[.put d x,.kill d]))
def bt (al w:Bool) (dst:Option Tmp) (s t s' t':St):Prop:=
 ∃ pre preB G,NU al dst pre∧(w=false→preB=[]∧G=s.G∧∃ x,s'=s.put dst x∧t'=t.put dst x)∧s'=s.e7 pre preB G∧t'=t.e7 pre preB G
section
variable {E:Env} {s t:St} {o:Oper}
theorem kI (s:St) (d:Tmp) (x:SV):s.put (some d) x=bif Nat.blt d s.n then s.e7 [.put d x] [] s.G else s:=by
 cases h:Nat.blt d s.n <;> simp [St.put,h,St.e7]
theorem bt.put {al w:Bool} (hn:s.n=t.n) (hG:s.G=t.G) (dst:Option Tmp) (x:SV):bt al w dst s t (s.put dst x) (t.put dst x):=by
 cases dst with
 | none=>exact ⟨[],[],s.G,.inl rfl,fun _=>⟨rfl,rfl,x,rfl,rfl⟩,rfl,by rw [hG]; rfl⟩
 | some d=>
  have hx:∃ y,s.put (some d) x=s.put (some d) y∧t.put (some d) x=t.put (some d) y:=⟨x,rfl,rfl⟩
  revert hx
  generalize hs:s.put (some d) x=s'
  generalize ht:t.put (some d) x=t'
  intro hx
  rw [kI] at hs ht
  rw [← hn] at ht
  revert hs ht
  cases Nat.blt d s.n with
  | true=>exact fun hs ht=>⟨[.put d x],[],s.G,.inr ⟨d,x,rfl,.inl rfl⟩,fun _=>⟨rfl,rfl,hx⟩,hs.symm,by rw [hG]; exact ht.symm⟩
  | false=>exact fun hs ht=>⟨[],[],s.G,.inl rfl,fun _=>⟨rfl,rfl,hx⟩,hs.symm,by rw [hG]; exact ht.symm⟩
theorem bt.cV {al:Bool} (hn:s.n=t.n) (G:List GO) (dst:Option Tmp) (x:SV):bt al true dst s t ((s.bF G).put dst x) ((t.bF G).put dst x):=by
 cases dst with
 | none=>exact ⟨[],[],G,.inl rfl,fun h=>(by cases h),rfl,rfl⟩
 | some d=>
  rw [kI,kI,show (t.bF G).n=(s.bF G).n from hn.symm]
  cases Nat.blt d (s.bF G).n with
  | true=>exact ⟨[.put d x],[],G,.inr ⟨d,x,rfl,.inl rfl⟩,fun h=>(by cases h),rfl,rfl⟩
  | false=>exact ⟨[],[],G,.inl rfl,fun h=>(by cases h),rfl,rfl⟩
theorem bt.bF {al:Bool} (G:List GO) (dst:Option Tmp):bt al true dst s t (s.bF G) (t.bF G):=⟨[],[],G,.inl rfl,fun h=>(by cases h),rfl,rfl⟩
theorem bt.sx {al:Bool} (hG:s.G=t.G) (dst:Option Tmp) (d:Nat) (cs:List AV):bt al true dst s t (s.sx d cs) (t.sx d cs):=
 ⟨[],[(d,cs)],s.G,.inl rfl,fun h=>(by cases h),rfl,(by rw [hG]; rfl)⟩
theorem fT {a b:aT}:∀ {l:List Operand},(∀ y∈l,bc E a y=bc E b y)→kQ E a l=kQ E b l
 | [],_=>rfl
 | x :: l,h=>by
  simp only [kQ]
  rw [h x (by simp),fT (l:=l) (fun y hy=>h y (by simp [hy]))]
theorem lA {a b:aT}:∀ {l:List (Nat × Operand)},(∀ p∈l,bc E a p.2=bc E b p.2)→Hl E a l=Hl E b l
 | [],_=>rfl
 | (i,x) :: l,h=>by
  simp only [Hl]
  rw [h (i,x) (by simp),lA (l:=l) (fun y hy=>h y (by simp [hy]))]
theorem vN (hG:s.G=t.G) (p:SV) (hB:∀ k off,p=.lp k off→de s.boxes k=de t.boxes k):lN s p=lN t p:=by
 unfold lN
 rw [hG]
 cases p with
 | lp k off=>simp only [hB k off rfl]
 | v a=>cases a <;> rfl
 | _=>rfl
theorem zC (hG:s.G=t.G) (ty:TypeId) (p:SV) (hB:∀ k off,p=.lp k off→de s.boxes k=de t.boxes k):pE E s ty p=pE E t ty p:=by
 unfold pE
 rw [vN hG p hB]
theorem sa (hG:s.G=t.G) (id f i sz:Nat) (ty:TypeId):to E s id f i sz ty=to E t id f i sz ty:=by
 unfold to
 rw [hG]
theorem zD (hG:s.G=t.G) (ty:TypeId) (p:SV) (hB:∀ k off,p=.lp k off→de s.boxes k=de t.boxes k):v7 E s ty p=v7 E t ty p:=by
 unfold v7
 split
 ·rw [sa hG]
 ·rw [zC hG _ _ hB]
theorem zE (hG:s.G=t.G) (esz:Nat) (d x:AV):pG s esz d x=pG t esz d x:=by
 unfold pG
 rw [hG]
theorem sb {f:FuncId} {dst:Option Tmp} {el:TypeId} {cs:List AV} {c:Bool} {s':St} (hn:s.n=t.n) (hG:s.G=t.G) (h:eP E f s dst el cs=some (c,s')) :
  ∃ t',eP E f t dst el cs=some (c,t')∧bt true true dst s t s' t':=by
 unfold eP at *
 cases dst with
 | none=>cases h
 | some d=>
  simp only at *
  split at h
  ·rename_i hg
   injection h with h
   injection h with h1 h2
   subst h1 h2
   rw [if_pos hg]
   refine ⟨_,rfl,?_⟩
   have:=bt.cV (al:=true) hn (s.G++[.row cs el]) (some d) (.v (.ptr s.G.length 0))
   rw [hG] at this
   have e:s.dA (.row cs el)=s.bF (t.G++[.row cs el]):=by rw [← hG]; rfl
   rw [e,hG]
   exact this
  ·rename_i hg
   rw [if_neg hg,← hn]
   split at h
   ·rename_i hb
    injection h with h
    injection h with h1 h2
    subst h1 h2
    refine ⟨_,rfl,[.put d (.lp d 0),.kill d],[(d,cs)],s.G,.inr ⟨d,_,rfl,.inr ⟨rfl,rfl⟩⟩,fun h=>(by cases h),?_,?_⟩
    ·simp [St.put,St.sx,St.kill,hb,St.e7]
    ·simp only [St.put,St.sx,St.kill,← hn,hb,St.e7,hG]
     rfl
   ·cases h
theorem zF {ty:TypeId} {p x:SV} {s':St} {al:Bool} {dst:Option Tmp} (hG:s.G=t.G) (hB:∀ k off,p=.lp k off→de s.boxes k=de t.boxes k) (h:iU E s ty p x=some s') :
  ∃ t',iU E t ty p x=some t'∧bt al true dst s t s' t':=by
 unfold iU at *
 split at h
 ·split at h
  ·rename_i hc
   rw [if_pos hc]
   split at h
   ·rw [← hB _ _ rfl]
    split at h
    ·split at h
     ·rename_i HZ
      cases h
      simp only [HZ,if_true]
      exact ⟨_,rfl,.sx hG _ _ _⟩
     ·cases h
    ·cases h
   ·rw [← hG]
    split at h
    ·split at h
     ·rename_i HZ
      cases h
      simp only [HZ,if_true]
      exact ⟨_,rfl,.bF _ _⟩
     ·cases h
    ·cases h
   ·cases h
  ·cases h
 ·cases h
theorem zG {ty:TypeId} {p x:SV} {c:Bool} {s':St} {al:Bool} {dst:Option Tmp} (hG:s.G=t.G) (hB:∀ k off,p=.lp k off→de s.boxes k=de t.boxes k) (h:iV E s ty p x=some (c,s')) :
  ∃ t',iV E t ty p x=some (c,t')∧bt al true dst s t s' t':=by
 unfold iV at *
 split at h
 ·rw [← hG]
  split at h
  ·split at h
   ·rename_i h1 h2 hc
    simp only [hc,if_true]
    split at h
    ·rename_i HZ
     injection h with h; injection h with e1 e2
     subst e1; subst e2
     simp only [HZ,if_true]
     exact ⟨_,rfl,.bF _ _⟩
    ·rename_i HZ
     rw [if_neg HZ,← sa hG]
     split at h
     ·rename_i hg
      split at h
      ·rename_i Vx
       injection h with h; injection h with e1 e2
       subst e1; subst e2
       simp only [Vx,if_true]
       exact ⟨_,rfl,.bF _ _⟩
      ·cases h
     ·cases h
   ·cases h
  ·cases h
 ·split at h
  ·rename_i s1 hs
   injection h with h; injection h with e1 e2
   subst e1; subst e2
   obtain ⟨t',h3,h4⟩:=zF (al:=al) (dst:=dst) hG hB hs
   simp only [h3]
   exact ⟨_,rfl,h4⟩
  ·cases h
def bB:Op→Bool
 | .alloc _=>true
 | .box _ _=>true
 | _=>false
def qJ:Op→Bool
 | .move _ | .assign _ | .pick _ _ _ | .build _ _ | .buildSlice _ _ _ | .load _ _ | .binOp _ _ _ _ _ | .unOp _ _ _ | .convert _ _ _ | .makeFunc _ _ _ | .fieldAddr _ _ _ | .field _ _ _
 | .indexAddr _ _ _ | .index _ _ _ | .slice _ _ _ _ _ | .extract _ _ | .lookup _ _ _ _ | .nilCheck _=>true
 | .call { callee:=.builtin .len,.. }=>true
 | .call { callee:=.builtin .max,.. }=>true
 | .call { callee:=.builtin .min,.. }=>true
 | _=>false
def Lq:Op→Bool
 | .load _ _=>true
 | .lookup _ _ _ _=>true
 | .call _=>true
 | .convert _ _ _=>true
 | _=>false
def H0:Builtin→Bool
 | .append | .copy | .clear=>true
 | _=>false
theorem vO {dst:Option Tmp} {b:Builtin} {l:List AV} {tys:List TypeId} {c:Bool} {s':St} {al:Bool} (hn:s.n=t.n) (hG:s.G=t.G) (h:bw E s dst b l tys=some (c,s')) :
  ∃ t',bw E t dst b l tys=some (c,t')∧bt al (H0 b) dst s t s' t':=by
 obtain ⟨sl,bx,G,m,ro,n⟩:=s
 obtain ⟨NV,EU,G',m',lh,n'⟩:=t
 have hc:=fun esz d x=>zE (s:=⟨sl,bx,G,m,ro,n⟩) (t:=⟨NV,EU,G',m',lh,n'⟩) hG esz d x
 simp only at hn hG
 subst hn hG
 unfold bw at h ⊢
 simp only [← hc]
 cases b
 all_goals (try (cases h; done))
 all_goals (try simp only at h ⊢)
 all_goals (try (split at h <;> first | (cases h; done) | simp only at h ⊢))
 all_goals (repeat' (split at h))
 all_goals (first | (cases h; done) | skip)
 all_goals (injection h with h; injection h with h1 h2; subst h1 h2)
 all_goals (try simp only [if_true, *])
 all_goals (first | exact ⟨_,rfl,.put (by rfl) (by rfl) _ _⟩ | exact ⟨_,rfl,.cV (by rfl) _ _ _⟩ | exact ⟨_,rfl,.bF _ _⟩)
theorem uk (hG:s.G=t.G) (a b:TypeId) (x:SV):lm E s a b x=lm E t a b x:=by
 unfold lm
 rw [hG]
theorem vP (hG:s.G=t.G) (ty:TypeId) (m k:SV):kD E s ty m k=kD E t ty m k:=by
 have:mapOf s=mapOf t:=by funext m; unfold mapOf; rw [hG]
 unfold kD iD
 rw [this,hG]
theorem qe {ty:TypeId} {m k x:SV} {s':St} {al:Bool} {dst:Option Tmp} (hG:s.G=t.G) (h:eR E s ty m k x=some s') :
  ∃ t',eR E t ty m k x=some t'∧bt al true dst s t s' t':=by
 unfold eR at *
 rw [← hG]
 repeat' (split at h)
 all_goals (first | (cases h; done) | skip)
 cases h
 simp only [*]
 exact ⟨_,rfl,.bF _ _⟩
theorem BG {dst:Option Tmp} {x:SV} {s':St} {al:Bool} (hn:s.n=t.n) (hG:s.G=t.G) (h:kE s dst x=some s') :
  ∃ t',kE t dst x=some t'∧bt al true dst s t s' t':=by
 unfold kE at *
 rw [← hG]
 split at h
 ·split at h
  ·rename_i l pos hg
   cases hb:Nat.blt pos l.length with
   | true=>
    rw [hb] at h
    simp only [cond_true] at h ⊢
    cases h
    exact ⟨_,rfl,.cV hn _ _ _⟩
   | false=>
    rw [hb] at h
    simp only [cond_false] at h ⊢
    cases h
    obtain ⟨pre,preB,G,p1,p2,p3⟩:=bt.put (al:=al) (w:=true) hn hG dst (.v (.bk [.bool false]))
    exact ⟨_,rfl,pre,preB,G,p1,p2,p3⟩
  ·cases h
 ·cases h
theorem mj {f:FuncId} {r:Bool × St} (h:gi E f s o=some r):∃ args tys,o.op=.call { callee:=.builtin .append,args:=args,argTypes:=tys }:=by
 unfold gi at h
 split at h
 ·split at h
  ·split at h
   ·rename_i args tys ho
    exact ⟨args,tys,ho⟩
   ·cases h
  ·cases h
 ·cases h
theorem um {f:FuncId} {c:Bool} {s':St} {al:Bool} (hn:s.n=t.n) (hG:s.G=t.G) (dQ:∀ y∈o.op.operands,bc E s.ae y=bc E t.ae y)
  (h:gi E f s o=some (c,s')):∃ t',gi E f t o=some (c,t')∧bt al true o.dst s t s' t':=by
 obtain ⟨args,tys,ho⟩:=mj h
 have h1:kQ E s.ae args.toList=kQ E t.ae args.toList:=fT fun y hy=>dQ y (by rw [ho]; simp [Op.operands,Call.operands]; simpa using hy)
 unfold gi at h ⊢
 rw [ho] at h ⊢
 simp only [h1,hG] at h ⊢
 repeat' (split at h)
 all_goals (first | (cases h; done) | skip)
 injection h with h; injection h with h2 h3
 subst h2 h3
 simp only [*,if_true]
 refine ⟨_,rfl,?_⟩
 exact bt.cV hn _ _ _
theorem sN {f:FuncId} (hn:s.n=t.n) (hG:s.G=t.G) (dQ:∀ y∈o.op.operands,bc E s.ae y=bc E t.ae y) (h:gi E f s o=none):gi E f t o=none:=by
 cases ht:gi E f t o with
 | none=>rfl
 | some r=>
  obtain ⟨t',h1,_⟩:=um (s:=t) (t:=s) (al:=false) hn.symm hG.symm (fun y hy=>(dQ y hy).symm) (c:=r.1) (s':=r.2) ht
  rw [h] at h1
  cases h1
theorem qf {f:FuncId} {c:Bool} {s':St} (hn:s.n=t.n) (hG:s.G=t.G) (hB:∀ k off,(∃ y∈o.op.operands,bc E s.ae y=.lp k off)→de s.boxes k=de t.boxes k) (dQ:∀ y∈o.op.operands,bc E s.ae y=bc E t.ae y)
  (h:an E f s o=some (c,s')):∃ t',an E f t o=some (c,t')∧bt (bB o.op) (!qJ o.op) o.dst s t s' t':=by
 obtain ⟨dst,op,ty,pos,after,guard⟩:=o
 cases op
 case move x=>
  simp only [an,dQ x (by simp [Op.operands])] at h ⊢
  split at h
  all_goals (injection h with h; injection h with h1 h2; subst h1 h2; (try simp only [*]); exact ⟨_,rfl,.put hn hG _ _⟩)
 case assign x=>
  simp only [an,dQ x (by simp [Op.operands])] at h ⊢
  split at h
  all_goals (injection h with h; injection h with h1 h2; subst h1 h2; (try simp only [*]); exact ⟨_,rfl,.put hn hG _ _⟩)
 case pick x y z=>
  simp only [an,dQ x (by simp [Op.operands]),dQ y (by simp [Op.operands]),dQ z (by simp [Op.operands])] at h ⊢
  split at h
  ·injection h with h; injection h with h1 h2; subst h1 h2; (try simp only [*]); exact ⟨_,rfl,.put hn hG _ _⟩
  ·cases h
 case alloc e=>
  simp only [an] at h ⊢
  repeat' (split at h)
  all_goals (first | (cases h; done) | skip)
  simp only [*]
  exact sb hn hG h
 case box e x=>
  simp only [an,dQ x (by simp [Op.operands])] at h ⊢
  repeat' (split at h)
  all_goals (first | (cases h; done) | skip)
  simp only [*]
  exact sb hn hG h
 case build ty ps=>
  have he:lO E s ty ps.toList=lO E t ty ps.toList:=by
   unfold lO
   rw [lA (fun p hp=>dQ p.2 (by simp only [Op.operands,List.mem_toArray,List.mem_map]; exact ⟨p,hp,rfl⟩))]
  simp only [an,he] at h ⊢
  split at h
  ·injection h with h; injection h with h1 h2; subst h1 h2; (try simp only [*]); exact ⟨_,rfl,.put hn hG _ _⟩
  ·cases h
 case buildSlice ty len ps=>
  have he:bH E s ty len ps.toList=bH E t ty len ps.toList:=by
   unfold bH
   rw [lA (fun p hp=>dQ p.2 (by simp only [Op.operands,List.mem_toArray,List.mem_map]; exact ⟨p,hp,rfl⟩))]
  simp only [an,he] at h ⊢
  split at h
  ·injection h with h; injection h with h1 h2; subst h1 h2; (try simp only [*]); exact ⟨_,rfl,.put hn hG _ _⟩
  ·cases h
 case load ty x=>
  simp only [an,dQ x (by simp [Op.operands])] at h ⊢
  rw [zD hG ty _ (fun k off e=>hB k off ⟨x,by simp [Op.operands],by rw [dQ x (by simp [Op.operands])]; exact e⟩)] at h
  split at h
  ·injection h with h; injection h with h1 h2; subst h1 h2; (try simp only [*]); exact ⟨_,rfl,.put hn hG _ _⟩
  ·cases h
 case store ty x y=>
  simp only [an,dQ x (by simp [Op.operands]),dQ y (by simp [Op.operands])] at h ⊢
  split at h
  ·rename_i s1 hs
   injection h with h; injection h with h1 h2; subst h1 h2
   obtain ⟨t',h3,h4⟩:=zG (al:=false) (dst:=none) hG (fun k off e=>hB k off ⟨x,by simp [Op.operands],by rw [dQ x (by simp [Op.operands])]; exact e⟩) hs
   rw [h3]
   exact ⟨_,rfl,h4⟩
  ·cases h
 case binOp op a x y b=>
  simp only [an,dQ x (by simp [Op.operands]),dQ y (by simp [Op.operands])] at h ⊢
  repeat' (split at h)
  all_goals (first | (cases h; done) | skip)
  all_goals (injection h with h; injection h with h1 h2; subst h1 h2; (try simp only [*]); exact ⟨_,rfl,.put hn hG _ _⟩)
 case unOp op a x=>
  simp only [an,dQ x (by simp [Op.operands])] at h ⊢
  repeat' (split at h)
  all_goals (first | (cases h; done) | skip)
  all_goals (injection h with h; injection h with h1 h2; subst h1 h2; (try simp only [*]); exact ⟨_,rfl,.put hn hG _ _⟩)
 case nilCheck x=>
  simp only [an,dQ x (by simp [Op.operands])] at h ⊢
  repeat' (split at h)
  all_goals (first | (cases h; done) | skip)
  all_goals (injection h with h; injection h with h1 h2; subst h1 h2; (try simp only [*]); exact ⟨_,rfl,.put hn hG _ _⟩)
 case convert a b x=>
  simp only [an,dQ x (by simp [Op.operands]),uk hG] at h ⊢
  repeat' (split at h)
  all_goals (first | (cases h; done) | skip)
  all_goals (injection h with h; injection h with h1 h2; subst h1 h2; (try simp only [*]); exact ⟨_,rfl,.put hn hG _ _⟩)
 case makeFunc fo a b=>
  cases fo with
  | func g=>
   have h1:kQ E s.ae a.toList=kQ E t.ae a.toList:=fT fun y hy=>dQ y (by simp only [Op.operands,Array.mem_append]; exact .inl (by simpa using hy))
   have h2:kQ E s.ae b.toList=kQ E t.ae b.toList:=fT fun y hy=>dQ y (by simp only [Op.operands,Array.mem_append]; exact .inr (by simpa using hy))
   simp only [an,h1,h2] at h ⊢
   repeat' (split at h)
   all_goals (first | (cases h; done) | skip)
   all_goals (injection h with h; injection h with h1 h2; subst h1 h2; (try simp only [*]); exact ⟨_,rfl,.put hn hG _ _⟩)
  | _=>simp [an] at h
 case fieldAddr a x j=>
  simp only [an,dQ x (by simp [Op.operands])] at h ⊢
  repeat' (split at h)
  all_goals (first | (cases h; done) | skip)
  all_goals (injection h with h; injection h with h1 h2; subst h1 h2; (try simp only [*]); exact ⟨_,rfl,.put hn hG _ _⟩)
 case field a x j=>
  simp only [an,dQ x (by simp [Op.operands])] at h ⊢
  repeat' (split at h)
  all_goals (first | (cases h; done) | skip)
  all_goals (injection h with h; injection h with h1 h2; subst h1 h2; (try simp only [*]); exact ⟨_,rfl,.put hn hG _ _⟩)
 case indexAddr a x y=>
  simp only [an,dQ x (by simp [Op.operands]),dQ y (by simp [Op.operands])] at h ⊢
  repeat' (split at h)
  all_goals (first | (cases h; done) | skip)
  all_goals (injection h with h; injection h with h1 h2; subst h1 h2; (try simp only [*]); exact ⟨_,rfl,.put hn hG _ _⟩)
 case index a x y=>
  simp only [an,dQ x (by simp [Op.operands]),dQ y (by simp [Op.operands])] at h ⊢
  repeat' (split at h)
  all_goals (first | (cases h; done) | skip)
  all_goals (injection h with h; injection h with h1 h2; subst h1 h2; (try simp only [*]); exact ⟨_,rfl,.put hn hG _ _⟩)
 case slice a x lo hi mx=>
  have h1:lP E s.ae lo=lP E t.ae lo:=by
   cases lo with
   | none=>rfl
   | some y=>simp only [lP]; rw [dQ y (by simp [Op.operands])]
  have h2:lP E s.ae hi=lP E t.ae hi:=by
   cases hi with
   | none=>rfl
   | some y=>simp only [lP]; rw [dQ y (by simp [Op.operands])]
  simp only [an,dQ x (by simp [Op.operands]),h1,h2] at h ⊢
  repeat' (split at h)
  all_goals (first | (cases h; done) | skip)
  all_goals (injection h with h; injection h with h1 h2; subst h1 h2; (try simp only [*]); exact ⟨_,rfl,.put hn hG _ _⟩)
 case extract x i=>
  simp only [an,dQ x (by simp [Op.operands])] at h ⊢
  repeat' (split at h)
  all_goals (first | (cases h; done) | skip)
  all_goals (injection h with h; injection h with h1 h2; subst h1 h2; (try simp only [*]); exact ⟨_,rfl,.put hn hG _ _⟩)
 case makeSlice ty x y=>
  simp only [an,dQ x (by simp [Op.operands]),dQ y (by simp [Op.operands])] at h ⊢
  repeat' (split at h)
  all_goals (first | (cases h; done) | skip)
  all_goals (injection h with h; injection h with h1 h2; subst h1 h2)
  all_goals (simp only [*])
  all_goals (refine ⟨_,rfl,?_⟩)
  all_goals (have e:∀ o,t.dA o=t.bF (s.G++[o]):=fun o=>by rw [hG]; rfl)
  all_goals (rw [e,← hG])
  all_goals (exact bt.cV (al:=false) hn _ dst _)
 case lookup ty x y ok=>
  simp only [an,dQ x (by simp [Op.operands]),dQ y (by simp [Op.operands]),vP hG] at h ⊢
  split at h
  ·injection h with h; injection h with h1 h2; subst h1 h2; (try simp only [*]); exact ⟨_,rfl,.put hn hG _ _⟩
  ·cases h
 case mapUpdate ty x y z=>
  simp only [an,dQ x (by simp [Op.operands]),dQ y (by simp [Op.operands]),dQ z (by simp [Op.operands])] at h ⊢
  split at h
  ·rename_i s1 hs
   injection h with h; injection h with h1 h2; subst h1 h2
   obtain ⟨t',h3,h4⟩:=qe (al:=false) (dst:=none) hG hs
   rw [h3]
   exact ⟨_,rfl,h4⟩
  ·cases h
 case insert ty x y z=>
  simp only [an,dQ x (by simp [Op.operands]),dQ y (by simp [Op.operands]),dQ z (by simp [Op.operands])] at h ⊢
  split at h
  ·rename_i s1 hs
   injection h with h; injection h with h1 h2; subst h1 h2
   obtain ⟨t',h3,h4⟩:=qe (al:=false) (dst:=none) hG hs
   rw [h3]
   exact ⟨_,rfl,h4⟩
  ·cases h
 case entry x=>
  simp only [an,dQ x (by simp [Op.operands])] at h ⊢
  have e:qQ E s (bc E t.ae x)=qQ E t (bc E t.ae x):=by unfold qQ; rw [hG]
  rw [e] at h
  split at h
  ·injection h with h; injection h with h1 h2; subst h1 h2; (try simp only [*]); exact ⟨_,rfl,.put hn hG _ _⟩
  ·cases h
 case mapEntry ty x y=>
  simp only [an,dQ x (by simp [Op.operands]),dQ y (by simp [Op.operands])] at h ⊢
  unfold fR at h ⊢
  rw [← hG]
  repeat' (split at h)
  all_goals (first | (cases h; done) | skip)
  rename_i jH
  repeat' (split at jH)
  all_goals (first | (cases jH; done) | skip)
  injection jH with jH; injection jH with h3 jH; injection jH with h4 h5
  injection h with h; injection h with h1 h2; subst h1 h2 h3 h4 h5
  simp only [*,if_true]
  exact ⟨_,rfl,bt.cV (al:=false) hn _ dst _⟩
 case entryStore ty x y z=>
  simp only [an,dQ x (by simp [Op.operands]),dQ y (by simp [Op.operands]),dQ z (by simp [Op.operands])] at h ⊢
  unfold dO at h ⊢
  rw [← hG]
  repeat' (split at h)
  all_goals (first | (cases h; done) | skip)
  rename_i jH
  repeat' (split at jH)
  all_goals (first | (cases jH; done) | skip)
  injection jH with jH; injection jH with h3 h5
  injection h with h; injection h with h1 h2; subst h1 h2 h3 h5
  simp only [*]
  exact ⟨_,rfl,.bF _ _⟩
 case range ty x=>
  simp only [an,dQ x (by simp [Op.operands])] at h ⊢
  repeat' (split at h)
  all_goals (first | (cases h; done) | skip)
  ·injection h with h; injection h with h1 h2; subst h1 h2
   (try simp only [*])
   refine ⟨_,rfl,?_⟩
   have e:∀ o,t.dA o=t.bF (s.G++[o]):=fun o=>by rw [hG]; rfl
   rw [e,← hG]
   exact bt.cV (al:=false) hn _ dst _
  ·rename_i hk hg
   injection h with h; injection h with h1 h2; subst h1 h2
   have yN:=hg
   rw [hG] at yN
   simp only [hk,yN]
   refine ⟨_,rfl,?_⟩
   have e:∀ o,t.dA o=t.bF (s.G++[o]):=fun o=>by rw [hG]; rfl
   rw [e,← hG]
   exact bt.cV (al:=false) hn _ dst _
 case next x b=>
  cases b with
  | false=>simp [an] at h
  | true=>
   simp only [an,dQ x (by simp [Op.operands])] at h ⊢
   split at h
   ·rename_i s1 hs
    injection h with h; injection h with h1 h2; subst h1 h2
    obtain ⟨t',h3,h4⟩:=BG (al:=false) hn hG hs
    rw [h3]
    exact ⟨_,rfl,h4⟩
   ·cases h
 case makeMap ty r=>
  cases r with
  | none=>
   simp only [an] at h ⊢
   injection h with h; injection h with h1 h2; subst h1 h2
   refine ⟨_,rfl,?_⟩
   have:=bt.cV (al:=false) hn (s.G++[.map []]) dst (.v (.map s.G.length))
   have e:∀ o,t.dA o=t.bF (s.G++[o]):=fun o=>by rw [hG]; rfl
   rw [e,← hG]
   exact this
  | some _=>simp [an] at h
 case call cl=>
  obtain ⟨callee,args,tys⟩:=cl
  cases callee with
  | builtin b=>
   have h1:kQ E s.ae args.toList=kQ E t.ae args.toList:=fT fun y hy=>dQ y (by simp [Op.operands,Call.operands]; simpa using hy)
   cases hf:gi E f s { dst:=dst,op:=.call { callee:=.builtin b,args:=args,argTypes:=tys },type:=ty,pos:=pos,after:=after,guard:=guard } with
   | some r=>
    simp only [an,hf] at h
    obtain ⟨t',q1,q2⟩:=um (al:=bB (.call { callee:=.builtin b,args:=args,argTypes:=tys })) hn hG dQ (c:=r.1) (s':=r.2) hf
    cases h
    obtain ⟨a2,t2,ho⟩:=mj hf
    cases ho
    refine ⟨t',by simp only [an,q1],?_⟩
    exact q2
   | none=>
   have OW:=sN hn hG dQ hf
   simp only [an,hf,OW,h1] at h ⊢
   split at h
   ·(try simp only [*])
    obtain ⟨t',h3,h4⟩:=vO (al:=false) hn hG h
    refine ⟨t',h3,?_⟩
    have:(!qJ (.call { callee:=.builtin b,args:=args,argTypes:=tys }))=H0 b∨H0 b=false:=by cases b <;> simp [qJ,H0]
    rcases this with this | this
    ·rw [this]; exact h4
    ·obtain ⟨pre,preB,G,p1,p2,p3⟩:=h4
     exact ⟨pre,preB,G,p1,fun _=>p2 this,p3⟩
   ·cases h
  | _=>simp [an] at h
 all_goals (simp [an] at h)
theorem gG {f:FuncId} {c:Bool} {s':St} (hn:s.n=t.n) (hG:s.G=t.G) (hB:de s.boxes=de t.boxes) (dQ:∀ y∈o.op.operands,bc E s.ae y=bc E t.ae y)
  (h:an E f s o=some (c,s')):∃ t',an E f t o=some (c,t')∧bt (bB o.op) (!qJ o.op) o.dst s t s' t':=
 qf hn hG (fun k _ _=>by rw [hB]) dQ h
end
end Go.Am
namespace Go.Am
open Go
structure nZ (s t:St):Prop where
 l:lk s.ae=lk t.ae
 b:de s.boxes=de t.boxes
 G:s.G=t.G
 m:s.marks=t.marks
 ro:s.ro=t.ro
 n:s.n=t.n
theorem nZ.refl (s:St):nZ s s:=⟨rfl,rfl,rfl,rfl,rfl,rfl⟩
theorem nZ.symm {s t:St} (h:nZ s t):nZ t s:=⟨h.l.symm,h.b.symm,h.G.symm,h.m.symm,h.ro.symm,h.n.symm⟩
theorem nZ.trans {s t u:St} (h:nZ s t) (k:nZ t u):nZ s u:=⟨h.l.trans k.l,h.b.trans k.b,h.G.trans k.G,h.m.trans k.m,h.ro.trans k.ro,h.n.trans k.n⟩
theorem lB {a b:aT} {e:Nat} (h:lk a e=lk b e):∀ pre:aT,lk (pre++a) e=lk (pre++b) e
 | []=>h
 | .put d x :: pre=>by
  simp only [List.cons_append,lk]
  rw [lB h pre]
 | .kill d :: pre=>by
  simp only [List.cons_append,lk]
  rw [lB h pre]
theorem uo {a b:ck} {e:Nat} (h:de a e=de b e):∀ pre:ck,de (pre++a) e=de (pre++b) e
 | []=>h
 | (d,x) :: pre=>by
  simp only [List.cons_append,de]
  rw [uo h pre]
theorem nZ.e7 {s t:St} (h:nZ s t) (pre:aT) (preB:ck) (G:List GO):nZ (s.e7 pre preB G) (t.e7 pre preB G):=
 ⟨funext fun e=>lB (by rw [h.l]) pre,funext fun e=>uo (by rw [h.b]) preB,rfl,h.m,h.ro,h.n⟩
theorem FD {E:Env} {a b:aT} {x:Operand} (h:∀ t,x=.tmp t→lk a t=lk b t):bc E a x=bc E b x:=by
 cases x with
 | tmp t=>exact h t rfl
 | _=>rfl
theorem nZ.bc {E:Env} {s t:St} (h:nZ s t) (x:Operand):bc E s.ae x=bc E t.ae x:=FD fun e _=>by rw [h.l]
section xS
variable {E:Env} {R:aj} {w:World} {β:Nat→Nat} {s t:St} {a:Act}
theorem aV.eqv (h:aV E R w β s a) (e:nZ s t):aV E R w β t a where
 g:=by rw [← e.G]; exact h.g
 b:=⟨fun k cs hk=>h.b.box k cs (by rw [e.b]; exact hk),fun k k' c c' h1 h2=>h.b.inj k k' c c' (by rw [e.b]; exact h1) (by rw [e.b]; exact h2)⟩
 t:=fun i hi=>by
  rw [← e.l] at hi ⊢
  exact h.t i hi
 n:=by rw [← e.n]; exact h.n
 d:=by rw [← e.m]; exact h.d
theorem sY {bx EU:ck} (h:de bx=de EU) {b:Nat} (k:Own R β bx b):Own R β EU b:=by
 rcases k with k | ⟨j,cs,h1,h2⟩
 ·exact .inl k
 ·exact .inr ⟨j,cs,by rw [← h]; exact h1,h2⟩
theorem Step.eqv {R':aj} {w':World} {β':Nat→Nat} {bx EU cx T0:ck} (h:Step R w β bx R' w' β' EU) (h1:de bx=de cx) (h2:de EU=de T0):Step R w β cx R' w' β' T0:=
 ⟨h.ext,h.os,h.tape,h.output,h.size,fun b hb hn=>h.aW b hb (fun ho=>hn (sY h1 ho)),fun b hb ho=>sY h1 (h.own b hb (sY h2.symm ho)),fun b o hi hb hn=>h.im b o hi hb (fun ho=>hn (sY h1 ho))⟩
end xS
section ops
variable {E:Env} {s t:St} {f:FuncId} {o:Oper} {K K':St→Prop}
def Inv (K:St→Prop):Prop:=∀ s t,nZ s t→K s→K t
theorem zH {op:Op} (h:qJ op=true):bB op=false:=by
 cases op <;> simp_all [qJ,bB]
theorem rm (hn:s.n=t.n) (hG:s.G=t.G) (hB:de s.boxes=de t.boxes) (dQ:∀ y∈o.op.operands,bc E s.ae y=bc E t.ae y) (h:jw E f o K s)
  (hK:∀ pre preB G,NU (bB o.op) o.dst pre→(qJ o.op=true→preB=[]∧G=s.G)→K (s.e7 pre preB G)→K' (t.e7 pre preB G)):jw E f o K' t:=by
 unfold jw at h ⊢
 split at h
 ·rename_i x args tys ho
  have h1:bc E s.ae x=bc E t.ae x:=dQ x (by rw [ho]; simp [Op.operands,Call.operands])
  have h2:kQ E s.ae args.toList=kQ E t.ae args.toList:=fT fun y hy=>dQ y (by rw [ho]; simp [Op.operands,Call.operands]; exact .inr (by simpa using hy))
  try simp only [ho]
  rw [← h1,← h2,← hG]
  split at h
  ·refine cA.mono h fun r G' hk=>?_
   obtain ⟨pre,preB,G,p1,p2,p3,p4⟩:=bt.cV (s:=s) (t:=t) (al:=bB o.op) hn G' o.dst (.v r)
   rw [p3] at hk
   rw [p4]
   exact hK pre preB G p1 (fun e=>by rw [ho] at e; simp [qJ] at e) hk
  ·refine jV.mono h fun r G' hk=>?_
   obtain ⟨pre,preB,G,p1,p2,p3,p4⟩:=bt.cV (s:=s) (t:=t) (al:=bB o.op) hn G' o.dst (.v (.bool r))
   rw [p3] at hk
   rw [p4]
   exact hK pre preB G p1 (fun e=>by rw [ho] at e; simp [qJ] at e) hk
  ·exact h.elim
 ·exact h.elim
 ·split at h
  ·rename_i c s' hs
   obtain ⟨t',h1,pre,preB,G,p1,p2,p3,p4⟩:=gG hn hG hB dQ hs
   rw [h1]
   obtain ⟨rfl,hk⟩:=h.out
   refine cX.mk rfl ?_
   rw [p3] at hk
   rw [p4]
   exact hK pre preB G p1 (fun e=>⟨(p2 (by simp [e])).1,(p2 (by simp [e])).2.1⟩) hk
  ·exact h.elim
theorem rn (h:jw E f o K s) (hK:∀ s,K s→K' s):jw E f o K' s:=
 rm rfl rfl rfl (fun _ _=>rfl) h fun _ _ _ _ _ hk=>hK _ hk
theorem uq (h:jw E f o K s) (e:nZ s t) (hK:Inv K):jw E f o K t:=
 rm e.n e.G e.b (fun y _=>e.bc y) h fun _ _ _ _ _ hk=>hK _ _ (e.e7 _ _ _) hk
def yR (ops:List Oper) (s:St) (o:Oper):Option Bool:=match o.guard with
 | none=>some true
 | some (j,want)=>match nr ops j with
  | some d=>match lk s.ae d with
   | .v (.bool b)=>some (b == want)
   | .v (.bk [])=>some false
   | _=>none
  | none=>none
theorem zI (s:St) {d:Tmp} {x:SV} (h:lk s.ae d=x):nZ s (s.put (some d) x):=by
 simp only [St.put]
 split
 ·refine ⟨funext fun e=>?_,rfl,rfl,rfl,rfl,rfl⟩
  by_cases k:d=e
  ·subst k; rw [aw]; exact h
  ·rw [aG k]
 ·exact nZ.refl s
theorem nZ.put {s t:St} (h:nZ s t) (d:Option Tmp) (x:SV):nZ (s.put d x) (t.put d x):=by
 obtain ⟨pre,preB,G,_,_,p3,p4⟩:=bt.put (s:=s) (t:=t) (al:=false) (w:=false) h.n h.G d x
 rw [p3,p4]
 exact h.e7 _ _ _
theorem fL {ops:List Oper} (hK:Inv K):bL E f ops o K s↔(yR ops s o=some true∧jw E f o K s)∨(yR ops s o=some false∧K (s.put o.dst (.v fD))):=by
 unfold bL yR
 cases hg:o.guard with
 | none=>simp
 | some p=>
  obtain ⟨j,want⟩:=p
  simp only
  cases hd:nr ops j with
  | none=>simp
  | some d=>
   simp only
   cases hl:lk s.ae d with
   | none=>simp
   | lp _ _=>simp
   | v a=>
    cases a with
    | bool b=>
     have e1:b=want→nZ s (s.put (some d) (.v (.bool want))):=fun e=>zI s (by rw [hl,e])
     have e2:b=(!want)→nZ s (s.put (some d) (.v (.bool (!want)))):=fun e=>zI s (by rw [hl,e])
     constructor
     ·intro ⟨h1,h2⟩
      by_cases e:b=want
      ·exact .inl ⟨by simp [e],uq (h1 e) (e1 e).symm hK⟩
      ·have e':b=(!want):=by cases b <;> cases want <;> simp_all
       exact .inr ⟨by simp [e],hK _ _ ((e2 e').symm.put _ _) (h2 e')⟩
     ·rintro (⟨h1,h2⟩ | ⟨h1,h2⟩)
      ·have e:b=want:=by simpa using h1
       exact ⟨fun e=>uq h2 (e1 e) hK,fun e'=>by subst e; cases b <;> cases e'⟩
      ·have e:¬ b=want:=by simpa using h1
       exact ⟨fun k=>absurd k e,fun e'=>hK _ _ ((e2 e').put _ _) h2⟩
    | bk vs=>cases vs <;> simp
    | _=>simp
theorem bM {ops:List Oper} (h:bL E f ops o K s) (hK:∀ s,K s→K' s):bL E f ops o K' s:=by
 unfold bL at h ⊢
 split at h
 ·exact rn h hK
 ·split at h
  ·exact h.elim
  ·split at h
   ·exact ⟨fun e=>rn (h.1 e) hK,fun e=>hK _ (h.2 e)⟩
   ·exact hK _ h
   ·exact h.elim
theorem xT {ops:List Oper} (e:nZ s t):yR ops s o=yR ops t o:=by
 unfold yR
 rw [e.l]
theorem zJ {ops:List Oper} (hK:Inv K):Inv (bL E f ops o K):=fun s t e h=>by
 rw [fL hK] at h ⊢
 rcases h with ⟨h1,h2⟩ | ⟨h1,h2⟩
 ·exact .inl ⟨by rw [← xT e]; exact h1,uq h2 e hK⟩
 ·exact .inr ⟨by rw [← xT e]; exact h1,hK _ _ (e.put _ _) h2⟩
end ops
end Go.Am
namespace Go.Am
open Go
def FE (dst:Option Tmp) (s t s' t':St):Prop:=∃ x,s'=s.put dst x∧t'=t.put dst x
section
variable {E:Env} {s t:St} {o:Oper}
theorem FE.put (_:s.n=t.n) (dst:Option Tmp) (x:SV):FE dst s t (s.put dst x) (t.put dst x):=⟨x,rfl,rfl⟩
theorem zK {f:FuncId} {c:Bool} {s':St} (hN:qJ o.op=true) (hR:Lq o.op=false) (hn:s.n=t.n) (dQ:∀ y∈o.op.operands,bc E s.ae y=bc E t.ae y)
  (h:an E f s o=some (c,s')):∃ t',an E f t o=some (c,t')∧FE o.dst s t s' t':=by
 obtain ⟨dst,op,ty,pos,after,guard⟩:=o
 cases op
 case move x=>
  simp only [an,dQ x (by simp [Op.operands])] at h ⊢
  split at h
  all_goals (injection h with h; injection h with h1 h2; subst h1 h2; (try simp only [*]); exact ⟨_,rfl,.put hn _ _⟩)
 case assign x=>
  simp only [an,dQ x (by simp [Op.operands])] at h ⊢
  split at h
  all_goals (injection h with h; injection h with h1 h2; subst h1 h2; (try simp only [*]); exact ⟨_,rfl,.put hn _ _⟩)
 case pick x y z=>
  simp only [an,dQ x (by simp [Op.operands]),dQ y (by simp [Op.operands]),dQ z (by simp [Op.operands])] at h ⊢
  split at h
  ·injection h with h; injection h with h1 h2; subst h1 h2; (try simp only [*]); exact ⟨_,rfl,.put hn _ _⟩
  ·cases h
 case build ty ps=>
  have he:lO E s ty ps.toList=lO E t ty ps.toList:=by
   unfold lO
   rw [lA (fun p hp=>dQ p.2 (by simp only [Op.operands,List.mem_toArray,List.mem_map]; exact ⟨p,hp,rfl⟩))]
  simp only [an,he] at h ⊢
  split at h
  ·injection h with h; injection h with h1 h2; subst h1 h2; (try simp only [*]); exact ⟨_,rfl,.put hn _ _⟩
  ·cases h
 case buildSlice ty len ps=>
  have he:bH E s ty len ps.toList=bH E t ty len ps.toList:=by
   unfold bH
   rw [lA (fun p hp=>dQ p.2 (by simp only [Op.operands,List.mem_toArray,List.mem_map]; exact ⟨p,hp,rfl⟩))]
  simp only [an,he] at h ⊢
  split at h
  ·injection h with h; injection h with h1 h2; subst h1 h2; (try simp only [*]); exact ⟨_,rfl,.put hn _ _⟩
  ·cases h
 case binOp op a x y b=>
  simp only [an,dQ x (by simp [Op.operands]),dQ y (by simp [Op.operands])] at h ⊢
  repeat' (split at h)
  all_goals (first | (cases h; done) | skip)
  all_goals (injection h with h; injection h with h1 h2; subst h1 h2; (try simp only [*]); exact ⟨_,rfl,.put hn _ _⟩)
 case unOp op a x=>
  simp only [an,dQ x (by simp [Op.operands])] at h ⊢
  repeat' (split at h)
  all_goals (first | (cases h; done) | skip)
  all_goals (injection h with h; injection h with h1 h2; subst h1 h2; (try simp only [*]); exact ⟨_,rfl,.put hn _ _⟩)
 case convert a b x=>simp [Lq] at hR
 case nilCheck x=>
  simp only [an,dQ x (by simp [Op.operands])] at h ⊢
  repeat' (split at h)
  all_goals (first | (cases h; done) | skip)
  all_goals (injection h with h; injection h with h1 h2; subst h1 h2; (try simp only [*]); exact ⟨_,rfl,.put hn _ _⟩)
 case makeFunc fo a b=>
  cases fo with
  | func g=>
   have h1:kQ E s.ae a.toList=kQ E t.ae a.toList:=fT fun y hy=>dQ y (by simp only [Op.operands,Array.mem_append]; exact .inl (by simpa using hy))
   have h2:kQ E s.ae b.toList=kQ E t.ae b.toList:=fT fun y hy=>dQ y (by simp only [Op.operands,Array.mem_append]; exact .inr (by simpa using hy))
   simp only [an,h1,h2] at h ⊢
   repeat' (split at h)
   all_goals (first | (cases h; done) | skip)
   all_goals (injection h with h; injection h with h1 h2; subst h1 h2; (try simp only [*]); exact ⟨_,rfl,.put hn _ _⟩)
  | _=>simp [an] at h
 case fieldAddr a x j=>
  simp only [an,dQ x (by simp [Op.operands])] at h ⊢
  repeat' (split at h)
  all_goals (first | (cases h; done) | skip)
  all_goals (injection h with h; injection h with h1 h2; subst h1 h2; (try simp only [*]); exact ⟨_,rfl,.put hn _ _⟩)
 case field a x j=>
  simp only [an,dQ x (by simp [Op.operands])] at h ⊢
  repeat' (split at h)
  all_goals (first | (cases h; done) | skip)
  all_goals (injection h with h; injection h with h1 h2; subst h1 h2; (try simp only [*]); exact ⟨_,rfl,.put hn _ _⟩)
 case indexAddr a x y=>
  simp only [an,dQ x (by simp [Op.operands]),dQ y (by simp [Op.operands])] at h ⊢
  repeat' (split at h)
  all_goals (first | (cases h; done) | skip)
  all_goals (injection h with h; injection h with h1 h2; subst h1 h2; (try simp only [*]); exact ⟨_,rfl,.put hn _ _⟩)
 case index a x y=>
  simp only [an,dQ x (by simp [Op.operands]),dQ y (by simp [Op.operands])] at h ⊢
  repeat' (split at h)
  all_goals (first | (cases h; done) | skip)
  all_goals (injection h with h; injection h with h1 h2; subst h1 h2; (try simp only [*]); exact ⟨_,rfl,.put hn _ _⟩)
 case slice a x lo hi mx=>
  have h1:lP E s.ae lo=lP E t.ae lo:=by
   cases lo with
   | none=>rfl
   | some y=>simp only [lP]; rw [dQ y (by simp [Op.operands])]
  have h2:lP E s.ae hi=lP E t.ae hi:=by
   cases hi with
   | none=>rfl
   | some y=>simp only [lP]; rw [dQ y (by simp [Op.operands])]
  simp only [an,dQ x (by simp [Op.operands]),h1,h2] at h ⊢
  repeat' (split at h)
  all_goals (first | (cases h; done) | skip)
  all_goals (injection h with h; injection h with h1 h2; subst h1 h2; (try simp only [*]); exact ⟨_,rfl,.put hn _ _⟩)
 case extract x i=>
  simp only [an,dQ x (by simp [Op.operands])] at h ⊢
  repeat' (split at h)
  all_goals (first | (cases h; done) | skip)
  all_goals (injection h with h; injection h with h1 h2; subst h1 h2; (try simp only [*]); exact ⟨_,rfl,.put hn _ _⟩)
 all_goals (first | (simp [qJ] at hN; done) | (simp [Lq] at hR; done))
end
end Go.Am
namespace Go.Am
open Go
section
variable {E:Env} {s t:St} {f:FuncId} {ops:Array Oper} {o oj oi:Oper} {d:Tmp} {x:SV} {K:St→Prop}
theorem FF (ops:Array Oper) (j:Nat):nr ops.toList j=(ops[j]?).bind (·.dst):=by
 unfold nr
 rw [aR,Array.getElem?_toList]
 cases ops[j]? <;> rfl
theorem ml {e:Tmp} (h:.tmp e∈o.op.operands):e∈o.looksAt ops:=
 List.mem_append_left _ (List.mem_filterMap.2 ⟨.tmp e,by simpa using h,rfl⟩)
theorem jc {j:Nat} {want:Bool} {e:Tmp} (h:o.guard=some (j,want)) (he:nr ops.toList j=some e):e∈o.looksAt ops:=by
 rw [FF] at he
 refine List.mem_append_right _ ?_
 rw [h]
 simp [he]
theorem jW (h:∀ e∈o.looksAt ops,lk s.ae e=lk t.ae e):∀ y∈o.op.operands,bc E s.ae y=bc E t.ae y:=fun _ hy=>
 FD fun e he=>h e (ml (he ▸ hy))
theorem jJ (h:∀ e∈o.looksAt ops,lk s.ae e=lk t.ae e):yR ops.toList s o=yR ops.toList t o:=by
 unfold yR
 split
 ·rfl
 ·rename_i j want hg
  split
  ·rename_i e he
   rw [h e (jc hg he)]
  ·rfl
theorem sZ (s:St) (d:Tmp) (x:SV) {e:Nat} (h:d≠e):lk (s.put (some d) x).ae e=lk s.ae e:=by
 simp only [St.put]
 split
 ·exact aG h
 ·rfl
theorem fM (s:St) (d:Option Tmp) (x:SV):(s.put d x).boxes=s.boxes∧(s.put d x).G=s.G∧(s.put d x).n=s.n∧(s.put d x).marks=s.marks∧(s.put d x).ro=s.ro:=by
 cases d with
 | none=>exact ⟨rfl,rfl,rfl,rfl,rfl⟩
 | some d=>
  simp only [St.put]
  split <;> exact ⟨rfl,rfl,rfl,rfl,rfl⟩
def ur (E:Env) (f:FuncId) (ops:Array Oper) (o:Oper) (s:St) (x:SV):Prop:=
 (yR ops.toList s o=some true∧an E f s o=some (true,s.put o.dst x))∨(yR ops.toList s o=some false∧x=.v fD)
theorem FG {c:Bool} {s':St} (hN:qJ o.op=true) (h:an E f s o=some (c,s')):∃ x,s'=s.put o.dst x:=by
 obtain ⟨t',_,pre,preB,G,_,h2,_,_⟩:=gG (t:=s) rfl rfl rfl (fun _ _=>rfl) h
 obtain ⟨_,_,x,hx,_⟩:=h2 (by simp [hN])
 exact ⟨x,hx⟩
theorem FH (hN:qJ o.op=true):jw E f o K s↔∃ s',an E f s o=some (true,s')∧K s':=by
 unfold jw
 split
 ·rename_i h
  rw [h] at hN
  simp [qJ] at hN
 ·rename_i h
  rw [h] at hN
  simp [qJ] at hN
 ·split
  ·rename_i c s' hs
   constructor
   ·intro h
    obtain ⟨rfl,hk⟩:=h.out
    exact ⟨s',hs,hk⟩
   ·rintro ⟨xJ,h1,h2⟩
    rw [hs] at h1
    cases h1
    exact cX.mk rfl h2
  ·rename_i hs
   constructor
   ·exact fun h=>h.elim
   ·rintro ⟨xJ,h1,_⟩
    rw [hs] at h1
    cases h1
theorem uu (hN:qJ o.op=true) (hK:Inv K) (h:bL E f ops.toList o K s):∃ x,ur E f ops o s x∧K (s.put o.dst x):=by
 rcases (fL hK).1 h with ⟨h1,h2⟩ | ⟨h1,h2⟩
 ·obtain ⟨s',h3,h4⟩:=(FH hN).1 h2
  obtain ⟨x,rfl⟩:=FG hN h3
  exact ⟨x,.inl ⟨h1,h3⟩,h4⟩
 ·exact ⟨_,.inr ⟨h1,rfl⟩,h2⟩
theorem uv (hN:qJ o.op=true) (hK:Inv K) (hx:ur E f ops o s x) (h:K (s.put o.dst x)):bL E f ops.toList o K s:=by
 rw [fL hK]
 rcases hx with ⟨h1,h2⟩ | ⟨h1,rfl⟩
 ·exact .inl ⟨h1,(FH hN).2 ⟨_,h2,h⟩⟩
 ·exact .inr ⟨h1,h⟩
def BH (E:Env) (f:FuncId) (ops:List Oper) (o:Oper) (s:St):Prop:=match yR ops s o with
 | some true=>match o.dst,an E f s o with
  | some d,some (c,s')=>c=true∧lk s'.ae d=lk s.ae d
  | _,_=>False
 | some false=>True
 | none=>False
theorem H3 (hN:qJ o.op=true) (hd:d∉o.looksAt ops) (cq:o.dst≠some d) (he:∀ e,d≠e→lk s.ae e=lk t.ae e) (hB:de s.boxes=de t.boxes) (hG:s.G=t.G) (hn:s.n=t.n)
  (h:BH E f ops.toList o s):BH E f ops.toList o t:=by
 have hl:∀ e∈o.looksAt ops,lk s.ae e=lk t.ae e:=fun e hm=>he e fun k=>hd (k ▸ hm)
 unfold BH at h ⊢
 rw [← jJ hl]
 split
 ·rename_i hg
  rw [hg] at h
  simp only at h
  split at h
  ·rename_i e c s' DZ hs
   obtain ⟨t',h3,pre,preB,G,_,h4,_,_⟩:=gG hn hG hB (jW hl) hs
   obtain ⟨_,_,y,h5,h6⟩:=h4 (by simp [hN])
   rw [DZ,h3]
   refine ⟨h.1,?_⟩
   have T1:d≠e:=fun k=>cq (by rw [DZ,k])
   have h7:=h.2
   rw [h5,DZ] at h7
   rw [h6,DZ,← he e T1]
   simp only [St.put,← hn] at h7 ⊢
   split
   ·rename_i hb
    rw [hb] at h7
    simp only [aw] at h7 ⊢
    exact h7
   ·exact (he e T1).symm
  ·exact h.elim
 ·trivial
 ·rename_i hg
  rw [hg] at h
  exact h
theorem H4 (hN:qJ o.op=true) (e:nZ s t) (h:BH E f ops.toList o s):BH E f ops.toList o t:=by
 unfold BH at h ⊢
 rw [← xT e]
 split
 ·rename_i hg
  rw [hg] at h
  simp only at h
  split at h
  ·rename_i d c s' DZ hs
   obtain ⟨t',h3,pre,preB,G,_,h4,_,_⟩:=gG e.n e.G e.b (fun y _=>e.bc y) hs
   obtain ⟨_,_,y,h5,h6⟩:=h4 (by simp [hN])
   rw [DZ,h3]
   refine ⟨h.1,?_⟩
   rw [h6,← (e.put o.dst y).l,← h5,← e.l]
   exact h.2
  ·exact h.elim
 ·trivial
 ·rename_i hg
  rw [hg] at h
  exact h
def iK (oj oi:Oper):Bool:=bB oi.op || (Lq oj.op&&!qJ oi.op)
theorem FI {al:Bool} {dst:Option Tmp} {pre:aT} (h:NU al dst pre) {e:Nat} (he:dst≠some e) (l:aT):lk (pre++l) e=lk l e∨(al=true∧∃ k off,lk l e=.lp k off):=by
 rcases h with rfl | ⟨d,y,rfl,rfl | ⟨rfl,rfl⟩⟩
 ·exact .inl rfl
 ·exact .inl (aG fun k=>he (by rw [k]))
 ·simp only [List.cons_append,List.nil_append]
  rw [aG (fun k=>he (by rw [k]))]
  simp only [lk]
  cases hl:lk l e with
  | lp k off=>exact .inr ⟨trivial,k,off,rfl⟩
  | _=>exact .inl rfl
theorem qg {al:Bool} {pre:aT} (preB:ck) (G:List GO) (h:NU al oi.dst pre) (cq:oi.dst≠some d) (hx:al=false∨∃ a,x=.v a):nZ ((s.put (some d) x).e7 pre preB G) ((s.e7 pre preB G).put (some d) x):=by
 have hb:∀ b,Nat.blt d s.n=b→nZ ((s.put (some d) x).e7 pre preB G) ((s.e7 pre preB G).put (some d) x):=fun b hb=>by
  have kF:Nat.blt d (s.e7 pre preB G).n=b:=hb
  rw [kI,kI,hb,kF]
  cases b with
  | false=>exact nZ.refl _
  | true=>
   refine ⟨funext fun e=>?_,rfl,rfl,rfl,rfl,rfl⟩
   simp only [cond_true,St.e7,List.cons_append,List.nil_append]
   by_cases k:d=e
   ·subst k
    rw [aw]
    rcases FI h cq (.put d x :: s.ae) with h1 | ⟨h1,k,off,h2⟩
    ·rw [h1,aw]
    ·rw [aw] at h2
     rcases hx with hx | ⟨a,hx⟩
     ·rw [hx] at h1; cases h1
     ·rw [hx] at h2; cases h2
   ·rw [aG k]
    exact lB (aG k) pre
 exact hb _ rfl
theorem D0 (hN:qJ oj.op=true) (CO:oj.dst=some d) (zL:d∉oj.looksAt ops) (NW:oj.apart ops oi=true) (hK:Inv K) (hx:ur E f ops oj s x) {pre:aT} {preB:ck} {G:List GO}
  (zM:NU (bB oi.op) oi.dst pre) (O6:qJ oi.op=true→preB=[]∧G=s.G) (hk:K ((s.put (some d) x).e7 pre preB G)) (OJ:∀ t',K t'→iK oj oi=true→BH E f ops.toList oj t') :
  ∃ x',ur E f ops oj (s.e7 pre preB G) x'∧K ((s.e7 pre preB G).put (some d) x'):=by
 obtain ⟨_,cq,tU⟩:=Oper.apart_spec NW
 have FJ:oi.dst≠some d:=cq d CO
 have qh:∀ e∈oj.looksAt ops,oi.dst≠some e:=fun e he k=>tU e k he
 have tK:∀ e∈oj.looksAt ops,(bB oi.op=false∨∃ b,lk s.ae e=.v b)→lk s.ae e=lk (s.e7 pre preB G).ae e:=fun e he ha=>by
  rcases FI zM (qh e he) s.ae with h1 | ⟨h1,k,off,h2⟩
  ·exact h1.symm
  ·rcases ha with ha | ⟨b,ha⟩
   ·rw [ha] at h1; cases h1
   ·rw [ha] at h2; cases h2
 have H5:∀ b,yR ops.toList s oj=some b→yR ops.toList (s.e7 pre preB G) oj=some b:=fun b hb=>by
  unfold yR at hb ⊢
  split
  ·rename_i hg; rw [hg] at hb; exact hb
  ·rename_i j want hg
   rw [hg] at hb
   simp only at hb
   split
   ·rename_i e he
    rw [he] at hb
    simp only at hb
    split at hb
    ·rename_i b' hl
     have:=tK e (jc hg he) (.inr ⟨_,hl⟩)
     rw [← this,hl]
     exact hb
    ·rename_i hl
     have:=tK e (jc hg he) (.inr ⟨_,hl⟩)
     rw [← this,hl]
     exact hb
    ·cases hb
   ·rename_i he; rw [he] at hb; cases hb
 rcases hx with ⟨h1,h2⟩ | ⟨h1,rfl⟩
 ·rw [CO] at h2
  by_cases RI:iK oj oi=true
  ·have hr:=OJ _ hk RI
   -- the state with the slot, and the one without it
   have xI:∀ e,d≠e→lk ((s.put (some d) x).e7 pre preB G).ae e=lk (s.e7 pre preB G).ae e:=fun e he=>lB (sZ s d x he) pre
   have hB:de ((s.put (some d) x).e7 pre preB G).boxes=de (s.e7 pre preB G).boxes:=by
    simp only [St.e7]; rw [(fM s _ x).1]
   have hn:((s.put (some d) x).e7 pre preB G).n=(s.e7 pre preB G).n:=(fM s _ x).2.2.1
   have H6:∀ e∈oj.looksAt ops,lk ((s.put (some d) x).e7 pre preB G).ae e=lk (s.e7 pre preB G).ae e:=fun e he=>xI e fun k=>zL (k ▸ he)
   have Vy:yR ops.toList ((s.put (some d) x).e7 pre preB G) oj=some true:=by rw [jJ H6]; exact H5 _ h1
   unfold BH at hr
   rw [Vy] at hr
   simp only [CO] at hr
   split at hr
   ·rename_i d' c s' vC hs
    cases vC
    obtain ⟨rfl,hr⟩:=hr
    obtain ⟨t',h3,p,pB,G2,_,h4,_,_⟩:=gG (t:=s.e7 pre preB G) hn rfl hB (jW H6) hs
    obtain ⟨_,_,y,h5,h6⟩:=h4 (by simp [hN])
    rw [h6] at h3
    rw [h5,CO] at hr
    refine ⟨y,.inl ⟨H5 _ h1,h3⟩,hK _ _ ?_ hk⟩
    have T2:((s.put (some d) x).e7 pre preB G).marks=(s.e7 pre preB G).marks∧((s.put (some d) x).e7 pre preB G).ro=(s.e7 pre preB G).ro:=(fM s _ x).2.2.2
    obtain ⟨q1,q2,q3,q4,q5⟩:=fM (s.e7 pre preB G) (some d) y
    refine ⟨funext fun e=>?_,by rw [q1]; exact hB,by rw [q2]; rfl,by rw [q4]; exact T2.1,by rw [q5]; exact T2.2,by rw [q3]; exact hn⟩
    by_cases k:d=e
    ·subst k
     rw [← hr]
     have hb:∀ b,Nat.blt d s.n=b→lk (((s.put (some d) x).e7 pre preB G).put (some d) y).ae d=lk ((s.e7 pre preB G).put (some d) y).ae d:=fun b hb=>by
      have O7:Nat.blt d (s.e7 pre preB G).n=b:=hb
      have EJ:Nat.blt d ((s.put (some d) x).e7 pre preB G).n=b:=by rw [hn]; exact hb
      rw [kI _ d y,kI _ d y,O7,EJ]
      cases b with
      | true=>simp [St.e7,aw]
      | false=>
       simp only [cond_false]
       rw [kI,hb]
       rfl
     exact hb _ rfl
    ·rw [sZ _ _ _ k]
     exact xI e k
   ·exact hr.elim
  ·have D1:bB oi.op=false:=by cases ha:bB oi.op <;> simp_all [iK]
   have hl:∀ e∈oj.looksAt ops,lk s.ae e=lk (s.e7 pre preB G).ae e:=fun e he=>tK e he (.inl D1)
   have fin:∀ y,s.put (some d) x=s.put (some d) y→an E f (s.e7 pre preB G) oj=some (true,(s.e7 pre preB G).put oj.dst y) →
     ∃ x',ur E f ops oj (s.e7 pre preB G) x'∧K ((s.e7 pre preB G).put (some d) x'):=fun y hy hs=>by
    refine ⟨y,.inl ⟨H5 _ h1,hs⟩,hK _ _ (qg (oi:=oi) preB G zM FJ (.inl D1)) ?_⟩
    rw [← hy]
    exact hk
   cases Vz:qJ oi.op with
   | true=>
    obtain ⟨rfl,rfl⟩:=O6 Vz
    obtain ⟨t',h3,p,pB,G2,_,h4,_,_⟩:=gG (s:=s) (t:=s.e7 pre [] s.G) rfl rfl rfl (jW hl) h2
    obtain ⟨_,_,y,h5,h6⟩:=h4 (by simp [hN])
    rw [CO] at h5
    exact fin y h5 (by rw [h3,h6])
   | false=>
    have hR:Lq oj.op=false:=by cases ha:Lq oj.op <;> simp_all [iK]
    obtain ⟨t',h3,y,h5,h6⟩:=zK (s:=s) (t:=s.e7 pre preB G) hN hR rfl (jW hl) h2
    rw [CO] at h5
    exact fin y h5 (by rw [h3,h6])
 ·exact ⟨_,.inr ⟨H5 _ h1,rfl⟩,hK _ _ (qg (oi:=oi) preB G zM FJ (.inr ⟨_,rfl⟩)) hk⟩
end
end Go.Am
namespace Go.Am
open Go
section
variable {E:Env} {s t:St} {o:Oper}
def gW (E:Env) (s:St) (o:Oper) (s':St):Prop:=
 (s'.ae=s.ae∨∃ d x,o.dst=some d∧(s'.ae=.put d x :: s.ae∨s'.ae=.put d x :: .kill d :: s.ae)∧∀ k off,x=.lp k off→(∃ y∈o.op.operands,∃ fE,bc E s.ae y=.lp k fE)∨(bB o.op=true∧k=d)) ∧
 (s'.boxes=s.boxes∨∃ k cs,s'.boxes=(k,cs) :: s.boxes∧((bB o.op=true∧o.dst=some k)∨∃ y∈o.op.operands,∃ off,bc E s.ae y=.lp k off))
theorem kJ {s1:St} (h1:s1.ae=s.ae) (h2:s1.boxes=s.boxes) {x:SV} (hx:∀ k off,x=.lp k off→∃ y∈o.op.operands,∃ fE,bc E s.ae y=.lp k fE):gW E s o (s1.put o.dst x):=by
 refine ⟨?_,.inl (by rw [(fM s1 o.dst x).1,h2])⟩
 cases hd:o.dst with
 | none=>exact .inl h1
 | some d=>
  simp only [St.put]
  split
  ·exact .inr ⟨d,x,rfl,.inl (by rw [h1]),fun k off h=>.inl (hx k off h)⟩
  ·exact .inl h1
theorem jX {s1:St} (h1:s1.ae=s.ae) (h2:s1.boxes=s.boxes) (a:AV):gW E s o (s1.put o.dst (.v a)):=kJ h1 h2 fun k off h=>by cases h
theorem lC {s1:St} (h1:s1.ae=s.ae) (h2:s1.boxes=s.boxes):gW E s o s1:=⟨.inl h1,.inl h2⟩
theorem H7 {k:Nat} {cs:List AV} (h:∃ y∈o.op.operands,∃ off,bc E s.ae y=.lp k off):gW E s o (s.sx k cs):=⟨.inl rfl,.inr ⟨k,cs,rfl,.inr h⟩⟩
theorem zN {n:Nat} {x:SV} {k off:Nat} (h:vY n x=some (.lp k off)):∃ fE,x=.lp k fE:=by
 unfold vY at h
 split at h <;> cases h
 exact ⟨_,rfl⟩
theorem vQ {ty:TypeId} {x:SV} {j k off:Nat} (h:jM E ty x j=some (.lp k off)):∃ fE,x=.lp k fE:=by
 unfold jM at h
 repeat' (split at h)
 all_goals (first | (cases h; done) | exact zN h)
theorem vR {ty:TypeId} {x ix:SV} {c:Bool} {k off:Nat} (h:jL E ty x ix=some (c,.lp k off)):∃ fE,x=.lp k fE:=by
 unfold jL at h
 repeat' (split at h)
 all_goals (first | (cases h; done) | skip)
 rename_i hm
 injection h with h; injection h with h1 h2; subst h2
 exact zN hm
theorem BI {ty:TypeId} {p x:SV} {s':St} (hp:∀ k off,p=.lp k off→∃ y∈o.op.operands,∃ fE,bc E s.ae y=.lp k fE) (h:iU E s ty p x=some s'):gW E s o s':=by
 unfold iU at h
 repeat' (split at h)
 all_goals (first | (cases h; done) | skip)
 ·cases h; exact H7 (hp _ _ rfl)
 ·cases h; exact lC rfl rfl
theorem BJ {ty:TypeId} {p x:SV} {c:Bool} {s':St} (hp:∀ k off,p=.lp k off→∃ y∈o.op.operands,∃ fE,bc E s.ae y=.lp k fE) (h:iV E s ty p x=some (c,s')):gW E s o s':=by
 unfold iV at h
 repeat' (split at h)
 all_goals (first | (cases h; done) | skip)
 ·injection h with h; injection h with h1 h2; subst h2; exact lC rfl rfl
 ·injection h with h; injection h with h1 h2; subst h2; exact lC rfl rfl
 ·rename_i hs
  injection h with h; injection h with h1 h2; subst h2; exact BI hp hs
theorem sd {ty:TypeId} {m k x:SV} {s':St} (h:eR E s ty m k x=some s'):gW E s o s':=by
 unfold eR at h
 repeat' (split at h)
 all_goals (first | (cases h; done) | skip)
 cases h; exact lC rfl rfl
theorem D2 {x:SV} {s':St} (h:kE s o.dst x=some s'):gW E s o s':=by
 unfold kE at h
 split at h
 ·split at h
  ·rename_i l pos hg
   cases hb:Nat.blt pos l.length with
   | true=>
    rw [hb] at h
    simp only [cond_true] at h
    cases h
    exact jX rfl rfl _
   | false=>
    rw [hb] at h
    simp only [cond_false] at h
    cases h
    exact jX rfl rfl _
  ·cases h
 ·cases h
theorem xU {b:Builtin} {l:List AV} {tys:List TypeId} {c:Bool} {s':St} (h:bw E s o.dst b l tys=some (c,s')):gW E s o s':=by
 unfold bw at h
 cases b
 all_goals (try (cases h; done))
 all_goals (try simp only at h)
 all_goals (try (split at h <;> first | (cases h; done) | simp only at h))
 all_goals (repeat' (split at h))
 all_goals (first | (cases h; done) | skip)
 all_goals (injection h with h; injection h with h1 h2; subst h1 h2)
 all_goals (first | exact jX rfl rfl _ | exact lC rfl rfl)
theorem D3 {f:FuncId} {c:Bool} {s':St} (h:gi E f s o=some (c,s')):gW E s o s':=by
 unfold gi at h
 repeat' (split at h)
 all_goals (first | (cases h; done) | skip)
 injection h with h; injection h with h2 h3
 subst h3
 exact jX rfl rfl _
theorem uw {f:FuncId} {el:TypeId} {cs:List AV} {c:Bool} {s':St} (ha:bB o.op=true) (h:eP E f s o.dst el cs=some (c,s')):gW E s o s':=by
 unfold eP at h
 split at h
 ·cases h
 ·rename_i d hd
  split at h
  ·injection h with h; injection h with h1 h2; subst h2
   rw [← hd]
   exact jX rfl rfl _
  ·split at h
   ·rename_i hb
    injection h with h; injection h with h1 h2; subst h2
    refine ⟨.inr ⟨d,.lp d 0,hd,.inr ?_,fun k off h=>by cases h; exact .inr ⟨ha,rfl⟩⟩,.inr ⟨d,cs,?_,.inl ⟨ha,hd⟩⟩⟩
    ·simp only [St.put,St.sx,St.kill,hb]
    ·rw [(fM _ (some d) (.lp d 0)).1]; rfl
   ·cases h
theorem BK {f:FuncId} {c:Bool} {s':St} (h:an E f s o=some (c,s')):gW E s o s':=by
 cases ho:o.op
 case move x=>
  simp only [an,ho] at h
  split at h
  all_goals (injection h with h; injection h with h1 h2; subst h2)
  ·exact jX rfl rfl _
  ·rename_i k off hx
   exact kJ rfl rfl fun k' fE e=>by cases e; exact ⟨x,by rw [ho]; simp [Op.operands],_,hx⟩
  ·exact kJ rfl rfl fun k' fE e=>by cases e
 case assign x=>
  simp only [an,ho] at h
  split at h
  all_goals (injection h with h; injection h with h1 h2; subst h2)
  ·exact jX rfl rfl _
  ·rename_i k off hx
   exact kJ rfl rfl fun k' fE e=>by cases e; exact ⟨x,by rw [ho]; simp [Op.operands],_,hx⟩
  ·exact kJ rfl rfl fun k' fE e=>by cases e
 case nilCheck x=>
  simp only [an,ho] at h
  split at h
  ·injection h with h; injection h with h1 h2; subst h2
   exact jX rfl rfl _
  ·rename_i k off hx
   injection h with h; injection h with h1 h2; subst h2
   exact kJ rfl rfl fun k' fE e=>by cases e; exact ⟨x,by rw [ho]; simp [Op.operands],_,hx⟩
  ·cases h
 case fieldAddr a x j=>
  simp only [an,ho] at h
  split at h
  ·rename_i p hp
   injection h with h; injection h with h1 h2; subst h2
   exact kJ rfl rfl fun k' fE e=>by subst e; exact ⟨x,by rw [ho]; simp [Op.operands],vQ hp⟩
  ·cases h
 case indexAddr a x y=>
  simp only [an,ho] at h
  split at h
  ·rename_i c' p hp
   injection h with h; injection h with h1 h2; subst h2
   exact kJ rfl rfl fun k' fE e=>by subst e; exact ⟨x,by rw [ho]; simp [Op.operands],vR hp⟩
  ·cases h
 case alloc e=>
  simp only [an,ho] at h
  repeat' (split at h)
  all_goals (first | (cases h; done) | skip)
  exact uw (by rw [ho]; rfl) h
 case box e x=>
  simp only [an,ho] at h
  repeat' (split at h)
  all_goals (first | (cases h; done) | skip)
  exact uw (by rw [ho]; rfl) h
 case store ty x y=>
  simp only [an,ho] at h
  split at h
  ·rename_i hs
   injection h with h; injection h with h1 h2; subst h2
   exact BJ (fun k off e=>⟨x,by rw [ho]; simp [Op.operands],off,e⟩) hs
  ·cases h
 case mapUpdate ty x y z=>
  simp only [an,ho] at h
  split at h
  ·rename_i hs
   injection h with h; injection h with h1 h2; subst h2
   exact sd hs
  ·cases h
 case insert ty x y z=>
  simp only [an,ho] at h
  split at h
  ·rename_i hs
   injection h with h; injection h with h1 h2; subst h2
   exact sd hs
  ·cases h
 case mapEntry ty x y=>
  simp only [an,ho] at h
  split at h
  ·rename_i hs
   injection h with h; injection h with h1 h2; subst h2
   unfold fR at hs
   repeat' (split at hs)
   all_goals (first | (cases hs; done) | skip)
   injection hs with hs; injection hs with h3 hs; injection hs with h4 h5
   subst h5
   exact jX rfl rfl _
  ·cases h
 case entryStore ty x y z=>
  simp only [an,ho] at h
  split at h
  ·rename_i hs
   injection h with h; injection h with h1 h2; subst h2
   unfold dO at hs
   repeat' (split at hs)
   all_goals (first | (cases hs; done) | skip)
   injection hs with hs; injection hs with h3 h4
   subst h4
   exact lC rfl rfl
  ·cases h
 case next x b=>
  cases b with
  | false=>simp [an,ho] at h
  | true=>
   simp only [an,ho] at h
   split at h
   ·rename_i hs
    injection h with h; injection h with h1 h2; subst h2
    exact D2 hs
   ·cases h
 case call cl=>
  obtain ⟨callee,args,tys⟩:=cl
  cases callee with
  | builtin b=>
   simp only [an,ho] at h
   split at h
   ·rename_i r hf
    cases h
    exact D3 hf
   ·split at h
    ·exact xU h
    ·cases h
  | _=>simp [an,ho] at h
 case makeFunc fo a b=>
  cases fo with
  | func g=>
   simp only [an,ho] at h
   repeat' (split at h)
   all_goals (first | (cases h; done) | skip)
   injection h with h; injection h with h1 h2; subst h2
   exact jX rfl rfl _
  | _=>simp [an,ho] at h
 case makeMap ty r=>
  cases r with
  | none=>
   simp only [an,ho] at h
   injection h with h; injection h with h1 h2; subst h2
   exact jX rfl rfl _
  | some _=>simp [an,ho] at h
 all_goals (first
  | (simp [an,ho] at h; done)
  | (simp only [an,ho] at h; (repeat' (split at h)); (all_goals (first | (cases h; done) | skip)); (all_goals (injection h with h; injection h with h1 h2; subst h2)); (all_goals (exact jX rfl rfl _))))
def pj (s:St) (d:Nat) (cs:List AV):St:=s.e7 [.put d (.lp d 0),.kill d] [(d,cs)] s.G
theorem BL {f:FuncId} {d:Tmp} {c:Bool} {s1:St} (D1:bB o.op=true) (hd:o.dst=some d) (hg:E.vE f d=false) (h:an E f s o=some (c,s1)) :
  c=true∧∃ cs,s1=pj s d cs∧∀ t:St,t.n=s.n→(∀ y∈o.op.operands,∀ v,bc E s.ae y=.v v→bc E t.ae y=.v v)→an E f t o=some (true,pj t d cs):=by
 have key:∀ (el:TypeId) (cs:List AV),eP E f s o.dst el cs=some (c,s1)→c=true∧s1=pj s d cs∧∀ t:St,t.n=s.n→eP E f t o.dst el cs=some (true,pj t d cs):=by
  intro el cs h
  unfold eP at h
  rw [hd] at h
  simp only [hg,Bool.false_eq_true,if_false] at h
  split at h
  ·rename_i hb
   injection h with h; injection h with h1 h2; subst h1 h2
   refine ⟨rfl,?_,fun t ht=>?_⟩
   ·simp only [St.put,St.sx,St.kill,hb,pj,St.e7]; rfl
   ·unfold eP
    rw [hd]
    simp only [hg,Bool.false_eq_true,if_false,ht,hb]
    simp only [St.put,St.sx,St.kill,ht,hb,pj,St.e7]; rfl
  ·cases h
 cases ho:o.op
 case alloc e=>
  simp only [an,ho] at h ⊢
  split at h
  ·split at h
   ·split at h
    ·rename_i hi _ _ hz Hm
     obtain ⟨k1,k2,k3⟩:=key _ _ h
     refine ⟨k1,_,k2,fun t ht _=>?_⟩
     simp only [hi,hz,Hm,if_true]
     exact k3 t ht
    ·cases h
   ·cases h
  ·cases h
 case box e x=>
  simp only [an,ho] at h ⊢
  split at h
  ·split at h
   ·rename_i v hv Hm
    obtain ⟨k1,k2,k3⟩:=key _ _ h
    refine ⟨k1,_,k2,fun t ht he=>?_⟩
    simp only [he x (by simp [Op.operands]) v hv,Hm,if_true]
    exact k3 t ht
   ·cases h
  ·cases h
 all_goals (rw [ho] at D1; simp [bB] at D1)
theorem CP {pre:aT} {preB:ck} {G:List GO} (h:gW E s o (s.e7 pre preB G)) :
  (pre=[]∨∃ d x,o.dst=some d∧(pre=[.put d x]∨pre=[.put d x,.kill d])∧∀ k off,x=.lp k off→(∃ y∈o.op.operands,∃ fE,bc E s.ae y=.lp k fE)∨(bB o.op=true∧k=d)) ∧
  (preB=[]∨∃ k cs,preB=[(k,cs)]∧((bB o.op=true∧o.dst=some k)∨∃ y∈o.op.operands,∃ off,bc E s.ae y=.lp k off)):=by
 obtain ⟨h1,h2⟩:=h
 refine ⟨?_,?_⟩
 ·rcases h1 with h1 | ⟨d,x,hd,h1,hx⟩
  ·exact .inl (by simpa [St.e7] using h1)
  ·refine .inr ⟨d,x,hd,?_,hx⟩
   rcases h1 with h1 | h1
   ·left
    have h1:pre++s.ae=[.put d x]++s.ae:=h1
    exact List.append_cancel_right h1
   ·right
    have h1:pre++s.ae=[.put d x,.kill d]++s.ae:=h1
    exact List.append_cancel_right h1
 ·rcases h2 with h2 | ⟨k,cs,h2,hx⟩
  ·exact .inl (by simpa [St.e7] using h2)
  ·refine .inr ⟨k,cs,?_,hx⟩
   have h2:preB++s.boxes=[(k,cs)]++s.boxes:=h2
   exact List.append_cancel_right h2
theorem iL (d e:Nat) (l:aT):lk (.kill d :: l) e=(match lk l e with | .lp k off=>bif Nat.beq k d then .none else .lp k off | x=>x):=rfl
theorem ux {d e:Nat} {l:aT} (h:∀ off,lk l e≠.lp d off):lk (.kill d :: l) e=lk l e:=by
 rw [iL]
 split
 ·rename_i k off hk
  cases hb:Nat.beq k d with
  | true=>exact absurd (by rw [hk,Nat.eq_of_beq_eq_true hb]) (h off)
  | false=>rw [hk]; rfl
 ·rfl
theorem D4 {d:Nat} {pre:aT} {preB:ck} {G:List GO} (cs:List AV) (H8:gW E s o (s.e7 pre preB G)) (cq:o.dst≠some d) (D5:∀ y∈o.op.operands,∀ off,bc E s.ae y≠.lp d off) :
  nZ ((pj s d cs).e7 pre preB G) (pj (s.e7 pre preB G) d cs):=by
 obtain ⟨h1,h2⟩:=CP H8
 refine ⟨funext fun e=>?_,funext fun k=>?_,rfl,rfl,rfl,rfl⟩
 ·show lk (pre++([.put d (.lp d 0),.kill d]++s.ae)) e=lk ([.put d (.lp d 0),.kill d]++(pre++s.ae)) e
  rcases h1 with rfl | ⟨d',x,hd,hp,hx⟩
  ·rfl
  ·have QH:d'≠d:=fun c=>cq (by rw [hd,c])
   have sy:∀ off,x≠.lp d off:=fun off c=>by
    rcases hx d off c with ⟨y,hy,fE,ho⟩ | ⟨_,h⟩
    ·exact D5 y hy fE ho
    ·exact QH h.symm
   by_cases c1:d=e
   ·subst c1
    rcases hp with rfl | rfl
    ·simp only [List.cons_append,List.nil_append]
     rw [aG QH,aw,aw]
    ·simp only [List.cons_append,List.nil_append]
     rw [aG QH,aw,ux (fun off=>by rw [aw]; intro c; cases c; exact QH rfl),aw]
   ·simp only [List.cons_append,List.nil_append]
    rw [aG c1]
    by_cases c2:d'=e
    ·subst c2
     rcases hp with rfl | rfl
     ·simp only [List.cons_append,List.nil_append]
      rw [aw,ux (fun off=>by rw [aw]; exact sy off),aw]
     ·simp only [List.cons_append,List.nil_append]
      rw [aw,ux (fun off=>by rw [aw]; exact sy off),aw]
    ·rcases hp with rfl | rfl
     ·simp only [List.cons_append,List.nil_append]
      rw [aG c2,aG c1,iL,iL,aG c2]
     ·simp only [List.cons_append,List.nil_append]
      rw [aG c2,iL,aG c1,iL,iL,aG c2,iL]
      cases lk s.ae e with
      | lp k off=>cases hb:Nat.beq k d <;> cases EJ:Nat.beq k d' <;> simp [hb,EJ]
      | _=>rfl
 ·show de (preB++([(d,cs)]++s.boxes)) k=de ([(d,cs)]++(preB++s.boxes)) k
  rcases h2 with rfl | ⟨k',eO,rfl,hk⟩
  ·rfl
  ·have Hn:k'≠d:=fun c=>by
    subst c
    rcases hk with ⟨_,hk⟩ | ⟨y,hy,off,ho⟩
    ·exact cq hk
    ·exact D5 y hy off ho
   simp only [List.cons_append,List.nil_append,de]
   cases hb:Nat.beq k' k with
   | true=>
    have:Nat.beq d k=false:=by
     cases EJ:Nat.beq d k with
     | true=>exact absurd ((Nat.eq_of_beq_eq_true hb).trans (Nat.eq_of_beq_eq_true EJ).symm) Hn
     | false=>rfl
    rw [this]; rfl
   | false=>rfl
end
section
variable {E:Env} {s t:St} {f:FuncId} {o:Oper} {K K':St→Prop}
theorem BM (hn:s.n=t.n) (hG:s.G=t.G) (hB:∀ k off,(∃ y∈o.op.operands,bc E s.ae y=.lp k off)→de s.boxes k=de t.boxes k) (dQ:∀ y∈o.op.operands,bc E s.ae y=bc E t.ae y) (h:jw E f o K s)
  (hK:∀ pre preB G,gW E t o (t.e7 pre preB G)→K (s.e7 pre preB G)→K' (t.e7 pre preB G)):jw E f o K' t:=by
 unfold jw at h ⊢
 split at h
 ·rename_i x args tys ho
  have h1:bc E s.ae x=bc E t.ae x:=dQ x (by rw [ho]; simp [Op.operands,Call.operands])
  have h2:kQ E s.ae args.toList=kQ E t.ae args.toList:=fT fun y hy=>dQ y (by rw [ho]; simp [Op.operands,Call.operands]; exact .inr (by simpa using hy))
  try simp only [ho]
  rw [← h1,← h2,← hG]
  split at h
  ·refine cA.mono h fun r G' hk=>?_
   obtain ⟨pre,preB,G,p1,p2,p3,p4⟩:=bt.cV (s:=s) (t:=t) (al:=bB o.op) hn G' o.dst (.v r)
   rw [p3] at hk
   have hO:gW E t o ((t.bF G').put o.dst (.v r)):=jX rfl rfl _
   rw [p4] at hO ⊢
   exact hK pre preB G hO hk
  ·refine jV.mono h fun r G' hk=>?_
   obtain ⟨pre,preB,G,p1,p2,p3,p4⟩:=bt.cV (s:=s) (t:=t) (al:=bB o.op) hn G' o.dst (.v (.bool r))
   rw [p3] at hk
   have hO:gW E t o ((t.bF G').put o.dst (.v (.bool r))):=jX rfl rfl _
   rw [p4] at hO ⊢
   exact hK pre preB G hO hk
  ·exact h.elim
 ·exact h.elim
 ·split at h
  ·rename_i c s' hs
   obtain ⟨t',h1,pre,preB,G,p1,p2,p3,p4⟩:=qf hn hG hB dQ hs
   have hO:=BK h1
   rw [h1]
   obtain ⟨rfl,hk⟩:=h.out
   refine cX.mk rfl ?_
   rw [p3] at hk
   rw [p4] at hO ⊢
   exact hK pre preB G hO hk
  ·exact h.elim
theorem CQ (ha:bB o.op=true):jw E f o K s↔∃ s',an E f s o=some (true,s')∧K s':=by
 unfold jw
 split
 ·rename_i h
  rw [h] at ha
  simp [bB] at ha
 ·rename_i h
  rw [h] at ha
  simp [bB] at ha
 ·split
  ·rename_i c s' hs
   constructor
   ·intro h
    obtain ⟨rfl,hk⟩:=h.out
    exact ⟨s',hs,hk⟩
   ·rintro ⟨xJ,h1,h2⟩
    rw [hs] at h1
    cases h1
    exact cX.mk rfl h2
  ·rename_i hs
   constructor
   ·exact fun h=>h.elim
   ·rintro ⟨xJ,h1,_⟩
    rw [hs] at h1
    cases h1
end
end Go.Am
