/- The abstract machine: a function out of its body; code as a proposition that computes. -/
import Derived.Test.YtegoimldbgdeiaaAmKG
import Derived.OrdersIn
set_option linter.all false
namespace Go.Am
open Go
def V9:Nat→List AV→ba
 |_,[]=>[]
 |n,a :: l=>.put n (.v a) :: V9 (n+1) l
def St.init (ntmps:Nat) (args:List AV) (G:List GO):St:=
 ⟨V9 0 args,[],G,[],none,max ntmps args.length⟩
def qh:List Nat→List GO→Option (List GO)
 |[],G=>some G
 |id :: l,G=>match nth G id with
  |some (.defers true)=>qh l (aq G id (.defers false))
  |_=>none
def Gf (E:Env) (s:St):List ResultVar→Option (List AV)
 |[]=>some []
 |.tmp t :: l=>match lk s.ae t,Gf E s l with
  |.v a,some r=>some (a :: r)
  |_,_=>none
 |.cell p t :: l=>match sT E s t (lk s.ae p),Gf E s l with
  |some a,some r=>some (a :: r)
  |_,_=>none
def Ln (E:Env) (s:St) (fn:Func):Option AV:=match Gf E s fn.results.toList with
 |some [a]=>some a
 |some l=>some (.bD l)
 |none=>none
def QF (E:Env) (fn:Func) (Q:AV→List GO→Prop):Exit→St→Prop
 |.normal,s | .ret,s=>match qh s.marks s.G with
  |some G=>match Ln E (s.bG G) fn with
   |some r=>Q r G
   |none=>False
  |none=>False
 |_,_=>False
section fns
variable {E:Env} {R:ai} {w:World} {β:Nat→Nat} {s:St} {a:Act}
def yz (tmps:Array Value):ResultVar→Sem Value
 |.tmp t=>pure (tmps.getD t undef)
 |.cell p t=>do loadVar t (← asAddr (tmps.getD p undef))
theorem yA (fn:Func) (tmps:Array Value):results fn tmps=(do
  let vs ← fn.results.mapM (yz tmps)
  pure (if h:vs.size=1 then vs[0] else .tuple vs)):=by
 unfold results;congr 1
theorem tF (h:aX E R w β s a):∀ {l:List ResultVar} {r:List AV},Gf E s l=some r →
  ∃ vs,(l.mapM (yz a.tmps)).run E.P w=.ok vs w∧aL R w r vs
 |[],r,hl=>by
  simp [Gf] at hl;subst hl;exact ⟨[],by simp,.nil⟩
 |.tmp t :: l,r,hl=>by
  unfold Gf at hl;split at hl
  ·rename_i x r' h1 h2;cases hl;obtain ⟨vs,g1,g2⟩:=tF h h2;obtain ⟨c,k1,k2⟩:=h.t t (by rw [h1]; simp);rw [h1] at k2;have hg:a.tmps.getD t undef=c:=by simp [Array.getD_eq_getD_getElem?,k1]
   refine ⟨c :: vs,?_,.cons k2 g2⟩;simp only [List.mapM_cons,Sem.run_bind,Sem.run_pure,Result.andThen_ok,yz,hg,g1]
  ·cases hl
 |.cell p t :: l,r,hl=>by
  unfold Gf at hl;split at hl
  ·rename_i v r' h1 h2
   ·cases hl;obtain ⟨vs,g1,g2⟩:=tF h h2;obtain ⟨c,k1,k2⟩:=h.t p (fun e=>by rw [e] at h1; unfold sT at h1; split at h1 <;> simp_all [oz]);have hg:a.tmps.getD p undef=c:=by simp [Array.getD_eq_getD_getElem?,k1]
    unfold sT at h1;split at h1
    ·rename_i i cs off hi hc;split at h1
     ·rename_i l' hs;obtain ⟨b,o',us,e,q1,q2,q3⟩:=vI h k2 hc;obtain ⟨m1,m2,m3,m4⟩:=qN hs q1 q2;obtain ⟨c',s7,dm⟩:=pT (E:=E) hi (b:=b) (off:=o'+off) m1 m2 m3 (fun j y hy=>by rw [Nat.add_assoc]; exact q3 _ _ (m4 j y hy)) h1;refine ⟨c' :: vs,?_,.cons dm g2⟩;have ha:(asAddr c).run E.P w=.ok ⟨b,o'+off,none⟩ w:=by rw [e]; rfl
      have aaL:(yz a.tmps (.cell p t)).run E.P w=.ok c' w:=by
       simp only [yz,Sem.run_bind,hg,ha,Result.andThen_ok,s7]
      simp only [List.mapM_cons,Sem.run_bind,Sem.run_pure,Result.andThen_ok,aaL,g1]
     ·cases h1
    ·cases h1
  ·cases hl
theorem Lo (h:aX E R w β s a) {fn:Func} {r:AV} (hr:Ln E s fn=some r):∃ c,(results fn a.tmps).run E.P w=.ok c w∧Rel R w r c:=by
 unfold Ln at hr;split at hr
 ·rename_i x hl;cases hr;obtain ⟨vs,g1,g2⟩:=tF h hl;cases g2 with
  | @cons _ c _ _ g2 g3=>
  cases g3;refine ⟨c,?_,g2⟩;rw [yA,Array.mapM_eq_mapM_toList];simp only [Sem.run_bind,Sem.run_map];rw [g1];simp
 ·rename_i l cz hl;cases hr;obtain ⟨vs,g1,g2⟩:=tF h hl;refine ⟨.tuple ⟨vs⟩,?_,.bD g2⟩;have hlen:vs.length≠1:=by
   rw [← g2.length];intro e
   match l,e with
   |[x],_=>exact cz x rfl
  rw [yA,Array.mapM_eq_mapM_toList];simp only [Sem.run_bind,Sem.run_map];rw [g1];simp [hlen]
 ·cases hr
theorem Jm (fn:Func) (Q:Ending→World→Prop):∀ {marks:List Nat} {G G':List GO} {R:ai} {w:World} {β:Nat→Nat} {s:St} {a:Act},aX E R w β (s.bG G) a→rI R marks a.defers→qh marks G=some G' →
  (∀ w' ,aX E R w' β (s.bG G') a→Step R w β s.boxes R w' β s.boxes→∃ v,(results fn a.tmps).run E.P w'=.ok v w'∧Q (.returned v) w')→LeavesInM Fence.wide 0 E.P fn a.tmps Q a.defers .returning w:=by
 intro marks;have key:∀ (marks:List Nat) (ds:List Deferred) (G G':List GO) (R:ai) (w:World) (β:Nat→Nat) (s:St) (a:Act),aX E R w β (s.bG G) a→rI R marks ds→qh marks G=some G' →
   (∀ w' ,aX E R w' β (s.bG G') a→Step R w β s.boxes R w' β s.boxes→∃ v,(results fn a.tmps).run E.P w'=.ok v w'∧Q (.returned v) w')→LeavesInM Fence.wide 0 E.P fn a.tmps Q ds .returning w:=by
  intro marks
  induction marks with
  |nil=>
   intro ds G G' R w β s a hr hd hl hq;cases ds with
   |cons _ _=>exact hd.elim
   |nil=>
    simp [qh] at hl;subst hl;obtain ⟨v,h1,h2⟩:=hq w hr (Step.refl _ _ _ _);exact ⟨v,h1,h2⟩
  |cons id marks ih=>
   intro ds G G' R w β s a hr hd hl hq;cases ds with
   |nil=>exact hd.elim
   |cons d ds=>
    obtain ⟨⟨b,hb,rfl⟩,hd⟩:=hd;unfold qh at hl;split at hl
    ·rename_i hg;have Gg:w.heap[b]?=some (.deferred (some [])):=hr.g.obj id _ _ hg hb;have bO:=bt Gg;have KY:(Instr.takeDeferred b).run E.P w=.ok [] (World.put w b (.deferred none)):=by
      simp only [Instr.takeDeferred,getObj,setObj,Sem.run_bind,Sem.run,Gg,Result.andThen_ok,Sem.run_pure];rfl
     obtain ⟨q1,q2⟩:=hr.setObj (s:=s.bG G) (x':=.deferred none) (go':=.defers false) hb Gg trivial trivial (fun _ e=>by cases e) (iD w b _ bO);refine ⟨by simp,.inl ⟨b,_,rfl,KY,?_⟩⟩;refine ih ds (aq G id (.defers false)) G' R _ β s a q1 hd hl (fun w' lF e9=>?_);exact hq w' lF (q2.trans e9)
    ·cases hl
 intro G G' R w β s a hr hd hl hq;exact key marks a.defers G G' R w β s a hr hd hl hq
end fns
end Go.Am
namespace Go.Am
open Go
section intro
variable {E:Env} {R R':ai} {w w':World} {β β':Nat→Nat}
theorem yB {bx Hu:cD} (h:Step R w β bx R' w' β' Hu) (hn:∀ k cs,di bx k≠some cs):Step R w (fun _=>0) ig R' w' (fun _=>0) ig:=by
 have own:∀ b,Own R β bx b→Live R b:=fun b ho=>by
  rcases ho with ho|⟨k,cs,hk,_⟩
  ·exact ho
  ·exact absurd hk (hn k cs)
 exact ⟨h.ext,h.os,h.tape,h.output,h.size,fun b hb sf=>h.aZ b hb (fun ho=>sf (.inl (own b ho))),fun b hb ho=>.inl (own b (h.own b hb (.inl (ga ho)))),fun b o hi hb sf=>h.im b o hi hb (fun ho=>sf (.inl (own b ho)))⟩
theorem Lp:∀ {l:List AV} {n i:Nat},(i < n∨n+l.length≤i→lk (V9 n l) i=.none)∧(∀ a,l[i - n]?=some a→n≤i→lk (V9 n l) i=.v a)
 |[],n,i=>⟨fun _=>rfl,fun a h=>by simp at h⟩
 |b :: l,n,i=>by
  obtain ⟨h1,h2⟩:=Lp (l:=l) (n:=n+1) (i:=i);refine ⟨fun h=>?_,fun a h hn=>?_⟩
  ·simp only [List.length_cons] at h;simp only [V9];rw [aN (by omega)];exact h1 (by omega)
  ·simp only [V9];by_cases e:n=i
   ·subst e;rw [aA];simp at h;rw [h]
   ·rw [aN e];refine h2 a ?_ (by omega);have:i - n=(i - (n+1))+1:=by omega
    rw [this] at h;simpa using h
theorem Lq {ntmps:Nat} {args:List AV} {cs:List Value} {G:List GO} (hg:fj E R w G) (hl:aL R w args cs) :
  aX E R w (fun _=>0) (St.init ntmps args G) { tmps:=⟨cs⟩++Array.replicate (ntmps - (⟨cs⟩:Array Value).size) undef,defers:=[] }:=by
 have hlen:=hl.length;refine ⟨hg,⟨fun k c hk=>?_,fun k k' c c' hk _ _=>?_⟩,fun i hi=>?_,?_,trivial⟩
 ·simp [St.init,di] at hk
 ·simp [St.init,di] at hk
 ·simp only [St.init] at hi ⊢;obtain ⟨h1,h2⟩:=Lp (l:=args) (n:=0) (i:=i);by_cases bO:i < args.length
  ·have hy:args[i]?=some args[i]:=List.getElem?_eq_getElem bO;obtain ⟨c,k1,k2⟩:=hl.get hy;rw [h2 _ (by rw [Nat.sub_zero]; exact hy) (Nat.zero_le _)];refine ⟨c,?_,k2⟩;rw [Array.getElem?_append_left (by simp; omega)];simpa using k1
  ·exact absurd (h1 (by omega)) hi
 ·simp [St.init];omega
theorem Gh {ntmps:Nat} {args:List AV} {G:List GO} (k:Nat) (cs:List AV):di (St.init ntmps args G).boxes k≠some cs:=by
 simp [St.init,di]
theorem cR.intro {g : FuncId} {fn : Func} {c : Code} {args : List AV} {G : List GO} {Q : AV → List GO → Prop} (hf : E.P.funcs[g]? = some fn) (hb : fn.body = some c) (hn : (fn.name == "runtime.NumGoroutine") = false)
  (h:fE E c (QF E fn Q) (St.init fn.ntmps args G)):cR E g args G Q:=by
 refine ⟨⟨fn,hf,by simp [hb],hn⟩,fun R w cs hg hl=>?_⟩;refine callsIn_of_wp_marks hf hb trivial (wpIn_mono (h R w (fun _=>0) _ Fence.wide (Lq hg hl) rfl) ?_);rintro e a' w' ⟨s',R',β',hq,hr,e9,bn⟩;have fin:(match qh s'.marks s'.G with
  |some G=>match Ln E (s'.bG G) fn with
   |some r=>Q r G
   |none=>False
  |none=>False)→LeavesInM Fence.wide 0 E.P fn a'.tmps (Bt E R w Q) a'.defers .returning w':=by
  intro hq;split at hq
  ·rename_i G2 Xw;split at hq
   ·rename_i r Cx;refine Jm fn (Bt E R w Q) (s:=s') (G:=s'.G) hr hr.d Xw (fun NZ yx rQ=>?_);obtain ⟨v,h1,h2⟩:=Lo yx Cx;exact ⟨v,h1,r,G2,R',hq,h2,yx.g,yB (e9.trans rQ) Gh⟩
   ·exact hq.elim
  ·exact hq.elim
 cases e with
 |normal=>exact fin hq
 |ret=>exact fin hq
 |exit _=>exact hq.elim
 |goto _=>exact hq.elim
 |panic _=>exact hq.elim
 |outgrown=>exact hq.elim
end intro
end Go.Am
namespace Go.Am
open Go
def St.fV (s:St) (pre:ba) (preB:cD) (G:List GO):St:=⟨pre++s.ae,preB++s.boxes,G,s.marks,s.ro,s.n⟩
def Wa (al:Bool) (dst:Option Tmp) (pre:ba):Prop:=
 pre=[]∨∃ d x,dst=some d∧(pre=[.put d x]∨(al=true∧pre=[.put d x,.kill d]))
def bM (al w:Bool) (dst:Option Tmp) (s t s' t':St):Prop:=
 ∃ pre preB G,Wa al dst pre∧(w=false→preB=[]∧G=s.G∧∃ x,s'=s.put dst x∧t'=t.put dst x)∧s'=s.fV pre preB G∧t'=t.fV pre preB G
section
variable {E:Env} {s t:St} {o:Oper}
theorem mN (s:St) (d:Tmp) (x:SV):s.put (some d) x=bif Nat.blt d s.n then s.fV [.put d x] [] s.G else s:=by
 cases h:Nat.blt d s.n <;> simp [St.put,h,St.fV]
theorem bM.put {al w:Bool} (hn:s.n=t.n) (hG:s.G=t.G) (dst:Option Tmp) (x:SV):bM al w dst s t (s.put dst x) (t.put dst x):=by
 cases dst with
 |none=>exact ⟨[],[],s.G,.inl rfl,fun _=>⟨rfl,rfl,x,rfl,rfl⟩,rfl,by rw [hG]; rfl⟩
 |some d=>
  have hx:∃ y,s.put (some d) x=s.put (some d) y∧t.put (some d) x=t.put (some d) y:=⟨x,rfl,rfl⟩;revert hx;generalize hs:s.put (some d) x=s';generalize ht:t.put (some d) x=t';intro hx;rw [mN] at hs ht;rw [← hn] at ht;revert hs ht;cases Nat.blt d s.n with
  |true=>exact fun hs ht=>⟨[.put d x],[],s.G,.inr ⟨d,x,rfl,.inl rfl⟩,fun _=>⟨rfl,rfl,hx⟩,hs.symm,by rw [hG]; exact ht.symm⟩
  |false=>exact fun hs ht=>⟨[],[],s.G,.inl rfl,fun _=>⟨rfl,rfl,hx⟩,hs.symm,by rw [hG]; exact ht.symm⟩
theorem bM.dP {al:Bool} (hn:s.n=t.n) (G:List GO) (dst:Option Tmp) (x:SV):bM al true dst s t ((s.bG G).put dst x) ((t.bG G).put dst x):=by
 cases dst with
 |none=>exact ⟨[],[],G,.inl rfl,fun h=>(by cases h),rfl,rfl⟩
 |some d=>
  rw [mN,mN,show (t.bG G).n=(s.bG G).n from hn.symm];cases Nat.blt d (s.bG G).n with
  |true=>exact ⟨[.put d x],[],G,.inr ⟨d,x,rfl,.inl rfl⟩,fun h=>(by cases h),rfl,rfl⟩
  |false=>exact ⟨[],[],G,.inl rfl,fun h=>(by cases h),rfl,rfl⟩
theorem bM.bG {al:Bool} (G:List GO) (dst:Option Tmp):bM al true dst s t (s.bG G) (t.bG G):=⟨[],[],G,.inl rfl,fun h=>(by cases h),rfl,rfl⟩
theorem bM.vD {al:Bool} (hG:s.G=t.G) (dst:Option Tmp) (d:Nat) (cs:List AV):bM al true dst s t (s.vD d cs) (t.vD d cs):=
 ⟨[],[(d,cs)],s.G,.inl rfl,fun h=>(by cases h),rfl,(by rw [hG]; rfl)⟩
theorem hJ {a b:ba}:∀ {l:List Operand},(∀ y∈l,bw E a y=bw E b y)→nf E a l=nf E b l
 |[],_=>rfl
 |x :: l,h=>by
  simp only [nf];rw [h x (by simp),hJ (l:=l) (fun y hy=>h y (by simp [hy]))]
theorem nS {a b:ba}:∀ {l:List (Nat × Operand)},(∀ p∈l,bw E a p.2=bw E b p.2)→Np E a l=Np E b l
 |[],_=>rfl
 |(i,x) :: l,h=>by
  simp only [Np];rw [h (i,x) (by simp),nS (l:=l) (fun y hy=>h y (by simp [hy]))]
theorem AG (hG:s.G=t.G) (p:SV) (hB:∀ k off,p=.lp k off→di s.boxes k=di t.boxes k):oz s p=oz t p:=by
 unfold oz;rw [hG];cases p with
 |lp k off=>simp only [hB k off rfl]
 |v a=>cases a <;> rfl
 |_=>rfl
theorem D0 (hG:s.G=t.G) (ty:TypeId) (p:SV) (hB:∀ k off,p=.lp k off→di s.boxes k=di t.boxes k):sT E s ty p=sT E t ty p:=by
 unfold sT;rw [AG hG p hB]
theorem vS (hG:s.G=t.G) (id f i sz:Nat) (ty:TypeId):xK E s id f i sz ty=xK E t id f i sz ty:=by
 unfold xK;rw [hG]
theorem D1 (hG:s.G=t.G) (ty:TypeId) (p:SV) (hB:∀ k off,p=.lp k off→di s.boxes k=di t.boxes k):A6 E s ty p=A6 E t ty p:=by
 unfold A6;split
 ·rw [vS hG]
 ·rw [D0 hG _ _ hB]
theorem D2 (hG:s.G=t.G) (esz:Nat) (d x:AV):sV s esz d x=sV t esz d x:=by
 unfold sV;rw [hG]
theorem vT {f:FuncId} {dst:Option Tmp} {el:TypeId} {cs:List AV} {c:Bool} {s':St} (hn:s.n=t.n) (hG:s.G=t.G) (h:fJ E f s dst el cs=some (c,s')) :
  ∃ t',fJ E f t dst el cs=some (c,t')∧bM true true dst s t s' t':=by
 unfold fJ at *;cases dst with
 |none=>cases h
 |some d=>
  simp only at *;split at h
  ·rename_i hg;injection h with h;injection h with h1 h2;subst h1 h2;rw [if_pos hg];refine ⟨_,rfl,?_⟩;have:=bM.dP (al:=true) hn (s.G++[.row cs el]) (some d) (.v (.ptr s.G.length 0));rw [hG] at this;have e:s.dW (.row cs el)=s.bG (t.G++[.row cs el]):=by rw [← hG]; rfl
   rw [e,hG];exact this
  ·rename_i hg;rw [if_neg hg,← hn];split at h
   ·rename_i hb;injection h with h;injection h with h1 h2;subst h1 h2;refine ⟨_,rfl,[.put d (.lp d 0),.kill d],[(d,cs)],s.G,.inr ⟨d,_,rfl,.inr ⟨rfl,rfl⟩⟩,fun h=>(by cases h),?_,?_⟩
    ·simp [St.put,St.vD,St.kill,hb,St.fV]
    ·simp only [St.put,St.vD,St.kill,← hn,hb,St.fV,hG];rfl
   ·cases h
theorem D3 {ty:TypeId} {p x:SV} {s':St} {al:Bool} {dst:Option Tmp} (hG:s.G=t.G) (hB:∀ k off,p=.lp k off→di s.boxes k=di t.boxes k) (h:ik E s ty p x=some s') :
  ∃ t',ik E t ty p x=some t'∧bM al true dst s t s' t':=by
 unfold ik at *;split at h
 ·split at h
  ·rename_i hc;rw [if_pos hc];split at h
   ·rw [← hB _ _ rfl];split at h
    ·split at h
     ·rename_i Jn;cases h;simp only [Jn,if_true];exact ⟨_,rfl,.vD hG _ _ _⟩
     ·cases h
    ·cases h
   ·rw [← hG];split at h
    ·split at h
     ·rename_i Jn;cases h;simp only [Jn,if_true];exact ⟨_,rfl,.bG _ _⟩
     ·cases h
    ·cases h
   ·cases h
  ·cases h
 ·cases h
theorem D4 {ty:TypeId} {p x:SV} {c:Bool} {s':St} {al:Bool} {dst:Option Tmp} (hG:s.G=t.G) (hB:∀ k off,p=.lp k off→di s.boxes k=di t.boxes k) (h:gj E s ty p x=some (c,s')) :
  ∃ t',gj E t ty p x=some (c,t')∧bM al true dst s t s' t':=by
 unfold gj at *;split at h
 ·rw [← hG];split at h
  ·split at h
   ·rename_i h1 h2 hc;simp only [hc,if_true];split at h
    ·rename_i Jn;injection h with h; injection h with e1 e2;subst e1; subst e2;simp only [Jn,if_true];exact ⟨_,rfl,.bG _ _⟩
    ·rename_i Jn;rw [if_neg Jn,← vS hG];split at h
     ·rename_i hg;split at h
      ·rename_i hc3;injection h with h; injection h with e1 e2;subst e1; subst e2;simp only [hc3,if_true];exact ⟨_,rfl,.bG _ _⟩
      ·cases h
     ·cases h
   ·cases h
  ·cases h
 ·split at h
  ·rename_i s1 hs;injection h with h; injection h with e1 e2;subst e1; subst e2;obtain ⟨t',h3,h4⟩:=D3 (al:=al) (dst:=dst) hG hB hs;simp only [h3];exact ⟨_,rfl,h4⟩
  ·cases h
theorem Gi (hG:s.G=t.G) (p x:SV):rZ s p x=rZ t p x:=by unfold rZ; rw [hG]
theorem D5 {ty:TypeId} {p x:SV} {c:Bool} {s':St} {al:Bool} {dst:Option Tmp} (hG:s.G=t.G) (hB:∀ k off,p=.lp k off→di s.boxes k=di t.boxes k) (h:kq E s ty p x=some (c,s')) :
  ∃ t',kq E t ty p x=some (c,t')∧bM al true dst s t s' t':=by
 unfold kq at *;rw [← Gi hG];split at h
 ·rename_i c1 s1 hs;injection h with h; injection h with e1 e2;subst e1; subst e2;obtain ⟨t',h3,pre,preB,G,h4,_,h5,h6⟩:=D4 (s:=s.bG (rZ s p x).2.2) (t:=t.bG (rZ s p x).2.2) (al:=al) (dst:=dst) rfl hB hs;rw [h3];exact ⟨_,rfl,pre,preB,G,h4,(fun h=>by cases h),h5,h6⟩
 ·cases h
def bU:Op→Bool
 |.alloc _=>true
 |.box _ _=>true
 |_=>false
def uI:Op→Bool
 |.move _ | .assign _ | .pick _ _ _ | .build _ _ | .buildSlice _ _ _ | .load _ _ | .binOp _ _ _ _ _ | .unOp _ _ _ | .convert _ _ _ | .makeFunc _ _ _ | .fieldAddr _ _ _ | .field _ _ _
 |.indexAddr _ _ _ | .index _ _ _ | .slice _ _ _ _ _ | .extract _ _ | .lookup _ _ _ _ | .nilCheck _=>true
 |.call { callee:=.builtin .len,.. }=>true
 |.call { callee:=.builtin .max,.. }=>true
 |.call { callee:=.builtin .min,.. }=>true
 |_=>false
def Sv:Op→Bool
 |.load _ _=>true
 |.lookup _ _ _ _=>true
 |.call _=>true
 |.convert _ _ _=>true
 |_=>false
def Oo:Builtin→Bool
 |.append | .copy | .clear=>true
 |_=>false
theorem AH {dst:Option Tmp} {b:Builtin} {l:List AV} {tys:List TypeId} {c:Bool} {s':St} {al:Bool} (hn:s.n=t.n) (hG:s.G=t.G) (h:bQ E s dst b l tys=some (c,s')) :
  ∃ t',bQ E t dst b l tys=some (c,t')∧bM al (Oo b) dst s t s' t':=by
 obtain ⟨sl,bx,G,m,ro,n⟩:=s;obtain ⟨Wb,Hu,G',m',nF,n'⟩:=t;have hc:=fun esz d x=>D2 (s:=⟨sl,bx,G,m,ro,n⟩) (t:=⟨Wb,Hu,G',m',nF,n'⟩) hG esz d x
 simp only at hn hG;subst hn hG;unfold bQ at h ⊢;simp only [← hc];cases b
 all_goals (try (cases h; done))
 all_goals (try simp only at h ⊢)
 all_goals (try (split at h <;> first | (cases h; done) | simp only at h ⊢))
 all_goals (repeat' (split at h))
 all_goals (first|(cases h; done) | skip)
 all_goals (injection h with h; injection h with h1 h2; subst h1 h2)
 all_goals (try simp only [if_true, *])
 all_goals (first|exact ⟨_,rfl,.put (by rfl) (by rfl) _ _⟩ | exact ⟨_,rfl,.dP (by rfl) _ _ _⟩ | exact ⟨_,rfl,.bG _ _⟩)
theorem yC (hG:s.G=t.G) (a b:TypeId) (x:SV):nI E s a b x=nI E t a b x:=by
 unfold nI;rw [hG]
theorem AI (hG:s.G=t.G) (ty:TypeId) (m k:SV):mJ E s ty m k=mJ E t ty m k:=by
 have:mapOf s=mapOf t:=by funext m; unfold mapOf; rw [hG]
 unfold mJ j8;rw [this,hG]
theorem tG {ty:TypeId} {m k x:SV} {s':St} {al:Bool} {dst:Option Tmp} (hG:s.G=t.G) (h:fL E s ty m k x=some s') :
  ∃ t',fL E t ty m k x=some t'∧bM al true dst s t s' t':=by
 unfold fL at *;rw [← hG]
 repeat' (split at h)
 all_goals (first|(cases h; done) | skip)
 cases h;simp only [*];exact ⟨_,rfl,.bG _ _⟩
theorem Gj {dst:Option Tmp} {x:SV} {s':St} {al:Bool} (hn:s.n=t.n) (hG:s.G=t.G) (h:mK s dst x=some s') :
  ∃ t',mK t dst x=some t'∧bM al true dst s t s' t':=by
 unfold mK at *;rw [← hG];split at h
 ·split at h
  ·rename_i l pos hg;cases hb:Nat.blt pos l.length with
   |true=>
    rw [hb] at h;simp only [cond_true] at h ⊢;cases h;exact ⟨_,rfl,.dP hn _ _ _⟩
   |false=>
    rw [hb] at h;simp only [cond_false] at h ⊢;cases h;obtain ⟨pre,preB,G,p1,p2,p3⟩:=bM.put (al:=al) (w:=true) hn hG dst (.v (.bD [.bool false]));exact ⟨_,rfl,pre,preB,G,p1,p2,p3⟩
  ·cases h
 ·cases h
theorem oS {f:FuncId} {r:Bool × St} (h:iz E f s o=some r):∃ args tys,o.op=.call { callee:=.builtin .append,args:=args,argTypes:=tys }:=by
 unfold iz at h;split at h
 ·split at h
  ·split at h
   ·rename_i args tys ho;exact ⟨args,tys,ho⟩
   ·cases h
  ·cases h
 ·cases h
theorem yD {f:FuncId} {c:Bool} {s':St} {al:Bool} (hn:s.n=t.n) (hG:s.G=t.G) (eS:∀ y∈o.op.operands,bw E s.ae y=bw E t.ae y)
  (h:iz E f s o=some (c,s')):∃ t',iz E f t o=some (c,t')∧bM al true o.dst s t s' t':=by
 obtain ⟨args,tys,ho⟩:=oS h;have h1:nf E s.ae args.toList=nf E t.ae args.toList:=hJ fun y hy=>eS y (by rw [ho]; simp [Op.operands,Call.operands]; simpa using hy)
 unfold iz at h ⊢;rw [ho] at h ⊢;simp only [h1,hG] at h ⊢
 repeat' (split at h)
 all_goals (first|(cases h; done) | skip)
 injection h with h; injection h with h2 h3;subst h2 h3;simp only [*,if_true];refine ⟨_,rfl,?_⟩;exact bM.dP hn _ _ _
theorem wU {f:FuncId} (hn:s.n=t.n) (hG:s.G=t.G) (eS:∀ y∈o.op.operands,bw E s.ae y=bw E t.ae y) (h:iz E f s o=none):iz E f t o=none:=by
 cases ht:iz E f t o with
 |none=>rfl
 |some r=>
  obtain ⟨t',h1,_⟩:=yD (s:=t) (t:=s) (al:=false) hn.symm hG.symm (fun y hy=>(eS y hy).symm) (c:=r.1) (s':=r.2) ht;rw [h] at h1;cases h1
theorem tH {f:FuncId} {c:Bool} {s':St} (hn:s.n=t.n) (hG:s.G=t.G) (hB:∀ k off,(∃ y∈o.op.operands,bw E s.ae y=.lp k off)→di s.boxes k=di t.boxes k) (eS:∀ y∈o.op.operands,bw E s.ae y=bw E t.ae y)
  (h:ak E f s o=some (c,s')):∃ t',ak E f t o=some (c,t')∧bM (bU o.op) (!uI o.op) o.dst s t s' t':=by
 obtain ⟨dst,op,ty,pos,after,guard⟩:=o;cases op
 case move x=>
  simp only [ak,eS x (by simp [Op.operands])] at h ⊢;split at h
  all_goals (injection h with h; injection h with h1 h2; subst h1 h2; (try simp only [*]); exact ⟨_,rfl,.put hn hG _ _⟩)
 case assign x=>
  simp only [ak,eS x (by simp [Op.operands])] at h ⊢;split at h
  all_goals (injection h with h; injection h with h1 h2; subst h1 h2; (try simp only [*]); exact ⟨_,rfl,.put hn hG _ _⟩)
 case pick x y z=>
  simp only [ak,eS x (by simp [Op.operands]),eS y (by simp [Op.operands]),eS z (by simp [Op.operands])] at h ⊢;split at h
  ·injection h with h; injection h with h1 h2; subst h1 h2; (try simp only [*]); exact ⟨_,rfl,.put hn hG _ _⟩
  ·cases h
 case alloc e=>
  simp only [ak] at h ⊢
  repeat' (split at h)
  all_goals (first|(cases h; done) | skip)
  simp only [*];exact vT hn hG h
 case box e x=>
  simp only [ak,eS x (by simp [Op.operands])] at h ⊢
  repeat' (split at h)
  all_goals (first|(cases h; done) | skip)
  simp only [*];exact vT hn hG h
 case build ty ps=>
  have he:oA E s ty ps.toList=oA E t ty ps.toList:=by
   unfold oA;rw [nS (fun p hp=>eS p.2 (by simp only [Op.operands,List.mem_toArray,List.mem_map]; exact ⟨p,hp,rfl⟩))]
  simp only [ak,he] at h ⊢;split at h
  ·injection h with h; injection h with h1 h2; subst h1 h2; (try simp only [*]); exact ⟨_,rfl,.put hn hG _ _⟩
  ·cases h
 case buildSlice ty len ps=>
  have he:bZ E s ty len ps.toList=bZ E t ty len ps.toList:=by
   unfold bZ;rw [nS (fun p hp=>eS p.2 (by simp only [Op.operands,List.mem_toArray,List.mem_map]; exact ⟨p,hp,rfl⟩))]
  simp only [ak,he] at h ⊢;split at h
  ·injection h with h; injection h with h1 h2; subst h1 h2; (try simp only [*]); exact ⟨_,rfl,.put hn hG _ _⟩
  ·cases h
 case load ty x=>
  simp only [ak,eS x (by simp [Op.operands])] at h ⊢;rw [D1 hG ty _ (fun k off e=>hB k off ⟨x,by simp [Op.operands],by rw [eS x (by simp [Op.operands])]; exact e⟩)] at h;split at h
  ·injection h with h; injection h with h1 h2; subst h1 h2; (try simp only [*]); exact ⟨_,rfl,.put hn hG _ _⟩
  ·cases h
 case store ty x y=>
  simp only [ak,eS x (by simp [Op.operands]),eS y (by simp [Op.operands])] at h ⊢;split at h
  ·rename_i s1 hs;injection h with h; injection h with h1 h2; subst h1 h2;obtain ⟨t',h3,h4⟩:=D5 (al:=false) (dst:=none) hG (fun k off e=>hB k off ⟨x,by simp [Op.operands],by rw [eS x (by simp [Op.operands])]; exact e⟩) hs;rw [h3];exact ⟨_,rfl,h4⟩
  ·cases h
 case binOp op a x y b=>
  simp only [ak,eS x (by simp [Op.operands]),eS y (by simp [Op.operands])] at h ⊢
  repeat' (split at h)
  all_goals (first|(cases h; done) | skip)
  all_goals (injection h with h; injection h with h1 h2; subst h1 h2; (try simp only [*]); exact ⟨_,rfl,.put hn hG _ _⟩)
 case unOp op a x=>
  simp only [ak,eS x (by simp [Op.operands])] at h ⊢
  repeat' (split at h)
  all_goals (first|(cases h; done) | skip)
  all_goals (injection h with h; injection h with h1 h2; subst h1 h2; (try simp only [*]); exact ⟨_,rfl,.put hn hG _ _⟩)
 case nilCheck x=>
  simp only [ak,eS x (by simp [Op.operands])] at h ⊢
  repeat' (split at h)
  all_goals (first|(cases h; done) | skip)
  all_goals (injection h with h; injection h with h1 h2; subst h1 h2; (try simp only [*]); exact ⟨_,rfl,.put hn hG _ _⟩)
 case convert a b x=>
  simp only [ak,eS x (by simp [Op.operands]),yC hG] at h ⊢
  repeat' (split at h)
  all_goals (first|(cases h; done) | skip)
  all_goals (injection h with h; injection h with h1 h2; subst h1 h2; (try simp only [*]); exact ⟨_,rfl,.put hn hG _ _⟩)
 case makeFunc fo a b=>
  cases fo with
  |func g=>
   have h1:nf E s.ae a.toList=nf E t.ae a.toList:=hJ fun y hy=>eS y (by simp only [Op.operands,Array.mem_append]; exact .inl (by simpa using hy))
   have h2:nf E s.ae b.toList=nf E t.ae b.toList:=hJ fun y hy=>eS y (by simp only [Op.operands,Array.mem_append]; exact .inr (by simpa using hy))
   simp only [ak,h1,h2] at h ⊢
   repeat' (split at h)
   all_goals (first|(cases h; done) | skip)
   all_goals (injection h with h; injection h with h1 h2; subst h1 h2; (try simp only [*]); exact ⟨_,rfl,.put hn hG _ _⟩)
  |_=>simp [ak] at h
 case fieldAddr a x j=>
  simp only [ak,eS x (by simp [Op.operands])] at h ⊢
  repeat' (split at h)
  all_goals (first|(cases h; done) | skip)
  all_goals (injection h with h; injection h with h1 h2; subst h1 h2; (try simp only [*]); exact ⟨_,rfl,.put hn hG _ _⟩)
 case field a x j=>
  simp only [ak,eS x (by simp [Op.operands])] at h ⊢
  repeat' (split at h)
  all_goals (first|(cases h; done) | skip)
  all_goals (injection h with h; injection h with h1 h2; subst h1 h2; (try simp only [*]); exact ⟨_,rfl,.put hn hG _ _⟩)
 case indexAddr a x y=>
  simp only [ak,eS x (by simp [Op.operands]),eS y (by simp [Op.operands])] at h ⊢
  repeat' (split at h)
  all_goals (first|(cases h; done) | skip)
  all_goals (injection h with h; injection h with h1 h2; subst h1 h2; (try simp only [*]); exact ⟨_,rfl,.put hn hG _ _⟩)
 case index a x y=>
  simp only [ak,eS x (by simp [Op.operands]),eS y (by simp [Op.operands])] at h ⊢
  repeat' (split at h)
  all_goals (first|(cases h; done) | skip)
  all_goals (injection h with h; injection h with h1 h2; subst h1 h2; (try simp only [*]); exact ⟨_,rfl,.put hn hG _ _⟩)
 case slice a x lo hi mx=>
  have h1:mC E s.ae lo=mC E t.ae lo:=by
   cases lo with
   |none=>rfl
   |some y=>simp only [mC]; rw [eS y (by simp [Op.operands])]
  have h2:mC E s.ae hi=mC E t.ae hi:=by
   cases hi with
   |none=>rfl
   |some y=>simp only [mC]; rw [eS y (by simp [Op.operands])]
  simp only [ak,eS x (by simp [Op.operands]),h1,h2] at h ⊢
  repeat' (split at h)
  all_goals (first|(cases h; done) | skip)
  all_goals (injection h with h; injection h with h1 h2; subst h1 h2; (try simp only [*]); exact ⟨_,rfl,.put hn hG _ _⟩)
 case extract x i=>
  simp only [ak,eS x (by simp [Op.operands])] at h ⊢
  repeat' (split at h)
  all_goals (first|(cases h; done) | skip)
  all_goals (injection h with h; injection h with h1 h2; subst h1 h2; (try simp only [*]); exact ⟨_,rfl,.put hn hG _ _⟩)
 case makeSlice ty x y=>
  simp only [ak,oD,eS x (by simp [Op.operands]),eS y (by simp [Op.operands]),hG] at h ⊢
  repeat' (split at h)
  all_goals (first|(cases h; done) | skip)
  all_goals (injection h with h; injection h with h1 h2; subst h1 h2)
  all_goals (simp only [*])
  all_goals (refine ⟨_,rfl,?_⟩)
  all_goals (have e:∀ o,t.dW o=t.bG (t.G++[o]):=fun o=>rfl)
  all_goals (have e':∀ o,s.dW o=s.bG (t.G++[o]):=fun o=>by rw [← hG]; rfl)
  all_goals (try rw [e,e'])
  all_goals (exact bM.dP (al:=false) hn _ dst _)
 case lookup ty x y ok=>
  simp only [ak,eS x (by simp [Op.operands]),eS y (by simp [Op.operands]),AI hG] at h ⊢;split at h
  ·injection h with h; injection h with h1 h2; subst h1 h2; (try simp only [*]); exact ⟨_,rfl,.put hn hG _ _⟩
  ·cases h
 case mapUpdate ty x y z=>
  simp only [ak,eS x (by simp [Op.operands]),eS y (by simp [Op.operands]),eS z (by simp [Op.operands])] at h ⊢;split at h
  ·rename_i s1 hs;injection h with h; injection h with h1 h2; subst h1 h2;obtain ⟨t',h3,h4⟩:=tG (al:=false) (dst:=none) hG hs;rw [h3];exact ⟨_,rfl,h4⟩
  ·cases h
 case insert ty x y z=>
  simp only [ak,eS x (by simp [Op.operands]),eS y (by simp [Op.operands]),eS z (by simp [Op.operands])] at h ⊢;split at h
  ·rename_i s1 hs;injection h with h; injection h with h1 h2; subst h1 h2;obtain ⟨t',h3,h4⟩:=tG (al:=false) (dst:=none) hG hs;rw [h3];exact ⟨_,rfl,h4⟩
  ·cases h
 case entry x=>
  simp only [ak,eS x (by simp [Op.operands])] at h ⊢;have e:uQ E s (bw E t.ae x)=uQ E t (bw E t.ae x):=by unfold uQ; rw [hG]
  rw [e] at h;split at h
  ·injection h with h; injection h with h1 h2; subst h1 h2; (try simp only [*]); exact ⟨_,rfl,.put hn hG _ _⟩
  ·cases h
 case mapEntry ty x y=>
  simp only [ak,eS x (by simp [Op.operands]),eS y (by simp [Op.operands])] at h ⊢;unfold gW at h ⊢;rw [← hG]
  repeat' (split at h)
  all_goals (first|(cases h; done) | skip)
  rename_i jW
  repeat' (split at jW)
  all_goals (first|(cases jW; done) | skip)
  injection jW with jW; injection jW with h3 jW; injection jW with h4 h5;injection h with h; injection h with h1 h2; subst h1 h2 h3 h4 h5;simp only [*,if_true];exact ⟨_,rfl,bM.dP (al:=false) hn _ dst _⟩
 case entryStore ty x y z=>
  simp only [ak,eS x (by simp [Op.operands]),eS y (by simp [Op.operands]),eS z (by simp [Op.operands])] at h ⊢;unfold eR at h ⊢;rw [← hG]
  repeat' (split at h)
  all_goals (first|(cases h; done) | skip)
  rename_i jW
  repeat' (split at jW)
  all_goals (first|(cases jW; done) | skip)
  injection jW with jW; injection jW with h3 h5;injection h with h; injection h with h1 h2; subst h1 h2 h3 h5;simp only [*];exact ⟨_,rfl,.bG _ _⟩
 case range ty x=>
  simp only [ak,eS x (by simp [Op.operands])] at h ⊢
  repeat' (split at h)
  all_goals (first|(cases h; done) | skip)
  ·injection h with h; injection h with h1 h2; subst h1 h2
   (try simp only [*])
   refine ⟨_,rfl,?_⟩;have e:∀ o,t.dW o=t.bG (s.G++[o]):=fun o=>by rw [hG]; rfl
   rw [e,← hG];exact bM.dP (al:=false) hn _ dst _
  ·rename_i hk hg;injection h with h; injection h with h1 h2; subst h1 h2;have Dg:=hg;rw [hG] at Dg;simp only [hk,Dg];refine ⟨_,rfl,?_⟩;have e:∀ o,t.dW o=t.bG (s.G++[o]):=fun o=>by rw [hG]; rfl
   rw [e,← hG];exact bM.dP (al:=false) hn _ dst _
 case next x b=>
  cases b with
  |false=>simp [ak] at h
  |true=>
   simp only [ak,eS x (by simp [Op.operands])] at h ⊢;split at h
   ·rename_i s1 hs;injection h with h; injection h with h1 h2; subst h1 h2;obtain ⟨t',h3,h4⟩:=Gj (al:=false) hn hG hs;rw [h3];exact ⟨_,rfl,h4⟩
   ·cases h
 case makeMap ty r=>
  cases r with
  |none=>
   simp only [ak] at h ⊢;injection h with h; injection h with h1 h2; subst h1 h2;refine ⟨_,rfl,?_⟩;have:=bM.dP (al:=false) hn (s.G++[.map []]) dst (.v (.map s.G.length));have e:∀ o,t.dW o=t.bG (s.G++[o]):=fun o=>by rw [hG]; rfl
   rw [e,← hG];exact this
  |some _=>simp [ak] at h
 case call cl=>
  obtain ⟨callee,args,tys⟩:=cl;cases callee with
  |builtin b=>
   have h1:nf E s.ae args.toList=nf E t.ae args.toList:=hJ fun y hy=>eS y (by simp [Op.operands,Call.operands]; simpa using hy)
   cases hf:iz E f s { dst:=dst,op:=.call { callee:=.builtin b,args:=args,argTypes:=tys },type:=ty,pos:=pos,after:=after,guard:=guard } with
   |some r=>
    simp only [ak,hf] at h;obtain ⟨t',q1,q2⟩:=yD (al:=bU (.call { callee:=.builtin b,args:=args,argTypes:=tys })) hn hG eS (c:=r.1) (s':=r.2) hf;cases h;obtain ⟨a2,t2,ho⟩:=oS hf;cases ho;refine ⟨t',by simp only [ak,q1],?_⟩;exact q2
   |none=>
   have Xn:=wU hn hG eS hf;simp only [ak,hf,Xn,h1] at h ⊢;split at h
   ·(try simp only [*])
    obtain ⟨t',h3,h4⟩:=AH (al:=false) hn hG h;refine ⟨t',h3,?_⟩;have:(!uI (.call { callee:=.builtin b,args:=args,argTypes:=tys }))=Oo b∨Oo b=false:=by cases b <;> simp [uI,Oo]
    rcases this with this|this
    ·rw [this]; exact h4
    ·obtain ⟨pre,preB,G,p1,p2,p3⟩:=h4;exact ⟨pre,preB,G,p1,fun _=>p2 this,p3⟩
   ·cases h
  |_=>simp [ak] at h
 all_goals (simp [ak] at h)
theorem iV {f:FuncId} {c:Bool} {s':St} (hn:s.n=t.n) (hG:s.G=t.G) (hB:di s.boxes=di t.boxes) (eS:∀ y∈o.op.operands,bw E s.ae y=bw E t.ae y)
  (h:ak E f s o=some (c,s')):∃ t',ak E f t o=some (c,t')∧bM (bU o.op) (!uI o.op) o.dst s t s' t':=
 tH hn hG (fun k _ _=>by rw [hB]) eS h
end
end Go.Am
namespace Go.Am
open Go
structure qP (s t:St):Prop where
 l:lk s.ae=lk t.ae
 b:di s.boxes=di t.boxes
 G:s.G=t.G
 m:s.marks=t.marks
 ro:s.ro=t.ro
 n:s.n=t.n
theorem qP.refl (s:St):qP s s:=⟨rfl,rfl,rfl,rfl,rfl,rfl⟩
theorem qP.symm {s t:St} (h:qP s t):qP t s:=⟨h.l.symm,h.b.symm,h.G.symm,h.m.symm,h.ro.symm,h.n.symm⟩
theorem qP.trans {s t u:St} (h:qP s t) (k:qP t u):qP s u:=⟨h.l.trans k.l,h.b.trans k.b,h.G.trans k.G,h.m.trans k.m,h.ro.trans k.ro,h.n.trans k.n⟩
theorem nT {a b:ba} {e:Nat} (h:lk a e=lk b e):∀ pre:ba,lk (pre++a) e=lk (pre++b) e
 |[]=>h
 |.put d x :: pre=>by
  simp only [List.cons_append,lk];rw [nT h pre]
 |.kill d :: pre=>by
  simp only [List.cons_append,lk];rw [nT h pre]
theorem yF {a b:cD} {e:Nat} (h:di a e=di b e):∀ pre:cD,di (pre++a) e=di (pre++b) e
 |[]=>h
 |(d,x) :: pre=>by
  simp only [List.cons_append,di];rw [yF h pre]
theorem qP.fV {s t:St} (h:qP s t) (pre:ba) (preB:cD) (G:List GO):qP (s.fV pre preB G) (t.fV pre preB G):=
 ⟨funext fun e=>nT (by rw [h.l]) pre,funext fun e=>yF (by rw [h.b]) preB,rfl,h.m,h.ro,h.n⟩
theorem Lr {E:Env} {a b:ba} {x:Operand} (h:∀ t,x=.tmp t→lk a t=lk b t):bw E a x=bw E b x:=by
 cases x with
 |tmp t=>exact h t rfl
 |_=>rfl
theorem qP.bw {E:Env} {s t:St} (h:qP s t) (x:Operand):bw E s.ae x=bw E t.ae x:=Lr fun e _=>by rw [h.l]
section Dm
variable {E:Env} {R:ai} {w:World} {β:Nat→Nat} {s t:St} {a:Act}
theorem aX.eqv (h:aX E R w β s a) (e:qP s t):aX E R w β t a where
 g:=by rw [← e.G]; exact h.g
 b:=⟨fun k cs hk=>h.b.box k cs (by rw [e.b]; exact hk),fun k k' c c' h1 h2=>h.b.inj k k' c c' (by rw [e.b]; exact h1) (by rw [e.b]; exact h2)⟩
 t:=fun i hi=>by
  rw [← e.l] at hi ⊢;exact h.t i hi
 n:=by rw [← e.n]; exact h.n
 d:=by rw [← e.m]; exact h.d
theorem xl {bx Hu:cD} (h:di bx=di Hu) {b:Nat} (k:Own R β bx b):Own R β Hu b:=by
 rcases k with k|⟨j,cs,h1,h2⟩
 ·exact .inl k
 ·exact .inr ⟨j,cs,by rw [← h]; exact h1,h2⟩
theorem Step.eqv {R':ai} {w':World} {β':Nat→Nat} {bx Hu cx cx':cD} (h:Step R w β bx R' w' β' Hu) (h1:di bx=di cx) (h2:di Hu=di cx'):Step R w β cx R' w' β' cx':=
 ⟨h.ext,h.os,h.tape,h.output,h.size,fun b hb hn=>h.aZ b hb (fun ho=>hn (xl h1 ho)),fun b hb ho=>xl h1 (h.own b hb (xl h2.symm ho)),fun b o hi hb hn=>h.im b o hi hb (fun ho=>hn (xl h1 ho))⟩
end Dm
section ops
variable {E:Env} {s t:St} {f:FuncId} {o:Oper} {K K':St→Prop}
def Inv (K:St→Prop):Prop:=∀ s t,qP s t→K s→K t
theorem D6 {op:Op} (h:uI op=true):bU op=false:=by
 cases op <;> simp_all [uI,bU]
theorem vh (hn:s.n=t.n) (hG:s.G=t.G) (hB:di s.boxes=di t.boxes) (eS:∀ y∈o.op.operands,bw E s.ae y=bw E t.ae y) (h:kS E f o K s)
  (hK:∀ pre preB G,Wa (bU o.op) o.dst pre→(uI o.op=true→preB=[]∧G=s.G)→K (s.fV pre preB G)→K' (t.fV pre preB G)):kS E f o K' t:=by
 unfold kS at h ⊢;split at h
 ·rename_i x args tys ho;have h1:bw E s.ae x=bw E t.ae x:=eS x (by rw [ho]; simp [Op.operands,Call.operands]);have h2:nf E s.ae args.toList=nf E t.ae args.toList:=hJ fun y hy=>eS y (by rw [ho]; simp [Op.operands,Call.operands]; exact .inr (by simpa using hy))
  try simp only [ho]
  rw [← h1,← h2,← hG];split at h
  ·refine cR.mono h fun r G' hk=>?_
   obtain ⟨pre,preB,G,p1,p2,p3,p4⟩:=bM.dP (s:=s) (t:=t) (al:=bU o.op) hn G' o.dst (.v r);rw [p3] at hk;rw [p4];exact hK pre preB G p1 (fun e=>by rw [ho] at e; simp [uI] at e) hk
  ·refine lK.mono h fun r G' hk=>?_
   obtain ⟨pre,preB,G,p1,p2,p3,p4⟩:=bM.dP (s:=s) (t:=t) (al:=bU o.op) hn G' o.dst (.v (.bool r));rw [p3] at hk;rw [p4];exact hK pre preB G p1 (fun e=>by rw [ho] at e; simp [uI] at e) hk
  ·exact h.elim
 ·exact h.elim
 ·split at h
  ·rename_i c s' hs;obtain ⟨t',h1,pre,preB,G,p1,p2,p3,p4⟩:=iV hn hG hB eS hs;rw [h1];obtain ⟨rfl,hk⟩:=h.out;refine dR.mk rfl ?_;rw [p3] at hk;rw [p4];exact hK pre preB G p1 (fun e=>⟨(p2 (by simp [e])).1,(p2 (by simp [e])).2.1⟩) hk
  ·exact h.elim
theorem vi (h:kS E f o K s) (hK:∀ s,K s→K' s):kS E f o K' s:=
 vh rfl rfl rfl (fun _ _=>rfl) h fun _ _ _ _ _ hk=>hK _ hk
theorem yG (h:kS E f o K s) (e:qP s t) (hK:Inv K):kS E f o K t:=
 vh e.n e.G e.b (fun y _=>e.bw y) h fun _ _ _ _ _ hk=>hK _ _ (e.fV _ _ _) hk
def Dn (ops:List Oper) (s:St) (o:Oper):Option Bool:=match o.guard with
 |none=>some true
 |some (j,want)=>match qf ops j with
  |some d=>match lk s.ae d with
   |.v (.bool b)=>some (b == want)
   |.v (.bD [])=>some false
   |_=>none
  |none=>none
theorem D7 (s:St) {d:Tmp} {x:SV} (h:lk s.ae d=x):qP s (s.put (some d) x):=by
 simp only [St.put];split
 ·refine ⟨funext fun e=>?_,rfl,rfl,rfl,rfl,rfl⟩;by_cases k:d=e
  ·subst k; rw [aA]; exact h
  ·rw [aN k]
 ·exact qP.refl s
theorem qP.put {s t:St} (h:qP s t) (d:Option Tmp) (x:SV):qP (s.put d x) (t.put d x):=by
 obtain ⟨pre,preB,G,_,_,p3,p4⟩:=bM.put (s:=s) (t:=t) (al:=false) (w:=false) h.n h.G d x;rw [p3,p4];exact h.fV _ _ _
theorem gN {ops:List Oper} (hK:Inv K):cb E f ops o K s↔(Dn ops s o=some true∧kS E f o K s)∨(Dn ops s o=some false∧K (s.put o.dst (.v gG))):=by
 unfold cb Dn;cases hg:o.guard with
 |none=>simp
 |some p=>
  obtain ⟨j,want⟩:=p;simp only;cases hd:qf ops j with
  |none=>simp
  |some d=>
   simp only;cases hl:lk s.ae d with
   |none=>simp
   |lp _ _=>simp
   |v a=>
    cases a with
    |bool b=>
     have e1:b=want→qP s (s.put (some d) (.v (.bool want))):=fun e=>D7 s (by rw [hl,e])
     have e2:b=(!want)→qP s (s.put (some d) (.v (.bool (!want)))):=fun e=>D7 s (by rw [hl,e])
     constructor
     ·intro ⟨h1,h2⟩;by_cases e:b=want
      ·exact .inl ⟨by simp [e],yG (h1 e) (e1 e).symm hK⟩
      ·have e':b=(!want):=by cases b <;> cases want <;> simp_all
       exact .inr ⟨by simp [e],hK _ _ ((e2 e').symm.put _ _) (h2 e')⟩
     ·rintro (⟨h1,h2⟩|⟨h1,h2⟩)
      ·have e:b=want:=by simpa using h1
       exact ⟨fun e=>yG h2 (e1 e) hK,fun e'=>by subst e; cases b <;> cases e'⟩
      ·have e:¬ b=want:=by simpa using h1
       exact ⟨fun k=>absurd k e,fun e'=>hK _ _ ((e2 e').put _ _) h2⟩
    |bD vs=>cases vs <;> simp
    |_=>simp
theorem cg {ops:List Oper} (h:cb E f ops o K s) (hK:∀ s,K s→K' s):cb E f ops o K' s:=by
 unfold cb at h ⊢;split at h
 ·exact vi h hK
 ·split at h
  ·exact h.elim
  ·split at h
   ·exact ⟨fun e=>vi (h.1 e) hK,fun e=>hK _ (h.2 e)⟩
   ·exact hK _ h
   ·exact h.elim
theorem Cy {ops:List Oper} (e:qP s t):Dn ops s o=Dn ops t o:=by
 unfold Dn;rw [e.l]
theorem D8 {ops:List Oper} (hK:Inv K):Inv (cb E f ops o K):=fun s t e h=>by
 rw [gN hK] at h ⊢;rcases h with ⟨h1,h2⟩|⟨h1,h2⟩
 ·exact .inl ⟨by rw [← Cy e]; exact h1,yG h2 e hK⟩
 ·exact .inr ⟨by rw [← Cy e]; exact h1,hK _ _ (e.put _ _) h2⟩
end ops
end Go.Am
namespace Go.Am
open Go
def Ls (dst:Option Tmp) (s t s' t':St):Prop:=∃ x,s'=s.put dst x∧t'=t.put dst x
section
variable {E:Env} {s t:St} {o:Oper}
theorem Ls.put (_:s.n=t.n) (dst:Option Tmp) (x:SV):Ls dst s t (s.put dst x) (t.put dst x):=⟨x,rfl,rfl⟩
theorem D9 {f:FuncId} {c:Bool} {s':St} (hN:uI o.op=true) (hR:Sv o.op=false) (hn:s.n=t.n) (eS:∀ y∈o.op.operands,bw E s.ae y=bw E t.ae y)
  (h:ak E f s o=some (c,s')):∃ t',ak E f t o=some (c,t')∧Ls o.dst s t s' t':=by
 obtain ⟨dst,op,ty,pos,after,guard⟩:=o;cases op
 case move x=>
  simp only [ak,eS x (by simp [Op.operands])] at h ⊢;split at h
  all_goals (injection h with h; injection h with h1 h2; subst h1 h2; (try simp only [*]); exact ⟨_,rfl,.put hn _ _⟩)
 case assign x=>
  simp only [ak,eS x (by simp [Op.operands])] at h ⊢;split at h
  all_goals (injection h with h; injection h with h1 h2; subst h1 h2; (try simp only [*]); exact ⟨_,rfl,.put hn _ _⟩)
 case pick x y z=>
  simp only [ak,eS x (by simp [Op.operands]),eS y (by simp [Op.operands]),eS z (by simp [Op.operands])] at h ⊢;split at h
  ·injection h with h; injection h with h1 h2; subst h1 h2; (try simp only [*]); exact ⟨_,rfl,.put hn _ _⟩
  ·cases h
 case build ty ps=>
  have he:oA E s ty ps.toList=oA E t ty ps.toList:=by
   unfold oA;rw [nS (fun p hp=>eS p.2 (by simp only [Op.operands,List.mem_toArray,List.mem_map]; exact ⟨p,hp,rfl⟩))]
  simp only [ak,he] at h ⊢;split at h
  ·injection h with h; injection h with h1 h2; subst h1 h2; (try simp only [*]); exact ⟨_,rfl,.put hn _ _⟩
  ·cases h
 case buildSlice ty len ps=>
  have he:bZ E s ty len ps.toList=bZ E t ty len ps.toList:=by
   unfold bZ;rw [nS (fun p hp=>eS p.2 (by simp only [Op.operands,List.mem_toArray,List.mem_map]; exact ⟨p,hp,rfl⟩))]
  simp only [ak,he] at h ⊢;split at h
  ·injection h with h; injection h with h1 h2; subst h1 h2; (try simp only [*]); exact ⟨_,rfl,.put hn _ _⟩
  ·cases h
 case binOp op a x y b=>
  simp only [ak,eS x (by simp [Op.operands]),eS y (by simp [Op.operands])] at h ⊢
  repeat' (split at h)
  all_goals (first|(cases h; done) | skip)
  all_goals (injection h with h; injection h with h1 h2; subst h1 h2; (try simp only [*]); exact ⟨_,rfl,.put hn _ _⟩)
 case unOp op a x=>
  simp only [ak,eS x (by simp [Op.operands])] at h ⊢
  repeat' (split at h)
  all_goals (first|(cases h; done) | skip)
  all_goals (injection h with h; injection h with h1 h2; subst h1 h2; (try simp only [*]); exact ⟨_,rfl,.put hn _ _⟩)
 case convert a b x=>simp [Sv] at hR
 case nilCheck x=>
  simp only [ak,eS x (by simp [Op.operands])] at h ⊢
  repeat' (split at h)
  all_goals (first|(cases h; done) | skip)
  all_goals (injection h with h; injection h with h1 h2; subst h1 h2; (try simp only [*]); exact ⟨_,rfl,.put hn _ _⟩)
 case makeFunc fo a b=>
  cases fo with
  |func g=>
   have h1:nf E s.ae a.toList=nf E t.ae a.toList:=hJ fun y hy=>eS y (by simp only [Op.operands,Array.mem_append]; exact .inl (by simpa using hy))
   have h2:nf E s.ae b.toList=nf E t.ae b.toList:=hJ fun y hy=>eS y (by simp only [Op.operands,Array.mem_append]; exact .inr (by simpa using hy))
   simp only [ak,h1,h2] at h ⊢
   repeat' (split at h)
   all_goals (first|(cases h; done) | skip)
   all_goals (injection h with h; injection h with h1 h2; subst h1 h2; (try simp only [*]); exact ⟨_,rfl,.put hn _ _⟩)
  |_=>simp [ak] at h
 case fieldAddr a x j=>
  simp only [ak,eS x (by simp [Op.operands])] at h ⊢
  repeat' (split at h)
  all_goals (first|(cases h; done) | skip)
  all_goals (injection h with h; injection h with h1 h2; subst h1 h2; (try simp only [*]); exact ⟨_,rfl,.put hn _ _⟩)
 case field a x j=>
  simp only [ak,eS x (by simp [Op.operands])] at h ⊢
  repeat' (split at h)
  all_goals (first|(cases h; done) | skip)
  all_goals (injection h with h; injection h with h1 h2; subst h1 h2; (try simp only [*]); exact ⟨_,rfl,.put hn _ _⟩)
 case indexAddr a x y=>
  simp only [ak,eS x (by simp [Op.operands]),eS y (by simp [Op.operands])] at h ⊢
  repeat' (split at h)
  all_goals (first|(cases h; done) | skip)
  all_goals (injection h with h; injection h with h1 h2; subst h1 h2; (try simp only [*]); exact ⟨_,rfl,.put hn _ _⟩)
 case index a x y=>
  simp only [ak,eS x (by simp [Op.operands]),eS y (by simp [Op.operands])] at h ⊢
  repeat' (split at h)
  all_goals (first|(cases h; done) | skip)
  all_goals (injection h with h; injection h with h1 h2; subst h1 h2; (try simp only [*]); exact ⟨_,rfl,.put hn _ _⟩)
 case slice a x lo hi mx=>
  have h1:mC E s.ae lo=mC E t.ae lo:=by
   cases lo with
   |none=>rfl
   |some y=>simp only [mC]; rw [eS y (by simp [Op.operands])]
  have h2:mC E s.ae hi=mC E t.ae hi:=by
   cases hi with
   |none=>rfl
   |some y=>simp only [mC]; rw [eS y (by simp [Op.operands])]
  simp only [ak,eS x (by simp [Op.operands]),h1,h2] at h ⊢
  repeat' (split at h)
  all_goals (first|(cases h; done) | skip)
  all_goals (injection h with h; injection h with h1 h2; subst h1 h2; (try simp only [*]); exact ⟨_,rfl,.put hn _ _⟩)
 case extract x i=>
  simp only [ak,eS x (by simp [Op.operands])] at h ⊢
  repeat' (split at h)
  all_goals (first|(cases h; done) | skip)
  all_goals (injection h with h; injection h with h1 h2; subst h1 h2; (try simp only [*]); exact ⟨_,rfl,.put hn _ _⟩)
 all_goals (first|(simp [uI] at hN; done) | (simp [Sv] at hR; done))
end
end Go.Am
namespace Go.Am
open Go
section
variable {E:Env} {s t:St} {f:FuncId} {ops:Array Oper} {o oj oi:Oper} {d:Tmp} {x:SV} {K:St→Prop}
theorem Lt (ops:Array Oper) (j:Nat):qf ops.toList j=(ops[j]?).bind (·.dst):=by
 unfold qf;rw [aV,Array.getElem?_toList];cases ops[j]? <;> rfl
theorem oU {e:Tmp} (h:.tmp e∈o.op.operands):e∈o.looksAt ops:=
 List.mem_append_left _ (List.mem_filterMap.2 ⟨.tmp e,by simpa using h,rfl⟩)
theorem ks {j:Nat} {want:Bool} {e:Tmp} (h:o.guard=some (j,want)) (he:qf ops.toList j=some e):e∈o.looksAt ops:=by
 rw [Lt] at he;refine List.mem_append_right _ ?_;rw [h];simp [he]
theorem lL (h:∀ e∈o.looksAt ops,lk s.ae e=lk t.ae e):∀ y∈o.op.operands,bw E s.ae y=bw E t.ae y:=fun _ hy=>
 Lr fun e he=>h e (oU (he ▸ hy))
theorem lr (h:∀ e∈o.looksAt ops,lk s.ae e=lk t.ae e):Dn ops.toList s o=Dn ops.toList t o:=by
 unfold Dn;split
 ·rfl
 ·rename_i j want hg;split
  ·rename_i e he;rw [h e (ks hg he)]
  ·rfl
theorem xm (s:St) (d:Tmp) (x:SV) {e:Nat} (h:d≠e):lk (s.put (some d) x).ae e=lk s.ae e:=by
 simp only [St.put];split
 ·exact aN h
 ·rfl
theorem gO (s:St) (d:Option Tmp) (x:SV):(s.put d x).boxes=s.boxes∧(s.put d x).G=s.G∧(s.put d x).n=s.n∧(s.put d x).marks=s.marks∧(s.put d x).ro=s.ro:=by
 cases d with
 |none=>exact ⟨rfl,rfl,rfl,rfl,rfl⟩
 |some d=>
  simp only [St.put];split <;> exact ⟨rfl,rfl,rfl,rfl,rfl⟩
def yH (E:Env) (f:FuncId) (ops:Array Oper) (o:Oper) (s:St) (x:SV):Prop:=
 (Dn ops.toList s o=some true∧ak E f s o=some (true,s.put o.dst x))∨(Dn ops.toList s o=some false∧x=.v gG)
theorem Lu {c:Bool} {s':St} (hN:uI o.op=true) (h:ak E f s o=some (c,s')):∃ x,s'=s.put o.dst x:=by
 obtain ⟨t',_,pre,preB,G,_,h2,_,_⟩:=iV (t:=s) rfl rfl rfl (fun _ _=>rfl) h;obtain ⟨_,_,x,hx,_⟩:=h2 (by simp [hN]);exact ⟨x,hx⟩
theorem Lv (hN:uI o.op=true):kS E f o K s↔∃ s',ak E f s o=some (true,s')∧K s':=by
 unfold kS;split
 ·rename_i h;rw [h] at hN;simp [uI] at hN
 ·rename_i h;rw [h] at hN;simp [uI] at hN
 ·split
  ·rename_i c s' hs;constructor
   ·intro h;obtain ⟨rfl,hk⟩:=h.out;exact ⟨s',hs,hk⟩
   ·rintro ⟨Cn,h1,h2⟩;rw [hs] at h1;cases h1;exact dR.mk rfl h2
  ·rename_i hs;constructor
   ·exact fun h=>h.elim
   ·rintro ⟨Cn,h1,_⟩;rw [hs] at h1;cases h1
theorem yI (hN:uI o.op=true) (hK:Inv K) (h:cb E f ops.toList o K s):∃ x,yH E f ops o s x∧K (s.put o.dst x):=by
 rcases (gN hK).1 h with ⟨h1,h2⟩|⟨h1,h2⟩
 ·obtain ⟨s',h3,h4⟩:=(Lv hN).1 h2;obtain ⟨x,rfl⟩:=Lu hN h3;exact ⟨x,.inl ⟨h1,h3⟩,h4⟩
 ·exact ⟨_,.inr ⟨h1,rfl⟩,h2⟩
theorem yJ (hN:uI o.op=true) (hK:Inv K) (hx:yH E f ops o s x) (h:K (s.put o.dst x)):cb E f ops.toList o K s:=by
 rw [gN hK];rcases hx with ⟨h1,h2⟩|⟨h1,rfl⟩
 ·exact .inl ⟨h1,(Lv hN).2 ⟨_,h2,h⟩⟩
 ·exact .inr ⟨h1,h⟩
def Gk (E:Env) (f:FuncId) (ops:List Oper) (o:Oper) (s:St):Prop:=match Dn ops s o with
 |some true=>match o.dst,ak E f s o with
  |some d,some (c,s')=>c=true∧lk s'.ae d=lk s.ae d
  |_,_=>False
 |some false=>True
 |none=>False
theorem Oq (hN:uI o.op=true) (hd:d∉o.looksAt ops) (cz:o.dst≠some d) (he:∀ e,d≠e→lk s.ae e=lk t.ae e) (hB:di s.boxes=di t.boxes) (hG:s.G=t.G) (hn:s.n=t.n)
  (h:Gk E f ops.toList o s):Gk E f ops.toList o t:=by
 have hl:∀ e∈o.looksAt ops,lk s.ae e=lk t.ae e:=fun e hm=>he e fun k=>hd (k ▸ hm)
 unfold Gk at h ⊢;rw [← lr hl];split
 ·rename_i hg;rw [hg] at h;simp only at h;split at h
  ·rename_i e c s' Jo hs;obtain ⟨t',h3,pre,preB,G,_,h4,_,_⟩:=iV hn hG hB (lL hl) hs;obtain ⟨_,_,y,h5,h6⟩:=h4 (by simp [hN]);rw [Jo,h3];refine ⟨h.1,?_⟩;have hde:d≠e:=fun k=>cz (by rw [Jo,k])
   have h7:=h.2;rw [h5,Jo] at h7;rw [h6,Jo,← he e hde];simp only [St.put,← hn] at h7 ⊢;split
   ·rename_i hb;rw [hb] at h7;simp only [aA] at h7 ⊢;exact h7
   ·exact (he e hde).symm
  ·exact h.elim
 ·trivial
 ·rename_i hg;rw [hg] at h;exact h
theorem Ot (hN:uI o.op=true) (e:qP s t) (h:Gk E f ops.toList o s):Gk E f ops.toList o t:=by
 unfold Gk at h ⊢;rw [← Cy e];split
 ·rename_i hg;rw [hg] at h;simp only at h;split at h
  ·rename_i d c s' Jo hs;obtain ⟨t',h3,pre,preB,G,_,h4,_,_⟩:=iV e.n e.G e.b (fun y _=>e.bw y) hs;obtain ⟨_,_,y,h5,h6⟩:=h4 (by simp [hN]);rw [Jo,h3];refine ⟨h.1,?_⟩;rw [h6,← (e.put o.dst y).l,← h5,← e.l];exact h.2
  ·exact h.elim
 ·trivial
 ·rename_i hg;rw [hg] at h;exact h
def kg (oj oi:Oper):Bool:=bU oi.op || (Sv oj.op&&!uI oi.op)
theorem Lw {al:Bool} {dst:Option Tmp} {pre:ba} (h:Wa al dst pre) {e:Nat} (he:dst≠some e) (l:ba):lk (pre++l) e=lk l e∨(al=true∧∃ k off,lk l e=.lp k off):=by
 rcases h with rfl|⟨d,y,rfl,rfl|⟨rfl,rfl⟩⟩
 ·exact .inl rfl
 ·exact .inl (aN fun k=>he (by rw [k]))
 ·simp only [List.cons_append,List.nil_append];rw [aN (fun k=>he (by rw [k]))];simp only [lk];cases hl:lk l e with
  |lp k off=>exact .inr ⟨trivial,k,off,rfl⟩
  |_=>exact .inl rfl
theorem tJ {al:Bool} {pre:ba} (preB:cD) (G:List GO) (h:Wa al oi.dst pre) (cz:oi.dst≠some d) (hx:al=false∨∃ a,x=.v a):qP ((s.put (some d) x).fV pre preB G) ((s.fV pre preB G).put (some d) x):=by
 have hb:∀ b,Nat.blt d s.n=b→qP ((s.put (some d) x).fV pre preB G) ((s.fV pre preB G).put (some d) x):=fun b hb=>by
  have kM:Nat.blt d (s.fV pre preB G).n=b:=hb;rw [mN,mN,hb,kM];cases b with
  |false=>exact qP.refl _
  |true=>
   refine ⟨funext fun e=>?_,rfl,rfl,rfl,rfl,rfl⟩;simp only [cond_true,St.fV,List.cons_append,List.nil_append];by_cases k:d=e
   ·subst k;rw [aA];rcases Lw h cz (.put d x :: s.ae) with h1|⟨h1,k,off,h2⟩
    ·rw [h1,aA]
    ·rw [aA] at h2;rcases hx with hx|⟨a,hx⟩
     ·rw [hx] at h1; cases h1
     ·rw [hx] at h2; cases h2
   ·rw [aN k];exact nT (aN k) pre
 exact hb _ rfl
theorem Jp (hN:uI oj.op=true) (HL:oj.dst=some d) (Ea:d∉oj.looksAt ops) (Wc:oj.apart ops oi=true) (hK:Inv K) (hx:yH E f ops oj s x) {pre:ba} {preB:cD} {G:List GO}
  (Eb:Wa (bU oi.op) oi.dst pre) (Xx:uI oi.op=true→preB=[]∧G=s.G) (hk:K ((s.put (some d) x).fV pre preB G)) (W8:∀ t',K t'→kg oj oi=true→Gk E f ops.toList oj t') :
  ∃ x',yH E f ops oj (s.fV pre preB G) x'∧K ((s.fV pre preB G).put (some d) x'):=by
 obtain ⟨_,cz,wQ⟩:=Oper.apart_spec Wc;have FU:oi.dst≠some d:=cz d HL;have tK:∀ e∈oj.looksAt ops,oi.dst≠some e:=fun e he k=>wQ e k he
 have vK:∀ e∈oj.looksAt ops,(bU oi.op=false∨∃ b,lk s.ae e=.v b)→lk s.ae e=lk (s.fV pre preB G).ae e:=fun e he ha=>by
  rcases Lw Eb (tK e he) s.ae with h1|⟨h1,k,off,h2⟩
  ·exact h1.symm
  ·rcases ha with ha|⟨b,ha⟩
   ·rw [ha] at h1; cases h1
   ·rw [ha] at h2; cases h2
 have Ou:∀ b,Dn ops.toList s oj=some b→Dn ops.toList (s.fV pre preB G) oj=some b:=fun b hb=>by
  unfold Dn at hb ⊢;split
  ·rename_i hg; rw [hg] at hb; exact hb
  ·rename_i j want hg;rw [hg] at hb;simp only at hb;split
   ·rename_i e he;rw [he] at hb;simp only at hb;split at hb
    ·rename_i b' hl;have:=vK e (ks hg he) (.inr ⟨_,hl⟩);rw [← this,hl];exact hb
    ·rename_i hl;have:=vK e (ks hg he) (.inr ⟨_,hl⟩);rw [← this,hl];exact hb
    ·cases hb
   ·rename_i he; rw [he] at hb; cases hb
 rcases hx with ⟨h1,h2⟩|⟨h1,rfl⟩
 ·rw [HL] at h2;by_cases aaM:kg oj oi=true
  ·have hr:=W8 _ hk aaM
   -- the state with the slot, and the one without it
   have Cm:∀ e,d≠e→lk ((s.put (some d) x).fV pre preB G).ae e=lk (s.fV pre preB G).ae e:=fun e he=>nT (xm s d x he) pre
   have hB:di ((s.put (some d) x).fV pre preB G).boxes=di (s.fV pre preB G).boxes:=by
    simp only [St.fV]; rw [(gO s _ x).1]
   have hn:((s.put (some d) x).fV pre preB G).n=(s.fV pre preB G).n:=(gO s _ x).2.2.1;have Ov:∀ e∈oj.looksAt ops,lk ((s.put (some d) x).fV pre preB G).ae e=lk (s.fV pre preB G).ae e:=fun e he=>Cm e fun k=>Ea (k ▸ he)
   have ZF:Dn ops.toList ((s.put (some d) x).fV pre preB G) oj=some true:=by rw [lr Ov]; exact Ou _ h1
   unfold Gk at hr;rw [ZF] at hr;simp only [HL] at hr;split at hr
   ·rename_i d' c s' Hx hs;cases Hx;obtain ⟨rfl,hr⟩:=hr;obtain ⟨t',h3,p,pB,G2,_,h4,_,_⟩:=iV (t:=s.fV pre preB G) hn rfl hB (lL Ov) hs;obtain ⟨_,_,y,h5,h6⟩:=h4 (by simp [hN]);rw [h6] at h3;rw [h5,HL] at hr;refine ⟨y,.inl ⟨Ou _ h1,h3⟩,hK _ _ ?_ hk⟩;have hmr:((s.put (some d) x).fV pre preB G).marks=(s.fV pre preB G).marks∧((s.put (some d) x).fV pre preB G).ro=(s.fV pre preB G).ro:=(gO s _ x).2.2.2;obtain ⟨q1,q2,q3,q4,q5⟩:=gO (s.fV pre preB G) (some d) y;refine ⟨funext fun e=>?_,by rw [q1]; exact hB,by rw [q2]; rfl,by rw [q4]; exact hmr.1,by rw [q5]; exact hmr.2,by rw [q3]; exact hn⟩;by_cases k:d=e
    ·subst k;rw [← hr];have hb:∀ b,Nat.blt d s.n=b→lk (((s.put (some d) x).fV pre preB G).put (some d) y).ae d=lk ((s.fV pre preB G).put (some d) y).ae d:=fun b hb=>by
      have Xy:Nat.blt d (s.fV pre preB G).n=b:=hb;have Gl:Nat.blt d ((s.put (some d) x).fV pre preB G).n=b:=by rw [hn]; exact hb
      rw [mN _ d y,mN _ d y,Xy,Gl];cases b with
      |true=>simp [St.fV,aA]
      |false=>
       simp only [cond_false];rw [mN,hb];rfl
     exact hb _ rfl
    ·rw [xm _ _ _ k];exact Cm e k
   ·exact hr.elim
  ·have Jq:bU oi.op=false:=by cases ha:bU oi.op <;> simp_all [kg]
   have hl:∀ e∈oj.looksAt ops,lk s.ae e=lk (s.fV pre preB G).ae e:=fun e he=>vK e he (.inl Jq)
   have fin:∀ y,s.put (some d) x=s.put (some d) y→ak E f (s.fV pre preB G) oj=some (true,(s.fV pre preB G).put oj.dst y) →
     ∃ x',yH E f ops oj (s.fV pre preB G) x'∧K ((s.fV pre preB G).put (some d) x'):=fun y hy hs=>by
    refine ⟨y,.inl ⟨Ou _ h1,hs⟩,hK _ _ (tJ (oi:=oi) preB G Eb FU (.inl Jq)) ?_⟩;rw [← hy];exact hk
   cases hNo:uI oi.op with
   |true=>
    obtain ⟨rfl,rfl⟩:=Xx hNo;obtain ⟨t',h3,p,pB,G2,_,h4,_,_⟩:=iV (s:=s) (t:=s.fV pre [] s.G) rfl rfl rfl (lL hl) h2;obtain ⟨_,_,y,h5,h6⟩:=h4 (by simp [hN]);rw [HL] at h5;exact fin y h5 (by rw [h3,h6])
   |false=>
    have hR:Sv oj.op=false:=by cases ha:Sv oj.op <;> simp_all [kg]
    obtain ⟨t',h3,y,h5,h6⟩:=D9 (s:=s) (t:=s.fV pre preB G) hN hR rfl (lL hl) h2;rw [HL] at h5;exact fin y h5 (by rw [h3,h6])
 ·exact ⟨_,.inr ⟨Ou _ h1,rfl⟩,hK _ _ (tJ (oi:=oi) preB G Eb FU (.inr ⟨_,rfl⟩)) hk⟩
end
end Go.Am
namespace Go.Am
open Go
section
variable {E:Env} {s t:St} {o:Oper}
def iW (E:Env) (s:St) (o:Oper) (s':St):Prop:=
 (s'.ae=s.ae∨∃ d x,o.dst=some d∧(s'.ae=.put d x :: s.ae∨s'.ae=.put d x :: .kill d :: s.ae)∧∀ k off,x=.lp k off→(∃ y∈o.op.operands,∃ gk,bw E s.ae y=.lp k gk)∨(bU o.op=true∧k=d)) ∧
 (s'.boxes=s.boxes∨∃ k cs,s'.boxes=(k,cs) :: s.boxes∧((bU o.op=true∧o.dst=some k)∨∃ y∈o.op.operands,∃ off,bw E s.ae y=.lp k off))
theorem mO {s1:St} (h1:s1.ae=s.ae) (h2:s1.boxes=s.boxes) {x:SV} (hx:∀ k off,x=.lp k off→∃ y∈o.op.operands,∃ gk,bw E s.ae y=.lp k gk):iW E s o (s1.put o.dst x):=by
 refine ⟨?_,.inl (by rw [(gO s1 o.dst x).1,h2])⟩;cases hd:o.dst with
 |none=>exact .inl h1
 |some d=>
  simp only [St.put];split
  ·exact .inr ⟨d,x,rfl,.inl (by rw [h1]),fun k off h=>.inl (hx k off h)⟩
  ·exact .inl h1
theorem kD {s1:St} (h1:s1.ae=s.ae) (h2:s1.boxes=s.boxes) (a:AV):iW E s o (s1.put o.dst (.v a)):=mO h1 h2 fun k off h=>by cases h
theorem nU {s1:St} (h1:s1.ae=s.ae) (h2:s1.boxes=s.boxes):iW E s o s1:=⟨.inl h1,.inl h2⟩
theorem Ow {k:Nat} {cs:List AV} (h:∃ y∈o.op.operands,∃ off,bw E s.ae y=.lp k off):iW E s o (s.vD k cs):=⟨.inl rfl,.inr ⟨k,cs,rfl,.inr h⟩⟩
theorem Ec {n:Nat} {x:SV} {k off:Nat} (h:A4 n x=some (.lp k off)):∃ gk,x=.lp k gk:=by
 unfold A4 at h;split at h <;> cases h;exact ⟨_,rfl⟩
theorem AJ {ty:TypeId} {x:SV} {j k off:Nat} (h:lB E ty x j=some (.lp k off)):∃ gk,x=.lp k gk:=by
 unfold lB at h
 repeat' (split at h)
 all_goals (first|(cases h; done) | exact Ec h)
theorem AK {ty:TypeId} {x ix:SV} {c:Bool} {k off:Nat} (h:lA E ty x ix=some (c,.lp k off)):∃ gk,x=.lp k gk:=by
 unfold lA at h
 repeat' (split at h)
 all_goals (first|(cases h; done) | skip)
 rename_i hm;injection h with h; injection h with h1 h2; subst h2;exact Ec hm
theorem Gm {ty:TypeId} {p x:SV} {s':St} (hp:∀ k off,p=.lp k off→∃ y∈o.op.operands,∃ gk,bw E s.ae y=.lp k gk) (h:ik E s ty p x=some s'):iW E s o s':=by
 unfold ik at h
 repeat' (split at h)
 all_goals (first|(cases h; done) | skip)
 ·cases h; exact Ow (hp _ _ rfl)
 ·cases h; exact nU rfl rfl
theorem Gn {ty:TypeId} {p x:SV} {c:Bool} {s':St} (hp:∀ k off,p=.lp k off→∃ y∈o.op.operands,∃ gk,bw E s.ae y=.lp k gk) (h:gj E s ty p x=some (c,s')):iW E s o s':=by
 unfold gj at h
 repeat' (split at h)
 all_goals (first|(cases h; done) | skip)
 ·injection h with h; injection h with h1 h2; subst h2; exact nU rfl rfl
 ·injection h with h; injection h with h1 h2; subst h2; exact nU rfl rfl
 ·rename_i hs;injection h with h; injection h with h1 h2; subst h2; exact Gm hp hs
theorem Gp {ty:TypeId} {p x:SV} {c:Bool} {s':St} (hp:∀ k off,p=.lp k off→∃ y∈o.op.operands,∃ gk,bw E s.ae y=.lp k gk) (h:kq E s ty p x=some (c,s')):iW E s o s':=by
 unfold kq at h;split at h
 ·rename_i hs;injection h with h; injection h with e1 e2;subst e2;exact Gn (s:=s.bG (rZ s p x).2.2) hp hs
 ·cases h
theorem vU {ty:TypeId} {m k x:SV} {s':St} (h:fL E s ty m k x=some s'):iW E s o s':=by
 unfold fL at h
 repeat' (split at h)
 all_goals (first|(cases h; done) | skip)
 cases h; exact nU rfl rfl
theorem Jr {x:SV} {s':St} (h:mK s o.dst x=some s'):iW E s o s':=by
 unfold mK at h;split at h
 ·split at h
  ·rename_i l pos hg;cases hb:Nat.blt pos l.length with
   |true=>
    rw [hb] at h;simp only [cond_true] at h;cases h;exact kD rfl rfl _
   |false=>
    rw [hb] at h;simp only [cond_false] at h;cases h;exact kD rfl rfl _
  ·cases h
 ·cases h
theorem Cz {b:Builtin} {l:List AV} {tys:List TypeId} {c:Bool} {s':St} (h:bQ E s o.dst b l tys=some (c,s')):iW E s o s':=by
 unfold bQ at h;cases b
 all_goals (try (cases h; done))
 all_goals (try simp only at h)
 all_goals (try (split at h <;> first | (cases h; done) | simp only at h))
 all_goals (repeat' (split at h))
 all_goals (first|(cases h; done) | skip)
 all_goals (injection h with h; injection h with h1 h2; subst h1 h2)
 all_goals (first|exact kD rfl rfl _ | exact nU rfl rfl)
theorem Js {f:FuncId} {c:Bool} {s':St} (h:iz E f s o=some (c,s')):iW E s o s':=by
 unfold iz at h
 repeat' (split at h)
 all_goals (first|(cases h; done) | skip)
 injection h with h; injection h with h2 h3;subst h3;exact kD rfl rfl _
theorem yK {f:FuncId} {el:TypeId} {cs:List AV} {c:Bool} {s':St} (ha:bU o.op=true) (h:fJ E f s o.dst el cs=some (c,s')):iW E s o s':=by
 unfold fJ at h;split at h
 ·cases h
 ·rename_i d hd;split at h
  ·injection h with h; injection h with h1 h2; subst h2;rw [← hd];exact kD rfl rfl _
  ·split at h
   ·rename_i hb;injection h with h; injection h with h1 h2; subst h2;refine ⟨.inr ⟨d,.lp d 0,hd,.inr ?_,fun k off h=>by cases h; exact .inr ⟨ha,rfl⟩⟩,.inr ⟨d,cs,?_,.inl ⟨ha,hd⟩⟩⟩
    ·simp only [St.put,St.vD,St.kill,hb]
    ·rw [(gO _ (some d) (.lp d 0)).1]; rfl
   ·cases h
theorem Gq {f:FuncId} {c:Bool} {s':St} (h:ak E f s o=some (c,s')):iW E s o s':=by
 cases ho:o.op
 case move x=>
  simp only [ak,ho] at h;split at h
  all_goals (injection h with h; injection h with h1 h2; subst h2)
  ·exact kD rfl rfl _
  ·rename_i k off hx;exact mO rfl rfl fun k' gk e=>by cases e; exact ⟨x,by rw [ho]; simp [Op.operands],_,hx⟩
  ·exact mO rfl rfl fun k' gk e=>by cases e
 case assign x=>
  simp only [ak,ho] at h;split at h
  all_goals (injection h with h; injection h with h1 h2; subst h2)
  ·exact kD rfl rfl _
  ·rename_i k off hx;exact mO rfl rfl fun k' gk e=>by cases e; exact ⟨x,by rw [ho]; simp [Op.operands],_,hx⟩
  ·exact mO rfl rfl fun k' gk e=>by cases e
 case nilCheck x=>
  simp only [ak,ho] at h;split at h
  ·injection h with h; injection h with h1 h2; subst h2;exact kD rfl rfl _
  ·injection h with h; injection h with h1 h2; subst h2;exact kD rfl rfl _
  ·rename_i k off hx;injection h with h; injection h with h1 h2; subst h2;exact mO rfl rfl fun k' gk e=>by cases e; exact ⟨x,by rw [ho]; simp [Op.operands],_,hx⟩
  ·cases h
 case fieldAddr a x j=>
  simp only [ak,ho] at h;split at h
  ·rename_i p hp;injection h with h; injection h with h1 h2; subst h2;exact mO rfl rfl fun k' gk e=>by subst e; exact ⟨x,by rw [ho]; simp [Op.operands],AJ hp⟩
  ·cases h
 case indexAddr a x y=>
  simp only [ak,ho] at h;split at h
  ·rename_i c' p hp;injection h with h; injection h with h1 h2; subst h2;exact mO rfl rfl fun k' gk e=>by subst e; exact ⟨x,by rw [ho]; simp [Op.operands],AK hp⟩
  ·cases h
 case alloc e=>
  simp only [ak,ho] at h
  repeat' (split at h)
  all_goals (first|(cases h; done) | skip)
  exact yK (by rw [ho]; rfl) h
 case box e x=>
  simp only [ak,ho] at h
  repeat' (split at h)
  all_goals (first|(cases h; done) | skip)
  exact yK (by rw [ho]; rfl) h
 case store ty x y=>
  simp only [ak,ho] at h;split at h
  ·rename_i hs;injection h with h; injection h with h1 h2; subst h2;exact Gp (fun k off e=>⟨x,by rw [ho]; simp [Op.operands],off,e⟩) hs
  ·cases h
 case mapUpdate ty x y z=>
  simp only [ak,ho] at h;split at h
  ·rename_i hs;injection h with h; injection h with h1 h2; subst h2;exact vU hs
  ·cases h
 case insert ty x y z=>
  simp only [ak,ho] at h;split at h
  ·rename_i hs;injection h with h; injection h with h1 h2; subst h2;exact vU hs
  ·cases h
 case mapEntry ty x y=>
  simp only [ak,ho] at h;split at h
  ·rename_i hs;injection h with h; injection h with h1 h2; subst h2;unfold gW at hs
   repeat' (split at hs)
   all_goals (first|(cases hs; done) | skip)
   injection hs with hs; injection hs with h3 hs; injection hs with h4 h5;subst h5;exact kD rfl rfl _
  ·cases h
 case entryStore ty x y z=>
  simp only [ak,ho] at h;split at h
  ·rename_i hs;injection h with h; injection h with h1 h2; subst h2;unfold eR at hs
   repeat' (split at hs)
   all_goals (first|(cases hs; done) | skip)
   injection hs with hs; injection hs with h3 h4;subst h4;exact nU rfl rfl
  ·cases h
 case next x b=>
  cases b with
  |false=>simp [ak,ho] at h
  |true=>
   simp only [ak,ho] at h;split at h
   ·rename_i hs;injection h with h; injection h with h1 h2; subst h2;exact Jr hs
   ·cases h
 case call cl=>
  obtain ⟨callee,args,tys⟩:=cl;cases callee with
  |builtin b=>
   simp only [ak,ho] at h;split at h
   ·rename_i r hf;cases h;exact Js hf
   ·split at h
    ·exact Cz h
    ·cases h
  |_=>simp [ak,ho] at h
 case makeFunc fo a b=>
  cases fo with
  |func g=>
   simp only [ak,ho] at h
   repeat' (split at h)
   all_goals (first|(cases h; done) | skip)
   injection h with h; injection h with h1 h2; subst h2;exact kD rfl rfl _
  |_=>simp [ak,ho] at h
 case makeMap ty r=>
  cases r with
  |none=>
   simp only [ak,ho] at h;injection h with h; injection h with h1 h2; subst h2;exact kD rfl rfl _
  |some _=>simp [ak,ho] at h
 all_goals (first
  |(simp [ak,ho] at h; done)
  |(simp only [ak,oD,ho] at h; (repeat' (split at h)); (all_goals (first|(cases h; done) | skip)); (all_goals (injection h with h; injection h with h1 h2; subst h2)); (all_goals (exact kD rfl rfl _))))
def su (s:St) (d:Nat) (cs:List AV):St:=s.fV [.put d (.lp d 0),.kill d] [(d,cs)] s.G
theorem Gr {f:FuncId} {d:Tmp} {c:Bool} {s1:St} (Jq:bU o.op=true) (hd:o.dst=some d) (hg:E.xJ f d=false) (h:ak E f s o=some (c,s1)) :
  c=true∧∃ cs,s1=su s d cs∧∀ t:St,t.n=s.n→(∀ y∈o.op.operands,∀ v,bw E s.ae y=.v v→bw E t.ae y=.v v)→ak E f t o=some (true,su t d cs):=by
 have key:∀ (el:TypeId) (cs:List AV),fJ E f s o.dst el cs=some (c,s1)→c=true∧s1=su s d cs∧∀ t:St,t.n=s.n→fJ E f t o.dst el cs=some (true,su t d cs):=by
  intro el cs h;unfold fJ at h;rw [hd] at h;simp only [hg,Bool.false_eq_true,if_false] at h;split at h
  ·rename_i hb;injection h with h; injection h with h1 h2; subst h1 h2;refine ⟨rfl,?_,fun t ht=>?_⟩
   ·simp only [St.put,St.vD,St.kill,hb,su,St.fV]; rfl
   ·unfold fJ;rw [hd];simp only [hg,Bool.false_eq_true,if_false,ht,hb];simp only [St.put,St.vD,St.kill,ht,hb,su,St.fV]; rfl
  ·cases h
 cases ho:o.op
 case alloc e=>
  simp only [ak,ho] at h ⊢;split at h
  ·split at h
   ·split at h
    ·rename_i hi _ _ hz Nq;obtain ⟨k1,k2,k3⟩:=key _ _ h;refine ⟨k1,_,k2,fun t ht _=>?_⟩;simp only [hi,hz,Nq,if_true];exact k3 t ht
    ·cases h
   ·cases h
  ·cases h
 case box e x=>
  simp only [ak,ho] at h ⊢;split at h
  ·split at h
   ·rename_i v hv Nq;obtain ⟨k1,k2,k3⟩:=key _ _ h;refine ⟨k1,_,k2,fun t ht he=>?_⟩;simp only [he x (by simp [Op.operands]) v hv,Nq,if_true];exact k3 t ht
   ·cases h
  ·cases h
 all_goals (rw [ho] at Jq; simp [bU] at Jq)
theorem HM {pre:ba} {preB:cD} {G:List GO} (h:iW E s o (s.fV pre preB G)) :
  (pre=[]∨∃ d x,o.dst=some d∧(pre=[.put d x]∨pre=[.put d x,.kill d])∧∀ k off,x=.lp k off→(∃ y∈o.op.operands,∃ gk,bw E s.ae y=.lp k gk)∨(bU o.op=true∧k=d)) ∧
  (preB=[]∨∃ k cs,preB=[(k,cs)]∧((bU o.op=true∧o.dst=some k)∨∃ y∈o.op.operands,∃ off,bw E s.ae y=.lp k off)):=by
 obtain ⟨h1,h2⟩:=h;refine ⟨?_,?_⟩
 ·rcases h1 with h1|⟨d,x,hd,h1,hx⟩
  ·exact .inl (by simpa [St.fV] using h1)
  ·refine .inr ⟨d,x,hd,?_,hx⟩;rcases h1 with h1|h1
   ·left;have h1:pre++s.ae=[.put d x]++s.ae:=h1;exact List.append_cancel_right h1
   ·right;have h1:pre++s.ae=[.put d x,.kill d]++s.ae:=h1;exact List.append_cancel_right h1
 ·rcases h2 with h2|⟨k,cs,h2,hx⟩
  ·exact .inl (by simpa [St.fV] using h2)
  ·refine .inr ⟨k,cs,?_,hx⟩;have h2:preB++s.boxes=[(k,cs)]++s.boxes:=h2;exact List.append_cancel_right h2
theorem kh (d e:Nat) (l:ba):lk (.kill d :: l) e=(match lk l e with | .lp k off=>bif Nat.beq k d then .none else .lp k off | x=>x):=rfl
theorem yL {d e:Nat} {l:ba} (h:∀ off,lk l e≠.lp d off):lk (.kill d :: l) e=lk l e:=by
 rw [kh];split
 ·rename_i k off hk;cases hb:Nat.beq k d with
  |true=>exact absurd (by rw [hk,Nat.eq_of_beq_eq_true hb]) (h off)
  |false=>rw [hk]; rfl
 ·rfl
theorem Jt {d:Nat} {pre:ba} {preB:cD} {G:List GO} (cs:List AV) (Ox:iW E s o (s.fV pre preB G)) (cz:o.dst≠some d) (Ju:∀ y∈o.op.operands,∀ off,bw E s.ae y≠.lp d off) :
  qP ((su s d cs).fV pre preB G) (su (s.fV pre preB G) d cs):=by
 obtain ⟨h1,h2⟩:=HM Ox;refine ⟨funext fun e=>?_,funext fun k=>?_,rfl,rfl,rfl,rfl⟩
 ·show lk (pre++([.put d (.lp d 0),.kill d]++s.ae)) e=lk ([.put d (.lp d 0),.kill d]++(pre++s.ae)) e;rcases h1 with rfl|⟨d',x,hd,hp,hx⟩
  ·rfl
  ·have ZG:d'≠d:=fun c=>cz (by rw [hd,c])
   have wG:∀ off,x≠.lp d off:=fun off c=>by
    rcases hx d off c with ⟨y,hy,gk,ho⟩|⟨_,h⟩
    ·exact Ju y hy gk ho
    ·exact ZG h.symm
   by_cases c1:d=e
   ·subst c1;rcases hp with rfl|rfl
    ·simp only [List.cons_append,List.nil_append];rw [aN ZG,aA,aA]
    ·simp only [List.cons_append,List.nil_append];rw [aN ZG,aA,yL (fun off=>by rw [aA]; intro c; cases c; exact ZG rfl),aA]
   ·simp only [List.cons_append,List.nil_append];rw [aN c1];by_cases c2:d'=e
    ·subst c2;rcases hp with rfl|rfl
     ·simp only [List.cons_append,List.nil_append];rw [aA,yL (fun off=>by rw [aA]; exact wG off),aA]
     ·simp only [List.cons_append,List.nil_append];rw [aA,yL (fun off=>by rw [aA]; exact wG off),aA]
    ·rcases hp with rfl|rfl
     ·simp only [List.cons_append,List.nil_append];rw [aN c2,aN c1,kh,kh,aN c2]
     ·simp only [List.cons_append,List.nil_append];rw [aN c2,kh,aN c1,kh,kh,aN c2,kh];cases lk s.ae e with
      |lp k off=>cases hb:Nat.beq k d <;> cases Gl:Nat.beq k d' <;> simp [hb,Gl]
      |_=>rfl
 ·show di (preB++([(d,cs)]++s.boxes)) k=di ([(d,cs)]++(preB++s.boxes)) k;rcases h2 with rfl|⟨k',eP,rfl,hk⟩
  ·rfl
  ·have Nr:k'≠d:=fun c=>by
    subst c;rcases hk with ⟨_,hk⟩|⟨y,hy,off,ho⟩
    ·exact cz hk
    ·exact Ju y hy off ho
   simp only [List.cons_append,List.nil_append,di];cases hb:Nat.beq k' k with
   |true=>
    have:Nat.beq d k=false:=by
     cases Gl:Nat.beq d k with
     |true=>exact absurd ((Nat.eq_of_beq_eq_true hb).trans (Nat.eq_of_beq_eq_true Gl).symm) Nr
     |false=>rfl
    rw [this]; rfl
   |false=>rfl
end
section
variable {E:Env} {s t:St} {f:FuncId} {o:Oper} {K K':St→Prop}
theorem Gs (hn:s.n=t.n) (hG:s.G=t.G) (hB:∀ k off,(∃ y∈o.op.operands,bw E s.ae y=.lp k off)→di s.boxes k=di t.boxes k) (eS:∀ y∈o.op.operands,bw E s.ae y=bw E t.ae y) (h:kS E f o K s)
  (hK:∀ pre preB G,iW E t o (t.fV pre preB G)→K (s.fV pre preB G)→K' (t.fV pre preB G)):kS E f o K' t:=by
 unfold kS at h ⊢;split at h
 ·rename_i x args tys ho;have h1:bw E s.ae x=bw E t.ae x:=eS x (by rw [ho]; simp [Op.operands,Call.operands]);have h2:nf E s.ae args.toList=nf E t.ae args.toList:=hJ fun y hy=>eS y (by rw [ho]; simp [Op.operands,Call.operands]; exact .inr (by simpa using hy))
  try simp only [ho]
  rw [← h1,← h2,← hG];split at h
  ·refine cR.mono h fun r G' hk=>?_
   obtain ⟨pre,preB,G,p1,p2,p3,p4⟩:=bM.dP (s:=s) (t:=t) (al:=bU o.op) hn G' o.dst (.v r);rw [p3] at hk;have hO:iW E t o ((t.bG G').put o.dst (.v r)):=kD rfl rfl _;rw [p4] at hO ⊢;exact hK pre preB G hO hk
  ·refine lK.mono h fun r G' hk=>?_
   obtain ⟨pre,preB,G,p1,p2,p3,p4⟩:=bM.dP (s:=s) (t:=t) (al:=bU o.op) hn G' o.dst (.v (.bool r));rw [p3] at hk;have hO:iW E t o ((t.bG G').put o.dst (.v (.bool r))):=kD rfl rfl _;rw [p4] at hO ⊢;exact hK pre preB G hO hk
  ·exact h.elim
 ·exact h.elim
 ·split at h
  ·rename_i c s' hs;obtain ⟨t',h1,pre,preB,G,p1,p2,p3,p4⟩:=tH hn hG hB eS hs;have hO:=Gq h1;rw [h1];obtain ⟨rfl,hk⟩:=h.out;refine dR.mk rfl ?_;rw [p3] at hk;rw [p4] at hO ⊢;exact hK pre preB G hO hk
  ·exact h.elim
theorem HN (ha:bU o.op=true):kS E f o K s↔∃ s',ak E f s o=some (true,s')∧K s':=by
 unfold kS;split
 ·rename_i h;rw [h] at ha;simp [bU] at ha
 ·rename_i h;rw [h] at ha;simp [bU] at ha
 ·split
  ·rename_i c s' hs;constructor
   ·intro h;obtain ⟨rfl,hk⟩:=h.out;exact ⟨s',hs,hk⟩
   ·rintro ⟨Cn,h1,h2⟩;rw [hs] at h1;cases h1;exact dR.mk rfl h2
  ·rename_i hs;constructor
   ·exact fun h=>h.elim
   ·rintro ⟨Cn,h1,_⟩;rw [hs] at h1;cases h1
end
end Go.Am
