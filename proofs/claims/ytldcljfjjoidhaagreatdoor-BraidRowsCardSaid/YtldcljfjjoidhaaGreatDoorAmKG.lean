/- The abstract machine: a function's contract out of its body. -/
import Derived.Test.YtldcljfjjoidhaaGreatDoorAmKF
import Derived.OrdersIn
set_option linter.all false
namespace Go.Am
open Go
section intro
variable {E:Env} {R R':ai} {w w':World} {β β':Nat→Nat}
theorem wo {bx IG:cE} (h:Step R w β bx R' w' β' IG) (hn:∀ k cs,dm bx k≠some cs):Step R w (fun _=>0) fk R' w' (fun _=>0) fk:=by
 have own:∀ b,Own R β bx b→Live R b:=fun b ho=>by
  rcases ho with ho | ⟨k,cs,hk,_⟩
  ·exact ho
  ·exact absurd hk (hn k cs)
 exact ⟨h.ext,h.os,h.tape,h.output,h.size,fun b hb sV=>h.cq b hb (fun ho=>sV (.inl (own b ho))),fun b hb ho=>.inl (own b (h.own b hb (.inl (eV ho)))),fun b o hi hb sV=>h.im b o hi hb (fun ho=>sV (.inl (own b ho)))⟩
theorem Jk:∀ {l:List AV} {n i:Nat},(i < n∨n+l.length≤i→lk (Vq n l) i=.none)∧(∀ a,l[i - n]?=some a→n≤i→lk (Vq n l) i=.v a)
 | [],n,i=>⟨fun _=>rfl,fun a h=>by simp at h⟩
 | b :: l,n,i=>by
  obtain ⟨h1,h2⟩:=Jk (l:=l) (n:=n+1) (i:=i)
  refine ⟨fun h=>?_,fun a h hn=>?_⟩
  ·simp only [List.length_cons] at h
   simp only [Vq]
   rw [aR (by omega)]
   exact h1 (by omega)
  ·simp only [Vq]
   by_cases e:n=i
   ·subst e
    rw [aA]
    simp at h
    rw [h]
   ·rw [aR e]
    refine h2 a ?_ (by omega)
    have:i - n=(i - (n+1))+1:=by omega
    rw [this] at h
    simpa using h
theorem Jl {ntmps:Nat} {args:List AV} {cs:List Value} {G:List GO} (hg:dq E R w G) (hl:aM R w args cs) :
  bi E R w (fun _=>0) (St.init ntmps args G) { tmps:=⟨cs⟩++Array.replicate (ntmps - (⟨cs⟩:Array Value).size) undef,defers:=[] }:=by
 have hlen:=hl.length
 refine ⟨hg,⟨fun k c hk=>?_,fun k k' c c' hk _ _=>?_⟩,fun i hi=>?_,?_,trivial⟩
 ·simp [St.init,dm] at hk
 ·simp [St.init,dm] at hk
 ·simp only [St.init] at hi ⊢
  obtain ⟨h1,h2⟩:=Jk (l:=args) (n:=0) (i:=i)
  by_cases cg:i < args.length
  ·have hy:args[i]?=some args[i]:=List.getElem?_eq_getElem cg
   obtain ⟨c,k1,k2⟩:=hl.get hy
   rw [h2 _ (by rw [Nat.sub_zero]; exact hy) (Nat.zero_le _)]
   refine ⟨c,?_,k2⟩
   rw [Array.getElem?_append_left (by simp; omega)]
   simpa using k1
  ·exact absurd (h1 (by omega)) hi
 ·simp [St.init]
  omega
theorem Eu {ntmps:Nat} {args:List AV} {G:List GO} (k:Nat) (cs:List AV):dm (St.init ntmps args G).boxes k≠some cs:=by
 simp [St.init,dm]
theorem cu.intro {g : FuncId} {fn : Func} {c : Code} {args : List AV} {G : List GO} {Q : AV → List GO → Prop} (hf : E.P.funcs[g]? = some fn) (hb : fn.body = some c) (hn : (fn.name == "runtime.NumGoroutine") = false)
  (h:fS E c (Q0 E fn Q) (St.init fn.ntmps args G)):cu E g args G Q:=by
 refine ⟨⟨fn,hf,by simp [hb],hn⟩,fun R w cs hg hl=>?_⟩
 refine callsIn_of_wp_marks hf hb trivial (wpIn_mono (h R w (fun _=>0) _ Fence.wide (Jl hg hl) rfl) ?_)
 rintro e a' w' ⟨s',R',β',hq,hr,lf,bH⟩
 have fin:(match om s'.marks s'.G with
  | some G=>match Ji E (s'.bW G) fn with
   | some r=>Q r G
   | none=>False
  | none=>False)→LeavesInM Fence.wide 0 E.P fn a'.tmps (FR E R w Q) a'.defers .returning w':=by
  intro hq
  split at hq
  ·rename_i G2 WD
   split at hq
   ·rename_i r Ev
    refine Hm fn (FR E R w Q) (s:=s') (G:=s'.G) hr hr.d WD (fun QS AK tW=>?_)
    obtain ⟨v,h1,h2⟩:=Jj AK Ev
    exact ⟨v,h1,r,G2,R',hq,h2,AK.g,wo (lf.trans tW) Eu⟩
   ·exact hq.elim
  ·exact hq.elim
 cases e with
 | normal=>exact fin hq
 | ret=>exact fin hq
 | exit _=>exact hq.elim
 | goto _=>exact hq.elim
 | panic _=>exact hq.elim
 | outgrown=>exact hq.elim
end intro
end Go.Am
namespace Go.Am
open Go
def St.ft (s:St) (pre:bc) (preB:cE) (G:List GO):St:=⟨pre++s.af,preB++s.boxes,G,s.marks,s.ro,s.n⟩
def Vr (al:Bool) (dst:Option Tmp) (pre:bc):Prop:=
 pre=[]∨∃ d x,dst=some d∧(pre=[.put d x]∨(al=true∧pre=[.put d x,.kill d]))
def bG (al w:Bool) (dst:Option Tmp) (s t s' t':St):Prop:=
 ∃ pre preB G,Vr al dst pre∧(w=false→preB=[]∧G=s.G∧∃ x,s'=s.put dst x∧t'=t.put dst x)∧s'=s.ft pre preB G∧t'=t.ft pre preB G
section
variable {E:Env} {s t:St} {o:Oper}
theorem lx (s:St) (d:Tmp) (x:SV):s.put (some d) x=bif Nat.blt d s.n then s.ft [.put d x] [] s.G else s:=by
 cases h:Nat.blt d s.n <;> simp [St.put,h,St.ft]
theorem bG.put {al w:Bool} (hn:s.n=t.n) (hG:s.G=t.G) (dst:Option Tmp) (x:SV):bG al w dst s t (s.put dst x) (t.put dst x):=by
 cases dst with
 | none=>exact ⟨[],[],s.G,.inl rfl,fun _=>⟨rfl,rfl,x,rfl,rfl⟩,rfl,by rw [hG]; rfl⟩
 | some d=>
  have hx:∃ y,s.put (some d) x=s.put (some d) y∧t.put (some d) x=t.put (some d) y:=⟨x,rfl,rfl⟩
  revert hx
  generalize hs:s.put (some d) x=s'
  generalize ht:t.put (some d) x=t'
  intro hx
  rw [lx] at hs ht
  rw [← hn] at ht
  revert hs ht
  cases Nat.blt d s.n with
  | true=>exact fun hs ht=>⟨[.put d x],[],s.G,.inr ⟨d,x,rfl,.inl rfl⟩,fun _=>⟨rfl,rfl,hx⟩,hs.symm,by rw [hG]; exact ht.symm⟩
  | false=>exact fun hs ht=>⟨[],[],s.G,.inl rfl,fun _=>⟨rfl,rfl,hx⟩,hs.symm,by rw [hG]; exact ht.symm⟩
theorem bG.du {al:Bool} (hn:s.n=t.n) (G:List GO) (dst:Option Tmp) (x:SV):bG al true dst s t ((s.bW G).put dst x) ((t.bW G).put dst x):=by
 cases dst with
 | none=>exact ⟨[],[],G,.inl rfl,fun h=>(by cases h),rfl,rfl⟩
 | some d=>
  rw [lx,lx,show (t.bW G).n=(s.bW G).n from hn.symm]
  cases Nat.blt d (s.bW G).n with
  | true=>exact ⟨[.put d x],[],G,.inr ⟨d,x,rfl,.inl rfl⟩,fun h=>(by cases h),rfl,rfl⟩
  | false=>exact ⟨[],[],G,.inl rfl,fun h=>(by cases h),rfl,rfl⟩
theorem bG.bW {al:Bool} (G:List GO) (dst:Option Tmp):bG al true dst s t (s.bW G) (t.bW G):=⟨[],[],G,.inl rfl,fun h=>(by cases h),rfl,rfl⟩
theorem bG.uz {al:Bool} (hG:s.G=t.G) (dst:Option Tmp) (d:Nat) (cs:List AV):bG al true dst s t (s.uz d cs) (t.uz d cs):=
 ⟨[],[(d,cs)],s.G,.inl rfl,fun h=>(by cases h),rfl,(by rw [hG]; rfl)⟩
theorem gr {a b:bc}:∀ {l:List Operand},(∀ y∈l,bw E a y=bw E b y)→lS E a l=lS E b l
 | [],_=>rfl
 | x :: l,h=>by
  simp only [lS]
  rw [h x (by simp),gr (l:=l) (fun y hy=>h y (by simp [hy]))]
theorem mj {a b:bc}:∀ {l:List (Nat × Operand)},(∀ p∈l,bw E a p.2=bw E b p.2)→MB E a l=MB E b l
 | [],_=>rfl
 | (i,x) :: l,h=>by
  simp only [MB]
  rw [h (i,x) (by simp),mj (l:=l) (fun y hy=>h y (by simp [hy]))]
theorem yL (hG:s.G=t.G) (p:SV) (hB:∀ k off,p=.lp k off→dm s.boxes k=dm t.boxes k):mG s p=mG t p:=by
 unfold mG
 rw [hG]
 cases p with
 | lp k off=>simp only [hB k off rfl]
 | v a=>cases a <;> rfl
 | _=>rfl
theorem Cj (hG:s.G=t.G) (ty:TypeId) (p:SV) (hB:∀ k off,p=.lp k off→dm s.boxes k=dm t.boxes k):qT E s ty p=qT E t ty p:=by
 unfold qT
 rw [yL hG p hB]
theorem tX (hG:s.G=t.G) (id f i sz:Nat) (ty:TypeId):vz E s id f i sz ty=vz E t id f i sz ty:=by
 unfold vz
 rw [hG]
theorem Ck (hG:s.G=t.G) (ty:TypeId) (p:SV) (hB:∀ k off,p=.lp k off→dm s.boxes k=dm t.boxes k):ze E s ty p=ze E t ty p:=by
 unfold ze
 split
 ·rw [tX hG]
 ·rw [Cj hG _ _ hB]
theorem Cl (hG:s.G=t.G) (esz:Nat) (d x:AV):qV s esz d x=qV t esz d x:=by
 unfold qV
 rw [hG]
theorem tY {f:FuncId} {dst:Option Tmp} {el:TypeId} {cs:List AV} {c:Bool} {s':St} (hn:s.n=t.n) (hG:s.G=t.G) (h:fc E f s dst el cs=some (c,s')) :
  ∃ t',fc E f t dst el cs=some (c,t')∧bG true true dst s t s' t':=by
 unfold fc at *
 cases dst with
 | none=>cases h
 | some d=>
  simp only at *
  split at h
  ·rename_i hg
   injection h with h
   injection h with h1 h2
   subst h1 h2
   rw [if_pos hg]
   refine ⟨_,rfl,?_⟩
   have:=bG.du (al:=true) hn (s.G++[.row cs el]) (some d) (.v (.ptr s.G.length 0))
   rw [hG] at this
   have e:s.dO (.row cs el)=s.bW (t.G++[.row cs el]):=by rw [← hG]; rfl
   rw [e,hG]
   exact this
  ·rename_i hg
   rw [if_neg hg,← hn]
   split at h
   ·rename_i hb
    injection h with h
    injection h with h1 h2
    subst h1 h2
    refine ⟨_,rfl,[.put d (.lp d 0),.kill d],[(d,cs)],s.G,.inr ⟨d,_,rfl,.inr ⟨rfl,rfl⟩⟩,fun h=>(by cases h),?_,?_⟩
    ·simp [St.put,St.uz,St.kill,hb,St.ft]
    ·simp only [St.put,St.uz,St.kill,← hn,hb,St.ft,hG]
     rfl
   ·cases h
theorem Cm {ty:TypeId} {p x:SV} {s':St} {al:Bool} {dst:Option Tmp} (hG:s.G=t.G) (hB:∀ k off,p=.lp k off→dm s.boxes k=dm t.boxes k) (h:jB E s ty p x=some s') :
  ∃ t',jB E t ty p x=some t'∧bG al true dst s t s' t':=by
 unfold jB at *
 split at h
 ·split at h
  ·rename_i hc
   rw [if_pos hc]
   split at h
   ·rw [← hB _ _ rfl]
    split at h
    ·split at h
     ·rename_i Nd
      cases h
      simp only [Nd,if_true]
      exact ⟨_,rfl,.uz hG _ _ _⟩
     ·cases h
    ·cases h
   ·rw [← hG]
    split at h
    ·split at h
     ·rename_i Nd
      cases h
      simp only [Nd,if_true]
      exact ⟨_,rfl,.bW _ _⟩
     ·cases h
    ·cases h
   ·cases h
  ·cases h
 ·cases h
theorem Cn {ty:TypeId} {p x:SV} {c:Bool} {s':St} {al:Bool} {dst:Option Tmp} (hG:s.G=t.G) (hB:∀ k off,p=.lp k off→dm s.boxes k=dm t.boxes k) (h:jC E s ty p x=some (c,s')) :
  ∃ t',jC E t ty p x=some (c,t')∧bG al true dst s t s' t':=by
 unfold jC at *
 split at h
 ·rw [← hG]
  split at h
  ·split at h
   ·rename_i h1 h2 hc
    simp only [hc,if_true]
    split at h
    ·rename_i Nd
     injection h with h; injection h with e1 e2
     subst e1; subst e2
     simp only [Nd,if_true]
     exact ⟨_,rfl,.bW _ _⟩
    ·rename_i Nd
     rw [if_neg Nd,← tX hG]
     split at h
     ·rename_i hg
      split at h
      ·rename_i hc3
       injection h with h; injection h with e1 e2
       subst e1; subst e2
       simp only [hc3,if_true]
       exact ⟨_,rfl,.bW _ _⟩
      ·cases h
     ·cases h
   ·cases h
  ·cases h
 ·split at h
  ·rename_i s1 hs
   injection h with h; injection h with e1 e2
   subst e1; subst e2
   obtain ⟨t',h3,h4⟩:=Cm (al:=al) (dst:=dst) hG hB hs
   simp only [h3]
   exact ⟨_,rfl,h4⟩
  ·cases h
def bM:Op→Bool
 | .alloc _=>true
 | .box _ _=>true
 | _=>false
def sC:Op→Bool
 | .move _ | .assign _ | .pick _ _ _ | .build _ _ | .buildSlice _ _ _ | .load _ _ | .binOp _ _ _ _ _ | .unOp _ _ _ | .convert _ _ _ | .makeFunc _ _ _ | .fieldAddr _ _ _ | .field _ _ _
 | .indexAddr _ _ _ | .index _ _ _ | .slice _ _ _ _ _ | .extract _ _ | .lookup _ _ _ _ | .nilCheck _=>true
 | .call { callee:=.builtin .len,.. }=>true
 | .call { callee:=.builtin .max,.. }=>true
 | .call { callee:=.builtin .min,.. }=>true
 | _=>false
def SE:Op→Bool
 | .load _ _=>true
 | .lookup _ _ _ _=>true
 | .call _=>true
 | .convert _ _ _=>true
 | _=>false
def Nf:Builtin→Bool
 | .append | .copy | .clear=>true
 | _=>false
theorem yM {dst:Option Tmp} {b:Builtin} {l:List AV} {tys:List TypeId} {c:Bool} {s':St} {al:Bool} (hn:s.n=t.n) (hG:s.G=t.G) (h:bI E s dst b l tys=some (c,s')) :
  ∃ t',bI E t dst b l tys=some (c,t')∧bG al (Nf b) dst s t s' t':=by
 obtain ⟨sl,bx,G,m,ro,n⟩:=s
 obtain ⟨Vs,IG,G',m',lT,n'⟩:=t
 have hc:=fun esz d x=>Cl (s:=⟨sl,bx,G,m,ro,n⟩) (t:=⟨Vs,IG,G',m',lT,n'⟩) hG esz d x
 simp only at hn hG
 subst hn hG
 unfold bI at h ⊢
 simp only [← hc]
 cases b
 all_goals (try (cases h; done))
 all_goals (try simp only at h ⊢)
 all_goals (try (split at h <;> first | (cases h; done) | simp only at h ⊢))
 all_goals (repeat' (split at h))
 all_goals (first | (cases h; done) | skip)
 all_goals (injection h with h; injection h with h1 h2; subst h1 h2)
 all_goals (try simp only [if_true, *])
 all_goals (first | exact ⟨_,rfl,.put (by rfl) (by rfl) _ _⟩ | exact ⟨_,rfl,.du (by rfl) _ _ _⟩ | exact ⟨_,rfl,.bW _ _⟩)
theorem wq (hG:s.G=t.G) (a b:TypeId) (x:SV):lY E s a b x=lY E t a b x:=by
 unfold lY
 rw [hG]
theorem yN (hG:s.G=t.G) (ty:TypeId) (m k:SV):ln E s ty m k=ln E t ty m k:=by
 have:mapOf s=mapOf t:=by funext m; unfold mapOf; rw [hG]
 unfold ln jg
 rw [this,hG]
theorem rK {ty:TypeId} {m k x:SV} {s':St} {al:Bool} {dst:Option Tmp} (hG:s.G=t.G) (h:fe E s ty m k x=some s') :
  ∃ t',fe E t ty m k x=some t'∧bG al true dst s t s' t':=by
 unfold fe at *
 rw [← hG]
 repeat' (split at h)
 all_goals (first | (cases h; done) | skip)
 cases h
 simp only [*]
 exact ⟨_,rfl,.bW _ _⟩
theorem Ew {dst:Option Tmp} {x:SV} {s':St} {al:Bool} (hn:s.n=t.n) (hG:s.G=t.G) (h:lq s dst x=some s') :
  ∃ t',lq t dst x=some t'∧bG al true dst s t s' t':=by
 unfold lq at *
 rw [← hG]
 split at h
 ·split at h
  ·rename_i l pos hg
   cases hb:Nat.blt pos l.length with
   | true=>
    rw [hb] at h
    simp only [cond_true] at h ⊢
    cases h
    exact ⟨_,rfl,.du hn _ _ _⟩
   | false=>
    rw [hb] at h
    simp only [cond_false] at h ⊢
    cases h
    obtain ⟨pre,preB,G,p1,p2,p3⟩:=bG.put (al:=al) (w:=true) hn hG dst (.v (.bh [.bool false]))
    exact ⟨_,rfl,pre,preB,G,p1,p2,p3⟩
  ·cases h
 ·cases h
theorem mY {f:FuncId} {r:Bool × St} (h:gE E f s o=some r):∃ args tys,o.op=.call { callee:=.builtin .append,args:=args,argTypes:=tys }:=by
 unfold gE at h
 split at h
 ·split at h
  ·split at h
   ·rename_i args tys ho
    exact ⟨args,tys,ho⟩
   ·cases h
  ·cases h
 ·cases h
theorem wu {f:FuncId} {c:Bool} {s':St} {al:Bool} (hn:s.n=t.n) (hG:s.G=t.G) (eD:∀ y∈o.op.operands,bw E s.af y=bw E t.af y)
  (h:gE E f s o=some (c,s')):∃ t',gE E f t o=some (c,t')∧bG al true o.dst s t s' t':=by
 obtain ⟨args,tys,ho⟩:=mY h
 have h1:lS E s.af args.toList=lS E t.af args.toList:=gr fun y hy=>eD y (by rw [ho]; simp [Op.operands,Call.operands]; simpa using hy)
 unfold gE at h ⊢
 rw [ho] at h ⊢
 simp only [h1,hG] at h ⊢
 repeat' (split at h)
 all_goals (first | (cases h; done) | skip)
 injection h with h; injection h with h2 h3
 subst h2 h3
 simp only [*,if_true]
 refine ⟨_,rfl,?_⟩
 exact bG.du hn _ _ _
theorem uJ {f:FuncId} (hn:s.n=t.n) (hG:s.G=t.G) (eD:∀ y∈o.op.operands,bw E s.af y=bw E t.af y) (h:gE E f s o=none):gE E f t o=none:=by
 cases ht:gE E f t o with
 | none=>rfl
 | some r=>
  obtain ⟨t',h1,_⟩:=wu (s:=t) (t:=s) (al:=false) hn.symm hG.symm (fun y hy=>(eD y hy).symm) (c:=r.1) (s':=r.2) ht
  rw [h] at h1
  cases h1
theorem rL {f:FuncId} {c:Bool} {s':St} (hn:s.n=t.n) (hG:s.G=t.G) (hB:∀ k off,(∃ y∈o.op.operands,bw E s.af y=.lp k off)→dm s.boxes k=dm t.boxes k) (eD:∀ y∈o.op.operands,bw E s.af y=bw E t.af y)
  (h:ao E f s o=some (c,s')):∃ t',ao E f t o=some (c,t')∧bG (bM o.op) (!sC o.op) o.dst s t s' t':=by
 obtain ⟨dst,op,ty,pos,after,guard⟩:=o
 cases op
 case move x=>
  simp only [ao,eD x (by simp [Op.operands])] at h ⊢
  split at h
  all_goals (injection h with h; injection h with h1 h2; subst h1 h2; (try simp only [*]); exact ⟨_,rfl,.put hn hG _ _⟩)
 case assign x=>
  simp only [ao,eD x (by simp [Op.operands])] at h ⊢
  split at h
  all_goals (injection h with h; injection h with h1 h2; subst h1 h2; (try simp only [*]); exact ⟨_,rfl,.put hn hG _ _⟩)
 case pick x y z=>
  simp only [ao,eD x (by simp [Op.operands]),eD y (by simp [Op.operands]),eD z (by simp [Op.operands])] at h ⊢
  split at h
  ·injection h with h; injection h with h1 h2; subst h1 h2; (try simp only [*]); exact ⟨_,rfl,.put hn hG _ _⟩
  ·cases h
 case alloc e=>
  simp only [ao] at h ⊢
  repeat' (split at h)
  all_goals (first | (cases h; done) | skip)
  simp only [*]
  exact tY hn hG h
 case box e x=>
  simp only [ao,eD x (by simp [Op.operands])] at h ⊢
  repeat' (split at h)
  all_goals (first | (cases h; done) | skip)
  simp only [*]
  exact tY hn hG h
 case build ty ps=>
  have he:mH E s ty ps.toList=mH E t ty ps.toList:=by
   unfold mH
   rw [mj (fun p hp=>eD p.2 (by simp only [Op.operands,List.mem_toArray,List.mem_map]; exact ⟨p,hp,rfl⟩))]
  simp only [ao,he] at h ⊢
  split at h
  ·injection h with h; injection h with h1 h2; subst h1 h2; (try simp only [*]); exact ⟨_,rfl,.put hn hG _ _⟩
  ·cases h
 case buildSlice ty len ps=>
  have he:bX E s ty len ps.toList=bX E t ty len ps.toList:=by
   unfold bX
   rw [mj (fun p hp=>eD p.2 (by simp only [Op.operands,List.mem_toArray,List.mem_map]; exact ⟨p,hp,rfl⟩))]
  simp only [ao,he] at h ⊢
  split at h
  ·injection h with h; injection h with h1 h2; subst h1 h2; (try simp only [*]); exact ⟨_,rfl,.put hn hG _ _⟩
  ·cases h
 case load ty x=>
  simp only [ao,eD x (by simp [Op.operands])] at h ⊢
  rw [Ck hG ty _ (fun k off e=>hB k off ⟨x,by simp [Op.operands],by rw [eD x (by simp [Op.operands])]; exact e⟩)] at h
  split at h
  ·injection h with h; injection h with h1 h2; subst h1 h2; (try simp only [*]); exact ⟨_,rfl,.put hn hG _ _⟩
  ·cases h
 case store ty x y=>
  simp only [ao,eD x (by simp [Op.operands]),eD y (by simp [Op.operands])] at h ⊢
  split at h
  ·rename_i s1 hs
   injection h with h; injection h with h1 h2; subst h1 h2
   obtain ⟨t',h3,h4⟩:=Cn (al:=false) (dst:=none) hG (fun k off e=>hB k off ⟨x,by simp [Op.operands],by rw [eD x (by simp [Op.operands])]; exact e⟩) hs
   rw [h3]
   exact ⟨_,rfl,h4⟩
  ·cases h
 case binOp op a x y b=>
  simp only [ao,eD x (by simp [Op.operands]),eD y (by simp [Op.operands])] at h ⊢
  repeat' (split at h)
  all_goals (first | (cases h; done) | skip)
  all_goals (injection h with h; injection h with h1 h2; subst h1 h2; (try simp only [*]); exact ⟨_,rfl,.put hn hG _ _⟩)
 case unOp op a x=>
  simp only [ao,eD x (by simp [Op.operands])] at h ⊢
  repeat' (split at h)
  all_goals (first | (cases h; done) | skip)
  all_goals (injection h with h; injection h with h1 h2; subst h1 h2; (try simp only [*]); exact ⟨_,rfl,.put hn hG _ _⟩)
 case nilCheck x=>
  simp only [ao,eD x (by simp [Op.operands])] at h ⊢
  repeat' (split at h)
  all_goals (first | (cases h; done) | skip)
  all_goals (injection h with h; injection h with h1 h2; subst h1 h2; (try simp only [*]); exact ⟨_,rfl,.put hn hG _ _⟩)
 case convert a b x=>
  simp only [ao,eD x (by simp [Op.operands]),wq hG] at h ⊢
  repeat' (split at h)
  all_goals (first | (cases h; done) | skip)
  all_goals (injection h with h; injection h with h1 h2; subst h1 h2; (try simp only [*]); exact ⟨_,rfl,.put hn hG _ _⟩)
 case makeFunc fo a b=>
  cases fo with
  | func g=>
   have h1:lS E s.af a.toList=lS E t.af a.toList:=gr fun y hy=>eD y (by simp only [Op.operands,Array.mem_append]; exact .inl (by simpa using hy))
   have h2:lS E s.af b.toList=lS E t.af b.toList:=gr fun y hy=>eD y (by simp only [Op.operands,Array.mem_append]; exact .inr (by simpa using hy))
   simp only [ao,h1,h2] at h ⊢
   repeat' (split at h)
   all_goals (first | (cases h; done) | skip)
   all_goals (injection h with h; injection h with h1 h2; subst h1 h2; (try simp only [*]); exact ⟨_,rfl,.put hn hG _ _⟩)
  | _=>simp [ao] at h
 case fieldAddr a x j=>
  simp only [ao,eD x (by simp [Op.operands])] at h ⊢
  repeat' (split at h)
  all_goals (first | (cases h; done) | skip)
  all_goals (injection h with h; injection h with h1 h2; subst h1 h2; (try simp only [*]); exact ⟨_,rfl,.put hn hG _ _⟩)
 case field a x j=>
  simp only [ao,eD x (by simp [Op.operands])] at h ⊢
  repeat' (split at h)
  all_goals (first | (cases h; done) | skip)
  all_goals (injection h with h; injection h with h1 h2; subst h1 h2; (try simp only [*]); exact ⟨_,rfl,.put hn hG _ _⟩)
 case indexAddr a x y=>
  simp only [ao,eD x (by simp [Op.operands]),eD y (by simp [Op.operands])] at h ⊢
  repeat' (split at h)
  all_goals (first | (cases h; done) | skip)
  all_goals (injection h with h; injection h with h1 h2; subst h1 h2; (try simp only [*]); exact ⟨_,rfl,.put hn hG _ _⟩)
 case index a x y=>
  simp only [ao,eD x (by simp [Op.operands]),eD y (by simp [Op.operands])] at h ⊢
  repeat' (split at h)
  all_goals (first | (cases h; done) | skip)
  all_goals (injection h with h; injection h with h1 h2; subst h1 h2; (try simp only [*]); exact ⟨_,rfl,.put hn hG _ _⟩)
 case slice a x lo hi mx=>
  have h1:mI E s.af lo=mI E t.af lo:=by
   cases lo with
   | none=>rfl
   | some y=>simp only [mI]; rw [eD y (by simp [Op.operands])]
  have h2:mI E s.af hi=mI E t.af hi:=by
   cases hi with
   | none=>rfl
   | some y=>simp only [mI]; rw [eD y (by simp [Op.operands])]
  simp only [ao,eD x (by simp [Op.operands]),h1,h2] at h ⊢
  repeat' (split at h)
  all_goals (first | (cases h; done) | skip)
  all_goals (injection h with h; injection h with h1 h2; subst h1 h2; (try simp only [*]); exact ⟨_,rfl,.put hn hG _ _⟩)
 case extract x i=>
  simp only [ao,eD x (by simp [Op.operands])] at h ⊢
  repeat' (split at h)
  all_goals (first | (cases h; done) | skip)
  all_goals (injection h with h; injection h with h1 h2; subst h1 h2; (try simp only [*]); exact ⟨_,rfl,.put hn hG _ _⟩)
 case makeSlice ty x y=>
  simp only [ao,eD x (by simp [Op.operands]),eD y (by simp [Op.operands])] at h ⊢
  repeat' (split at h)
  all_goals (first | (cases h; done) | skip)
  all_goals (injection h with h; injection h with h1 h2; subst h1 h2)
  all_goals (simp only [*])
  all_goals (refine ⟨_,rfl,?_⟩)
  all_goals (have e:∀ o,t.dO o=t.bW (s.G++[o]):=fun o=>by rw [hG]; rfl)
  all_goals (rw [e,← hG])
  all_goals (exact bG.du (al:=false) hn _ dst _)
 case lookup ty x y ok=>
  simp only [ao,eD x (by simp [Op.operands]),eD y (by simp [Op.operands]),yN hG] at h ⊢
  split at h
  ·injection h with h; injection h with h1 h2; subst h1 h2; (try simp only [*]); exact ⟨_,rfl,.put hn hG _ _⟩
  ·cases h
 case mapUpdate ty x y z=>
  simp only [ao,eD x (by simp [Op.operands]),eD y (by simp [Op.operands]),eD z (by simp [Op.operands])] at h ⊢
  split at h
  ·rename_i s1 hs
   injection h with h; injection h with h1 h2; subst h1 h2
   obtain ⟨t',h3,h4⟩:=rK (al:=false) (dst:=none) hG hs
   rw [h3]
   exact ⟨_,rfl,h4⟩
  ·cases h
 case insert ty x y z=>
  simp only [ao,eD x (by simp [Op.operands]),eD y (by simp [Op.operands]),eD z (by simp [Op.operands])] at h ⊢
  split at h
  ·rename_i s1 hs
   injection h with h; injection h with h1 h2; subst h1 h2
   obtain ⟨t',h3,h4⟩:=rK (al:=false) (dst:=none) hG hs
   rw [h3]
   exact ⟨_,rfl,h4⟩
  ·cases h
 case entry x=>
  simp only [ao,eD x (by simp [Op.operands])] at h ⊢
  have e:sJ E s (bw E t.af x)=sJ E t (bw E t.af x):=by unfold sJ; rw [hG]
  rw [e] at h
  split at h
  ·injection h with h; injection h with h1 h2; subst h1 h2; (try simp only [*]); exact ⟨_,rfl,.put hn hG _ _⟩
  ·cases h
 case mapEntry ty x y=>
  simp only [ao,eD x (by simp [Op.operands]),eD y (by simp [Op.operands])] at h ⊢
  unfold gj at h ⊢
  rw [← hG]
  repeat' (split at h)
  all_goals (first | (cases h; done) | skip)
  rename_i ke
  repeat' (split at ke)
  all_goals (first | (cases ke; done) | skip)
  injection ke with ke; injection ke with h3 ke; injection ke with h4 h5
  injection h with h; injection h with h1 h2; subst h1 h2 h3 h4 h5
  simp only [*,if_true]
  exact ⟨_,rfl,bG.du (al:=false) hn _ dst _⟩
 case entryStore ty x y z=>
  simp only [ao,eD x (by simp [Op.operands]),eD y (by simp [Op.operands]),eD z (by simp [Op.operands])] at h ⊢
  unfold eB at h ⊢
  rw [← hG]
  repeat' (split at h)
  all_goals (first | (cases h; done) | skip)
  rename_i ke
  repeat' (split at ke)
  all_goals (first | (cases ke; done) | skip)
  injection ke with ke; injection ke with h3 h5
  injection h with h; injection h with h1 h2; subst h1 h2 h3 h5
  simp only [*]
  exact ⟨_,rfl,.bW _ _⟩
 case range ty x=>
  simp only [ao,eD x (by simp [Op.operands])] at h ⊢
  repeat' (split at h)
  all_goals (first | (cases h; done) | skip)
  ·injection h with h; injection h with h1 h2; subst h1 h2
   (try simp only [*])
   refine ⟨_,rfl,?_⟩
   have e:∀ o,t.dO o=t.bW (s.G++[o]):=fun o=>by rw [hG]; rfl
   rw [e,← hG]
   exact bG.du (al:=false) hn _ dst _
  ·rename_i hk hg
   injection h with h; injection h with h1 h2; subst h1 h2
   have qd:=hg
   rw [hG] at qd
   simp only [hk,qd]
   refine ⟨_,rfl,?_⟩
   have e:∀ o,t.dO o=t.bW (s.G++[o]):=fun o=>by rw [hG]; rfl
   rw [e,← hG]
   exact bG.du (al:=false) hn _ dst _
 case next x b=>
  cases b with
  | false=>simp [ao] at h
  | true=>
   simp only [ao,eD x (by simp [Op.operands])] at h ⊢
   split at h
   ·rename_i s1 hs
    injection h with h; injection h with h1 h2; subst h1 h2
    obtain ⟨t',h3,h4⟩:=Ew (al:=false) hn hG hs
    rw [h3]
    exact ⟨_,rfl,h4⟩
   ·cases h
 case makeMap ty r=>
  cases r with
  | none=>
   simp only [ao] at h ⊢
   injection h with h; injection h with h1 h2; subst h1 h2
   refine ⟨_,rfl,?_⟩
   have:=bG.du (al:=false) hn (s.G++[.map []]) dst (.v (.map s.G.length))
   have e:∀ o,t.dO o=t.bW (s.G++[o]):=fun o=>by rw [hG]; rfl
   rw [e,← hG]
   exact this
  | some _=>simp [ao] at h
 case call cl=>
  obtain ⟨callee,args,tys⟩:=cl
  cases callee with
  | builtin b=>
   have h1:lS E s.af args.toList=lS E t.af args.toList:=gr fun y hy=>eD y (by simp [Op.operands,Call.operands]; simpa using hy)
   cases hf:gE E f s { dst:=dst,op:=.call { callee:=.builtin b,args:=args,argTypes:=tys },type:=ty,pos:=pos,after:=after,guard:=guard } with
   | some r=>
    simp only [ao,hf] at h
    obtain ⟨t',q1,q2⟩:=wu (al:=bM (.call { callee:=.builtin b,args:=args,argTypes:=tys })) hn hG eD (c:=r.1) (s':=r.2) hf
    cases h
    obtain ⟨a2,t2,ho⟩:=mY hf
    cases ho
    refine ⟨t',by simp only [ao,q1],?_⟩
    exact q2
   | none=>
   have Ws:=uJ hn hG eD hf
   simp only [ao,hf,Ws,h1] at h ⊢
   split at h
   ·(try simp only [*])
    obtain ⟨t',h3,h4⟩:=yM (al:=false) hn hG h
    refine ⟨t',h3,?_⟩
    have:(!sC (.call { callee:=.builtin b,args:=args,argTypes:=tys }))=Nf b∨Nf b=false:=by cases b <;> simp [sC,Nf]
    rcases this with this | this
    ·rw [this]; exact h4
    ·obtain ⟨pre,preB,G,p1,p2,p3⟩:=h4
     exact ⟨pre,preB,G,p1,fun _=>p2 this,p3⟩
   ·cases h
  | _=>simp [ao] at h
 all_goals (simp [ao] at h)
theorem ic {f:FuncId} {c:Bool} {s':St} (hn:s.n=t.n) (hG:s.G=t.G) (hB:dm s.boxes=dm t.boxes) (eD:∀ y∈o.op.operands,bw E s.af y=bw E t.af y)
  (h:ao E f s o=some (c,s')):∃ t',ao E f t o=some (c,t')∧bG (bM o.op) (!sC o.op) o.dst s t s' t':=
 rL hn hG (fun k _ _=>by rw [hB]) eD h
end
end Go.Am
namespace Go.Am
open Go
structure oY (s t:St):Prop where
 l:lk s.af=lk t.af
 b:dm s.boxes=dm t.boxes
 G:s.G=t.G
 m:s.marks=t.marks
 ro:s.ro=t.ro
 n:s.n=t.n
theorem oY.refl (s:St):oY s s:=⟨rfl,rfl,rfl,rfl,rfl,rfl⟩
theorem oY.symm {s t:St} (h:oY s t):oY t s:=⟨h.l.symm,h.b.symm,h.G.symm,h.m.symm,h.ro.symm,h.n.symm⟩
theorem oY.trans {s t u:St} (h:oY s t) (k:oY t u):oY s u:=⟨h.l.trans k.l,h.b.trans k.b,h.G.trans k.G,h.m.trans k.m,h.ro.trans k.ro,h.n.trans k.n⟩
theorem ml {a b:bc} {e:Nat} (h:lk a e=lk b e):∀ pre:bc,lk (pre++a) e=lk (pre++b) e
 | []=>h
 | .put d x :: pre=>by
  simp only [List.cons_append,lk]
  rw [ml h pre]
 | .kill d :: pre=>by
  simp only [List.cons_append,lk]
  rw [ml h pre]
theorem wv {a b:cE} {e:Nat} (h:dm a e=dm b e):∀ pre:cE,dm (pre++a) e=dm (pre++b) e
 | []=>h
 | (d,x) :: pre=>by
  simp only [List.cons_append,dm]
  rw [wv h pre]
theorem oY.ft {s t:St} (h:oY s t) (pre:bc) (preB:cE) (G:List GO):oY (s.ft pre preB G) (t.ft pre preB G):=
 ⟨funext fun e=>ml (by rw [h.l]) pre,funext fun e=>wv (by rw [h.b]) preB,rfl,h.m,h.ro,h.n⟩
theorem Jm {E:Env} {a b:bc} {x:Operand} (h:∀ t,x=.tmp t→lk a t=lk b t):bw E a x=bw E b x:=by
 cases x with
 | tmp t=>exact h t rfl
 | _=>rfl
theorem oY.bw {E:Env} {s t:St} (h:oY s t) (x:Operand):bw E s.af x=bw E t.af x:=Jm fun e _=>by rw [h.l]
section BF
variable {E:Env} {R:ai} {w:World} {β:Nat→Nat} {s t:St} {a:Act}
theorem bi.eqv (h:bi E R w β s a) (e:oY s t):bi E R w β t a where
 g:=by rw [← e.G]; exact h.g
 b:=⟨fun k cs hk=>h.b.box k cs (by rw [e.b]; exact hk),fun k k' c c' h1 h2=>h.b.inj k k' c c' (by rw [e.b]; exact h1) (by rw [e.b]; exact h2)⟩
 t:=fun i hi=>by
  rw [← e.l] at hi ⊢
  exact h.t i hi
 n:=by rw [← e.n]; exact h.n
 d:=by rw [← e.m]; exact h.d
theorem u6 {bx IG:cE} (h:dm bx=dm IG) {b:Nat} (k:Own R β bx b):Own R β IG b:=by
 rcases k with k | ⟨j,cs,h1,h2⟩
 ·exact .inl k
 ·exact .inr ⟨j,cs,by rw [← h]; exact h1,h2⟩
theorem Step.eqv {R':ai} {w':World} {β':Nat→Nat} {bx IG cx cx':cE} (h:Step R w β bx R' w' β' IG) (h1:dm bx=dm cx) (h2:dm IG=dm cx'):Step R w β cx R' w' β' cx':=
 ⟨h.ext,h.os,h.tape,h.output,h.size,fun b hb hn=>h.cq b hb (fun ho=>hn (u6 h1 ho)),fun b hb ho=>u6 h1 (h.own b hb (u6 h2.symm ho)),fun b o hi hb hn=>h.im b o hi hb (fun ho=>hn (u6 h1 ho))⟩
end BF
section ops
variable {E:Env} {s t:St} {f:FuncId} {o:Oper} {K K':St→Prop}
def Inv (K:St→Prop):Prop:=∀ s t,oY s t→K s→K t
theorem Co {op:Op} (h:sC op=true):bM op=false:=by
 cases op <;> simp_all [sC,bM]
theorem s6 (hn:s.n=t.n) (hG:s.G=t.G) (hB:dm s.boxes=dm t.boxes) (eD:∀ y∈o.op.operands,bw E s.af y=bw E t.af y) (h:jY E f o K s)
  (hK:∀ pre preB G,Vr (bM o.op) o.dst pre→(sC o.op=true→preB=[]∧G=s.G)→K (s.ft pre preB G)→K' (t.ft pre preB G)):jY E f o K' t:=by
 unfold jY at h ⊢
 split at h
 ·rename_i x args tys ho
  have h1:bw E s.af x=bw E t.af x:=eD x (by rw [ho]; simp [Op.operands,Call.operands])
  have h2:lS E s.af args.toList=lS E t.af args.toList:=gr fun y hy=>eD y (by rw [ho]; simp [Op.operands,Call.operands]; exact .inr (by simpa using hy))
  try simp only [ho]
  rw [← h1,← h2,← hG]
  split at h
  ·refine cu.mono h fun r G' hk=>?_
   obtain ⟨pre,preB,G,p1,p2,p3,p4⟩:=bG.du (s:=s) (t:=t) (al:=bM o.op) hn G' o.dst (.v r)
   rw [p3] at hk
   rw [p4]
   exact hK pre preB G p1 (fun e=>by rw [ho] at e; simp [sC] at e) hk
  ·refine kB.mono h fun r G' hk=>?_
   obtain ⟨pre,preB,G,p1,p2,p3,p4⟩:=bG.du (s:=s) (t:=t) (al:=bM o.op) hn G' o.dst (.v (.bool r))
   rw [p3] at hk
   rw [p4]
   exact hK pre preB G p1 (fun e=>by rw [ho] at e; simp [sC] at e) hk
  ·exact h.elim
 ·exact h.elim
 ·split at h
  ·rename_i c s' hs
   obtain ⟨t',h1,pre,preB,G,p1,p2,p3,p4⟩:=ic hn hG hB eD hs
   rw [h1]
   obtain ⟨rfl,hk⟩:=h.out
   refine dz.mk rfl ?_
   rw [p3] at hk
   rw [p4]
   exact hK pre preB G p1 (fun e=>⟨(p2 (by simp [e])).1,(p2 (by simp [e])).2.1⟩) hk
  ·exact h.elim
theorem s7 (h:jY E f o K s) (hK:∀ s,K s→K' s):jY E f o K' s:=
 s6 rfl rfl rfl (fun _ _=>rfl) h fun _ _ _ _ _ hk=>hK _ hk
theorem wx (h:jY E f o K s) (e:oY s t) (hK:Inv K):jY E f o K t:=
 s6 e.n e.G e.b (fun y _=>e.bw y) h fun _ _ _ _ _ hk=>hK _ _ (e.ft _ _ _) hk
def BG (ops:List Oper) (s:St) (o:Oper):Option Bool:=match o.guard with
 | none=>some true
 | some (j,want)=>match og ops j with
  | some d=>match lk s.af d with
   | .v (.bool b)=>some (b == want)
   | .v (.bh [])=>some false
   | _=>none
  | none=>none
theorem Cp (s:St) {d:Tmp} {x:SV} (h:lk s.af d=x):oY s (s.put (some d) x):=by
 simp only [St.put]
 split
 ·refine ⟨funext fun e=>?_,rfl,rfl,rfl,rfl,rfl⟩
  by_cases k:d=e
  ·subst k; rw [aA]; exact h
  ·rw [aR k]
 ·exact oY.refl s
theorem oY.put {s t:St} (h:oY s t) (d:Option Tmp) (x:SV):oY (s.put d x) (t.put d x):=by
 obtain ⟨pre,preB,G,_,_,p3,p4⟩:=bG.put (s:=s) (t:=t) (al:=false) (w:=false) h.n h.G d x
 rw [p3,p4]
 exact h.ft _ _ _
theorem fU {ops:List Oper} (hK:Inv K):b8 E f ops o K s↔(BG ops s o=some true∧jY E f o K s)∨(BG ops s o=some false∧K (s.put o.dst (.v fM))):=by
 unfold b8 BG
 cases hg:o.guard with
 | none=>simp
 | some p=>
  obtain ⟨j,want⟩:=p
  simp only
  cases hd:og ops j with
  | none=>simp
  | some d=>
   simp only
   cases hl:lk s.af d with
   | none=>simp
   | lp _ _=>simp
   | v a=>
    cases a with
    | bool b=>
     have e1:b=want→oY s (s.put (some d) (.v (.bool want))):=fun e=>Cp s (by rw [hl,e])
     have e2:b=(!want)→oY s (s.put (some d) (.v (.bool (!want)))):=fun e=>Cp s (by rw [hl,e])
     constructor
     ·intro ⟨h1,h2⟩
      by_cases e:b=want
      ·exact .inl ⟨by simp [e],wx (h1 e) (e1 e).symm hK⟩
      ·have e':b=(!want):=by cases b <;> cases want <;> simp_all
       exact .inr ⟨by simp [e],hK _ _ ((e2 e').symm.put _ _) (h2 e')⟩
     ·rintro (⟨h1,h2⟩ | ⟨h1,h2⟩)
      ·have e:b=want:=by simpa using h1
       exact ⟨fun e=>wx h2 (e1 e) hK,fun e'=>by subst e; cases b <;> cases e'⟩
      ·have e:¬ b=want:=by simpa using h1
       exact ⟨fun k=>absurd k e,fun e'=>hK _ _ ((e2 e').put _ _) h2⟩
    | bh vs=>cases vs <;> simp
    | _=>simp
theorem b9 {ops:List Oper} (h:b8 E f ops o K s) (hK:∀ s,K s→K' s):b8 E f ops o K' s:=by
 unfold b8 at h ⊢
 split at h
 ·exact s7 h hK
 ·split at h
  ·exact h.elim
  ·split at h
   ·exact ⟨fun e=>s7 (h.1 e) hK,fun e=>hK _ (h.2 e)⟩
   ·exact hK _ h
   ·exact h.elim
theorem AM {ops:List Oper} (e:oY s t):BG ops s o=BG ops t o:=by
 unfold BG
 rw [e.l]
theorem Cq {ops:List Oper} (hK:Inv K):Inv (b8 E f ops o K):=fun s t e h=>by
 rw [fU hK] at h ⊢
 rcases h with ⟨h1,h2⟩ | ⟨h1,h2⟩
 ·exact .inl ⟨by rw [← AM e]; exact h1,wx h2 e hK⟩
 ·exact .inr ⟨by rw [← AM e]; exact h1,hK _ _ (e.put _ _) h2⟩
end ops
end Go.Am
namespace Go.Am
open Go
def Jn (dst:Option Tmp) (s t s' t':St):Prop:=∃ x,s'=s.put dst x∧t'=t.put dst x
section
variable {E:Env} {s t:St} {o:Oper}
theorem Jn.put (_:s.n=t.n) (dst:Option Tmp) (x:SV):Jn dst s t (s.put dst x) (t.put dst x):=⟨x,rfl,rfl⟩
theorem Cr {f:FuncId} {c:Bool} {s':St} (hN:sC o.op=true) (hR:SE o.op=false) (hn:s.n=t.n) (eD:∀ y∈o.op.operands,bw E s.af y=bw E t.af y)
  (h:ao E f s o=some (c,s')):∃ t',ao E f t o=some (c,t')∧Jn o.dst s t s' t':=by
 obtain ⟨dst,op,ty,pos,after,guard⟩:=o
 cases op
 case move x=>
  simp only [ao,eD x (by simp [Op.operands])] at h ⊢
  split at h
  all_goals (injection h with h; injection h with h1 h2; subst h1 h2; (try simp only [*]); exact ⟨_,rfl,.put hn _ _⟩)
 case assign x=>
  simp only [ao,eD x (by simp [Op.operands])] at h ⊢
  split at h
  all_goals (injection h with h; injection h with h1 h2; subst h1 h2; (try simp only [*]); exact ⟨_,rfl,.put hn _ _⟩)
 case pick x y z=>
  simp only [ao,eD x (by simp [Op.operands]),eD y (by simp [Op.operands]),eD z (by simp [Op.operands])] at h ⊢
  split at h
  ·injection h with h; injection h with h1 h2; subst h1 h2; (try simp only [*]); exact ⟨_,rfl,.put hn _ _⟩
  ·cases h
 case build ty ps=>
  have he:mH E s ty ps.toList=mH E t ty ps.toList:=by
   unfold mH
   rw [mj (fun p hp=>eD p.2 (by simp only [Op.operands,List.mem_toArray,List.mem_map]; exact ⟨p,hp,rfl⟩))]
  simp only [ao,he] at h ⊢
  split at h
  ·injection h with h; injection h with h1 h2; subst h1 h2; (try simp only [*]); exact ⟨_,rfl,.put hn _ _⟩
  ·cases h
 case buildSlice ty len ps=>
  have he:bX E s ty len ps.toList=bX E t ty len ps.toList:=by
   unfold bX
   rw [mj (fun p hp=>eD p.2 (by simp only [Op.operands,List.mem_toArray,List.mem_map]; exact ⟨p,hp,rfl⟩))]
  simp only [ao,he] at h ⊢
  split at h
  ·injection h with h; injection h with h1 h2; subst h1 h2; (try simp only [*]); exact ⟨_,rfl,.put hn _ _⟩
  ·cases h
 case binOp op a x y b=>
  simp only [ao,eD x (by simp [Op.operands]),eD y (by simp [Op.operands])] at h ⊢
  repeat' (split at h)
  all_goals (first | (cases h; done) | skip)
  all_goals (injection h with h; injection h with h1 h2; subst h1 h2; (try simp only [*]); exact ⟨_,rfl,.put hn _ _⟩)
 case unOp op a x=>
  simp only [ao,eD x (by simp [Op.operands])] at h ⊢
  repeat' (split at h)
  all_goals (first | (cases h; done) | skip)
  all_goals (injection h with h; injection h with h1 h2; subst h1 h2; (try simp only [*]); exact ⟨_,rfl,.put hn _ _⟩)
 case convert a b x=>simp [SE] at hR
 case nilCheck x=>
  simp only [ao,eD x (by simp [Op.operands])] at h ⊢
  repeat' (split at h)
  all_goals (first | (cases h; done) | skip)
  all_goals (injection h with h; injection h with h1 h2; subst h1 h2; (try simp only [*]); exact ⟨_,rfl,.put hn _ _⟩)
 case makeFunc fo a b=>
  cases fo with
  | func g=>
   have h1:lS E s.af a.toList=lS E t.af a.toList:=gr fun y hy=>eD y (by simp only [Op.operands,Array.mem_append]; exact .inl (by simpa using hy))
   have h2:lS E s.af b.toList=lS E t.af b.toList:=gr fun y hy=>eD y (by simp only [Op.operands,Array.mem_append]; exact .inr (by simpa using hy))
   simp only [ao,h1,h2] at h ⊢
   repeat' (split at h)
   all_goals (first | (cases h; done) | skip)
   all_goals (injection h with h; injection h with h1 h2; subst h1 h2; (try simp only [*]); exact ⟨_,rfl,.put hn _ _⟩)
  | _=>simp [ao] at h
 case fieldAddr a x j=>
  simp only [ao,eD x (by simp [Op.operands])] at h ⊢
  repeat' (split at h)
  all_goals (first | (cases h; done) | skip)
  all_goals (injection h with h; injection h with h1 h2; subst h1 h2; (try simp only [*]); exact ⟨_,rfl,.put hn _ _⟩)
 case field a x j=>
  simp only [ao,eD x (by simp [Op.operands])] at h ⊢
  repeat' (split at h)
  all_goals (first | (cases h; done) | skip)
  all_goals (injection h with h; injection h with h1 h2; subst h1 h2; (try simp only [*]); exact ⟨_,rfl,.put hn _ _⟩)
 case indexAddr a x y=>
  simp only [ao,eD x (by simp [Op.operands]),eD y (by simp [Op.operands])] at h ⊢
  repeat' (split at h)
  all_goals (first | (cases h; done) | skip)
  all_goals (injection h with h; injection h with h1 h2; subst h1 h2; (try simp only [*]); exact ⟨_,rfl,.put hn _ _⟩)
 case index a x y=>
  simp only [ao,eD x (by simp [Op.operands]),eD y (by simp [Op.operands])] at h ⊢
  repeat' (split at h)
  all_goals (first | (cases h; done) | skip)
  all_goals (injection h with h; injection h with h1 h2; subst h1 h2; (try simp only [*]); exact ⟨_,rfl,.put hn _ _⟩)
 case slice a x lo hi mx=>
  have h1:mI E s.af lo=mI E t.af lo:=by
   cases lo with
   | none=>rfl
   | some y=>simp only [mI]; rw [eD y (by simp [Op.operands])]
  have h2:mI E s.af hi=mI E t.af hi:=by
   cases hi with
   | none=>rfl
   | some y=>simp only [mI]; rw [eD y (by simp [Op.operands])]
  simp only [ao,eD x (by simp [Op.operands]),h1,h2] at h ⊢
  repeat' (split at h)
  all_goals (first | (cases h; done) | skip)
  all_goals (injection h with h; injection h with h1 h2; subst h1 h2; (try simp only [*]); exact ⟨_,rfl,.put hn _ _⟩)
 case extract x i=>
  simp only [ao,eD x (by simp [Op.operands])] at h ⊢
  repeat' (split at h)
  all_goals (first | (cases h; done) | skip)
  all_goals (injection h with h; injection h with h1 h2; subst h1 h2; (try simp only [*]); exact ⟨_,rfl,.put hn _ _⟩)
 all_goals (first | (simp [sC] at hN; done) | (simp [SE] at hR; done))
end
end Go.Am
namespace Go.Am
open Go
section
variable {E:Env} {s t:St} {f:FuncId} {ops:Array Oper} {o oj oi:Oper} {d:Tmp} {x:SV} {K:St→Prop}
theorem Jo (ops:Array Oper) (j:Nat):og ops.toList j=(ops[j]?).bind (·.dst):=by
 unfold og
 rw [a8,Array.getElem?_toList]
 cases ops[j]? <;> rfl
theorem mZ {e:Tmp} (h:.tmp e∈o.op.operands):e∈o.looksAt ops:=
 List.mem_append_left _ (List.mem_filterMap.2 ⟨.tmp e,by simpa using h,rfl⟩)
theorem jH {j:Nat} {want:Bool} {e:Tmp} (h:o.guard=some (j,want)) (he:og ops.toList j=some e):e∈o.looksAt ops:=by
 rw [Jo] at he
 refine List.mem_append_right _ ?_
 rw [h]
 simp [he]
theorem kC (h:∀ e∈o.looksAt ops,lk s.af e=lk t.af e):∀ y∈o.op.operands,bw E s.af y=bw E t.af y:=fun _ hy=>
 Jm fun e he=>h e (mZ (he ▸ hy))
theorem kh (h:∀ e∈o.looksAt ops,lk s.af e=lk t.af e):BG ops.toList s o=BG ops.toList t o:=by
 unfold BG
 split
 ·rfl
 ·rename_i j want hg
  split
  ·rename_i e he
   rw [h e (jH hg he)]
  ·rfl
theorem va (s:St) (d:Tmp) (x:SV) {e:Nat} (h:d≠e):lk (s.put (some d) x).af e=lk s.af e:=by
 simp only [St.put]
 split
 ·exact aR h
 ·rfl
theorem fV (s:St) (d:Option Tmp) (x:SV):(s.put d x).boxes=s.boxes∧(s.put d x).G=s.G∧(s.put d x).n=s.n∧(s.put d x).marks=s.marks∧(s.put d x).ro=s.ro:=by
 cases d with
 | none=>exact ⟨rfl,rfl,rfl,rfl,rfl⟩
 | some d=>
  simp only [St.put]
  split <;> exact ⟨rfl,rfl,rfl,rfl,rfl⟩
def wy (E:Env) (f:FuncId) (ops:Array Oper) (o:Oper) (s:St) (x:SV):Prop:=
 (BG ops.toList s o=some true∧ao E f s o=some (true,s.put o.dst x))∨(BG ops.toList s o=some false∧x=.v fM)
theorem Jp {c:Bool} {s':St} (hN:sC o.op=true) (h:ao E f s o=some (c,s')):∃ x,s'=s.put o.dst x:=by
 obtain ⟨t',_,pre,preB,G,_,h2,_,_⟩:=ic (t:=s) rfl rfl rfl (fun _ _=>rfl) h
 obtain ⟨_,_,x,hx,_⟩:=h2 (by simp [hN])
 exact ⟨x,hx⟩
theorem Jq (hN:sC o.op=true):jY E f o K s↔∃ s',ao E f s o=some (true,s')∧K s':=by
 unfold jY
 split
 ·rename_i h
  rw [h] at hN
  simp [sC] at hN
 ·rename_i h
  rw [h] at hN
  simp [sC] at hN
 ·split
  ·rename_i c s' hs
   constructor
   ·intro h
    obtain ⟨rfl,hk⟩:=h.out
    exact ⟨s',hs,hk⟩
   ·rintro ⟨BZ,h1,h2⟩
    rw [hs] at h1
    cases h1
    exact dz.mk rfl h2
  ·rename_i hs
   constructor
   ·exact fun h=>h.elim
   ·rintro ⟨BZ,h1,_⟩
    rw [hs] at h1
    cases h1
theorem wz (hN:sC o.op=true) (hK:Inv K) (h:b8 E f ops.toList o K s):∃ x,wy E f ops o s x∧K (s.put o.dst x):=by
 rcases (fU hK).1 h with ⟨h1,h2⟩ | ⟨h1,h2⟩
 ·obtain ⟨s',h3,h4⟩:=(Jq hN).1 h2
  obtain ⟨x,rfl⟩:=Jp hN h3
  exact ⟨x,.inl ⟨h1,h3⟩,h4⟩
 ·exact ⟨_,.inr ⟨h1,rfl⟩,h2⟩
theorem wA (hN:sC o.op=true) (hK:Inv K) (hx:wy E f ops o s x) (h:K (s.put o.dst x)):b8 E f ops.toList o K s:=by
 rw [fU hK]
 rcases hx with ⟨h1,h2⟩ | ⟨h1,rfl⟩
 ·exact .inl ⟨h1,(Jq hN).2 ⟨_,h2,h⟩⟩
 ·exact .inr ⟨h1,h⟩
def Ex (E:Env) (f:FuncId) (ops:List Oper) (o:Oper) (s:St):Prop:=match BG ops s o with
 | some true=>match o.dst,ao E f s o with
  | some d,some (c,s')=>c=true∧lk s'.af d=lk s.af d
  | _,_=>False
 | some false=>True
 | none=>False
theorem Ng (hN:sC o.op=true) (hd:d∉o.looksAt ops) (cm:o.dst≠some d) (he:∀ e,d≠e→lk s.af e=lk t.af e) (hB:dm s.boxes=dm t.boxes) (hG:s.G=t.G) (hn:s.n=t.n)
  (h:Ex E f ops.toList o s):Ex E f ops.toList o t:=by
 have hl:∀ e∈o.looksAt ops,lk s.af e=lk t.af e:=fun e hm=>he e fun k=>hd (k ▸ hm)
 unfold Ex at h ⊢
 rw [← kh hl]
 split
 ·rename_i hg
  rw [hg] at h
  simp only at h
  split at h
  ·rename_i e c s' Hn hs
   obtain ⟨t',h3,pre,preB,G,_,h4,_,_⟩:=ic hn hG hB (kC hl) hs
   obtain ⟨_,_,y,h5,h6⟩:=h4 (by simp [hN])
   rw [Hn,h3]
   refine ⟨h.1,?_⟩
   have hde:d≠e:=fun k=>cm (by rw [Hn,k])
   have h7:=h.2
   rw [h5,Hn] at h7
   rw [h6,Hn,← he e hde]
   simp only [St.put,← hn] at h7 ⊢
   split
   ·rename_i hb
    rw [hb] at h7
    simp only [aA] at h7 ⊢
    exact h7
   ·exact (he e hde).symm
  ·exact h.elim
 ·trivial
 ·rename_i hg
  rw [hg] at h
  exact h
theorem Nh (hN:sC o.op=true) (e:oY s t) (h:Ex E f ops.toList o s):Ex E f ops.toList o t:=by
 unfold Ex at h ⊢
 rw [← AM e]
 split
 ·rename_i hg
  rw [hg] at h
  simp only at h
  split at h
  ·rename_i d c s' Hn hs
   obtain ⟨t',h3,pre,preB,G,_,h4,_,_⟩:=ic e.n e.G e.b (fun y _=>e.bw y) hs
   obtain ⟨_,_,y,h5,h6⟩:=h4 (by simp [hN])
   rw [Hn,h3]
   refine ⟨h.1,?_⟩
   rw [h6,← (e.put o.dst y).l,← h5,← e.l]
   exact h.2
  ·exact h.elim
 ·trivial
 ·rename_i hg
  rw [hg] at h
  exact h
def jo (oj oi:Oper):Bool:=bM oi.op || (SE oj.op&&!sC oi.op)
theorem Jr {al:Bool} {dst:Option Tmp} {pre:bc} (h:Vr al dst pre) {e:Nat} (he:dst≠some e) (l:bc):lk (pre++l) e=lk l e∨(al=true∧∃ k off,lk l e=.lp k off):=by
 rcases h with rfl | ⟨d,y,rfl,rfl | ⟨rfl,rfl⟩⟩
 ·exact .inl rfl
 ·exact .inl (aR fun k=>he (by rw [k]))
 ·simp only [List.cons_append,List.nil_append]
  rw [aR (fun k=>he (by rw [k]))]
  simp only [lk]
  cases hl:lk l e with
  | lp k off=>exact .inr ⟨trivial,k,off,rfl⟩
  | _=>exact .inl rfl
theorem rN {al:Bool} {pre:bc} (preB:cE) (G:List GO) (h:Vr al oi.dst pre) (cm:oi.dst≠some d) (hx:al=false∨∃ a,x=.v a):oY ((s.put (some d) x).ft pre preB G) ((s.ft pre preB G).put (some d) x):=by
 have hb:∀ b,Nat.blt d s.n=b→oY ((s.put (some d) x).ft pre preB G) ((s.ft pre preB G).put (some d) x):=fun b hb=>by
  have iS:Nat.blt d (s.ft pre preB G).n=b:=hb
  rw [lx,lx,hb,iS]
  cases b with
  | false=>exact oY.refl _
  | true=>
   refine ⟨funext fun e=>?_,rfl,rfl,rfl,rfl,rfl⟩
   simp only [cond_true,St.ft,List.cons_append,List.nil_append]
   by_cases k:d=e
   ·subst k
    rw [aA]
    rcases Jr h cm (.put d x :: s.af) with h1 | ⟨h1,k,off,h2⟩
    ·rw [h1,aA]
    ·rw [aA] at h2
     rcases hx with hx | ⟨a,hx⟩
     ·rw [hx] at h1; cases h1
     ·rw [hx] at h2; cases h2
   ·rw [aR k]
    exact ml (aR k) pre
 exact hb _ rfl
theorem Ho (hN:sC oj.op=true) (FT:oj.dst=some d) (Cs:d∉oj.looksAt ops) (Vt:oj.apart ops oi=true) (hK:Inv K) (hx:wy E f ops oj s x) {pre:bc} {preB:cE} {G:List GO}
  (yO:Vr (bM oi.op) oi.dst pre) (WE:sC oi.op=true→preB=[]∧G=s.G) (hk:K ((s.put (some d) x).ft pre preB G)) (Wf:∀ t',K t'→jo oj oi=true→Ex E f ops.toList oj t') :
  ∃ x',wy E f ops oj (s.ft pre preB G) x'∧K ((s.ft pre preB G).put (some d) x'):=by
 obtain ⟨_,cm,B3⟩:=Oper.apart_spec Vt
 have Js:oi.dst≠some d:=cm d FT
 have rO:∀ e∈oj.looksAt ops,oi.dst≠some e:=fun e he k=>B3 e k he
 have tN:∀ e∈oj.looksAt ops,(bM oi.op=false∨∃ b,lk s.af e=.v b)→lk s.af e=lk (s.ft pre preB G).af e:=fun e he ha=>by
  rcases Jr yO (rO e he) s.af with h1 | ⟨h1,k,off,h2⟩
  ·exact h1.symm
  ·rcases ha with ha | ⟨b,ha⟩
   ·rw [ha] at h1; cases h1
   ·rw [ha] at h2; cases h2
 have Ni:∀ b,BG ops.toList s oj=some b→BG ops.toList (s.ft pre preB G) oj=some b:=fun b hb=>by
  unfold BG at hb ⊢
  split
  ·rename_i hg; rw [hg] at hb; exact hb
  ·rename_i j want hg
   rw [hg] at hb
   simp only at hb
   split
   ·rename_i e he
    rw [he] at hb
    simp only at hb
    split at hb
    ·rename_i b' hl
     have:=tN e (jH hg he) (.inr ⟨_,hl⟩)
     rw [← this,hl]
     exact hb
    ·rename_i hl
     have:=tN e (jH hg he) (.inr ⟨_,hl⟩)
     rw [← this,hl]
     exact hb
    ·cases hb
   ·rename_i he; rw [he] at hb; cases hb
 rcases hx with ⟨h1,h2⟩ | ⟨h1,rfl⟩
 ·rw [FT] at h2
  by_cases ZZ:jo oj oi=true
  ·have hr:=Wf _ hk ZZ
   -- the state with the slot, and the one without it
   have AE:∀ e,d≠e→lk ((s.put (some d) x).ft pre preB G).af e=lk (s.ft pre preB G).af e:=fun e he=>ml (va s d x he) pre
   have hB:dm ((s.put (some d) x).ft pre preB G).boxes=dm (s.ft pre preB G).boxes:=by
    simp only [St.ft]; rw [(fV s _ x).1]
   have hn:((s.put (some d) x).ft pre preB G).n=(s.ft pre preB G).n:=(fV s _ x).2.2.1
   have Jt:∀ e∈oj.looksAt ops,lk ((s.put (some d) x).ft pre preB G).af e=lk (s.ft pre preB G).af e:=fun e he=>AE e fun k=>Cs (k ▸ he)
   have hg2:BG ops.toList ((s.put (some d) x).ft pre preB G) oj=some true:=by rw [kh Jt]; exact Ni _ h1
   unfold Ex at hr
   rw [hg2] at hr
   simp only [FT] at hr
   split at hr
   ·rename_i d' c s' Fx hs
    cases Fx
    obtain ⟨rfl,hr⟩:=hr
    obtain ⟨t',h3,p,pB,G2,_,h4,_,_⟩:=ic (t:=s.ft pre preB G) hn rfl hB (kC Jt) hs
    obtain ⟨_,_,y,h5,h6⟩:=h4 (by simp [hN])
    rw [h6] at h3
    rw [h5,FT] at hr
    refine ⟨y,.inl ⟨Ni _ h1,h3⟩,hK _ _ ?_ hk⟩
    have hmr:((s.put (some d) x).ft pre preB G).marks=(s.ft pre preB G).marks∧((s.put (some d) x).ft pre preB G).ro=(s.ft pre preB G).ro:=(fV s _ x).2.2.2
    obtain ⟨q1,q2,q3,q4,q5⟩:=fV (s.ft pre preB G) (some d) y
    refine ⟨funext fun e=>?_,by rw [q1]; exact hB,by rw [q2]; rfl,by rw [q4]; exact hmr.1,by rw [q5]; exact hmr.2,by rw [q3]; exact hn⟩
    by_cases k:d=e
    ·subst k
     rw [← hr]
     have hb:∀ b,Nat.blt d s.n=b→lk (((s.put (some d) x).ft pre preB G).put (some d) y).af d=lk ((s.ft pre preB G).put (some d) y).af d:=fun b hb=>by
      have SF:Nat.blt d (s.ft pre preB G).n=b:=hb
      have vb:Nat.blt d ((s.put (some d) x).ft pre preB G).n=b:=by rw [hn]; exact hb
      rw [lx _ d y,lx _ d y,SF,vb]
      cases b with
      | true=>simp [St.ft,aA]
      | false=>
       simp only [cond_false]
       rw [lx,hb]
       rfl
     exact hb _ rfl
    ·rw [va _ _ _ k]
     exact AE e k
   ·exact hr.elim
  ·have uK:bM oi.op=false:=by cases ha:bM oi.op <;> simp_all [jo]
   have hl:∀ e∈oj.looksAt ops,lk s.af e=lk (s.ft pre preB G).af e:=fun e he=>tN e he (.inl uK)
   have fin:∀ y,s.put (some d) x=s.put (some d) y→ao E f (s.ft pre preB G) oj=some (true,(s.ft pre preB G).put oj.dst y) →
     ∃ x',wy E f ops oj (s.ft pre preB G) x'∧K ((s.ft pre preB G).put (some d) x'):=fun y hy hs=>by
    refine ⟨y,.inl ⟨Ni _ h1,hs⟩,hK _ _ (rN (oi:=oi) preB G yO Js (.inl uK)) ?_⟩
    rw [← hy]
    exact hk
   cases hNo:sC oi.op with
   | true=>
    obtain ⟨rfl,rfl⟩:=WE hNo
    obtain ⟨t',h3,p,pB,G2,_,h4,_,_⟩:=ic (s:=s) (t:=s.ft pre [] s.G) rfl rfl rfl (kC hl) h2
    obtain ⟨_,_,y,h5,h6⟩:=h4 (by simp [hN])
    rw [FT] at h5
    exact fin y h5 (by rw [h3,h6])
   | false=>
    have hR:SE oj.op=false:=by cases ha:SE oj.op <;> simp_all [jo]
    obtain ⟨t',h3,y,h5,h6⟩:=Cr (s:=s) (t:=s.ft pre preB G) hN hR rfl (kC hl) h2
    rw [FT] at h5
    exact fin y h5 (by rw [h3,h6])
 ·exact ⟨_,.inr ⟨Ni _ h1,rfl⟩,hK _ _ (rN (oi:=oi) preB G yO Js (.inr ⟨_,rfl⟩)) hk⟩
end
end Go.Am
namespace Go.Am
open Go
section
variable {E:Env} {s t:St} {o:Oper}
def iF (E:Env) (s:St) (o:Oper) (s':St):Prop:=
 (s'.af=s.af∨∃ d x,o.dst=some d∧(s'.af=.put d x :: s.af∨s'.af=.put d x :: .kill d :: s.af)∧∀ k off,x=.lp k off→(∃ y∈o.op.operands,∃ fN,bw E s.af y=.lp k fN)∨(bM o.op=true∧k=d)) ∧
 (s'.boxes=s.boxes∨∃ k cs,s'.boxes=(k,cs) :: s.boxes∧((bM o.op=true∧o.dst=some k)∨∃ y∈o.op.operands,∃ off,bw E s.af y=.lp k off))
theorem ly {s1:St} (h1:s1.af=s.af) (h2:s1.boxes=s.boxes) {x:SV} (hx:∀ k off,x=.lp k off→∃ y∈o.op.operands,∃ fN,bw E s.af y=.lp k fN):iF E s o (s1.put o.dst x):=by
 refine ⟨?_,.inl (by rw [(fV s1 o.dst x).1,h2])⟩
 cases hd:o.dst with
 | none=>exact .inl h1
 | some d=>
  simp only [St.put]
  split
  ·exact .inr ⟨d,x,rfl,.inl (by rw [h1]),fun k off h=>.inl (hx k off h)⟩
  ·exact .inl h1
theorem kD {s1:St} (h1:s1.af=s.af) (h2:s1.boxes=s.boxes) (a:AV):iF E s o (s1.put o.dst (.v a)):=ly h1 h2 fun k off h=>by cases h
theorem mm {s1:St} (h1:s1.af=s.af) (h2:s1.boxes=s.boxes):iF E s o s1:=⟨.inl h1,.inl h2⟩
theorem Nj {k:Nat} {cs:List AV} (h:∃ y∈o.op.operands,∃ off,bw E s.af y=.lp k off):iF E s o (s.uz k cs):=⟨.inl rfl,.inr ⟨k,cs,rfl,.inr h⟩⟩
theorem Ct {n:Nat} {x:SV} {k off:Nat} (h:zb n x=some (.lp k off)):∃ fN,x=.lp k fN:=by
 unfold zb at h
 split at h <;> cases h
 exact ⟨_,rfl⟩
theorem yP {ty:TypeId} {x:SV} {j k off:Nat} (h:kv E ty x j=some (.lp k off)):∃ fN,x=.lp k fN:=by
 unfold kv at h
 repeat' (split at h)
 all_goals (first | (cases h; done) | exact Ct h)
theorem yQ {ty:TypeId} {x ix:SV} {c:Bool} {k off:Nat} (h:ku E ty x ix=some (c,.lp k off)):∃ fN,x=.lp k fN:=by
 unfold ku at h
 repeat' (split at h)
 all_goals (first | (cases h; done) | skip)
 rename_i hm
 injection h with h; injection h with h1 h2; subst h2
 exact Ct hm
theorem Ey {ty:TypeId} {p x:SV} {s':St} (hp:∀ k off,p=.lp k off→∃ y∈o.op.operands,∃ fN,bw E s.af y=.lp k fN) (h:jB E s ty p x=some s'):iF E s o s':=by
 unfold jB at h
 repeat' (split at h)
 all_goals (first | (cases h; done) | skip)
 ·cases h; exact Nj (hp _ _ rfl)
 ·cases h; exact mm rfl rfl
theorem Ez {ty:TypeId} {p x:SV} {c:Bool} {s':St} (hp:∀ k off,p=.lp k off→∃ y∈o.op.operands,∃ fN,bw E s.af y=.lp k fN) (h:jC E s ty p x=some (c,s')):iF E s o s':=by
 unfold jC at h
 repeat' (split at h)
 all_goals (first | (cases h; done) | skip)
 ·injection h with h; injection h with h1 h2; subst h2; exact mm rfl rfl
 ·injection h with h; injection h with h1 h2; subst h2; exact mm rfl rfl
 ·rename_i hs
  injection h with h; injection h with h1 h2; subst h2; exact Ey hp hs
theorem tZ {ty:TypeId} {m k x:SV} {s':St} (h:fe E s ty m k x=some s'):iF E s o s':=by
 unfold fe at h
 repeat' (split at h)
 all_goals (first | (cases h; done) | skip)
 cases h; exact mm rfl rfl
theorem Hp {x:SV} {s':St} (h:lq s o.dst x=some s'):iF E s o s':=by
 unfold lq at h
 split at h
 ·split at h
  ·rename_i l pos hg
   cases hb:Nat.blt pos l.length with
   | true=>
    rw [hb] at h
    simp only [cond_true] at h
    cases h
    exact kD rfl rfl _
   | false=>
    rw [hb] at h
    simp only [cond_false] at h
    cases h
    exact kD rfl rfl _
  ·cases h
 ·cases h
theorem AN {b:Builtin} {l:List AV} {tys:List TypeId} {c:Bool} {s':St} (h:bI E s o.dst b l tys=some (c,s')):iF E s o s':=by
 unfold bI at h
 cases b
 all_goals (try (cases h; done))
 all_goals (try simp only at h)
 all_goals (try (split at h <;> first | (cases h; done) | simp only at h))
 all_goals (repeat' (split at h))
 all_goals (first | (cases h; done) | skip)
 all_goals (injection h with h; injection h with h1 h2; subst h1 h2)
 all_goals (first | exact kD rfl rfl _ | exact mm rfl rfl)
theorem Hq {f:FuncId} {c:Bool} {s':St} (h:gE E f s o=some (c,s')):iF E s o s':=by
 unfold gE at h
 repeat' (split at h)
 all_goals (first | (cases h; done) | skip)
 injection h with h; injection h with h2 h3
 subst h3
 exact kD rfl rfl _
theorem wB {f:FuncId} {el:TypeId} {cs:List AV} {c:Bool} {s':St} (ha:bM o.op=true) (h:fc E f s o.dst el cs=some (c,s')):iF E s o s':=by
 unfold fc at h
 split at h
 ·cases h
 ·rename_i d hd
  split at h
  ·injection h with h; injection h with h1 h2; subst h2
   rw [← hd]
   exact kD rfl rfl _
  ·split at h
   ·rename_i hb
    injection h with h; injection h with h1 h2; subst h2
    refine ⟨.inr ⟨d,.lp d 0,hd,.inr ?_,fun k off h=>by cases h; exact .inr ⟨ha,rfl⟩⟩,.inr ⟨d,cs,?_,.inl ⟨ha,hd⟩⟩⟩
    ·simp only [St.put,St.uz,St.kill,hb]
    ·rw [(fV _ (some d) (.lp d 0)).1]; rfl
   ·cases h
theorem EA {f:FuncId} {c:Bool} {s':St} (h:ao E f s o=some (c,s')):iF E s o s':=by
 cases ho:o.op
 case move x=>
  simp only [ao,ho] at h
  split at h
  all_goals (injection h with h; injection h with h1 h2; subst h2)
  ·exact kD rfl rfl _
  ·rename_i k off hx
   exact ly rfl rfl fun k' fN e=>by cases e; exact ⟨x,by rw [ho]; simp [Op.operands],_,hx⟩
  ·exact ly rfl rfl fun k' fN e=>by cases e
 case assign x=>
  simp only [ao,ho] at h
  split at h
  all_goals (injection h with h; injection h with h1 h2; subst h2)
  ·exact kD rfl rfl _
  ·rename_i k off hx
   exact ly rfl rfl fun k' fN e=>by cases e; exact ⟨x,by rw [ho]; simp [Op.operands],_,hx⟩
  ·exact ly rfl rfl fun k' fN e=>by cases e
 case nilCheck x=>
  simp only [ao,ho] at h
  split at h
  ·injection h with h; injection h with h1 h2; subst h2
   exact kD rfl rfl _
  ·rename_i k off hx
   injection h with h; injection h with h1 h2; subst h2
   exact ly rfl rfl fun k' fN e=>by cases e; exact ⟨x,by rw [ho]; simp [Op.operands],_,hx⟩
  ·cases h
 case fieldAddr a x j=>
  simp only [ao,ho] at h
  split at h
  ·rename_i p hp
   injection h with h; injection h with h1 h2; subst h2
   exact ly rfl rfl fun k' fN e=>by subst e; exact ⟨x,by rw [ho]; simp [Op.operands],yP hp⟩
  ·cases h
 case indexAddr a x y=>
  simp only [ao,ho] at h
  split at h
  ·rename_i c' p hp
   injection h with h; injection h with h1 h2; subst h2
   exact ly rfl rfl fun k' fN e=>by subst e; exact ⟨x,by rw [ho]; simp [Op.operands],yQ hp⟩
  ·cases h
 case alloc e=>
  simp only [ao,ho] at h
  repeat' (split at h)
  all_goals (first | (cases h; done) | skip)
  exact wB (by rw [ho]; rfl) h
 case box e x=>
  simp only [ao,ho] at h
  repeat' (split at h)
  all_goals (first | (cases h; done) | skip)
  exact wB (by rw [ho]; rfl) h
 case store ty x y=>
  simp only [ao,ho] at h
  split at h
  ·rename_i hs
   injection h with h; injection h with h1 h2; subst h2
   exact Ez (fun k off e=>⟨x,by rw [ho]; simp [Op.operands],off,e⟩) hs
  ·cases h
 case mapUpdate ty x y z=>
  simp only [ao,ho] at h
  split at h
  ·rename_i hs
   injection h with h; injection h with h1 h2; subst h2
   exact tZ hs
  ·cases h
 case insert ty x y z=>
  simp only [ao,ho] at h
  split at h
  ·rename_i hs
   injection h with h; injection h with h1 h2; subst h2
   exact tZ hs
  ·cases h
 case mapEntry ty x y=>
  simp only [ao,ho] at h
  split at h
  ·rename_i hs
   injection h with h; injection h with h1 h2; subst h2
   unfold gj at hs
   repeat' (split at hs)
   all_goals (first | (cases hs; done) | skip)
   injection hs with hs; injection hs with h3 hs; injection hs with h4 h5
   subst h5
   exact kD rfl rfl _
  ·cases h
 case entryStore ty x y z=>
  simp only [ao,ho] at h
  split at h
  ·rename_i hs
   injection h with h; injection h with h1 h2; subst h2
   unfold eB at hs
   repeat' (split at hs)
   all_goals (first | (cases hs; done) | skip)
   injection hs with hs; injection hs with h3 h4
   subst h4
   exact mm rfl rfl
  ·cases h
 case next x b=>
  cases b with
  | false=>simp [ao,ho] at h
  | true=>
   simp only [ao,ho] at h
   split at h
   ·rename_i hs
    injection h with h; injection h with h1 h2; subst h2
    exact Hp hs
   ·cases h
 case call cl=>
  obtain ⟨callee,args,tys⟩:=cl
  cases callee with
  | builtin b=>
   simp only [ao,ho] at h
   split at h
   ·rename_i r hf
    cases h
    exact Hq hf
   ·split at h
    ·exact AN h
    ·cases h
  | _=>simp [ao,ho] at h
 case makeFunc fo a b=>
  cases fo with
  | func g=>
   simp only [ao,ho] at h
   repeat' (split at h)
   all_goals (first | (cases h; done) | skip)
   injection h with h; injection h with h1 h2; subst h2
   exact kD rfl rfl _
  | _=>simp [ao,ho] at h
 case makeMap ty r=>
  cases r with
  | none=>
   simp only [ao,ho] at h
   injection h with h; injection h with h1 h2; subst h2
   exact kD rfl rfl _
  | some _=>simp [ao,ho] at h
 all_goals (first
  | (simp [ao,ho] at h; done)
  | (simp only [ao,ho] at h; (repeat' (split at h)); (all_goals (first | (cases h; done) | skip)); (all_goals (injection h with h; injection h with h1 h2; subst h2)); (all_goals (exact kD rfl rfl _))))
def qo (s:St) (d:Nat) (cs:List AV):St:=s.ft [.put d (.lp d 0),.kill d] [(d,cs)] s.G
theorem EB {f:FuncId} {d:Tmp} {c:Bool} {s1:St} (uK:bM o.op=true) (hd:o.dst=some d) (hg:E.yB f d=false) (h:ao E f s o=some (c,s1)) :
  c=true∧∃ cs,s1=qo s d cs∧∀ t:St,t.n=s.n→(∀ y∈o.op.operands,∀ v,bw E s.af y=.v v→bw E t.af y=.v v)→ao E f t o=some (true,qo t d cs):=by
 have key:∀ (el:TypeId) (cs:List AV),fc E f s o.dst el cs=some (c,s1)→c=true∧s1=qo s d cs∧∀ t:St,t.n=s.n→fc E f t o.dst el cs=some (true,qo t d cs):=by
  intro el cs h
  unfold fc at h
  rw [hd] at h
  simp only [hg,Bool.false_eq_true,if_false] at h
  split at h
  ·rename_i hb
   injection h with h; injection h with h1 h2; subst h1 h2
   refine ⟨rfl,?_,fun t ht=>?_⟩
   ·simp only [St.put,St.uz,St.kill,hb,qo,St.ft]; rfl
   ·unfold fc
    rw [hd]
    simp only [hg,Bool.false_eq_true,if_false,ht,hb]
    simp only [St.put,St.uz,St.kill,ht,hb,qo,St.ft]; rfl
  ·cases h
 cases ho:o.op
 case alloc e=>
  simp only [ao,ho] at h ⊢
  split at h
  ·split at h
   ·split at h
    ·rename_i hi _ _ hz MD
     obtain ⟨k1,k2,k3⟩:=key _ _ h
     refine ⟨k1,_,k2,fun t ht _=>?_⟩
     simp only [hi,hz,MD,if_true]
     exact k3 t ht
    ·cases h
   ·cases h
  ·cases h
 case box e x=>
  simp only [ao,ho] at h ⊢
  split at h
  ·split at h
   ·rename_i v hv MD
    obtain ⟨k1,k2,k3⟩:=key _ _ h
    refine ⟨k1,_,k2,fun t ht he=>?_⟩
    simp only [he x (by simp [Op.operands]) v hv,MD,if_true]
    exact k3 t ht
   ·cases h
  ·cases h
 all_goals (rw [ho] at uK; simp [bM] at uK)
theorem FU {pre:bc} {preB:cE} {G:List GO} (h:iF E s o (s.ft pre preB G)) :
  (pre=[]∨∃ d x,o.dst=some d∧(pre=[.put d x]∨pre=[.put d x,.kill d])∧∀ k off,x=.lp k off→(∃ y∈o.op.operands,∃ fN,bw E s.af y=.lp k fN)∨(bM o.op=true∧k=d)) ∧
  (preB=[]∨∃ k cs,preB=[(k,cs)]∧((bM o.op=true∧o.dst=some k)∨∃ y∈o.op.operands,∃ off,bw E s.af y=.lp k off)):=by
 obtain ⟨h1,h2⟩:=h
 refine ⟨?_,?_⟩
 ·rcases h1 with h1 | ⟨d,x,hd,h1,hx⟩
  ·exact .inl (by simpa [St.ft] using h1)
  ·refine .inr ⟨d,x,hd,?_,hx⟩
   rcases h1 with h1 | h1
   ·left
    have h1:pre++s.af=[.put d x]++s.af:=h1
    exact List.append_cancel_right h1
   ·right
    have h1:pre++s.af=[.put d x,.kill d]++s.af:=h1
    exact List.append_cancel_right h1
 ·rcases h2 with h2 | ⟨k,cs,h2,hx⟩
  ·exact .inl (by simpa [St.ft] using h2)
  ·refine .inr ⟨k,cs,?_,hx⟩
   have h2:preB++s.boxes=[(k,cs)]++s.boxes:=h2
   exact List.append_cancel_right h2
theorem jq (d e:Nat) (l:bc):lk (.kill d :: l) e=(match lk l e with | .lp k off=>bif Nat.beq k d then .none else .lp k off | x=>x):=rfl
theorem wC {d e:Nat} {l:bc} (h:∀ off,lk l e≠.lp d off):lk (.kill d :: l) e=lk l e:=by
 rw [jq]
 split
 ·rename_i k off hk
  cases hb:Nat.beq k d with
  | true=>exact absurd (by rw [hk,Nat.eq_of_beq_eq_true hb]) (h off)
  | false=>rw [hk]; rfl
 ·rfl
theorem Hr {d:Nat} {pre:bc} {preB:cE} {G:List GO} (cs:List AV) (Nk:iF E s o (s.ft pre preB G)) (cm:o.dst≠some d) (Hs:∀ y∈o.op.operands,∀ off,bw E s.af y≠.lp d off) :
  oY ((qo s d cs).ft pre preB G) (qo (s.ft pre preB G) d cs):=by
 obtain ⟨h1,h2⟩:=FU Nk
 refine ⟨funext fun e=>?_,funext fun k=>?_,rfl,rfl,rfl,rfl⟩
 ·show lk (pre++([.put d (.lp d 0),.kill d]++s.af)) e=lk ([.put d (.lp d 0),.kill d]++(pre++s.af)) e
  rcases h1 with rfl | ⟨d',x,hd,hp,hx⟩
  ·rfl
  ·have YI:d'≠d:=fun c=>cm (by rw [hd,c])
   have pE:∀ off,x≠.lp d off:=fun off c=>by
    rcases hx d off c with ⟨y,hy,fN,ho⟩ | ⟨_,h⟩
    ·exact Hs y hy fN ho
    ·exact YI h.symm
   by_cases c1:d=e
   ·subst c1
    rcases hp with rfl | rfl
    ·simp only [List.cons_append,List.nil_append]
     rw [aR YI,aA,aA]
    ·simp only [List.cons_append,List.nil_append]
     rw [aR YI,aA,wC (fun off=>by rw [aA]; intro c; cases c; exact YI rfl),aA]
   ·simp only [List.cons_append,List.nil_append]
    rw [aR c1]
    by_cases c2:d'=e
    ·subst c2
     rcases hp with rfl | rfl
     ·simp only [List.cons_append,List.nil_append]
      rw [aA,wC (fun off=>by rw [aA]; exact pE off),aA]
     ·simp only [List.cons_append,List.nil_append]
      rw [aA,wC (fun off=>by rw [aA]; exact pE off),aA]
    ·rcases hp with rfl | rfl
     ·simp only [List.cons_append,List.nil_append]
      rw [aR c2,aR c1,jq,jq,aR c2]
     ·simp only [List.cons_append,List.nil_append]
      rw [aR c2,jq,aR c1,jq,jq,aR c2,jq]
      cases lk s.af e with
      | lp k off=>cases hb:Nat.beq k d <;> cases vb:Nat.beq k d' <;> simp [hb,vb]
      | _=>rfl
 ·show dm (preB++([(d,cs)]++s.boxes)) k=dm ([(d,cs)]++(preB++s.boxes)) k
  rcases h2 with rfl | ⟨k',cs',rfl,hk⟩
  ·rfl
  ·have ME:k'≠d:=fun c=>by
    subst c
    rcases hk with ⟨_,hk⟩ | ⟨y,hy,off,ho⟩
    ·exact cm hk
    ·exact Hs y hy off ho
   simp only [List.cons_append,List.nil_append,dm]
   cases hb:Nat.beq k' k with
   | true=>
    have:Nat.beq d k=false:=by
     cases vb:Nat.beq d k with
     | true=>exact absurd ((Nat.eq_of_beq_eq_true hb).trans (Nat.eq_of_beq_eq_true vb).symm) ME
     | false=>rfl
    rw [this]; rfl
   | false=>rfl
end
section
variable {E:Env} {s t:St} {f:FuncId} {o:Oper} {K K':St→Prop}
theorem EC (hn:s.n=t.n) (hG:s.G=t.G) (hB:∀ k off,(∃ y∈o.op.operands,bw E s.af y=.lp k off)→dm s.boxes k=dm t.boxes k) (eD:∀ y∈o.op.operands,bw E s.af y=bw E t.af y) (h:jY E f o K s)
  (hK:∀ pre preB G,iF E t o (t.ft pre preB G)→K (s.ft pre preB G)→K' (t.ft pre preB G)):jY E f o K' t:=by
 unfold jY at h ⊢
 split at h
 ·rename_i x args tys ho
  have h1:bw E s.af x=bw E t.af x:=eD x (by rw [ho]; simp [Op.operands,Call.operands])
  have h2:lS E s.af args.toList=lS E t.af args.toList:=gr fun y hy=>eD y (by rw [ho]; simp [Op.operands,Call.operands]; exact .inr (by simpa using hy))
  try simp only [ho]
  rw [← h1,← h2,← hG]
  split at h
  ·refine cu.mono h fun r G' hk=>?_
   obtain ⟨pre,preB,G,p1,p2,p3,p4⟩:=bG.du (s:=s) (t:=t) (al:=bM o.op) hn G' o.dst (.v r)
   rw [p3] at hk
   have hO:iF E t o ((t.bW G').put o.dst (.v r)):=kD rfl rfl _
   rw [p4] at hO ⊢
   exact hK pre preB G hO hk
  ·refine kB.mono h fun r G' hk=>?_
   obtain ⟨pre,preB,G,p1,p2,p3,p4⟩:=bG.du (s:=s) (t:=t) (al:=bM o.op) hn G' o.dst (.v (.bool r))
   rw [p3] at hk
   have hO:iF E t o ((t.bW G').put o.dst (.v (.bool r))):=kD rfl rfl _
   rw [p4] at hO ⊢
   exact hK pre preB G hO hk
  ·exact h.elim
 ·exact h.elim
 ·split at h
  ·rename_i c s' hs
   obtain ⟨t',h1,pre,preB,G,p1,p2,p3,p4⟩:=rL hn hG hB eD hs
   have hO:=EA h1
   rw [h1]
   obtain ⟨rfl,hk⟩:=h.out
   refine dz.mk rfl ?_
   rw [p3] at hk
   rw [p4] at hO ⊢
   exact hK pre preB G hO hk
  ·exact h.elim
theorem FV (ha:bM o.op=true):jY E f o K s↔∃ s',ao E f s o=some (true,s')∧K s':=by
 unfold jY
 split
 ·rename_i h
  rw [h] at ha
  simp [bM] at ha
 ·rename_i h
  rw [h] at ha
  simp [bM] at ha
 ·split
  ·rename_i c s' hs
   constructor
   ·intro h
    obtain ⟨rfl,hk⟩:=h.out
    exact ⟨s',hs,hk⟩
   ·rintro ⟨BZ,h1,h2⟩
    rw [hs] at h1
    cases h1
    exact dz.mk rfl h2
  ·rename_i hs
   constructor
   ·exact fun h=>h.elim
   ·rintro ⟨BZ,h1,_⟩
    rw [hs] at h1
    cases h1
end
end Go.Am
