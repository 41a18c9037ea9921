/- The abstract machine: a function's contract out of its body. -/
import Derived.Test.YtldcljfjjoidhaaGreatDoorAmKF
import Derived.OrdersIn
set_option linter.all false
namespace Go.Am
open Go
section intro
variable {E:Env} {R R':an} {w w':World} {β β':Nat→Nat}
theorem xY {bx JV:cP} (h:Step R w β bx R' w' β' JV) (hn:∀ k cs,dO bx k≠some cs):Step R w (fun _=>0) fS R' w' (fun _=>0) fS:=by
 have own:∀ b,Own R β bx b→Live R b:=fun b ho=>by
  rcases ho with ho | ⟨k,cs,hk,_⟩
  ·exact ho
  ·exact absurd hk (hn k cs)
 exact ⟨h.ext,h.os,h.tape,h.output,h.size,fun b hb ul=>h.bJ b hb (fun ho=>ul (.inl (own b ho))),fun b hb ho=>.inl (own b (h.own b hb (.inl (fE ho)))),fun b o hi hb ul=>h.im b o hi hb (fun ho=>ul (.inl (own b ho)))⟩
theorem Kx:∀ {l:List AV} {n i:Nat},(i < n∨n+l.length≤i→lk (X5 n l) i=.none)∧(∀ a,l[i - n]?=some a→n≤i→lk (X5 n l) i=.v a)
 | [],n,i=>⟨fun _=>rfl,fun a h=>by simp at h⟩
 | b :: l,n,i=>by
  obtain ⟨h1,h2⟩:=Kx (l:=l) (n:=n+1) (i:=i)
  refine ⟨fun h=>?_,fun a h hn=>?_⟩
  ·simp only [List.length_cons] at h
   simp only [X5]
   rw [aW (by omega)]
   exact h1 (by omega)
  ·simp only [X5]
   by_cases e:n=i
   ·subst e
    rw [aG]
    simp at h
    rw [h]
   ·rw [aW e]
    refine h2 a ?_ (by omega)
    have:i - n=(i - (n+1))+1:=by omega
    rw [this] at h
    simpa using h
theorem Ky {ntmps:Nat} {args:List AV} {cs:List Value} {G:List GO} (hg:dQ E R w G) (hl:aQ R w args cs) :
  bo E R w (fun _=>0) (St.init ntmps args G) { tmps:=⟨cs⟩++Array.replicate (ntmps - (⟨cs⟩:Array Value).size) undef,defers:=[] }:=by
 have hlen:=hl.length
 refine ⟨hg,⟨fun k c hk=>?_,fun k k' c c' hk _ _=>?_⟩,fun i hi=>?_,?_,trivial⟩
 ·simp [St.init,dO] at hk
 ·simp [St.init,dO] at hk
 ·simp only [St.init] at hi ⊢
  obtain ⟨h1,h2⟩:=Kx (l:=args) (n:=0) (i:=i)
  by_cases cu:i < args.length
  ·have hy:args[i]?=some args[i]:=List.getElem?_eq_getElem cu
   obtain ⟨c,k1,k2⟩:=hl.get hy
   rw [h2 _ (by rw [Nat.sub_zero]; exact hy) (Nat.zero_le _)]
   refine ⟨c,?_,k2⟩
   rw [Array.getElem?_append_left (by simp; omega)]
   simpa using k1
  ·exact absurd (h1 (by omega)) hi
 ·simp [St.init]
  omega
theorem FG {ntmps:Nat} {args:List AV} {G:List GO} (k:Nat) (cs:List AV):dO (St.init ntmps args G).boxes k≠some cs:=by
 simp [St.init,dO]
theorem cB.intro {g : FuncId} {fn : Func} {c : Code} {args : List AV} {G : List GO} {Q : AV → List GO → Prop} (hf : E.P.funcs[g]? = some fn) (hb : fn.body = some c) (hn : (fn.name == "runtime.NumGoroutine") = false)
  (h:gE E c (Th E fn Q) (St.init fn.ntmps args G)):cB E g args G Q:=by
 refine ⟨⟨fn,hf,by simp [hb],hn⟩,fun R w cs hg hl=>?_⟩
 refine callsIn_of_wp_marks hf hb trivial (wpIn_mono (h R w (fun _=>0) _ Fence.wide (Ky hg hl) rfl) ?_)
 rintro e a' w' ⟨s',R',β',hq,hr,lT,bU⟩
 have fin:(match pD s'.marks s'.G with
  | some G=>match Kv E (s'.cg G) fn with
   | some r=>Q r G
   | none=>False
  | none=>False)→LeavesInM Fence.wide 0 E.P fn a'.tmps (G9 E R w Q) a'.defers .returning w':=by
  intro hq
  split at hq
  ·rename_i G2 Zi
   split at hq
   ·rename_i r FH
    refine IC fn (G9 E R w Q) (s:=s') (G:=s'.G) hr hr.d Zi (fun S8 BR vy=>?_)
    obtain ⟨v,h1,h2⟩:=Kw BR FH
    exact ⟨v,h1,r,G2,R',hq,h2,BR.g,xY (lT.trans vy) FG⟩
   ·exact hq.elim
  ·exact hq.elim
 cases e with
 | normal=>exact fin hq
 | ret=>exact fin hq
 | exit _=>exact hq.elim
 | goto _=>exact hq.elim
 | panic _=>exact hq.elim
 | outgrown=>exact hq.elim
end intro
end Go.Am
namespace Go.Am
open Go
def St.fV (s:St) (pre:bj) (preB:cP) (G:List GO):St:=⟨pre++s.ae,preB++s.boxes,G,s.marks,s.ro,s.n⟩
def X6 (al:Bool) (dst:Option Tmp) (pre:bj):Prop:=
 pre=[]∨∃ d x,dst=some d∧(pre=[.put d x]∨(al=true∧pre=[.put d x,.kill d]))
def bT (al w:Bool) (dst:Option Tmp) (s t s' t':St):Prop:=
 ∃ pre preB G,X6 al dst pre∧(w=false→preB=[]∧G=s.G∧∃ x,s'=s.put dst x∧t'=t.put dst x)∧s'=s.fV pre preB G∧t'=t.fV pre preB G
section
variable {E:Env} {s t:St} {o:Oper}
theorem mi (s:St) (d:Tmp) (x:SV):s.put (some d) x=bif Nat.blt d s.n then s.fV [.put d x] [] s.G else s:=by
 cases h:Nat.blt d s.n <;> simp [St.put,h,St.fV]
theorem bT.put {al w:Bool} (hn:s.n=t.n) (hG:s.G=t.G) (dst:Option Tmp) (x:SV):bT al w dst s t (s.put dst x) (t.put dst x):=by
 cases dst with
 | none=>exact ⟨[],[],s.G,.inl rfl,fun _=>⟨rfl,rfl,x,rfl,rfl⟩,rfl,by rw [hG]; rfl⟩
 | some d=>
  have hx:∃ y,s.put (some d) x=s.put (some d) y∧t.put (some d) x=t.put (some d) y:=⟨x,rfl,rfl⟩
  revert hx
  generalize hs:s.put (some d) x=s'
  generalize ht:t.put (some d) x=t'
  intro hx
  rw [mi] at hs ht
  rw [← hn] at ht
  revert hs ht
  cases Nat.blt d s.n with
  | true=>exact fun hs ht=>⟨[.put d x],[],s.G,.inr ⟨d,x,rfl,.inl rfl⟩,fun _=>⟨rfl,rfl,hx⟩,hs.symm,by rw [hG]; exact ht.symm⟩
  | false=>exact fun hs ht=>⟨[],[],s.G,.inl rfl,fun _=>⟨rfl,rfl,hx⟩,hs.symm,by rw [hG]; exact ht.symm⟩
theorem bT.dR {al:Bool} (hn:s.n=t.n) (G:List GO) (dst:Option Tmp) (x:SV):bT al true dst s t ((s.cg G).put dst x) ((t.cg G).put dst x):=by
 cases dst with
 | none=>exact ⟨[],[],G,.inl rfl,fun h=>(by cases h),rfl,rfl⟩
 | some d=>
  rw [mi,mi,show (t.cg G).n=(s.cg G).n from hn.symm]
  cases Nat.blt d (s.cg G).n with
  | true=>exact ⟨[.put d x],[],G,.inr ⟨d,x,rfl,.inl rfl⟩,fun h=>(by cases h),rfl,rfl⟩
  | false=>exact ⟨[],[],G,.inl rfl,fun h=>(by cases h),rfl,rfl⟩
theorem bT.cg {al:Bool} (G:List GO) (dst:Option Tmp):bT al true dst s t (s.cg G) (t.cg G):=⟨[],[],G,.inl rfl,fun h=>(by cases h),rfl,rfl⟩
theorem bT.vW {al:Bool} (hG:s.G=t.G) (dst:Option Tmp) (d:Nat) (cs:List AV):bT al true dst s t (s.vW d cs) (t.vW d cs):=
 ⟨[],[(d,cs)],s.G,.inl rfl,fun h=>(by cases h),rfl,(by rw [hG]; rfl)⟩
theorem gU {a b:bj}:∀ {l:List Operand},(∀ y∈l,bM E a y=bM E b y)→mP E a l=mP E b l
 | [],_=>rfl
 | x :: l,h=>by
  simp only [mP]
  rw [h x (by simp),gU (l:=l) (fun y hy=>h y (by simp [hy]))]
theorem nh {a b:bj}:∀ {l:List (Nat × Operand)},(∀ p∈l,bM E a p.2=bM E b p.2)→N1 E a l=N1 E b l
 | [],_=>rfl
 | (i,x) :: l,h=>by
  simp only [N1]
  rw [h (i,x) (by simp),nh (l:=l) (fun y hy=>h y (by simp [hy]))]
theorem Aa (hG:s.G=t.G) (p:SV) (hB:∀ k off,p=.lp k off→dO s.boxes k=dO t.boxes k):nG s p=nG t p:=by
 unfold nG
 rw [hG]
 cases p with
 | lp k off=>simp only [hB k off rfl]
 | v a=>cases a <;> rfl
 | _=>rfl
theorem Dc (hG:s.G=t.G) (ty:TypeId) (p:SV) (hB:∀ k off,p=.lp k off→dO s.boxes k=dO t.boxes k):sy E s ty p=sy E t ty p:=by
 unfold sy
 rw [Aa hG p hB]
theorem vz (hG:s.G=t.G) (id f i sz:Nat) (ty:TypeId):xl E s id f i sz ty=xl E t id f i sz ty:=by
 unfold xl
 rw [hG]
theorem Dd (hG:s.G=t.G) (ty:TypeId) (p:SV) (hB:∀ k off,p=.lp k off→dO s.boxes k=dO t.boxes k):Au E s ty p=Au E t ty p:=by
 unfold Au
 split
 ·rw [vz hG]
 ·rw [Dc hG _ _ hB]
theorem De (hG:s.G=t.G) (esz:Nat) (d x:AV):sB s esz d x=sB t esz d x:=by
 unfold sB
 rw [hG]
theorem vA {f:FuncId} {dst:Option Tmp} {el:TypeId} {cs:List AV} {c:Bool} {s':St} (hn:s.n=t.n) (hG:s.G=t.G) (h:fM E f s dst el cs=some (c,s')) :
  ∃ t',fM E f t dst el cs=some (c,t')∧bT true true dst s t s' t':=by
 unfold fM at *
 cases dst with
 | none=>cases h
 | some d=>
  simp only at *
  split at h
  ·rename_i hg
   injection h with h
   injection h with h1 h2
   subst h1 h2
   rw [if_pos hg]
   refine ⟨_,rfl,?_⟩
   have:=bT.dR (al:=true) hn (s.G++[.row cs el]) (some d) (.v (.ptr s.G.length 0))
   rw [hG] at this
   have e:s.eL (.row cs el)=s.cg (t.G++[.row cs el]):=by rw [← hG]; rfl
   rw [e,hG]
   exact this
  ·rename_i hg
   rw [if_neg hg,← hn]
   split at h
   ·rename_i hb
    injection h with h
    injection h with h1 h2
    subst h1 h2
    refine ⟨_,rfl,[.put d (.lp d 0),.kill d],[(d,cs)],s.G,.inr ⟨d,_,rfl,.inr ⟨rfl,rfl⟩⟩,fun h=>(by cases h),?_,?_⟩
    ·simp [St.put,St.vW,St.kill,hb,St.fV]
    ·simp only [St.put,St.vW,St.kill,← hn,hb,St.fV,hG]
     rfl
   ·cases h
theorem Df {ty:TypeId} {p x:SV} {s':St} {al:Bool} {dst:Option Tmp} (hG:s.G=t.G) (hB:∀ k off,p=.lp k off→dO s.boxes k=dO t.boxes k) (h:ki E s ty p x=some s') :
  ∃ t',ki E t ty p x=some t'∧bT al true dst s t s' t':=by
 unfold ki at *
 split at h
 ·split at h
  ·rename_i hc
   rw [if_pos hc]
   split at h
   ·rw [← hB _ _ rfl]
    split at h
    ·split at h
     ·rename_i EI
      cases h
      simp only [EI,if_true]
      exact ⟨_,rfl,.vW hG _ _ _⟩
     ·cases h
    ·cases h
   ·rw [← hG]
    split at h
    ·split at h
     ·rename_i EI
      cases h
      simp only [EI,if_true]
      exact ⟨_,rfl,.cg _ _⟩
     ·cases h
    ·cases h
   ·cases h
  ·cases h
 ·cases h
theorem Dg {ty:TypeId} {p x:SV} {c:Bool} {s':St} {al:Bool} {dst:Option Tmp} (hG:s.G=t.G) (hB:∀ k off,p=.lp k off→dO s.boxes k=dO t.boxes k) (h:kj E s ty p x=some (c,s')) :
  ∃ t',kj E t ty p x=some (c,t')∧bT al true dst s t s' t':=by
 unfold kj at *
 split at h
 ·rw [← hG]
  split at h
  ·split at h
   ·rename_i h1 h2 hc
    simp only [hc,if_true]
    split at h
    ·rename_i EI
     injection h with h; injection h with e1 e2
     subst e1; subst e2
     simp only [EI,if_true]
     exact ⟨_,rfl,.cg _ _⟩
    ·rename_i EI
     rw [if_neg EI,← vz hG]
     split at h
     ·rename_i hg
      split at h
      ·rename_i hc3
       injection h with h; injection h with e1 e2
       subst e1; subst e2
       simp only [hc3,if_true]
       exact ⟨_,rfl,.cg _ _⟩
      ·cases h
     ·cases h
   ·cases h
  ·cases h
 ·split at h
  ·rename_i s1 hs
   injection h with h; injection h with e1 e2
   subst e1; subst e2
   obtain ⟨t',h3,h4⟩:=Df (al:=al) (dst:=dst) hG hB hs
   simp only [h3]
   exact ⟨_,rfl,h4⟩
  ·cases h
def bZ:Op→Bool
 | .alloc _=>true
 | .box _ _=>true
 | _=>false
def tQ:Op→Bool
 | .move _ | .assign _ | .pick _ _ _ | .build _ _ | .buildSlice _ _ _ | .load _ _ | .binOp _ _ _ _ _ | .unOp _ _ _ | .convert _ _ _ | .makeFunc _ _ _ | .fieldAddr _ _ _ | .field _ _ _
 | .indexAddr _ _ _ | .index _ _ _ | .slice _ _ _ _ _ | .extract _ _ | .lookup _ _ _ _ | .nilCheck _=>true
 | .call { callee:=.builtin .len,.. }=>true
 | .call { callee:=.builtin .max,.. }=>true
 | .call { callee:=.builtin .min,.. }=>true
 | _=>false
def UN:Op→Bool
 | .load _ _=>true
 | .lookup _ _ _ _=>true
 | .call _=>true
 | .convert _ _ _=>true
 | _=>false
def OL:Builtin→Bool
 | .append | .copy | .clear=>true
 | _=>false
theorem Ab {dst:Option Tmp} {b:Builtin} {l:List AV} {tys:List TypeId} {c:Bool} {s':St} {al:Bool} (hn:s.n=t.n) (hG:s.G=t.G) (h:bV E s dst b l tys=some (c,s')) :
  ∃ t',bV E t dst b l tys=some (c,t')∧bT al (OL b) dst s t s' t':=by
 obtain ⟨sl,bx,G,m,ro,n⟩:=s
 obtain ⟨X7,JV,G',m',mQ,n'⟩:=t
 have hc:=fun esz d x=>De (s:=⟨sl,bx,G,m,ro,n⟩) (t:=⟨X7,JV,G',m',mQ,n'⟩) hG esz d x
 simp only at hn hG
 subst hn hG
 unfold bV at h ⊢
 simp only [← hc]
 cases b
 all_goals (try (cases h; done))
 all_goals (try simp only at h ⊢)
 all_goals (try (split at h <;> first | (cases h; done) | simp only at h ⊢))
 all_goals (repeat' (split at h))
 all_goals (first | (cases h; done) | skip)
 all_goals (injection h with h; injection h with h1 h2; subst h1 h2)
 all_goals (try simp only [if_true, *])
 all_goals (first | exact ⟨_,rfl,.put (by rfl) (by rfl) _ _⟩ | exact ⟨_,rfl,.dR (by rfl) _ _ _⟩ | exact ⟨_,rfl,.cg _ _⟩)
theorem xZ (hG:s.G=t.G) (a b:TypeId) (x:SV):mU E s a b x=mU E t a b x:=by
 unfold mU
 rw [hG]
theorem Ac (hG:s.G=t.G) (ty:TypeId) (m k:SV):mc E s ty m k=mc E t ty m k:=by
 have:mapOf s=mapOf t:=by funext m; unfold mapOf; rw [hG]
 unfold mc jR
 rw [this,hG]
theorem s5 {ty:TypeId} {m k x:SV} {s':St} {al:Bool} {dst:Option Tmp} (hG:s.G=t.G) (h:fN E s ty m k x=some s') :
  ∃ t',fN E t ty m k x=some t'∧bT al true dst s t s' t':=by
 unfold fN at *
 rw [← hG]
 repeat' (split at h)
 all_goals (first | (cases h; done) | skip)
 cases h
 simp only [*]
 exact ⟨_,rfl,.cg _ _⟩
theorem FI {dst:Option Tmp} {x:SV} {s':St} {al:Bool} (hn:s.n=t.n) (hG:s.G=t.G) (h:me s dst x=some s') :
  ∃ t',me t dst x=some t'∧bT al true dst s t s' t':=by
 unfold me at *
 rw [← hG]
 split at h
 ·split at h
  ·rename_i l pos hg
   cases hb:Nat.blt pos l.length with
   | true=>
    rw [hb] at h
    simp only [cond_true] at h ⊢
    cases h
    exact ⟨_,rfl,.dR hn _ _ _⟩
   | false=>
    rw [hb] at h
    simp only [cond_false] at h ⊢
    cases h
    obtain ⟨pre,preB,G,p1,p2,p3⟩:=bT.put (al:=al) (w:=true) hn hG dst (.v (.bp [.bool false]))
    exact ⟨_,rfl,pre,preB,G,p1,p2,p3⟩
  ·cases h
 ·cases h
theorem nY {f:FuncId} {r:Bool × St} (h:ib E f s o=some r):∃ args tys,o.op=.call { callee:=.builtin .append,args:=args,argTypes:=tys }:=by
 unfold ib at h
 split at h
 ·split at h
  ·split at h
   ·rename_i args tys ho
    exact ⟨args,tys,ho⟩
   ·cases h
  ·cases h
 ·cases h
theorem yd {f:FuncId} {c:Bool} {s':St} {al:Bool} (hn:s.n=t.n) (hG:s.G=t.G) (fh:∀ y∈o.op.operands,bM E s.ae y=bM E t.ae y)
  (h:ib E f s o=some (c,s')):∃ t',ib E f t o=some (c,t')∧bT al true o.dst s t s' t':=by
 obtain ⟨args,tys,ho⟩:=nY h
 have h1:mP E s.ae args.toList=mP E t.ae args.toList:=gU fun y hy=>fh y (by rw [ho]; simp [Op.operands,Call.operands]; simpa using hy)
 unfold ib at h ⊢
 rw [ho] at h ⊢
 simp only [h1,hG] at h ⊢
 repeat' (split at h)
 all_goals (first | (cases h; done) | skip)
 injection h with h; injection h with h2 h3
 subst h2 h3
 simp only [*,if_true]
 refine ⟨_,rfl,?_⟩
 exact bT.dR hn _ _ _
theorem wq {f:FuncId} (hn:s.n=t.n) (hG:s.G=t.G) (fh:∀ y∈o.op.operands,bM E s.ae y=bM E t.ae y) (h:ib E f s o=none):ib E f t o=none:=by
 cases ht:ib E f t o with
 | none=>rfl
 | some r=>
  obtain ⟨t',h1,_⟩:=yd (s:=t) (t:=s) (al:=false) hn.symm hG.symm (fun y hy=>(fh y hy).symm) (c:=r.1) (s':=r.2) ht
  rw [h] at h1
  cases h1
theorem s6 {f:FuncId} {c:Bool} {s':St} (hn:s.n=t.n) (hG:s.G=t.G) (hB:∀ k off,(∃ y∈o.op.operands,bM E s.ae y=.lp k off)→dO s.boxes k=dO t.boxes k) (fh:∀ y∈o.op.operands,bM E s.ae y=bM E t.ae y)
  (h:ap E f s o=some (c,s')):∃ t',ap E f t o=some (c,t')∧bT (bZ o.op) (!tQ o.op) o.dst s t s' t':=by
 obtain ⟨dst,op,ty,pos,after,guard⟩:=o
 cases op
 case move x=>
  simp only [ap,fh x (by simp [Op.operands])] at h ⊢
  split at h
  all_goals (injection h with h; injection h with h1 h2; subst h1 h2; (try simp only [*]); exact ⟨_,rfl,.put hn hG _ _⟩)
 case assign x=>
  simp only [ap,fh x (by simp [Op.operands])] at h ⊢
  split at h
  all_goals (injection h with h; injection h with h1 h2; subst h1 h2; (try simp only [*]); exact ⟨_,rfl,.put hn hG _ _⟩)
 case pick x y z=>
  simp only [ap,fh x (by simp [Op.operands]),fh y (by simp [Op.operands]),fh z (by simp [Op.operands])] at h ⊢
  split at h
  ·injection h with h; injection h with h1 h2; subst h1 h2; (try simp only [*]); exact ⟨_,rfl,.put hn hG _ _⟩
  ·cases h
 case alloc e=>
  simp only [ap] at h ⊢
  repeat' (split at h)
  all_goals (first | (cases h; done) | skip)
  simp only [*]
  exact vA hn hG h
 case box e x=>
  simp only [ap,fh x (by simp [Op.operands])] at h ⊢
  repeat' (split at h)
  all_goals (first | (cases h; done) | skip)
  simp only [*]
  exact vA hn hG h
 case build ty ps=>
  have he:nH E s ty ps.toList=nH E t ty ps.toList:=by
   unfold nH
   rw [nh (fun p hp=>fh p.2 (by simp only [Op.operands,List.mem_toArray,List.mem_map]; exact ⟨p,hp,rfl⟩))]
  simp only [ap,he] at h ⊢
  split at h
  ·injection h with h; injection h with h1 h2; subst h1 h2; (try simp only [*]); exact ⟨_,rfl,.put hn hG _ _⟩
  ·cases h
 case buildSlice ty len ps=>
  have he:cj E s ty len ps.toList=cj E t ty len ps.toList:=by
   unfold cj
   rw [nh (fun p hp=>fh p.2 (by simp only [Op.operands,List.mem_toArray,List.mem_map]; exact ⟨p,hp,rfl⟩))]
  simp only [ap,he] at h ⊢
  split at h
  ·injection h with h; injection h with h1 h2; subst h1 h2; (try simp only [*]); exact ⟨_,rfl,.put hn hG _ _⟩
  ·cases h
 case load ty x=>
  simp only [ap,fh x (by simp [Op.operands])] at h ⊢
  rw [Dd hG ty _ (fun k off e=>hB k off ⟨x,by simp [Op.operands],by rw [fh x (by simp [Op.operands])]; exact e⟩)] at h
  split at h
  ·injection h with h; injection h with h1 h2; subst h1 h2; (try simp only [*]); exact ⟨_,rfl,.put hn hG _ _⟩
  ·cases h
 case store ty x y=>
  simp only [ap,fh x (by simp [Op.operands]),fh y (by simp [Op.operands])] at h ⊢
  split at h
  ·rename_i s1 hs
   injection h with h; injection h with h1 h2; subst h1 h2
   obtain ⟨t',h3,h4⟩:=Dg (al:=false) (dst:=none) hG (fun k off e=>hB k off ⟨x,by simp [Op.operands],by rw [fh x (by simp [Op.operands])]; exact e⟩) hs
   rw [h3]
   exact ⟨_,rfl,h4⟩
  ·cases h
 case binOp op a x y b=>
  simp only [ap,fh x (by simp [Op.operands]),fh y (by simp [Op.operands])] at h ⊢
  repeat' (split at h)
  all_goals (first | (cases h; done) | skip)
  all_goals (injection h with h; injection h with h1 h2; subst h1 h2; (try simp only [*]); exact ⟨_,rfl,.put hn hG _ _⟩)
 case unOp op a x=>
  simp only [ap,fh x (by simp [Op.operands])] at h ⊢
  repeat' (split at h)
  all_goals (first | (cases h; done) | skip)
  all_goals (injection h with h; injection h with h1 h2; subst h1 h2; (try simp only [*]); exact ⟨_,rfl,.put hn hG _ _⟩)
 case nilCheck x=>
  simp only [ap,fh x (by simp [Op.operands])] at h ⊢
  repeat' (split at h)
  all_goals (first | (cases h; done) | skip)
  all_goals (injection h with h; injection h with h1 h2; subst h1 h2; (try simp only [*]); exact ⟨_,rfl,.put hn hG _ _⟩)
 case convert a b x=>
  simp only [ap,fh x (by simp [Op.operands]),xZ hG] at h ⊢
  repeat' (split at h)
  all_goals (first | (cases h; done) | skip)
  all_goals (injection h with h; injection h with h1 h2; subst h1 h2; (try simp only [*]); exact ⟨_,rfl,.put hn hG _ _⟩)
 case makeFunc fo a b=>
  cases fo with
  | func g=>
   have h1:mP E s.ae a.toList=mP E t.ae a.toList:=gU fun y hy=>fh y (by simp only [Op.operands,Array.mem_append]; exact .inl (by simpa using hy))
   have h2:mP E s.ae b.toList=mP E t.ae b.toList:=gU fun y hy=>fh y (by simp only [Op.operands,Array.mem_append]; exact .inr (by simpa using hy))
   simp only [ap,h1,h2] at h ⊢
   repeat' (split at h)
   all_goals (first | (cases h; done) | skip)
   all_goals (injection h with h; injection h with h1 h2; subst h1 h2; (try simp only [*]); exact ⟨_,rfl,.put hn hG _ _⟩)
  | _=>simp [ap] at h
 case fieldAddr a x j=>
  simp only [ap,fh x (by simp [Op.operands])] at h ⊢
  repeat' (split at h)
  all_goals (first | (cases h; done) | skip)
  all_goals (injection h with h; injection h with h1 h2; subst h1 h2; (try simp only [*]); exact ⟨_,rfl,.put hn hG _ _⟩)
 case field a x j=>
  simp only [ap,fh x (by simp [Op.operands])] at h ⊢
  repeat' (split at h)
  all_goals (first | (cases h; done) | skip)
  all_goals (injection h with h; injection h with h1 h2; subst h1 h2; (try simp only [*]); exact ⟨_,rfl,.put hn hG _ _⟩)
 case indexAddr a x y=>
  simp only [ap,fh x (by simp [Op.operands]),fh y (by simp [Op.operands])] at h ⊢
  repeat' (split at h)
  all_goals (first | (cases h; done) | skip)
  all_goals (injection h with h; injection h with h1 h2; subst h1 h2; (try simp only [*]); exact ⟨_,rfl,.put hn hG _ _⟩)
 case index a x y=>
  simp only [ap,fh x (by simp [Op.operands]),fh y (by simp [Op.operands])] at h ⊢
  repeat' (split at h)
  all_goals (first | (cases h; done) | skip)
  all_goals (injection h with h; injection h with h1 h2; subst h1 h2; (try simp only [*]); exact ⟨_,rfl,.put hn hG _ _⟩)
 case slice a x lo hi mx=>
  have h1:nI E s.ae lo=nI E t.ae lo:=by
   cases lo with
   | none=>rfl
   | some y=>simp only [nI]; rw [fh y (by simp [Op.operands])]
  have h2:nI E s.ae hi=nI E t.ae hi:=by
   cases hi with
   | none=>rfl
   | some y=>simp only [nI]; rw [fh y (by simp [Op.operands])]
  simp only [ap,fh x (by simp [Op.operands]),h1,h2] at h ⊢
  repeat' (split at h)
  all_goals (first | (cases h; done) | skip)
  all_goals (injection h with h; injection h with h1 h2; subst h1 h2; (try simp only [*]); exact ⟨_,rfl,.put hn hG _ _⟩)
 case extract x i=>
  simp only [ap,fh x (by simp [Op.operands])] at h ⊢
  repeat' (split at h)
  all_goals (first | (cases h; done) | skip)
  all_goals (injection h with h; injection h with h1 h2; subst h1 h2; (try simp only [*]); exact ⟨_,rfl,.put hn hG _ _⟩)
 case makeSlice ty x y=>
  simp only [ap,fh x (by simp [Op.operands]),fh y (by simp [Op.operands])] at h ⊢
  repeat' (split at h)
  all_goals (first | (cases h; done) | skip)
  all_goals (injection h with h; injection h with h1 h2; subst h1 h2)
  all_goals (simp only [*])
  all_goals (refine ⟨_,rfl,?_⟩)
  all_goals (have e:∀ o,t.eL o=t.cg (s.G++[o]):=fun o=>by rw [hG]; rfl)
  all_goals (rw [e,← hG])
  all_goals (exact bT.dR (al:=false) hn _ dst _)
 case lookup ty x y ok=>
  simp only [ap,fh x (by simp [Op.operands]),fh y (by simp [Op.operands]),Ac hG] at h ⊢
  split at h
  ·injection h with h; injection h with h1 h2; subst h1 h2; (try simp only [*]); exact ⟨_,rfl,.put hn hG _ _⟩
  ·cases h
 case mapUpdate ty x y z=>
  simp only [ap,fh x (by simp [Op.operands]),fh y (by simp [Op.operands]),fh z (by simp [Op.operands])] at h ⊢
  split at h
  ·rename_i s1 hs
   injection h with h; injection h with h1 h2; subst h1 h2
   obtain ⟨t',h3,h4⟩:=s5 (al:=false) (dst:=none) hG hs
   rw [h3]
   exact ⟨_,rfl,h4⟩
  ·cases h
 case insert ty x y z=>
  simp only [ap,fh x (by simp [Op.operands]),fh y (by simp [Op.operands]),fh z (by simp [Op.operands])] at h ⊢
  split at h
  ·rename_i s1 hs
   injection h with h; injection h with h1 h2; subst h1 h2
   obtain ⟨t',h3,h4⟩:=s5 (al:=false) (dst:=none) hG hs
   rw [h3]
   exact ⟨_,rfl,h4⟩
  ·cases h
 case entry x=>
  simp only [ap,fh x (by simp [Op.operands])] at h ⊢
  have e:tX E s (bM E t.ae x)=tX E t (bM E t.ae x):=by unfold tX; rw [hG]
  rw [e] at h
  split at h
  ·injection h with h; injection h with h1 h2; subst h1 h2; (try simp only [*]); exact ⟨_,rfl,.put hn hG _ _⟩
  ·cases h
 case mapEntry ty x y=>
  simp only [ap,fh x (by simp [Op.operands]),fh y (by simp [Op.operands])] at h ⊢
  unfold gP at h ⊢
  rw [← hG]
  repeat' (split at h)
  all_goals (first | (cases h; done) | skip)
  rename_i kR
  repeat' (split at kR)
  all_goals (first | (cases kR; done) | skip)
  injection kR with kR; injection kR with h3 kR; injection kR with h4 h5
  injection h with h; injection h with h1 h2; subst h1 h2 h3 h4 h5
  simp only [*,if_true]
  exact ⟨_,rfl,bT.dR (al:=false) hn _ dst _⟩
 case entryStore ty x y z=>
  simp only [ap,fh x (by simp [Op.operands]),fh y (by simp [Op.operands]),fh z (by simp [Op.operands])] at h ⊢
  unfold fe at h ⊢
  rw [← hG]
  repeat' (split at h)
  all_goals (first | (cases h; done) | skip)
  rename_i kR
  repeat' (split at kR)
  all_goals (first | (cases kR; done) | skip)
  injection kR with kR; injection kR with h3 h5
  injection h with h; injection h with h1 h2; subst h1 h2 h3 h5
  simp only [*]
  exact ⟨_,rfl,.cg _ _⟩
 case range ty x=>
  simp only [ap,fh x (by simp [Op.operands])] at h ⊢
  repeat' (split at h)
  all_goals (first | (cases h; done) | skip)
  ·injection h with h; injection h with h1 h2; subst h1 h2
   (try simp only [*])
   refine ⟨_,rfl,?_⟩
   have e:∀ o,t.eL o=t.cg (s.G++[o]):=fun o=>by rw [hG]; rfl
   rw [e,← hG]
   exact bT.dR (al:=false) hn _ dst _
  ·rename_i hk hg
   injection h with h; injection h with h1 h2; subst h1 h2
   have rL:=hg
   rw [hG] at rL
   simp only [hk,rL]
   refine ⟨_,rfl,?_⟩
   have e:∀ o,t.eL o=t.cg (s.G++[o]):=fun o=>by rw [hG]; rfl
   rw [e,← hG]
   exact bT.dR (al:=false) hn _ dst _
 case next x b=>
  cases b with
  | false=>simp [ap] at h
  | true=>
   simp only [ap,fh x (by simp [Op.operands])] at h ⊢
   split at h
   ·rename_i s1 hs
    injection h with h; injection h with h1 h2; subst h1 h2
    obtain ⟨t',h3,h4⟩:=FI (al:=false) hn hG hs
    rw [h3]
    exact ⟨_,rfl,h4⟩
   ·cases h
 case makeMap ty r=>
  cases r with
  | none=>
   simp only [ap] at h ⊢
   injection h with h; injection h with h1 h2; subst h1 h2
   refine ⟨_,rfl,?_⟩
   have:=bT.dR (al:=false) hn (s.G++[.map []]) dst (.v (.map s.G.length))
   have e:∀ o,t.eL o=t.cg (s.G++[o]):=fun o=>by rw [hG]; rfl
   rw [e,← hG]
   exact this
  | some _=>simp [ap] at h
 case call cl=>
  obtain ⟨callee,args,tys⟩:=cl
  cases callee with
  | builtin b=>
   have h1:mP E s.ae args.toList=mP E t.ae args.toList:=gU fun y hy=>fh y (by simp [Op.operands,Call.operands]; simpa using hy)
   cases hf:ib E f s { dst:=dst,op:=.call { callee:=.builtin b,args:=args,argTypes:=tys },type:=ty,pos:=pos,after:=after,guard:=guard } with
   | some r=>
    simp only [ap,hf] at h
    obtain ⟨t',q1,q2⟩:=yd (al:=bZ (.call { callee:=.builtin b,args:=args,argTypes:=tys })) hn hG fh (c:=r.1) (s':=r.2) hf
    cases h
    obtain ⟨a2,t2,ho⟩:=nY hf
    cases ho
    refine ⟨t',by simp only [ap,q1],?_⟩
    exact q2
   | none=>
   have Y8:=wq hn hG fh hf
   simp only [ap,hf,Y8,h1] at h ⊢
   split at h
   ·(try simp only [*])
    obtain ⟨t',h3,h4⟩:=Ab (al:=false) hn hG h
    refine ⟨t',h3,?_⟩
    have:(!tQ (.call { callee:=.builtin b,args:=args,argTypes:=tys }))=OL b∨OL b=false:=by cases b <;> simp [tQ,OL]
    rcases this with this | this
    ·rw [this]; exact h4
    ·obtain ⟨pre,preB,G,p1,p2,p3⟩:=h4
     exact ⟨pre,preB,G,p1,fun _=>p2 this,p3⟩
   ·cases h
  | _=>simp [ap] at h
 all_goals (simp [ap] at h)
theorem iS {f:FuncId} {c:Bool} {s':St} (hn:s.n=t.n) (hG:s.G=t.G) (hB:dO s.boxes=dO t.boxes) (fh:∀ y∈o.op.operands,bM E s.ae y=bM E t.ae y)
  (h:ap E f s o=some (c,s')):∃ t',ap E f t o=some (c,t')∧bT (bZ o.op) (!tQ o.op) o.dst s t s' t':=
 s6 hn hG (fun k _ _=>by rw [hB]) fh h
end
end Go.Am
namespace Go.Am
open Go
structure qp (s t:St):Prop where
 l:lk s.ae=lk t.ae
 b:dO s.boxes=dO t.boxes
 G:s.G=t.G
 m:s.marks=t.marks
 ro:s.ro=t.ro
 n:s.n=t.n
theorem qp.refl (s:St):qp s s:=⟨rfl,rfl,rfl,rfl,rfl,rfl⟩
theorem qp.symm {s t:St} (h:qp s t):qp t s:=⟨h.l.symm,h.b.symm,h.G.symm,h.m.symm,h.ro.symm,h.n.symm⟩
theorem qp.trans {s t u:St} (h:qp s t) (k:qp t u):qp s u:=⟨h.l.trans k.l,h.b.trans k.b,h.G.trans k.G,h.m.trans k.m,h.ro.trans k.ro,h.n.trans k.n⟩
theorem ni {a b:bj} {e:Nat} (h:lk a e=lk b e):∀ pre:bj,lk (pre++a) e=lk (pre++b) e
 | []=>h
 | .put d x :: pre=>by
  simp only [List.cons_append,lk]
  rw [ni h pre]
 | .kill d :: pre=>by
  simp only [List.cons_append,lk]
  rw [ni h pre]
theorem ye {a b:cP} {e:Nat} (h:dO a e=dO b e):∀ pre:cP,dO (pre++a) e=dO (pre++b) e
 | []=>h
 | (d,x) :: pre=>by
  simp only [List.cons_append,dO]
  rw [ye h pre]
theorem qp.fV {s t:St} (h:qp s t) (pre:bj) (preB:cP) (G:List GO):qp (s.fV pre preB G) (t.fV pre preB G):=
 ⟨funext fun e=>ni (by rw [h.l]) pre,funext fun e=>ye (by rw [h.b]) preB,rfl,h.m,h.ro,h.n⟩
theorem Kz {E:Env} {a b:bj} {x:Operand} (h:∀ t,x=.tmp t→lk a t=lk b t):bM E a x=bM E b x:=by
 cases x with
 | tmp t=>exact h t rfl
 | _=>rfl
theorem qp.bM {E:Env} {s t:St} (h:qp s t) (x:Operand):bM E s.ae x=bM E t.ae x:=Kz fun e _=>by rw [h.l]
section AW
variable {E:Env} {R:an} {w:World} {β:Nat→Nat} {s t:St} {a:Act}
theorem bo.eqv (h:bo E R w β s a) (e:qp s t):bo E R w β t a where
 g:=by rw [← e.G]; exact h.g
 b:=⟨fun k cs hk=>h.b.box k cs (by rw [e.b]; exact hk),fun k k' c c' h1 h2=>h.b.inj k k' c c' (by rw [e.b]; exact h1) (by rw [e.b]; exact h2)⟩
 t:=fun i hi=>by
  rw [← e.l] at hi ⊢
  exact h.t i hi
 n:=by rw [← e.n]; exact h.n
 d:=by rw [← e.m]; exact h.d
theorem wK {bx JV:cP} (h:dO bx=dO JV) {b:Nat} (k:Own R β bx b):Own R β JV b:=by
 rcases k with k | ⟨j,cs,h1,h2⟩
 ·exact .inl k
 ·exact .inr ⟨j,cs,by rw [← h]; exact h1,h2⟩
theorem Step.eqv {R':an} {w':World} {β':Nat→Nat} {bx JV cx cx':cP} (h:Step R w β bx R' w' β' JV) (h1:dO bx=dO cx) (h2:dO JV=dO cx'):Step R w β cx R' w' β' cx':=
 ⟨h.ext,h.os,h.tape,h.output,h.size,fun b hb hn=>h.bJ b hb (fun ho=>hn (wK h1 ho)),fun b hb ho=>wK h1 (h.own b hb (wK h2.symm ho)),fun b o hi hb hn=>h.im b o hi hb (fun ho=>hn (wK h1 ho))⟩
end AW
section ops
variable {E:Env} {s t:St} {f:FuncId} {o:Oper} {K K':St→Prop}
def Inv (K:St→Prop):Prop:=∀ s t,qp s t→K s→K t
theorem Dh {op:Op} (h:tQ op=true):bZ op=false:=by
 cases op <;> simp_all [tQ,bZ]
theorem uv (hn:s.n=t.n) (hG:s.G=t.G) (hB:dO s.boxes=dO t.boxes) (fh:∀ y∈o.op.operands,bM E s.ae y=bM E t.ae y) (h:kH E f o K s)
  (hK:∀ pre preB G,X6 (bZ o.op) o.dst pre→(tQ o.op=true→preB=[]∧G=s.G)→K (s.fV pre preB G)→K' (t.fV pre preB G)):kH E f o K' t:=by
 unfold kH at h ⊢
 split at h
 ·rename_i x args tys ho
  have h1:bM E s.ae x=bM E t.ae x:=fh x (by rw [ho]; simp [Op.operands,Call.operands])
  have h2:mP E s.ae args.toList=mP E t.ae args.toList:=gU fun y hy=>fh y (by rw [ho]; simp [Op.operands,Call.operands]; exact .inr (by simpa using hy))
  try simp only [ho]
  rw [← h1,← h2,← hG]
  split at h
  ·refine cB.mono h fun r G' hk=>?_
   obtain ⟨pre,preB,G,p1,p2,p3,p4⟩:=bT.dR (s:=s) (t:=t) (al:=bZ o.op) hn G' o.dst (.v r)
   rw [p3] at hk
   rw [p4]
   exact hK pre preB G p1 (fun e=>by rw [ho] at e; simp [tQ] at e) hk
  ·refine li.mono h fun r G' hk=>?_
   obtain ⟨pre,preB,G,p1,p2,p3,p4⟩:=bT.dR (s:=s) (t:=t) (al:=bZ o.op) hn G' o.dst (.v (.bool r))
   rw [p3] at hk
   rw [p4]
   exact hK pre preB G p1 (fun e=>by rw [ho] at e; simp [tQ] at e) hk
  ·exact h.elim
 ·exact h.elim
 ·split at h
  ·rename_i c s' hs
   obtain ⟨t',h1,pre,preB,G,p1,p2,p3,p4⟩:=iS hn hG hB fh hs
   rw [h1]
   obtain ⟨rfl,hk⟩:=h.out
   refine dV.mk rfl ?_
   rw [p3] at hk
   rw [p4]
   exact hK pre preB G p1 (fun e=>⟨(p2 (by simp [e])).1,(p2 (by simp [e])).2.1⟩) hk
  ·exact h.elim
theorem uw (h:kH E f o K s) (hK:∀ s,K s→K' s):kH E f o K' s:=
 uv rfl rfl rfl (fun _ _=>rfl) h fun _ _ _ _ _ hk=>hK _ hk
theorem yf (h:kH E f o K s) (e:qp s t) (hK:Inv K):kH E f o K t:=
 uv e.n e.G e.b (fun y _=>e.bM y) h fun _ _ _ _ _ hk=>hK _ _ (e.fV _ _ _) hk
def CB (ops:List Oper) (s:St) (o:Oper):Option Bool:=match o.guard with
 | none=>some true
 | some (j,want)=>match pA ops j with
  | some d=>match lk s.ae d with
   | .v (.bool b)=>some (b == want)
   | .v (.bp [])=>some false
   | _=>none
  | none=>none
theorem Di (s:St) {d:Tmp} {x:SV} (h:lk s.ae d=x):qp s (s.put (some d) x):=by
 simp only [St.put]
 split
 ·refine ⟨funext fun e=>?_,rfl,rfl,rfl,rfl,rfl⟩
  by_cases k:d=e
  ·subst k; rw [aG]; exact h
  ·rw [aW k]
 ·exact qp.refl s
theorem qp.put {s t:St} (h:qp s t) (d:Option Tmp) (x:SV):qp (s.put d x) (t.put d x):=by
 obtain ⟨pre,preB,G,_,_,p3,p4⟩:=bT.put (s:=s) (t:=t) (al:=false) (w:=false) h.n h.G d x
 rw [p3,p4]
 exact h.fV _ _ _
theorem gG {ops:List Oper} (hK:Inv K):cp E f ops o K s↔(CB ops s o=some true∧kH E f o K s)∨(CB ops s o=some false∧K (s.put o.dst (.v gw))):=by
 unfold cp CB
 cases hg:o.guard with
 | none=>simp
 | some p=>
  obtain ⟨j,want⟩:=p
  simp only
  cases hd:pA ops j with
  | none=>simp
  | some d=>
   simp only
   cases hl:lk s.ae d with
   | none=>simp
   | lp _ _=>simp
   | v a=>
    cases a with
    | bool b=>
     have e1:b=want→qp s (s.put (some d) (.v (.bool want))):=fun e=>Di s (by rw [hl,e])
     have e2:b=(!want)→qp s (s.put (some d) (.v (.bool (!want)))):=fun e=>Di s (by rw [hl,e])
     constructor
     ·intro ⟨h1,h2⟩
      by_cases e:b=want
      ·exact .inl ⟨by simp [e],yf (h1 e) (e1 e).symm hK⟩
      ·have e':b=(!want):=by cases b <;> cases want <;> simp_all
       exact .inr ⟨by simp [e],hK _ _ ((e2 e').symm.put _ _) (h2 e')⟩
     ·rintro (⟨h1,h2⟩ | ⟨h1,h2⟩)
      ·have e:b=want:=by simpa using h1
       exact ⟨fun e=>yf h2 (e1 e) hK,fun e'=>by subst e; cases b <;> cases e'⟩
      ·have e:¬ b=want:=by simpa using h1
       exact ⟨fun k=>absurd k e,fun e'=>hK _ _ ((e2 e').put _ _) h2⟩
    | bp vs=>cases vs <;> simp
    | _=>simp
theorem cq {ops:List Oper} (h:cp E f ops o K s) (hK:∀ s,K s→K' s):cp E f ops o K' s:=by
 unfold cp at h ⊢
 split at h
 ·exact uw h hK
 ·split at h
  ·exact h.elim
  ·split at h
   ·exact ⟨fun e=>uw (h.1 e) hK,fun e=>hK _ (h.2 e)⟩
   ·exact hK _ h
   ·exact h.elim
theorem BT {ops:List Oper} (e:qp s t):CB ops s o=CB ops t o:=by
 unfold CB
 rw [e.l]
theorem Dj {ops:List Oper} (hK:Inv K):Inv (cp E f ops o K):=fun s t e h=>by
 rw [gG hK] at h ⊢
 rcases h with ⟨h1,h2⟩ | ⟨h1,h2⟩
 ·exact .inl ⟨by rw [← BT e]; exact h1,yf h2 e hK⟩
 ·exact .inr ⟨by rw [← BT e]; exact h1,hK _ _ (e.put _ _) h2⟩
end ops
end Go.Am
namespace Go.Am
open Go
def KA (dst:Option Tmp) (s t s' t':St):Prop:=∃ x,s'=s.put dst x∧t'=t.put dst x
section
variable {E:Env} {s t:St} {o:Oper}
theorem KA.put (_:s.n=t.n) (dst:Option Tmp) (x:SV):KA dst s t (s.put dst x) (t.put dst x):=⟨x,rfl,rfl⟩
theorem Dk {f:FuncId} {c:Bool} {s':St} (hN:tQ o.op=true) (hR:UN o.op=false) (hn:s.n=t.n) (fh:∀ y∈o.op.operands,bM E s.ae y=bM E t.ae y)
  (h:ap E f s o=some (c,s')):∃ t',ap E f t o=some (c,t')∧KA o.dst s t s' t':=by
 obtain ⟨dst,op,ty,pos,after,guard⟩:=o
 cases op
 case move x=>
  simp only [ap,fh x (by simp [Op.operands])] at h ⊢
  split at h
  all_goals (injection h with h; injection h with h1 h2; subst h1 h2; (try simp only [*]); exact ⟨_,rfl,.put hn _ _⟩)
 case assign x=>
  simp only [ap,fh x (by simp [Op.operands])] at h ⊢
  split at h
  all_goals (injection h with h; injection h with h1 h2; subst h1 h2; (try simp only [*]); exact ⟨_,rfl,.put hn _ _⟩)
 case pick x y z=>
  simp only [ap,fh x (by simp [Op.operands]),fh y (by simp [Op.operands]),fh z (by simp [Op.operands])] at h ⊢
  split at h
  ·injection h with h; injection h with h1 h2; subst h1 h2; (try simp only [*]); exact ⟨_,rfl,.put hn _ _⟩
  ·cases h
 case build ty ps=>
  have he:nH E s ty ps.toList=nH E t ty ps.toList:=by
   unfold nH
   rw [nh (fun p hp=>fh p.2 (by simp only [Op.operands,List.mem_toArray,List.mem_map]; exact ⟨p,hp,rfl⟩))]
  simp only [ap,he] at h ⊢
  split at h
  ·injection h with h; injection h with h1 h2; subst h1 h2; (try simp only [*]); exact ⟨_,rfl,.put hn _ _⟩
  ·cases h
 case buildSlice ty len ps=>
  have he:cj E s ty len ps.toList=cj E t ty len ps.toList:=by
   unfold cj
   rw [nh (fun p hp=>fh p.2 (by simp only [Op.operands,List.mem_toArray,List.mem_map]; exact ⟨p,hp,rfl⟩))]
  simp only [ap,he] at h ⊢
  split at h
  ·injection h with h; injection h with h1 h2; subst h1 h2; (try simp only [*]); exact ⟨_,rfl,.put hn _ _⟩
  ·cases h
 case binOp op a x y b=>
  simp only [ap,fh x (by simp [Op.operands]),fh y (by simp [Op.operands])] at h ⊢
  repeat' (split at h)
  all_goals (first | (cases h; done) | skip)
  all_goals (injection h with h; injection h with h1 h2; subst h1 h2; (try simp only [*]); exact ⟨_,rfl,.put hn _ _⟩)
 case unOp op a x=>
  simp only [ap,fh x (by simp [Op.operands])] at h ⊢
  repeat' (split at h)
  all_goals (first | (cases h; done) | skip)
  all_goals (injection h with h; injection h with h1 h2; subst h1 h2; (try simp only [*]); exact ⟨_,rfl,.put hn _ _⟩)
 case convert a b x=>simp [UN] at hR
 case nilCheck x=>
  simp only [ap,fh x (by simp [Op.operands])] at h ⊢
  repeat' (split at h)
  all_goals (first | (cases h; done) | skip)
  all_goals (injection h with h; injection h with h1 h2; subst h1 h2; (try simp only [*]); exact ⟨_,rfl,.put hn _ _⟩)
 case makeFunc fo a b=>
  cases fo with
  | func g=>
   have h1:mP E s.ae a.toList=mP E t.ae a.toList:=gU fun y hy=>fh y (by simp only [Op.operands,Array.mem_append]; exact .inl (by simpa using hy))
   have h2:mP E s.ae b.toList=mP E t.ae b.toList:=gU fun y hy=>fh y (by simp only [Op.operands,Array.mem_append]; exact .inr (by simpa using hy))
   simp only [ap,h1,h2] at h ⊢
   repeat' (split at h)
   all_goals (first | (cases h; done) | skip)
   all_goals (injection h with h; injection h with h1 h2; subst h1 h2; (try simp only [*]); exact ⟨_,rfl,.put hn _ _⟩)
  | _=>simp [ap] at h
 case fieldAddr a x j=>
  simp only [ap,fh x (by simp [Op.operands])] at h ⊢
  repeat' (split at h)
  all_goals (first | (cases h; done) | skip)
  all_goals (injection h with h; injection h with h1 h2; subst h1 h2; (try simp only [*]); exact ⟨_,rfl,.put hn _ _⟩)
 case field a x j=>
  simp only [ap,fh x (by simp [Op.operands])] at h ⊢
  repeat' (split at h)
  all_goals (first | (cases h; done) | skip)
  all_goals (injection h with h; injection h with h1 h2; subst h1 h2; (try simp only [*]); exact ⟨_,rfl,.put hn _ _⟩)
 case indexAddr a x y=>
  simp only [ap,fh x (by simp [Op.operands]),fh y (by simp [Op.operands])] at h ⊢
  repeat' (split at h)
  all_goals (first | (cases h; done) | skip)
  all_goals (injection h with h; injection h with h1 h2; subst h1 h2; (try simp only [*]); exact ⟨_,rfl,.put hn _ _⟩)
 case index a x y=>
  simp only [ap,fh x (by simp [Op.operands]),fh y (by simp [Op.operands])] at h ⊢
  repeat' (split at h)
  all_goals (first | (cases h; done) | skip)
  all_goals (injection h with h; injection h with h1 h2; subst h1 h2; (try simp only [*]); exact ⟨_,rfl,.put hn _ _⟩)
 case slice a x lo hi mx=>
  have h1:nI E s.ae lo=nI E t.ae lo:=by
   cases lo with
   | none=>rfl
   | some y=>simp only [nI]; rw [fh y (by simp [Op.operands])]
  have h2:nI E s.ae hi=nI E t.ae hi:=by
   cases hi with
   | none=>rfl
   | some y=>simp only [nI]; rw [fh y (by simp [Op.operands])]
  simp only [ap,fh x (by simp [Op.operands]),h1,h2] at h ⊢
  repeat' (split at h)
  all_goals (first | (cases h; done) | skip)
  all_goals (injection h with h; injection h with h1 h2; subst h1 h2; (try simp only [*]); exact ⟨_,rfl,.put hn _ _⟩)
 case extract x i=>
  simp only [ap,fh x (by simp [Op.operands])] at h ⊢
  repeat' (split at h)
  all_goals (first | (cases h; done) | skip)
  all_goals (injection h with h; injection h with h1 h2; subst h1 h2; (try simp only [*]); exact ⟨_,rfl,.put hn _ _⟩)
 all_goals (first | (simp [tQ] at hN; done) | (simp [UN] at hR; done))
end
end Go.Am
namespace Go.Am
open Go
section
variable {E:Env} {s t:St} {f:FuncId} {ops:Array Oper} {o oj oi:Oper} {d:Tmp} {x:SV} {K:St→Prop}
theorem KB (ops:Array Oper) (j:Nat):pA ops.toList j=(ops[j]?).bind (·.dst):=by
 unfold pA
 rw [bf,Array.getElem?_toList]
 cases ops[j]? <;> rfl
theorem nZ {e:Tmp} (h:.tmp e∈o.op.operands):e∈o.looksAt ops:=
 List.mem_append_left _ (List.mem_filterMap.2 ⟨.tmp e,by simpa using h,rfl⟩)
theorem kq {j:Nat} {want:Bool} {e:Tmp} (h:o.guard=some (j,want)) (he:pA ops.toList j=some e):e∈o.looksAt ops:=by
 rw [KB] at he
 refine List.mem_append_right _ ?_
 rw [h]
 simp [he]
theorem lj (h:∀ e∈o.looksAt ops,lk s.ae e=lk t.ae e):∀ y∈o.op.operands,bM E s.ae y=bM E t.ae y:=fun _ hy=>
 Kz fun e he=>h e (nZ (he ▸ hy))
theorem kT (h:∀ e∈o.looksAt ops,lk s.ae e=lk t.ae e):CB ops.toList s o=CB ops.toList t o:=by
 unfold CB
 split
 ·rfl
 ·rename_i j want hg
  split
  ·rename_i e he
   rw [h e (kq hg he)]
  ·rfl
theorem wL (s:St) (d:Tmp) (x:SV) {e:Nat} (h:d≠e):lk (s.put (some d) x).ae e=lk s.ae e:=by
 simp only [St.put]
 split
 ·exact aW h
 ·rfl
theorem gH (s:St) (d:Option Tmp) (x:SV):(s.put d x).boxes=s.boxes∧(s.put d x).G=s.G∧(s.put d x).n=s.n∧(s.put d x).marks=s.marks∧(s.put d x).ro=s.ro:=by
 cases d with
 | none=>exact ⟨rfl,rfl,rfl,rfl,rfl⟩
 | some d=>
  simp only [St.put]
  split <;> exact ⟨rfl,rfl,rfl,rfl,rfl⟩
def yg (E:Env) (f:FuncId) (ops:Array Oper) (o:Oper) (s:St) (x:SV):Prop:=
 (CB ops.toList s o=some true∧ap E f s o=some (true,s.put o.dst x))∨(CB ops.toList s o=some false∧x=.v gw)
theorem KC {c:Bool} {s':St} (hN:tQ o.op=true) (h:ap E f s o=some (c,s')):∃ x,s'=s.put o.dst x:=by
 obtain ⟨t',_,pre,preB,G,_,h2,_,_⟩:=iS (t:=s) rfl rfl rfl (fun _ _=>rfl) h
 obtain ⟨_,_,x,hx,_⟩:=h2 (by simp [hN])
 exact ⟨x,hx⟩
theorem KD (hN:tQ o.op=true):kH E f o K s↔∃ s',ap E f s o=some (true,s')∧K s':=by
 unfold kH
 split
 ·rename_i h
  rw [h] at hN
  simp [tQ] at hN
 ·rename_i h
  rw [h] at hN
  simp [tQ] at hN
 ·split
  ·rename_i c s' hs
   constructor
   ·intro h
    obtain ⟨rfl,hk⟩:=h.out
    exact ⟨s',hs,hk⟩
   ·rintro ⟨CS,h1,h2⟩
    rw [hs] at h1
    cases h1
    exact dV.mk rfl h2
  ·rename_i hs
   constructor
   ·exact fun h=>h.elim
   ·rintro ⟨CS,h1,_⟩
    rw [hs] at h1
    cases h1
theorem yh (hN:tQ o.op=true) (hK:Inv K) (h:cp E f ops.toList o K s):∃ x,yg E f ops o s x∧K (s.put o.dst x):=by
 rcases (gG hK).1 h with ⟨h1,h2⟩ | ⟨h1,h2⟩
 ·obtain ⟨s',h3,h4⟩:=(KD hN).1 h2
  obtain ⟨x,rfl⟩:=KC hN h3
  exact ⟨x,.inl ⟨h1,h3⟩,h4⟩
 ·exact ⟨_,.inr ⟨h1,rfl⟩,h2⟩
theorem yi (hN:tQ o.op=true) (hK:Inv K) (hx:yg E f ops o s x) (h:K (s.put o.dst x)):cp E f ops.toList o K s:=by
 rw [gG hK]
 rcases hx with ⟨h1,h2⟩ | ⟨h1,rfl⟩
 ·exact .inl ⟨h1,(KD hN).2 ⟨_,h2,h⟩⟩
 ·exact .inr ⟨h1,h⟩
def FJ (E:Env) (f:FuncId) (ops:List Oper) (o:Oper) (s:St):Prop:=match CB ops s o with
 | some true=>match o.dst,ap E f s o with
  | some d,some (c,s')=>c=true∧lk s'.ae d=lk s.ae d
  | _,_=>False
 | some false=>True
 | none=>False
theorem OM (hN:tQ o.op=true) (hd:d∉o.looksAt ops) (cD:o.dst≠some d) (he:∀ e,d≠e→lk s.ae e=lk t.ae e) (hB:dO s.boxes=dO t.boxes) (hG:s.G=t.G) (hn:s.n=t.n)
  (h:FJ E f ops.toList o s):FJ E f ops.toList o t:=by
 have hl:∀ e∈o.looksAt ops,lk s.ae e=lk t.ae e:=fun e hm=>he e fun k=>hd (k ▸ hm)
 unfold FJ at h ⊢
 rw [← kT hl]
 split
 ·rename_i hg
  rw [hg] at h
  simp only at h
  split at h
  ·rename_i e c s' ID hs
   obtain ⟨t',h3,pre,preB,G,_,h4,_,_⟩:=iS hn hG hB (lj hl) hs
   obtain ⟨_,_,y,h5,h6⟩:=h4 (by simp [hN])
   rw [ID,h3]
   refine ⟨h.1,?_⟩
   have hde:d≠e:=fun k=>cD (by rw [ID,k])
   have h7:=h.2
   rw [h5,ID] at h7
   rw [h6,ID,← he e hde]
   simp only [St.put,← hn] at h7 ⊢
   split
   ·rename_i hb
    rw [hb] at h7
    simp only [aG] at h7 ⊢
    exact h7
   ·exact (he e hde).symm
  ·exact h.elim
 ·trivial
 ·rename_i hg
  rw [hg] at h
  exact h
theorem ON (hN:tQ o.op=true) (e:qp s t) (h:FJ E f ops.toList o s):FJ E f ops.toList o t:=by
 unfold FJ at h ⊢
 rw [← BT e]
 split
 ·rename_i hg
  rw [hg] at h
  simp only at h
  split at h
  ·rename_i d c s' ID hs
   obtain ⟨t',h3,pre,preB,G,_,h4,_,_⟩:=iS e.n e.G e.b (fun y _=>e.bM y) hs
   obtain ⟨_,_,y,h5,h6⟩:=h4 (by simp [hN])
   rw [ID,h3]
   refine ⟨h.1,?_⟩
   rw [h6,← (e.put o.dst y).l,← h5,← e.l]
   exact h.2
  ·exact h.elim
 ·trivial
 ·rename_i hg
  rw [hg] at h
  exact h
def jZ (oj oi:Oper):Bool:=bZ oi.op || (UN oj.op&&!tQ oi.op)
theorem KE {al:Bool} {dst:Option Tmp} {pre:bj} (h:X6 al dst pre) {e:Nat} (he:dst≠some e) (l:bj):lk (pre++l) e=lk l e∨(al=true∧∃ k off,lk l e=.lp k off):=by
 rcases h with rfl | ⟨d,y,rfl,rfl | ⟨rfl,rfl⟩⟩
 ·exact .inl rfl
 ·exact .inl (aW fun k=>he (by rw [k]))
 ·simp only [List.cons_append,List.nil_append]
  rw [aW (fun k=>he (by rw [k]))]
  simp only [lk]
  cases hl:lk l e with
  | lp k off=>exact .inr ⟨trivial,k,off,rfl⟩
  | _=>exact .inl rfl
theorem s7 {al:Bool} {pre:bj} (preB:cP) (G:List GO) (h:X6 al oi.dst pre) (cD:oi.dst≠some d) (hx:al=false∨∃ a,x=.v a):qp ((s.put (some d) x).fV pre preB G) ((s.fV pre preB G).put (some d) x):=by
 have hb:∀ b,Nat.blt d s.n=b→qp ((s.put (some d) x).fV pre preB G) ((s.fV pre preB G).put (some d) x):=fun b hb=>by
  have jB:Nat.blt d (s.fV pre preB G).n=b:=hb
  rw [mi,mi,hb,jB]
  cases b with
  | false=>exact qp.refl _
  | true=>
   refine ⟨funext fun e=>?_,rfl,rfl,rfl,rfl,rfl⟩
   simp only [cond_true,St.fV,List.cons_append,List.nil_append]
   by_cases k:d=e
   ·subst k
    rw [aG]
    rcases KE h cD (.put d x :: s.ae) with h1 | ⟨h1,k,off,h2⟩
    ·rw [h1,aG]
    ·rw [aG] at h2
     rcases hx with hx | ⟨a,hx⟩
     ·rw [hx] at h1; cases h1
     ·rw [hx] at h2; cases h2
   ·rw [aW k]
    exact ni (aW k) pre
 exact hb _ rfl
theorem IE (hN:tQ oj.op=true) (Ha:oj.dst=some d) (Dl:d∉oj.looksAt ops) (X8:oj.apart ops oi=true) (hK:Inv K) (hx:yg E f ops oj s x) {pre:bj} {preB:cP} {G:List GO}
  (Ad:X6 (bZ oi.op) oi.dst pre) (Zj:tQ oi.op=true→preB=[]∧G=s.G) (hk:K ((s.put (some d) x).fV pre preB G)) (YV:∀ t',K t'→jZ oj oi=true→FJ E f ops.toList oj t') :
  ∃ x',yg E f ops oj (s.fV pre preB G) x'∧K ((s.fV pre preB G).put (some d) x'):=by
 obtain ⟨_,cD,CW⟩:=Oper.apart_spec X8
 have KF:oi.dst≠some d:=cD d Ha
 have s8:∀ e∈oj.looksAt ops,oi.dst≠some e:=fun e he k=>CW e k he
 have vo:∀ e∈oj.looksAt ops,(bZ oi.op=false∨∃ b,lk s.ae e=.v b)→lk s.ae e=lk (s.fV pre preB G).ae e:=fun e he ha=>by
  rcases KE Ad (s8 e he) s.ae with h1 | ⟨h1,k,off,h2⟩
  ·exact h1.symm
  ·rcases ha with ha | ⟨b,ha⟩
   ·rw [ha] at h1; cases h1
   ·rw [ha] at h2; cases h2
 have OO:∀ b,CB ops.toList s oj=some b→CB ops.toList (s.fV pre preB G) oj=some b:=fun b hb=>by
  unfold CB at hb ⊢
  split
  ·rename_i hg; rw [hg] at hb; exact hb
  ·rename_i j want hg
   rw [hg] at hb
   simp only at hb
   split
   ·rename_i e he
    rw [he] at hb
    simp only at hb
    split at hb
    ·rename_i b' hl
     have:=vo e (kq hg he) (.inr ⟨_,hl⟩)
     rw [← this,hl]
     exact hb
    ·rename_i hl
     have:=vo e (kq hg he) (.inr ⟨_,hl⟩)
     rw [← this,hl]
     exact hb
    ·cases hb
   ·rename_i he; rw [he] at hb; cases hb
 rcases hx with ⟨h1,h2⟩ | ⟨h1,rfl⟩
 ·rw [Ha] at h2
  by_cases ac1:jZ oj oi=true
  ·have hr:=YV _ hk ac1
   -- the state with the slot, and the one without it
   have BL:∀ e,d≠e→lk ((s.put (some d) x).fV pre preB G).ae e=lk (s.fV pre preB G).ae e:=fun e he=>ni (wL s d x he) pre
   have hB:dO ((s.put (some d) x).fV pre preB G).boxes=dO (s.fV pre preB G).boxes:=by
    simp only [St.fV]; rw [(gH s _ x).1]
   have hn:((s.put (some d) x).fV pre preB G).n=(s.fV pre preB G).n:=(gH s _ x).2.2.1
   have s9:∀ e∈oj.looksAt ops,lk ((s.put (some d) x).fV pre preB G).ae e=lk (s.fV pre preB G).ae e:=fun e he=>BL e fun k=>Dl (k ▸ he)
   have hg2:CB ops.toList ((s.put (some d) x).fV pre preB G) oj=some true:=by rw [kT s9]; exact OO _ h1
   unfold FJ at hr
   rw [hg2] at hr
   simp only [Ha] at hr
   split at hr
   ·rename_i d' c s' GK hs
    cases GK
    obtain ⟨rfl,hr⟩:=hr
    obtain ⟨t',h3,p,pB,G2,_,h4,_,_⟩:=iS (t:=s.fV pre preB G) hn rfl hB (lj s9) hs
    obtain ⟨_,_,y,h5,h6⟩:=h4 (by simp [hN])
    rw [h6] at h3
    rw [h5,Ha] at hr
    refine ⟨y,.inl ⟨OO _ h1,h3⟩,hK _ _ ?_ hk⟩
    have hmr:((s.put (some d) x).fV pre preB G).marks=(s.fV pre preB G).marks∧((s.put (some d) x).fV pre preB G).ro=(s.fV pre preB G).ro:=(gH s _ x).2.2.2
    obtain ⟨q1,q2,q3,q4,q5⟩:=gH (s.fV pre preB G) (some d) y
    refine ⟨funext fun e=>?_,by rw [q1]; exact hB,by rw [q2]; rfl,by rw [q4]; exact hmr.1,by rw [q5]; exact hmr.2,by rw [q3]; exact hn⟩
    by_cases k:d=e
    ·subst k
     rw [← hr]
     have hb:∀ b,Nat.blt d s.n=b→lk (((s.put (some d) x).fV pre preB G).put (some d) y).ae d=lk ((s.fV pre preB G).put (some d) y).ae d:=fun b hb=>by
      have IF:Nat.blt d (s.fV pre preB G).n=b:=hb
      have AX:Nat.blt d ((s.put (some d) x).fV pre preB G).n=b:=by rw [hn]; exact hb
      rw [mi _ d y,mi _ d y,IF,AX]
      cases b with
      | true=>simp [St.fV,aG]
      | false=>
       simp only [cond_false]
       rw [mi,hb]
       rfl
     exact hb _ rfl
    ·rw [wL _ _ _ k]
     exact BL e k
   ·exact hr.elim
  ·have Ae:bZ oi.op=false:=by cases ha:bZ oi.op <;> simp_all [jZ]
   have hl:∀ e∈oj.looksAt ops,lk s.ae e=lk (s.fV pre preB G).ae e:=fun e he=>vo e he (.inl Ae)
   have fin:∀ y,s.put (some d) x=s.put (some d) y→ap E f (s.fV pre preB G) oj=some (true,(s.fV pre preB G).put oj.dst y) →
     ∃ x',yg E f ops oj (s.fV pre preB G) x'∧K ((s.fV pre preB G).put (some d) x'):=fun y hy hs=>by
    refine ⟨y,.inl ⟨OO _ h1,hs⟩,hK _ _ (s7 (oi:=oi) preB G Ad KF (.inl Ae)) ?_⟩
    rw [← hy]
    exact hk
   cases hNo:tQ oi.op with
   | true=>
    obtain ⟨rfl,rfl⟩:=Zj hNo
    obtain ⟨t',h3,p,pB,G2,_,h4,_,_⟩:=iS (s:=s) (t:=s.fV pre [] s.G) rfl rfl rfl (lj hl) h2
    obtain ⟨_,_,y,h5,h6⟩:=h4 (by simp [hN])
    rw [Ha] at h5
    exact fin y h5 (by rw [h3,h6])
   | false=>
    have hR:UN oj.op=false:=by cases ha:UN oj.op <;> simp_all [jZ]
    obtain ⟨t',h3,y,h5,h6⟩:=Dk (s:=s) (t:=s.fV pre preB G) hN hR rfl (lj hl) h2
    rw [Ha] at h5
    exact fin y h5 (by rw [h3,h6])
 ·exact ⟨_,.inr ⟨OO _ h1,rfl⟩,hK _ _ (s7 (oi:=oi) preB G Ad KF (.inr ⟨_,rfl⟩)) hk⟩
end
end Go.Am
namespace Go.Am
open Go
section
variable {E:Env} {s t:St} {o:Oper}
def jj (E:Env) (s:St) (o:Oper) (s':St):Prop:=
 (s'.ae=s.ae∨∃ d x,o.dst=some d∧(s'.ae=.put d x :: s.ae∨s'.ae=.put d x :: .kill d :: s.ae)∧∀ k off,x=.lp k off→(∃ y∈o.op.operands,∃ gy,bM E s.ae y=.lp k gy)∨(bZ o.op=true∧k=d)) ∧
 (s'.boxes=s.boxes∨∃ k cs,s'.boxes=(k,cs) :: s.boxes∧((bZ o.op=true∧o.dst=some k)∨∃ y∈o.op.operands,∃ off,bM E s.ae y=.lp k off))
theorem mj {s1:St} (h1:s1.ae=s.ae) (h2:s1.boxes=s.boxes) {x:SV} (hx:∀ k off,x=.lp k off→∃ y∈o.op.operands,∃ gy,bM E s.ae y=.lp k gy):jj E s o (s1.put o.dst x):=by
 refine ⟨?_,.inl (by rw [(gH s1 o.dst x).1,h2])⟩
 cases hd:o.dst with
 | none=>exact .inl h1
 | some d=>
  simp only [St.put]
  split
  ·exact .inr ⟨d,x,rfl,.inl (by rw [h1]),fun k off h=>.inl (hx k off h)⟩
  ·exact .inl h1
theorem lm {s1:St} (h1:s1.ae=s.ae) (h2:s1.boxes=s.boxes) (a:AV):jj E s o (s1.put o.dst (.v a)):=mj h1 h2 fun k off h=>by cases h
theorem nj {s1:St} (h1:s1.ae=s.ae) (h2:s1.boxes=s.boxes):jj E s o s1:=⟨.inl h1,.inl h2⟩
theorem OP {k:Nat} {cs:List AV} (h:∃ y∈o.op.operands,∃ off,bM E s.ae y=.lp k off):jj E s o (s.vW k cs):=⟨.inl rfl,.inr ⟨k,cs,rfl,.inr h⟩⟩
theorem Dm {n:Nat} {x:SV} {k off:Nat} (h:Ar n x=some (.lp k off)):∃ gy,x=.lp k gy:=by
 unfold Ar at h
 split at h <;> cases h
 exact ⟨_,rfl⟩
theorem Af {ty:TypeId} {x:SV} {j k off:Nat} (h:kZ E ty x j=some (.lp k off)):∃ gy,x=.lp k gy:=by
 unfold kZ at h
 repeat' (split at h)
 all_goals (first | (cases h; done) | exact Dm h)
theorem Ag {ty:TypeId} {x ix:SV} {c:Bool} {k off:Nat} (h:kY E ty x ix=some (c,.lp k off)):∃ gy,x=.lp k gy:=by
 unfold kY at h
 repeat' (split at h)
 all_goals (first | (cases h; done) | skip)
 rename_i hm
 injection h with h; injection h with h1 h2; subst h2
 exact Dm hm
theorem FK {ty:TypeId} {p x:SV} {s':St} (hp:∀ k off,p=.lp k off→∃ y∈o.op.operands,∃ gy,bM E s.ae y=.lp k gy) (h:ki E s ty p x=some s'):jj E s o s':=by
 unfold ki at h
 repeat' (split at h)
 all_goals (first | (cases h; done) | skip)
 ·cases h; exact OP (hp _ _ rfl)
 ·cases h; exact nj rfl rfl
theorem FL {ty:TypeId} {p x:SV} {c:Bool} {s':St} (hp:∀ k off,p=.lp k off→∃ y∈o.op.operands,∃ gy,bM E s.ae y=.lp k gy) (h:kj E s ty p x=some (c,s')):jj E s o s':=by
 unfold kj at h
 repeat' (split at h)
 all_goals (first | (cases h; done) | skip)
 ·injection h with h; injection h with h1 h2; subst h2; exact nj rfl rfl
 ·injection h with h; injection h with h1 h2; subst h2; exact nj rfl rfl
 ·rename_i hs
  injection h with h; injection h with h1 h2; subst h2; exact FK hp hs
theorem vB {ty:TypeId} {m k x:SV} {s':St} (h:fN E s ty m k x=some s'):jj E s o s':=by
 unfold fN at h
 repeat' (split at h)
 all_goals (first | (cases h; done) | skip)
 cases h; exact nj rfl rfl
theorem IG {x:SV} {s':St} (h:me s o.dst x=some s'):jj E s o s':=by
 unfold me at h
 split at h
 ·split at h
  ·rename_i l pos hg
   cases hb:Nat.blt pos l.length with
   | true=>
    rw [hb] at h
    simp only [cond_true] at h
    cases h
    exact lm rfl rfl _
   | false=>
    rw [hb] at h
    simp only [cond_false] at h
    cases h
    exact lm rfl rfl _
  ·cases h
 ·cases h
theorem BU {b:Builtin} {l:List AV} {tys:List TypeId} {c:Bool} {s':St} (h:bV E s o.dst b l tys=some (c,s')):jj E s o s':=by
 unfold bV at h
 cases b
 all_goals (try (cases h; done))
 all_goals (try simp only at h)
 all_goals (try (split at h <;> first | (cases h; done) | simp only at h))
 all_goals (repeat' (split at h))
 all_goals (first | (cases h; done) | skip)
 all_goals (injection h with h; injection h with h1 h2; subst h1 h2)
 all_goals (first | exact lm rfl rfl _ | exact nj rfl rfl)
theorem IH {f:FuncId} {c:Bool} {s':St} (h:ib E f s o=some (c,s')):jj E s o s':=by
 unfold ib at h
 repeat' (split at h)
 all_goals (first | (cases h; done) | skip)
 injection h with h; injection h with h2 h3
 subst h3
 exact lm rfl rfl _
theorem yj {f:FuncId} {el:TypeId} {cs:List AV} {c:Bool} {s':St} (ha:bZ o.op=true) (h:fM E f s o.dst el cs=some (c,s')):jj E s o s':=by
 unfold fM at h
 split at h
 ·cases h
 ·rename_i d hd
  split at h
  ·injection h with h; injection h with h1 h2; subst h2
   rw [← hd]
   exact lm rfl rfl _
  ·split at h
   ·rename_i hb
    injection h with h; injection h with h1 h2; subst h2
    refine ⟨.inr ⟨d,.lp d 0,hd,.inr ?_,fun k off h=>by cases h; exact .inr ⟨ha,rfl⟩⟩,.inr ⟨d,cs,?_,.inl ⟨ha,hd⟩⟩⟩
    ·simp only [St.put,St.vW,St.kill,hb]
    ·rw [(gH _ (some d) (.lp d 0)).1]; rfl
   ·cases h
theorem FM {f:FuncId} {c:Bool} {s':St} (h:ap E f s o=some (c,s')):jj E s o s':=by
 cases ho:o.op
 case move x=>
  simp only [ap,ho] at h
  split at h
  all_goals (injection h with h; injection h with h1 h2; subst h2)
  ·exact lm rfl rfl _
  ·rename_i k off hx
   exact mj rfl rfl fun k' gy e=>by cases e; exact ⟨x,by rw [ho]; simp [Op.operands],_,hx⟩
  ·exact mj rfl rfl fun k' gy e=>by cases e
 case assign x=>
  simp only [ap,ho] at h
  split at h
  all_goals (injection h with h; injection h with h1 h2; subst h2)
  ·exact lm rfl rfl _
  ·rename_i k off hx
   exact mj rfl rfl fun k' gy e=>by cases e; exact ⟨x,by rw [ho]; simp [Op.operands],_,hx⟩
  ·exact mj rfl rfl fun k' gy e=>by cases e
 case nilCheck x=>
  simp only [ap,ho] at h
  split at h
  ·injection h with h; injection h with h1 h2; subst h2
   exact lm rfl rfl _
  ·rename_i k off hx
   injection h with h; injection h with h1 h2; subst h2
   exact mj rfl rfl fun k' gy e=>by cases e; exact ⟨x,by rw [ho]; simp [Op.operands],_,hx⟩
  ·cases h
 case fieldAddr a x j=>
  simp only [ap,ho] at h
  split at h
  ·rename_i p hp
   injection h with h; injection h with h1 h2; subst h2
   exact mj rfl rfl fun k' gy e=>by subst e; exact ⟨x,by rw [ho]; simp [Op.operands],Af hp⟩
  ·cases h
 case indexAddr a x y=>
  simp only [ap,ho] at h
  split at h
  ·rename_i c' p hp
   injection h with h; injection h with h1 h2; subst h2
   exact mj rfl rfl fun k' gy e=>by subst e; exact ⟨x,by rw [ho]; simp [Op.operands],Ag hp⟩
  ·cases h
 case alloc e=>
  simp only [ap,ho] at h
  repeat' (split at h)
  all_goals (first | (cases h; done) | skip)
  exact yj (by rw [ho]; rfl) h
 case box e x=>
  simp only [ap,ho] at h
  repeat' (split at h)
  all_goals (first | (cases h; done) | skip)
  exact yj (by rw [ho]; rfl) h
 case store ty x y=>
  simp only [ap,ho] at h
  split at h
  ·rename_i hs
   injection h with h; injection h with h1 h2; subst h2
   exact FL (fun k off e=>⟨x,by rw [ho]; simp [Op.operands],off,e⟩) hs
  ·cases h
 case mapUpdate ty x y z=>
  simp only [ap,ho] at h
  split at h
  ·rename_i hs
   injection h with h; injection h with h1 h2; subst h2
   exact vB hs
  ·cases h
 case insert ty x y z=>
  simp only [ap,ho] at h
  split at h
  ·rename_i hs
   injection h with h; injection h with h1 h2; subst h2
   exact vB hs
  ·cases h
 case mapEntry ty x y=>
  simp only [ap,ho] at h
  split at h
  ·rename_i hs
   injection h with h; injection h with h1 h2; subst h2
   unfold gP at hs
   repeat' (split at hs)
   all_goals (first | (cases hs; done) | skip)
   injection hs with hs; injection hs with h3 hs; injection hs with h4 h5
   subst h5
   exact lm rfl rfl _
  ·cases h
 case entryStore ty x y z=>
  simp only [ap,ho] at h
  split at h
  ·rename_i hs
   injection h with h; injection h with h1 h2; subst h2
   unfold fe at hs
   repeat' (split at hs)
   all_goals (first | (cases hs; done) | skip)
   injection hs with hs; injection hs with h3 h4
   subst h4
   exact nj rfl rfl
  ·cases h
 case next x b=>
  cases b with
  | false=>simp [ap,ho] at h
  | true=>
   simp only [ap,ho] at h
   split at h
   ·rename_i hs
    injection h with h; injection h with h1 h2; subst h2
    exact IG hs
   ·cases h
 case call cl=>
  obtain ⟨callee,args,tys⟩:=cl
  cases callee with
  | builtin b=>
   simp only [ap,ho] at h
   split at h
   ·rename_i r hf
    cases h
    exact IH hf
   ·split at h
    ·exact BU h
    ·cases h
  | _=>simp [ap,ho] at h
 case makeFunc fo a b=>
  cases fo with
  | func g=>
   simp only [ap,ho] at h
   repeat' (split at h)
   all_goals (first | (cases h; done) | skip)
   injection h with h; injection h with h1 h2; subst h2
   exact lm rfl rfl _
  | _=>simp [ap,ho] at h
 case makeMap ty r=>
  cases r with
  | none=>
   simp only [ap,ho] at h
   injection h with h; injection h with h1 h2; subst h2
   exact lm rfl rfl _
  | some _=>simp [ap,ho] at h
 all_goals (first
  | (simp [ap,ho] at h; done)
  | (simp only [ap,ho] at h; (repeat' (split at h)); (all_goals (first | (cases h; done) | skip)); (all_goals (injection h with h; injection h with h1 h2; subst h2)); (all_goals (exact lm rfl rfl _))))
def rW (s:St) (d:Nat) (cs:List AV):St:=s.fV [.put d (.lp d 0),.kill d] [(d,cs)] s.G
theorem FN {f:FuncId} {d:Tmp} {c:Bool} {s1:St} (Ae:bZ o.op=true) (hd:o.dst=some d) (hg:E.zU f d=false) (h:ap E f s o=some (c,s1)) :
  c=true∧∃ cs,s1=rW s d cs∧∀ t:St,t.n=s.n→(∀ y∈o.op.operands,∀ v,bM E s.ae y=.v v→bM E t.ae y=.v v)→ap E f t o=some (true,rW t d cs):=by
 have key:∀ (el:TypeId) (cs:List AV),fM E f s o.dst el cs=some (c,s1)→c=true∧s1=rW s d cs∧∀ t:St,t.n=s.n→fM E f t o.dst el cs=some (true,rW t d cs):=by
  intro el cs h
  unfold fM at h
  rw [hd] at h
  simp only [hg,Bool.false_eq_true,if_false] at h
  split at h
  ·rename_i hb
   injection h with h; injection h with h1 h2; subst h1 h2
   refine ⟨rfl,?_,fun t ht=>?_⟩
   ·simp only [St.put,St.vW,St.kill,hb,rW,St.fV]; rfl
   ·unfold fM
    rw [hd]
    simp only [hg,Bool.false_eq_true,if_false,ht,hb]
    simp only [St.put,St.vW,St.kill,ht,hb,rW,St.fV]; rfl
  ·cases h
 cases ho:o.op
 case alloc e=>
  simp only [ap,ho] at h ⊢
  split at h
  ·split at h
   ·split at h
    ·rename_i hi _ _ hz N3
     obtain ⟨k1,k2,k3⟩:=key _ _ h
     refine ⟨k1,_,k2,fun t ht _=>?_⟩
     simp only [hi,hz,N3,if_true]
     exact k3 t ht
    ·cases h
   ·cases h
  ·cases h
 case box e x=>
  simp only [ap,ho] at h ⊢
  split at h
  ·split at h
   ·rename_i v hv N3
    obtain ⟨k1,k2,k3⟩:=key _ _ h
    refine ⟨k1,_,k2,fun t ht he=>?_⟩
    simp only [he x (by simp [Op.operands]) v hv,N3,if_true]
    exact k3 t ht
   ·cases h
  ·cases h
 all_goals (rw [ho] at Ae; simp [bZ] at Ae)
theorem Hb {pre:bj} {preB:cP} {G:List GO} (h:jj E s o (s.fV pre preB G)) :
  (pre=[]∨∃ d x,o.dst=some d∧(pre=[.put d x]∨pre=[.put d x,.kill d])∧∀ k off,x=.lp k off→(∃ y∈o.op.operands,∃ gy,bM E s.ae y=.lp k gy)∨(bZ o.op=true∧k=d)) ∧
  (preB=[]∨∃ k cs,preB=[(k,cs)]∧((bZ o.op=true∧o.dst=some k)∨∃ y∈o.op.operands,∃ off,bM E s.ae y=.lp k off)):=by
 obtain ⟨h1,h2⟩:=h
 refine ⟨?_,?_⟩
 ·rcases h1 with h1 | ⟨d,x,hd,h1,hx⟩
  ·exact .inl (by simpa [St.fV] using h1)
  ·refine .inr ⟨d,x,hd,?_,hx⟩
   rcases h1 with h1 | h1
   ·left
    have h1:pre++s.ae=[.put d x]++s.ae:=h1
    exact List.append_cancel_right h1
   ·right
    have h1:pre++s.ae=[.put d x,.kill d]++s.ae:=h1
    exact List.append_cancel_right h1
 ·rcases h2 with h2 | ⟨k,cs,h2,hx⟩
  ·exact .inl (by simpa [St.fV] using h2)
  ·refine .inr ⟨k,cs,?_,hx⟩
   have h2:preB++s.boxes=[(k,cs)]++s.boxes:=h2
   exact List.append_cancel_right h2
theorem j5 (d e:Nat) (l:bj):lk (.kill d :: l) e=(match lk l e with | .lp k off=>bif Nat.beq k d then .none else .lp k off | x=>x):=rfl
theorem yk {d e:Nat} {l:bj} (h:∀ off,lk l e≠.lp d off):lk (.kill d :: l) e=lk l e:=by
 rw [j5]
 split
 ·rename_i k off hk
  cases hb:Nat.beq k d with
  | true=>exact absurd (by rw [hk,Nat.eq_of_beq_eq_true hb]) (h off)
  | false=>rw [hk]; rfl
 ·rfl
theorem II {d:Nat} {pre:bj} {preB:cP} {G:List GO} (cs:List AV) (OQ:jj E s o (s.fV pre preB G)) (cD:o.dst≠some d) (IJ:∀ y∈o.op.operands,∀ off,bM E s.ae y≠.lp d off) :
  qp ((rW s d cs).fV pre preB G) (rW (s.fV pre preB G) d cs):=by
 obtain ⟨h1,h2⟩:=Hb OQ
 refine ⟨funext fun e=>?_,funext fun k=>?_,rfl,rfl,rfl,rfl⟩
 ·show lk (pre++([.put d (.lp d 0),.kill d]++s.ae)) e=lk ([.put d (.lp d 0),.kill d]++(pre++s.ae)) e
  rcases h1 with rfl | ⟨d',x,hd,hp,hx⟩
  ·rfl
  ·have hdd:d'≠d:=fun c=>cD (by rw [hd,c])
   have uc:∀ off,x≠.lp d off:=fun off c=>by
    rcases hx d off c with ⟨y,hy,gy,ho⟩ | ⟨_,h⟩
    ·exact IJ y hy gy ho
    ·exact hdd h.symm
   by_cases c1:d=e
   ·subst c1
    rcases hp with rfl | rfl
    ·simp only [List.cons_append,List.nil_append]
     rw [aW hdd,aG,aG]
    ·simp only [List.cons_append,List.nil_append]
     rw [aW hdd,aG,yk (fun off=>by rw [aG]; intro c; cases c; exact hdd rfl),aG]
   ·simp only [List.cons_append,List.nil_append]
    rw [aW c1]
    by_cases c2:d'=e
    ·subst c2
     rcases hp with rfl | rfl
     ·simp only [List.cons_append,List.nil_append]
      rw [aG,yk (fun off=>by rw [aG]; exact uc off),aG]
     ·simp only [List.cons_append,List.nil_append]
      rw [aG,yk (fun off=>by rw [aG]; exact uc off),aG]
    ·rcases hp with rfl | rfl
     ·simp only [List.cons_append,List.nil_append]
      rw [aW c2,aW c1,j5,j5,aW c2]
     ·simp only [List.cons_append,List.nil_append]
      rw [aW c2,j5,aW c1,j5,j5,aW c2,j5]
      cases lk s.ae e with
      | lp k off=>cases hb:Nat.beq k d <;> cases AX:Nat.beq k d' <;> simp [hb,AX]
      | _=>rfl
 ·show dO (preB++([(d,cs)]++s.boxes)) k=dO ([(d,cs)]++(preB++s.boxes)) k
  rcases h2 with rfl | ⟨k',cs',rfl,hk⟩
  ·rfl
  ·have N4:k'≠d:=fun c=>by
    subst c
    rcases hk with ⟨_,hk⟩ | ⟨y,hy,off,ho⟩
    ·exact cD hk
    ·exact IJ y hy off ho
   simp only [List.cons_append,List.nil_append,dO]
   cases hb:Nat.beq k' k with
   | true=>
    have:Nat.beq d k=false:=by
     cases AX:Nat.beq d k with
     | true=>exact absurd ((Nat.eq_of_beq_eq_true hb).trans (Nat.eq_of_beq_eq_true AX).symm) N4
     | false=>rfl
    rw [this]; rfl
   | false=>rfl
end
section
variable {E:Env} {s t:St} {f:FuncId} {o:Oper} {K K':St→Prop}
theorem FO (hn:s.n=t.n) (hG:s.G=t.G) (hB:∀ k off,(∃ y∈o.op.operands,bM E s.ae y=.lp k off)→dO s.boxes k=dO t.boxes k) (fh:∀ y∈o.op.operands,bM E s.ae y=bM E t.ae y) (h:kH E f o K s)
  (hK:∀ pre preB G,jj E t o (t.fV pre preB G)→K (s.fV pre preB G)→K' (t.fV pre preB G)):kH E f o K' t:=by
 unfold kH at h ⊢
 split at h
 ·rename_i x args tys ho
  have h1:bM E s.ae x=bM E t.ae x:=fh x (by rw [ho]; simp [Op.operands,Call.operands])
  have h2:mP E s.ae args.toList=mP E t.ae args.toList:=gU fun y hy=>fh y (by rw [ho]; simp [Op.operands,Call.operands]; exact .inr (by simpa using hy))
  try simp only [ho]
  rw [← h1,← h2,← hG]
  split at h
  ·refine cB.mono h fun r G' hk=>?_
   obtain ⟨pre,preB,G,p1,p2,p3,p4⟩:=bT.dR (s:=s) (t:=t) (al:=bZ o.op) hn G' o.dst (.v r)
   rw [p3] at hk
   have hO:jj E t o ((t.cg G').put o.dst (.v r)):=lm rfl rfl _
   rw [p4] at hO ⊢
   exact hK pre preB G hO hk
  ·refine li.mono h fun r G' hk=>?_
   obtain ⟨pre,preB,G,p1,p2,p3,p4⟩:=bT.dR (s:=s) (t:=t) (al:=bZ o.op) hn G' o.dst (.v (.bool r))
   rw [p3] at hk
   have hO:jj E t o ((t.cg G').put o.dst (.v (.bool r))):=lm rfl rfl _
   rw [p4] at hO ⊢
   exact hK pre preB G hO hk
  ·exact h.elim
 ·exact h.elim
 ·split at h
  ·rename_i c s' hs
   obtain ⟨t',h1,pre,preB,G,p1,p2,p3,p4⟩:=s6 hn hG hB fh hs
   have hO:=FM h1
   rw [h1]
   obtain ⟨rfl,hk⟩:=h.out
   refine dV.mk rfl ?_
   rw [p3] at hk
   rw [p4] at hO ⊢
   exact hK pre preB G hO hk
  ·exact h.elim
theorem Hc (ha:bZ o.op=true):kH E f o K s↔∃ s',ap E f s o=some (true,s')∧K s':=by
 unfold kH
 split
 ·rename_i h
  rw [h] at ha
  simp [bZ] at ha
 ·rename_i h
  rw [h] at ha
  simp [bZ] at ha
 ·split
  ·rename_i c s' hs
   constructor
   ·intro h
    obtain ⟨rfl,hk⟩:=h.out
    exact ⟨s',hs,hk⟩
   ·rintro ⟨CS,h1,h2⟩
    rw [hs] at h1
    cases h1
    exact dV.mk rfl h2
  ·rename_i hs
   constructor
   ·exact fun h=>h.elim
   ·rintro ⟨CS,h1,_⟩
    rw [hs] at h1
    cases h1
end
end Go.Am
