/- The abstract machine: a function's contract out of its body. -/
import Derived.Test.YtldcljfjjoidhaaGreatDoorAmKF
import Derived.OrdersIn
set_option linter.all false
namespace Go.Am
open Go
section intro
variable {E:Env} {R R':ak} {w w':World} {β β':Nat→Nat}
theorem vh {bx Hq:cw} (h:Step R w β bx R' w' β' Hq) (hn:∀ k cs,dm bx k≠some cs):Step R w (fun _=>0) eD R' w' (fun _=>0) eD:=by
 have own:∀ b,Own R β bx b→Live R b:=fun b ho=>by
  rcases ho with ho | ⟨k,cs,hk,_⟩
  ·exact ho
  ·exact absurd hk (hn k cs)
 exact ⟨h.ext,h.os,h.tape,h.output,h.size,fun b hb rQ=>h.bp b hb (fun ho=>rQ (.inl (own b ho))),fun b hb ho=>.inl (own b (h.own b hb (.inl (dZ ho)))),fun b o hi hb rQ=>h.im b o hi hb (fun ho=>rQ (.inl (own b ho)))⟩
theorem H7:∀ {l:List AV} {n i:Nat},(i < n∨n+l.length≤i→lk (UJ n l) i=.none)∧(∀ a,l[i - n]?=some a→n≤i→lk (UJ n l) i=.v a)
 | [],n,i=>⟨fun _=>rfl,fun a h=>by simp at h⟩
 | b :: l,n,i=>by
  obtain ⟨h1,h2⟩:=H7 (l:=l) (n:=n+1) (i:=i)
  refine ⟨fun h=>?_,fun a h hn=>?_⟩
  ·simp only [List.length_cons] at h
   simp only [UJ]
   rw [aK (by omega)]
   exact h1 (by omega)
  ·simp only [UJ]
   by_cases e:n=i
   ·subst e
    rw [ay]
    simp at h
    rw [h]
   ·rw [aK e]
    refine h2 a ?_ (by omega)
    have:i - n=(i - (n+1))+1:=by omega
    rw [this] at h
    simpa using h
theorem H8 {ntmps:Nat} {args:List AV} {cs:List Value} {G:List GO} (hg:de E R w G) (hl:aH R w args cs) :
  bg E R w (fun _=>0) (St.init ntmps args G) { tmps:=⟨cs⟩++Array.replicate (ntmps - (⟨cs⟩:Array Value).size) undef,defers:=[] }:=by
 have hlen:=hl.length
 refine ⟨hg,⟨fun k c hk=>?_,fun k k' c c' hk _ _=>?_⟩,fun i hi=>?_,?_,trivial⟩
 ·simp [St.init,dm] at hk
 ·simp [St.init,dm] at hk
 ·simp only [St.init] at hi ⊢
  obtain ⟨h1,h2⟩:=H7 (l:=args) (n:=0) (i:=i)
  by_cases bM:i < args.length
  ·have hy:args[i]?=some args[i]:=List.getElem?_eq_getElem bM
   obtain ⟨c,k1,k2⟩:=hl.get hy
   rw [h2 _ (by rw [Nat.sub_zero]; exact hy) (Nat.zero_le _)]
   refine ⟨c,?_,k2⟩
   rw [Array.getElem?_append_left (by simp; omega)]
   simpa using k1
  ·exact absurd (h1 (by omega)) hi
 ·simp [St.init]
  omega
theorem Dk {ntmps:Nat} {args:List AV} {G:List GO} (k:Nat) (cs:List AV):dm (St.init ntmps args G).boxes k≠some cs:=by
 simp [St.init,dm]
theorem cp.intro {g : FuncId} {fn : Func} {c : Code} {args : List AV} {G : List GO} {Q : AV → List GO → Prop} (hf : E.P.funcs[g]? = some fn) (hb : fn.body = some c) (hn : (fn.name == "runtime.NumGoroutine") = false)
  (h:fb E c (P1 E fn Q) (St.init fn.ntmps args G)):cp E g args G Q:=by
 refine ⟨⟨fn,hf,by simp [hb],hn⟩,fun R w cs hg hl=>?_⟩
 refine callsIn_of_wp_marks hf hb trivial (wpIn_mono (h R w (fun _=>0) _ Fence.wide (H8 hg hl) rfl) ?_)
 rintro e a' w' ⟨s',R',β',hq,hr,kn,bP⟩
 have fin:(match nA s'.marks s'.G with
  | some G=>match H4 E (s'.bW G) fn with
   | some r=>Q r G
   | none=>False
  | none=>False)→LeavesInM Fence.wide 0 E.P fn a'.tmps (EL E R w Q) a'.defers .returning w':=by
  intro hq
  split at hq
  ·rename_i G2 VT
   split at hq
   ·rename_i r Dl
    refine Ge fn (EL E R w Q) (s:=s') (G:=s'.G) hr hr.d VT (fun PU zy sW=>?_)
    obtain ⟨v,h1,h2⟩:=H6 zy Dl
    exact ⟨v,h1,r,G2,R',hq,h2,zy.g,vh (kn.trans sW) Dk⟩
   ·exact hq.elim
  ·exact hq.elim
 cases e with
 | normal=>exact fin hq
 | ret=>exact fin hq
 | exit _=>exact hq.elim
 | goto _=>exact hq.elim
 | panic _=>exact hq.elim
 | outgrown=>exact hq.elim
end intro
end Go.Am
namespace Go.Am
open Go
def St.eH (s:St) (pre:a8) (preB:cw) (G:List GO):St:=⟨pre++s.ae,preB++s.boxes,G,s.marks,s.ro,s.n⟩
def UK (al:Bool) (dst:Option Tmp) (pre:a8):Prop:=
 pre=[]∨∃ d x,dst=some d∧(pre=[.put d x]∨(al=true∧pre=[.put d x,.kill d]))
def bL (al w:Bool) (dst:Option Tmp) (s t s' t':St):Prop:=
 ∃ pre preB G,UK al dst pre∧(w=false→preB=[]∧G=s.G∧∃ x,s'=s.put dst x∧t'=t.put dst x)∧s'=s.eH pre preB G∧t'=t.eH pre preB G
section
variable {E:Env} {s t:St} {o:Oper}
theorem kB (s:St) (d:Tmp) (x:SV):s.put (some d) x=bif Nat.blt d s.n then s.eH [.put d x] [] s.G else s:=by
 cases h:Nat.blt d s.n <;> simp [St.put,h,St.eH]
theorem bL.put {al w:Bool} (hn:s.n=t.n) (hG:s.G=t.G) (dst:Option Tmp) (x:SV):bL al w dst s t (s.put dst x) (t.put dst x):=by
 cases dst with
 | none=>exact ⟨[],[],s.G,.inl rfl,fun _=>⟨rfl,rfl,x,rfl,rfl⟩,rfl,by rw [hG]; rfl⟩
 | some d=>
  have hx:∃ y,s.put (some d) x=s.put (some d) y∧t.put (some d) x=t.put (some d) y:=⟨x,rfl,rfl⟩
  revert hx
  generalize hs:s.put (some d) x=s'
  generalize ht:t.put (some d) x=t'
  intro hx
  rw [kB] at hs ht
  rw [← hn] at ht
  revert hs ht
  cases Nat.blt d s.n with
  | true=>exact fun hs ht=>⟨[.put d x],[],s.G,.inr ⟨d,x,rfl,.inl rfl⟩,fun _=>⟨rfl,rfl,hx⟩,hs.symm,by rw [hG]; exact ht.symm⟩
  | false=>exact fun hs ht=>⟨[],[],s.G,.inl rfl,fun _=>⟨rfl,rfl,hx⟩,hs.symm,by rw [hG]; exact ht.symm⟩
theorem bL.df {al:Bool} (hn:s.n=t.n) (G:List GO) (dst:Option Tmp) (x:SV):bL al true dst s t ((s.bW G).put dst x) ((t.bW G).put dst x):=by
 cases dst with
 | none=>exact ⟨[],[],G,.inl rfl,fun h=>(by cases h),rfl,rfl⟩
 | some d=>
  rw [kB,kB,show (t.bW G).n=(s.bW G).n from hn.symm]
  cases Nat.blt d (s.bW G).n with
  | true=>exact ⟨[.put d x],[],G,.inr ⟨d,x,rfl,.inl rfl⟩,fun h=>(by cases h),rfl,rfl⟩
  | false=>exact ⟨[],[],G,.inl rfl,fun h=>(by cases h),rfl,rfl⟩
theorem bL.bW {al:Bool} (G:List GO) (dst:Option Tmp):bL al true dst s t (s.bW G) (t.bW G):=⟨[],[],G,.inl rfl,fun h=>(by cases h),rfl,rfl⟩
theorem bL.tz {al:Bool} (hG:s.G=t.G) (dst:Option Tmp) (d:Nat) (cs:List AV):bL al true dst s t (s.tz d cs) (t.tz d cs):=
 ⟨[],[(d,cs)],s.G,.inl rfl,fun h=>(by cases h),rfl,(by rw [hG]; rfl)⟩
theorem fB {a b:a8}:∀ {l:List Operand},(∀ y∈l,bB E a y=bB E b y)→kZ E a l=kZ E b l
 | [],_=>rfl
 | x :: l,h=>by
  simp only [kZ]
  rw [h x (by simp),fB (l:=l) (fun y hy=>h y (by simp [hy]))]
theorem lB {a b:a8}:∀ {l:List (Nat × Operand)},(∀ p∈l,bB E a p.2=bB E b p.2)→La E a l=La E b l
 | [],_=>rfl
 | (i,x) :: l,h=>by
  simp only [La]
  rw [h (i,x) (by simp),lB (l:=l) (fun y hy=>h y (by simp [hy]))]
theorem xx (hG:s.G=t.G) (p:SV) (hB:∀ k off,p=.lp k off→dm s.boxes k=dm t.boxes k):lQ s p=lQ t p:=by
 unfold lQ
 rw [hG]
 cases p with
 | lp k off=>simp only [hB k off rfl]
 | v a=>cases a <;> rfl
 | _=>rfl
theorem Bg (hG:s.G=t.G) (ty:TypeId) (p:SV) (hB:∀ k off,p=.lp k off→dm s.boxes k=dm t.boxes k):qb E s ty p=qb E t ty p:=by
 unfold qb
 rw [xx hG p hB]
theorem sX (hG:s.G=t.G) (id f i sz:Nat) (ty:TypeId):uw E s id f i sz ty=uw E t id f i sz ty:=by
 unfold uw
 rw [hG]
theorem Bh (hG:s.G=t.G) (ty:TypeId) (p:SV) (hB:∀ k off,p=.lp k off→dm s.boxes k=dm t.boxes k):xV E s ty p=xV E t ty p:=by
 unfold xV
 split
 ·rw [sX hG]
 ·rw [Bg hG _ _ hB]
theorem Bi (hG:s.G=t.G) (esz:Nat) (d x:AV):qd s esz d x=qd t esz d x:=by
 unfold qd
 rw [hG]
theorem sY {f:FuncId} {dst:Option Tmp} {el:TypeId} {cs:List AV} {c:Bool} {s':St} (hn:s.n=t.n) (hG:s.G=t.G) (h:er E f s dst el cs=some (c,s')) :
  ∃ t',er E f t dst el cs=some (c,t')∧bL true true dst s t s' t':=by
 unfold er at *
 cases dst with
 | none=>cases h
 | some d=>
  simp only at *
  split at h
  ·rename_i hg
   injection h with h
   injection h with h1 h2
   subst h1 h2
   rw [if_pos hg]
   refine ⟨_,rfl,?_⟩
   have:=bL.df (al:=true) hn (s.G++[.row cs el]) (some d) (.v (.ptr s.G.length 0))
   rw [hG] at this
   have e:s.dC (.row cs el)=s.bW (t.G++[.row cs el]):=by rw [← hG]; rfl
   rw [e,hG]
   exact this
  ·rename_i hg
   rw [if_neg hg,← hn]
   split at h
   ·rename_i hb
    injection h with h
    injection h with h1 h2
    subst h1 h2
    refine ⟨_,rfl,[.put d (.lp d 0),.kill d],[(d,cs)],s.G,.inr ⟨d,_,rfl,.inr ⟨rfl,rfl⟩⟩,fun h=>(by cases h),?_,?_⟩
    ·simp [St.put,St.tz,St.kill,hb,St.eH]
    ·simp only [St.put,St.tz,St.kill,← hn,hb,St.eH,hG]
     rfl
   ·cases h
theorem Bj {ty:TypeId} {p x:SV} {s':St} {al:Bool} {dst:Option Tmp} (hG:s.G=t.G) (hB:∀ k off,p=.lp k off→dm s.boxes k=dm t.boxes k) (h:iU E s ty p x=some s') :
  ∃ t',iU E t ty p x=some t'∧bL al true dst s t s' t':=by
 unfold iU at *
 split at h
 ·split at h
  ·rename_i hc
   rw [if_pos hc]
   split at h
   ·rw [← hB _ _ rfl]
    split at h
    ·split at h
     ·rename_i LM
      cases h
      simp only [LM,if_true]
      exact ⟨_,rfl,.tz hG _ _ _⟩
     ·cases h
    ·cases h
   ·rw [← hG]
    split at h
    ·split at h
     ·rename_i LM
      cases h
      simp only [LM,if_true]
      exact ⟨_,rfl,.bW _ _⟩
     ·cases h
    ·cases h
   ·cases h
  ·cases h
 ·cases h
theorem Bk {ty:TypeId} {p x:SV} {c:Bool} {s':St} {al:Bool} {dst:Option Tmp} (hG:s.G=t.G) (hB:∀ k off,p=.lp k off→dm s.boxes k=dm t.boxes k) (h:iV E s ty p x=some (c,s')) :
  ∃ t',iV E t ty p x=some (c,t')∧bL al true dst s t s' t':=by
 unfold iV at *
 split at h
 ·rw [← hG]
  split at h
  ·split at h
   ·rename_i h1 h2 hc
    simp only [hc,if_true]
    split at h
    ·rename_i LM
     injection h with h; injection h with e1 e2
     subst e1; subst e2
     simp only [LM,if_true]
     exact ⟨_,rfl,.bW _ _⟩
    ·rename_i LM
     rw [if_neg LM,← sX hG]
     split at h
     ·rename_i hg
      split at h
      ·rename_i hc3
       injection h with h; injection h with e1 e2
       subst e1; subst e2
       simp only [hc3,if_true]
       exact ⟨_,rfl,.bW _ _⟩
      ·cases h
     ·cases h
   ·cases h
  ·cases h
 ·split at h
  ·rename_i s1 hs
   injection h with h; injection h with e1 e2
   subst e1; subst e2
   obtain ⟨t',h3,h4⟩:=Bj (al:=al) (dst:=dst) hG hB hs
   simp only [h3]
   exact ⟨_,rfl,h4⟩
  ·cases h
def bR:Op→Bool
 | .alloc _=>true
 | .box _ _=>true
 | _=>false
def rq:Op→Bool
 | .move _ | .assign _ | .pick _ _ _ | .build _ _ | .buildSlice _ _ _ | .load _ _ | .binOp _ _ _ _ _ | .unOp _ _ _ | .convert _ _ _ | .makeFunc _ _ _ | .fieldAddr _ _ _ | .field _ _ _
 | .indexAddr _ _ _ | .index _ _ _ | .slice _ _ _ _ _ | .extract _ _ | .lookup _ _ _ _ | .nilCheck _=>true
 | .call { callee:=.builtin .len,.. }=>true
 | .call { callee:=.builtin .max,.. }=>true
 | .call { callee:=.builtin .min,.. }=>true
 | _=>false
def Rr:Op→Bool
 | .load _ _=>true
 | .lookup _ _ _ _=>true
 | .call _=>true
 | .convert _ _ _=>true
 | _=>false
def LN:Builtin→Bool
 | .append | .copy | .clear=>true
 | _=>false
theorem xy {dst:Option Tmp} {b:Builtin} {l:List AV} {tys:List TypeId} {c:Bool} {s':St} {al:Bool} (hn:s.n=t.n) (hG:s.G=t.G) (h:bN E s dst b l tys=some (c,s')) :
  ∃ t',bN E t dst b l tys=some (c,t')∧bL al (LN b) dst s t s' t':=by
 obtain ⟨sl,bx,G,m,ro,n⟩:=s
 obtain ⟨UL,Hq,G',m',k9,n'⟩:=t
 have hc:=fun esz d x=>Bi (s:=⟨sl,bx,G,m,ro,n⟩) (t:=⟨UL,Hq,G',m',k9,n'⟩) hG esz d x
 simp only at hn hG
 subst hn hG
 unfold bN at h ⊢
 simp only [← hc]
 cases b
 all_goals (try (cases h; done))
 all_goals (try simp only at h ⊢)
 all_goals (try (split at h <;> first | (cases h; done) | simp only at h ⊢))
 all_goals (repeat' (split at h))
 all_goals (first | (cases h; done) | skip)
 all_goals (injection h with h; injection h with h1 h2; subst h1 h2)
 all_goals (try simp only [if_true, *])
 all_goals (first | exact ⟨_,rfl,.put (by rfl) (by rfl) _ _⟩ | exact ⟨_,rfl,.df (by rfl) _ _ _⟩ | exact ⟨_,rfl,.bW _ _⟩)
theorem vi (hG:s.G=t.G) (a b:TypeId) (x:SV):lm E s a b x=lm E t a b x:=by
 unfold lm
 rw [hG]
theorem xz (hG:s.G=t.G) (ty:TypeId) (m k:SV):kv E s ty m k=kv E t ty m k:=by
 have:mapOf s=mapOf t:=by funext m; unfold mapOf; rw [hG]
 unfold kv iy
 rw [this,hG]
theorem qE {ty:TypeId} {m k x:SV} {s':St} {al:Bool} {dst:Option Tmp} (hG:s.G=t.G) (h:eu E s ty m k x=some s') :
  ∃ t',eu E t ty m k x=some t'∧bL al true dst s t s' t':=by
 unfold eu at *
 rw [← hG]
 repeat' (split at h)
 all_goals (first | (cases h; done) | skip)
 cases h
 simp only [*]
 exact ⟨_,rfl,.bW _ _⟩
theorem Dm {dst:Option Tmp} {x:SV} {s':St} {al:Bool} (hn:s.n=t.n) (hG:s.G=t.G) (h:kw s dst x=some s') :
  ∃ t',kw t dst x=some t'∧bL al true dst s t s' t':=by
 unfold kw at *
 rw [← hG]
 split at h
 ·split at h
  ·rename_i l pos hg
   cases hb:Nat.blt pos l.length with
   | true=>
    rw [hb] at h
    simp only [cond_true] at h ⊢
    cases h
    exact ⟨_,rfl,.df hn _ _ _⟩
   | false=>
    rw [hb] at h
    simp only [cond_false] at h ⊢
    cases h
    obtain ⟨pre,preB,G,p1,p2,p3⟩:=bL.put (al:=al) (w:=true) hn hG dst (.v (.bf [.bool false]))
    exact ⟨_,rfl,pre,preB,G,p1,p2,p3⟩
  ·cases h
 ·cases h
theorem mi {f:FuncId} {r:Bool × St} (h:fO E f s o=some r):∃ args tys,o.op=.call { callee:=.builtin .append,args:=args,argTypes:=tys }:=by
 unfold fO at h
 split at h
 ·split at h
  ·split at h
   ·rename_i args tys ho
    exact ⟨args,tys,ho⟩
   ·cases h
  ·cases h
 ·cases h
theorem vj {f:FuncId} {c:Bool} {s':St} {al:Bool} (hn:s.n=t.n) (hG:s.G=t.G) (dO:∀ y∈o.op.operands,bB E s.ae y=bB E t.ae y)
  (h:fO E f s o=some (c,s')):∃ t',fO E f t o=some (c,t')∧bL al true o.dst s t s' t':=by
 obtain ⟨args,tys,ho⟩:=mi h
 have h1:kZ E s.ae args.toList=kZ E t.ae args.toList:=fB fun y hy=>dO y (by rw [ho]; simp [Op.operands,Call.operands]; simpa using hy)
 unfold fO at h ⊢
 rw [ho] at h ⊢
 simp only [h1,hG] at h ⊢
 repeat' (split at h)
 all_goals (first | (cases h; done) | skip)
 injection h with h; injection h with h2 h3
 subst h2 h3
 simp only [*,if_true]
 refine ⟨_,rfl,?_⟩
 exact bL.df hn _ _ _
theorem tL {f:FuncId} (hn:s.n=t.n) (hG:s.G=t.G) (dO:∀ y∈o.op.operands,bB E s.ae y=bB E t.ae y) (h:fO E f s o=none):fO E f t o=none:=by
 cases ht:fO E f t o with
 | none=>rfl
 | some r=>
  obtain ⟨t',h1,_⟩:=vj (s:=t) (t:=s) (al:=false) hn.symm hG.symm (fun y hy=>(dO y hy).symm) (c:=r.1) (s':=r.2) ht
  rw [h] at h1
  cases h1
theorem qF {f:FuncId} {c:Bool} {s':St} (hn:s.n=t.n) (hG:s.G=t.G) (hB:∀ k off,(∃ y∈o.op.operands,bB E s.ae y=.lp k off)→dm s.boxes k=dm t.boxes k) (dO:∀ y∈o.op.operands,bB E s.ae y=bB E t.ae y)
  (h:ap E f s o=some (c,s')):∃ t',ap E f t o=some (c,t')∧bL (bR o.op) (!rq o.op) o.dst s t s' t':=by
 obtain ⟨dst,op,ty,pos,after,guard⟩:=o
 cases op
 case move x=>
  simp only [ap,dO x (by simp [Op.operands])] at h ⊢
  split at h
  all_goals (injection h with h; injection h with h1 h2; subst h1 h2; (try simp only [*]); exact ⟨_,rfl,.put hn hG _ _⟩)
 case assign x=>
  simp only [ap,dO x (by simp [Op.operands])] at h ⊢
  split at h
  all_goals (injection h with h; injection h with h1 h2; subst h1 h2; (try simp only [*]); exact ⟨_,rfl,.put hn hG _ _⟩)
 case pick x y z=>
  simp only [ap,dO x (by simp [Op.operands]),dO y (by simp [Op.operands]),dO z (by simp [Op.operands])] at h ⊢
  split at h
  ·injection h with h; injection h with h1 h2; subst h1 h2; (try simp only [*]); exact ⟨_,rfl,.put hn hG _ _⟩
  ·cases h
 case alloc e=>
  simp only [ap] at h ⊢
  repeat' (split at h)
  all_goals (first | (cases h; done) | skip)
  simp only [*]
  exact sY hn hG h
 case box e x=>
  simp only [ap,dO x (by simp [Op.operands])] at h ⊢
  repeat' (split at h)
  all_goals (first | (cases h; done) | skip)
  simp only [*]
  exact sY hn hG h
 case build ty ps=>
  have he:lR E s ty ps.toList=lR E t ty ps.toList:=by
   unfold lR
   rw [lB (fun p hp=>dO p.2 (by simp only [Op.operands,List.mem_toArray,List.mem_map]; exact ⟨p,hp,rfl⟩))]
  simp only [ap,he] at h ⊢
  split at h
  ·injection h with h; injection h with h1 h2; subst h1 h2; (try simp only [*]); exact ⟨_,rfl,.put hn hG _ _⟩
  ·cases h
 case buildSlice ty len ps=>
  have he:bX E s ty len ps.toList=bX E t ty len ps.toList:=by
   unfold bX
   rw [lB (fun p hp=>dO p.2 (by simp only [Op.operands,List.mem_toArray,List.mem_map]; exact ⟨p,hp,rfl⟩))]
  simp only [ap,he] at h ⊢
  split at h
  ·injection h with h; injection h with h1 h2; subst h1 h2; (try simp only [*]); exact ⟨_,rfl,.put hn hG _ _⟩
  ·cases h
 case load ty x=>
  simp only [ap,dO x (by simp [Op.operands])] at h ⊢
  rw [Bh hG ty _ (fun k off e=>hB k off ⟨x,by simp [Op.operands],by rw [dO x (by simp [Op.operands])]; exact e⟩)] at h
  split at h
  ·injection h with h; injection h with h1 h2; subst h1 h2; (try simp only [*]); exact ⟨_,rfl,.put hn hG _ _⟩
  ·cases h
 case store ty x y=>
  simp only [ap,dO x (by simp [Op.operands]),dO y (by simp [Op.operands])] at h ⊢
  split at h
  ·rename_i s1 hs
   injection h with h; injection h with h1 h2; subst h1 h2
   obtain ⟨t',h3,h4⟩:=Bk (al:=false) (dst:=none) hG (fun k off e=>hB k off ⟨x,by simp [Op.operands],by rw [dO x (by simp [Op.operands])]; exact e⟩) hs
   rw [h3]
   exact ⟨_,rfl,h4⟩
  ·cases h
 case binOp op a x y b=>
  simp only [ap,dO x (by simp [Op.operands]),dO y (by simp [Op.operands])] at h ⊢
  repeat' (split at h)
  all_goals (first | (cases h; done) | skip)
  all_goals (injection h with h; injection h with h1 h2; subst h1 h2; (try simp only [*]); exact ⟨_,rfl,.put hn hG _ _⟩)
 case unOp op a x=>
  simp only [ap,dO x (by simp [Op.operands])] at h ⊢
  repeat' (split at h)
  all_goals (first | (cases h; done) | skip)
  all_goals (injection h with h; injection h with h1 h2; subst h1 h2; (try simp only [*]); exact ⟨_,rfl,.put hn hG _ _⟩)
 case nilCheck x=>
  simp only [ap,dO x (by simp [Op.operands])] at h ⊢
  repeat' (split at h)
  all_goals (first | (cases h; done) | skip)
  all_goals (injection h with h; injection h with h1 h2; subst h1 h2; (try simp only [*]); exact ⟨_,rfl,.put hn hG _ _⟩)
 case convert a b x=>
  simp only [ap,dO x (by simp [Op.operands]),vi hG] at h ⊢
  repeat' (split at h)
  all_goals (first | (cases h; done) | skip)
  all_goals (injection h with h; injection h with h1 h2; subst h1 h2; (try simp only [*]); exact ⟨_,rfl,.put hn hG _ _⟩)
 case makeFunc fo a b=>
  cases fo with
  | func g=>
   have h1:kZ E s.ae a.toList=kZ E t.ae a.toList:=fB fun y hy=>dO y (by simp only [Op.operands,Array.mem_append]; exact .inl (by simpa using hy))
   have h2:kZ E s.ae b.toList=kZ E t.ae b.toList:=fB fun y hy=>dO y (by simp only [Op.operands,Array.mem_append]; exact .inr (by simpa using hy))
   simp only [ap,h1,h2] at h ⊢
   repeat' (split at h)
   all_goals (first | (cases h; done) | skip)
   all_goals (injection h with h; injection h with h1 h2; subst h1 h2; (try simp only [*]); exact ⟨_,rfl,.put hn hG _ _⟩)
  | _=>simp [ap] at h
 case fieldAddr a x j=>
  simp only [ap,dO x (by simp [Op.operands])] at h ⊢
  repeat' (split at h)
  all_goals (first | (cases h; done) | skip)
  all_goals (injection h with h; injection h with h1 h2; subst h1 h2; (try simp only [*]); exact ⟨_,rfl,.put hn hG _ _⟩)
 case field a x j=>
  simp only [ap,dO x (by simp [Op.operands])] at h ⊢
  repeat' (split at h)
  all_goals (first | (cases h; done) | skip)
  all_goals (injection h with h; injection h with h1 h2; subst h1 h2; (try simp only [*]); exact ⟨_,rfl,.put hn hG _ _⟩)
 case indexAddr a x y=>
  simp only [ap,dO x (by simp [Op.operands]),dO y (by simp [Op.operands])] at h ⊢
  repeat' (split at h)
  all_goals (first | (cases h; done) | skip)
  all_goals (injection h with h; injection h with h1 h2; subst h1 h2; (try simp only [*]); exact ⟨_,rfl,.put hn hG _ _⟩)
 case index a x y=>
  simp only [ap,dO x (by simp [Op.operands]),dO y (by simp [Op.operands])] at h ⊢
  repeat' (split at h)
  all_goals (first | (cases h; done) | skip)
  all_goals (injection h with h; injection h with h1 h2; subst h1 h2; (try simp only [*]); exact ⟨_,rfl,.put hn hG _ _⟩)
 case slice a x lo hi mx=>
  have h1:lS E s.ae lo=lS E t.ae lo:=by
   cases lo with
   | none=>rfl
   | some y=>simp only [lS]; rw [dO y (by simp [Op.operands])]
  have h2:lS E s.ae hi=lS E t.ae hi:=by
   cases hi with
   | none=>rfl
   | some y=>simp only [lS]; rw [dO y (by simp [Op.operands])]
  simp only [ap,dO x (by simp [Op.operands]),h1,h2] at h ⊢
  repeat' (split at h)
  all_goals (first | (cases h; done) | skip)
  all_goals (injection h with h; injection h with h1 h2; subst h1 h2; (try simp only [*]); exact ⟨_,rfl,.put hn hG _ _⟩)
 case extract x i=>
  simp only [ap,dO x (by simp [Op.operands])] at h ⊢
  repeat' (split at h)
  all_goals (first | (cases h; done) | skip)
  all_goals (injection h with h; injection h with h1 h2; subst h1 h2; (try simp only [*]); exact ⟨_,rfl,.put hn hG _ _⟩)
 case makeSlice ty x y=>
  simp only [ap,dO x (by simp [Op.operands]),dO y (by simp [Op.operands])] at h ⊢
  repeat' (split at h)
  all_goals (first | (cases h; done) | skip)
  all_goals (injection h with h; injection h with h1 h2; subst h1 h2)
  all_goals (simp only [*])
  all_goals (refine ⟨_,rfl,?_⟩)
  all_goals (have e:∀ o,t.dC o=t.bW (s.G++[o]):=fun o=>by rw [hG]; rfl)
  all_goals (rw [e,← hG])
  all_goals (exact bL.df (al:=false) hn _ dst _)
 case lookup ty x y ok=>
  simp only [ap,dO x (by simp [Op.operands]),dO y (by simp [Op.operands]),xz hG] at h ⊢
  split at h
  ·injection h with h; injection h with h1 h2; subst h1 h2; (try simp only [*]); exact ⟨_,rfl,.put hn hG _ _⟩
  ·cases h
 case mapUpdate ty x y z=>
  simp only [ap,dO x (by simp [Op.operands]),dO y (by simp [Op.operands]),dO z (by simp [Op.operands])] at h ⊢
  split at h
  ·rename_i s1 hs
   injection h with h; injection h with h1 h2; subst h1 h2
   obtain ⟨t',h3,h4⟩:=qE (al:=false) (dst:=none) hG hs
   rw [h3]
   exact ⟨_,rfl,h4⟩
  ·cases h
 case insert ty x y z=>
  simp only [ap,dO x (by simp [Op.operands]),dO y (by simp [Op.operands]),dO z (by simp [Op.operands])] at h ⊢
  split at h
  ·rename_i s1 hs
   injection h with h; injection h with h1 h2; subst h1 h2
   obtain ⟨t',h3,h4⟩:=qE (al:=false) (dst:=none) hG hs
   rw [h3]
   exact ⟨_,rfl,h4⟩
  ·cases h
 case entry x=>
  simp only [ap,dO x (by simp [Op.operands])] at h ⊢
  have e:rE E s (bB E t.ae x)=rE E t (bB E t.ae x):=by unfold rE; rw [hG]
  rw [e] at h
  split at h
  ·injection h with h; injection h with h1 h2; subst h1 h2; (try simp only [*]); exact ⟨_,rfl,.put hn hG _ _⟩
  ·cases h
 case mapEntry ty x y=>
  simp only [ap,dO x (by simp [Op.operands]),dO y (by simp [Op.operands])] at h ⊢
  unfold fw at h ⊢
  rw [← hG]
  repeat' (split at h)
  all_goals (first | (cases h; done) | skip)
  rename_i jf
  repeat' (split at jf)
  all_goals (first | (cases jf; done) | skip)
  injection jf with jf; injection jf with h3 jf; injection jf with h4 h5
  injection h with h; injection h with h1 h2; subst h1 h2 h3 h4 h5
  simp only [*,if_true]
  exact ⟨_,rfl,bL.df (al:=false) hn _ dst _⟩
 case entryStore ty x y z=>
  simp only [ap,dO x (by simp [Op.operands]),dO y (by simp [Op.operands]),dO z (by simp [Op.operands])] at h ⊢
  unfold dM at h ⊢
  rw [← hG]
  repeat' (split at h)
  all_goals (first | (cases h; done) | skip)
  rename_i jf
  repeat' (split at jf)
  all_goals (first | (cases jf; done) | skip)
  injection jf with jf; injection jf with h3 h5
  injection h with h; injection h with h1 h2; subst h1 h2 h3 h5
  simp only [*]
  exact ⟨_,rfl,.bW _ _⟩
 case range ty x=>
  simp only [ap,dO x (by simp [Op.operands])] at h ⊢
  repeat' (split at h)
  all_goals (first | (cases h; done) | skip)
  ·injection h with h; injection h with h1 h2; subst h1 h2
   (try simp only [*])
   refine ⟨_,rfl,?_⟩
   have e:∀ o,t.dC o=t.bW (s.G++[o]):=fun o=>by rw [hG]; rfl
   rw [e,← hG]
   exact bL.df (al:=false) hn _ dst _
  ·rename_i hk hg
   injection h with h; injection h with h1 h2; subst h1 h2
   have pw:=hg
   rw [hG] at pw
   simp only [hk,pw]
   refine ⟨_,rfl,?_⟩
   have e:∀ o,t.dC o=t.bW (s.G++[o]):=fun o=>by rw [hG]; rfl
   rw [e,← hG]
   exact bL.df (al:=false) hn _ dst _
 case next x b=>
  cases b with
  | false=>simp [ap] at h
  | true=>
   simp only [ap,dO x (by simp [Op.operands])] at h ⊢
   split at h
   ·rename_i s1 hs
    injection h with h; injection h with h1 h2; subst h1 h2
    obtain ⟨t',h3,h4⟩:=Dm (al:=false) hn hG hs
    rw [h3]
    exact ⟨_,rfl,h4⟩
   ·cases h
 case makeMap ty r=>
  cases r with
  | none=>
   simp only [ap] at h ⊢
   injection h with h; injection h with h1 h2; subst h1 h2
   refine ⟨_,rfl,?_⟩
   have:=bL.df (al:=false) hn (s.G++[.map []]) dst (.v (.map s.G.length))
   have e:∀ o,t.dC o=t.bW (s.G++[o]):=fun o=>by rw [hG]; rfl
   rw [e,← hG]
   exact this
  | some _=>simp [ap] at h
 case call cl=>
  obtain ⟨callee,args,tys⟩:=cl
  cases callee with
  | builtin b=>
   have h1:kZ E s.ae args.toList=kZ E t.ae args.toList:=fB fun y hy=>dO y (by simp [Op.operands,Call.operands]; simpa using hy)
   cases hf:fO E f s { dst:=dst,op:=.call { callee:=.builtin b,args:=args,argTypes:=tys },type:=ty,pos:=pos,after:=after,guard:=guard } with
   | some r=>
    simp only [ap,hf] at h
    obtain ⟨t',q1,q2⟩:=vj (al:=bR (.call { callee:=.builtin b,args:=args,argTypes:=tys })) hn hG dO (c:=r.1) (s':=r.2) hf
    cases h
    obtain ⟨a2,t2,ho⟩:=mi hf
    cases ho
    refine ⟨t',by simp only [ap,q1],?_⟩
    exact q2
   | none=>
   have VH:=tL hn hG dO hf
   simp only [ap,hf,VH,h1] at h ⊢
   split at h
   ·(try simp only [*])
    obtain ⟨t',h3,h4⟩:=xy (al:=false) hn hG h
    refine ⟨t',h3,?_⟩
    have:(!rq (.call { callee:=.builtin b,args:=args,argTypes:=tys }))=LN b∨LN b=false:=by cases b <;> simp [rq,LN]
    rcases this with this | this
    ·rw [this]; exact h4
    ·obtain ⟨pre,preB,G,p1,p2,p3⟩:=h4
     exact ⟨pre,preB,G,p1,fun _=>p2 this,p3⟩
   ·cases h
  | _=>simp [ap] at h
 all_goals (simp [ap] at h)
theorem gy {f:FuncId} {c:Bool} {s':St} (hn:s.n=t.n) (hG:s.G=t.G) (hB:dm s.boxes=dm t.boxes) (dO:∀ y∈o.op.operands,bB E s.ae y=bB E t.ae y)
  (h:ap E f s o=some (c,s')):∃ t',ap E f t o=some (c,t')∧bL (bR o.op) (!rq o.op) o.dst s t s' t':=
 qF hn hG (fun k _ _=>by rw [hB]) dO h
end
end Go.Am
namespace Go.Am
open Go
structure ou (s t:St):Prop where
 l:lk s.ae=lk t.ae
 b:dm s.boxes=dm t.boxes
 G:s.G=t.G
 m:s.marks=t.marks
 ro:s.ro=t.ro
 n:s.n=t.n
theorem ou.refl (s:St):ou s s:=⟨rfl,rfl,rfl,rfl,rfl,rfl⟩
theorem ou.symm {s t:St} (h:ou s t):ou t s:=⟨h.l.symm,h.b.symm,h.G.symm,h.m.symm,h.ro.symm,h.n.symm⟩
theorem ou.trans {s t u:St} (h:ou s t) (k:ou t u):ou s u:=⟨h.l.trans k.l,h.b.trans k.b,h.G.trans k.G,h.m.trans k.m,h.ro.trans k.ro,h.n.trans k.n⟩
theorem lC {a b:a8} {e:Nat} (h:lk a e=lk b e):∀ pre:a8,lk (pre++a) e=lk (pre++b) e
 | []=>h
 | .put d x :: pre=>by
  simp only [List.cons_append,lk]
  rw [lC h pre]
 | .kill d :: pre=>by
  simp only [List.cons_append,lk]
  rw [lC h pre]
theorem vk {a b:cw} {e:Nat} (h:dm a e=dm b e):∀ pre:cw,dm (pre++a) e=dm (pre++b) e
 | []=>h
 | (d,x) :: pre=>by
  simp only [List.cons_append,dm]
  rw [vk h pre]
theorem ou.eH {s t:St} (h:ou s t) (pre:a8) (preB:cw) (G:List GO):ou (s.eH pre preB G) (t.eH pre preB G):=
 ⟨funext fun e=>lC (by rw [h.l]) pre,funext fun e=>vk (by rw [h.b]) preB,rfl,h.m,h.ro,h.n⟩
theorem H9 {E:Env} {a b:a8} {x:Operand} (h:∀ t,x=.tmp t→lk a t=lk b t):bB E a x=bB E b x:=by
 cases x with
 | tmp t=>exact h t rfl
 | _=>rfl
theorem ou.bB {E:Env} {s t:St} (h:ou s t) (x:Operand):bB E s.ae x=bB E t.ae x:=H9 fun e _=>by rw [h.l]
section AF
variable {E:Env} {R:ak} {w:World} {β:Nat→Nat} {s t:St} {a:Act}
theorem bg.eqv (h:bg E R w β s a) (e:ou s t):bg E R w β t a where
 g:=by rw [← e.G]; exact h.g
 b:=⟨fun k cs hk=>h.b.box k cs (by rw [e.b]; exact hk),fun k k' c c' h1 h2=>h.b.inj k k' c c' (by rw [e.b]; exact h1) (by rw [e.b]; exact h2)⟩
 t:=fun i hi=>by
  rw [← e.l] at hi ⊢
  exact h.t i hi
 n:=by rw [← e.n]; exact h.n
 d:=by rw [← e.m]; exact h.d
theorem tY {bx Hq:cw} (h:dm bx=dm Hq) {b:Nat} (k:Own R β bx b):Own R β Hq b:=by
 rcases k with k | ⟨j,cs,h1,h2⟩
 ·exact .inl k
 ·exact .inr ⟨j,cs,by rw [← h]; exact h1,h2⟩
theorem Step.eqv {R':ak} {w':World} {β':Nat→Nat} {bx Hq cx cx':cw} (h:Step R w β bx R' w' β' Hq) (h1:dm bx=dm cx) (h2:dm Hq=dm cx'):Step R w β cx R' w' β' cx':=
 ⟨h.ext,h.os,h.tape,h.output,h.size,fun b hb hn=>h.bp b hb (fun ho=>hn (tY h1 ho)),fun b hb ho=>tY h1 (h.own b hb (tY h2.symm ho)),fun b o hi hb hn=>h.im b o hi hb (fun ho=>hn (tY h1 ho))⟩
end AF
section ops
variable {E:Env} {s t:St} {f:FuncId} {o:Oper} {K K':St→Prop}
def Inv (K:St→Prop):Prop:=∀ s t,ou s t→K s→K t
theorem Bl {op:Op} (h:rq op=true):bR op=false:=by
 cases op <;> simp_all [rq,bR]
theorem rW (hn:s.n=t.n) (hG:s.G=t.G) (hB:dm s.boxes=dm t.boxes) (dO:∀ y∈o.op.operands,bB E s.ae y=bB E t.ae y) (h:jo E f o K s)
  (hK:∀ pre preB G,UK (bR o.op) o.dst pre→(rq o.op=true→preB=[]∧G=s.G)→K (s.eH pre preB G)→K' (t.eH pre preB G)):jo E f o K' t:=by
 unfold jo at h ⊢
 split at h
 ·rename_i x args tys ho
  have h1:bB E s.ae x=bB E t.ae x:=dO x (by rw [ho]; simp [Op.operands,Call.operands])
  have h2:kZ E s.ae args.toList=kZ E t.ae args.toList:=fB fun y hy=>dO y (by rw [ho]; simp [Op.operands,Call.operands]; exact .inr (by simpa using hy))
  try simp only [ho]
  rw [← h1,← h2,← hG]
  split at h
  ·refine cp.mono h fun r G' hk=>?_
   obtain ⟨pre,preB,G,p1,p2,p3,p4⟩:=bL.df (s:=s) (t:=t) (al:=bR o.op) hn G' o.dst (.v r)
   rw [p3] at hk
   rw [p4]
   exact hK pre preB G p1 (fun e=>by rw [ho] at e; simp [rq] at e) hk
  ·refine jN.mono h fun r G' hk=>?_
   obtain ⟨pre,preB,G,p1,p2,p3,p4⟩:=bL.df (s:=s) (t:=t) (al:=bR o.op) hn G' o.dst (.v (.bool r))
   rw [p3] at hk
   rw [p4]
   exact hK pre preB G p1 (fun e=>by rw [ho] at e; simp [rq] at e) hk
  ·exact h.elim
 ·exact h.elim
 ·split at h
  ·rename_i c s' hs
   obtain ⟨t',h1,pre,preB,G,p1,p2,p3,p4⟩:=gy hn hG hB dO hs
   rw [h1]
   obtain ⟨rfl,hk⟩:=h.out
   refine dh.mk rfl ?_
   rw [p3] at hk
   rw [p4]
   exact hK pre preB G p1 (fun e=>⟨(p2 (by simp [e])).1,(p2 (by simp [e])).2.1⟩) hk
  ·exact h.elim
theorem rX (h:jo E f o K s) (hK:∀ s,K s→K' s):jo E f o K' s:=
 rW rfl rfl rfl (fun _ _=>rfl) h fun _ _ _ _ _ hk=>hK _ hk
theorem vl (h:jo E f o K s) (e:ou s t) (hK:Inv K):jo E f o K t:=
 rW e.n e.G e.b (fun y _=>e.bB y) h fun _ _ _ _ _ hk=>hK _ _ (e.eH _ _ _) hk
def AG (ops:List Oper) (s:St) (o:Oper):Option Bool:=match o.guard with
 | none=>some true
 | some (j,want)=>match ny ops j with
  | some d=>match lk s.ae d with
   | .v (.bool b)=>some (b == want)
   | .v (.bf [])=>some false
   | _=>none
  | none=>none
theorem Bm (s:St) {d:Tmp} {x:SV} (h:lk s.ae d=x):ou s (s.put (some d) x):=by
 simp only [St.put]
 split
 ·refine ⟨funext fun e=>?_,rfl,rfl,rfl,rfl,rfl⟩
  by_cases k:d=e
  ·subst k; rw [ay]; exact h
  ·rw [aK k]
 ·exact ou.refl s
theorem ou.put {s t:St} (h:ou s t) (d:Option Tmp) (x:SV):ou (s.put d x) (t.put d x):=by
 obtain ⟨pre,preB,G,_,_,p3,p4⟩:=bL.put (s:=s) (t:=t) (al:=false) (w:=false) h.n h.G d x
 rw [p3,p4]
 exact h.eH _ _ _
theorem fe {ops:List Oper} (hK:Inv K):b7 E f ops o K s↔(AG ops s o=some true∧jo E f o K s)∨(AG ops s o=some false∧K (s.put o.dst (.v eX))):=by
 unfold b7 AG
 cases hg:o.guard with
 | none=>simp
 | some p=>
  obtain ⟨j,want⟩:=p
  simp only
  cases hd:ny ops j with
  | none=>simp
  | some d=>
   simp only
   cases hl:lk s.ae d with
   | none=>simp
   | lp _ _=>simp
   | v a=>
    cases a with
    | bool b=>
     have e1:b=want→ou s (s.put (some d) (.v (.bool want))):=fun e=>Bm s (by rw [hl,e])
     have e2:b=(!want)→ou s (s.put (some d) (.v (.bool (!want)))):=fun e=>Bm s (by rw [hl,e])
     constructor
     ·intro ⟨h1,h2⟩
      by_cases e:b=want
      ·exact .inl ⟨by simp [e],vl (h1 e) (e1 e).symm hK⟩
      ·have e':b=(!want):=by cases b <;> cases want <;> simp_all
       exact .inr ⟨by simp [e],hK _ _ ((e2 e').symm.put _ _) (h2 e')⟩
     ·rintro (⟨h1,h2⟩ | ⟨h1,h2⟩)
      ·have e:b=want:=by simpa using h1
       exact ⟨fun e=>vl h2 (e1 e) hK,fun e'=>by subst e; cases b <;> cases e'⟩
      ·have e:¬ b=want:=by simpa using h1
       exact ⟨fun k=>absurd k e,fun e'=>hK _ _ ((e2 e').put _ _) h2⟩
    | bf vs=>cases vs <;> simp
    | _=>simp
theorem b8 {ops:List Oper} (h:b7 E f ops o K s) (hK:∀ s,K s→K' s):b7 E f ops o K' s:=by
 unfold b7 at h ⊢
 split at h
 ·exact rX h hK
 ·split at h
  ·exact h.elim
  ·split at h
   ·exact ⟨fun e=>rX (h.1 e) hK,fun e=>hK _ (h.2 e)⟩
   ·exact hK _ h
   ·exact h.elim
theorem zA {ops:List Oper} (e:ou s t):AG ops s o=AG ops t o:=by
 unfold AG
 rw [e.l]
theorem Bn {ops:List Oper} (hK:Inv K):Inv (b7 E f ops o K):=fun s t e h=>by
 rw [fe hK] at h ⊢
 rcases h with ⟨h1,h2⟩ | ⟨h1,h2⟩
 ·exact .inl ⟨by rw [← zA e]; exact h1,vl h2 e hK⟩
 ·exact .inr ⟨by rw [← zA e]; exact h1,hK _ _ (e.put _ _) h2⟩
end ops
end Go.Am
namespace Go.Am
open Go
def Ia (dst:Option Tmp) (s t s' t':St):Prop:=∃ x,s'=s.put dst x∧t'=t.put dst x
section
variable {E:Env} {s t:St} {o:Oper}
theorem Ia.put (_:s.n=t.n) (dst:Option Tmp) (x:SV):Ia dst s t (s.put dst x) (t.put dst x):=⟨x,rfl,rfl⟩
theorem Bo {f:FuncId} {c:Bool} {s':St} (hN:rq o.op=true) (hR:Rr o.op=false) (hn:s.n=t.n) (dO:∀ y∈o.op.operands,bB E s.ae y=bB E t.ae y)
  (h:ap E f s o=some (c,s')):∃ t',ap E f t o=some (c,t')∧Ia o.dst s t s' t':=by
 obtain ⟨dst,op,ty,pos,after,guard⟩:=o
 cases op
 case move x=>
  simp only [ap,dO x (by simp [Op.operands])] at h ⊢
  split at h
  all_goals (injection h with h; injection h with h1 h2; subst h1 h2; (try simp only [*]); exact ⟨_,rfl,.put hn _ _⟩)
 case assign x=>
  simp only [ap,dO x (by simp [Op.operands])] at h ⊢
  split at h
  all_goals (injection h with h; injection h with h1 h2; subst h1 h2; (try simp only [*]); exact ⟨_,rfl,.put hn _ _⟩)
 case pick x y z=>
  simp only [ap,dO x (by simp [Op.operands]),dO y (by simp [Op.operands]),dO z (by simp [Op.operands])] at h ⊢
  split at h
  ·injection h with h; injection h with h1 h2; subst h1 h2; (try simp only [*]); exact ⟨_,rfl,.put hn _ _⟩
  ·cases h
 case build ty ps=>
  have he:lR E s ty ps.toList=lR E t ty ps.toList:=by
   unfold lR
   rw [lB (fun p hp=>dO p.2 (by simp only [Op.operands,List.mem_toArray,List.mem_map]; exact ⟨p,hp,rfl⟩))]
  simp only [ap,he] at h ⊢
  split at h
  ·injection h with h; injection h with h1 h2; subst h1 h2; (try simp only [*]); exact ⟨_,rfl,.put hn _ _⟩
  ·cases h
 case buildSlice ty len ps=>
  have he:bX E s ty len ps.toList=bX E t ty len ps.toList:=by
   unfold bX
   rw [lB (fun p hp=>dO p.2 (by simp only [Op.operands,List.mem_toArray,List.mem_map]; exact ⟨p,hp,rfl⟩))]
  simp only [ap,he] at h ⊢
  split at h
  ·injection h with h; injection h with h1 h2; subst h1 h2; (try simp only [*]); exact ⟨_,rfl,.put hn _ _⟩
  ·cases h
 case binOp op a x y b=>
  simp only [ap,dO x (by simp [Op.operands]),dO y (by simp [Op.operands])] at h ⊢
  repeat' (split at h)
  all_goals (first | (cases h; done) | skip)
  all_goals (injection h with h; injection h with h1 h2; subst h1 h2; (try simp only [*]); exact ⟨_,rfl,.put hn _ _⟩)
 case unOp op a x=>
  simp only [ap,dO x (by simp [Op.operands])] at h ⊢
  repeat' (split at h)
  all_goals (first | (cases h; done) | skip)
  all_goals (injection h with h; injection h with h1 h2; subst h1 h2; (try simp only [*]); exact ⟨_,rfl,.put hn _ _⟩)
 case convert a b x=>simp [Rr] at hR
 case nilCheck x=>
  simp only [ap,dO x (by simp [Op.operands])] at h ⊢
  repeat' (split at h)
  all_goals (first | (cases h; done) | skip)
  all_goals (injection h with h; injection h with h1 h2; subst h1 h2; (try simp only [*]); exact ⟨_,rfl,.put hn _ _⟩)
 case makeFunc fo a b=>
  cases fo with
  | func g=>
   have h1:kZ E s.ae a.toList=kZ E t.ae a.toList:=fB fun y hy=>dO y (by simp only [Op.operands,Array.mem_append]; exact .inl (by simpa using hy))
   have h2:kZ E s.ae b.toList=kZ E t.ae b.toList:=fB fun y hy=>dO y (by simp only [Op.operands,Array.mem_append]; exact .inr (by simpa using hy))
   simp only [ap,h1,h2] at h ⊢
   repeat' (split at h)
   all_goals (first | (cases h; done) | skip)
   all_goals (injection h with h; injection h with h1 h2; subst h1 h2; (try simp only [*]); exact ⟨_,rfl,.put hn _ _⟩)
  | _=>simp [ap] at h
 case fieldAddr a x j=>
  simp only [ap,dO x (by simp [Op.operands])] at h ⊢
  repeat' (split at h)
  all_goals (first | (cases h; done) | skip)
  all_goals (injection h with h; injection h with h1 h2; subst h1 h2; (try simp only [*]); exact ⟨_,rfl,.put hn _ _⟩)
 case field a x j=>
  simp only [ap,dO x (by simp [Op.operands])] at h ⊢
  repeat' (split at h)
  all_goals (first | (cases h; done) | skip)
  all_goals (injection h with h; injection h with h1 h2; subst h1 h2; (try simp only [*]); exact ⟨_,rfl,.put hn _ _⟩)
 case indexAddr a x y=>
  simp only [ap,dO x (by simp [Op.operands]),dO y (by simp [Op.operands])] at h ⊢
  repeat' (split at h)
  all_goals (first | (cases h; done) | skip)
  all_goals (injection h with h; injection h with h1 h2; subst h1 h2; (try simp only [*]); exact ⟨_,rfl,.put hn _ _⟩)
 case index a x y=>
  simp only [ap,dO x (by simp [Op.operands]),dO y (by simp [Op.operands])] at h ⊢
  repeat' (split at h)
  all_goals (first | (cases h; done) | skip)
  all_goals (injection h with h; injection h with h1 h2; subst h1 h2; (try simp only [*]); exact ⟨_,rfl,.put hn _ _⟩)
 case slice a x lo hi mx=>
  have h1:lS E s.ae lo=lS E t.ae lo:=by
   cases lo with
   | none=>rfl
   | some y=>simp only [lS]; rw [dO y (by simp [Op.operands])]
  have h2:lS E s.ae hi=lS E t.ae hi:=by
   cases hi with
   | none=>rfl
   | some y=>simp only [lS]; rw [dO y (by simp [Op.operands])]
  simp only [ap,dO x (by simp [Op.operands]),h1,h2] at h ⊢
  repeat' (split at h)
  all_goals (first | (cases h; done) | skip)
  all_goals (injection h with h; injection h with h1 h2; subst h1 h2; (try simp only [*]); exact ⟨_,rfl,.put hn _ _⟩)
 case extract x i=>
  simp only [ap,dO x (by simp [Op.operands])] at h ⊢
  repeat' (split at h)
  all_goals (first | (cases h; done) | skip)
  all_goals (injection h with h; injection h with h1 h2; subst h1 h2; (try simp only [*]); exact ⟨_,rfl,.put hn _ _⟩)
 all_goals (first | (simp [rq] at hN; done) | (simp [Rr] at hR; done))
end
end Go.Am
namespace Go.Am
open Go
section
variable {E:Env} {s t:St} {f:FuncId} {ops:Array Oper} {o oj oi:Oper} {d:Tmp} {x:SV} {K:St→Prop}
theorem Ib (ops:Array Oper) (j:Nat):ny ops.toList j=(ops[j]?).bind (·.dst):=by
 unfold ny
 rw [aX,Array.getElem?_toList]
 cases ops[j]? <;> rfl
theorem mj {e:Tmp} (h:.tmp e∈o.op.operands):e∈o.looksAt ops:=
 List.mem_append_left _ (List.mem_filterMap.2 ⟨.tmp e,by simpa using h,rfl⟩)
theorem iZ {j:Nat} {want:Bool} {e:Tmp} (h:o.guard=some (j,want)) (he:ny ops.toList j=some e):e∈o.looksAt ops:=by
 rw [Ib] at he
 refine List.mem_append_right _ ?_
 rw [h]
 simp [he]
theorem jO (h:∀ e∈o.looksAt ops,lk s.ae e=lk t.ae e):∀ y∈o.op.operands,bB E s.ae y=bB E t.ae y:=fun _ hy=>
 H9 fun e he=>h e (mj (he ▸ hy))
theorem jz (h:∀ e∈o.looksAt ops,lk s.ae e=lk t.ae e):AG ops.toList s o=AG ops.toList t o:=by
 unfold AG
 split
 ·rfl
 ·rename_i j want hg
  split
  ·rename_i e he
   rw [h e (iZ hg he)]
  ·rfl
theorem tZ (s:St) (d:Tmp) (x:SV) {e:Nat} (h:d≠e):lk (s.put (some d) x).ae e=lk s.ae e:=by
 simp only [St.put]
 split
 ·exact aK h
 ·rfl
theorem fg (s:St) (d:Option Tmp) (x:SV):(s.put d x).boxes=s.boxes∧(s.put d x).G=s.G∧(s.put d x).n=s.n∧(s.put d x).marks=s.marks∧(s.put d x).ro=s.ro:=by
 cases d with
 | none=>exact ⟨rfl,rfl,rfl,rfl,rfl⟩
 | some d=>
  simp only [St.put]
  split <;> exact ⟨rfl,rfl,rfl,rfl,rfl⟩
def vm (E:Env) (f:FuncId) (ops:Array Oper) (o:Oper) (s:St) (x:SV):Prop:=
 (AG ops.toList s o=some true∧ap E f s o=some (true,s.put o.dst x))∨(AG ops.toList s o=some false∧x=.v eX)
theorem Ic {c:Bool} {s':St} (hN:rq o.op=true) (h:ap E f s o=some (c,s')):∃ x,s'=s.put o.dst x:=by
 obtain ⟨t',_,pre,preB,G,_,h2,_,_⟩:=gy (t:=s) rfl rfl rfl (fun _ _=>rfl) h
 obtain ⟨_,_,x,hx,_⟩:=h2 (by simp [hN])
 exact ⟨x,hx⟩
theorem Ie (hN:rq o.op=true):jo E f o K s↔∃ s',ap E f s o=some (true,s')∧K s':=by
 unfold jo
 split
 ·rename_i h
  rw [h] at hN
  simp [rq] at hN
 ·rename_i h
  rw [h] at hN
  simp [rq] at hN
 ·split
  ·rename_i c s' hs
   constructor
   ·intro h
    obtain ⟨rfl,hk⟩:=h.out
    exact ⟨s',hs,hk⟩
   ·rintro ⟨AW,h1,h2⟩
    rw [hs] at h1
    cases h1
    exact dh.mk rfl h2
  ·rename_i hs
   constructor
   ·exact fun h=>h.elim
   ·rintro ⟨AW,h1,_⟩
    rw [hs] at h1
    cases h1
theorem vn (hN:rq o.op=true) (hK:Inv K) (h:b7 E f ops.toList o K s):∃ x,vm E f ops o s x∧K (s.put o.dst x):=by
 rcases (fe hK).1 h with ⟨h1,h2⟩ | ⟨h1,h2⟩
 ·obtain ⟨s',h3,h4⟩:=(Ie hN).1 h2
  obtain ⟨x,rfl⟩:=Ic hN h3
  exact ⟨x,.inl ⟨h1,h3⟩,h4⟩
 ·exact ⟨_,.inr ⟨h1,rfl⟩,h2⟩
theorem vo (hN:rq o.op=true) (hK:Inv K) (hx:vm E f ops o s x) (h:K (s.put o.dst x)):b7 E f ops.toList o K s:=by
 rw [fe hK]
 rcases hx with ⟨h1,h2⟩ | ⟨h1,rfl⟩
 ·exact .inl ⟨h1,(Ie hN).2 ⟨_,h2,h⟩⟩
 ·exact .inr ⟨h1,h⟩
def Dn (E:Env) (f:FuncId) (ops:List Oper) (o:Oper) (s:St):Prop:=match AG ops s o with
 | some true=>match o.dst,ap E f s o with
  | some d,some (c,s')=>c=true∧lk s'.ae d=lk s.ae d
  | _,_=>False
 | some false=>True
 | none=>False
theorem LO (hN:rq o.op=true) (hd:d∉o.looksAt ops) (cA:o.dst≠some d) (he:∀ e,d≠e→lk s.ae e=lk t.ae e) (hB:dm s.boxes=dm t.boxes) (hG:s.G=t.G) (hn:s.n=t.n)
  (h:Dn E f ops.toList o s):Dn E f ops.toList o t:=by
 have hl:∀ e∈o.looksAt ops,lk s.ae e=lk t.ae e:=fun e hm=>he e fun k=>hd (k ▸ hm)
 unfold Dn at h ⊢
 rw [← jz hl]
 split
 ·rename_i hg
  rw [hg] at h
  simp only at h
  split at h
  ·rename_i e c s' Gf hs
   obtain ⟨t',h3,pre,preB,G,_,h4,_,_⟩:=gy hn hG hB (jO hl) hs
   obtain ⟨_,_,y,h5,h6⟩:=h4 (by simp [hN])
   rw [Gf,h3]
   refine ⟨h.1,?_⟩
   have hde:d≠e:=fun k=>cA (by rw [Gf,k])
   have h7:=h.2
   rw [h5,Gf] at h7
   rw [h6,Gf,← he e hde]
   simp only [St.put,← hn] at h7 ⊢
   split
   ·rename_i hb
    rw [hb] at h7
    simp only [ay] at h7 ⊢
    exact h7
   ·exact (he e hde).symm
  ·exact h.elim
 ·trivial
 ·rename_i hg
  rw [hg] at h
  exact h
theorem LP (hN:rq o.op=true) (e:ou s t) (h:Dn E f ops.toList o s):Dn E f ops.toList o t:=by
 unfold Dn at h ⊢
 rw [← zA e]
 split
 ·rename_i hg
  rw [hg] at h
  simp only at h
  split at h
  ·rename_i d c s' Gf hs
   obtain ⟨t',h3,pre,preB,G,_,h4,_,_⟩:=gy e.n e.G e.b (fun y _=>e.bB y) hs
   obtain ⟨_,_,y,h5,h6⟩:=h4 (by simp [hN])
   rw [Gf,h3]
   refine ⟨h.1,?_⟩
   rw [h6,← (e.put o.dst y).l,← h5,← e.l]
   exact h.2
  ·exact h.elim
 ·trivial
 ·rename_i hg
  rw [hg] at h
  exact h
def iH (oj oi:Oper):Bool:=bR oi.op || (Rr oj.op&&!rq oi.op)
theorem Ig {al:Bool} {dst:Option Tmp} {pre:a8} (h:UK al dst pre) {e:Nat} (he:dst≠some e) (l:a8):lk (pre++l) e=lk l e∨(al=true∧∃ k off,lk l e=.lp k off):=by
 rcases h with rfl | ⟨d,y,rfl,rfl | ⟨rfl,rfl⟩⟩
 ·exact .inl rfl
 ·exact .inl (aK fun k=>he (by rw [k]))
 ·simp only [List.cons_append,List.nil_append]
  rw [aK (fun k=>he (by rw [k]))]
  simp only [lk]
  cases hl:lk l e with
  | lp k off=>exact .inr ⟨trivial,k,off,rfl⟩
  | _=>exact .inl rfl
theorem qG {al:Bool} {pre:a8} (preB:cw) (G:List GO) (h:UK al oi.dst pre) (cA:oi.dst≠some d) (hx:al=false∨∃ a,x=.v a):ou ((s.put (some d) x).eH pre preB G) ((s.eH pre preB G).put (some d) x):=by
 have hb:∀ b,Nat.blt d s.n=b→ou ((s.put (some d) x).eH pre preB G) ((s.eH pre preB G).put (some d) x):=fun b hb=>by
  have jI:Nat.blt d (s.eH pre preB G).n=b:=hb
  rw [kB,kB,hb,jI]
  cases b with
  | false=>exact ou.refl _
  | true=>
   refine ⟨funext fun e=>?_,rfl,rfl,rfl,rfl,rfl⟩
   simp only [cond_true,St.eH,List.cons_append,List.nil_append]
   by_cases k:d=e
   ·subst k
    rw [ay]
    rcases Ig h cA (.put d x :: s.ae) with h1 | ⟨h1,k,off,h2⟩
    ·rw [h1,ay]
    ·rw [ay] at h2
     rcases hx with hx | ⟨a,hx⟩
     ·rw [hx] at h1; cases h1
     ·rw [hx] at h2; cases h2
   ·rw [aK k]
    exact lC (aK k) pre
 exact hb _ rfl
theorem Gg (hN:rq oj.op=true) (EM:oj.dst=some d) (Bp:d∉oj.looksAt ops) (UM:oj.apart ops oi=true) (hK:Inv K) (hx:vm E f ops oj s x) {pre:a8} {preB:cw} {G:List GO}
  (xA:UK (bR oi.op) oi.dst pre) (VU:rq oi.op=true→preB=[]∧G=s.G) (hk:K ((s.put (some d) x).eH pre preB G)) (Vv:∀ t',K t'→iH oj oi=true→Dn E f ops.toList oj t') :
  ∃ x',vm E f ops oj (s.eH pre preB G) x'∧K ((s.eH pre preB G).put (some d) x'):=by
 obtain ⟨_,cA,A0⟩:=Oper.apart_spec UM
 have Ih:oi.dst≠some d:=cA d EM
 have qH:∀ e∈oj.looksAt ops,oi.dst≠some e:=fun e he k=>A0 e k he
 have sM:∀ e∈oj.looksAt ops,(bR oi.op=false∨∃ b,lk s.ae e=.v b)→lk s.ae e=lk (s.eH pre preB G).ae e:=fun e he ha=>by
  rcases Ig xA (qH e he) s.ae with h1 | ⟨h1,k,off,h2⟩
  ·exact h1.symm
  ·rcases ha with ha | ⟨b,ha⟩
   ·rw [ha] at h1; cases h1
   ·rw [ha] at h2; cases h2
 have LQ:∀ b,AG ops.toList s oj=some b→AG ops.toList (s.eH pre preB G) oj=some b:=fun b hb=>by
  unfold AG at hb ⊢
  split
  ·rename_i hg; rw [hg] at hb; exact hb
  ·rename_i j want hg
   rw [hg] at hb
   simp only at hb
   split
   ·rename_i e he
    rw [he] at hb
    simp only at hb
    split at hb
    ·rename_i b' hl
     have:=sM e (iZ hg he) (.inr ⟨_,hl⟩)
     rw [← this,hl]
     exact hb
    ·rename_i hl
     have:=sM e (iZ hg he) (.inr ⟨_,hl⟩)
     rw [← this,hl]
     exact hb
    ·cases hb
   ·rename_i he; rw [he] at hb; cases hb
 rcases hx with ⟨h1,h2⟩ | ⟨h1,rfl⟩
 ·rw [EM] at h2
  by_cases Zc:iH oj oi=true
  ·have hr:=Vv _ hk Zc
   -- the state with the slot, and the one without it
   have zr:∀ e,d≠e→lk ((s.put (some d) x).eH pre preB G).ae e=lk (s.eH pre preB G).ae e:=fun e he=>lC (tZ s d x he) pre
   have hB:dm ((s.put (some d) x).eH pre preB G).boxes=dm (s.eH pre preB G).boxes:=by
    simp only [St.eH]; rw [(fg s _ x).1]
   have hn:((s.put (some d) x).eH pre preB G).n=(s.eH pre preB G).n:=(fg s _ x).2.2.1
   have Ii:∀ e∈oj.looksAt ops,lk ((s.put (some d) x).eH pre preB G).ae e=lk (s.eH pre preB G).ae e:=fun e he=>zr e fun k=>Bp (k ▸ he)
   have hg2:AG ops.toList ((s.put (some d) x).eH pre preB G) oj=some true:=by rw [jz Ii]; exact LQ _ h1
   unfold Dn at hr
   rw [hg2] at hr
   simp only [EM] at hr
   split at hr
   ·rename_i d' c s' Es hs
    cases Es
    obtain ⟨rfl,hr⟩:=hr
    obtain ⟨t',h3,p,pB,G2,_,h4,_,_⟩:=gy (t:=s.eH pre preB G) hn rfl hB (jO Ii) hs
    obtain ⟨_,_,y,h5,h6⟩:=h4 (by simp [hN])
    rw [h6] at h3
    rw [h5,EM] at hr
    refine ⟨y,.inl ⟨LQ _ h1,h3⟩,hK _ _ ?_ hk⟩
    have hmr:((s.put (some d) x).eH pre preB G).marks=(s.eH pre preB G).marks∧((s.put (some d) x).eH pre preB G).ro=(s.eH pre preB G).ro:=(fg s _ x).2.2.2
    obtain ⟨q1,q2,q3,q4,q5⟩:=fg (s.eH pre preB G) (some d) y
    refine ⟨funext fun e=>?_,by rw [q1]; exact hB,by rw [q2]; rfl,by rw [q4]; exact hmr.1,by rw [q5]; exact hmr.2,by rw [q3]; exact hn⟩
    by_cases k:d=e
    ·subst k
     rw [← hr]
     have hb:∀ b,Nat.blt d s.n=b→lk (((s.put (some d) x).eH pre preB G).put (some d) y).ae d=lk ((s.eH pre preB G).put (some d) y).ae d:=fun b hb=>by
      have Ij:Nat.blt d (s.eH pre preB G).n=b:=hb
      have Hi:Nat.blt d ((s.put (some d) x).eH pre preB G).n=b:=by rw [hn]; exact hb
      rw [kB _ d y,kB _ d y,Ij,Hi]
      cases b with
      | true=>simp [St.eH,ay]
      | false=>
       simp only [cond_false]
       rw [kB,hb]
       rfl
     exact hb _ rfl
    ·rw [tZ _ _ _ k]
     exact zr e k
   ·exact hr.elim
  ·have tM:bR oi.op=false:=by cases ha:bR oi.op <;> simp_all [iH]
   have hl:∀ e∈oj.looksAt ops,lk s.ae e=lk (s.eH pre preB G).ae e:=fun e he=>sM e he (.inl tM)
   have fin:∀ y,s.put (some d) x=s.put (some d) y→ap E f (s.eH pre preB G) oj=some (true,(s.eH pre preB G).put oj.dst y) →
     ∃ x',vm E f ops oj (s.eH pre preB G) x'∧K ((s.eH pre preB G).put (some d) x'):=fun y hy hs=>by
    refine ⟨y,.inl ⟨LQ _ h1,hs⟩,hK _ _ (qG (oi:=oi) preB G xA Ih (.inl tM)) ?_⟩
    rw [← hy]
    exact hk
   cases hNo:rq oi.op with
   | true=>
    obtain ⟨rfl,rfl⟩:=VU hNo
    obtain ⟨t',h3,p,pB,G2,_,h4,_,_⟩:=gy (s:=s) (t:=s.eH pre [] s.G) rfl rfl rfl (jO hl) h2
    obtain ⟨_,_,y,h5,h6⟩:=h4 (by simp [hN])
    rw [EM] at h5
    exact fin y h5 (by rw [h3,h6])
   | false=>
    have hR:Rr oj.op=false:=by cases ha:Rr oj.op <;> simp_all [iH]
    obtain ⟨t',h3,y,h5,h6⟩:=Bo (s:=s) (t:=s.eH pre preB G) hN hR rfl (jO hl) h2
    rw [EM] at h5
    exact fin y h5 (by rw [h3,h6])
 ·exact ⟨_,.inr ⟨LQ _ h1,rfl⟩,hK _ _ (qG (oi:=oi) preB G xA Ih (.inr ⟨_,rfl⟩)) hk⟩
end
end Go.Am
namespace Go.Am
open Go
section
variable {E:Env} {s t:St} {o:Oper}
def gM (E:Env) (s:St) (o:Oper) (s':St):Prop:=
 (s'.ae=s.ae∨∃ d x,o.dst=some d∧(s'.ae=.put d x :: s.ae∨s'.ae=.put d x :: .kill d :: s.ae)∧∀ k off,x=.lp k off→(∃ y∈o.op.operands,∃ eY,bB E s.ae y=.lp k eY)∨(bR o.op=true∧k=d)) ∧
 (s'.boxes=s.boxes∨∃ k cs,s'.boxes=(k,cs) :: s.boxes∧((bR o.op=true∧o.dst=some k)∨∃ y∈o.op.operands,∃ off,bB E s.ae y=.lp k off))
theorem kC {s1:St} (h1:s1.ae=s.ae) (h2:s1.boxes=s.boxes) {x:SV} (hx:∀ k off,x=.lp k off→∃ y∈o.op.operands,∃ eY,bB E s.ae y=.lp k eY):gM E s o (s1.put o.dst x):=by
 refine ⟨?_,.inl (by rw [(fg s1 o.dst x).1,h2])⟩
 cases hd:o.dst with
 | none=>exact .inl h1
 | some d=>
  simp only [St.put]
  split
  ·exact .inr ⟨d,x,rfl,.inl (by rw [h1]),fun k off h=>.inl (hx k off h)⟩
  ·exact .inl h1
theorem jP {s1:St} (h1:s1.ae=s.ae) (h2:s1.boxes=s.boxes) (a:AV):gM E s o (s1.put o.dst (.v a)):=kC h1 h2 fun k off h=>by cases h
theorem lD {s1:St} (h1:s1.ae=s.ae) (h2:s1.boxes=s.boxes):gM E s o s1:=⟨.inl h1,.inl h2⟩
theorem LR {k:Nat} {cs:List AV} (h:∃ y∈o.op.operands,∃ off,bB E s.ae y=.lp k off):gM E s o (s.tz k cs):=⟨.inl rfl,.inr ⟨k,cs,rfl,.inr h⟩⟩
theorem Bq {n:Nat} {x:SV} {k off:Nat} (h:xT n x=some (.lp k off)):∃ eY,x=.lp k eY:=by
 unfold xT at h
 split at h <;> cases h
 exact ⟨_,rfl⟩
theorem xB {ty:TypeId} {x:SV} {j k off:Nat} (h:jG E ty x j=some (.lp k off)):∃ eY,x=.lp k eY:=by
 unfold jG at h
 repeat' (split at h)
 all_goals (first | (cases h; done) | exact Bq h)
theorem xC {ty:TypeId} {x ix:SV} {c:Bool} {k off:Nat} (h:jF E ty x ix=some (c,.lp k off)):∃ eY,x=.lp k eY:=by
 unfold jF at h
 repeat' (split at h)
 all_goals (first | (cases h; done) | skip)
 rename_i hm
 injection h with h; injection h with h1 h2; subst h2
 exact Bq hm
theorem Dp {ty:TypeId} {p x:SV} {s':St} (hp:∀ k off,p=.lp k off→∃ y∈o.op.operands,∃ eY,bB E s.ae y=.lp k eY) (h:iU E s ty p x=some s'):gM E s o s':=by
 unfold iU at h
 repeat' (split at h)
 all_goals (first | (cases h; done) | skip)
 ·cases h; exact LR (hp _ _ rfl)
 ·cases h; exact lD rfl rfl
theorem Dq {ty:TypeId} {p x:SV} {c:Bool} {s':St} (hp:∀ k off,p=.lp k off→∃ y∈o.op.operands,∃ eY,bB E s.ae y=.lp k eY) (h:iV E s ty p x=some (c,s')):gM E s o s':=by
 unfold iV at h
 repeat' (split at h)
 all_goals (first | (cases h; done) | skip)
 ·injection h with h; injection h with h1 h2; subst h2; exact lD rfl rfl
 ·injection h with h; injection h with h1 h2; subst h2; exact lD rfl rfl
 ·rename_i hs
  injection h with h; injection h with h1 h2; subst h2; exact Dp hp hs
theorem sZ {ty:TypeId} {m k x:SV} {s':St} (h:eu E s ty m k x=some s'):gM E s o s':=by
 unfold eu at h
 repeat' (split at h)
 all_goals (first | (cases h; done) | skip)
 cases h; exact lD rfl rfl
theorem Gh {x:SV} {s':St} (h:kw s o.dst x=some s'):gM E s o s':=by
 unfold kw at h
 split at h
 ·split at h
  ·rename_i l pos hg
   cases hb:Nat.blt pos l.length with
   | true=>
    rw [hb] at h
    simp only [cond_true] at h
    cases h
    exact jP rfl rfl _
   | false=>
    rw [hb] at h
    simp only [cond_false] at h
    cases h
    exact jP rfl rfl _
  ·cases h
 ·cases h
theorem zB {b:Builtin} {l:List AV} {tys:List TypeId} {c:Bool} {s':St} (h:bN E s o.dst b l tys=some (c,s')):gM E s o s':=by
 unfold bN at h
 cases b
 all_goals (try (cases h; done))
 all_goals (try simp only at h)
 all_goals (try (split at h <;> first | (cases h; done) | simp only at h))
 all_goals (repeat' (split at h))
 all_goals (first | (cases h; done) | skip)
 all_goals (injection h with h; injection h with h1 h2; subst h1 h2)
 all_goals (first | exact jP rfl rfl _ | exact lD rfl rfl)
theorem Gi {f:FuncId} {c:Bool} {s':St} (h:fO E f s o=some (c,s')):gM E s o s':=by
 unfold fO at h
 repeat' (split at h)
 all_goals (first | (cases h; done) | skip)
 injection h with h; injection h with h2 h3
 subst h3
 exact jP rfl rfl _
theorem vp {f:FuncId} {el:TypeId} {cs:List AV} {c:Bool} {s':St} (ha:bR o.op=true) (h:er E f s o.dst el cs=some (c,s')):gM E s o s':=by
 unfold er at h
 split at h
 ·cases h
 ·rename_i d hd
  split at h
  ·injection h with h; injection h with h1 h2; subst h2
   rw [← hd]
   exact jP rfl rfl _
  ·split at h
   ·rename_i hb
    injection h with h; injection h with h1 h2; subst h2
    refine ⟨.inr ⟨d,.lp d 0,hd,.inr ?_,fun k off h=>by cases h; exact .inr ⟨ha,rfl⟩⟩,.inr ⟨d,cs,?_,.inl ⟨ha,hd⟩⟩⟩
    ·simp only [St.put,St.tz,St.kill,hb]
    ·rw [(fg _ (some d) (.lp d 0)).1]; rfl
   ·cases h
theorem Dr {f:FuncId} {c:Bool} {s':St} (h:ap E f s o=some (c,s')):gM E s o s':=by
 cases ho:o.op
 case move x=>
  simp only [ap,ho] at h
  split at h
  all_goals (injection h with h; injection h with h1 h2; subst h2)
  ·exact jP rfl rfl _
  ·rename_i k off hx
   exact kC rfl rfl fun k' eY e=>by cases e; exact ⟨x,by rw [ho]; simp [Op.operands],_,hx⟩
  ·exact kC rfl rfl fun k' eY e=>by cases e
 case assign x=>
  simp only [ap,ho] at h
  split at h
  all_goals (injection h with h; injection h with h1 h2; subst h2)
  ·exact jP rfl rfl _
  ·rename_i k off hx
   exact kC rfl rfl fun k' eY e=>by cases e; exact ⟨x,by rw [ho]; simp [Op.operands],_,hx⟩
  ·exact kC rfl rfl fun k' eY e=>by cases e
 case nilCheck x=>
  simp only [ap,ho] at h
  split at h
  ·injection h with h; injection h with h1 h2; subst h2
   exact jP rfl rfl _
  ·rename_i k off hx
   injection h with h; injection h with h1 h2; subst h2
   exact kC rfl rfl fun k' eY e=>by cases e; exact ⟨x,by rw [ho]; simp [Op.operands],_,hx⟩
  ·cases h
 case fieldAddr a x j=>
  simp only [ap,ho] at h
  split at h
  ·rename_i p hp
   injection h with h; injection h with h1 h2; subst h2
   exact kC rfl rfl fun k' eY e=>by subst e; exact ⟨x,by rw [ho]; simp [Op.operands],xB hp⟩
  ·cases h
 case indexAddr a x y=>
  simp only [ap,ho] at h
  split at h
  ·rename_i c' p hp
   injection h with h; injection h with h1 h2; subst h2
   exact kC rfl rfl fun k' eY e=>by subst e; exact ⟨x,by rw [ho]; simp [Op.operands],xC hp⟩
  ·cases h
 case alloc e=>
  simp only [ap,ho] at h
  repeat' (split at h)
  all_goals (first | (cases h; done) | skip)
  exact vp (by rw [ho]; rfl) h
 case box e x=>
  simp only [ap,ho] at h
  repeat' (split at h)
  all_goals (first | (cases h; done) | skip)
  exact vp (by rw [ho]; rfl) h
 case store ty x y=>
  simp only [ap,ho] at h
  split at h
  ·rename_i hs
   injection h with h; injection h with h1 h2; subst h2
   exact Dq (fun k off e=>⟨x,by rw [ho]; simp [Op.operands],off,e⟩) hs
  ·cases h
 case mapUpdate ty x y z=>
  simp only [ap,ho] at h
  split at h
  ·rename_i hs
   injection h with h; injection h with h1 h2; subst h2
   exact sZ hs
  ·cases h
 case insert ty x y z=>
  simp only [ap,ho] at h
  split at h
  ·rename_i hs
   injection h with h; injection h with h1 h2; subst h2
   exact sZ hs
  ·cases h
 case mapEntry ty x y=>
  simp only [ap,ho] at h
  split at h
  ·rename_i hs
   injection h with h; injection h with h1 h2; subst h2
   unfold fw at hs
   repeat' (split at hs)
   all_goals (first | (cases hs; done) | skip)
   injection hs with hs; injection hs with h3 hs; injection hs with h4 h5
   subst h5
   exact jP rfl rfl _
  ·cases h
 case entryStore ty x y z=>
  simp only [ap,ho] at h
  split at h
  ·rename_i hs
   injection h with h; injection h with h1 h2; subst h2
   unfold dM at hs
   repeat' (split at hs)
   all_goals (first | (cases hs; done) | skip)
   injection hs with hs; injection hs with h3 h4
   subst h4
   exact lD rfl rfl
  ·cases h
 case next x b=>
  cases b with
  | false=>simp [ap,ho] at h
  | true=>
   simp only [ap,ho] at h
   split at h
   ·rename_i hs
    injection h with h; injection h with h1 h2; subst h2
    exact Gh hs
   ·cases h
 case call cl=>
  obtain ⟨callee,args,tys⟩:=cl
  cases callee with
  | builtin b=>
   simp only [ap,ho] at h
   split at h
   ·rename_i r hf
    cases h
    exact Gi hf
   ·split at h
    ·exact zB h
    ·cases h
  | _=>simp [ap,ho] at h
 case makeFunc fo a b=>
  cases fo with
  | func g=>
   simp only [ap,ho] at h
   repeat' (split at h)
   all_goals (first | (cases h; done) | skip)
   injection h with h; injection h with h1 h2; subst h2
   exact jP rfl rfl _
  | _=>simp [ap,ho] at h
 case makeMap ty r=>
  cases r with
  | none=>
   simp only [ap,ho] at h
   injection h with h; injection h with h1 h2; subst h2
   exact jP rfl rfl _
  | some _=>simp [ap,ho] at h
 all_goals (first
  | (simp [ap,ho] at h; done)
  | (simp only [ap,ho] at h; (repeat' (split at h)); (all_goals (first | (cases h; done) | skip)); (all_goals (injection h with h; injection h with h1 h2; subst h2)); (all_goals (exact jP rfl rfl _))))
def pH (s:St) (d:Nat) (cs:List AV):St:=s.eH [.put d (.lp d 0),.kill d] [(d,cs)] s.G
theorem Ds {f:FuncId} {d:Tmp} {c:Bool} {s1:St} (tM:bR o.op=true) (hd:o.dst=some d) (hg:E.xl f d=false) (h:ap E f s o=some (c,s1)) :
  c=true∧∃ cs,s1=pH s d cs∧∀ t:St,t.n=s.n→(∀ y∈o.op.operands,∀ v,bB E s.ae y=.v v→bB E t.ae y=.v v)→ap E f t o=some (true,pH t d cs):=by
 have key:∀ (el:TypeId) (cs:List AV),er E f s o.dst el cs=some (c,s1)→c=true∧s1=pH s d cs∧∀ t:St,t.n=s.n→er E f t o.dst el cs=some (true,pH t d cs):=by
  intro el cs h
  unfold er at h
  rw [hd] at h
  simp only [hg,Bool.false_eq_true,if_false] at h
  split at h
  ·rename_i hb
   injection h with h; injection h with h1 h2; subst h1 h2
   refine ⟨rfl,?_,fun t ht=>?_⟩
   ·simp only [St.put,St.tz,St.kill,hb,pH,St.eH]; rfl
   ·unfold er
    rw [hd]
    simp only [hg,Bool.false_eq_true,if_false,ht,hb]
    simp only [St.put,St.tz,St.kill,ht,hb,pH,St.eH]; rfl
  ·cases h
 cases ho:o.op
 case alloc e=>
  simp only [ap,ho] at h ⊢
  split at h
  ·split at h
   ·split at h
    ·rename_i hi _ _ hz Lb
     obtain ⟨k1,k2,k3⟩:=key _ _ h
     refine ⟨k1,_,k2,fun t ht _=>?_⟩
     simp only [hi,hz,Lb,if_true]
     exact k3 t ht
    ·cases h
   ·cases h
  ·cases h
 case box e x=>
  simp only [ap,ho] at h ⊢
  split at h
  ·split at h
   ·rename_i v hv Lb
    obtain ⟨k1,k2,k3⟩:=key _ _ h
    refine ⟨k1,_,k2,fun t ht he=>?_⟩
    simp only [he x (by simp [Op.operands]) v hv,Lb,if_true]
    exact k3 t ht
   ·cases h
  ·cases h
 all_goals (rw [ho] at tM; simp [bR] at tM)
theorem EN {pre:a8} {preB:cw} {G:List GO} (h:gM E s o (s.eH pre preB G)) :
  (pre=[]∨∃ d x,o.dst=some d∧(pre=[.put d x]∨pre=[.put d x,.kill d])∧∀ k off,x=.lp k off→(∃ y∈o.op.operands,∃ eY,bB E s.ae y=.lp k eY)∨(bR o.op=true∧k=d)) ∧
  (preB=[]∨∃ k cs,preB=[(k,cs)]∧((bR o.op=true∧o.dst=some k)∨∃ y∈o.op.operands,∃ off,bB E s.ae y=.lp k off)):=by
 obtain ⟨h1,h2⟩:=h
 refine ⟨?_,?_⟩
 ·rcases h1 with h1 | ⟨d,x,hd,h1,hx⟩
  ·exact .inl (by simpa [St.eH] using h1)
  ·refine .inr ⟨d,x,hd,?_,hx⟩
   rcases h1 with h1 | h1
   ·left
    have h1:pre++s.ae=[.put d x]++s.ae:=h1
    exact List.append_cancel_right h1
   ·right
    have h1:pre++s.ae=[.put d x,.kill d]++s.ae:=h1
    exact List.append_cancel_right h1
 ·rcases h2 with h2 | ⟨k,cs,h2,hx⟩
  ·exact .inl (by simpa [St.eH] using h2)
  ·refine .inr ⟨k,cs,?_,hx⟩
   have h2:preB++s.boxes=[(k,cs)]++s.boxes:=h2
   exact List.append_cancel_right h2
theorem iI (d e:Nat) (l:a8):lk (.kill d :: l) e=(match lk l e with | .lp k off=>bif Nat.beq k d then .none else .lp k off | x=>x):=rfl
theorem vq {d e:Nat} {l:a8} (h:∀ off,lk l e≠.lp d off):lk (.kill d :: l) e=lk l e:=by
 rw [iI]
 split
 ·rename_i k off hk
  cases hb:Nat.beq k d with
  | true=>exact absurd (by rw [hk,Nat.eq_of_beq_eq_true hb]) (h off)
  | false=>rw [hk]; rfl
 ·rfl
theorem Gj {d:Nat} {pre:a8} {preB:cw} {G:List GO} (cs:List AV) (LS:gM E s o (s.eH pre preB G)) (cA:o.dst≠some d) (Gk:∀ y∈o.op.operands,∀ off,bB E s.ae y≠.lp d off) :
  ou ((pH s d cs).eH pre preB G) (pH (s.eH pre preB G) d cs):=by
 obtain ⟨h1,h2⟩:=EN LS
 refine ⟨funext fun e=>?_,funext fun k=>?_,rfl,rfl,rfl,rfl⟩
 ·show lk (pre++([.put d (.lp d 0),.kill d]++s.ae)) e=lk ([.put d (.lp d 0),.kill d]++(pre++s.ae)) e
  rcases h1 with rfl | ⟨d',x,hd,hp,hx⟩
  ·rfl
  ·have X2:d'≠d:=fun c=>cA (by rw [hd,c])
   have qj:∀ off,x≠.lp d off:=fun off c=>by
    rcases hx d off c with ⟨y,hy,eY,ho⟩ | ⟨_,h⟩
    ·exact Gk y hy eY ho
    ·exact X2 h.symm
   by_cases c1:d=e
   ·subst c1
    rcases hp with rfl | rfl
    ·simp only [List.cons_append,List.nil_append]
     rw [aK X2,ay,ay]
    ·simp only [List.cons_append,List.nil_append]
     rw [aK X2,ay,vq (fun off=>by rw [ay]; intro c; cases c; exact X2 rfl),ay]
   ·simp only [List.cons_append,List.nil_append]
    rw [aK c1]
    by_cases c2:d'=e
    ·subst c2
     rcases hp with rfl | rfl
     ·simp only [List.cons_append,List.nil_append]
      rw [ay,vq (fun off=>by rw [ay]; exact qj off),ay]
     ·simp only [List.cons_append,List.nil_append]
      rw [ay,vq (fun off=>by rw [ay]; exact qj off),ay]
    ·rcases hp with rfl | rfl
     ·simp only [List.cons_append,List.nil_append]
      rw [aK c2,aK c1,iI,iI,aK c2]
     ·simp only [List.cons_append,List.nil_append]
      rw [aK c2,iI,aK c1,iI,iI,aK c2,iI]
      cases lk s.ae e with
      | lp k off=>cases hb:Nat.beq k d <;> cases Hi:Nat.beq k d' <;> simp [hb,Hi]
      | _=>rfl
 ·show dm (preB++([(d,cs)]++s.boxes)) k=dm ([(d,cs)]++(preB++s.boxes)) k
  rcases h2 with rfl | ⟨k',cs',rfl,hk⟩
  ·rfl
  ·have Lc:k'≠d:=fun c=>by
    subst c
    rcases hk with ⟨_,hk⟩ | ⟨y,hy,off,ho⟩
    ·exact cA hk
    ·exact Gk y hy off ho
   simp only [List.cons_append,List.nil_append,dm]
   cases hb:Nat.beq k' k with
   | true=>
    have:Nat.beq d k=false:=by
     cases Hi:Nat.beq d k with
     | true=>exact absurd ((Nat.eq_of_beq_eq_true hb).trans (Nat.eq_of_beq_eq_true Hi).symm) Lc
     | false=>rfl
    rw [this]; rfl
   | false=>rfl
end
section
variable {E:Env} {s t:St} {f:FuncId} {o:Oper} {K K':St→Prop}
theorem Dt (hn:s.n=t.n) (hG:s.G=t.G) (hB:∀ k off,(∃ y∈o.op.operands,bB E s.ae y=.lp k off)→dm s.boxes k=dm t.boxes k) (dO:∀ y∈o.op.operands,bB E s.ae y=bB E t.ae y) (h:jo E f o K s)
  (hK:∀ pre preB G,gM E t o (t.eH pre preB G)→K (s.eH pre preB G)→K' (t.eH pre preB G)):jo E f o K' t:=by
 unfold jo at h ⊢
 split at h
 ·rename_i x args tys ho
  have h1:bB E s.ae x=bB E t.ae x:=dO x (by rw [ho]; simp [Op.operands,Call.operands])
  have h2:kZ E s.ae args.toList=kZ E t.ae args.toList:=fB fun y hy=>dO y (by rw [ho]; simp [Op.operands,Call.operands]; exact .inr (by simpa using hy))
  try simp only [ho]
  rw [← h1,← h2,← hG]
  split at h
  ·refine cp.mono h fun r G' hk=>?_
   obtain ⟨pre,preB,G,p1,p2,p3,p4⟩:=bL.df (s:=s) (t:=t) (al:=bR o.op) hn G' o.dst (.v r)
   rw [p3] at hk
   have hO:gM E t o ((t.bW G').put o.dst (.v r)):=jP rfl rfl _
   rw [p4] at hO ⊢
   exact hK pre preB G hO hk
  ·refine jN.mono h fun r G' hk=>?_
   obtain ⟨pre,preB,G,p1,p2,p3,p4⟩:=bL.df (s:=s) (t:=t) (al:=bR o.op) hn G' o.dst (.v (.bool r))
   rw [p3] at hk
   have hO:gM E t o ((t.bW G').put o.dst (.v (.bool r))):=jP rfl rfl _
   rw [p4] at hO ⊢
   exact hK pre preB G hO hk
  ·exact h.elim
 ·exact h.elim
 ·split at h
  ·rename_i c s' hs
   obtain ⟨t',h1,pre,preB,G,p1,p2,p3,p4⟩:=qF hn hG hB dO hs
   have hO:=Dr h1
   rw [h1]
   obtain ⟨rfl,hk⟩:=h.out
   refine dh.mk rfl ?_
   rw [p3] at hk
   rw [p4] at hO ⊢
   exact hK pre preB G hO hk
  ·exact h.elim
theorem EO (ha:bR o.op=true):jo E f o K s↔∃ s',ap E f s o=some (true,s')∧K s':=by
 unfold jo
 split
 ·rename_i h
  rw [h] at ha
  simp [bR] at ha
 ·rename_i h
  rw [h] at ha
  simp [bR] at ha
 ·split
  ·rename_i c s' hs
   constructor
   ·intro h
    obtain ⟨rfl,hk⟩:=h.out
    exact ⟨s',hs,hk⟩
   ·rintro ⟨AW,h1,h2⟩
    rw [hs] at h1
    cases h1
    exact dh.mk rfl h2
  ·rename_i hs
   constructor
   ·exact fun h=>h.elim
   ·rintro ⟨AW,h1,_⟩
    rw [hs] at h1
    cases h1
end
end Go.Am
