/- The abstract machine: a function's contract out of its body. -/
import Derived.Test.YtldcljfjjoidhaaGreatDoorAmKF
import Derived.OrdersIn
set_option linter.all false
namespace Go.Am
open Go
section intro
variable {E:Env} {R R':ai} {w w':World} {β β':Nat→Nat}
theorem tW {bx Fx:b8} (h:Step R w β bx R' w' β' Fx) (hn:∀ k cs,cG bx k≠some cs):Step R w (fun _=>0) dW R' w' (fun _=>0) dW:=by
 have own:∀ b,Own R β bx b→Live R b:=fun b ho=>by
  rcases ho with ho | ⟨k,cs,hk,_⟩
  ·exact ho
  ·exact absurd hk (hn k cs)
 exact ⟨h.ext,h.os,h.tape,h.output,h.size,fun b hb qI=>h.bq b hb (fun ho=>qI (.inl (own b ho))),fun b hb ho=>.inl (own b (h.own b hb (.inl (dJ ho)))),fun b o hi hb qI=>h.im b o hi hb (fun ho=>qI (.inl (own b ho)))⟩
theorem Ga:∀ {l:List AV} {n i:Nat},(i < n∨n+l.length≤i→lk (Rm n l) i=.none)∧(∀ a,l[i - n]?=some a→n≤i→lk (Rm n l) i=.v a)
 | [],n,i=>⟨fun _=>rfl,fun a h=>by simp at h⟩
 | b :: l,n,i=>by
  obtain ⟨h1,h2⟩:=Ga (l:=l) (n:=n+1) (i:=i)
  refine ⟨fun h=>?_,fun a h hn=>?_⟩
  ·simp only [List.length_cons] at h
   simp only [Rm]
   rw [aH (by omega)]
   exact h1 (by omega)
  ·simp only [Rm]
   by_cases e:n=i
   ·subst e
    rw [ay]
    simp at h
    rw [h]
   ·rw [aH e]
    refine h2 a ?_ (by omega)
    have:i - n=(i - (n+1))+1:=by omega
    rw [this] at h
    simpa using h
theorem Gb {ntmps:Nat} {args:List AV} {cs:List Value} {G:List GO} (hg:cI E R w G) (hl:aD R w args cs) :
  aY E R w (fun _=>0) (St.init ntmps args G) { tmps:=⟨cs⟩++Array.replicate (ntmps - (⟨cs⟩:Array Value).size) undef,defers:=[] }:=by
 have hlen:=hl.length
 refine ⟨hg,⟨fun k c hk=>?_,fun k k' c c' hk _ _=>?_⟩,fun i hi=>?_,?_,trivial⟩
 ·simp [St.init,cG] at hk
 ·simp [St.init,cG] at hk
 ·simp only [St.init] at hi ⊢
  obtain ⟨h1,h2⟩:=Ga (l:=args) (n:=0) (i:=i)
  by_cases bT:i < args.length
  ·have hy:args[i]?=some args[i]:=List.getElem?_eq_getElem bT
   obtain ⟨c,k1,k2⟩:=hl.get hy
   rw [h2 _ (by rw [Nat.sub_zero]; exact hy) (Nat.zero_le _)]
   refine ⟨c,?_,k2⟩
   rw [Array.getElem?_append_left (by simp; omega)]
   simpa using k1
  ·exact absurd (h1 (by omega)) hi
 ·simp [St.init]
  omega
theorem B9 {ntmps:Nat} {args:List AV} {G:List GO} (k:Nat) (cs:List AV):cG (St.init ntmps args G).boxes k≠some cs:=by
 simp [St.init,cG]
theorem bU.intro {g : FuncId} {fn : Func} {c : Code} {args : List AV} {G : List GO} {Q : AV → List GO → Prop} (hf : E.P.funcs[g]? = some fn) (hb : fn.body = some c) (hn : (fn.name == "runtime.NumGoroutine") = false)
  (h:eM E c (Nh E fn Q) (St.init fn.ntmps args G)):bU E g args G Q:=by
 refine ⟨⟨fn,hf,by simp [hb],hn⟩,fun R w cs hg hl=>?_⟩
 refine callsIn_of_wp_marks hf hb trivial (wpIn_mono (h R w (fun _=>0) _ Fence.wide (Gb hg hl) rfl) ?_)
 rintro e a' w' ⟨s',R',β',hq,hr,jN,bA⟩
 have fin:(match mH s'.marks s'.G with
  | some G=>match F8 E (s'.bL G) fn with
   | some r=>Q r G
   | none=>False
  | none=>False)→LeavesInM Fence.wide 0 E.P fn a'.tmps (Dn E R w Q) a'.defers .returning w':=by
  intro hq
  split at hq
  ·rename_i G2 SF
   split at hq
   ·rename_i r Ca
    refine Ez fn (Dn E R w Q) (s:=s') (G:=s'.G) hr hr.d SF (fun M9 xY rJ=>?_)
    obtain ⟨v,h1,h2⟩:=F9 xY Ca
    exact ⟨v,h1,r,G2,R',hq,h2,xY.g,tW (jN.trans rJ) B9⟩
   ·exact hq.elim
  ·exact hq.elim
 cases e with
 | normal=>exact fin hq
 | ret=>exact fin hq
 | exit _=>exact hq.elim
 | goto _=>exact hq.elim
 | panic _=>exact hq.elim
 | outgrown=>exact hq.elim
end intro
end Go.Am
namespace Go.Am
open Go
def St.dZ (s:St) (pre:aT) (preB:b8) (G:List GO):St:=⟨pre++s.ae,preB++s.boxes,G,s.marks,s.ro,s.n⟩
def Rn (al:Bool) (dst:Option Tmp) (pre:aT):Prop:=
 pre=[]∨∃ d x,dst=some d∧(pre=[.put d x]∨(al=true∧pre=[.put d x,.kill d]))
def bw (al w:Bool) (dst:Option Tmp) (s t s' t':St):Prop:=
 ∃ pre preB G,Rn al dst pre∧(w=false→preB=[]∧G=s.G∧∃ x,s'=s.put dst x∧t'=t.put dst x)∧s'=s.dZ pre preB G∧t'=t.dZ pre preB G
section
variable {E:Env} {s t:St} {o:Oper}
theorem jX (s:St) (d:Tmp) (x:SV):s.put (some d) x=bif Nat.blt d s.n then s.dZ [.put d x] [] s.G else s:=by
 cases h:Nat.blt d s.n <;> simp [St.put,h,St.dZ]
theorem bw.put {al w:Bool} (hn:s.n=t.n) (hG:s.G=t.G) (dst:Option Tmp) (x:SV):bw al w dst s t (s.put dst x) (t.put dst x):=by
 cases dst with
 | none=>exact ⟨[],[],s.G,.inl rfl,fun _=>⟨rfl,rfl,x,rfl,rfl⟩,rfl,by rw [hG]; rfl⟩
 | some d=>
  have hx:∃ y,s.put (some d) x=s.put (some d) y∧t.put (some d) x=t.put (some d) y:=⟨x,rfl,rfl⟩
  revert hx
  generalize hs:s.put (some d) x=s'
  generalize ht:t.put (some d) x=t'
  intro hx
  rw [jX] at hs ht
  rw [← hn] at ht
  revert hs ht
  cases Nat.blt d s.n with
  | true=>exact fun hs ht=>⟨[.put d x],[],s.G,.inr ⟨d,x,rfl,.inl rfl⟩,fun _=>⟨rfl,rfl,hx⟩,hs.symm,by rw [hG]; exact ht.symm⟩
  | false=>exact fun hs ht=>⟨[],[],s.G,.inl rfl,fun _=>⟨rfl,rfl,hx⟩,hs.symm,by rw [hG]; exact ht.symm⟩
theorem bw.cJ {al:Bool} (hn:s.n=t.n) (G:List GO) (dst:Option Tmp) (x:SV):bw al true dst s t ((s.bL G).put dst x) ((t.bL G).put dst x):=by
 cases dst with
 | none=>exact ⟨[],[],G,.inl rfl,fun h=>(by cases h),rfl,rfl⟩
 | some d=>
  rw [jX,jX,show (t.bL G).n=(s.bL G).n from hn.symm]
  cases Nat.blt d (s.bL G).n with
  | true=>exact ⟨[.put d x],[],G,.inr ⟨d,x,rfl,.inl rfl⟩,fun h=>(by cases h),rfl,rfl⟩
  | false=>exact ⟨[],[],G,.inl rfl,fun h=>(by cases h),rfl,rfl⟩
theorem bw.bL {al:Bool} (G:List GO) (dst:Option Tmp):bw al true dst s t (s.bL G) (t.bL G):=⟨[],[],G,.inl rfl,fun h=>(by cases h),rfl,rfl⟩
theorem bw.se {al:Bool} (hG:s.G=t.G) (dst:Option Tmp) (d:Nat) (cs:List AV):bw al true dst s t (s.se d cs) (t.se d cs):=
 ⟨[],[(d,cs)],s.G,.inl rfl,fun h=>(by cases h),rfl,(by rw [hG]; rfl)⟩
theorem fc {a b:aT}:∀ {l:List Operand},(∀ y∈l,bk E a y=bk E b y)→kr E a l=kr E b l
 | [],_=>rfl
 | x :: l,h=>by
  simp only [kr]
  rw [h x (by simp),fc (l:=l) (fun y hy=>h y (by simp [hy]))]
theorem kJ {a b:aT}:∀ {l:List (Nat × Operand)},(∀ p∈l,bk E a p.2=bk E b p.2)→I7 E a l=I7 E b l
 | [],_=>rfl
 | (i,x) :: l,h=>by
  simp only [I7]
  rw [h (i,x) (by simp),kJ (l:=l) (fun y hy=>h y (by simp [hy]))]
theorem vR (hG:s.G=t.G) (p:SV) (hB:∀ k off,p=.lp k off→cG s.boxes k=cG t.boxes k):kR s p=kR t p:=by
 unfold kR
 rw [hG]
 cases p with
 | lp k off=>simp only [hB k off rfl]
 | v a=>cases a <;> rfl
 | _=>rfl
theorem zX (hG:s.G=t.G) (ty:TypeId) (p:SV) (hB:∀ k off,p=.lp k off→cG s.boxes k=cG t.boxes k):pn E s ty p=pn E t ty p:=by
 unfold pn
 rw [vR hG p hB]
theorem rK (hG:s.G=t.G) (id f i sz:Nat) (ty:TypeId):te E s id f i sz ty=te E t id f i sz ty:=by
 unfold te
 rw [hG]
theorem zY (hG:s.G=t.G) (ty:TypeId) (p:SV) (hB:∀ k off,p=.lp k off→cG s.boxes k=cG t.boxes k):wo E s ty p=wo E t ty p:=by
 unfold wo
 split
 ·rw [rK hG]
 ·rw [zX hG _ _ hB]
theorem zZ (hG:s.G=t.G) (esz:Nat) (d x:AV):pq s esz d x=pq t esz d x:=by
 unfold pq
 rw [hG]
theorem rL {f:FuncId} {dst:Option Tmp} {el:TypeId} {cs:List AV} {c:Bool} {s':St} (hn:s.n=t.n) (hG:s.G=t.G) (h:dQ E f s dst el cs=some (c,s')) :
  ∃ t',dQ E f t dst el cs=some (c,t')∧bw true true dst s t s' t':=by
 unfold dQ at *
 cases dst with
 | none=>cases h
 | some d=>
  simp only at *
  split at h
  ·rename_i hg
   injection h with h
   injection h with h1 h2
   subst h1 h2
   rw [if_pos hg]
   refine ⟨_,rfl,?_⟩
   have:=bw.cJ (al:=true) hn (s.G++[.row cs el]) (some d) (.v (.ptr s.G.length 0))
   rw [hG] at this
   have e:s.cV (.row cs el)=s.bL (t.G++[.row cs el]):=by rw [← hG]; rfl
   rw [e,hG]
   exact this
  ·rename_i hg
   rw [if_neg hg,← hn]
   split at h
   ·rename_i hb
    injection h with h
    injection h with h1 h2
    subst h1 h2
    refine ⟨_,rfl,[.put d (.lp d 0),.kill d],[(d,cs)],s.G,.inr ⟨d,_,rfl,.inr ⟨rfl,rfl⟩⟩,fun h=>(by cases h),?_,?_⟩
    ·simp [St.put,St.se,St.kill,hb,St.dZ]
    ·simp only [St.put,St.se,St.kill,← hn,hb,St.dZ,hG]
     rfl
   ·cases h
theorem z6 {ty:TypeId} {p x:SV} {s':St} {al:Bool} {dst:Option Tmp} (hG:s.G=t.G) (hB:∀ k off,p=.lp k off→cG s.boxes k=cG t.boxes k) (h:iz E s ty p x=some s') :
  ∃ t',iz E t ty p x=some t'∧bw al true dst s t s' t':=by
 unfold iz at *
 split at h
 ·split at h
  ·rename_i hc
   rw [if_pos hc]
   split at h
   ·rw [← hB _ _ rfl]
    split at h
    ·split at h
     ·rename_i JK
      cases h
      simp only [JK,if_true]
      exact ⟨_,rfl,.se hG _ _ _⟩
     ·cases h
    ·cases h
   ·rw [← hG]
    split at h
    ·split at h
     ·rename_i JK
      cases h
      simp only [JK,if_true]
      exact ⟨_,rfl,.bL _ _⟩
     ·cases h
    ·cases h
   ·cases h
  ·cases h
 ·cases h
theorem z7 {ty:TypeId} {p x:SV} {c:Bool} {s':St} {al:Bool} {dst:Option Tmp} (hG:s.G=t.G) (hB:∀ k off,p=.lp k off→cG s.boxes k=cG t.boxes k) (h:iA E s ty p x=some (c,s')) :
  ∃ t',iA E t ty p x=some (c,t')∧bw al true dst s t s' t':=by
 unfold iA at *
 split at h
 ·rw [← hG]
  split at h
  ·split at h
   ·rename_i h1 h2 hc
    simp only [hc,if_true]
    split at h
    ·rename_i JK
     injection h with h; injection h with e1 e2
     subst e1; subst e2
     simp only [JK,if_true]
     exact ⟨_,rfl,.bL _ _⟩
    ·rename_i JK
     rw [if_neg JK,← rK hG]
     split at h
     ·rename_i hg
      split at h
      ·rename_i ZM
       injection h with h; injection h with e1 e2
       subst e1; subst e2
       simp only [ZM,if_true]
       exact ⟨_,rfl,.bL _ _⟩
      ·cases h
     ·cases h
   ·cases h
  ·cases h
 ·split at h
  ·rename_i s1 hs
   injection h with h; injection h with e1 e2
   subst e1; subst e2
   obtain ⟨t',h3,h4⟩:=z6 (al:=al) (dst:=dst) hG hB hs
   simp only [h3]
   exact ⟨_,rfl,h4⟩
  ·cases h
def bE:Op→Bool
 | .alloc _=>true
 | .box _ _=>true
 | _=>false
def qm:Op→Bool
 | .move _ | .assign _ | .pick _ _ _ | .build _ _ | .buildSlice _ _ _ | .load _ _ | .binOp _ _ _ _ _ | .unOp _ _ _ | .convert _ _ _ | .makeFunc _ _ _ | .fieldAddr _ _ _ | .field _ _ _
 | .indexAddr _ _ _ | .index _ _ _ | .slice _ _ _ _ _ | .extract _ _ | .lookup _ _ _ _ | .nilCheck _=>true
 | .call { callee:=.builtin .len,.. }=>true
 | .call { callee:=.builtin .max,.. }=>true
 | .call { callee:=.builtin .min,.. }=>true
 | _=>false
def OK:Op→Bool
 | .load _ _=>true
 | .lookup _ _ _ _=>true
 | .call _=>true
 | .convert _ _ _=>true
 | _=>false
def JL:Builtin→Bool
 | .append | .copy | .clear=>true
 | _=>false
theorem vS {dst:Option Tmp} {b:Builtin} {l:List AV} {tys:List TypeId} {c:Bool} {s':St} {al:Bool} (hn:s.n=t.n) (hG:s.G=t.G) (h:bB E s dst b l tys=some (c,s')) :
  ∃ t',bB E t dst b l tys=some (c,t')∧bw al (JL b) dst s t s' t':=by
 obtain ⟨sl,bx,G,m,ro,n⟩:=s
 obtain ⟨Ro,Fx,G',m',ks,n'⟩:=t
 have hc:=fun esz d x=>zZ (s:=⟨sl,bx,G,m,ro,n⟩) (t:=⟨Ro,Fx,G',m',ks,n'⟩) hG esz d x
 simp only at hn hG
 subst hn hG
 unfold bB at h ⊢
 simp only [← hc]
 cases b
 all_goals (try (cases h; done))
 all_goals (try simp only at h ⊢)
 all_goals (try (split at h <;> first | (cases h; done) | simp only at h ⊢))
 all_goals (repeat' (split at h))
 all_goals (first | (cases h; done) | skip)
 all_goals (injection h with h; injection h with h1 h2; subst h1 h2)
 all_goals (try simp only [if_true, *])
 all_goals (first | exact ⟨_,rfl,.put (by rfl) (by rfl) _ _⟩ | exact ⟨_,rfl,.cJ (by rfl) _ _ _⟩ | exact ⟨_,rfl,.bL _ _⟩)
theorem tX (hG:s.G=t.G) (a b:TypeId) (x:SV):kz E s a b x=kz E t a b x:=by
 unfold kz
 rw [hG]
theorem vT (hG:s.G=t.G) (ty:TypeId) (m k:SV):jS E s ty m k=jS E t ty m k:=by
 have:mapOf s=mapOf t:=by funext m; unfold mapOf; rw [hG]
 unfold jS gS
 rw [this,hG]
theorem pS {ty:TypeId} {m k x:SV} {s':St} {al:Bool} {dst:Option Tmp} (hG:s.G=t.G) (h:dR E s ty m k x=some s') :
  ∃ t',dR E t ty m k x=some t'∧bw al true dst s t s' t':=by
 unfold dR at *
 rw [← hG]
 repeat' (split at h)
 all_goals (first | (cases h; done) | skip)
 cases h
 simp only [*]
 exact ⟨_,rfl,.bL _ _⟩
theorem Cb {dst:Option Tmp} {x:SV} {s':St} {al:Bool} (hn:s.n=t.n) (hG:s.G=t.G) (h:jT s dst x=some s') :
  ∃ t',jT t dst x=some t'∧bw al true dst s t s' t':=by
 unfold jT at *
 rw [← hG]
 split at h
 ·split at h
  ·rename_i l pos hg
   cases hb:Nat.blt pos l.length with
   | true=>
    rw [hb] at h
    simp only [cond_true] at h ⊢
    cases h
    exact ⟨_,rfl,.cJ hn _ _ _⟩
   | false=>
    rw [hb] at h
    simp only [cond_false] at h ⊢
    cases h
    obtain ⟨pre,preB,G,p1,p2,p3⟩:=bw.put (al:=al) (w:=true) hn hG dst (.v (.aX [.bool false]))
    exact ⟨_,rfl,pre,preB,G,p1,p2,p3⟩
  ·cases h
 ·cases h
theorem lr {f:FuncId} {r:Bool × St} (h:fw E f s o=some r):∃ args tys,o.op=.call { callee:=.builtin .append,args:=args,argTypes:=tys }:=by
 unfold fw at h
 split at h
 ·split at h
  ·split at h
   ·rename_i args tys ho
    exact ⟨args,tys,ho⟩
   ·cases h
  ·cases h
 ·cases h
theorem tY {f:FuncId} {c:Bool} {s':St} {al:Bool} (hn:s.n=t.n) (hG:s.G=t.G) (dw:∀ y∈o.op.operands,bk E s.ae y=bk E t.ae y)
  (h:fw E f s o=some (c,s')):∃ t',fw E f t o=some (c,t')∧bw al true o.dst s t s' t':=by
 obtain ⟨args,tys,ho⟩:=lr h
 have h1:kr E s.ae args.toList=kr E t.ae args.toList:=fc fun y hy=>dw y (by rw [ho]; simp [Op.operands,Call.operands]; simpa using hy)
 unfold fw at h ⊢
 rw [ho] at h ⊢
 simp only [h1,hG] at h ⊢
 repeat' (split at h)
 all_goals (first | (cases h; done) | skip)
 injection h with h; injection h with h2 h3
 subst h2 h3
 simp only [*,if_true]
 refine ⟨_,rfl,?_⟩
 exact bw.cJ hn _ _ _
theorem sw {f:FuncId} (hn:s.n=t.n) (hG:s.G=t.G) (dw:∀ y∈o.op.operands,bk E s.ae y=bk E t.ae y) (h:fw E f s o=none):fw E f t o=none:=by
 cases ht:fw E f t o with
 | none=>rfl
 | some r=>
  obtain ⟨t',h1,_⟩:=tY (s:=t) (t:=s) (al:=false) hn.symm hG.symm (fun y hy=>(dw y hy).symm) (c:=r.1) (s':=r.2) ht
  rw [h] at h1
  cases h1
theorem pT {f:FuncId} {c:Bool} {s':St} (hn:s.n=t.n) (hG:s.G=t.G) (hB:∀ k off,(∃ y∈o.op.operands,bk E s.ae y=.lp k off)→cG s.boxes k=cG t.boxes k) (dw:∀ y∈o.op.operands,bk E s.ae y=bk E t.ae y)
  (h:ap E f s o=some (c,s')):∃ t',ap E f t o=some (c,t')∧bw (bE o.op) (!qm o.op) o.dst s t s' t':=by
 obtain ⟨dst,op,ty,pos,after,guard⟩:=o
 cases op
 case move x=>
  simp only [ap,dw x (by simp [Op.operands])] at h ⊢
  split at h
  all_goals (injection h with h; injection h with h1 h2; subst h1 h2; (try simp only [*]); exact ⟨_,rfl,.put hn hG _ _⟩)
 case assign x=>
  simp only [ap,dw x (by simp [Op.operands])] at h ⊢
  split at h
  all_goals (injection h with h; injection h with h1 h2; subst h1 h2; (try simp only [*]); exact ⟨_,rfl,.put hn hG _ _⟩)
 case pick x y z=>
  simp only [ap,dw x (by simp [Op.operands]),dw y (by simp [Op.operands]),dw z (by simp [Op.operands])] at h ⊢
  split at h
  ·injection h with h; injection h with h1 h2; subst h1 h2; (try simp only [*]); exact ⟨_,rfl,.put hn hG _ _⟩
  ·cases h
 case alloc e=>
  simp only [ap] at h ⊢
  repeat' (split at h)
  all_goals (first | (cases h; done) | skip)
  simp only [*]
  exact rL hn hG h
 case box e x=>
  simp only [ap,dw x (by simp [Op.operands])] at h ⊢
  repeat' (split at h)
  all_goals (first | (cases h; done) | skip)
  simp only [*]
  exact rL hn hG h
 case build ty ps=>
  have he:kS E s ty ps.toList=kS E t ty ps.toList:=by
   unfold kS
   rw [kJ (fun p hp=>dw p.2 (by simp only [Op.operands,List.mem_toArray,List.mem_map]; exact ⟨p,hp,rfl⟩))]
  simp only [ap,he] at h ⊢
  split at h
  ·injection h with h; injection h with h1 h2; subst h1 h2; (try simp only [*]); exact ⟨_,rfl,.put hn hG _ _⟩
  ·cases h
 case buildSlice ty len ps=>
  have he:bM E s ty len ps.toList=bM E t ty len ps.toList:=by
   unfold bM
   rw [kJ (fun p hp=>dw p.2 (by simp only [Op.operands,List.mem_toArray,List.mem_map]; exact ⟨p,hp,rfl⟩))]
  simp only [ap,he] at h ⊢
  split at h
  ·injection h with h; injection h with h1 h2; subst h1 h2; (try simp only [*]); exact ⟨_,rfl,.put hn hG _ _⟩
  ·cases h
 case load ty x=>
  simp only [ap,dw x (by simp [Op.operands])] at h ⊢
  rw [zY hG ty _ (fun k off e=>hB k off ⟨x,by simp [Op.operands],by rw [dw x (by simp [Op.operands])]; exact e⟩)] at h
  split at h
  ·injection h with h; injection h with h1 h2; subst h1 h2; (try simp only [*]); exact ⟨_,rfl,.put hn hG _ _⟩
  ·cases h
 case store ty x y=>
  simp only [ap,dw x (by simp [Op.operands]),dw y (by simp [Op.operands])] at h ⊢
  split at h
  ·rename_i s1 hs
   injection h with h; injection h with h1 h2; subst h1 h2
   obtain ⟨t',h3,h4⟩:=z7 (al:=false) (dst:=none) hG (fun k off e=>hB k off ⟨x,by simp [Op.operands],by rw [dw x (by simp [Op.operands])]; exact e⟩) hs
   rw [h3]
   exact ⟨_,rfl,h4⟩
  ·cases h
 case binOp op a x y b=>
  simp only [ap,dw x (by simp [Op.operands]),dw y (by simp [Op.operands])] at h ⊢
  repeat' (split at h)
  all_goals (first | (cases h; done) | skip)
  all_goals (injection h with h; injection h with h1 h2; subst h1 h2; (try simp only [*]); exact ⟨_,rfl,.put hn hG _ _⟩)
 case unOp op a x=>
  simp only [ap,dw x (by simp [Op.operands])] at h ⊢
  repeat' (split at h)
  all_goals (first | (cases h; done) | skip)
  all_goals (injection h with h; injection h with h1 h2; subst h1 h2; (try simp only [*]); exact ⟨_,rfl,.put hn hG _ _⟩)
 case nilCheck x=>
  simp only [ap,dw x (by simp [Op.operands])] at h ⊢
  repeat' (split at h)
  all_goals (first | (cases h; done) | skip)
  all_goals (injection h with h; injection h with h1 h2; subst h1 h2; (try simp only [*]); exact ⟨_,rfl,.put hn hG _ _⟩)
 case convert a b x=>
  simp only [ap,dw x (by simp [Op.operands]),tX hG] at h ⊢
  repeat' (split at h)
  all_goals (first | (cases h; done) | skip)
  all_goals (injection h with h; injection h with h1 h2; subst h1 h2; (try simp only [*]); exact ⟨_,rfl,.put hn hG _ _⟩)
 case makeFunc fo a b=>
  cases fo with
  | func g=>
   have h1:kr E s.ae a.toList=kr E t.ae a.toList:=fc fun y hy=>dw y (by simp only [Op.operands,Array.mem_append]; exact .inl (by simpa using hy))
   have h2:kr E s.ae b.toList=kr E t.ae b.toList:=fc fun y hy=>dw y (by simp only [Op.operands,Array.mem_append]; exact .inr (by simpa using hy))
   simp only [ap,h1,h2] at h ⊢
   repeat' (split at h)
   all_goals (first | (cases h; done) | skip)
   all_goals (injection h with h; injection h with h1 h2; subst h1 h2; (try simp only [*]); exact ⟨_,rfl,.put hn hG _ _⟩)
  | _=>simp [ap] at h
 case fieldAddr a x j=>
  simp only [ap,dw x (by simp [Op.operands])] at h ⊢
  repeat' (split at h)
  all_goals (first | (cases h; done) | skip)
  all_goals (injection h with h; injection h with h1 h2; subst h1 h2; (try simp only [*]); exact ⟨_,rfl,.put hn hG _ _⟩)
 case field a x j=>
  simp only [ap,dw x (by simp [Op.operands])] at h ⊢
  repeat' (split at h)
  all_goals (first | (cases h; done) | skip)
  all_goals (injection h with h; injection h with h1 h2; subst h1 h2; (try simp only [*]); exact ⟨_,rfl,.put hn hG _ _⟩)
 case indexAddr a x y=>
  simp only [ap,dw x (by simp [Op.operands]),dw y (by simp [Op.operands])] at h ⊢
  repeat' (split at h)
  all_goals (first | (cases h; done) | skip)
  all_goals (injection h with h; injection h with h1 h2; subst h1 h2; (try simp only [*]); exact ⟨_,rfl,.put hn hG _ _⟩)
 case index a x y=>
  simp only [ap,dw x (by simp [Op.operands]),dw y (by simp [Op.operands])] at h ⊢
  repeat' (split at h)
  all_goals (first | (cases h; done) | skip)
  all_goals (injection h with h; injection h with h1 h2; subst h1 h2; (try simp only [*]); exact ⟨_,rfl,.put hn hG _ _⟩)
 case slice a x lo hi mx=>
  have h1:kU E s.ae lo=kU E t.ae lo:=by
   cases lo with
   | none=>rfl
   | some y=>simp only [kU]; rw [dw y (by simp [Op.operands])]
  have h2:kU E s.ae hi=kU E t.ae hi:=by
   cases hi with
   | none=>rfl
   | some y=>simp only [kU]; rw [dw y (by simp [Op.operands])]
  simp only [ap,dw x (by simp [Op.operands]),h1,h2] at h ⊢
  repeat' (split at h)
  all_goals (first | (cases h; done) | skip)
  all_goals (injection h with h; injection h with h1 h2; subst h1 h2; (try simp only [*]); exact ⟨_,rfl,.put hn hG _ _⟩)
 case extract x i=>
  simp only [ap,dw x (by simp [Op.operands])] at h ⊢
  repeat' (split at h)
  all_goals (first | (cases h; done) | skip)
  all_goals (injection h with h; injection h with h1 h2; subst h1 h2; (try simp only [*]); exact ⟨_,rfl,.put hn hG _ _⟩)
 case makeSlice ty x y=>
  simp only [ap,dw x (by simp [Op.operands]),dw y (by simp [Op.operands])] at h ⊢
  repeat' (split at h)
  all_goals (first | (cases h; done) | skip)
  all_goals (injection h with h; injection h with h1 h2; subst h1 h2)
  all_goals (simp only [*])
  all_goals (refine ⟨_,rfl,?_⟩)
  all_goals (have e:∀ o,t.cV o=t.bL (s.G++[o]):=fun o=>by rw [hG]; rfl)
  all_goals (rw [e,← hG])
  all_goals (exact bw.cJ (al:=false) hn _ dst _)
 case lookup ty x y ok=>
  simp only [ap,dw x (by simp [Op.operands]),dw y (by simp [Op.operands]),vT hG] at h ⊢
  split at h
  ·injection h with h; injection h with h1 h2; subst h1 h2; (try simp only [*]); exact ⟨_,rfl,.put hn hG _ _⟩
  ·cases h
 case mapUpdate ty x y z=>
  simp only [ap,dw x (by simp [Op.operands]),dw y (by simp [Op.operands]),dw z (by simp [Op.operands])] at h ⊢
  split at h
  ·rename_i s1 hs
   injection h with h; injection h with h1 h2; subst h1 h2
   obtain ⟨t',h3,h4⟩:=pS (al:=false) (dst:=none) hG hs
   rw [h3]
   exact ⟨_,rfl,h4⟩
  ·cases h
 case insert ty x y z=>
  simp only [ap,dw x (by simp [Op.operands]),dw y (by simp [Op.operands]),dw z (by simp [Op.operands])] at h ⊢
  split at h
  ·rename_i s1 hs
   injection h with h; injection h with h1 h2; subst h1 h2
   obtain ⟨t',h3,h4⟩:=pS (al:=false) (dst:=none) hG hs
   rw [h3]
   exact ⟨_,rfl,h4⟩
  ·cases h
 case entry x=>
  simp only [ap,dw x (by simp [Op.operands])] at h ⊢
  have e:qw E s (bk E t.ae x)=qw E t (bk E t.ae x):=by unfold qw; rw [hG]
  rw [e] at h
  split at h
  ·injection h with h; injection h with h1 h2; subst h1 h2; (try simp only [*]); exact ⟨_,rfl,.put hn hG _ _⟩
  ·cases h
 case mapEntry ty x y=>
  simp only [ap,dw x (by simp [Op.operands]),dw y (by simp [Op.operands])] at h ⊢
  unfold eZ at h ⊢
  rw [← hG]
  repeat' (split at h)
  all_goals (first | (cases h; done) | skip)
  rename_i iZ
  repeat' (split at iZ)
  all_goals (first | (cases iZ; done) | skip)
  injection iZ with iZ; injection iZ with h3 iZ; injection iZ with h4 h5
  injection h with h; injection h with h1 h2; subst h1 h2 h3 h4 h5
  simp only [*,if_true]
  exact ⟨_,rfl,bw.cJ (al:=false) hn _ dst _⟩
 case entryStore ty x y z=>
  simp only [ap,dw x (by simp [Op.operands]),dw y (by simp [Op.operands]),dw z (by simp [Op.operands])] at h ⊢
  unfold du at h ⊢
  rw [← hG]
  repeat' (split at h)
  all_goals (first | (cases h; done) | skip)
  rename_i iZ
  repeat' (split at iZ)
  all_goals (first | (cases iZ; done) | skip)
  injection iZ with iZ; injection iZ with h3 h5
  injection h with h; injection h with h1 h2; subst h1 h2 h3 h5
  simp only [*]
  exact ⟨_,rfl,.bL _ _⟩
 case range ty x=>
  simp only [ap,dw x (by simp [Op.operands])] at h ⊢
  repeat' (split at h)
  all_goals (first | (cases h; done) | skip)
  ·injection h with h; injection h with h1 h2; subst h1 h2
   (try simp only [*])
   refine ⟨_,rfl,?_⟩
   have e:∀ o,t.cV o=t.bL (s.G++[o]):=fun o=>by rw [hG]; rfl
   rw [e,← hG]
   exact bw.cJ (al:=false) hn _ dst _
  ·rename_i hk hg
   injection h with h; injection h with h1 h2; subst h1 h2
   have ov:=hg
   rw [hG] at ov
   simp only [hk,ov]
   refine ⟨_,rfl,?_⟩
   have e:∀ o,t.cV o=t.bL (s.G++[o]):=fun o=>by rw [hG]; rfl
   rw [e,← hG]
   exact bw.cJ (al:=false) hn _ dst _
 case next x b=>
  cases b with
  | false=>simp [ap] at h
  | true=>
   simp only [ap,dw x (by simp [Op.operands])] at h ⊢
   split at h
   ·rename_i s1 hs
    injection h with h; injection h with h1 h2; subst h1 h2
    obtain ⟨t',h3,h4⟩:=Cb (al:=false) hn hG hs
    rw [h3]
    exact ⟨_,rfl,h4⟩
   ·cases h
 case makeMap ty r=>
  cases r with
  | none=>
   simp only [ap] at h ⊢
   injection h with h; injection h with h1 h2; subst h1 h2
   refine ⟨_,rfl,?_⟩
   have:=bw.cJ (al:=false) hn (s.G++[.map []]) dst (.v (.map s.G.length))
   have e:∀ o,t.cV o=t.bL (s.G++[o]):=fun o=>by rw [hG]; rfl
   rw [e,← hG]
   exact this
  | some _=>simp [ap] at h
 case call cl=>
  obtain ⟨callee,args,tys⟩:=cl
  cases callee with
  | builtin b=>
   have h1:kr E s.ae args.toList=kr E t.ae args.toList:=fc fun y hy=>dw y (by simp [Op.operands,Call.operands]; simpa using hy)
   cases hf:fw E f s { dst:=dst,op:=.call { callee:=.builtin b,args:=args,argTypes:=tys },type:=ty,pos:=pos,after:=after,guard:=guard } with
   | some r=>
    simp only [ap,hf] at h
    obtain ⟨t',q1,q2⟩:=tY (al:=bE (.call { callee:=.builtin b,args:=args,argTypes:=tys })) hn hG dw (c:=r.1) (s':=r.2) hf
    cases h
    obtain ⟨a2,t2,ho⟩:=lr hf
    cases ho
    refine ⟨t',by simp only [ap,q1],?_⟩
    exact q2
   | none=>
   have Su:=sw hn hG dw hf
   simp only [ap,hf,Su,h1] at h ⊢
   split at h
   ·(try simp only [*])
    obtain ⟨t',h3,h4⟩:=vS (al:=false) hn hG h
    refine ⟨t',h3,?_⟩
    have:(!qm (.call { callee:=.builtin b,args:=args,argTypes:=tys }))=JL b∨JL b=false:=by cases b <;> simp [qm,JL]
    rcases this with this | this
    ·rw [this]; exact h4
    ·obtain ⟨pre,preB,G,p1,p2,p3⟩:=h4
     exact ⟨pre,preB,G,p1,fun _=>p2 this,p3⟩
   ·cases h
  | _=>simp [ap] at h
 all_goals (simp [ap] at h)
theorem fX {f:FuncId} {c:Bool} {s':St} (hn:s.n=t.n) (hG:s.G=t.G) (hB:cG s.boxes=cG t.boxes) (dw:∀ y∈o.op.operands,bk E s.ae y=bk E t.ae y)
  (h:ap E f s o=some (c,s')):∃ t',ap E f t o=some (c,t')∧bw (bE o.op) (!qm o.op) o.dst s t s' t':=
 pT hn hG (fun k _ _=>by rw [hB]) dw h
end
end Go.Am
namespace Go.Am
open Go
structure nt (s t:St):Prop where
 l:lk s.ae=lk t.ae
 b:cG s.boxes=cG t.boxes
 G:s.G=t.G
 m:s.marks=t.marks
 ro:s.ro=t.ro
 n:s.n=t.n
theorem nt.refl (s:St):nt s s:=⟨rfl,rfl,rfl,rfl,rfl,rfl⟩
theorem nt.symm {s t:St} (h:nt s t):nt t s:=⟨h.l.symm,h.b.symm,h.G.symm,h.m.symm,h.ro.symm,h.n.symm⟩
theorem nt.trans {s t u:St} (h:nt s t) (k:nt t u):nt s u:=⟨h.l.trans k.l,h.b.trans k.b,h.G.trans k.G,h.m.trans k.m,h.ro.trans k.ro,h.n.trans k.n⟩
theorem kK {a b:aT} {e:Nat} (h:lk a e=lk b e):∀ pre:aT,lk (pre++a) e=lk (pre++b) e
 | []=>h
 | .put d x :: pre=>by
  simp only [List.cons_append,lk]
  rw [kK h pre]
 | .kill d :: pre=>by
  simp only [List.cons_append,lk]
  rw [kK h pre]
theorem tZ {a b:b8} {e:Nat} (h:cG a e=cG b e):∀ pre:b8,cG (pre++a) e=cG (pre++b) e
 | []=>h
 | (d,x) :: pre=>by
  simp only [List.cons_append,cG]
  rw [tZ h pre]
theorem nt.dZ {s t:St} (h:nt s t) (pre:aT) (preB:b8) (G:List GO):nt (s.dZ pre preB G) (t.dZ pre preB G):=
 ⟨funext fun e=>kK (by rw [h.l]) pre,funext fun e=>tZ (by rw [h.b]) preB,rfl,h.m,h.ro,h.n⟩
theorem Gc {E:Env} {a b:aT} {x:Operand} (h:∀ t,x=.tmp t→lk a t=lk b t):bk E a x=bk E b x:=by
 cases x with
 | tmp t=>exact h t rfl
 | _=>rfl
theorem nt.bk {E:Env} {s t:St} (h:nt s t) (x:Operand):bk E s.ae x=bk E t.ae x:=Gc fun e _=>by rw [h.l]
section zk
variable {E:Env} {R:ai} {w:World} {β:Nat→Nat} {s t:St} {a:Act}
theorem aY.eqv (h:aY E R w β s a) (e:nt s t):aY E R w β t a where
 g:=by rw [← e.G]; exact h.g
 b:=⟨fun k cs hk=>h.b.box k cs (by rw [e.b]; exact hk),fun k k' c c' h1 h2=>h.b.inj k k' c c' (by rw [e.b]; exact h1) (by rw [e.b]; exact h2)⟩
 t:=fun i hi=>by
  rw [← e.l] at hi ⊢
  exact h.t i hi
 n:=by rw [← e.n]; exact h.n
 d:=by rw [← e.m]; exact h.d
theorem sN {bx Fx:b8} (h:cG bx=cG Fx) {b:Nat} (k:Own R β bx b):Own R β Fx b:=by
 rcases k with k | ⟨j,cs,h1,h2⟩
 ·exact .inl k
 ·exact .inr ⟨j,cs,by rw [← h]; exact h1,h2⟩
theorem Step.eqv {R':ai} {w':World} {β':Nat→Nat} {bx Fx cx Yl:b8} (h:Step R w β bx R' w' β' Fx) (h1:cG bx=cG cx) (h2:cG Fx=cG Yl):Step R w β cx R' w' β' Yl:=
 ⟨h.ext,h.os,h.tape,h.output,h.size,fun b hb hn=>h.bq b hb (fun ho=>hn (sN h1 ho)),fun b hb ho=>sN h1 (h.own b hb (sN h2.symm ho)),fun b o hi hb hn=>h.im b o hi hb (fun ho=>hn (sN h1 ho))⟩
end zk
section ops
variable {E:Env} {s t:St} {f:FuncId} {o:Oper} {K K':St→Prop}
def Inv (K:St→Prop):Prop:=∀ s t,nt s t→K s→K t
theorem z8 {op:Op} (h:qm op=true):bE op=false:=by
 cases op <;> simp_all [qm,bE]
theorem qO (hn:s.n=t.n) (hG:s.G=t.G) (hB:cG s.boxes=cG t.boxes) (dw:∀ y∈o.op.operands,bk E s.ae y=bk E t.ae y) (h:iR E f o K s)
  (hK:∀ pre preB G,Rn (bE o.op) o.dst pre→(qm o.op=true→preB=[]∧G=s.G)→K (s.dZ pre preB G)→K' (t.dZ pre preB G)):iR E f o K' t:=by
 unfold iR at h ⊢
 split at h
 ·rename_i x args tys ho
  have h1:bk E s.ae x=bk E t.ae x:=dw x (by rw [ho]; simp [Op.operands,Call.operands])
  have h2:kr E s.ae args.toList=kr E t.ae args.toList:=fc fun y hy=>dw y (by rw [ho]; simp [Op.operands,Call.operands]; exact .inr (by simpa using hy))
  try simp only [ho]
  rw [← h1,← h2,← hG]
  split at h
  ·refine bU.mono h fun r G' hk=>?_
   obtain ⟨pre,preB,G,p1,p2,p3,p4⟩:=bw.cJ (s:=s) (t:=t) (al:=bE o.op) hn G' o.dst (.v r)
   rw [p3] at hk
   rw [p4]
   exact hK pre preB G p1 (fun e=>by rw [ho] at e; simp [qm] at e) hk
  ·refine jj.mono h fun r G' hk=>?_
   obtain ⟨pre,preB,G,p1,p2,p3,p4⟩:=bw.cJ (s:=s) (t:=t) (al:=bE o.op) hn G' o.dst (.v (.bool r))
   rw [p3] at hk
   rw [p4]
   exact hK pre preB G p1 (fun e=>by rw [ho] at e; simp [qm] at e) hk
  ·exact h.elim
 ·exact h.elim
 ·split at h
  ·rename_i c s' hs
   obtain ⟨t',h1,pre,preB,G,p1,p2,p3,p4⟩:=fX hn hG hB dw hs
   rw [h1]
   obtain ⟨rfl,hk⟩:=h.out
   refine cL.mk rfl ?_
   rw [p3] at hk
   rw [p4]
   exact hK pre preB G p1 (fun e=>⟨(p2 (by simp [e])).1,(p2 (by simp [e])).2.1⟩) hk
  ·exact h.elim
theorem qP (h:iR E f o K s) (hK:∀ s,K s→K' s):iR E f o K' s:=
 qO rfl rfl rfl (fun _ _=>rfl) h fun _ _ _ _ _ hk=>hK _ hk
theorem ua (h:iR E f o K s) (e:nt s t) (hK:Inv K):iR E f o K t:=
 qO e.n e.G e.b (fun y _=>e.bk y) h fun _ _ _ _ _ hk=>hK _ _ (e.dZ _ _ _) hk
def zl (ops:List Oper) (s:St) (o:Oper):Option Bool:=match o.guard with
 | none=>some true
 | some (j,want)=>match mF ops j with
  | some d=>match lk s.ae d with
   | .v (.bool b)=>some (b == want)
   | .v (.aX [])=>some false
   | _=>none
  | none=>none
theorem Aa (s:St) {d:Tmp} {x:SV} (h:lk s.ae d=x):nt s (s.put (some d) x):=by
 simp only [St.put]
 split
 ·refine ⟨funext fun e=>?_,rfl,rfl,rfl,rfl,rfl⟩
  by_cases k:d=e
  ·subst k; rw [ay]; exact h
  ·rw [aH k]
 ·exact nt.refl s
theorem nt.put {s t:St} (h:nt s t) (d:Option Tmp) (x:SV):nt (s.put d x) (t.put d x):=by
 obtain ⟨pre,preB,G,_,_,p3,p4⟩:=bw.put (s:=s) (t:=t) (al:=false) (w:=false) h.n h.G d x
 rw [p3,p4]
 exact h.dZ _ _ _
theorem eO {ops:List Oper} (hK:Inv K):bP E f ops o K s↔(zl ops s o=some true∧iR E f o K s)∨(zl ops s o=some false∧K (s.put o.dst (.v eE))):=by
 unfold bP zl
 cases hg:o.guard with
 | none=>simp
 | some p=>
  obtain ⟨j,want⟩:=p
  simp only
  cases hd:mF ops j with
  | none=>simp
  | some d=>
   simp only
   cases hl:lk s.ae d with
   | none=>simp
   | lp _ _=>simp
   | v a=>
    cases a with
    | bool b=>
     have e1:b=want→nt s (s.put (some d) (.v (.bool want))):=fun e=>Aa s (by rw [hl,e])
     have e2:b=(!want)→nt s (s.put (some d) (.v (.bool (!want)))):=fun e=>Aa s (by rw [hl,e])
     constructor
     ·intro ⟨h1,h2⟩
      by_cases e:b=want
      ·exact .inl ⟨by simp [e],ua (h1 e) (e1 e).symm hK⟩
      ·have e':b=(!want):=by cases b <;> cases want <;> simp_all
       exact .inr ⟨by simp [e],hK _ _ ((e2 e').symm.put _ _) (h2 e')⟩
     ·rintro (⟨h1,h2⟩ | ⟨h1,h2⟩)
      ·have e:b=want:=by simpa using h1
       exact ⟨fun e=>ua h2 (e1 e) hK,fun e'=>by subst e; cases b <;> cases e'⟩
      ·have e:¬ b=want:=by simpa using h1
       exact ⟨fun k=>absurd k e,fun e'=>hK _ _ ((e2 e').put _ _) h2⟩
    | aX vs=>cases vs <;> simp
    | _=>simp
theorem bQ {ops:List Oper} (h:bP E f ops o K s) (hK:∀ s,K s→K' s):bP E f ops o K' s:=by
 unfold bP at h ⊢
 split at h
 ·exact qP h hK
 ·split at h
  ·exact h.elim
  ·split at h
   ·exact ⟨fun e=>qP (h.1 e) hK,fun e=>hK _ (h.2 e)⟩
   ·exact hK _ h
   ·exact h.elim
theorem yd {ops:List Oper} (e:nt s t):zl ops s o=zl ops t o:=by
 unfold zl
 rw [e.l]
theorem Ab {ops:List Oper} (hK:Inv K):Inv (bP E f ops o K):=fun s t e h=>by
 rw [eO hK] at h ⊢
 rcases h with ⟨h1,h2⟩ | ⟨h1,h2⟩
 ·exact .inl ⟨by rw [← yd e]; exact h1,ua h2 e hK⟩
 ·exact .inr ⟨by rw [← yd e]; exact h1,hK _ _ (e.put _ _) h2⟩
end ops
end Go.Am
namespace Go.Am
open Go
def Gd (dst:Option Tmp) (s t s' t':St):Prop:=∃ x,s'=s.put dst x∧t'=t.put dst x
section
variable {E:Env} {s t:St} {o:Oper}
theorem Gd.put (_:s.n=t.n) (dst:Option Tmp) (x:SV):Gd dst s t (s.put dst x) (t.put dst x):=⟨x,rfl,rfl⟩
theorem Ac {f:FuncId} {c:Bool} {s':St} (hN:qm o.op=true) (hR:OK o.op=false) (hn:s.n=t.n) (dw:∀ y∈o.op.operands,bk E s.ae y=bk E t.ae y)
  (h:ap E f s o=some (c,s')):∃ t',ap E f t o=some (c,t')∧Gd o.dst s t s' t':=by
 obtain ⟨dst,op,ty,pos,after,guard⟩:=o
 cases op
 case move x=>
  simp only [ap,dw x (by simp [Op.operands])] at h ⊢
  split at h
  all_goals (injection h with h; injection h with h1 h2; subst h1 h2; (try simp only [*]); exact ⟨_,rfl,.put hn _ _⟩)
 case assign x=>
  simp only [ap,dw x (by simp [Op.operands])] at h ⊢
  split at h
  all_goals (injection h with h; injection h with h1 h2; subst h1 h2; (try simp only [*]); exact ⟨_,rfl,.put hn _ _⟩)
 case pick x y z=>
  simp only [ap,dw x (by simp [Op.operands]),dw y (by simp [Op.operands]),dw z (by simp [Op.operands])] at h ⊢
  split at h
  ·injection h with h; injection h with h1 h2; subst h1 h2; (try simp only [*]); exact ⟨_,rfl,.put hn _ _⟩
  ·cases h
 case build ty ps=>
  have he:kS E s ty ps.toList=kS E t ty ps.toList:=by
   unfold kS
   rw [kJ (fun p hp=>dw p.2 (by simp only [Op.operands,List.mem_toArray,List.mem_map]; exact ⟨p,hp,rfl⟩))]
  simp only [ap,he] at h ⊢
  split at h
  ·injection h with h; injection h with h1 h2; subst h1 h2; (try simp only [*]); exact ⟨_,rfl,.put hn _ _⟩
  ·cases h
 case buildSlice ty len ps=>
  have he:bM E s ty len ps.toList=bM E t ty len ps.toList:=by
   unfold bM
   rw [kJ (fun p hp=>dw p.2 (by simp only [Op.operands,List.mem_toArray,List.mem_map]; exact ⟨p,hp,rfl⟩))]
  simp only [ap,he] at h ⊢
  split at h
  ·injection h with h; injection h with h1 h2; subst h1 h2; (try simp only [*]); exact ⟨_,rfl,.put hn _ _⟩
  ·cases h
 case binOp op a x y b=>
  simp only [ap,dw x (by simp [Op.operands]),dw y (by simp [Op.operands])] at h ⊢
  repeat' (split at h)
  all_goals (first | (cases h; done) | skip)
  all_goals (injection h with h; injection h with h1 h2; subst h1 h2; (try simp only [*]); exact ⟨_,rfl,.put hn _ _⟩)
 case unOp op a x=>
  simp only [ap,dw x (by simp [Op.operands])] at h ⊢
  repeat' (split at h)
  all_goals (first | (cases h; done) | skip)
  all_goals (injection h with h; injection h with h1 h2; subst h1 h2; (try simp only [*]); exact ⟨_,rfl,.put hn _ _⟩)
 case convert a b x=>simp [OK] at hR
 case nilCheck x=>
  simp only [ap,dw x (by simp [Op.operands])] at h ⊢
  repeat' (split at h)
  all_goals (first | (cases h; done) | skip)
  all_goals (injection h with h; injection h with h1 h2; subst h1 h2; (try simp only [*]); exact ⟨_,rfl,.put hn _ _⟩)
 case makeFunc fo a b=>
  cases fo with
  | func g=>
   have h1:kr E s.ae a.toList=kr E t.ae a.toList:=fc fun y hy=>dw y (by simp only [Op.operands,Array.mem_append]; exact .inl (by simpa using hy))
   have h2:kr E s.ae b.toList=kr E t.ae b.toList:=fc fun y hy=>dw y (by simp only [Op.operands,Array.mem_append]; exact .inr (by simpa using hy))
   simp only [ap,h1,h2] at h ⊢
   repeat' (split at h)
   all_goals (first | (cases h; done) | skip)
   all_goals (injection h with h; injection h with h1 h2; subst h1 h2; (try simp only [*]); exact ⟨_,rfl,.put hn _ _⟩)
  | _=>simp [ap] at h
 case fieldAddr a x j=>
  simp only [ap,dw x (by simp [Op.operands])] at h ⊢
  repeat' (split at h)
  all_goals (first | (cases h; done) | skip)
  all_goals (injection h with h; injection h with h1 h2; subst h1 h2; (try simp only [*]); exact ⟨_,rfl,.put hn _ _⟩)
 case field a x j=>
  simp only [ap,dw x (by simp [Op.operands])] at h ⊢
  repeat' (split at h)
  all_goals (first | (cases h; done) | skip)
  all_goals (injection h with h; injection h with h1 h2; subst h1 h2; (try simp only [*]); exact ⟨_,rfl,.put hn _ _⟩)
 case indexAddr a x y=>
  simp only [ap,dw x (by simp [Op.operands]),dw y (by simp [Op.operands])] at h ⊢
  repeat' (split at h)
  all_goals (first | (cases h; done) | skip)
  all_goals (injection h with h; injection h with h1 h2; subst h1 h2; (try simp only [*]); exact ⟨_,rfl,.put hn _ _⟩)
 case index a x y=>
  simp only [ap,dw x (by simp [Op.operands]),dw y (by simp [Op.operands])] at h ⊢
  repeat' (split at h)
  all_goals (first | (cases h; done) | skip)
  all_goals (injection h with h; injection h with h1 h2; subst h1 h2; (try simp only [*]); exact ⟨_,rfl,.put hn _ _⟩)
 case slice a x lo hi mx=>
  have h1:kU E s.ae lo=kU E t.ae lo:=by
   cases lo with
   | none=>rfl
   | some y=>simp only [kU]; rw [dw y (by simp [Op.operands])]
  have h2:kU E s.ae hi=kU E t.ae hi:=by
   cases hi with
   | none=>rfl
   | some y=>simp only [kU]; rw [dw y (by simp [Op.operands])]
  simp only [ap,dw x (by simp [Op.operands]),h1,h2] at h ⊢
  repeat' (split at h)
  all_goals (first | (cases h; done) | skip)
  all_goals (injection h with h; injection h with h1 h2; subst h1 h2; (try simp only [*]); exact ⟨_,rfl,.put hn _ _⟩)
 case extract x i=>
  simp only [ap,dw x (by simp [Op.operands])] at h ⊢
  repeat' (split at h)
  all_goals (first | (cases h; done) | skip)
  all_goals (injection h with h; injection h with h1 h2; subst h1 h2; (try simp only [*]); exact ⟨_,rfl,.put hn _ _⟩)
 all_goals (first | (simp [qm] at hN; done) | (simp [OK] at hR; done))
end
end Go.Am
namespace Go.Am
open Go
section
variable {E:Env} {s t:St} {f:FuncId} {ops:Array Oper} {o oj oi:Oper} {d:Tmp} {x:SV} {K:St→Prop}
theorem Ge (ops:Array Oper) (j:Nat):mF ops.toList j=(ops[j]?).bind (·.dst):=by
 unfold mF
 rw [aR,Array.getElem?_toList]
 cases ops[j]? <;> rfl
theorem ls {e:Tmp} (h:.tmp e∈o.op.operands):e∈o.looksAt ops:=
 List.mem_append_left _ (List.mem_filterMap.2 ⟨.tmp e,by simpa using h,rfl⟩)
theorem iF {j:Nat} {want:Bool} {e:Tmp} (h:o.guard=some (j,want)) (he:mF ops.toList j=some e):e∈o.looksAt ops:=by
 rw [Ge] at he
 refine List.mem_append_right _ ?_
 rw [h]
 simp [he]
theorem jk (h:∀ e∈o.looksAt ops,lk s.ae e=lk t.ae e):∀ y∈o.op.operands,bk E s.ae y=bk E t.ae y:=fun _ hy=>
 Gc fun e he=>h e (ls (he ▸ hy))
theorem jb (h:∀ e∈o.looksAt ops,lk s.ae e=lk t.ae e):zl ops.toList s o=zl ops.toList t o:=by
 unfold zl
 split
 ·rfl
 ·rename_i j want hg
  split
  ·rename_i e he
   rw [h e (iF hg he)]
  ·rfl
theorem sO (s:St) (d:Tmp) (x:SV) {e:Nat} (h:d≠e):lk (s.put (some d) x).ae e=lk s.ae e:=by
 simp only [St.put]
 split
 ·exact aH h
 ·rfl
theorem eP (s:St) (d:Option Tmp) (x:SV):(s.put d x).boxes=s.boxes∧(s.put d x).G=s.G∧(s.put d x).n=s.n∧(s.put d x).marks=s.marks∧(s.put d x).ro=s.ro:=by
 cases d with
 | none=>exact ⟨rfl,rfl,rfl,rfl,rfl⟩
 | some d=>
  simp only [St.put]
  split <;> exact ⟨rfl,rfl,rfl,rfl,rfl⟩
def ub (E:Env) (f:FuncId) (ops:Array Oper) (o:Oper) (s:St) (x:SV):Prop:=
 (zl ops.toList s o=some true∧ap E f s o=some (true,s.put o.dst x))∨(zl ops.toList s o=some false∧x=.v eE)
theorem Gf {c:Bool} {s':St} (hN:qm o.op=true) (h:ap E f s o=some (c,s')):∃ x,s'=s.put o.dst x:=by
 obtain ⟨t',_,pre,preB,G,_,h2,_,_⟩:=fX (t:=s) rfl rfl rfl (fun _ _=>rfl) h
 obtain ⟨_,_,x,hx,_⟩:=h2 (by simp [hN])
 exact ⟨x,hx⟩
theorem Gg (hN:qm o.op=true):iR E f o K s↔∃ s',ap E f s o=some (true,s')∧K s':=by
 unfold iR
 split
 ·rename_i h
  rw [h] at hN
  simp [qm] at hN
 ·rename_i h
  rw [h] at hN
  simp [qm] at hN
 ·split
  ·rename_i c s' hs
   constructor
   ·intro h
    obtain ⟨rfl,hk⟩:=h.out
    exact ⟨s',hs,hk⟩
   ·rintro ⟨zB,h1,h2⟩
    rw [hs] at h1
    cases h1
    exact cL.mk rfl h2
  ·rename_i hs
   constructor
   ·exact fun h=>h.elim
   ·rintro ⟨zB,h1,_⟩
    rw [hs] at h1
    cases h1
theorem uc (hN:qm o.op=true) (hK:Inv K) (h:bP E f ops.toList o K s):∃ x,ub E f ops o s x∧K (s.put o.dst x):=by
 rcases (eO hK).1 h with ⟨h1,h2⟩ | ⟨h1,h2⟩
 ·obtain ⟨s',h3,h4⟩:=(Gg hN).1 h2
  obtain ⟨x,rfl⟩:=Gf hN h3
  exact ⟨x,.inl ⟨h1,h3⟩,h4⟩
 ·exact ⟨_,.inr ⟨h1,rfl⟩,h2⟩
theorem uf (hN:qm o.op=true) (hK:Inv K) (hx:ub E f ops o s x) (h:K (s.put o.dst x)):bP E f ops.toList o K s:=by
 rw [eO hK]
 rcases hx with ⟨h1,h2⟩ | ⟨h1,rfl⟩
 ·exact .inl ⟨h1,(Gg hN).2 ⟨_,h2,h⟩⟩
 ·exact .inr ⟨h1,h⟩
def Cc (E:Env) (f:FuncId) (ops:List Oper) (o:Oper) (s:St):Prop:=match zl ops s o with
 | some true=>match o.dst,ap E f s o with
  | some d,some (c,s')=>c=true∧lk s'.ae d=lk s.ae d
  | _,_=>False
 | some false=>True
 | none=>False
theorem JM (hN:qm o.op=true) (hd:d∉o.looksAt ops) (cj:o.dst≠some d) (he:∀ e,d≠e→lk s.ae e=lk t.ae e) (hB:cG s.boxes=cG t.boxes) (hG:s.G=t.G) (hn:s.n=t.n)
  (h:Cc E f ops.toList o s):Cc E f ops.toList o t:=by
 have hl:∀ e∈o.looksAt ops,lk s.ae e=lk t.ae e:=fun e hm=>he e fun k=>hd (k ▸ hm)
 unfold Cc at h ⊢
 rw [← jb hl]
 split
 ·rename_i hg
  rw [hg] at h
  simp only at h
  split at h
  ·rename_i e c s' EA hs
   obtain ⟨t',h3,pre,preB,G,_,h4,_,_⟩:=fX hn hG hB (jk hl) hs
   obtain ⟨_,_,y,h5,h6⟩:=h4 (by simp [hN])
   rw [EA,h3]
   refine ⟨h.1,?_⟩
   have Ym:d≠e:=fun k=>cj (by rw [EA,k])
   have h7:=h.2
   rw [h5,EA] at h7
   rw [h6,EA,← he e Ym]
   simp only [St.put,← hn] at h7 ⊢
   split
   ·rename_i hb
    rw [hb] at h7
    simp only [ay] at h7 ⊢
    exact h7
   ·exact (he e Ym).symm
  ·exact h.elim
 ·trivial
 ·rename_i hg
  rw [hg] at h
  exact h
theorem JN (hN:qm o.op=true) (e:nt s t) (h:Cc E f ops.toList o s):Cc E f ops.toList o t:=by
 unfold Cc at h ⊢
 rw [← yd e]
 split
 ·rename_i hg
  rw [hg] at h
  simp only at h
  split at h
  ·rename_i d c s' EA hs
   obtain ⟨t',h3,pre,preB,G,_,h4,_,_⟩:=fX e.n e.G e.b (fun y _=>e.bk y) hs
   obtain ⟨_,_,y,h5,h6⟩:=h4 (by simp [hN])
   rw [EA,h3]
   refine ⟨h.1,?_⟩
   rw [h6,← (e.put o.dst y).l,← h5,← e.l]
   exact h.2
  ·exact h.elim
 ·trivial
 ·rename_i hg
  rw [hg] at h
  exact h
def hJ (oj oi:Oper):Bool:=bE oi.op || (OK oj.op&&!qm oi.op)
theorem Gh {al:Bool} {dst:Option Tmp} {pre:aT} (h:Rn al dst pre) {e:Nat} (he:dst≠some e) (l:aT):lk (pre++l) e=lk l e∨(al=true∧∃ k off,lk l e=.lp k off):=by
 rcases h with rfl | ⟨d,y,rfl,rfl | ⟨rfl,rfl⟩⟩
 ·exact .inl rfl
 ·exact .inl (aH fun k=>he (by rw [k]))
 ·simp only [List.cons_append,List.nil_append]
  rw [aH (fun k=>he (by rw [k]))]
  simp only [lk]
  cases hl:lk l e with
  | lp k off=>exact .inr ⟨trivial,k,off,rfl⟩
  | _=>exact .inl rfl
theorem pU {al:Bool} {pre:aT} (preB:b8) (G:List GO) (h:Rn al oi.dst pre) (cj:oi.dst≠some d) (hx:al=false∨∃ a,x=.v a):nt ((s.put (some d) x).dZ pre preB G) ((s.dZ pre preB G).put (some d) x):=by
 have hb:∀ b,Nat.blt d s.n=b→nt ((s.put (some d) x).dZ pre preB G) ((s.dZ pre preB G).put (some d) x):=fun b hb=>by
  have kd:Nat.blt d (s.dZ pre preB G).n=b:=hb
  rw [jX,jX,hb,kd]
  cases b with
  | false=>exact nt.refl _
  | true=>
   refine ⟨funext fun e=>?_,rfl,rfl,rfl,rfl,rfl⟩
   simp only [cond_true,St.dZ,List.cons_append,List.nil_append]
   by_cases k:d=e
   ·subst k
    rw [ay]
    rcases Gh h cj (.put d x :: s.ae) with h1 | ⟨h1,k,off,h2⟩
    ·rw [h1,ay]
    ·rw [ay] at h2
     rcases hx with hx | ⟨a,hx⟩
     ·rw [hx] at h1; cases h1
     ·rw [hx] at h2; cases h2
   ·rw [aH k]
    exact kK (aH k) pre
 exact hb _ rfl
theorem EB (hN:qm oj.op=true) (Dp:oj.dst=some d) (Ad:d∉oj.looksAt ops) (Rp:oj.apart ops oi=true) (hK:Inv K) (hx:ub E f ops oj s x) {pre:aT} {preB:b8} {G:List GO}
  (vU:Rn (bE oi.op) oi.dst pre) (SG:qm oi.op=true→preB=[]∧G=s.G) (hk:K ((s.put (some d) x).dZ pre preB G)) (Sf:∀ t',K t'→hJ oj oi=true→Cc E f ops.toList oj t') :
  ∃ x',ub E f ops oj (s.dZ pre preB G) x'∧K ((s.dZ pre preB G).put (some d) x'):=by
 obtain ⟨_,cj,zH⟩:=Oper.apart_spec Rp
 have Gi:oi.dst≠some d:=cj d Dp
 have pV:∀ e∈oj.looksAt ops,oi.dst≠some e:=fun e he k=>zH e k he
 have rA:∀ e∈oj.looksAt ops,(bE oi.op=false∨∃ b,lk s.ae e=.v b)→lk s.ae e=lk (s.dZ pre preB G).ae e:=fun e he ha=>by
  rcases Gh vU (pV e he) s.ae with h1 | ⟨h1,k,off,h2⟩
  ·exact h1.symm
  ·rcases ha with ha | ⟨b,ha⟩
   ·rw [ha] at h1; cases h1
   ·rw [ha] at h2; cases h2
 have JO:∀ b,zl ops.toList s oj=some b→zl ops.toList (s.dZ pre preB G) oj=some b:=fun b hb=>by
  unfold zl at hb ⊢
  split
  ·rename_i hg; rw [hg] at hb; exact hb
  ·rename_i j want hg
   rw [hg] at hb
   simp only at hb
   split
   ·rename_i e he
    rw [he] at hb
    simp only at hb
    split at hb
    ·rename_i b' hl
     have:=rA e (iF hg he) (.inr ⟨_,hl⟩)
     rw [← this,hl]
     exact hb
    ·rename_i hl
     have:=rA e (iF hg he) (.inr ⟨_,hl⟩)
     rw [← this,hl]
     exact hb
    ·cases hb
   ·rename_i he; rw [he] at hb; cases hb
 rcases hx with ⟨h1,h2⟩ | ⟨h1,rfl⟩
 ·rw [Dp] at h2
  by_cases VJ:hJ oj oi=true
  ·have hr:=Sf _ hk VJ
   -- the state with the slot, and the one without it
   have xS:∀ e,d≠e→lk ((s.put (some d) x).dZ pre preB G).ae e=lk (s.dZ pre preB G).ae e:=fun e he=>kK (sO s d x he) pre
   have hB:cG ((s.put (some d) x).dZ pre preB G).boxes=cG (s.dZ pre preB G).boxes:=by
    simp only [St.dZ]; rw [(eP s _ x).1]
   have hn:((s.put (some d) x).dZ pre preB G).n=(s.dZ pre preB G).n:=(eP s _ x).2.2.1
   have JP:∀ e∈oj.looksAt ops,lk ((s.put (some d) x).dZ pre preB G).ae e=lk (s.dZ pre preB G).ae e:=fun e he=>xS e fun k=>Ad (k ▸ he)
   have ZN:zl ops.toList ((s.put (some d) x).dZ pre preB G) oj=some true:=by rw [jb JP]; exact JO _ h1
   unfold Cc at hr
   rw [ZN] at hr
   simp only [Dp] at hr
   split at hr
   ·rename_i d' c s' C5 hs
    cases C5
    obtain ⟨rfl,hr⟩:=hr
    obtain ⟨t',h3,p,pB,G2,_,h4,_,_⟩:=fX (t:=s.dZ pre preB G) hn rfl hB (jk JP) hs
    obtain ⟨_,_,y,h5,h6⟩:=h4 (by simp [hN])
    rw [h6] at h3
    rw [h5,Dp] at hr
    refine ⟨y,.inl ⟨JO _ h1,h3⟩,hK _ _ ?_ hk⟩
    have Yn:((s.put (some d) x).dZ pre preB G).marks=(s.dZ pre preB G).marks∧((s.put (some d) x).dZ pre preB G).ro=(s.dZ pre preB G).ro:=(eP s _ x).2.2.2
    obtain ⟨q1,q2,q3,q4,q5⟩:=eP (s.dZ pre preB G) (some d) y
    refine ⟨funext fun e=>?_,by rw [q1]; exact hB,by rw [q2]; rfl,by rw [q4]; exact Yn.1,by rw [q5]; exact Yn.2,by rw [q3]; exact hn⟩
    by_cases k:d=e
    ·subst k
     rw [← hr]
     have hb:∀ b,Nat.blt d s.n=b→lk (((s.put (some d) x).dZ pre preB G).put (some d) y).ae d=lk ((s.dZ pre preB G).put (some d) y).ae d:=fun b hb=>by
      have Ae:Nat.blt d (s.dZ pre preB G).n=b:=hb
      have Bf:Nat.blt d ((s.put (some d) x).dZ pre preB G).n=b:=by rw [hn]; exact hb
      rw [jX _ d y,jX _ d y,Ae,Bf]
      cases b with
      | true=>simp [St.dZ,ay]
      | false=>
       simp only [cond_false]
       rw [jX,hb]
       rfl
     exact hb _ rfl
    ·rw [sO _ _ _ k]
     exact xS e k
   ·exact hr.elim
  ·have EC:bE oi.op=false:=by cases ha:bE oi.op <;> simp_all [hJ]
   have hl:∀ e∈oj.looksAt ops,lk s.ae e=lk (s.dZ pre preB G).ae e:=fun e he=>rA e he (.inl EC)
   have fin:∀ y,s.put (some d) x=s.put (some d) y→ap E f (s.dZ pre preB G) oj=some (true,(s.dZ pre preB G).put oj.dst y) →
     ∃ x',ub E f ops oj (s.dZ pre preB G) x'∧K ((s.dZ pre preB G).put (some d) x'):=fun y hy hs=>by
    refine ⟨y,.inl ⟨JO _ h1,hs⟩,hK _ _ (pU (oi:=oi) preB G vU Gi (.inl EC)) ?_⟩
    rw [← hy]
    exact hk
   cases ZO:qm oi.op with
   | true=>
    obtain ⟨rfl,rfl⟩:=SG ZO
    obtain ⟨t',h3,p,pB,G2,_,h4,_,_⟩:=fX (s:=s) (t:=s.dZ pre [] s.G) rfl rfl rfl (jk hl) h2
    obtain ⟨_,_,y,h5,h6⟩:=h4 (by simp [hN])
    rw [Dp] at h5
    exact fin y h5 (by rw [h3,h6])
   | false=>
    have hR:OK oj.op=false:=by cases ha:OK oj.op <;> simp_all [hJ]
    obtain ⟨t',h3,y,h5,h6⟩:=Ac (s:=s) (t:=s.dZ pre preB G) hN hR rfl (jk hl) h2
    rw [Dp] at h5
    exact fin y h5 (by rw [h3,h6])
 ·exact ⟨_,.inr ⟨JO _ h1,rfl⟩,hK _ _ (pU (oi:=oi) preB G vU Gi (.inr ⟨_,rfl⟩)) hk⟩
end
end Go.Am
namespace Go.Am
open Go
section
variable {E:Env} {s t:St} {o:Oper}
def gr (E:Env) (s:St) (o:Oper) (s':St):Prop:=
 (s'.ae=s.ae∨∃ d x,o.dst=some d∧(s'.ae=.put d x :: s.ae∨s'.ae=.put d x :: .kill d :: s.ae)∧∀ k off,x=.lp k off→(∃ y∈o.op.operands,∃ eF,bk E s.ae y=.lp k eF)∨(bE o.op=true∧k=d)) ∧
 (s'.boxes=s.boxes∨∃ k cs,s'.boxes=(k,cs) :: s.boxes∧((bE o.op=true∧o.dst=some k)∨∃ y∈o.op.operands,∃ off,bk E s.ae y=.lp k off))
theorem jY {s1:St} (h1:s1.ae=s.ae) (h2:s1.boxes=s.boxes) {x:SV} (hx:∀ k off,x=.lp k off→∃ y∈o.op.operands,∃ eF,bk E s.ae y=.lp k eF):gr E s o (s1.put o.dst x):=by
 refine ⟨?_,.inl (by rw [(eP s1 o.dst x).1,h2])⟩
 cases hd:o.dst with
 | none=>exact .inl h1
 | some d=>
  simp only [St.put]
  split
  ·exact .inr ⟨d,x,rfl,.inl (by rw [h1]),fun k off h=>.inl (hx k off h)⟩
  ·exact .inl h1
theorem jl {s1:St} (h1:s1.ae=s.ae) (h2:s1.boxes=s.boxes) (a:AV):gr E s o (s1.put o.dst (.v a)):=jY h1 h2 fun k off h=>by cases h
theorem kL {s1:St} (h1:s1.ae=s.ae) (h2:s1.boxes=s.boxes):gr E s o s1:=⟨.inl h1,.inl h2⟩
theorem JQ {k:Nat} {cs:List AV} (h:∃ y∈o.op.operands,∃ off,bk E s.ae y=.lp k off):gr E s o (s.se k cs):=⟨.inl rfl,.inr ⟨k,cs,rfl,.inr h⟩⟩
theorem Af {n:Nat} {x:SV} {k off:Nat} (h:wi n x=some (.lp k off)):∃ eF,x=.lp k eF:=by
 unfold wi at h
 split at h <;> cases h
 exact ⟨_,rfl⟩
theorem vV {ty:TypeId} {x:SV} {j k off:Nat} (h:je E ty x j=some (.lp k off)):∃ eF,x=.lp k eF:=by
 unfold je at h
 repeat' (split at h)
 all_goals (first | (cases h; done) | exact Af h)
theorem vW {ty:TypeId} {x ix:SV} {c:Bool} {k off:Nat} (h:jd E ty x ix=some (c,.lp k off)):∃ eF,x=.lp k eF:=by
 unfold jd at h
 repeat' (split at h)
 all_goals (first | (cases h; done) | skip)
 rename_i hm
 injection h with h; injection h with h1 h2; subst h2
 exact Af hm
theorem Cd {ty:TypeId} {p x:SV} {s':St} (hp:∀ k off,p=.lp k off→∃ y∈o.op.operands,∃ eF,bk E s.ae y=.lp k eF) (h:iz E s ty p x=some s'):gr E s o s':=by
 unfold iz at h
 repeat' (split at h)
 all_goals (first | (cases h; done) | skip)
 ·cases h; exact JQ (hp _ _ rfl)
 ·cases h; exact kL rfl rfl
theorem Ce {ty:TypeId} {p x:SV} {c:Bool} {s':St} (hp:∀ k off,p=.lp k off→∃ y∈o.op.operands,∃ eF,bk E s.ae y=.lp k eF) (h:iA E s ty p x=some (c,s')):gr E s o s':=by
 unfold iA at h
 repeat' (split at h)
 all_goals (first | (cases h; done) | skip)
 ·injection h with h; injection h with h1 h2; subst h2; exact kL rfl rfl
 ·injection h with h; injection h with h1 h2; subst h2; exact kL rfl rfl
 ·rename_i hs
  injection h with h; injection h with h1 h2; subst h2; exact Cd hp hs
theorem rM {ty:TypeId} {m k x:SV} {s':St} (h:dR E s ty m k x=some s'):gr E s o s':=by
 unfold dR at h
 repeat' (split at h)
 all_goals (first | (cases h; done) | skip)
 cases h; exact kL rfl rfl
theorem ED {x:SV} {s':St} (h:jT s o.dst x=some s'):gr E s o s':=by
 unfold jT at h
 split at h
 ·split at h
  ·rename_i l pos hg
   cases hb:Nat.blt pos l.length with
   | true=>
    rw [hb] at h
    simp only [cond_true] at h
    cases h
    exact jl rfl rfl _
   | false=>
    rw [hb] at h
    simp only [cond_false] at h
    cases h
    exact jl rfl rfl _
  ·cases h
 ·cases h
theorem ye {b:Builtin} {l:List AV} {tys:List TypeId} {c:Bool} {s':St} (h:bB E s o.dst b l tys=some (c,s')):gr E s o s':=by
 unfold bB at h
 cases b
 all_goals (try (cases h; done))
 all_goals (try simp only at h)
 all_goals (try (split at h <;> first | (cases h; done) | simp only at h))
 all_goals (repeat' (split at h))
 all_goals (first | (cases h; done) | skip)
 all_goals (injection h with h; injection h with h1 h2; subst h1 h2)
 all_goals (first | exact jl rfl rfl _ | exact kL rfl rfl)
theorem EE {f:FuncId} {c:Bool} {s':St} (h:fw E f s o=some (c,s')):gr E s o s':=by
 unfold fw at h
 repeat' (split at h)
 all_goals (first | (cases h; done) | skip)
 injection h with h; injection h with h2 h3
 subst h3
 exact jl rfl rfl _
theorem ug {f:FuncId} {el:TypeId} {cs:List AV} {c:Bool} {s':St} (ha:bE o.op=true) (h:dQ E f s o.dst el cs=some (c,s')):gr E s o s':=by
 unfold dQ at h
 split at h
 ·cases h
 ·rename_i d hd
  split at h
  ·injection h with h; injection h with h1 h2; subst h2
   rw [← hd]
   exact jl rfl rfl _
  ·split at h
   ·rename_i hb
    injection h with h; injection h with h1 h2; subst h2
    refine ⟨.inr ⟨d,.lp d 0,hd,.inr ?_,fun k off h=>by cases h; exact .inr ⟨ha,rfl⟩⟩,.inr ⟨d,cs,?_,.inl ⟨ha,hd⟩⟩⟩
    ·simp only [St.put,St.se,St.kill,hb]
    ·rw [(eP _ (some d) (.lp d 0)).1]; rfl
   ·cases h
theorem Cf {f:FuncId} {c:Bool} {s':St} (h:ap E f s o=some (c,s')):gr E s o s':=by
 cases ho:o.op
 case move x=>
  simp only [ap,ho] at h
  split at h
  all_goals (injection h with h; injection h with h1 h2; subst h2)
  ·exact jl rfl rfl _
  ·rename_i k off hx
   exact jY rfl rfl fun k' eF e=>by cases e; exact ⟨x,by rw [ho]; simp [Op.operands],_,hx⟩
  ·exact jY rfl rfl fun k' eF e=>by cases e
 case assign x=>
  simp only [ap,ho] at h
  split at h
  all_goals (injection h with h; injection h with h1 h2; subst h2)
  ·exact jl rfl rfl _
  ·rename_i k off hx
   exact jY rfl rfl fun k' eF e=>by cases e; exact ⟨x,by rw [ho]; simp [Op.operands],_,hx⟩
  ·exact jY rfl rfl fun k' eF e=>by cases e
 case nilCheck x=>
  simp only [ap,ho] at h
  split at h
  ·injection h with h; injection h with h1 h2; subst h2
   exact jl rfl rfl _
  ·rename_i k off hx
   injection h with h; injection h with h1 h2; subst h2
   exact jY rfl rfl fun k' eF e=>by cases e; exact ⟨x,by rw [ho]; simp [Op.operands],_,hx⟩
  ·cases h
 case fieldAddr a x j=>
  simp only [ap,ho] at h
  split at h
  ·rename_i p hp
   injection h with h; injection h with h1 h2; subst h2
   exact jY rfl rfl fun k' eF e=>by subst e; exact ⟨x,by rw [ho]; simp [Op.operands],vV hp⟩
  ·cases h
 case indexAddr a x y=>
  simp only [ap,ho] at h
  split at h
  ·rename_i c' p hp
   injection h with h; injection h with h1 h2; subst h2
   exact jY rfl rfl fun k' eF e=>by subst e; exact ⟨x,by rw [ho]; simp [Op.operands],vW hp⟩
  ·cases h
 case alloc e=>
  simp only [ap,ho] at h
  repeat' (split at h)
  all_goals (first | (cases h; done) | skip)
  exact ug (by rw [ho]; rfl) h
 case box e x=>
  simp only [ap,ho] at h
  repeat' (split at h)
  all_goals (first | (cases h; done) | skip)
  exact ug (by rw [ho]; rfl) h
 case store ty x y=>
  simp only [ap,ho] at h
  split at h
  ·rename_i hs
   injection h with h; injection h with h1 h2; subst h2
   exact Ce (fun k off e=>⟨x,by rw [ho]; simp [Op.operands],off,e⟩) hs
  ·cases h
 case mapUpdate ty x y z=>
  simp only [ap,ho] at h
  split at h
  ·rename_i hs
   injection h with h; injection h with h1 h2; subst h2
   exact rM hs
  ·cases h
 case insert ty x y z=>
  simp only [ap,ho] at h
  split at h
  ·rename_i hs
   injection h with h; injection h with h1 h2; subst h2
   exact rM hs
  ·cases h
 case mapEntry ty x y=>
  simp only [ap,ho] at h
  split at h
  ·rename_i hs
   injection h with h; injection h with h1 h2; subst h2
   unfold eZ at hs
   repeat' (split at hs)
   all_goals (first | (cases hs; done) | skip)
   injection hs with hs; injection hs with h3 hs; injection hs with h4 h5
   subst h5
   exact jl rfl rfl _
  ·cases h
 case entryStore ty x y z=>
  simp only [ap,ho] at h
  split at h
  ·rename_i hs
   injection h with h; injection h with h1 h2; subst h2
   unfold du at hs
   repeat' (split at hs)
   all_goals (first | (cases hs; done) | skip)
   injection hs with hs; injection hs with h3 h4
   subst h4
   exact kL rfl rfl
  ·cases h
 case next x b=>
  cases b with
  | false=>simp [ap,ho] at h
  | true=>
   simp only [ap,ho] at h
   split at h
   ·rename_i hs
    injection h with h; injection h with h1 h2; subst h2
    exact ED hs
   ·cases h
 case call cl=>
  obtain ⟨callee,args,tys⟩:=cl
  cases callee with
  | builtin b=>
   simp only [ap,ho] at h
   split at h
   ·rename_i r hf
    cases h
    exact EE hf
   ·split at h
    ·exact ye h
    ·cases h
  | _=>simp [ap,ho] at h
 case makeFunc fo a b=>
  cases fo with
  | func g=>
   simp only [ap,ho] at h
   repeat' (split at h)
   all_goals (first | (cases h; done) | skip)
   injection h with h; injection h with h1 h2; subst h2
   exact jl rfl rfl _
  | _=>simp [ap,ho] at h
 case makeMap ty r=>
  cases r with
  | none=>
   simp only [ap,ho] at h
   injection h with h; injection h with h1 h2; subst h2
   exact jl rfl rfl _
  | some _=>simp [ap,ho] at h
 all_goals (first
  | (simp [ap,ho] at h; done)
  | (simp only [ap,ho] at h; (repeat' (split at h)); (all_goals (first | (cases h; done) | skip)); (all_goals (injection h with h; injection h with h1 h2; subst h2)); (all_goals (exact jl rfl rfl _))))
def oG (s:St) (d:Nat) (cs:List AV):St:=s.dZ [.put d (.lp d 0),.kill d] [(d,cs)] s.G
theorem Cg {f:FuncId} {d:Tmp} {c:Bool} {s1:St} (EC:bE o.op=true) (hd:o.dst=some d) (hg:E.vI f d=false) (h:ap E f s o=some (c,s1)) :
  c=true∧∃ cs,s1=oG s d cs∧∀ t:St,t.n=s.n→(∀ y∈o.op.operands,∀ v,bk E s.ae y=.v v→bk E t.ae y=.v v)→ap E f t o=some (true,oG t d cs):=by
 have key:∀ (el:TypeId) (cs:List AV),dQ E f s o.dst el cs=some (c,s1)→c=true∧s1=oG s d cs∧∀ t:St,t.n=s.n→dQ E f t o.dst el cs=some (true,oG t d cs):=by
  intro el cs h
  unfold dQ at h
  rw [hd] at h
  simp only [hg,Bool.false_eq_true,if_false] at h
  split at h
  ·rename_i hb
   injection h with h; injection h with h1 h2; subst h1 h2
   refine ⟨rfl,?_,fun t ht=>?_⟩
   ·simp only [St.put,St.se,St.kill,hb,oG,St.dZ]; rfl
   ·unfold dQ
    rw [hd]
    simp only [hg,Bool.false_eq_true,if_false,ht,hb]
    simp only [St.put,St.se,St.kill,ht,hb,oG,St.dZ]; rfl
  ·cases h
 cases ho:o.op
 case alloc e=>
  simp only [ap,ho] at h ⊢
  split at h
  ·split at h
   ·split at h
    ·rename_i hi _ _ hz I8
     obtain ⟨k1,k2,k3⟩:=key _ _ h
     refine ⟨k1,_,k2,fun t ht _=>?_⟩
     simp only [hi,hz,I8,if_true]
     exact k3 t ht
    ·cases h
   ·cases h
  ·cases h
 case box e x=>
  simp only [ap,ho] at h ⊢
  split at h
  ·split at h
   ·rename_i v hv I8
    obtain ⟨k1,k2,k3⟩:=key _ _ h
    refine ⟨k1,_,k2,fun t ht he=>?_⟩
    simp only [he x (by simp [Op.operands]) v hv,I8,if_true]
    exact k3 t ht
   ·cases h
  ·cases h
 all_goals (rw [ho] at EC; simp [bE] at EC)
theorem Dq {pre:aT} {preB:b8} {G:List GO} (h:gr E s o (s.dZ pre preB G)) :
  (pre=[]∨∃ d x,o.dst=some d∧(pre=[.put d x]∨pre=[.put d x,.kill d])∧∀ k off,x=.lp k off→(∃ y∈o.op.operands,∃ eF,bk E s.ae y=.lp k eF)∨(bE o.op=true∧k=d)) ∧
  (preB=[]∨∃ k cs,preB=[(k,cs)]∧((bE o.op=true∧o.dst=some k)∨∃ y∈o.op.operands,∃ off,bk E s.ae y=.lp k off)):=by
 obtain ⟨h1,h2⟩:=h
 refine ⟨?_,?_⟩
 ·rcases h1 with h1 | ⟨d,x,hd,h1,hx⟩
  ·exact .inl (by simpa [St.dZ] using h1)
  ·refine .inr ⟨d,x,hd,?_,hx⟩
   rcases h1 with h1 | h1
   ·left
    have h1:pre++s.ae=[.put d x]++s.ae:=h1
    exact List.append_cancel_right h1
   ·right
    have h1:pre++s.ae=[.put d x,.kill d]++s.ae:=h1
    exact List.append_cancel_right h1
 ·rcases h2 with h2 | ⟨k,cs,h2,hx⟩
  ·exact .inl (by simpa [St.dZ] using h2)
  ·refine .inr ⟨k,cs,?_,hx⟩
   have h2:preB++s.boxes=[(k,cs)]++s.boxes:=h2
   exact List.append_cancel_right h2
theorem hU (d e:Nat) (l:aT):lk (.kill d :: l) e=(match lk l e with | .lp k off=>bif Nat.beq k d then .none else .lp k off | x=>x):=rfl
theorem uh {d e:Nat} {l:aT} (h:∀ off,lk l e≠.lp d off):lk (.kill d :: l) e=lk l e:=by
 rw [hU]
 split
 ·rename_i k off hk
  cases hb:Nat.beq k d with
  | true=>exact absurd (by rw [hk,Nat.eq_of_beq_eq_true hb]) (h off)
  | false=>rw [hk]; rfl
 ·rfl
theorem EF {d:Nat} {pre:aT} {preB:b8} {G:List GO} (cs:List AV) (JR:gr E s o (s.dZ pre preB G)) (cj:o.dst≠some d) (EG:∀ y∈o.op.operands,∀ off,bk E s.ae y≠.lp d off) :
  nt ((oG s d cs).dZ pre preB G) (oG (s.dZ pre preB G) d cs):=by
 obtain ⟨h1,h2⟩:=Dq JR
 refine ⟨funext fun e=>?_,funext fun k=>?_,rfl,rfl,rfl,rfl⟩
 ·show lk (pre++([.put d (.lp d 0),.kill d]++s.ae)) e=lk ([.put d (.lp d 0),.kill d]++(pre++s.ae)) e
  rcases h1 with rfl | ⟨d',x,hd,hp,hx⟩
  ·rfl
  ·have UI:d'≠d:=fun c=>cj (by rw [hd,c])
   have qB:∀ off,x≠.lp d off:=fun off c=>by
    rcases hx d off c with ⟨y,hy,eF,ho⟩ | ⟨_,h⟩
    ·exact EG y hy eF ho
    ·exact UI h.symm
   by_cases c1:d=e
   ·subst c1
    rcases hp with rfl | rfl
    ·simp only [List.cons_append,List.nil_append]
     rw [aH UI,ay,ay]
    ·simp only [List.cons_append,List.nil_append]
     rw [aH UI,ay,uh (fun off=>by rw [ay]; intro c; cases c; exact UI rfl),ay]
   ·simp only [List.cons_append,List.nil_append]
    rw [aH c1]
    by_cases c2:d'=e
    ·subst c2
     rcases hp with rfl | rfl
     ·simp only [List.cons_append,List.nil_append]
      rw [ay,uh (fun off=>by rw [ay]; exact qB off),ay]
     ·simp only [List.cons_append,List.nil_append]
      rw [ay,uh (fun off=>by rw [ay]; exact qB off),ay]
    ·rcases hp with rfl | rfl
     ·simp only [List.cons_append,List.nil_append]
      rw [aH c2,aH c1,hU,hU,aH c2]
     ·simp only [List.cons_append,List.nil_append]
      rw [aH c2,hU,aH c1,hU,hU,aH c2,hU]
      cases lk s.ae e with
      | lp k off=>cases hb:Nat.beq k d <;> cases Bf:Nat.beq k d' <;> simp [hb,Bf]
      | _=>rfl
 ·show cG (preB++([(d,cs)]++s.boxes)) k=cG ([(d,cs)]++(preB++s.boxes)) k
  rcases h2 with rfl | ⟨k',cs',rfl,hk⟩
  ·rfl
  ·have I9:k'≠d:=fun c=>by
    subst c
    rcases hk with ⟨_,hk⟩ | ⟨y,hy,off,ho⟩
    ·exact cj hk
    ·exact EG y hy off ho
   simp only [List.cons_append,List.nil_append,cG]
   cases hb:Nat.beq k' k with
   | true=>
    have:Nat.beq d k=false:=by
     cases Bf:Nat.beq d k with
     | true=>exact absurd ((Nat.eq_of_beq_eq_true hb).trans (Nat.eq_of_beq_eq_true Bf).symm) I9
     | false=>rfl
    rw [this]; rfl
   | false=>rfl
end
section
variable {E:Env} {s t:St} {f:FuncId} {o:Oper} {K K':St→Prop}
theorem Ch (hn:s.n=t.n) (hG:s.G=t.G) (hB:∀ k off,(∃ y∈o.op.operands,bk E s.ae y=.lp k off)→cG s.boxes k=cG t.boxes k) (dw:∀ y∈o.op.operands,bk E s.ae y=bk E t.ae y) (h:iR E f o K s)
  (hK:∀ pre preB G,gr E t o (t.dZ pre preB G)→K (s.dZ pre preB G)→K' (t.dZ pre preB G)):iR E f o K' t:=by
 unfold iR at h ⊢
 split at h
 ·rename_i x args tys ho
  have h1:bk E s.ae x=bk E t.ae x:=dw x (by rw [ho]; simp [Op.operands,Call.operands])
  have h2:kr E s.ae args.toList=kr E t.ae args.toList:=fc fun y hy=>dw y (by rw [ho]; simp [Op.operands,Call.operands]; exact .inr (by simpa using hy))
  try simp only [ho]
  rw [← h1,← h2,← hG]
  split at h
  ·refine bU.mono h fun r G' hk=>?_
   obtain ⟨pre,preB,G,p1,p2,p3,p4⟩:=bw.cJ (s:=s) (t:=t) (al:=bE o.op) hn G' o.dst (.v r)
   rw [p3] at hk
   have hO:gr E t o ((t.bL G').put o.dst (.v r)):=jl rfl rfl _
   rw [p4] at hO ⊢
   exact hK pre preB G hO hk
  ·refine jj.mono h fun r G' hk=>?_
   obtain ⟨pre,preB,G,p1,p2,p3,p4⟩:=bw.cJ (s:=s) (t:=t) (al:=bE o.op) hn G' o.dst (.v (.bool r))
   rw [p3] at hk
   have hO:gr E t o ((t.bL G').put o.dst (.v (.bool r))):=jl rfl rfl _
   rw [p4] at hO ⊢
   exact hK pre preB G hO hk
  ·exact h.elim
 ·exact h.elim
 ·split at h
  ·rename_i c s' hs
   obtain ⟨t',h1,pre,preB,G,p1,p2,p3,p4⟩:=pT hn hG hB dw hs
   have hO:=Cf h1
   rw [h1]
   obtain ⟨rfl,hk⟩:=h.out
   refine cL.mk rfl ?_
   rw [p3] at hk
   rw [p4] at hO ⊢
   exact hK pre preB G hO hk
  ·exact h.elim
theorem Dr (ha:bE o.op=true):iR E f o K s↔∃ s',ap E f s o=some (true,s')∧K s':=by
 unfold iR
 split
 ·rename_i h
  rw [h] at ha
  simp [bE] at ha
 ·rename_i h
  rw [h] at ha
  simp [bE] at ha
 ·split
  ·rename_i c s' hs
   constructor
   ·intro h
    obtain ⟨rfl,hk⟩:=h.out
    exact ⟨s',hs,hk⟩
   ·rintro ⟨zB,h1,h2⟩
    rw [hs] at h1
    cases h1
    exact cL.mk rfl h2
  ·rename_i hs
   constructor
   ·exact fun h=>h.elim
   ·rintro ⟨zB,h1,_⟩
    rw [hs] at h1
    cases h1
end
end Go.Am
