/- The abstract machine: a function's contract out of its body. -/
import Derived.Test.YtldcljfjjoidhaaGreatDoorAmKF
import Derived.OrdersIn
set_option linter.all false
namespace Go.Am
open Go
section intro
variable {E:Env} {R R':ak} {w w':World} {β β':Nat→Nat}
theorem uW {bx Hh:cp} (h:Step R w β bx R' w' β' Hh) (hn:∀ k cs,dc bx k≠some cs):Step R w (fun _=>0) eu R' w' (fun _=>0) eu:=by
 have own:∀ b,Own R β bx b→Live R b:=fun b ho=>by
  rcases ho with ho | ⟨k,cs,hk,_⟩
  ·exact ho
  ·exact absurd hk (hn k cs)
 exact ⟨h.ext,h.os,h.tape,h.output,h.size,fun b hb rH=>h.bo b hb (fun ho=>rH (.inl (own b ho))),fun b hb ho=>.inl (own b (h.own b hb (.inl (dS ho)))),fun b o hi hb rH=>h.im b o hi hb (fun ho=>rH (.inl (own b ho)))⟩
theorem HW:∀ {l:List AV} {n i:Nat},(i < n∨n+l.length≤i→lk (Ug n l) i=.none)∧(∀ a,l[i - n]?=some a→n≤i→lk (Ug n l) i=.v a)
 | [],n,i=>⟨fun _=>rfl,fun a h=>by simp at h⟩
 | b :: l,n,i=>by
  obtain ⟨h1,h2⟩:=HW (l:=l) (n:=n+1) (i:=i)
  refine ⟨fun h=>?_,fun a h hn=>?_⟩
  ·simp only [List.length_cons] at h
   simp only [Ug]
   rw [aK (by omega)]
   exact h1 (by omega)
  ·simp only [Ug]
   by_cases e:n=i
   ·subst e
    rw [ax]
    simp at h
    rw [h]
   ·rw [aK e]
    refine h2 a ?_ (by omega)
    have:i - n=(i - (n+1))+1:=by omega
    rw [this] at h
    simpa using h
theorem HX {ntmps:Nat} {args:List AV} {cs:List Value} {G:List GO} (hg:cW E R w G) (hl:aG R w args cs) :
  ba E R w (fun _=>0) (St.init ntmps args G) { tmps:=⟨cs⟩++Array.replicate (ntmps - (⟨cs⟩:Array Value).size) undef,defers:=[] }:=by
 have hlen:=hl.length
 refine ⟨hg,⟨fun k c hk=>?_,fun k k' c c' hk _ _=>?_⟩,fun i hi=>?_,?_,trivial⟩
 ·simp [St.init,dc] at hk
 ·simp [St.init,dc] at hk
 ·simp only [St.init] at hi ⊢
  obtain ⟨h1,h2⟩:=HW (l:=args) (n:=0) (i:=i)
  by_cases bP:i < args.length
  ·have hy:args[i]?=some args[i]:=List.getElem?_eq_getElem bP
   obtain ⟨c,k1,k2⟩:=hl.get hy
   rw [h2 _ (by rw [Nat.sub_zero]; exact hy) (Nat.zero_le _)]
   refine ⟨c,?_,k2⟩
   rw [Array.getElem?_append_left (by simp; omega)]
   simpa using k1
  ·exact absurd (h1 (by omega)) hi
 ·simp [St.init]
  omega
theorem C8 {ntmps:Nat} {args:List AV} {G:List GO} (k:Nat) (cs:List AV):dc (St.init ntmps args G).boxes k≠some cs:=by
 simp [St.init,dc]
theorem cj.intro {g : FuncId} {fn : Func} {c : Code} {args : List AV} {G : List GO} {Q : AV → List GO → Prop} (hf : E.P.funcs[g]? = some fn) (hb : fn.body = some c) (hn : (fn.name == "runtime.NumGoroutine") = false)
  (h:e7 E c (PG E fn Q) (St.init fn.ntmps args G)):cj E g args G Q:=by
 refine ⟨⟨fn,hf,by simp [hb],hn⟩,fun R w cs hg hl=>?_⟩
 refine callsIn_of_wp_marks hf hb trivial (wpIn_mono (h R w (fun _=>0) _ Fence.wide (HX hg hl) rfl) ?_)
 rintro e a' w' ⟨s',R',β',hq,hr,ke,bL⟩
 have fin:(match nh s'.marks s'.G with
  | some G=>match HT E (s'.bW G) fn with
   | some r=>Q r G
   | none=>False
  | none=>False)→LeavesInM Fence.wide 0 E.P fn a'.tmps (EB E R w Q) a'.defers .returning w':=by
  intro hq
  split at hq
  ·rename_i G2 Vu
   split at hq
   ·rename_i r C9
    refine F3 fn (EB E R w Q) (s:=s') (G:=s'.G) hr hr.d Vu (fun Pz zj sL=>?_)
    obtain ⟨v,h1,h2⟩:=HV zj C9
    exact ⟨v,h1,r,G2,R',hq,h2,zj.g,uW (ke.trans sL) C8⟩
   ·exact hq.elim
  ·exact hq.elim
 cases e with
 | normal=>exact fin hq
 | ret=>exact fin hq
 | exit _=>exact hq.elim
 | goto _=>exact hq.elim
 | panic _=>exact hq.elim
 | outgrown=>exact hq.elim
end intro
end Go.Am
namespace Go.Am
open Go
def St.eC (s:St) (pre:a6) (preB:cp) (G:List GO):St:=⟨pre++s.ae,preB++s.boxes,G,s.marks,s.ro,s.n⟩
def Uh (al:Bool) (dst:Option Tmp) (pre:a6):Prop:=
 pre=[]∨∃ d x,dst=some d∧(pre=[.put d x]∨(al=true∧pre=[.put d x,.kill d]))
def bI (al w:Bool) (dst:Option Tmp) (s t s' t':St):Prop:=
 ∃ pre preB G,Uh al dst pre∧(w=false→preB=[]∧G=s.G∧∃ x,s'=s.put dst x∧t'=t.put dst x)∧s'=s.eC pre preB G∧t'=t.eC pre preB G
section
variable {E:Env} {s t:St} {o:Oper}
theorem ku (s:St) (d:Tmp) (x:SV):s.put (some d) x=bif Nat.blt d s.n then s.eC [.put d x] [] s.G else s:=by
 cases h:Nat.blt d s.n <;> simp [St.put,h,St.eC]
theorem bI.put {al w:Bool} (hn:s.n=t.n) (hG:s.G=t.G) (dst:Option Tmp) (x:SV):bI al w dst s t (s.put dst x) (t.put dst x):=by
 cases dst with
 | none=>exact ⟨[],[],s.G,.inl rfl,fun _=>⟨rfl,rfl,x,rfl,rfl⟩,rfl,by rw [hG]; rfl⟩
 | some d=>
  have hx:∃ y,s.put (some d) x=s.put (some d) y∧t.put (some d) x=t.put (some d) y:=⟨x,rfl,rfl⟩
  revert hx
  generalize hs:s.put (some d) x=s'
  generalize ht:t.put (some d) x=t'
  intro hx
  rw [ku] at hs ht
  rw [← hn] at ht
  revert hs ht
  cases Nat.blt d s.n with
  | true=>exact fun hs ht=>⟨[.put d x],[],s.G,.inr ⟨d,x,rfl,.inl rfl⟩,fun _=>⟨rfl,rfl,hx⟩,hs.symm,by rw [hG]; exact ht.symm⟩
  | false=>exact fun hs ht=>⟨[],[],s.G,.inl rfl,fun _=>⟨rfl,rfl,hx⟩,hs.symm,by rw [hG]; exact ht.symm⟩
theorem bI.cX {al:Bool} (hn:s.n=t.n) (G:List GO) (dst:Option Tmp) (x:SV):bI al true dst s t ((s.bW G).put dst x) ((t.bW G).put dst x):=by
 cases dst with
 | none=>exact ⟨[],[],G,.inl rfl,fun h=>(by cases h),rfl,rfl⟩
 | some d=>
  rw [ku,ku,show (t.bW G).n=(s.bW G).n from hn.symm]
  cases Nat.blt d (s.bW G).n with
  | true=>exact ⟨[.put d x],[],G,.inr ⟨d,x,rfl,.inl rfl⟩,fun h=>(by cases h),rfl,rfl⟩
  | false=>exact ⟨[],[],G,.inl rfl,fun h=>(by cases h),rfl,rfl⟩
theorem bI.bW {al:Bool} (G:List GO) (dst:Option Tmp):bI al true dst s t (s.bW G) (t.bW G):=⟨[],[],G,.inl rfl,fun h=>(by cases h),rfl,rfl⟩
theorem bI.tf {al:Bool} (hG:s.G=t.G) (dst:Option Tmp) (d:Nat) (cs:List AV):bI al true dst s t (s.tf d cs) (t.tf d cs):=
 ⟨[],[(d,cs)],s.G,.inl rfl,fun h=>(by cases h),rfl,(by rw [hG]; rfl)⟩
theorem ft {a b:a6}:∀ {l:List Operand},(∀ y∈l,bw E a y=bw E b y)→kQ E a l=kQ E b l
 | [],_=>rfl
 | x :: l,h=>by
  simp only [kQ]
  rw [h x (by simp),ft (l:=l) (fun y hy=>h y (by simp [hy]))]
theorem ln {a b:a6}:∀ {l:List (Nat × Operand)},(∀ p∈l,bw E a p.2=bw E b p.2)→KX E a l=KX E b l
 | [],_=>rfl
 | (i,x) :: l,h=>by
  simp only [KX]
  rw [h (i,x) (by simp),ln (l:=l) (fun y hy=>h y (by simp [hy]))]
theorem xi (hG:s.G=t.G) (p:SV) (hB:∀ k off,p=.lp k off→dc s.boxes k=dc t.boxes k):lH s p=lH t p:=by
 unfold lH
 rw [hG]
 cases p with
 | lp k off=>simp only [hB k off rfl]
 | v a=>cases a <;> rfl
 | _=>rfl
theorem AX (hG:s.G=t.G) (ty:TypeId) (p:SV) (hB:∀ k off,p=.lp k off→dc s.boxes k=dc t.boxes k):pZ E s ty p=pZ E t ty p:=by
 unfold pZ
 rw [xi hG p hB]
theorem sM (hG:s.G=t.G) (id f i sz:Nat) (ty:TypeId):ui E s id f i sz ty=ui E t id f i sz ty:=by
 unfold ui
 rw [hG]
theorem AY (hG:s.G=t.G) (ty:TypeId) (p:SV) (hB:∀ k off,p=.lp k off→dc s.boxes k=dc t.boxes k):xF E s ty p=xF E t ty p:=by
 unfold xF
 split
 ·rw [sM hG]
 ·rw [AX hG _ _ hB]
theorem AZ (hG:s.G=t.G) (esz:Nat) (d x:AV):p9 s esz d x=p9 t esz d x:=by
 unfold p9
 rw [hG]
theorem sN {f:FuncId} {dst:Option Tmp} {el:TypeId} {cs:List AV} {c:Bool} {s':St} (hn:s.n=t.n) (hG:s.G=t.G) (h:ef E f s dst el cs=some (c,s')) :
  ∃ t',ef E f t dst el cs=some (c,t')∧bI true true dst s t s' t':=by
 unfold ef at *
 cases dst with
 | none=>cases h
 | some d=>
  simp only at *
  split at h
  ·rename_i hg
   injection h with h
   injection h with h1 h2
   subst h1 h2
   rw [if_pos hg]
   refine ⟨_,rfl,?_⟩
   have:=bI.cX (al:=true) hn (s.G++[.row cs el]) (some d) (.v (.ptr s.G.length 0))
   rw [hG] at this
   have e:s.dw (.row cs el)=s.bW (t.G++[.row cs el]):=by rw [← hG]; rfl
   rw [e,hG]
   exact this
  ·rename_i hg
   rw [if_neg hg,← hn]
   split at h
   ·rename_i hb
    injection h with h
    injection h with h1 h2
    subst h1 h2
    refine ⟨_,rfl,[.put d (.lp d 0),.kill d],[(d,cs)],s.G,.inr ⟨d,_,rfl,.inr ⟨rfl,rfl⟩⟩,fun h=>(by cases h),?_,?_⟩
    ·simp [St.put,St.tf,St.kill,hb,St.eC]
    ·simp only [St.put,St.tf,St.kill,← hn,hb,St.eC,hG]
     rfl
   ·cases h
theorem A0 {ty:TypeId} {p x:SV} {s':St} {al:Bool} {dst:Option Tmp} (hG:s.G=t.G) (hB:∀ k off,p=.lp k off→dc s.boxes k=dc t.boxes k) (h:iP E s ty p x=some s') :
  ∃ t',iP E t ty p x=some t'∧bI al true dst s t s' t':=by
 unfold iP at *
 split at h
 ·split at h
  ·rename_i hc
   rw [if_pos hc]
   split at h
   ·rw [← hB _ _ rfl]
    split at h
    ·split at h
     ·rename_i Ly
      cases h
      simp only [Ly,if_true]
      exact ⟨_,rfl,.tf hG _ _ _⟩
     ·cases h
    ·cases h
   ·rw [← hG]
    split at h
    ·split at h
     ·rename_i Ly
      cases h
      simp only [Ly,if_true]
      exact ⟨_,rfl,.bW _ _⟩
     ·cases h
    ·cases h
   ·cases h
  ·cases h
 ·cases h
theorem A1 {ty:TypeId} {p x:SV} {c:Bool} {s':St} {al:Bool} {dst:Option Tmp} (hG:s.G=t.G) (hB:∀ k off,p=.lp k off→dc s.boxes k=dc t.boxes k) (h:iQ E s ty p x=some (c,s')) :
  ∃ t',iQ E t ty p x=some (c,t')∧bI al true dst s t s' t':=by
 unfold iQ at *
 split at h
 ·rw [← hG]
  split at h
  ·split at h
   ·rename_i h1 h2 hc
    simp only [hc,if_true]
    split at h
    ·rename_i Ly
     injection h with h; injection h with e1 e2
     subst e1; subst e2
     simp only [Ly,if_true]
     exact ⟨_,rfl,.bW _ _⟩
    ·rename_i Ly
     rw [if_neg Ly,← sM hG]
     split at h
     ·rename_i hg
      split at h
      ·rename_i hc3
       injection h with h; injection h with e1 e2
       subst e1; subst e2
       simp only [hc3,if_true]
       exact ⟨_,rfl,.bW _ _⟩
      ·cases h
     ·cases h
   ·cases h
  ·cases h
 ·split at h
  ·rename_i s1 hs
   injection h with h; injection h with e1 e2
   subst e1; subst e2
   obtain ⟨t',h3,h4⟩:=A0 (al:=al) (dst:=dst) hG hB hs
   simp only [h3]
   exact ⟨_,rfl,h4⟩
  ·cases h
def bN:Op→Bool
 | .alloc _=>true
 | .box _ _=>true
 | _=>false
def q7:Op→Bool
 | .move _ | .assign _ | .pick _ _ _ | .build _ _ | .buildSlice _ _ _ | .load _ _ | .binOp _ _ _ _ _ | .unOp _ _ _ | .convert _ _ _ | .makeFunc _ _ _ | .fieldAddr _ _ _ | .field _ _ _
 | .indexAddr _ _ _ | .index _ _ _ | .slice _ _ _ _ _ | .extract _ _ | .lookup _ _ _ _ | .nilCheck _=>true
 | .call { callee:=.builtin .len,.. }=>true
 | .call { callee:=.builtin .max,.. }=>true
 | .call { callee:=.builtin .min,.. }=>true
 | _=>false
def Q2:Op→Bool
 | .load _ _=>true
 | .lookup _ _ _ _=>true
 | .call _=>true
 | .convert _ _ _=>true
 | _=>false
def Lz:Builtin→Bool
 | .append | .copy | .clear=>true
 | _=>false
theorem xj {dst:Option Tmp} {b:Builtin} {l:List AV} {tys:List TypeId} {c:Bool} {s':St} {al:Bool} (hn:s.n=t.n) (hG:s.G=t.G) (h:bJ E s dst b l tys=some (c,s')) :
  ∃ t',bJ E t dst b l tys=some (c,t')∧bI al (Lz b) dst s t s' t':=by
 obtain ⟨sl,bx,G,m,ro,n⟩:=s
 obtain ⟨Ui,Hh,G',m',kR,n'⟩:=t
 have hc:=fun esz d x=>AZ (s:=⟨sl,bx,G,m,ro,n⟩) (t:=⟨Ui,Hh,G',m',kR,n'⟩) hG esz d x
 simp only at hn hG
 subst hn hG
 unfold bJ at h ⊢
 simp only [← hc]
 cases b
 all_goals (try (cases h; done))
 all_goals (try simp only at h ⊢)
 all_goals (try (split at h <;> first | (cases h; done) | simp only at h ⊢))
 all_goals (repeat' (split at h))
 all_goals (first | (cases h; done) | skip)
 all_goals (injection h with h; injection h with h1 h2; subst h1 h2)
 all_goals (try simp only [if_true, *])
 all_goals (first | exact ⟨_,rfl,.put (by rfl) (by rfl) _ _⟩ | exact ⟨_,rfl,.cX (by rfl) _ _ _⟩ | exact ⟨_,rfl,.bW _ _⟩)
theorem uX (hG:s.G=t.G) (a b:TypeId) (x:SV):kX E s a b x=kX E t a b x:=by
 unfold kX
 rw [hG]
theorem xl (hG:s.G=t.G) (ty:TypeId) (m k:SV):kn E s ty m k=kn E t ty m k:=by
 have:mapOf s=mapOf t:=by funext m; unfold mapOf; rw [hG]
 unfold kn ij
 rw [this,hG]
theorem qA {ty:TypeId} {m k x:SV} {s':St} {al:Bool} {dst:Option Tmp} (hG:s.G=t.G) (h:eh E s ty m k x=some s') :
  ∃ t',eh E t ty m k x=some t'∧bI al true dst s t s' t':=by
 unfold eh at *
 rw [← hG]
 repeat' (split at h)
 all_goals (first | (cases h; done) | skip)
 cases h
 simp only [*]
 exact ⟨_,rfl,.bW _ _⟩
theorem Da {dst:Option Tmp} {x:SV} {s':St} {al:Bool} (hn:s.n=t.n) (hG:s.G=t.G) (h:ko s dst x=some s') :
  ∃ t',ko t dst x=some t'∧bI al true dst s t s' t':=by
 unfold ko at *
 rw [← hG]
 split at h
 ·split at h
  ·rename_i l pos hg
   cases hb:Nat.blt pos l.length with
   | true=>
    rw [hb] at h
    simp only [cond_true] at h ⊢
    cases h
    exact ⟨_,rfl,.cX hn _ _ _⟩
   | false=>
    rw [hb] at h
    simp only [cond_false] at h ⊢
    cases h
    obtain ⟨pre,preB,G,p1,p2,p3⟩:=bI.put (al:=al) (w:=true) hn hG dst (.v (.bg [.bool false]))
    exact ⟨_,rfl,pre,preB,G,p1,p2,p3⟩
  ·cases h
 ·cases h
theorem lZ {f:FuncId} {r:Bool × St} (h:fL E f s o=some r):∃ args tys,o.op=.call { callee:=.builtin .append,args:=args,argTypes:=tys }:=by
 unfold fL at h
 split at h
 ·split at h
  ·split at h
   ·rename_i args tys ho
    exact ⟨args,tys,ho⟩
   ·cases h
  ·cases h
 ·cases h
theorem uY {f:FuncId} {c:Bool} {s':St} {al:Bool} (hn:s.n=t.n) (hG:s.G=t.G) (dJ:∀ y∈o.op.operands,bw E s.ae y=bw E t.ae y)
  (h:fL E f s o=some (c,s')):∃ t',fL E f t o=some (c,t')∧bI al true o.dst s t s' t':=by
 obtain ⟨args,tys,ho⟩:=lZ h
 have h1:kQ E s.ae args.toList=kQ E t.ae args.toList:=ft fun y hy=>dJ y (by rw [ho]; simp [Op.operands,Call.operands]; simpa using hy)
 unfold fL at h ⊢
 rw [ho] at h ⊢
 simp only [h1,hG] at h ⊢
 repeat' (split at h)
 all_goals (first | (cases h; done) | skip)
 injection h with h; injection h with h2 h3
 subst h2 h3
 simp only [*,if_true]
 refine ⟨_,rfl,?_⟩
 exact bI.cX hn _ _ _
theorem tx {f:FuncId} (hn:s.n=t.n) (hG:s.G=t.G) (dJ:∀ y∈o.op.operands,bw E s.ae y=bw E t.ae y) (h:fL E f s o=none):fL E f t o=none:=by
 cases ht:fL E f t o with
 | none=>rfl
 | some r=>
  obtain ⟨t',h1,_⟩:=uY (s:=t) (t:=s) (al:=false) hn.symm hG.symm (fun y hy=>(dJ y hy).symm) (c:=r.1) (s':=r.2) ht
  rw [h] at h1
  cases h1
theorem qB {f:FuncId} {c:Bool} {s':St} (hn:s.n=t.n) (hG:s.G=t.G) (hB:∀ k off,(∃ y∈o.op.operands,bw E s.ae y=.lp k off)→dc s.boxes k=dc t.boxes k) (dJ:∀ y∈o.op.operands,bw E s.ae y=bw E t.ae y)
  (h:ap E f s o=some (c,s')):∃ t',ap E f t o=some (c,t')∧bI (bN o.op) (!q7 o.op) o.dst s t s' t':=by
 obtain ⟨dst,op,ty,pos,after,guard⟩:=o
 cases op
 case move x=>
  simp only [ap,dJ x (by simp [Op.operands])] at h ⊢
  split at h
  all_goals (injection h with h; injection h with h1 h2; subst h1 h2; (try simp only [*]); exact ⟨_,rfl,.put hn hG _ _⟩)
 case assign x=>
  simp only [ap,dJ x (by simp [Op.operands])] at h ⊢
  split at h
  all_goals (injection h with h; injection h with h1 h2; subst h1 h2; (try simp only [*]); exact ⟨_,rfl,.put hn hG _ _⟩)
 case pick x y z=>
  simp only [ap,dJ x (by simp [Op.operands]),dJ y (by simp [Op.operands]),dJ z (by simp [Op.operands])] at h ⊢
  split at h
  ·injection h with h; injection h with h1 h2; subst h1 h2; (try simp only [*]); exact ⟨_,rfl,.put hn hG _ _⟩
  ·cases h
 case alloc e=>
  simp only [ap] at h ⊢
  repeat' (split at h)
  all_goals (first | (cases h; done) | skip)
  simp only [*]
  exact sN hn hG h
 case box e x=>
  simp only [ap,dJ x (by simp [Op.operands])] at h ⊢
  repeat' (split at h)
  all_goals (first | (cases h; done) | skip)
  simp only [*]
  exact sN hn hG h
 case build ty ps=>
  have he:lI E s ty ps.toList=lI E t ty ps.toList:=by
   unfold lI
   rw [ln (fun p hp=>dJ p.2 (by simp only [Op.operands,List.mem_toArray,List.mem_map]; exact ⟨p,hp,rfl⟩))]
  simp only [ap,he] at h ⊢
  split at h
  ·injection h with h; injection h with h1 h2; subst h1 h2; (try simp only [*]); exact ⟨_,rfl,.put hn hG _ _⟩
  ·cases h
 case buildSlice ty len ps=>
  have he:bX E s ty len ps.toList=bX E t ty len ps.toList:=by
   unfold bX
   rw [ln (fun p hp=>dJ p.2 (by simp only [Op.operands,List.mem_toArray,List.mem_map]; exact ⟨p,hp,rfl⟩))]
  simp only [ap,he] at h ⊢
  split at h
  ·injection h with h; injection h with h1 h2; subst h1 h2; (try simp only [*]); exact ⟨_,rfl,.put hn hG _ _⟩
  ·cases h
 case load ty x=>
  simp only [ap,dJ x (by simp [Op.operands])] at h ⊢
  rw [AY hG ty _ (fun k off e=>hB k off ⟨x,by simp [Op.operands],by rw [dJ x (by simp [Op.operands])]; exact e⟩)] at h
  split at h
  ·injection h with h; injection h with h1 h2; subst h1 h2; (try simp only [*]); exact ⟨_,rfl,.put hn hG _ _⟩
  ·cases h
 case store ty x y=>
  simp only [ap,dJ x (by simp [Op.operands]),dJ y (by simp [Op.operands])] at h ⊢
  split at h
  ·rename_i s1 hs
   injection h with h; injection h with h1 h2; subst h1 h2
   obtain ⟨t',h3,h4⟩:=A1 (al:=false) (dst:=none) hG (fun k off e=>hB k off ⟨x,by simp [Op.operands],by rw [dJ x (by simp [Op.operands])]; exact e⟩) hs
   rw [h3]
   exact ⟨_,rfl,h4⟩
  ·cases h
 case binOp op a x y b=>
  simp only [ap,dJ x (by simp [Op.operands]),dJ y (by simp [Op.operands])] at h ⊢
  repeat' (split at h)
  all_goals (first | (cases h; done) | skip)
  all_goals (injection h with h; injection h with h1 h2; subst h1 h2; (try simp only [*]); exact ⟨_,rfl,.put hn hG _ _⟩)
 case unOp op a x=>
  simp only [ap,dJ x (by simp [Op.operands])] at h ⊢
  repeat' (split at h)
  all_goals (first | (cases h; done) | skip)
  all_goals (injection h with h; injection h with h1 h2; subst h1 h2; (try simp only [*]); exact ⟨_,rfl,.put hn hG _ _⟩)
 case nilCheck x=>
  simp only [ap,dJ x (by simp [Op.operands])] at h ⊢
  repeat' (split at h)
  all_goals (first | (cases h; done) | skip)
  all_goals (injection h with h; injection h with h1 h2; subst h1 h2; (try simp only [*]); exact ⟨_,rfl,.put hn hG _ _⟩)
 case convert a b x=>
  simp only [ap,dJ x (by simp [Op.operands]),uX hG] at h ⊢
  repeat' (split at h)
  all_goals (first | (cases h; done) | skip)
  all_goals (injection h with h; injection h with h1 h2; subst h1 h2; (try simp only [*]); exact ⟨_,rfl,.put hn hG _ _⟩)
 case makeFunc fo a b=>
  cases fo with
  | func g=>
   have h1:kQ E s.ae a.toList=kQ E t.ae a.toList:=ft fun y hy=>dJ y (by simp only [Op.operands,Array.mem_append]; exact .inl (by simpa using hy))
   have h2:kQ E s.ae b.toList=kQ E t.ae b.toList:=ft fun y hy=>dJ y (by simp only [Op.operands,Array.mem_append]; exact .inr (by simpa using hy))
   simp only [ap,h1,h2] at h ⊢
   repeat' (split at h)
   all_goals (first | (cases h; done) | skip)
   all_goals (injection h with h; injection h with h1 h2; subst h1 h2; (try simp only [*]); exact ⟨_,rfl,.put hn hG _ _⟩)
  | _=>simp [ap] at h
 case fieldAddr a x j=>
  simp only [ap,dJ x (by simp [Op.operands])] at h ⊢
  repeat' (split at h)
  all_goals (first | (cases h; done) | skip)
  all_goals (injection h with h; injection h with h1 h2; subst h1 h2; (try simp only [*]); exact ⟨_,rfl,.put hn hG _ _⟩)
 case field a x j=>
  simp only [ap,dJ x (by simp [Op.operands])] at h ⊢
  repeat' (split at h)
  all_goals (first | (cases h; done) | skip)
  all_goals (injection h with h; injection h with h1 h2; subst h1 h2; (try simp only [*]); exact ⟨_,rfl,.put hn hG _ _⟩)
 case indexAddr a x y=>
  simp only [ap,dJ x (by simp [Op.operands]),dJ y (by simp [Op.operands])] at h ⊢
  repeat' (split at h)
  all_goals (first | (cases h; done) | skip)
  all_goals (injection h with h; injection h with h1 h2; subst h1 h2; (try simp only [*]); exact ⟨_,rfl,.put hn hG _ _⟩)
 case index a x y=>
  simp only [ap,dJ x (by simp [Op.operands]),dJ y (by simp [Op.operands])] at h ⊢
  repeat' (split at h)
  all_goals (first | (cases h; done) | skip)
  all_goals (injection h with h; injection h with h1 h2; subst h1 h2; (try simp only [*]); exact ⟨_,rfl,.put hn hG _ _⟩)
 case slice a x lo hi mx=>
  have h1:lJ E s.ae lo=lJ E t.ae lo:=by
   cases lo with
   | none=>rfl
   | some y=>simp only [lJ]; rw [dJ y (by simp [Op.operands])]
  have h2:lJ E s.ae hi=lJ E t.ae hi:=by
   cases hi with
   | none=>rfl
   | some y=>simp only [lJ]; rw [dJ y (by simp [Op.operands])]
  simp only [ap,dJ x (by simp [Op.operands]),h1,h2] at h ⊢
  repeat' (split at h)
  all_goals (first | (cases h; done) | skip)
  all_goals (injection h with h; injection h with h1 h2; subst h1 h2; (try simp only [*]); exact ⟨_,rfl,.put hn hG _ _⟩)
 case extract x i=>
  simp only [ap,dJ x (by simp [Op.operands])] at h ⊢
  repeat' (split at h)
  all_goals (first | (cases h; done) | skip)
  all_goals (injection h with h; injection h with h1 h2; subst h1 h2; (try simp only [*]); exact ⟨_,rfl,.put hn hG _ _⟩)
 case makeSlice ty x y=>
  simp only [ap,dJ x (by simp [Op.operands]),dJ y (by simp [Op.operands])] at h ⊢
  repeat' (split at h)
  all_goals (first | (cases h; done) | skip)
  all_goals (injection h with h; injection h with h1 h2; subst h1 h2)
  all_goals (simp only [*])
  all_goals (refine ⟨_,rfl,?_⟩)
  all_goals (have e:∀ o,t.dw o=t.bW (s.G++[o]):=fun o=>by rw [hG]; rfl)
  all_goals (rw [e,← hG])
  all_goals (exact bI.cX (al:=false) hn _ dst _)
 case lookup ty x y ok=>
  simp only [ap,dJ x (by simp [Op.operands]),dJ y (by simp [Op.operands]),xl hG] at h ⊢
  split at h
  ·injection h with h; injection h with h1 h2; subst h1 h2; (try simp only [*]); exact ⟨_,rfl,.put hn hG _ _⟩
  ·cases h
 case mapUpdate ty x y z=>
  simp only [ap,dJ x (by simp [Op.operands]),dJ y (by simp [Op.operands]),dJ z (by simp [Op.operands])] at h ⊢
  split at h
  ·rename_i s1 hs
   injection h with h; injection h with h1 h2; subst h1 h2
   obtain ⟨t',h3,h4⟩:=qA (al:=false) (dst:=none) hG hs
   rw [h3]
   exact ⟨_,rfl,h4⟩
  ·cases h
 case insert ty x y z=>
  simp only [ap,dJ x (by simp [Op.operands]),dJ y (by simp [Op.operands]),dJ z (by simp [Op.operands])] at h ⊢
  split at h
  ·rename_i s1 hs
   injection h with h; injection h with h1 h2; subst h1 h2
   obtain ⟨t',h3,h4⟩:=qA (al:=false) (dst:=none) hG hs
   rw [h3]
   exact ⟨_,rfl,h4⟩
  ·cases h
 case entry x=>
  simp only [ap,dJ x (by simp [Op.operands])] at h ⊢
  have e:rn E s (bw E t.ae x)=rn E t (bw E t.ae x):=by unfold rn; rw [hG]
  rw [e] at h
  split at h
  ·injection h with h; injection h with h1 h2; subst h1 h2; (try simp only [*]); exact ⟨_,rfl,.put hn hG _ _⟩
  ·cases h
 case mapEntry ty x y=>
  simp only [ap,dJ x (by simp [Op.operands]),dJ y (by simp [Op.operands])] at h ⊢
  unfold fj at h ⊢
  rw [← hG]
  repeat' (split at h)
  all_goals (first | (cases h; done) | skip)
  rename_i iZ
  repeat' (split at iZ)
  all_goals (first | (cases iZ; done) | skip)
  injection iZ with iZ; injection iZ with h3 iZ; injection iZ with h4 h5
  injection h with h; injection h with h1 h2; subst h1 h2 h3 h4 h5
  simp only [*,if_true]
  exact ⟨_,rfl,bI.cX (al:=false) hn _ dst _⟩
 case entryStore ty x y z=>
  simp only [ap,dJ x (by simp [Op.operands]),dJ y (by simp [Op.operands]),dJ z (by simp [Op.operands])] at h ⊢
  unfold dH at h ⊢
  rw [← hG]
  repeat' (split at h)
  all_goals (first | (cases h; done) | skip)
  rename_i iZ
  repeat' (split at iZ)
  all_goals (first | (cases iZ; done) | skip)
  injection iZ with iZ; injection iZ with h3 h5
  injection h with h; injection h with h1 h2; subst h1 h2 h3 h5
  simp only [*]
  exact ⟨_,rfl,.bW _ _⟩
 case range ty x=>
  simp only [ap,dJ x (by simp [Op.operands])] at h ⊢
  repeat' (split at h)
  all_goals (first | (cases h; done) | skip)
  ·injection h with h; injection h with h1 h2; subst h1 h2
   (try simp only [*])
   refine ⟨_,rfl,?_⟩
   have e:∀ o,t.dw o=t.bW (s.G++[o]):=fun o=>by rw [hG]; rfl
   rw [e,← hG]
   exact bI.cX (al:=false) hn _ dst _
  ·rename_i hk hg
   injection h with h; injection h with h1 h2; subst h1 h2
   have po:=hg
   rw [hG] at po
   simp only [hk,po]
   refine ⟨_,rfl,?_⟩
   have e:∀ o,t.dw o=t.bW (s.G++[o]):=fun o=>by rw [hG]; rfl
   rw [e,← hG]
   exact bI.cX (al:=false) hn _ dst _
 case next x b=>
  cases b with
  | false=>simp [ap] at h
  | true=>
   simp only [ap,dJ x (by simp [Op.operands])] at h ⊢
   split at h
   ·rename_i s1 hs
    injection h with h; injection h with h1 h2; subst h1 h2
    obtain ⟨t',h3,h4⟩:=Da (al:=false) hn hG hs
    rw [h3]
    exact ⟨_,rfl,h4⟩
   ·cases h
 case makeMap ty r=>
  cases r with
  | none=>
   simp only [ap] at h ⊢
   injection h with h; injection h with h1 h2; subst h1 h2
   refine ⟨_,rfl,?_⟩
   have:=bI.cX (al:=false) hn (s.G++[.map []]) dst (.v (.map s.G.length))
   have e:∀ o,t.dw o=t.bW (s.G++[o]):=fun o=>by rw [hG]; rfl
   rw [e,← hG]
   exact this
  | some _=>simp [ap] at h
 case call cl=>
  obtain ⟨callee,args,tys⟩:=cl
  cases callee with
  | builtin b=>
   have h1:kQ E s.ae args.toList=kQ E t.ae args.toList:=ft fun y hy=>dJ y (by simp [Op.operands,Call.operands]; simpa using hy)
   cases hf:fL E f s { dst:=dst,op:=.call { callee:=.builtin b,args:=args,argTypes:=tys },type:=ty,pos:=pos,after:=after,guard:=guard } with
   | some r=>
    simp only [ap,hf] at h
    obtain ⟨t',q1,q2⟩:=uY (al:=bN (.call { callee:=.builtin b,args:=args,argTypes:=tys })) hn hG dJ (c:=r.1) (s':=r.2) hf
    cases h
    obtain ⟨a2,t2,ho⟩:=lZ hf
    cases ho
    refine ⟨t',by simp only [ap,q1],?_⟩
    exact q2
   | none=>
   have Vi:=tx hn hG dJ hf
   simp only [ap,hf,Vi,h1] at h ⊢
   split at h
   ·(try simp only [*])
    obtain ⟨t',h3,h4⟩:=xj (al:=false) hn hG h
    refine ⟨t',h3,?_⟩
    have:(!q7 (.call { callee:=.builtin b,args:=args,argTypes:=tys }))=Lz b∨Lz b=false:=by cases b <;> simp [q7,Lz]
    rcases this with this | this
    ·rw [this]; exact h4
    ·obtain ⟨pre,preB,G,p1,p2,p3⟩:=h4
     exact ⟨pre,preB,G,p1,fun _=>p2 this,p3⟩
   ·cases h
  | _=>simp [ap] at h
 all_goals (simp [ap] at h)
theorem gw {f:FuncId} {c:Bool} {s':St} (hn:s.n=t.n) (hG:s.G=t.G) (hB:dc s.boxes=dc t.boxes) (dJ:∀ y∈o.op.operands,bw E s.ae y=bw E t.ae y)
  (h:ap E f s o=some (c,s')):∃ t',ap E f t o=some (c,t')∧bI (bN o.op) (!q7 o.op) o.dst s t s' t':=
 qB hn hG (fun k _ _=>by rw [hB]) dJ h
end
end Go.Am
namespace Go.Am
open Go
structure n9 (s t:St):Prop where
 l:lk s.ae=lk t.ae
 b:dc s.boxes=dc t.boxes
 G:s.G=t.G
 m:s.marks=t.marks
 ro:s.ro=t.ro
 n:s.n=t.n
theorem n9.refl (s:St):n9 s s:=⟨rfl,rfl,rfl,rfl,rfl,rfl⟩
theorem n9.symm {s t:St} (h:n9 s t):n9 t s:=⟨h.l.symm,h.b.symm,h.G.symm,h.m.symm,h.ro.symm,h.n.symm⟩
theorem n9.trans {s t u:St} (h:n9 s t) (k:n9 t u):n9 s u:=⟨h.l.trans k.l,h.b.trans k.b,h.G.trans k.G,h.m.trans k.m,h.ro.trans k.ro,h.n.trans k.n⟩
theorem lq {a b:a6} {e:Nat} (h:lk a e=lk b e):∀ pre:a6,lk (pre++a) e=lk (pre++b) e
 | []=>h
 | .put d x :: pre=>by
  simp only [List.cons_append,lk]
  rw [lq h pre]
 | .kill d :: pre=>by
  simp only [List.cons_append,lk]
  rw [lq h pre]
theorem uZ {a b:cp} {e:Nat} (h:dc a e=dc b e):∀ pre:cp,dc (pre++a) e=dc (pre++b) e
 | []=>h
 | (d,x) :: pre=>by
  simp only [List.cons_append,dc]
  rw [uZ h pre]
theorem n9.eC {s t:St} (h:n9 s t) (pre:a6) (preB:cp) (G:List GO):n9 (s.eC pre preB G) (t.eC pre preB G):=
 ⟨funext fun e=>lq (by rw [h.l]) pre,funext fun e=>uZ (by rw [h.b]) preB,rfl,h.m,h.ro,h.n⟩
theorem HY {E:Env} {a b:a6} {x:Operand} (h:∀ t,x=.tmp t→lk a t=lk b t):bw E a x=bw E b x:=by
 cases x with
 | tmp t=>exact h t rfl
 | _=>rfl
theorem n9.bw {E:Env} {s t:St} (h:n9 s t) (x:Operand):bw E s.ae x=bw E t.ae x:=HY fun e _=>by rw [h.l]
section Ah
variable {E:Env} {R:ak} {w:World} {β:Nat→Nat} {s t:St} {a:Act}
theorem ba.eqv (h:ba E R w β s a) (e:n9 s t):ba E R w β t a where
 g:=by rw [← e.G]; exact h.g
 b:=⟨fun k cs hk=>h.b.box k cs (by rw [e.b]; exact hk),fun k k' c c' h1 h2=>h.b.inj k k' c c' (by rw [e.b]; exact h1) (by rw [e.b]; exact h2)⟩
 t:=fun i hi=>by
  rw [← e.l] at hi ⊢
  exact h.t i hi
 n:=by rw [← e.n]; exact h.n
 d:=by rw [← e.m]; exact h.d
theorem tK {bx Hh:cp} (h:dc bx=dc Hh) {b:Nat} (k:Own R β bx b):Own R β Hh b:=by
 rcases k with k | ⟨j,cs,h1,h2⟩
 ·exact .inl k
 ·exact .inr ⟨j,cs,by rw [← h]; exact h1,h2⟩
theorem Step.eqv {R':ak} {w':World} {β':Nat→Nat} {bx Hh cx cx':cp} (h:Step R w β bx R' w' β' Hh) (h1:dc bx=dc cx) (h2:dc Hh=dc cx'):Step R w β cx R' w' β' cx':=
 ⟨h.ext,h.os,h.tape,h.output,h.size,fun b hb hn=>h.bo b hb (fun ho=>hn (tK h1 ho)),fun b hb ho=>tK h1 (h.own b hb (tK h2.symm ho)),fun b o hi hb hn=>h.im b o hi hb (fun ho=>hn (tK h1 ho))⟩
end Ah
section ops
variable {E:Env} {s t:St} {f:FuncId} {o:Oper} {K K':St→Prop}
def Inv (K:St→Prop):Prop:=∀ s t,n9 s t→K s→K t
theorem A2 {op:Op} (h:q7 op=true):bN op=false:=by
 cases op <;> simp_all [q7,bN]
theorem rN (hn:s.n=t.n) (hG:s.G=t.G) (hB:dc s.boxes=dc t.boxes) (dJ:∀ y∈o.op.operands,bw E s.ae y=bw E t.ae y) (h:jh E f o K s)
  (hK:∀ pre preB G,Uh (bN o.op) o.dst pre→(q7 o.op=true→preB=[]∧G=s.G)→K (s.eC pre preB G)→K' (t.eC pre preB G)):jh E f o K' t:=by
 unfold jh at h ⊢
 split at h
 ·rename_i x args tys ho
  have h1:bw E s.ae x=bw E t.ae x:=dJ x (by rw [ho]; simp [Op.operands,Call.operands])
  have h2:kQ E s.ae args.toList=kQ E t.ae args.toList:=ft fun y hy=>dJ y (by rw [ho]; simp [Op.operands,Call.operands]; exact .inr (by simpa using hy))
  try simp only [ho]
  rw [← h1,← h2,← hG]
  split at h
  ·refine cj.mono h fun r G' hk=>?_
   obtain ⟨pre,preB,G,p1,p2,p3,p4⟩:=bI.cX (s:=s) (t:=t) (al:=bN o.op) hn G' o.dst (.v r)
   rw [p3] at hk
   rw [p4]
   exact hK pre preB G p1 (fun e=>by rw [ho] at e; simp [q7] at e) hk
  ·refine jD.mono h fun r G' hk=>?_
   obtain ⟨pre,preB,G,p1,p2,p3,p4⟩:=bI.cX (s:=s) (t:=t) (al:=bN o.op) hn G' o.dst (.v (.bool r))
   rw [p3] at hk
   rw [p4]
   exact hK pre preB G p1 (fun e=>by rw [ho] at e; simp [q7] at e) hk
  ·exact h.elim
 ·exact h.elim
 ·split at h
  ·rename_i c s' hs
   obtain ⟨t',h1,pre,preB,G,p1,p2,p3,p4⟩:=gw hn hG hB dJ hs
   rw [h1]
   obtain ⟨rfl,hk⟩:=h.out
   refine cY.mk rfl ?_
   rw [p3] at hk
   rw [p4]
   exact hK pre preB G p1 (fun e=>⟨(p2 (by simp [e])).1,(p2 (by simp [e])).2.1⟩) hk
  ·exact h.elim
theorem rO (h:jh E f o K s) (hK:∀ s,K s→K' s):jh E f o K' s:=
 rN rfl rfl rfl (fun _ _=>rfl) h fun _ _ _ _ _ hk=>hK _ hk
theorem u0 (h:jh E f o K s) (e:n9 s t) (hK:Inv K):jh E f o K t:=
 rN e.n e.G e.b (fun y _=>e.bw y) h fun _ _ _ _ _ hk=>hK _ _ (e.eC _ _ _) hk
def Ai (ops:List Oper) (s:St) (o:Oper):Option Bool:=match o.guard with
 | none=>some true
 | some (j,want)=>match nf ops j with
  | some d=>match lk s.ae d with
   | .v (.bool b)=>some (b == want)
   | .v (.bg [])=>some false
   | _=>none
  | none=>none
theorem A3 (s:St) {d:Tmp} {x:SV} (h:lk s.ae d=x):n9 s (s.put (some d) x):=by
 simp only [St.put]
 split
 ·refine ⟨funext fun e=>?_,rfl,rfl,rfl,rfl,rfl⟩
  by_cases k:d=e
  ·subst k; rw [ax]; exact h
  ·rw [aK k]
 ·exact n9.refl s
theorem n9.put {s t:St} (h:n9 s t) (d:Option Tmp) (x:SV):n9 (s.put d x) (t.put d x):=by
 obtain ⟨pre,preB,G,_,_,p3,p4⟩:=bI.put (s:=s) (t:=t) (al:=false) (w:=false) h.n h.G d x
 rw [p3,p4]
 exact h.eC _ _ _
theorem e9 {ops:List Oper} (hK:Inv K):b6 E f ops o K s↔(Ai ops s o=some true∧jh E f o K s)∨(Ai ops s o=some false∧K (s.put o.dst (.v eR))):=by
 unfold b6 Ai
 cases hg:o.guard with
 | none=>simp
 | some p=>
  obtain ⟨j,want⟩:=p
  simp only
  cases hd:nf ops j with
  | none=>simp
  | some d=>
   simp only
   cases hl:lk s.ae d with
   | none=>simp
   | lp _ _=>simp
   | v a=>
    cases a with
    | bool b=>
     have e1:b=want→n9 s (s.put (some d) (.v (.bool want))):=fun e=>A3 s (by rw [hl,e])
     have e2:b=(!want)→n9 s (s.put (some d) (.v (.bool (!want)))):=fun e=>A3 s (by rw [hl,e])
     constructor
     ·intro ⟨h1,h2⟩
      by_cases e:b=want
      ·exact .inl ⟨by simp [e],u0 (h1 e) (e1 e).symm hK⟩
      ·have e':b=(!want):=by cases b <;> cases want <;> simp_all
       exact .inr ⟨by simp [e],hK _ _ ((e2 e').symm.put _ _) (h2 e')⟩
     ·rintro (⟨h1,h2⟩ | ⟨h1,h2⟩)
      ·have e:b=want:=by simpa using h1
       exact ⟨fun e=>u0 h2 (e1 e) hK,fun e'=>by subst e; cases b <;> cases e'⟩
      ·have e:¬ b=want:=by simpa using h1
       exact ⟨fun k=>absurd k e,fun e'=>hK _ _ ((e2 e').put _ _) h2⟩
    | bg vs=>cases vs <;> simp
    | _=>simp
theorem b7 {ops:List Oper} (h:b6 E f ops o K s) (hK:∀ s,K s→K' s):b6 E f ops o K' s:=by
 unfold b6 at h ⊢
 split at h
 ·exact rO h hK
 ·split at h
  ·exact h.elim
  ·split at h
   ·exact ⟨fun e=>rO (h.1 e) hK,fun e=>hK _ (h.2 e)⟩
   ·exact hK _ h
   ·exact h.elim
theorem zl {ops:List Oper} (e:n9 s t):Ai ops s o=Ai ops t o:=by
 unfold Ai
 rw [e.l]
theorem A4 {ops:List Oper} (hK:Inv K):Inv (b6 E f ops o K):=fun s t e h=>by
 rw [e9 hK] at h ⊢
 rcases h with ⟨h1,h2⟩ | ⟨h1,h2⟩
 ·exact .inl ⟨by rw [← zl e]; exact h1,u0 h2 e hK⟩
 ·exact .inr ⟨by rw [← zl e]; exact h1,hK _ _ (e.put _ _) h2⟩
end ops
end Go.Am
namespace Go.Am
open Go
def HZ (dst:Option Tmp) (s t s' t':St):Prop:=∃ x,s'=s.put dst x∧t'=t.put dst x
section
variable {E:Env} {s t:St} {o:Oper}
theorem HZ.put (_:s.n=t.n) (dst:Option Tmp) (x:SV):HZ dst s t (s.put dst x) (t.put dst x):=⟨x,rfl,rfl⟩
theorem A5 {f:FuncId} {c:Bool} {s':St} (hN:q7 o.op=true) (hR:Q2 o.op=false) (hn:s.n=t.n) (dJ:∀ y∈o.op.operands,bw E s.ae y=bw E t.ae y)
  (h:ap E f s o=some (c,s')):∃ t',ap E f t o=some (c,t')∧HZ o.dst s t s' t':=by
 obtain ⟨dst,op,ty,pos,after,guard⟩:=o
 cases op
 case move x=>
  simp only [ap,dJ x (by simp [Op.operands])] at h ⊢
  split at h
  all_goals (injection h with h; injection h with h1 h2; subst h1 h2; (try simp only [*]); exact ⟨_,rfl,.put hn _ _⟩)
 case assign x=>
  simp only [ap,dJ x (by simp [Op.operands])] at h ⊢
  split at h
  all_goals (injection h with h; injection h with h1 h2; subst h1 h2; (try simp only [*]); exact ⟨_,rfl,.put hn _ _⟩)
 case pick x y z=>
  simp only [ap,dJ x (by simp [Op.operands]),dJ y (by simp [Op.operands]),dJ z (by simp [Op.operands])] at h ⊢
  split at h
  ·injection h with h; injection h with h1 h2; subst h1 h2; (try simp only [*]); exact ⟨_,rfl,.put hn _ _⟩
  ·cases h
 case build ty ps=>
  have he:lI E s ty ps.toList=lI E t ty ps.toList:=by
   unfold lI
   rw [ln (fun p hp=>dJ p.2 (by simp only [Op.operands,List.mem_toArray,List.mem_map]; exact ⟨p,hp,rfl⟩))]
  simp only [ap,he] at h ⊢
  split at h
  ·injection h with h; injection h with h1 h2; subst h1 h2; (try simp only [*]); exact ⟨_,rfl,.put hn _ _⟩
  ·cases h
 case buildSlice ty len ps=>
  have he:bX E s ty len ps.toList=bX E t ty len ps.toList:=by
   unfold bX
   rw [ln (fun p hp=>dJ p.2 (by simp only [Op.operands,List.mem_toArray,List.mem_map]; exact ⟨p,hp,rfl⟩))]
  simp only [ap,he] at h ⊢
  split at h
  ·injection h with h; injection h with h1 h2; subst h1 h2; (try simp only [*]); exact ⟨_,rfl,.put hn _ _⟩
  ·cases h
 case binOp op a x y b=>
  simp only [ap,dJ x (by simp [Op.operands]),dJ y (by simp [Op.operands])] at h ⊢
  repeat' (split at h)
  all_goals (first | (cases h; done) | skip)
  all_goals (injection h with h; injection h with h1 h2; subst h1 h2; (try simp only [*]); exact ⟨_,rfl,.put hn _ _⟩)
 case unOp op a x=>
  simp only [ap,dJ x (by simp [Op.operands])] at h ⊢
  repeat' (split at h)
  all_goals (first | (cases h; done) | skip)
  all_goals (injection h with h; injection h with h1 h2; subst h1 h2; (try simp only [*]); exact ⟨_,rfl,.put hn _ _⟩)
 case convert a b x=>simp [Q2] at hR
 case nilCheck x=>
  simp only [ap,dJ x (by simp [Op.operands])] at h ⊢
  repeat' (split at h)
  all_goals (first | (cases h; done) | skip)
  all_goals (injection h with h; injection h with h1 h2; subst h1 h2; (try simp only [*]); exact ⟨_,rfl,.put hn _ _⟩)
 case makeFunc fo a b=>
  cases fo with
  | func g=>
   have h1:kQ E s.ae a.toList=kQ E t.ae a.toList:=ft fun y hy=>dJ y (by simp only [Op.operands,Array.mem_append]; exact .inl (by simpa using hy))
   have h2:kQ E s.ae b.toList=kQ E t.ae b.toList:=ft fun y hy=>dJ y (by simp only [Op.operands,Array.mem_append]; exact .inr (by simpa using hy))
   simp only [ap,h1,h2] at h ⊢
   repeat' (split at h)
   all_goals (first | (cases h; done) | skip)
   all_goals (injection h with h; injection h with h1 h2; subst h1 h2; (try simp only [*]); exact ⟨_,rfl,.put hn _ _⟩)
  | _=>simp [ap] at h
 case fieldAddr a x j=>
  simp only [ap,dJ x (by simp [Op.operands])] at h ⊢
  repeat' (split at h)
  all_goals (first | (cases h; done) | skip)
  all_goals (injection h with h; injection h with h1 h2; subst h1 h2; (try simp only [*]); exact ⟨_,rfl,.put hn _ _⟩)
 case field a x j=>
  simp only [ap,dJ x (by simp [Op.operands])] at h ⊢
  repeat' (split at h)
  all_goals (first | (cases h; done) | skip)
  all_goals (injection h with h; injection h with h1 h2; subst h1 h2; (try simp only [*]); exact ⟨_,rfl,.put hn _ _⟩)
 case indexAddr a x y=>
  simp only [ap,dJ x (by simp [Op.operands]),dJ y (by simp [Op.operands])] at h ⊢
  repeat' (split at h)
  all_goals (first | (cases h; done) | skip)
  all_goals (injection h with h; injection h with h1 h2; subst h1 h2; (try simp only [*]); exact ⟨_,rfl,.put hn _ _⟩)
 case index a x y=>
  simp only [ap,dJ x (by simp [Op.operands]),dJ y (by simp [Op.operands])] at h ⊢
  repeat' (split at h)
  all_goals (first | (cases h; done) | skip)
  all_goals (injection h with h; injection h with h1 h2; subst h1 h2; (try simp only [*]); exact ⟨_,rfl,.put hn _ _⟩)
 case slice a x lo hi mx=>
  have h1:lJ E s.ae lo=lJ E t.ae lo:=by
   cases lo with
   | none=>rfl
   | some y=>simp only [lJ]; rw [dJ y (by simp [Op.operands])]
  have h2:lJ E s.ae hi=lJ E t.ae hi:=by
   cases hi with
   | none=>rfl
   | some y=>simp only [lJ]; rw [dJ y (by simp [Op.operands])]
  simp only [ap,dJ x (by simp [Op.operands]),h1,h2] at h ⊢
  repeat' (split at h)
  all_goals (first | (cases h; done) | skip)
  all_goals (injection h with h; injection h with h1 h2; subst h1 h2; (try simp only [*]); exact ⟨_,rfl,.put hn _ _⟩)
 case extract x i=>
  simp only [ap,dJ x (by simp [Op.operands])] at h ⊢
  repeat' (split at h)
  all_goals (first | (cases h; done) | skip)
  all_goals (injection h with h; injection h with h1 h2; subst h1 h2; (try simp only [*]); exact ⟨_,rfl,.put hn _ _⟩)
 all_goals (first | (simp [q7] at hN; done) | (simp [Q2] at hR; done))
end
end Go.Am
namespace Go.Am
open Go
section
variable {E:Env} {s t:St} {f:FuncId} {ops:Array Oper} {o oj oi:Oper} {d:Tmp} {x:SV} {K:St→Prop}
theorem H0 (ops:Array Oper) (j:Nat):nf ops.toList j=(ops[j]?).bind (·.dst):=by
 unfold nf
 rw [aX,Array.getElem?_toList]
 cases ops[j]? <;> rfl
theorem ma {e:Tmp} (h:.tmp e∈o.op.operands):e∈o.looksAt ops:=
 List.mem_append_left _ (List.mem_filterMap.2 ⟨.tmp e,by simpa using h,rfl⟩)
theorem iU {j:Nat} {want:Bool} {e:Tmp} (h:o.guard=some (j,want)) (he:nf ops.toList j=some e):e∈o.looksAt ops:=by
 rw [H0] at he
 refine List.mem_append_right _ ?_
 rw [h]
 simp [he]
theorem jE (h:∀ e∈o.looksAt ops,lk s.ae e=lk t.ae e):∀ y∈o.op.operands,bw E s.ae y=bw E t.ae y:=fun _ hy=>
 HY fun e he=>h e (ma (he ▸ hy))
theorem js (h:∀ e∈o.looksAt ops,lk s.ae e=lk t.ae e):Ai ops.toList s o=Ai ops.toList t o:=by
 unfold Ai
 split
 ·rfl
 ·rename_i j want hg
  split
  ·rename_i e he
   rw [h e (iU hg he)]
  ·rfl
theorem tL (s:St) (d:Tmp) (x:SV) {e:Nat} (h:d≠e):lk (s.put (some d) x).ae e=lk s.ae e:=by
 simp only [St.put]
 split
 ·exact aK h
 ·rfl
theorem fa (s:St) (d:Option Tmp) (x:SV):(s.put d x).boxes=s.boxes∧(s.put d x).G=s.G∧(s.put d x).n=s.n∧(s.put d x).marks=s.marks∧(s.put d x).ro=s.ro:=by
 cases d with
 | none=>exact ⟨rfl,rfl,rfl,rfl,rfl⟩
 | some d=>
  simp only [St.put]
  split <;> exact ⟨rfl,rfl,rfl,rfl,rfl⟩
def va (E:Env) (f:FuncId) (ops:Array Oper) (o:Oper) (s:St) (x:SV):Prop:=
 (Ai ops.toList s o=some true∧ap E f s o=some (true,s.put o.dst x))∨(Ai ops.toList s o=some false∧x=.v eR)
theorem H3 {c:Bool} {s':St} (hN:q7 o.op=true) (h:ap E f s o=some (c,s')):∃ x,s'=s.put o.dst x:=by
 obtain ⟨t',_,pre,preB,G,_,h2,_,_⟩:=gw (t:=s) rfl rfl rfl (fun _ _=>rfl) h
 obtain ⟨_,_,x,hx,_⟩:=h2 (by simp [hN])
 exact ⟨x,hx⟩
theorem H4 (hN:q7 o.op=true):jh E f o K s↔∃ s',ap E f s o=some (true,s')∧K s':=by
 unfold jh
 split
 ·rename_i h
  rw [h] at hN
  simp [q7] at hN
 ·rename_i h
  rw [h] at hN
  simp [q7] at hN
 ·split
  ·rename_i c s' hs
   constructor
   ·intro h
    obtain ⟨rfl,hk⟩:=h.out
    exact ⟨s',hs,hk⟩
   ·rintro ⟨AB,h1,h2⟩
    rw [hs] at h1
    cases h1
    exact cY.mk rfl h2
  ·rename_i hs
   constructor
   ·exact fun h=>h.elim
   ·rintro ⟨AB,h1,_⟩
    rw [hs] at h1
    cases h1
theorem vb (hN:q7 o.op=true) (hK:Inv K) (h:b6 E f ops.toList o K s):∃ x,va E f ops o s x∧K (s.put o.dst x):=by
 rcases (e9 hK).1 h with ⟨h1,h2⟩ | ⟨h1,h2⟩
 ·obtain ⟨s',h3,h4⟩:=(H4 hN).1 h2
  obtain ⟨x,rfl⟩:=H3 hN h3
  exact ⟨x,.inl ⟨h1,h3⟩,h4⟩
 ·exact ⟨_,.inr ⟨h1,rfl⟩,h2⟩
theorem vc (hN:q7 o.op=true) (hK:Inv K) (hx:va E f ops o s x) (h:K (s.put o.dst x)):b6 E f ops.toList o K s:=by
 rw [e9 hK]
 rcases hx with ⟨h1,h2⟩ | ⟨h1,rfl⟩
 ·exact .inl ⟨h1,(H4 hN).2 ⟨_,h2,h⟩⟩
 ·exact .inr ⟨h1,h⟩
def Db (E:Env) (f:FuncId) (ops:List Oper) (o:Oper) (s:St):Prop:=match Ai ops s o with
 | some true=>match o.dst,ap E f s o with
  | some d,some (c,s')=>c=true∧lk s'.ae d=lk s.ae d
  | _,_=>False
 | some false=>True
 | none=>False
theorem LA (hN:q7 o.op=true) (hd:d∉o.looksAt ops) (cw:o.dst≠some d) (he:∀ e,d≠e→lk s.ae e=lk t.ae e) (hB:dc s.boxes=dc t.boxes) (hG:s.G=t.G) (hn:s.n=t.n)
  (h:Db E f ops.toList o s):Db E f ops.toList o t:=by
 have hl:∀ e∈o.looksAt ops,lk s.ae e=lk t.ae e:=fun e hm=>he e fun k=>hd (k ▸ hm)
 unfold Db at h ⊢
 rw [← js hl]
 split
 ·rename_i hg
  rw [hg] at h
  simp only at h
  split at h
  ·rename_i e c s' F4 hs
   obtain ⟨t',h3,pre,preB,G,_,h4,_,_⟩:=gw hn hG hB (jE hl) hs
   obtain ⟨_,_,y,h5,h6⟩:=h4 (by simp [hN])
   rw [F4,h3]
   refine ⟨h.1,?_⟩
   have hde:d≠e:=fun k=>cw (by rw [F4,k])
   have h7:=h.2
   rw [h5,F4] at h7
   rw [h6,F4,← he e hde]
   simp only [St.put,← hn] at h7 ⊢
   split
   ·rename_i hb
    rw [hb] at h7
    simp only [ax] at h7 ⊢
    exact h7
   ·exact (he e hde).symm
  ·exact h.elim
 ·trivial
 ·rename_i hg
  rw [hg] at h
  exact h
theorem LB (hN:q7 o.op=true) (e:n9 s t) (h:Db E f ops.toList o s):Db E f ops.toList o t:=by
 unfold Db at h ⊢
 rw [← zl e]
 split
 ·rename_i hg
  rw [hg] at h
  simp only at h
  split at h
  ·rename_i d c s' F4 hs
   obtain ⟨t',h3,pre,preB,G,_,h4,_,_⟩:=gw e.n e.G e.b (fun y _=>e.bw y) hs
   obtain ⟨_,_,y,h5,h6⟩:=h4 (by simp [hN])
   rw [F4,h3]
   refine ⟨h.1,?_⟩
   rw [h6,← (e.put o.dst y).l,← h5,← e.l]
   exact h.2
  ·exact h.elim
 ·trivial
 ·rename_i hg
  rw [hg] at h
  exact h
def iB (oj oi:Oper):Bool:=bN oi.op || (Q2 oj.op&&!q7 oi.op)
theorem H5 {al:Bool} {dst:Option Tmp} {pre:a6} (h:Uh al dst pre) {e:Nat} (he:dst≠some e) (l:a6):lk (pre++l) e=lk l e∨(al=true∧∃ k off,lk l e=.lp k off):=by
 rcases h with rfl | ⟨d,y,rfl,rfl | ⟨rfl,rfl⟩⟩
 ·exact .inl rfl
 ·exact .inl (aK fun k=>he (by rw [k]))
 ·simp only [List.cons_append,List.nil_append]
  rw [aK (fun k=>he (by rw [k]))]
  simp only [lk]
  cases hl:lk l e with
  | lp k off=>exact .inr ⟨trivial,k,off,rfl⟩
  | _=>exact .inl rfl
theorem qC {al:Bool} {pre:a6} (preB:cp) (G:List GO) (h:Uh al oi.dst pre) (cw:oi.dst≠some d) (hx:al=false∨∃ a,x=.v a):n9 ((s.put (some d) x).eC pre preB G) ((s.eC pre preB G).put (some d) x):=by
 have hb:∀ b,Nat.blt d s.n=b→n9 ((s.put (some d) x).eC pre preB G) ((s.eC pre preB G).put (some d) x):=fun b hb=>by
  have jy:Nat.blt d (s.eC pre preB G).n=b:=hb
  rw [ku,ku,hb,jy]
  cases b with
  | false=>exact n9.refl _
  | true=>
   refine ⟨funext fun e=>?_,rfl,rfl,rfl,rfl,rfl⟩
   simp only [cond_true,St.eC,List.cons_append,List.nil_append]
   by_cases k:d=e
   ·subst k
    rw [ax]
    rcases H5 h cw (.put d x :: s.ae) with h1 | ⟨h1,k,off,h2⟩
    ·rw [h1,ax]
    ·rw [ax] at h2
     rcases hx with hx | ⟨a,hx⟩
     ·rw [hx] at h1; cases h1
     ·rw [hx] at h2; cases h2
   ·rw [aK k]
    exact lq (aK k) pre
 exact hb _ rfl
theorem F5 (hN:q7 oj.op=true) (EC:oj.dst=some d) (A6:d∉oj.looksAt ops) (Uj:oj.apart ops oi=true) (hK:Inv K) (hx:va E f ops oj s x) {pre:a6} {preB:cp} {G:List GO}
  (xm:Uh (bN oi.op) oi.dst pre) (Vv:q7 oi.op=true→preB=[]∧G=s.G) (hk:K ((s.put (some d) x).eC pre preB G)) (U6:∀ t',K t'→iB oj oi=true→Db E f ops.toList oj t') :
  ∃ x',va E f ops oj (s.eC pre preB G) x'∧K ((s.eC pre preB G).put (some d) x'):=by
 obtain ⟨_,cw,AG⟩:=Oper.apart_spec Uj
 have H6:oi.dst≠some d:=cw d EC
 have qD:∀ e∈oj.looksAt ops,oi.dst≠some e:=fun e he k=>AG e k he
 have sB:∀ e∈oj.looksAt ops,(bN oi.op=false∨∃ b,lk s.ae e=.v b)→lk s.ae e=lk (s.eC pre preB G).ae e:=fun e he ha=>by
  rcases H5 xm (qD e he) s.ae with h1 | ⟨h1,k,off,h2⟩
  ·exact h1.symm
  ·rcases ha with ha | ⟨b,ha⟩
   ·rw [ha] at h1; cases h1
   ·rw [ha] at h2; cases h2
 have LC:∀ b,Ai ops.toList s oj=some b→Ai ops.toList (s.eC pre preB G) oj=some b:=fun b hb=>by
  unfold Ai at hb ⊢
  split
  ·rename_i hg; rw [hg] at hb; exact hb
  ·rename_i j want hg
   rw [hg] at hb
   simp only at hb
   split
   ·rename_i e he
    rw [he] at hb
    simp only at hb
    split at hb
    ·rename_i b' hl
     have:=sB e (iU hg he) (.inr ⟨_,hl⟩)
     rw [← this,hl]
     exact hb
    ·rename_i hl
     have:=sB e (iU hg he) (.inr ⟨_,hl⟩)
     rw [← this,hl]
     exact hb
    ·cases hb
   ·rename_i he; rw [he] at hb; cases hb
 rcases hx with ⟨h1,h2⟩ | ⟨h1,rfl⟩
 ·rw [EC] at h2
  by_cases YV:iB oj oi=true
  ·have hr:=U6 _ hk YV
   -- the state with the slot, and the one without it
   have zd:∀ e,d≠e→lk ((s.put (some d) x).eC pre preB G).ae e=lk (s.eC pre preB G).ae e:=fun e he=>lq (tL s d x he) pre
   have hB:dc ((s.put (some d) x).eC pre preB G).boxes=dc (s.eC pre preB G).boxes:=by
    simp only [St.eC]; rw [(fa s _ x).1]
   have hn:((s.put (some d) x).eC pre preB G).n=(s.eC pre preB G).n:=(fa s _ x).2.2.1
   have H7:∀ e∈oj.looksAt ops,lk ((s.put (some d) x).eC pre preB G).ae e=lk (s.eC pre preB G).ae e:=fun e he=>zd e fun k=>A6 (k ▸ he)
   have hg2:Ai ops.toList ((s.put (some d) x).eC pre preB G) oj=some true:=by rw [js H7]; exact LC _ h1
   unfold Db at hr
   rw [hg2] at hr
   simp only [EC] at hr
   split at hr
   ·rename_i d' c s' Ei hs
    cases Ei
    obtain ⟨rfl,hr⟩:=hr
    obtain ⟨t',h3,p,pB,G2,_,h4,_,_⟩:=gw (t:=s.eC pre preB G) hn rfl hB (jE H7) hs
    obtain ⟨_,_,y,h5,h6⟩:=h4 (by simp [hN])
    rw [h6] at h3
    rw [h5,EC] at hr
    refine ⟨y,.inl ⟨LC _ h1,h3⟩,hK _ _ ?_ hk⟩
    have hmr:((s.put (some d) x).eC pre preB G).marks=(s.eC pre preB G).marks∧((s.put (some d) x).eC pre preB G).ro=(s.eC pre preB G).ro:=(fa s _ x).2.2.2
    obtain ⟨q1,q2,q3,q4,q5⟩:=fa (s.eC pre preB G) (some d) y
    refine ⟨funext fun e=>?_,by rw [q1]; exact hB,by rw [q2]; rfl,by rw [q4]; exact hmr.1,by rw [q5]; exact hmr.2,by rw [q3]; exact hn⟩
    by_cases k:d=e
    ·subst k
     rw [← hr]
     have hb:∀ b,Nat.blt d s.n=b→lk (((s.put (some d) x).eC pre preB G).put (some d) y).ae d=lk ((s.eC pre preB G).put (some d) y).ae d:=fun b hb=>by
      have H8:Nat.blt d (s.eC pre preB G).n=b:=hb
      have G5:Nat.blt d ((s.put (some d) x).eC pre preB G).n=b:=by rw [hn]; exact hb
      rw [ku _ d y,ku _ d y,H8,G5]
      cases b with
      | true=>simp [St.eC,ax]
      | false=>
       simp only [cond_false]
       rw [ku,hb]
       rfl
     exact hb _ rfl
    ·rw [tL _ _ _ k]
     exact zd e k
   ·exact hr.elim
  ·have tz:bN oi.op=false:=by cases ha:bN oi.op <;> simp_all [iB]
   have hl:∀ e∈oj.looksAt ops,lk s.ae e=lk (s.eC pre preB G).ae e:=fun e he=>sB e he (.inl tz)
   have fin:∀ y,s.put (some d) x=s.put (some d) y→ap E f (s.eC pre preB G) oj=some (true,(s.eC pre preB G).put oj.dst y) →
     ∃ x',va E f ops oj (s.eC pre preB G) x'∧K ((s.eC pre preB G).put (some d) x'):=fun y hy hs=>by
    refine ⟨y,.inl ⟨LC _ h1,hs⟩,hK _ _ (qC (oi:=oi) preB G xm H6 (.inl tz)) ?_⟩
    rw [← hy]
    exact hk
   cases hNo:q7 oi.op with
   | true=>
    obtain ⟨rfl,rfl⟩:=Vv hNo
    obtain ⟨t',h3,p,pB,G2,_,h4,_,_⟩:=gw (s:=s) (t:=s.eC pre [] s.G) rfl rfl rfl (jE hl) h2
    obtain ⟨_,_,y,h5,h6⟩:=h4 (by simp [hN])
    rw [EC] at h5
    exact fin y h5 (by rw [h3,h6])
   | false=>
    have hR:Q2 oj.op=false:=by cases ha:Q2 oj.op <;> simp_all [iB]
    obtain ⟨t',h3,y,h5,h6⟩:=A5 (s:=s) (t:=s.eC pre preB G) hN hR rfl (jE hl) h2
    rw [EC] at h5
    exact fin y h5 (by rw [h3,h6])
 ·exact ⟨_,.inr ⟨LC _ h1,rfl⟩,hK _ _ (qC (oi:=oi) preB G xm H6 (.inr ⟨_,rfl⟩)) hk⟩
end
end Go.Am
namespace Go.Am
open Go
section
variable {E:Env} {s t:St} {o:Oper}
def gJ (E:Env) (s:St) (o:Oper) (s':St):Prop:=
 (s'.ae=s.ae∨∃ d x,o.dst=some d∧(s'.ae=.put d x :: s.ae∨s'.ae=.put d x :: .kill d :: s.ae)∧∀ k off,x=.lp k off→(∃ y∈o.op.operands,∃ eT,bw E s.ae y=.lp k eT)∨(bN o.op=true∧k=d)) ∧
 (s'.boxes=s.boxes∨∃ k cs,s'.boxes=(k,cs) :: s.boxes∧((bN o.op=true∧o.dst=some k)∨∃ y∈o.op.operands,∃ off,bw E s.ae y=.lp k off))
theorem kv {s1:St} (h1:s1.ae=s.ae) (h2:s1.boxes=s.boxes) {x:SV} (hx:∀ k off,x=.lp k off→∃ y∈o.op.operands,∃ eT,bw E s.ae y=.lp k eT):gJ E s o (s1.put o.dst x):=by
 refine ⟨?_,.inl (by rw [(fa s1 o.dst x).1,h2])⟩
 cases hd:o.dst with
 | none=>exact .inl h1
 | some d=>
  simp only [St.put]
  split
  ·exact .inr ⟨d,x,rfl,.inl (by rw [h1]),fun k off h=>.inl (hx k off h)⟩
  ·exact .inl h1
theorem jF {s1:St} (h1:s1.ae=s.ae) (h2:s1.boxes=s.boxes) (a:AV):gJ E s o (s1.put o.dst (.v a)):=kv h1 h2 fun k off h=>by cases h
theorem lr {s1:St} (h1:s1.ae=s.ae) (h2:s1.boxes=s.boxes):gJ E s o s1:=⟨.inl h1,.inl h2⟩
theorem LD {k:Nat} {cs:List AV} (h:∃ y∈o.op.operands,∃ off,bw E s.ae y=.lp k off):gJ E s o (s.tf k cs):=⟨.inl rfl,.inr ⟨k,cs,rfl,.inr h⟩⟩
theorem A7 {n:Nat} {x:SV} {k off:Nat} (h:xC n x=some (.lp k off)):∃ eT,x=.lp k eT:=by
 unfold xC at h
 split at h <;> cases h
 exact ⟨_,rfl⟩
theorem xn {ty:TypeId} {x:SV} {j k off:Nat} (h:jw E ty x j=some (.lp k off)):∃ eT,x=.lp k eT:=by
 unfold jw at h
 repeat' (split at h)
 all_goals (first | (cases h; done) | exact A7 h)
theorem xo {ty:TypeId} {x ix:SV} {c:Bool} {k off:Nat} (h:jv E ty x ix=some (c,.lp k off)):∃ eT,x=.lp k eT:=by
 unfold jv at h
 repeat' (split at h)
 all_goals (first | (cases h; done) | skip)
 rename_i hm
 injection h with h; injection h with h1 h2; subst h2
 exact A7 hm
theorem Dc {ty:TypeId} {p x:SV} {s':St} (hp:∀ k off,p=.lp k off→∃ y∈o.op.operands,∃ eT,bw E s.ae y=.lp k eT) (h:iP E s ty p x=some s'):gJ E s o s':=by
 unfold iP at h
 repeat' (split at h)
 all_goals (first | (cases h; done) | skip)
 ·cases h; exact LD (hp _ _ rfl)
 ·cases h; exact lr rfl rfl
theorem Dd {ty:TypeId} {p x:SV} {c:Bool} {s':St} (hp:∀ k off,p=.lp k off→∃ y∈o.op.operands,∃ eT,bw E s.ae y=.lp k eT) (h:iQ E s ty p x=some (c,s')):gJ E s o s':=by
 unfold iQ at h
 repeat' (split at h)
 all_goals (first | (cases h; done) | skip)
 ·injection h with h; injection h with h1 h2; subst h2; exact lr rfl rfl
 ·injection h with h; injection h with h1 h2; subst h2; exact lr rfl rfl
 ·rename_i hs
  injection h with h; injection h with h1 h2; subst h2; exact Dc hp hs
theorem sO {ty:TypeId} {m k x:SV} {s':St} (h:eh E s ty m k x=some s'):gJ E s o s':=by
 unfold eh at h
 repeat' (split at h)
 all_goals (first | (cases h; done) | skip)
 cases h; exact lr rfl rfl
theorem F6 {x:SV} {s':St} (h:ko s o.dst x=some s'):gJ E s o s':=by
 unfold ko at h
 split at h
 ·split at h
  ·rename_i l pos hg
   cases hb:Nat.blt pos l.length with
   | true=>
    rw [hb] at h
    simp only [cond_true] at h
    cases h
    exact jF rfl rfl _
   | false=>
    rw [hb] at h
    simp only [cond_false] at h
    cases h
    exact jF rfl rfl _
  ·cases h
 ·cases h
theorem zm {b:Builtin} {l:List AV} {tys:List TypeId} {c:Bool} {s':St} (h:bJ E s o.dst b l tys=some (c,s')):gJ E s o s':=by
 unfold bJ at h
 cases b
 all_goals (try (cases h; done))
 all_goals (try simp only at h)
 all_goals (try (split at h <;> first | (cases h; done) | simp only at h))
 all_goals (repeat' (split at h))
 all_goals (first | (cases h; done) | skip)
 all_goals (injection h with h; injection h with h1 h2; subst h1 h2)
 all_goals (first | exact jF rfl rfl _ | exact lr rfl rfl)
theorem F7 {f:FuncId} {c:Bool} {s':St} (h:fL E f s o=some (c,s')):gJ E s o s':=by
 unfold fL at h
 repeat' (split at h)
 all_goals (first | (cases h; done) | skip)
 injection h with h; injection h with h2 h3
 subst h3
 exact jF rfl rfl _
theorem vd {f:FuncId} {el:TypeId} {cs:List AV} {c:Bool} {s':St} (ha:bN o.op=true) (h:ef E f s o.dst el cs=some (c,s')):gJ E s o s':=by
 unfold ef at h
 split at h
 ·cases h
 ·rename_i d hd
  split at h
  ·injection h with h; injection h with h1 h2; subst h2
   rw [← hd]
   exact jF rfl rfl _
  ·split at h
   ·rename_i hb
    injection h with h; injection h with h1 h2; subst h2
    refine ⟨.inr ⟨d,.lp d 0,hd,.inr ?_,fun k off h=>by cases h; exact .inr ⟨ha,rfl⟩⟩,.inr ⟨d,cs,?_,.inl ⟨ha,hd⟩⟩⟩
    ·simp only [St.put,St.tf,St.kill,hb]
    ·rw [(fa _ (some d) (.lp d 0)).1]; rfl
   ·cases h
theorem De {f:FuncId} {c:Bool} {s':St} (h:ap E f s o=some (c,s')):gJ E s o s':=by
 cases ho:o.op
 case move x=>
  simp only [ap,ho] at h
  split at h
  all_goals (injection h with h; injection h with h1 h2; subst h2)
  ·exact jF rfl rfl _
  ·rename_i k off hx
   exact kv rfl rfl fun k' eT e=>by cases e; exact ⟨x,by rw [ho]; simp [Op.operands],_,hx⟩
  ·exact kv rfl rfl fun k' eT e=>by cases e
 case assign x=>
  simp only [ap,ho] at h
  split at h
  all_goals (injection h with h; injection h with h1 h2; subst h2)
  ·exact jF rfl rfl _
  ·rename_i k off hx
   exact kv rfl rfl fun k' eT e=>by cases e; exact ⟨x,by rw [ho]; simp [Op.operands],_,hx⟩
  ·exact kv rfl rfl fun k' eT e=>by cases e
 case nilCheck x=>
  simp only [ap,ho] at h
  split at h
  ·injection h with h; injection h with h1 h2; subst h2
   exact jF rfl rfl _
  ·rename_i k off hx
   injection h with h; injection h with h1 h2; subst h2
   exact kv rfl rfl fun k' eT e=>by cases e; exact ⟨x,by rw [ho]; simp [Op.operands],_,hx⟩
  ·cases h
 case fieldAddr a x j=>
  simp only [ap,ho] at h
  split at h
  ·rename_i p hp
   injection h with h; injection h with h1 h2; subst h2
   exact kv rfl rfl fun k' eT e=>by subst e; exact ⟨x,by rw [ho]; simp [Op.operands],xn hp⟩
  ·cases h
 case indexAddr a x y=>
  simp only [ap,ho] at h
  split at h
  ·rename_i c' p hp
   injection h with h; injection h with h1 h2; subst h2
   exact kv rfl rfl fun k' eT e=>by subst e; exact ⟨x,by rw [ho]; simp [Op.operands],xo hp⟩
  ·cases h
 case alloc e=>
  simp only [ap,ho] at h
  repeat' (split at h)
  all_goals (first | (cases h; done) | skip)
  exact vd (by rw [ho]; rfl) h
 case box e x=>
  simp only [ap,ho] at h
  repeat' (split at h)
  all_goals (first | (cases h; done) | skip)
  exact vd (by rw [ho]; rfl) h
 case store ty x y=>
  simp only [ap,ho] at h
  split at h
  ·rename_i hs
   injection h with h; injection h with h1 h2; subst h2
   exact Dd (fun k off e=>⟨x,by rw [ho]; simp [Op.operands],off,e⟩) hs
  ·cases h
 case mapUpdate ty x y z=>
  simp only [ap,ho] at h
  split at h
  ·rename_i hs
   injection h with h; injection h with h1 h2; subst h2
   exact sO hs
  ·cases h
 case insert ty x y z=>
  simp only [ap,ho] at h
  split at h
  ·rename_i hs
   injection h with h; injection h with h1 h2; subst h2
   exact sO hs
  ·cases h
 case mapEntry ty x y=>
  simp only [ap,ho] at h
  split at h
  ·rename_i hs
   injection h with h; injection h with h1 h2; subst h2
   unfold fj at hs
   repeat' (split at hs)
   all_goals (first | (cases hs; done) | skip)
   injection hs with hs; injection hs with h3 hs; injection hs with h4 h5
   subst h5
   exact jF rfl rfl _
  ·cases h
 case entryStore ty x y z=>
  simp only [ap,ho] at h
  split at h
  ·rename_i hs
   injection h with h; injection h with h1 h2; subst h2
   unfold dH at hs
   repeat' (split at hs)
   all_goals (first | (cases hs; done) | skip)
   injection hs with hs; injection hs with h3 h4
   subst h4
   exact lr rfl rfl
  ·cases h
 case next x b=>
  cases b with
  | false=>simp [ap,ho] at h
  | true=>
   simp only [ap,ho] at h
   split at h
   ·rename_i hs
    injection h with h; injection h with h1 h2; subst h2
    exact F6 hs
   ·cases h
 case call cl=>
  obtain ⟨callee,args,tys⟩:=cl
  cases callee with
  | builtin b=>
   simp only [ap,ho] at h
   split at h
   ·rename_i r hf
    cases h
    exact F7 hf
   ·split at h
    ·exact zm h
    ·cases h
  | _=>simp [ap,ho] at h
 case makeFunc fo a b=>
  cases fo with
  | func g=>
   simp only [ap,ho] at h
   repeat' (split at h)
   all_goals (first | (cases h; done) | skip)
   injection h with h; injection h with h1 h2; subst h2
   exact jF rfl rfl _
  | _=>simp [ap,ho] at h
 case makeMap ty r=>
  cases r with
  | none=>
   simp only [ap,ho] at h
   injection h with h; injection h with h1 h2; subst h2
   exact jF rfl rfl _
  | some _=>simp [ap,ho] at h
 all_goals (first
  | (simp [ap,ho] at h; done)
  | (simp only [ap,ho] at h; (repeat' (split at h)); (all_goals (first | (cases h; done) | skip)); (all_goals (injection h with h; injection h with h1 h2; subst h2)); (all_goals (exact jF rfl rfl _))))
def pD (s:St) (d:Nat) (cs:List AV):St:=s.eC [.put d (.lp d 0),.kill d] [(d,cs)] s.G
theorem Df {f:FuncId} {d:Tmp} {c:Bool} {s1:St} (tz:bN o.op=true) (hd:o.dst=some d) (hg:E.wW f d=false) (h:ap E f s o=some (c,s1)) :
  c=true∧∃ cs,s1=pD s d cs∧∀ t:St,t.n=s.n→(∀ y∈o.op.operands,∀ v,bw E s.ae y=.v v→bw E t.ae y=.v v)→ap E f t o=some (true,pD t d cs):=by
 have key:∀ (el:TypeId) (cs:List AV),ef E f s o.dst el cs=some (c,s1)→c=true∧s1=pD s d cs∧∀ t:St,t.n=s.n→ef E f t o.dst el cs=some (true,pD t d cs):=by
  intro el cs h
  unfold ef at h
  rw [hd] at h
  simp only [hg,Bool.false_eq_true,if_false] at h
  split at h
  ·rename_i hb
   injection h with h; injection h with h1 h2; subst h1 h2
   refine ⟨rfl,?_,fun t ht=>?_⟩
   ·simp only [St.put,St.tf,St.kill,hb,pD,St.eC]; rfl
   ·unfold ef
    rw [hd]
    simp only [hg,Bool.false_eq_true,if_false,ht,hb]
    simp only [St.put,St.tf,St.kill,ht,hb,pD,St.eC]; rfl
  ·cases h
 cases ho:o.op
 case alloc e=>
  simp only [ap,ho] at h ⊢
  split at h
  ·split at h
   ·split at h
    ·rename_i hi _ _ hz KY
     obtain ⟨k1,k2,k3⟩:=key _ _ h
     refine ⟨k1,_,k2,fun t ht _=>?_⟩
     simp only [hi,hz,KY,if_true]
     exact k3 t ht
    ·cases h
   ·cases h
  ·cases h
 case box e x=>
  simp only [ap,ho] at h ⊢
  split at h
  ·split at h
   ·rename_i v hv KY
    obtain ⟨k1,k2,k3⟩:=key _ _ h
    refine ⟨k1,_,k2,fun t ht he=>?_⟩
    simp only [he x (by simp [Op.operands]) v hv,KY,if_true]
    exact k3 t ht
   ·cases h
  ·cases h
 all_goals (rw [ho] at tz; simp [bN] at tz)
theorem ED {pre:a6} {preB:cp} {G:List GO} (h:gJ E s o (s.eC pre preB G)) :
  (pre=[]∨∃ d x,o.dst=some d∧(pre=[.put d x]∨pre=[.put d x,.kill d])∧∀ k off,x=.lp k off→(∃ y∈o.op.operands,∃ eT,bw E s.ae y=.lp k eT)∨(bN o.op=true∧k=d)) ∧
  (preB=[]∨∃ k cs,preB=[(k,cs)]∧((bN o.op=true∧o.dst=some k)∨∃ y∈o.op.operands,∃ off,bw E s.ae y=.lp k off)):=by
 obtain ⟨h1,h2⟩:=h
 refine ⟨?_,?_⟩
 ·rcases h1 with h1 | ⟨d,x,hd,h1,hx⟩
  ·exact .inl (by simpa [St.eC] using h1)
  ·refine .inr ⟨d,x,hd,?_,hx⟩
   rcases h1 with h1 | h1
   ·left
    have h1:pre++s.ae=[.put d x]++s.ae:=h1
    exact List.append_cancel_right h1
   ·right
    have h1:pre++s.ae=[.put d x,.kill d]++s.ae:=h1
    exact List.append_cancel_right h1
 ·rcases h2 with h2 | ⟨k,cs,h2,hx⟩
  ·exact .inl (by simpa [St.eC] using h2)
  ·refine .inr ⟨k,cs,?_,hx⟩
   have h2:preB++s.boxes=[(k,cs)]++s.boxes:=h2
   exact List.append_cancel_right h2
theorem iC (d e:Nat) (l:a6):lk (.kill d :: l) e=(match lk l e with | .lp k off=>bif Nat.beq k d then .none else .lp k off | x=>x):=rfl
theorem vf {d e:Nat} {l:a6} (h:∀ off,lk l e≠.lp d off):lk (.kill d :: l) e=lk l e:=by
 rw [iC]
 split
 ·rename_i k off hk
  cases hb:Nat.beq k d with
  | true=>exact absurd (by rw [hk,Nat.eq_of_beq_eq_true hb]) (h off)
  | false=>rw [hk]; rfl
 ·rfl
theorem F8 {d:Nat} {pre:a6} {preB:cp} {G:List GO} (cs:List AV) (LF:gJ E s o (s.eC pre preB G)) (cw:o.dst≠some d) (F9:∀ y∈o.op.operands,∀ off,bw E s.ae y≠.lp d off) :
  n9 ((pD s d cs).eC pre preB G) (pD (s.eC pre preB G) d cs):=by
 obtain ⟨h1,h2⟩:=ED LF
 refine ⟨funext fun e=>?_,funext fun k=>?_,rfl,rfl,rfl,rfl⟩
 ·show lk (pre++([.put d (.lp d 0),.kill d]++s.ae)) e=lk ([.put d (.lp d 0),.kill d]++(pre++s.ae)) e
  rcases h1 with rfl | ⟨d',x,hd,hp,hx⟩
  ·rfl
  ·have Xz:d'≠d:=fun c=>cw (by rw [hd,c])
   have qf:∀ off,x≠.lp d off:=fun off c=>by
    rcases hx d off c with ⟨y,hy,eT,ho⟩ | ⟨_,h⟩
    ·exact F9 y hy eT ho
    ·exact Xz h.symm
   by_cases c1:d=e
   ·subst c1
    rcases hp with rfl | rfl
    ·simp only [List.cons_append,List.nil_append]
     rw [aK Xz,ax,ax]
    ·simp only [List.cons_append,List.nil_append]
     rw [aK Xz,ax,vf (fun off=>by rw [ax]; intro c; cases c; exact Xz rfl),ax]
   ·simp only [List.cons_append,List.nil_append]
    rw [aK c1]
    by_cases c2:d'=e
    ·subst c2
     rcases hp with rfl | rfl
     ·simp only [List.cons_append,List.nil_append]
      rw [ax,vf (fun off=>by rw [ax]; exact qf off),ax]
     ·simp only [List.cons_append,List.nil_append]
      rw [ax,vf (fun off=>by rw [ax]; exact qf off),ax]
    ·rcases hp with rfl | rfl
     ·simp only [List.cons_append,List.nil_append]
      rw [aK c2,aK c1,iC,iC,aK c2]
     ·simp only [List.cons_append,List.nil_append]
      rw [aK c2,iC,aK c1,iC,iC,aK c2,iC]
      cases lk s.ae e with
      | lp k off=>cases hb:Nat.beq k d <;> cases G5:Nat.beq k d' <;> simp [hb,G5]
      | _=>rfl
 ·show dc (preB++([(d,cs)]++s.boxes)) k=dc ([(d,cs)]++(preB++s.boxes)) k
  rcases h2 with rfl | ⟨k',cs',rfl,hk⟩
  ·rfl
  ·have KZ:k'≠d:=fun c=>by
    subst c
    rcases hk with ⟨_,hk⟩ | ⟨y,hy,off,ho⟩
    ·exact cw hk
    ·exact F9 y hy off ho
   simp only [List.cons_append,List.nil_append,dc]
   cases hb:Nat.beq k' k with
   | true=>
    have:Nat.beq d k=false:=by
     cases G5:Nat.beq d k with
     | true=>exact absurd ((Nat.eq_of_beq_eq_true hb).trans (Nat.eq_of_beq_eq_true G5).symm) KZ
     | false=>rfl
    rw [this]; rfl
   | false=>rfl
end
section
variable {E:Env} {s t:St} {f:FuncId} {o:Oper} {K K':St→Prop}
theorem Dg (hn:s.n=t.n) (hG:s.G=t.G) (hB:∀ k off,(∃ y∈o.op.operands,bw E s.ae y=.lp k off)→dc s.boxes k=dc t.boxes k) (dJ:∀ y∈o.op.operands,bw E s.ae y=bw E t.ae y) (h:jh E f o K s)
  (hK:∀ pre preB G,gJ E t o (t.eC pre preB G)→K (s.eC pre preB G)→K' (t.eC pre preB G)):jh E f o K' t:=by
 unfold jh at h ⊢
 split at h
 ·rename_i x args tys ho
  have h1:bw E s.ae x=bw E t.ae x:=dJ x (by rw [ho]; simp [Op.operands,Call.operands])
  have h2:kQ E s.ae args.toList=kQ E t.ae args.toList:=ft fun y hy=>dJ y (by rw [ho]; simp [Op.operands,Call.operands]; exact .inr (by simpa using hy))
  try simp only [ho]
  rw [← h1,← h2,← hG]
  split at h
  ·refine cj.mono h fun r G' hk=>?_
   obtain ⟨pre,preB,G,p1,p2,p3,p4⟩:=bI.cX (s:=s) (t:=t) (al:=bN o.op) hn G' o.dst (.v r)
   rw [p3] at hk
   have hO:gJ E t o ((t.bW G').put o.dst (.v r)):=jF rfl rfl _
   rw [p4] at hO ⊢
   exact hK pre preB G hO hk
  ·refine jD.mono h fun r G' hk=>?_
   obtain ⟨pre,preB,G,p1,p2,p3,p4⟩:=bI.cX (s:=s) (t:=t) (al:=bN o.op) hn G' o.dst (.v (.bool r))
   rw [p3] at hk
   have hO:gJ E t o ((t.bW G').put o.dst (.v (.bool r))):=jF rfl rfl _
   rw [p4] at hO ⊢
   exact hK pre preB G hO hk
  ·exact h.elim
 ·exact h.elim
 ·split at h
  ·rename_i c s' hs
   obtain ⟨t',h1,pre,preB,G,p1,p2,p3,p4⟩:=qB hn hG hB dJ hs
   have hO:=De h1
   rw [h1]
   obtain ⟨rfl,hk⟩:=h.out
   refine cY.mk rfl ?_
   rw [p3] at hk
   rw [p4] at hO ⊢
   exact hK pre preB G hO hk
  ·exact h.elim
theorem EE (ha:bN o.op=true):jh E f o K s↔∃ s',ap E f s o=some (true,s')∧K s':=by
 unfold jh
 split
 ·rename_i h
  rw [h] at ha
  simp [bN] at ha
 ·rename_i h
  rw [h] at ha
  simp [bN] at ha
 ·split
  ·rename_i c s' hs
   constructor
   ·intro h
    obtain ⟨rfl,hk⟩:=h.out
    exact ⟨s',hs,hk⟩
   ·rintro ⟨AB,h1,h2⟩
    rw [hs] at h1
    cases h1
    exact cY.mk rfl h2
  ·rename_i hs
   constructor
   ·exact fun h=>h.elim
   ·rintro ⟨AB,h1,_⟩
    rw [hs] at h1
    cases h1
end
end Go.Am
