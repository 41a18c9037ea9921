/- The abstract machine: a function's contract out of its body. -/
import Derived.Test.YtldcljfjjoidhaaGreatDoorAmKF
import Derived.OrdersIn
set_option linter.all false
namespace Go.Am
open Go
section intro
variable {E:Env} {R R':ah} {w w':World} {β β':Nat→Nat}
theorem rK {bx B8:bK} (h:Step R w β bx R' w' β' B8) (hn:∀ k cs,cz bx k≠some cs):Step R w (fun _=>0) dE R' w' (fun _=>0) dE:=by
 have own:∀ b,Own R β bx b→Live R b:=fun b ho=>by
  rcases ho with ho | ⟨k,cs,hk,_⟩
  ·exact ho
  ·exact absurd hk (hn k cs)
 exact ⟨h.ext,h.os,h.tape,h.output,h.size,fun b hb oC=>h.bA b hb (fun ho=>oC (.inl (own b ho))),fun b hb ho=>.inl (own b (h.own b hb (.inl (dy ho)))),fun b o hi hb oC=>h.im b o hi hb (fun ho=>oC (.inl (own b ho)))⟩
theorem CO:∀ {l:List AV} {n i:Nat},(i < n∨n+l.length≤i→lk (LQ n l) i=.none)∧(∀ a,l[i - n]?=some a→n≤i→lk (LQ n l) i=.v a)
 | [],n,i=>⟨fun _=>rfl,fun a h=>by simp at h⟩
 | b :: l,n,i=>by
  obtain ⟨h1,h2⟩:=CO (l:=l) (n:=n+1) (i:=i)
  refine ⟨fun h=>?_,fun a h hn=>?_⟩
  ·simp only [List.length_cons] at h
   simp only [LQ]
   rw [aC (by omega)]
   exact h1 (by omega)
  ·simp only [LQ]
   by_cases e:n=i
   ·subst e
    rw [au]
    simp at h
    rw [h]
   ·rw [aC e]
    refine h2 a ?_ (by omega)
    have:i - n=(i - (n+1))+1:=by omega
    rw [this] at h
    simpa using h
theorem CP {ntmps:Nat} {args:List AV} {cs:List Value} {G:List GO} (hg:cu E R w G) (hl:aA R w args cs) :
  aP E R w (fun _=>0) (St.init ntmps args G) { tmps:=⟨cs⟩++Array.replicate (ntmps - (⟨cs⟩:Array Value).size) undef,defers:=[] }:=by
 have hlen:=hl.length
 refine ⟨hg,⟨fun k c hk=>?_,fun k k' c c' hk _ _=>?_⟩,fun i hi=>?_,?_,trivial⟩
 ·simp [St.init,cz] at hk
 ·simp [St.init,cz] at hk
 ·simp only [St.init] at hi ⊢
  obtain ⟨h1,h2⟩:=CO (l:=args) (n:=0) (i:=i)
  by_cases bD:i < args.length
  ·have hy:args[i]?=some args[i]:=List.getElem?_eq_getElem bD
   obtain ⟨c,k1,k2⟩:=hl.get hy
   rw [h2 _ (by rw [Nat.sub_zero]; exact hy) (Nat.zero_le _)]
   refine ⟨c,?_,k2⟩
   rw [Array.getElem?_append_left (by simp; omega)]
   simpa using k1
  ·exact absurd (h1 (by omega)) hi
 ·simp [St.init]
  omega
theorem yV {ntmps:Nat} {args:List AV} {G:List GO} (k:Nat) (cs:List AV):cz (St.init ntmps args G).boxes k≠some cs:=by
 simp [St.init,cz]
theorem bR.intro {g : FuncId} {fn : Func} {c : Code} {args : List AV} {G : List GO} {Q : AV → List GO → Prop} (hf : E.P.funcs[g]? = some fn) (hb : fn.body = some c) (hn : (fn.name == "runtime.NumGoroutine") = false)
  (h:dS E c (ID E fn Q) (St.init fn.ntmps args G)):bR E g args G Q:=by
 refine ⟨⟨fn,hf,by simp [hb],hn⟩,fun R w cs hg hl=>?_⟩
 refine callsIn_of_wp_marks hf hb trivial (wpIn_mono (h R w (fun _=>0) _ Fence.wide (CP hg hl) rfl) ?_)
 rintro e a' w' ⟨s',R',β',hq,hr,iA,bj⟩
 have fin:(match kJ s'.marks s'.G with
  | some G=>match CM E (s'.bp G) fn with
   | some r=>Q r G
   | none=>False
  | none=>False)→LeavesInM Fence.wide 0 E.P fn a'.tmps (Aj E R w Q) a'.defers .returning w':=by
  intro hq
  split at hq
  ·rename_i G2 M0
   split at hq
   ·rename_i r yW
    refine Bn fn (Aj E R w Q) (s:=s') (G:=s'.G) hr hr.d M0 (fun Iu uT px=>?_)
    obtain ⟨v,h1,h2⟩:=CN uT yW
    exact ⟨v,h1,r,G2,R',hq,h2,uT.g,rK (iA.trans px) yV⟩
   ·exact hq.elim
  ·exact hq.elim
 cases e with
 | normal=>exact fin hq
 | ret=>exact fin hq
 | exit _=>exact hq.elim
 | goto _=>exact hq.elim
 | panic _=>exact hq.elim
 | outgrown=>exact hq.elim
end intro
end Go.Am
namespace Go.Am
open Go
def St.dv (s:St) (pre:aL) (preB:bK) (G:List GO):St:=⟨pre++s.ae,preB++s.boxes,G,s.marks,s.ro,s.n⟩
def LR (al:Bool) (dst:Option Tmp) (pre:aL):Prop:=
 pre=[]∨∃ d x,dst=some d∧(pre=[.put d x]∨(al=true∧pre=[.put d x,.kill d]))
def bc (al w:Bool) (dst:Option Tmp) (s t s' t':St):Prop:=
 ∃ pre preB G,LR al dst pre∧(w=false→preB=[]∧G=s.G∧∃ x,s'=s.put dst x∧t'=t.put dst x)∧s'=s.dv pre preB G∧t'=t.dv pre preB G
section
variable {E:Env} {s t:St} {o:Oper}
theorem iJ (s:St) (d:Tmp) (x:SV):s.put (some d) x=bif Nat.blt d s.n then s.dv [.put d x] [] s.G else s:=by
 cases h:Nat.blt d s.n <;> simp [St.put,h,St.dv]
theorem bc.put {al w:Bool} (hn:s.n=t.n) (hG:s.G=t.G) (dst:Option Tmp) (x:SV):bc al w dst s t (s.put dst x) (t.put dst x):=by
 cases dst with
 | none=>exact ⟨[],[],s.G,.inl rfl,fun _=>⟨rfl,rfl,x,rfl,rfl⟩,rfl,by rw [hG]; rfl⟩
 | some d=>
  have hx:∃ y,s.put (some d) x=s.put (some d) y∧t.put (some d) x=t.put (some d) y:=⟨x,rfl,rfl⟩
  revert hx
  generalize hs:s.put (some d) x=s'
  generalize ht:t.put (some d) x=t'
  intro hx
  rw [iJ] at hs ht
  rw [← hn] at ht
  revert hs ht
  cases Nat.blt d s.n with
  | true=>exact fun hs ht=>⟨[.put d x],[],s.G,.inr ⟨d,x,rfl,.inl rfl⟩,fun _=>⟨rfl,rfl,hx⟩,hs.symm,by rw [hG]; exact ht.symm⟩
  | false=>exact fun hs ht=>⟨[],[],s.G,.inl rfl,fun _=>⟨rfl,rfl,hx⟩,hs.symm,by rw [hG]; exact ht.symm⟩
theorem bc.cm {al:Bool} (hn:s.n=t.n) (G:List GO) (dst:Option Tmp) (x:SV):bc al true dst s t ((s.bp G).put dst x) ((t.bp G).put dst x):=by
 cases dst with
 | none=>exact ⟨[],[],G,.inl rfl,fun h=>(by cases h),rfl,rfl⟩
 | some d=>
  rw [iJ,iJ,show (t.bp G).n=(s.bp G).n from hn.symm]
  cases Nat.blt d (s.bp G).n with
  | true=>exact ⟨[.put d x],[],G,.inr ⟨d,x,rfl,.inl rfl⟩,fun h=>(by cases h),rfl,rfl⟩
  | false=>exact ⟨[],[],G,.inl rfl,fun h=>(by cases h),rfl,rfl⟩
theorem bc.bp {al:Bool} (G:List GO) (dst:Option Tmp):bc al true dst s t (s.bp G) (t.bp G):=⟨[],[],G,.inl rfl,fun h=>(by cases h),rfl,rfl⟩
theorem bc.pU {al:Bool} (hG:s.G=t.G) (dst:Option Tmp) (d:Nat) (cs:List AV):bc al true dst s t (s.pU d cs) (t.pU d cs):=
 ⟨[],[(d,cs)],s.G,.inl rfl,fun h=>(by cases h),rfl,(by rw [hG]; rfl)⟩
theorem eh {a b:aL}:∀ {l:List Operand},(∀ y∈l,aY E a y=aY E b y)→jf E a l=jf E b l
 | [],_=>rfl
 | x :: l,h=>by
  simp only [jf]
  rw [h x (by simp),eh (l:=l) (fun y hy=>h y (by simp [hy]))]
theorem jw {a b:aL}:∀ {l:List (Nat × Operand)},(∀ p∈l,aY E a p.2=aY E b p.2)→EU E a l=EU E b l
 | [],_=>rfl
 | (i,x) :: l,h=>by
  simp only [EU]
  rw [h (i,x) (by simp),jw (l:=l) (fun y hy=>h y (by simp [hy]))]
theorem tp (hG:s.G=t.G) (p:SV) (hB:∀ k off,p=.lp k off→cz s.boxes k=cz t.boxes k):jF s p=jF t p:=by
 unfold jF
 rw [hG]
 cases p with
 | lp k off=>simp only [hB k off rfl]
 | v a=>cases a <;> rfl
 | _=>rfl
theorem wE (hG:s.G=t.G) (ty:TypeId) (p:SV) (hB:∀ k off,p=.lp k off→cz s.boxes k=cz t.boxes k):mT E s ty p=mT E t ty p:=by
 unfold mT
 rw [tp hG p hB]
theorem py (hG:s.G=t.G) (id f i sz:Nat) (ty:TypeId):qM E s id f i sz ty=qM E t id f i sz ty:=by
 unfold qM
 rw [hG]
theorem wF (hG:s.G=t.G) (ty:TypeId) (p:SV) (hB:∀ k off,p=.lp k off→cz s.boxes k=cz t.boxes k):tH E s ty p=tH E t ty p:=by
 unfold tH
 split
 ·rw [py hG]
 ·rw [wE hG _ _ hB]
theorem wG (hG:s.G=t.G) (esz:Nat) (d x:AV):mV s esz d x=mV t esz d x:=by
 unfold mV
 rw [hG]
theorem pz {f:FuncId} {dst:Option Tmp} {el:TypeId} {cs:List AV} {c:Bool} {s':St} (hn:s.n=t.n) (hG:s.G=t.G) (h:dc E f s dst el cs=some (c,s')) :
  ∃ t',dc E f t dst el cs=some (c,t')∧bc true true dst s t s' t':=by
 unfold dc at *
 cases dst with
 | none=>cases h
 | some d=>
  simp only at *
  split at h
  ·rename_i hg
   injection h with h
   injection h with h1 h2
   subst h1 h2
   rw [if_pos hg]
   refine ⟨_,rfl,?_⟩
   have:=bc.cm (al:=true) hn (s.G++[.row cs el]) (some d) (.v (.ptr s.G.length 0))
   rw [hG] at this
   have e:s.cJ (.row cs el)=s.bp (t.G++[.row cs el]):=by rw [← hG]; rfl
   rw [e,hG]
   exact this
  ·rename_i hg
   rw [if_neg hg,← hn]
   split at h
   ·rename_i hb
    injection h with h
    injection h with h1 h2
    subst h1 h2
    refine ⟨_,rfl,[.put d (.lp d 0),.kill d],[(d,cs)],s.G,.inr ⟨d,_,rfl,.inr ⟨rfl,rfl⟩⟩,fun h=>(by cases h),?_,?_⟩
    ·simp [St.put,St.pU,St.kill,hb,St.dv]
    ·simp only [St.put,St.pU,St.kill,← hn,hb,St.dv,hG]
     rfl
   ·cases h
theorem wH {ty:TypeId} {p x:SV} {s':St} {al:Bool} {dst:Option Tmp} (hG:s.G=t.G) (hB:∀ k off,p=.lp k off→cz s.boxes k=cz t.boxes k) (h:fW E s ty p x=some s') :
  ∃ t',fW E t ty p x=some t'∧bc al true dst s t s' t':=by
 unfold fW at *
 split at h
 ·split at h
  ·rename_i hc
   rw [if_pos hc]
   split at h
   ·rw [← hB _ _ rfl]
    split at h
    ·split at h
     ·rename_i Fw
      cases h
      simp only [Fw,if_true]
      exact ⟨_,rfl,.pU hG _ _ _⟩
     ·cases h
    ·cases h
   ·rw [← hG]
    split at h
    ·split at h
     ·rename_i Fw
      cases h
      simp only [Fw,if_true]
      exact ⟨_,rfl,.bp _ _⟩
     ·cases h
    ·cases h
   ·cases h
  ·cases h
 ·cases h
theorem wI {ty:TypeId} {p x:SV} {c:Bool} {s':St} {al:Bool} {dst:Option Tmp} (hG:s.G=t.G) (hB:∀ k off,p=.lp k off→cz s.boxes k=cz t.boxes k) (h:fX E s ty p x=some (c,s')) :
  ∃ t',fX E t ty p x=some (c,t')∧bc al true dst s t s' t':=by
 unfold fX at *
 split at h
 ·rw [← hG]
  split at h
  ·split at h
   ·rename_i h1 h2 hc
    simp only [hc,if_true]
    split at h
    ·rename_i Fw
     injection h with h; injection h with e1 e2
     subst e1; subst e2
     simp only [Fw,if_true]
     exact ⟨_,rfl,.bp _ _⟩
    ·rename_i Fw
     rw [if_neg Fw,← py hG]
     split at h
     ·rename_i hg
      split at h
      ·rename_i SK
       injection h with h; injection h with e1 e2
       subst e1; subst e2
       simp only [SK,if_true]
       exact ⟨_,rfl,.bp _ _⟩
      ·cases h
     ·cases h
   ·cases h
  ·cases h
 ·split at h
  ·rename_i s1 hs
   injection h with h; injection h with e1 e2
   subst e1; subst e2
   obtain ⟨t',h3,h4⟩:=wH (al:=al) (dst:=dst) hG hB hs
   simp only [h3]
   exact ⟨_,rfl,h4⟩
  ·cases h
def bh:Op→Bool
 | .alloc _=>true
 | .box _ _=>true
 | _=>false
def n5:Op→Bool
 | .move _ | .assign _ | .pick _ _ _ | .build _ _ | .buildSlice _ _ _ | .load _ _ | .binOp _ _ _ _ _ | .unOp _ _ _ | .convert _ _ _ | .makeFunc _ _ _ | .fieldAddr _ _ _ | .field _ _ _
 | .indexAddr _ _ _ | .index _ _ _ | .slice _ _ _ _ _ | .extract _ _ | .lookup _ _ _ _ | .nilCheck _=>true
 | .call { callee:=.builtin .len,.. }=>true
 | .call { callee:=.builtin .max,.. }=>true
 | .call { callee:=.builtin .min,.. }=>true
 | _=>false
def JW:Op→Bool
 | .load _ _=>true
 | .lookup _ _ _ _=>true
 | .call _=>true
 | .convert _ _ _=>true
 | _=>false
def Fx:Builtin→Bool
 | .append | .copy | .clear=>true
 | _=>false
theorem tq {dst:Option Tmp} {b:Builtin} {l:List AV} {tys:List TypeId} {c:Bool} {s':St} {al:Bool} (hn:s.n=t.n) (hG:s.G=t.G) (h:bf E s dst b l tys=some (c,s')) :
  ∃ t',bf E t dst b l tys=some (c,t')∧bc al (Fx b) dst s t s' t':=by
 obtain ⟨sl,bx,G,m,ro,n⟩:=s
 obtain ⟨LS,B8,G',m',jg,n'⟩:=t
 have hc:=fun esz d x=>wG (s:=⟨sl,bx,G,m,ro,n⟩) (t:=⟨LS,B8,G',m',jg,n'⟩) hG esz d x
 simp only at hn hG
 subst hn hG
 unfold bf at h ⊢
 simp only [← hc]
 cases b
 all_goals (try (cases h; done))
 all_goals (try simp only at h ⊢)
 all_goals (try (split at h <;> first | (cases h; done) | simp only at h ⊢))
 all_goals (repeat' (split at h))
 all_goals (first | (cases h; done) | skip)
 all_goals (injection h with h; injection h with h1 h2; subst h1 h2)
 all_goals (try simp only [if_true, *])
 all_goals (first | exact ⟨_,rfl,.put (by rfl) (by rfl) _ _⟩ | exact ⟨_,rfl,.cm (by rfl) _ _ _⟩ | exact ⟨_,rfl,.bp _ _⟩)
theorem rL (hG:s.G=t.G) (a b:TypeId) (x:SV):jk E s a b x=jk E t a b x:=by
 unfold jk
 rw [hG]
theorem tu (hG:s.G=t.G) (ty:TypeId) (m k:SV):iF E s ty m k=iF E t ty m k:=by
 have:mapOf s=mapOf t:=by funext m; unfold mapOf; rw [hG]
 unfold iF fI
 rw [this,hG]
theorem nF {ty:TypeId} {m k x:SV} {s':St} {al:Bool} {dst:Option Tmp} (hG:s.G=t.G) (h:de E s ty m k x=some s') :
  ∃ t',de E t ty m k x=some t'∧bc al true dst s t s' t':=by
 unfold de at *
 rw [← hG]
 repeat' (split at h)
 all_goals (first | (cases h; done) | skip)
 cases h
 simp only [*]
 exact ⟨_,rfl,.bp _ _⟩
theorem yX {dst:Option Tmp} {x:SV} {s':St} {al:Bool} (hn:s.n=t.n) (hG:s.G=t.G) (h:iG s dst x=some s') :
  ∃ t',iG t dst x=some t'∧bc al true dst s t s' t':=by
 unfold iG at *
 rw [← hG]
 split at h
 ·split at h
  ·rename_i l pos hg
   cases hb:Nat.blt pos l.length with
   | true=>
    rw [hb] at h
    simp only [cond_true] at h ⊢
    cases h
    exact ⟨_,rfl,.cm hn _ _ _⟩
   | false=>
    rw [hb] at h
    simp only [cond_false] at h ⊢
    cases h
    obtain ⟨pre,preB,G,p1,p2,p3⟩:=bc.put (al:=al) (w:=true) hn hG dst (.v (.aR [.bool false]))
    exact ⟨_,rfl,pre,preB,G,p1,p2,p3⟩
  ·cases h
 ·cases h
theorem jV {f:FuncId} {r:Bool × St} (h:eA E f s o=some r):∃ args tys,o.op=.call { callee:=.builtin .append,args:=args,argTypes:=tys }:=by
 unfold eA at h
 split at h
 ·split at h
  ·split at h
   ·rename_i args tys ho
    exact ⟨args,tys,ho⟩
   ·cases h
  ·cases h
 ·cases h
theorem rM {f:FuncId} {c:Bool} {s':St} {al:Bool} (hn:s.n=t.n) (hG:s.G=t.G) (cS:∀ y∈o.op.operands,aY E s.ae y=aY E t.ae y)
  (h:eA E f s o=some (c,s')):∃ t',eA E f t o=some (c,t')∧bc al true o.dst s t s' t':=by
 obtain ⟨args,tys,ho⟩:=jV h
 have h1:jf E s.ae args.toList=jf E t.ae args.toList:=eh fun y hy=>cS y (by rw [ho]; simp [Op.operands,Call.operands]; simpa using hy)
 unfold eA at h ⊢
 rw [ho] at h ⊢
 simp only [h1,hG] at h ⊢
 repeat' (split at h)
 all_goals (first | (cases h; done) | skip)
 injection h with h; injection h with h2 h3
 subst h2 h3
 simp only [*,if_true]
 refine ⟨_,rfl,?_⟩
 exact bc.cm hn _ _ _
theorem qc {f:FuncId} (hn:s.n=t.n) (hG:s.G=t.G) (cS:∀ y∈o.op.operands,aY E s.ae y=aY E t.ae y) (h:eA E f s o=none):eA E f t o=none:=by
 cases ht:eA E f t o with
 | none=>rfl
 | some r=>
  obtain ⟨t',h1,_⟩:=rM (s:=t) (t:=s) (al:=false) hn.symm hG.symm (fun y hy=>(cS y hy).symm) (c:=r.1) (s':=r.2) ht
  rw [h] at h1
  cases h1
theorem nG {f:FuncId} {c:Bool} {s':St} (hn:s.n=t.n) (hG:s.G=t.G) (hB:∀ k off,(∃ y∈o.op.operands,aY E s.ae y=.lp k off)→cz s.boxes k=cz t.boxes k) (cS:∀ y∈o.op.operands,aY E s.ae y=aY E t.ae y)
  (h:aj E f s o=some (c,s')):∃ t',aj E f t o=some (c,t')∧bc (bh o.op) (!n5 o.op) o.dst s t s' t':=by
 obtain ⟨dst,op,ty,pos,after,guard⟩:=o
 cases op
 case move x=>
  simp only [aj,cS x (by simp [Op.operands])] at h ⊢
  split at h
  all_goals (injection h with h; injection h with h1 h2; subst h1 h2; (try simp only [*]); exact ⟨_,rfl,.put hn hG _ _⟩)
 case assign x=>
  simp only [aj,cS x (by simp [Op.operands])] at h ⊢
  split at h
  all_goals (injection h with h; injection h with h1 h2; subst h1 h2; (try simp only [*]); exact ⟨_,rfl,.put hn hG _ _⟩)
 case pick x y z=>
  simp only [aj,cS x (by simp [Op.operands]),cS y (by simp [Op.operands]),cS z (by simp [Op.operands])] at h ⊢
  split at h
  ·injection h with h; injection h with h1 h2; subst h1 h2; (try simp only [*]); exact ⟨_,rfl,.put hn hG _ _⟩
  ·cases h
 case alloc e=>
  simp only [aj] at h ⊢
  repeat' (split at h)
  all_goals (first | (cases h; done) | skip)
  simp only [*]
  exact pz hn hG h
 case box e x=>
  simp only [aj,cS x (by simp [Op.operands])] at h ⊢
  repeat' (split at h)
  all_goals (first | (cases h; done) | skip)
  simp only [*]
  exact pz hn hG h
 case build ty ps=>
  have he:jG E s ty ps.toList=jG E t ty ps.toList:=by
   unfold jG
   rw [jw (fun p hp=>cS p.2 (by simp only [Op.operands,List.mem_toArray,List.mem_map]; exact ⟨p,hp,rfl⟩))]
  simp only [aj,he] at h ⊢
  split at h
  ·injection h with h; injection h with h1 h2; subst h1 h2; (try simp only [*]); exact ⟨_,rfl,.put hn hG _ _⟩
  ·cases h
 case buildSlice ty len ps=>
  have he:bq E s ty len ps.toList=bq E t ty len ps.toList:=by
   unfold bq
   rw [jw (fun p hp=>cS p.2 (by simp only [Op.operands,List.mem_toArray,List.mem_map]; exact ⟨p,hp,rfl⟩))]
  simp only [aj,he] at h ⊢
  split at h
  ·injection h with h; injection h with h1 h2; subst h1 h2; (try simp only [*]); exact ⟨_,rfl,.put hn hG _ _⟩
  ·cases h
 case load ty x=>
  simp only [aj,cS x (by simp [Op.operands])] at h ⊢
  rw [wF hG ty _ (fun k off e=>hB k off ⟨x,by simp [Op.operands],by rw [cS x (by simp [Op.operands])]; exact e⟩)] at h
  split at h
  ·injection h with h; injection h with h1 h2; subst h1 h2; (try simp only [*]); exact ⟨_,rfl,.put hn hG _ _⟩
  ·cases h
 case store ty x y=>
  simp only [aj,cS x (by simp [Op.operands]),cS y (by simp [Op.operands])] at h ⊢
  split at h
  ·rename_i s1 hs
   injection h with h; injection h with h1 h2; subst h1 h2
   obtain ⟨t',h3,h4⟩:=wI (al:=false) (dst:=none) hG (fun k off e=>hB k off ⟨x,by simp [Op.operands],by rw [cS x (by simp [Op.operands])]; exact e⟩) hs
   rw [h3]
   exact ⟨_,rfl,h4⟩
  ·cases h
 case binOp op a x y b=>
  simp only [aj,cS x (by simp [Op.operands]),cS y (by simp [Op.operands])] at h ⊢
  repeat' (split at h)
  all_goals (first | (cases h; done) | skip)
  all_goals (injection h with h; injection h with h1 h2; subst h1 h2; (try simp only [*]); exact ⟨_,rfl,.put hn hG _ _⟩)
 case unOp op a x=>
  simp only [aj,cS x (by simp [Op.operands])] at h ⊢
  repeat' (split at h)
  all_goals (first | (cases h; done) | skip)
  all_goals (injection h with h; injection h with h1 h2; subst h1 h2; (try simp only [*]); exact ⟨_,rfl,.put hn hG _ _⟩)
 case nilCheck x=>
  simp only [aj,cS x (by simp [Op.operands])] at h ⊢
  repeat' (split at h)
  all_goals (first | (cases h; done) | skip)
  all_goals (injection h with h; injection h with h1 h2; subst h1 h2; (try simp only [*]); exact ⟨_,rfl,.put hn hG _ _⟩)
 case convert a b x=>
  simp only [aj,cS x (by simp [Op.operands]),rL hG] at h ⊢
  repeat' (split at h)
  all_goals (first | (cases h; done) | skip)
  all_goals (injection h with h; injection h with h1 h2; subst h1 h2; (try simp only [*]); exact ⟨_,rfl,.put hn hG _ _⟩)
 case makeFunc fo a b=>
  cases fo with
  | func g=>
   have h1:jf E s.ae a.toList=jf E t.ae a.toList:=eh fun y hy=>cS y (by simp only [Op.operands,Array.mem_append]; exact .inl (by simpa using hy))
   have h2:jf E s.ae b.toList=jf E t.ae b.toList:=eh fun y hy=>cS y (by simp only [Op.operands,Array.mem_append]; exact .inr (by simpa using hy))
   simp only [aj,h1,h2] at h ⊢
   repeat' (split at h)
   all_goals (first | (cases h; done) | skip)
   all_goals (injection h with h; injection h with h1 h2; subst h1 h2; (try simp only [*]); exact ⟨_,rfl,.put hn hG _ _⟩)
  | _=>simp [aj] at h
 case fieldAddr a x j=>
  simp only [aj,cS x (by simp [Op.operands])] at h ⊢
  repeat' (split at h)
  all_goals (first | (cases h; done) | skip)
  all_goals (injection h with h; injection h with h1 h2; subst h1 h2; (try simp only [*]); exact ⟨_,rfl,.put hn hG _ _⟩)
 case field a x j=>
  simp only [aj,cS x (by simp [Op.operands])] at h ⊢
  repeat' (split at h)
  all_goals (first | (cases h; done) | skip)
  all_goals (injection h with h; injection h with h1 h2; subst h1 h2; (try simp only [*]); exact ⟨_,rfl,.put hn hG _ _⟩)
 case indexAddr a x y=>
  simp only [aj,cS x (by simp [Op.operands]),cS y (by simp [Op.operands])] at h ⊢
  repeat' (split at h)
  all_goals (first | (cases h; done) | skip)
  all_goals (injection h with h; injection h with h1 h2; subst h1 h2; (try simp only [*]); exact ⟨_,rfl,.put hn hG _ _⟩)
 case index a x y=>
  simp only [aj,cS x (by simp [Op.operands]),cS y (by simp [Op.operands])] at h ⊢
  repeat' (split at h)
  all_goals (first | (cases h; done) | skip)
  all_goals (injection h with h; injection h with h1 h2; subst h1 h2; (try simp only [*]); exact ⟨_,rfl,.put hn hG _ _⟩)
 case slice a x lo hi mx=>
  have h1:jH E s.ae lo=jH E t.ae lo:=by
   cases lo with
   | none=>rfl
   | some y=>simp only [jH]; rw [cS y (by simp [Op.operands])]
  have h2:jH E s.ae hi=jH E t.ae hi:=by
   cases hi with
   | none=>rfl
   | some y=>simp only [jH]; rw [cS y (by simp [Op.operands])]
  simp only [aj,cS x (by simp [Op.operands]),h1,h2] at h ⊢
  repeat' (split at h)
  all_goals (first | (cases h; done) | skip)
  all_goals (injection h with h; injection h with h1 h2; subst h1 h2; (try simp only [*]); exact ⟨_,rfl,.put hn hG _ _⟩)
 case extract x i=>
  simp only [aj,cS x (by simp [Op.operands])] at h ⊢
  repeat' (split at h)
  all_goals (first | (cases h; done) | skip)
  all_goals (injection h with h; injection h with h1 h2; subst h1 h2; (try simp only [*]); exact ⟨_,rfl,.put hn hG _ _⟩)
 case makeSlice ty x y=>
  simp only [aj,cS x (by simp [Op.operands]),cS y (by simp [Op.operands])] at h ⊢
  repeat' (split at h)
  all_goals (first | (cases h; done) | skip)
  all_goals (injection h with h; injection h with h1 h2; subst h1 h2)
  all_goals (simp only [*])
  all_goals (refine ⟨_,rfl,?_⟩)
  all_goals (have e:∀ o,t.cJ o=t.bp (s.G++[o]):=fun o=>by rw [hG]; rfl)
  all_goals (rw [e,← hG])
  all_goals (exact bc.cm (al:=false) hn _ dst _)
 case lookup ty x y ok=>
  simp only [aj,cS x (by simp [Op.operands]),cS y (by simp [Op.operands]),tu hG] at h ⊢
  split at h
  ·injection h with h; injection h with h1 h2; subst h1 h2; (try simp only [*]); exact ⟨_,rfl,.put hn hG _ _⟩
  ·cases h
 case mapUpdate ty x y z=>
  simp only [aj,cS x (by simp [Op.operands]),cS y (by simp [Op.operands]),cS z (by simp [Op.operands])] at h ⊢
  split at h
  ·rename_i s1 hs
   injection h with h; injection h with h1 h2; subst h1 h2
   obtain ⟨t',h3,h4⟩:=nF (al:=false) (dst:=none) hG hs
   rw [h3]
   exact ⟨_,rfl,h4⟩
  ·cases h
 case insert ty x y z=>
  simp only [aj,cS x (by simp [Op.operands]),cS y (by simp [Op.operands]),cS z (by simp [Op.operands])] at h ⊢
  split at h
  ·rename_i s1 hs
   injection h with h; injection h with h1 h2; subst h1 h2
   obtain ⟨t',h3,h4⟩:=nF (al:=false) (dst:=none) hG hs
   rw [h3]
   exact ⟨_,rfl,h4⟩
  ·cases h
 case entry x=>
  simp only [aj,cS x (by simp [Op.operands])] at h ⊢
  have e:ol E s (aY E t.ae x)=ol E t (aY E t.ae x):=by unfold ol; rw [hG]
  rw [e] at h
  split at h
  ·injection h with h; injection h with h1 h2; subst h1 h2; (try simp only [*]); exact ⟨_,rfl,.put hn hG _ _⟩
  ·cases h
 case mapEntry ty x y=>
  simp only [aj,cS x (by simp [Op.operands]),cS y (by simp [Op.operands])] at h ⊢
  unfold ea at h ⊢
  rw [← hG]
  repeat' (split at h)
  all_goals (first | (cases h; done) | skip)
  rename_i gJ
  repeat' (split at gJ)
  all_goals (first | (cases gJ; done) | skip)
  injection gJ with gJ; injection gJ with h3 gJ; injection gJ with h4 h5
  injection h with h; injection h with h1 h2; subst h1 h2 h3 h4 h5
  simp only [*,if_true]
  exact ⟨_,rfl,bc.cm (al:=false) hn _ dst _⟩
 case entryStore ty x y z=>
  simp only [aj,cS x (by simp [Op.operands]),cS y (by simp [Op.operands]),cS z (by simp [Op.operands])] at h ⊢
  unfold cQ at h ⊢
  rw [← hG]
  repeat' (split at h)
  all_goals (first | (cases h; done) | skip)
  rename_i gJ
  repeat' (split at gJ)
  all_goals (first | (cases gJ; done) | skip)
  injection gJ with gJ; injection gJ with h3 h5
  injection h with h; injection h with h1 h2; subst h1 h2 h3 h5
  simp only [*]
  exact ⟨_,rfl,.bp _ _⟩
 case range ty x=>
  simp only [aj,cS x (by simp [Op.operands])] at h ⊢
  repeat' (split at h)
  all_goals (first | (cases h; done) | skip)
  ·injection h with h; injection h with h1 h2; subst h1 h2
   (try simp only [*])
   refine ⟨_,rfl,?_⟩
   have e:∀ o,t.cJ o=t.bp (s.G++[o]):=fun o=>by rw [hG]; rfl
   rw [e,← hG]
   exact bc.cm (al:=false) hn _ dst _
  ·rename_i hk hg
   injection h with h; injection h with h1 h2; subst h1 h2
   have mi:=hg
   rw [hG] at mi
   simp only [hk,mi]
   refine ⟨_,rfl,?_⟩
   have e:∀ o,t.cJ o=t.bp (s.G++[o]):=fun o=>by rw [hG]; rfl
   rw [e,← hG]
   exact bc.cm (al:=false) hn _ dst _
 case next x b=>
  cases b with
  | false=>simp [aj] at h
  | true=>
   simp only [aj,cS x (by simp [Op.operands])] at h ⊢
   split at h
   ·rename_i s1 hs
    injection h with h; injection h with h1 h2; subst h1 h2
    obtain ⟨t',h3,h4⟩:=yX (al:=false) hn hG hs
    rw [h3]
    exact ⟨_,rfl,h4⟩
   ·cases h
 case makeMap ty r=>
  cases r with
  | none=>
   simp only [aj] at h ⊢
   injection h with h; injection h with h1 h2; subst h1 h2
   refine ⟨_,rfl,?_⟩
   have:=bc.cm (al:=false) hn (s.G++[.map []]) dst (.v (.map s.G.length))
   have e:∀ o,t.cJ o=t.bp (s.G++[o]):=fun o=>by rw [hG]; rfl
   rw [e,← hG]
   exact this
  | some _=>simp [aj] at h
 case call cl=>
  obtain ⟨callee,args,tys⟩:=cl
  cases callee with
  | builtin b=>
   have h1:jf E s.ae args.toList=jf E t.ae args.toList:=eh fun y hy=>cS y (by simp [Op.operands,Call.operands]; simpa using hy)
   cases hf:eA E f s { dst:=dst,op:=.call { callee:=.builtin b,args:=args,argTypes:=tys },type:=ty,pos:=pos,after:=after,guard:=guard } with
   | some r=>
    simp only [aj,hf] at h
    obtain ⟨t',q1,q2⟩:=rM (al:=bh (.call { callee:=.builtin b,args:=args,argTypes:=tys })) hn hG cS (c:=r.1) (s':=r.2) hf
    cases h
    obtain ⟨a2,t2,ho⟩:=jV hf
    cases ho
    refine ⟨t',by simp only [aj,q1],?_⟩
    exact q2
   | none=>
   have MN:=qc hn hG cS hf
   simp only [aj,hf,MN,h1] at h ⊢
   split at h
   ·(try simp only [*])
    obtain ⟨t',h3,h4⟩:=tq (al:=false) hn hG h
    refine ⟨t',h3,?_⟩
    have:(!n5 (.call { callee:=.builtin b,args:=args,argTypes:=tys }))=Fx b∨Fx b=false:=by cases b <;> simp [n5,Fx]
    rcases this with this | this
    ·rw [this]; exact h4
    ·obtain ⟨pre,preB,G,p1,p2,p3⟩:=h4
     exact ⟨pre,preB,G,p1,fun _=>p2 this,p3⟩
   ·cases h
  | _=>simp [aj] at h
 all_goals (simp [aj] at h)
theorem eW {f:FuncId} {c:Bool} {s':St} (hn:s.n=t.n) (hG:s.G=t.G) (hB:cz s.boxes=cz t.boxes) (cS:∀ y∈o.op.operands,aY E s.ae y=aY E t.ae y)
  (h:aj E f s o=some (c,s')):∃ t',aj E f t o=some (c,t')∧bc (bh o.op) (!n5 o.op) o.dst s t s' t':=
 nG hn hG (fun k _ _=>by rw [hB]) cS h
end
end Go.Am
namespace Go.Am
open Go
structure ln (s t:St):Prop where
 l:lk s.ae=lk t.ae
 b:cz s.boxes=cz t.boxes
 G:s.G=t.G
 m:s.marks=t.marks
 ro:s.ro=t.ro
 n:s.n=t.n
theorem ln.refl (s:St):ln s s:=⟨rfl,rfl,rfl,rfl,rfl,rfl⟩
theorem ln.symm {s t:St} (h:ln s t):ln t s:=⟨h.l.symm,h.b.symm,h.G.symm,h.m.symm,h.ro.symm,h.n.symm⟩
theorem ln.trans {s t u:St} (h:ln s t) (k:ln t u):ln s u:=⟨h.l.trans k.l,h.b.trans k.b,h.G.trans k.G,h.m.trans k.m,h.ro.trans k.ro,h.n.trans k.n⟩
theorem jx {a b:aL} {e:Nat} (h:lk a e=lk b e):∀ pre:aL,lk (pre++a) e=lk (pre++b) e
 | []=>h
 | .put d x :: pre=>by
  simp only [List.cons_append,lk]
  rw [jx h pre]
 | .kill d :: pre=>by
  simp only [List.cons_append,lk]
  rw [jx h pre]
theorem rN {a b:bK} {e:Nat} (h:cz a e=cz b e):∀ pre:bK,cz (pre++a) e=cz (pre++b) e
 | []=>h
 | (d,x) :: pre=>by
  simp only [List.cons_append,cz]
  rw [rN h pre]
theorem ln.dv {s t:St} (h:ln s t) (pre:aL) (preB:bK) (G:List GO):ln (s.dv pre preB G) (t.dv pre preB G):=
 ⟨funext fun e=>jx (by rw [h.l]) pre,funext fun e=>rN (by rw [h.b]) preB,rfl,h.m,h.ro,h.n⟩
theorem CQ {E:Env} {a b:aL} {x:Operand} (h:∀ t,x=.tmp t→lk a t=lk b t):aY E a x=aY E b x:=by
 cases x with
 | tmp t=>exact h t rfl
 | _=>rfl
theorem ln.aY {E:Env} {s t:St} (h:ln s t) (x:Operand):aY E s.ae x=aY E t.ae x:=CQ fun e _=>by rw [h.l]
section vJ
variable {E:Env} {R:ah} {w:World} {β:Nat→Nat} {s t:St} {a:Act}
theorem aP.eqv (h:aP E R w β s a) (e:ln s t):aP E R w β t a where
 g:=by rw [← e.G]; exact h.g
 b:=⟨fun k cs hk=>h.b.box k cs (by rw [e.b]; exact hk),fun k k' c c' h1 h2=>h.b.inj k k' c c' (by rw [e.b]; exact h1) (by rw [e.b]; exact h2)⟩
 t:=fun i hi=>by
  rw [← e.l] at hi ⊢
  exact h.t i hi
 n:=by rw [← e.n]; exact h.n
 d:=by rw [← e.m]; exact h.d
theorem qv {bx B8:bK} (h:cz bx=cz B8) {b:Nat} (k:Own R β bx b):Own R β B8 b:=by
 rcases k with k | ⟨j,cs,h1,h2⟩
 ·exact .inl k
 ·exact .inr ⟨j,cs,by rw [← h]; exact h1,h2⟩
theorem Step.eqv {R':ah} {w':World} {β':Nat→Nat} {bx B8 cx Rq:bK} (h:Step R w β bx R' w' β' B8) (h1:cz bx=cz cx) (h2:cz B8=cz Rq):Step R w β cx R' w' β' Rq:=
 ⟨h.ext,h.os,h.tape,h.output,h.size,fun b hb hn=>h.bA b hb (fun ho=>hn (qv h1 ho)),fun b hb ho=>qv h1 (h.own b hb (qv h2.symm ho)),fun b o hi hb hn=>h.im b o hi hb (fun ho=>hn (qv h1 ho))⟩
end vJ
section ops
variable {E:Env} {s t:St} {f:FuncId} {o:Oper} {K K':St→Prop}
def Inv (K:St→Prop):Prop:=∀ s t,ln s t→K s→K t
theorem wJ {op:Op} (h:n5 op=true):bh op=false:=by
 cases op <;> simp_all [n5,bh]
theorem oI (hn:s.n=t.n) (hG:s.G=t.G) (hB:cz s.boxes=cz t.boxes) (cS:∀ y∈o.op.operands,aY E s.ae y=aY E t.ae y) (h:gA E f o K s)
  (hK:∀ pre preB G,LR (bh o.op) o.dst pre→(n5 o.op=true→preB=[]∧G=s.G)→K (s.dv pre preB G)→K' (t.dv pre preB G)):gA E f o K' t:=by
 unfold gA at h ⊢
 split at h
 ·rename_i x args tys ho
  have h1:aY E s.ae x=aY E t.ae x:=cS x (by rw [ho]; simp [Op.operands,Call.operands])
  have h2:jf E s.ae args.toList=jf E t.ae args.toList:=eh fun y hy=>cS y (by rw [ho]; simp [Op.operands,Call.operands]; exact .inr (by simpa using hy))
  try simp only [ho]
  rw [← h1,← h2,← hG]
  split at h
  ·refine bR.mono h fun r G' hk=>?_
   obtain ⟨pre,preB,G,p1,p2,p3,p4⟩:=bc.cm (s:=s) (t:=t) (al:=bh o.op) hn G' o.dst (.v r)
   rw [p3] at hk
   rw [p4]
   exact hK pre preB G p1 (fun e=>by rw [ho] at e; simp [n5] at e) hk
  ·refine gV.mono h fun r G' hk=>?_
   obtain ⟨pre,preB,G,p1,p2,p3,p4⟩:=bc.cm (s:=s) (t:=t) (al:=bh o.op) hn G' o.dst (.v (.bool r))
   rw [p3] at hk
   rw [p4]
   exact hK pre preB G p1 (fun e=>by rw [ho] at e; simp [n5] at e) hk
  ·exact h.elim
 ·exact h.elim
 ·split at h
  ·rename_i c s' hs
   obtain ⟨t',h1,pre,preB,G,p1,p2,p3,p4⟩:=eW hn hG hB cS hs
   rw [h1]
   obtain ⟨rfl,hk⟩:=h.out
   refine cn.mk rfl ?_
   rw [p3] at hk
   rw [p4]
   exact hK pre preB G p1 (fun e=>⟨(p2 (by simp [e])).1,(p2 (by simp [e])).2.1⟩) hk
  ·exact h.elim
theorem oJ (h:gA E f o K s) (hK:∀ s,K s→K' s):gA E f o K' s:=
 oI rfl rfl rfl (fun _ _=>rfl) h fun _ _ _ _ _ hk=>hK _ hk
theorem rO (h:gA E f o K s) (e:ln s t) (hK:Inv K):gA E f o K t:=
 oI e.n e.G e.b (fun y _=>e.aY y) h fun _ _ _ _ _ hk=>hK _ _ (e.dv _ _ _) hk
def vK (ops:List Oper) (s:St) (o:Oper):Option Bool:=match o.guard with
 | none=>some true
 | some (j,want)=>match kH ops j with
  | some d=>match lk s.ae d with
   | .v (.bool b)=>some (b == want)
   | .v (.aR [])=>some false
   | _=>none
  | none=>none
theorem wK (s:St) {d:Tmp} {x:SV} (h:lk s.ae d=x):ln s (s.put (some d) x):=by
 simp only [St.put]
 split
 ·refine ⟨funext fun e=>?_,rfl,rfl,rfl,rfl,rfl⟩
  by_cases k:d=e
  ·subst k; rw [au]; exact h
  ·rw [aC k]
 ·exact ln.refl s
theorem ln.put {s t:St} (h:ln s t) (d:Option Tmp) (x:SV):ln (s.put d x) (t.put d x):=by
 obtain ⟨pre,preB,G,_,_,p3,p4⟩:=bc.put (s:=s) (t:=t) (al:=false) (w:=false) h.n h.G d x
 rw [p3,p4]
 exact h.dv _ _ _
theorem dV {ops:List Oper} (hK:Inv K):bw E f ops o K s↔(vK ops s o=some true∧gA E f o K s)∨(vK ops s o=some false∧K (s.put o.dst (.v dL))):=by
 unfold bw vK
 cases hg:o.guard with
 | none=>simp
 | some p=>
  obtain ⟨j,want⟩:=p
  simp only
  cases hd:kH ops j with
  | none=>simp
  | some d=>
   simp only
   cases hl:lk s.ae d with
   | none=>simp
   | lp _ _=>simp
   | v a=>
    cases a with
    | bool b=>
     have e1:b=want→ln s (s.put (some d) (.v (.bool want))):=fun e=>wK s (by rw [hl,e])
     have e2:b=(!want)→ln s (s.put (some d) (.v (.bool (!want)))):=fun e=>wK s (by rw [hl,e])
     constructor
     ·intro ⟨h1,h2⟩
      by_cases e:b=want
      ·exact .inl ⟨by simp [e],rO (h1 e) (e1 e).symm hK⟩
      ·have e':b=(!want):=by cases b <;> cases want <;> simp_all
       exact .inr ⟨by simp [e],hK _ _ ((e2 e').symm.put _ _) (h2 e')⟩
     ·rintro (⟨h1,h2⟩ | ⟨h1,h2⟩)
      ·have e:b=want:=by simpa using h1
       exact ⟨fun e=>rO h2 (e1 e) hK,fun e'=>by subst e; cases b <;> cases e'⟩
      ·have e:¬ b=want:=by simpa using h1
       exact ⟨fun k=>absurd k e,fun e'=>hK _ _ ((e2 e').put _ _) h2⟩
    | aR vs=>cases vs <;> simp
    | _=>simp
theorem bz {ops:List Oper} (h:bw E f ops o K s) (hK:∀ s,K s→K' s):bw E f ops o K' s:=by
 unfold bw at h ⊢
 split at h
 ·exact oJ h hK
 ·split at h
  ·exact h.elim
  ·split at h
   ·exact ⟨fun e=>oJ (h.1 e) hK,fun e=>hK _ (h.2 e)⟩
   ·exact hK _ h
   ·exact h.elim
theorem uV {ops:List Oper} (e:ln s t):vK ops s o=vK ops t o:=by
 unfold vK
 rw [e.l]
theorem wL {ops:List Oper} (hK:Inv K):Inv (bw E f ops o K):=fun s t e h=>by
 rw [dV hK] at h ⊢
 rcases h with ⟨h1,h2⟩ | ⟨h1,h2⟩
 ·exact .inl ⟨by rw [← uV e]; exact h1,rO h2 e hK⟩
 ·exact .inr ⟨by rw [← uV e]; exact h1,hK _ _ (e.put _ _) h2⟩
end ops
end Go.Am
namespace Go.Am
open Go
def CR (dst:Option Tmp) (s t s' t':St):Prop:=∃ x,s'=s.put dst x∧t'=t.put dst x
section
variable {E:Env} {s t:St} {o:Oper}
theorem CR.put (_:s.n=t.n) (dst:Option Tmp) (x:SV):CR dst s t (s.put dst x) (t.put dst x):=⟨x,rfl,rfl⟩
theorem wM {f:FuncId} {c:Bool} {s':St} (hN:n5 o.op=true) (hR:JW o.op=false) (hn:s.n=t.n) (cS:∀ y∈o.op.operands,aY E s.ae y=aY E t.ae y)
  (h:aj E f s o=some (c,s')):∃ t',aj E f t o=some (c,t')∧CR o.dst s t s' t':=by
 obtain ⟨dst,op,ty,pos,after,guard⟩:=o
 cases op
 case move x=>
  simp only [aj,cS x (by simp [Op.operands])] at h ⊢
  split at h
  all_goals (injection h with h; injection h with h1 h2; subst h1 h2; (try simp only [*]); exact ⟨_,rfl,.put hn _ _⟩)
 case assign x=>
  simp only [aj,cS x (by simp [Op.operands])] at h ⊢
  split at h
  all_goals (injection h with h; injection h with h1 h2; subst h1 h2; (try simp only [*]); exact ⟨_,rfl,.put hn _ _⟩)
 case pick x y z=>
  simp only [aj,cS x (by simp [Op.operands]),cS y (by simp [Op.operands]),cS z (by simp [Op.operands])] at h ⊢
  split at h
  ·injection h with h; injection h with h1 h2; subst h1 h2; (try simp only [*]); exact ⟨_,rfl,.put hn _ _⟩
  ·cases h
 case build ty ps=>
  have he:jG E s ty ps.toList=jG E t ty ps.toList:=by
   unfold jG
   rw [jw (fun p hp=>cS p.2 (by simp only [Op.operands,List.mem_toArray,List.mem_map]; exact ⟨p,hp,rfl⟩))]
  simp only [aj,he] at h ⊢
  split at h
  ·injection h with h; injection h with h1 h2; subst h1 h2; (try simp only [*]); exact ⟨_,rfl,.put hn _ _⟩
  ·cases h
 case buildSlice ty len ps=>
  have he:bq E s ty len ps.toList=bq E t ty len ps.toList:=by
   unfold bq
   rw [jw (fun p hp=>cS p.2 (by simp only [Op.operands,List.mem_toArray,List.mem_map]; exact ⟨p,hp,rfl⟩))]
  simp only [aj,he] at h ⊢
  split at h
  ·injection h with h; injection h with h1 h2; subst h1 h2; (try simp only [*]); exact ⟨_,rfl,.put hn _ _⟩
  ·cases h
 case binOp op a x y b=>
  simp only [aj,cS x (by simp [Op.operands]),cS y (by simp [Op.operands])] at h ⊢
  repeat' (split at h)
  all_goals (first | (cases h; done) | skip)
  all_goals (injection h with h; injection h with h1 h2; subst h1 h2; (try simp only [*]); exact ⟨_,rfl,.put hn _ _⟩)
 case unOp op a x=>
  simp only [aj,cS x (by simp [Op.operands])] at h ⊢
  repeat' (split at h)
  all_goals (first | (cases h; done) | skip)
  all_goals (injection h with h; injection h with h1 h2; subst h1 h2; (try simp only [*]); exact ⟨_,rfl,.put hn _ _⟩)
 case convert a b x=>simp [JW] at hR
 case nilCheck x=>
  simp only [aj,cS x (by simp [Op.operands])] at h ⊢
  repeat' (split at h)
  all_goals (first | (cases h; done) | skip)
  all_goals (injection h with h; injection h with h1 h2; subst h1 h2; (try simp only [*]); exact ⟨_,rfl,.put hn _ _⟩)
 case makeFunc fo a b=>
  cases fo with
  | func g=>
   have h1:jf E s.ae a.toList=jf E t.ae a.toList:=eh fun y hy=>cS y (by simp only [Op.operands,Array.mem_append]; exact .inl (by simpa using hy))
   have h2:jf E s.ae b.toList=jf E t.ae b.toList:=eh fun y hy=>cS y (by simp only [Op.operands,Array.mem_append]; exact .inr (by simpa using hy))
   simp only [aj,h1,h2] at h ⊢
   repeat' (split at h)
   all_goals (first | (cases h; done) | skip)
   all_goals (injection h with h; injection h with h1 h2; subst h1 h2; (try simp only [*]); exact ⟨_,rfl,.put hn _ _⟩)
  | _=>simp [aj] at h
 case fieldAddr a x j=>
  simp only [aj,cS x (by simp [Op.operands])] at h ⊢
  repeat' (split at h)
  all_goals (first | (cases h; done) | skip)
  all_goals (injection h with h; injection h with h1 h2; subst h1 h2; (try simp only [*]); exact ⟨_,rfl,.put hn _ _⟩)
 case field a x j=>
  simp only [aj,cS x (by simp [Op.operands])] at h ⊢
  repeat' (split at h)
  all_goals (first | (cases h; done) | skip)
  all_goals (injection h with h; injection h with h1 h2; subst h1 h2; (try simp only [*]); exact ⟨_,rfl,.put hn _ _⟩)
 case indexAddr a x y=>
  simp only [aj,cS x (by simp [Op.operands]),cS y (by simp [Op.operands])] at h ⊢
  repeat' (split at h)
  all_goals (first | (cases h; done) | skip)
  all_goals (injection h with h; injection h with h1 h2; subst h1 h2; (try simp only [*]); exact ⟨_,rfl,.put hn _ _⟩)
 case index a x y=>
  simp only [aj,cS x (by simp [Op.operands]),cS y (by simp [Op.operands])] at h ⊢
  repeat' (split at h)
  all_goals (first | (cases h; done) | skip)
  all_goals (injection h with h; injection h with h1 h2; subst h1 h2; (try simp only [*]); exact ⟨_,rfl,.put hn _ _⟩)
 case slice a x lo hi mx=>
  have h1:jH E s.ae lo=jH E t.ae lo:=by
   cases lo with
   | none=>rfl
   | some y=>simp only [jH]; rw [cS y (by simp [Op.operands])]
  have h2:jH E s.ae hi=jH E t.ae hi:=by
   cases hi with
   | none=>rfl
   | some y=>simp only [jH]; rw [cS y (by simp [Op.operands])]
  simp only [aj,cS x (by simp [Op.operands]),h1,h2] at h ⊢
  repeat' (split at h)
  all_goals (first | (cases h; done) | skip)
  all_goals (injection h with h; injection h with h1 h2; subst h1 h2; (try simp only [*]); exact ⟨_,rfl,.put hn _ _⟩)
 case extract x i=>
  simp only [aj,cS x (by simp [Op.operands])] at h ⊢
  repeat' (split at h)
  all_goals (first | (cases h; done) | skip)
  all_goals (injection h with h; injection h with h1 h2; subst h1 h2; (try simp only [*]); exact ⟨_,rfl,.put hn _ _⟩)
 all_goals (first | (simp [n5] at hN; done) | (simp [JW] at hR; done))
end
end Go.Am
namespace Go.Am
open Go
section
variable {E:Env} {s t:St} {f:FuncId} {ops:Array Oper} {o oj oi:Oper} {d:Tmp} {x:SV} {K:St→Prop}
theorem CS (ops:Array Oper) (j:Nat):kH ops.toList j=(ops[j]?).bind (·.dst):=by
 unfold kH
 rw [aJ,Array.getElem?_toList]
 cases ops[j]? <;> rfl
theorem jW {e:Tmp} (h:.tmp e∈o.op.operands):e∈o.looksAt ops:=
 List.mem_append_left _ (List.mem_filterMap.2 ⟨.tmp e,by simpa using h,rfl⟩)
theorem gd {j:Nat} {want:Bool} {e:Tmp} (h:o.guard=some (j,want)) (he:kH ops.toList j=some e):e∈o.looksAt ops:=by
 rw [CS] at he
 refine List.mem_append_right _ ?_
 rw [h]
 simp [he]
theorem gW (h:∀ e∈o.looksAt ops,lk s.ae e=lk t.ae e):∀ y∈o.op.operands,aY E s.ae y=aY E t.ae y:=fun _ hy=>
 CQ fun e he=>h e (jW (he ▸ hy))
theorem gL (h:∀ e∈o.looksAt ops,lk s.ae e=lk t.ae e):vK ops.toList s o=vK ops.toList t o:=by
 unfold vK
 split
 ·rfl
 ·rename_i j want hg
  split
  ·rename_i e he
   rw [h e (gd hg he)]
  ·rfl
theorem qw (s:St) (d:Tmp) (x:SV) {e:Nat} (h:d≠e):lk (s.put (some d) x).ae e=lk s.ae e:=by
 simp only [St.put]
 split
 ·exact aC h
 ·rfl
theorem dW (s:St) (d:Option Tmp) (x:SV):(s.put d x).boxes=s.boxes∧(s.put d x).G=s.G∧(s.put d x).n=s.n∧(s.put d x).marks=s.marks∧(s.put d x).ro=s.ro:=by
 cases d with
 | none=>exact ⟨rfl,rfl,rfl,rfl,rfl⟩
 | some d=>
  simp only [St.put]
  split <;> exact ⟨rfl,rfl,rfl,rfl,rfl⟩
def rP (E:Env) (f:FuncId) (ops:Array Oper) (o:Oper) (s:St) (x:SV):Prop:=
 (vK ops.toList s o=some true∧aj E f s o=some (true,s.put o.dst x))∨(vK ops.toList s o=some false∧x=.v dL)
theorem CT {c:Bool} {s':St} (hN:n5 o.op=true) (h:aj E f s o=some (c,s')):∃ x,s'=s.put o.dst x:=by
 obtain ⟨t',_,pre,preB,G,_,h2,_,_⟩:=eW (t:=s) rfl rfl rfl (fun _ _=>rfl) h
 obtain ⟨_,_,x,hx,_⟩:=h2 (by simp [hN])
 exact ⟨x,hx⟩
theorem CU (hN:n5 o.op=true):gA E f o K s↔∃ s',aj E f s o=some (true,s')∧K s':=by
 unfold gA
 split
 ·rename_i h
  rw [h] at hN
  simp [n5] at hN
 ·rename_i h
  rw [h] at hN
  simp [n5] at hN
 ·split
  ·rename_i c s' hs
   constructor
   ·intro h
    obtain ⟨rfl,hk⟩:=h.out
    exact ⟨s',hs,hk⟩
   ·rintro ⟨vY,h1,h2⟩
    rw [hs] at h1
    cases h1
    exact cn.mk rfl h2
  ·rename_i hs
   constructor
   ·exact fun h=>h.elim
   ·rintro ⟨vY,h1,_⟩
    rw [hs] at h1
    cases h1
theorem rQ (hN:n5 o.op=true) (hK:Inv K) (h:bw E f ops.toList o K s):∃ x,rP E f ops o s x∧K (s.put o.dst x):=by
 rcases (dV hK).1 h with ⟨h1,h2⟩ | ⟨h1,h2⟩
 ·obtain ⟨s',h3,h4⟩:=(CU hN).1 h2
  obtain ⟨x,rfl⟩:=CT hN h3
  exact ⟨x,.inl ⟨h1,h3⟩,h4⟩
 ·exact ⟨_,.inr ⟨h1,rfl⟩,h2⟩
theorem rR (hN:n5 o.op=true) (hK:Inv K) (hx:rP E f ops o s x) (h:K (s.put o.dst x)):bw E f ops.toList o K s:=by
 rw [dV hK]
 rcases hx with ⟨h1,h2⟩ | ⟨h1,rfl⟩
 ·exact .inl ⟨h1,(CU hN).2 ⟨_,h2,h⟩⟩
 ·exact .inr ⟨h1,h⟩
def yY (E:Env) (f:FuncId) (ops:List Oper) (o:Oper) (s:St):Prop:=match vK ops s o with
 | some true=>match o.dst,aj E f s o with
  | some d,some (c,s')=>c=true∧lk s'.ae d=lk s.ae d
  | _,_=>False
 | some false=>True
 | none=>False
theorem Fy (hN:n5 o.op=true) (hd:d∉o.looksAt ops) (bT:o.dst≠some d) (he:∀ e,d≠e→lk s.ae e=lk t.ae e) (hB:cz s.boxes=cz t.boxes) (hG:s.G=t.G) (hn:s.n=t.n)
  (h:yY E f ops.toList o s):yY E f ops.toList o t:=by
 have hl:∀ e∈o.looksAt ops,lk s.ae e=lk t.ae e:=fun e hm=>he e fun k=>hd (k ▸ hm)
 unfold yY at h ⊢
 rw [← gL hl]
 split
 ·rename_i hg
  rw [hg] at h
  simp only at h
  split at h
  ·rename_i e c s' Bo hs
   obtain ⟨t',h3,pre,preB,G,_,h4,_,_⟩:=eW hn hG hB (gW hl) hs
   obtain ⟨_,_,y,h5,h6⟩:=h4 (by simp [hN])
   rw [Bo,h3]
   refine ⟨h.1,?_⟩
   have Rr:d≠e:=fun k=>bT (by rw [Bo,k])
   have h7:=h.2
   rw [h5,Bo] at h7
   rw [h6,Bo,← he e Rr]
   simp only [St.put,← hn] at h7 ⊢
   split
   ·rename_i hb
    rw [hb] at h7
    simp only [au] at h7 ⊢
    exact h7
   ·exact (he e Rr).symm
  ·exact h.elim
 ·trivial
 ·rename_i hg
  rw [hg] at h
  exact h
theorem Fz (hN:n5 o.op=true) (e:ln s t) (h:yY E f ops.toList o s):yY E f ops.toList o t:=by
 unfold yY at h ⊢
 rw [← uV e]
 split
 ·rename_i hg
  rw [hg] at h
  simp only at h
  split at h
  ·rename_i d c s' Bo hs
   obtain ⟨t',h3,pre,preB,G,_,h4,_,_⟩:=eW e.n e.G e.b (fun y _=>e.aY y) hs
   obtain ⟨_,_,y,h5,h6⟩:=h4 (by simp [hN])
   rw [Bo,h3]
   refine ⟨h.1,?_⟩
   rw [h6,← (e.put o.dst y).l,← h5,← e.l]
   exact h.2
  ·exact h.elim
 ·trivial
 ·rename_i hg
  rw [hg] at h
  exact h
def fO (oj oi:Oper):Bool:=bh oi.op || (JW oj.op&&!n5 oi.op)
theorem CV {al:Bool} {dst:Option Tmp} {pre:aL} (h:LR al dst pre) {e:Nat} (he:dst≠some e) (l:aL):lk (pre++l) e=lk l e∨(al=true∧∃ k off,lk l e=.lp k off):=by
 rcases h with rfl | ⟨d,y,rfl,rfl | ⟨rfl,rfl⟩⟩
 ·exact .inl rfl
 ·exact .inl (aC fun k=>he (by rw [k]))
 ·simp only [List.cons_append,List.nil_append]
  rw [aC (fun k=>he (by rw [k]))]
  simp only [lk]
  cases hl:lk l e with
  | lp k off=>exact .inr ⟨trivial,k,off,rfl⟩
  | _=>exact .inl rfl
theorem nH {al:Bool} {pre:aL} (preB:bK) (G:List GO) (h:LR al oi.dst pre) (bT:oi.dst≠some d) (hx:al=false∨∃ a,x=.v a):ln ((s.put (some d) x).dv pre preB G) ((s.dv pre preB G).put (some d) x):=by
 have hb:∀ b,Nat.blt d s.n=b→ln ((s.put (some d) x).dv pre preB G) ((s.dv pre preB G).put (some d) x):=fun b hb=>by
  have iU:Nat.blt d (s.dv pre preB G).n=b:=hb
  rw [iJ,iJ,hb,iU]
  cases b with
  | false=>exact ln.refl _
  | true=>
   refine ⟨funext fun e=>?_,rfl,rfl,rfl,rfl,rfl⟩
   simp only [cond_true,St.dv,List.cons_append,List.nil_append]
   by_cases k:d=e
   ·subst k
    rw [au]
    rcases CV h bT (.put d x :: s.ae) with h1 | ⟨h1,k,off,h2⟩
    ·rw [h1,au]
    ·rw [au] at h2
     rcases hx with hx | ⟨a,hx⟩
     ·rw [hx] at h1; cases h1
     ·rw [hx] at h2; cases h2
   ·rw [aC k]
    exact jx (aC k) pre
 exact hb _ rfl
theorem Bp (hN:n5 oj.op=true) (Ak:oj.dst=some d) (wN:d∉oj.looksAt ops) (LU:oj.apart ops oi=true) (hK:Inv K) (hx:rP E f ops oj s x) {pre:aL} {preB:bK} {G:List GO}
  (tv:LR (bh oi.op) oi.dst pre) (M1:n5 oi.op=true→preB=[]∧G=s.G) (hk:K ((s.put (some d) x).dv pre preB G)) (MB:∀ t',K t'→fO oj oi=true→yY E f ops.toList oj t') :
  ∃ x',rP E f ops oj (s.dv pre preB G) x'∧K ((s.dv pre preB G).put (some d) x'):=by
 obtain ⟨_,bT,we⟩:=Oper.apart_spec LU
 have CW:oi.dst≠some d:=bT d Ak
 have nI:∀ e∈oj.looksAt ops,oi.dst≠some e:=fun e he k=>we e k he
 have pg:∀ e∈oj.looksAt ops,(bh oi.op=false∨∃ b,lk s.ae e=.v b)→lk s.ae e=lk (s.dv pre preB G).ae e:=fun e he ha=>by
  rcases CV tv (nI e he) s.ae with h1 | ⟨h1,k,off,h2⟩
  ·exact h1.symm
  ·rcases ha with ha | ⟨b,ha⟩
   ·rw [ha] at h1; cases h1
   ·rw [ha] at h2; cases h2
 have FA:∀ b,vK ops.toList s oj=some b→vK ops.toList (s.dv pre preB G) oj=some b:=fun b hb=>by
  unfold vK at hb ⊢
  split
  ·rename_i hg; rw [hg] at hb; exact hb
  ·rename_i j want hg
   rw [hg] at hb
   simp only at hb
   split
   ·rename_i e he
    rw [he] at hb
    simp only at hb
    split at hb
    ·rename_i b' hl
     have:=pg e (gd hg he) (.inr ⟨_,hl⟩)
     rw [← this,hl]
     exact hb
    ·rename_i hl
     have:=pg e (gd hg he) (.inr ⟨_,hl⟩)
     rw [← this,hl]
     exact hb
    ·cases hb
   ·rename_i he; rw [he] at hb; cases hb
 rcases hx with ⟨h1,h2⟩ | ⟨h1,rfl⟩
 ·rw [Ak] at h2
  by_cases PC:fO oj oi=true
  ·have hr:=MB _ hk PC
   -- the state with the slot, and the one without it
   have uN:∀ e,d≠e→lk ((s.put (some d) x).dv pre preB G).ae e=lk (s.dv pre preB G).ae e:=fun e he=>jx (qw s d x he) pre
   have hB:cz ((s.put (some d) x).dv pre preB G).boxes=cz (s.dv pre preB G).boxes:=by
    simp only [St.dv]; rw [(dW s _ x).1]
   have hn:((s.put (some d) x).dv pre preB G).n=(s.dv pre preB G).n:=(dW s _ x).2.2.1
   have JX:∀ e∈oj.looksAt ops,lk ((s.put (some d) x).dv pre preB G).ae e=lk (s.dv pre preB G).ae e:=fun e he=>uN e fun k=>wN (k ▸ he)
   have SL:vK ops.toList ((s.put (some d) x).dv pre preB G) oj=some true:=by rw [gL JX]; exact FA _ h1
   unfold yY at hr
   rw [SL] at hr
   simp only [Ak] at hr
   split at hr
   ·rename_i d' c s' zW hs
    cases zW
    obtain ⟨rfl,hr⟩:=hr
    obtain ⟨t',h3,p,pB,G2,_,h4,_,_⟩:=eW (t:=s.dv pre preB G) hn rfl hB (gW JX) hs
    obtain ⟨_,_,y,h5,h6⟩:=h4 (by simp [hN])
    rw [h6] at h3
    rw [h5,Ak] at hr
    refine ⟨y,.inl ⟨FA _ h1,h3⟩,hK _ _ ?_ hk⟩
    have Rs:((s.put (some d) x).dv pre preB G).marks=(s.dv pre preB G).marks∧((s.put (some d) x).dv pre preB G).ro=(s.dv pre preB G).ro:=(dW s _ x).2.2.2
    obtain ⟨q1,q2,q3,q4,q5⟩:=dW (s.dv pre preB G) (some d) y
    refine ⟨funext fun e=>?_,by rw [q1]; exact hB,by rw [q2]; rfl,by rw [q4]; exact Rs.1,by rw [q5]; exact Rs.2,by rw [q3]; exact hn⟩
    by_cases k:d=e
    ·subst k
     rw [← hr]
     have hb:∀ b,Nat.blt d s.n=b→lk (((s.put (some d) x).dv pre preB G).put (some d) y).ae d=lk ((s.dv pre preB G).put (some d) y).ae d:=fun b hb=>by
      have M2:Nat.blt d (s.dv pre preB G).n=b:=hb
      have B0:Nat.blt d ((s.put (some d) x).dv pre preB G).n=b:=by rw [hn]; exact hb
      rw [iJ _ d y,iJ _ d y,M2,B0]
      cases b with
      | true=>simp [St.dv,au]
      | false=>
       simp only [cond_false]
       rw [iJ,hb]
       rfl
     exact hb _ rfl
    ·rw [qw _ _ _ k]
     exact uN e k
   ·exact hr.elim
  ·have Bq:bh oi.op=false:=by cases ha:bh oi.op <;> simp_all [fO]
   have hl:∀ e∈oj.looksAt ops,lk s.ae e=lk (s.dv pre preB G).ae e:=fun e he=>pg e he (.inl Bq)
   have fin:∀ y,s.put (some d) x=s.put (some d) y→aj E f (s.dv pre preB G) oj=some (true,(s.dv pre preB G).put oj.dst y) →
     ∃ x',rP E f ops oj (s.dv pre preB G) x'∧K ((s.dv pre preB G).put (some d) x'):=fun y hy hs=>by
    refine ⟨y,.inl ⟨FA _ h1,hs⟩,hK _ _ (nH (oi:=oi) preB G tv CW (.inl Bq)) ?_⟩
    rw [← hy]
    exact hk
   cases SM:n5 oi.op with
   | true=>
    obtain ⟨rfl,rfl⟩:=M1 SM
    obtain ⟨t',h3,p,pB,G2,_,h4,_,_⟩:=eW (s:=s) (t:=s.dv pre [] s.G) rfl rfl rfl (gW hl) h2
    obtain ⟨_,_,y,h5,h6⟩:=h4 (by simp [hN])
    rw [Ak] at h5
    exact fin y h5 (by rw [h3,h6])
   | false=>
    have hR:JW oj.op=false:=by cases ha:JW oj.op <;> simp_all [fO]
    obtain ⟨t',h3,y,h5,h6⟩:=wM (s:=s) (t:=s.dv pre preB G) hN hR rfl (gW hl) h2
    rw [Ak] at h5
    exact fin y h5 (by rw [h3,h6])
 ·exact ⟨_,.inr ⟨FA _ h1,rfl⟩,hK _ _ (nH (oi:=oi) preB G tv CW (.inr ⟨_,rfl⟩)) hk⟩
end
end Go.Am
namespace Go.Am
open Go
section
variable {E:Env} {s t:St} {o:Oper}
def fk (E:Env) (s:St) (o:Oper) (s':St):Prop:=
 (s'.ae=s.ae∨∃ d x,o.dst=some d∧(s'.ae=.put d x :: s.ae∨s'.ae=.put d x :: .kill d :: s.ae)∧∀ k off,x=.lp k off→(∃ y∈o.op.operands,∃ dM,aY E s.ae y=.lp k dM)∨(bh o.op=true∧k=d)) ∧
 (s'.boxes=s.boxes∨∃ k cs,s'.boxes=(k,cs) :: s.boxes∧((bh o.op=true∧o.dst=some k)∨∃ y∈o.op.operands,∃ off,aY E s.ae y=.lp k off))
theorem iK {s1:St} (h1:s1.ae=s.ae) (h2:s1.boxes=s.boxes) {x:SV} (hx:∀ k off,x=.lp k off→∃ y∈o.op.operands,∃ dM,aY E s.ae y=.lp k dM):fk E s o (s1.put o.dst x):=by
 refine ⟨?_,.inl (by rw [(dW s1 o.dst x).1,h2])⟩
 cases hd:o.dst with
 | none=>exact .inl h1
 | some d=>
  simp only [St.put]
  split
  ·exact .inr ⟨d,x,rfl,.inl (by rw [h1]),fun k off h=>.inl (hx k off h)⟩
  ·exact .inl h1
theorem gX {s1:St} (h1:s1.ae=s.ae) (h2:s1.boxes=s.boxes) (a:AV):fk E s o (s1.put o.dst (.v a)):=iK h1 h2 fun k off h=>by cases h
theorem jy {s1:St} (h1:s1.ae=s.ae) (h2:s1.boxes=s.boxes):fk E s o s1:=⟨.inl h1,.inl h2⟩
theorem FB {k:Nat} {cs:List AV} (h:∃ y∈o.op.operands,∃ off,aY E s.ae y=.lp k off):fk E s o (s.pU k cs):=⟨.inl rfl,.inr ⟨k,cs,rfl,.inr h⟩⟩
theorem wO {n:Nat} {x:SV} {k off:Nat} (h:tF n x=some (.lp k off)):∃ dM,x=.lp k dM:=by
 unfold tF at h
 split at h <;> cases h
 exact ⟨_,rfl⟩
theorem tw {ty:TypeId} {x:SV} {j k off:Nat} (h:gO E ty x j=some (.lp k off)):∃ dM,x=.lp k dM:=by
 unfold gO at h
 repeat' (split at h)
 all_goals (first | (cases h; done) | exact wO h)
theorem tx {ty:TypeId} {x ix:SV} {c:Bool} {k off:Nat} (h:gN E ty x ix=some (c,.lp k off)):∃ dM,x=.lp k dM:=by
 unfold gN at h
 repeat' (split at h)
 all_goals (first | (cases h; done) | skip)
 rename_i hm
 injection h with h; injection h with h1 h2; subst h2
 exact wO hm
theorem yZ {ty:TypeId} {p x:SV} {s':St} (hp:∀ k off,p=.lp k off→∃ y∈o.op.operands,∃ dM,aY E s.ae y=.lp k dM) (h:fW E s ty p x=some s'):fk E s o s':=by
 unfold fW at h
 repeat' (split at h)
 all_goals (first | (cases h; done) | skip)
 ·cases h; exact FB (hp _ _ rfl)
 ·cases h; exact jy rfl rfl
theorem y9 {ty:TypeId} {p x:SV} {c:Bool} {s':St} (hp:∀ k off,p=.lp k off→∃ y∈o.op.operands,∃ dM,aY E s.ae y=.lp k dM) (h:fX E s ty p x=some (c,s')):fk E s o s':=by
 unfold fX at h
 repeat' (split at h)
 all_goals (first | (cases h; done) | skip)
 ·injection h with h; injection h with h1 h2; subst h2; exact jy rfl rfl
 ·injection h with h; injection h with h1 h2; subst h2; exact jy rfl rfl
 ·rename_i hs
  injection h with h; injection h with h1 h2; subst h2; exact yZ hp hs
theorem pA {ty:TypeId} {m k x:SV} {s':St} (h:de E s ty m k x=some s'):fk E s o s':=by
 unfold de at h
 repeat' (split at h)
 all_goals (first | (cases h; done) | skip)
 cases h; exact jy rfl rfl
theorem Br {x:SV} {s':St} (h:iG s o.dst x=some s'):fk E s o s':=by
 unfold iG at h
 split at h
 ·split at h
  ·rename_i l pos hg
   cases hb:Nat.blt pos l.length with
   | true=>
    rw [hb] at h
    simp only [cond_true] at h
    cases h
    exact gX rfl rfl _
   | false=>
    rw [hb] at h
    simp only [cond_false] at h
    cases h
    exact gX rfl rfl _
  ·cases h
 ·cases h
theorem uW {b:Builtin} {l:List AV} {tys:List TypeId} {c:Bool} {s':St} (h:bf E s o.dst b l tys=some (c,s')):fk E s o s':=by
 unfold bf at h
 cases b
 all_goals (try (cases h; done))
 all_goals (try simp only at h)
 all_goals (try (split at h <;> first | (cases h; done) | simp only at h))
 all_goals (repeat' (split at h))
 all_goals (first | (cases h; done) | skip)
 all_goals (injection h with h; injection h with h1 h2; subst h1 h2)
 all_goals (first | exact gX rfl rfl _ | exact jy rfl rfl)
theorem Bs {f:FuncId} {c:Bool} {s':St} (h:eA E f s o=some (c,s')):fk E s o s':=by
 unfold eA at h
 repeat' (split at h)
 all_goals (first | (cases h; done) | skip)
 injection h with h; injection h with h2 h3
 subst h3
 exact gX rfl rfl _
theorem rS {f:FuncId} {el:TypeId} {cs:List AV} {c:Bool} {s':St} (ha:bh o.op=true) (h:dc E f s o.dst el cs=some (c,s')):fk E s o s':=by
 unfold dc at h
 split at h
 ·cases h
 ·rename_i d hd
  split at h
  ·injection h with h; injection h with h1 h2; subst h2
   rw [← hd]
   exact gX rfl rfl _
  ·split at h
   ·rename_i hb
    injection h with h; injection h with h1 h2; subst h2
    refine ⟨.inr ⟨d,.lp d 0,hd,.inr ?_,fun k off h=>by cases h; exact .inr ⟨ha,rfl⟩⟩,.inr ⟨d,cs,?_,.inl ⟨ha,hd⟩⟩⟩
    ·simp only [St.put,St.pU,St.kill,hb]
    ·rw [(dW _ (some d) (.lp d 0)).1]; rfl
   ·cases h
theorem za {f:FuncId} {c:Bool} {s':St} (h:aj E f s o=some (c,s')):fk E s o s':=by
 cases ho:o.op
 case move x=>
  simp only [aj,ho] at h
  split at h
  all_goals (injection h with h; injection h with h1 h2; subst h2)
  ·exact gX rfl rfl _
  ·rename_i k off hx
   exact iK rfl rfl fun k' dM e=>by cases e; exact ⟨x,by rw [ho]; simp [Op.operands],_,hx⟩
  ·exact iK rfl rfl fun k' dM e=>by cases e
 case assign x=>
  simp only [aj,ho] at h
  split at h
  all_goals (injection h with h; injection h with h1 h2; subst h2)
  ·exact gX rfl rfl _
  ·rename_i k off hx
   exact iK rfl rfl fun k' dM e=>by cases e; exact ⟨x,by rw [ho]; simp [Op.operands],_,hx⟩
  ·exact iK rfl rfl fun k' dM e=>by cases e
 case nilCheck x=>
  simp only [aj,ho] at h
  split at h
  ·injection h with h; injection h with h1 h2; subst h2
   exact gX rfl rfl _
  ·rename_i k off hx
   injection h with h; injection h with h1 h2; subst h2
   exact iK rfl rfl fun k' dM e=>by cases e; exact ⟨x,by rw [ho]; simp [Op.operands],_,hx⟩
  ·cases h
 case fieldAddr a x j=>
  simp only [aj,ho] at h
  split at h
  ·rename_i p hp
   injection h with h; injection h with h1 h2; subst h2
   exact iK rfl rfl fun k' dM e=>by subst e; exact ⟨x,by rw [ho]; simp [Op.operands],tw hp⟩
  ·cases h
 case indexAddr a x y=>
  simp only [aj,ho] at h
  split at h
  ·rename_i c' p hp
   injection h with h; injection h with h1 h2; subst h2
   exact iK rfl rfl fun k' dM e=>by subst e; exact ⟨x,by rw [ho]; simp [Op.operands],tx hp⟩
  ·cases h
 case alloc e=>
  simp only [aj,ho] at h
  repeat' (split at h)
  all_goals (first | (cases h; done) | skip)
  exact rS (by rw [ho]; rfl) h
 case box e x=>
  simp only [aj,ho] at h
  repeat' (split at h)
  all_goals (first | (cases h; done) | skip)
  exact rS (by rw [ho]; rfl) h
 case store ty x y=>
  simp only [aj,ho] at h
  split at h
  ·rename_i hs
   injection h with h; injection h with h1 h2; subst h2
   exact y9 (fun k off e=>⟨x,by rw [ho]; simp [Op.operands],off,e⟩) hs
  ·cases h
 case mapUpdate ty x y z=>
  simp only [aj,ho] at h
  split at h
  ·rename_i hs
   injection h with h; injection h with h1 h2; subst h2
   exact pA hs
  ·cases h
 case insert ty x y z=>
  simp only [aj,ho] at h
  split at h
  ·rename_i hs
   injection h with h; injection h with h1 h2; subst h2
   exact pA hs
  ·cases h
 case mapEntry ty x y=>
  simp only [aj,ho] at h
  split at h
  ·rename_i hs
   injection h with h; injection h with h1 h2; subst h2
   unfold ea at hs
   repeat' (split at hs)
   all_goals (first | (cases hs; done) | skip)
   injection hs with hs; injection hs with h3 hs; injection hs with h4 h5
   subst h5
   exact gX rfl rfl _
  ·cases h
 case entryStore ty x y z=>
  simp only [aj,ho] at h
  split at h
  ·rename_i hs
   injection h with h; injection h with h1 h2; subst h2
   unfold cQ at hs
   repeat' (split at hs)
   all_goals (first | (cases hs; done) | skip)
   injection hs with hs; injection hs with h3 h4
   subst h4
   exact jy rfl rfl
  ·cases h
 case next x b=>
  cases b with
  | false=>simp [aj,ho] at h
  | true=>
   simp only [aj,ho] at h
   split at h
   ·rename_i hs
    injection h with h; injection h with h1 h2; subst h2
    exact Br hs
   ·cases h
 case call cl=>
  obtain ⟨callee,args,tys⟩:=cl
  cases callee with
  | builtin b=>
   simp only [aj,ho] at h
   split at h
   ·rename_i r hf
    cases h
    exact Bs hf
   ·split at h
    ·exact uW h
    ·cases h
  | _=>simp [aj,ho] at h
 case makeFunc fo a b=>
  cases fo with
  | func g=>
   simp only [aj,ho] at h
   repeat' (split at h)
   all_goals (first | (cases h; done) | skip)
   injection h with h; injection h with h1 h2; subst h2
   exact gX rfl rfl _
  | _=>simp [aj,ho] at h
 case makeMap ty r=>
  cases r with
  | none=>
   simp only [aj,ho] at h
   injection h with h; injection h with h1 h2; subst h2
   exact gX rfl rfl _
  | some _=>simp [aj,ho] at h
 all_goals (first
  | (simp [aj,ho] at h; done)
  | (simp only [aj,ho] at h; (repeat' (split at h)); (all_goals (first | (cases h; done) | skip)); (all_goals (injection h with h; injection h with h1 h2; subst h2)); (all_goals (exact gX rfl rfl _))))
def mw (s:St) (d:Nat) (cs:List AV):St:=s.dv [.put d (.lp d 0),.kill d] [(d,cs)] s.G
theorem zb {f:FuncId} {d:Tmp} {c:Bool} {s1:St} (Bq:bh o.op=true) (hd:o.dst=some d) (hg:E.tc f d=false) (h:aj E f s o=some (c,s1)) :
  c=true∧∃ cs,s1=mw s d cs∧∀ t:St,t.n=s.n→(∀ y∈o.op.operands,∀ v,aY E s.ae y=.v v→aY E t.ae y=.v v)→aj E f t o=some (true,mw t d cs):=by
 have key:∀ (el:TypeId) (cs:List AV),dc E f s o.dst el cs=some (c,s1)→c=true∧s1=mw s d cs∧∀ t:St,t.n=s.n→dc E f t o.dst el cs=some (true,mw t d cs):=by
  intro el cs h
  unfold dc at h
  rw [hd] at h
  simp only [hg,Bool.false_eq_true,if_false] at h
  split at h
  ·rename_i hb
   injection h with h; injection h with h1 h2; subst h1 h2
   refine ⟨rfl,?_,fun t ht=>?_⟩
   ·simp only [St.put,St.pU,St.kill,hb,mw,St.dv]; rfl
   ·unfold dc
    rw [hd]
    simp only [hg,Bool.false_eq_true,if_false,ht,hb]
    simp only [St.put,St.pU,St.kill,ht,hb,mw,St.dv]; rfl
  ·cases h
 cases ho:o.op
 case alloc e=>
  simp only [aj,ho] at h ⊢
  split at h
  ·split at h
   ·split at h
    ·rename_i hi _ _ hz EV
     obtain ⟨k1,k2,k3⟩:=key _ _ h
     refine ⟨k1,_,k2,fun t ht _=>?_⟩
     simp only [hi,hz,EV,if_true]
     exact k3 t ht
    ·cases h
   ·cases h
  ·cases h
 case box e x=>
  simp only [aj,ho] at h ⊢
  split at h
  ·split at h
   ·rename_i v hv EV
    obtain ⟨k1,k2,k3⟩:=key _ _ h
    refine ⟨k1,_,k2,fun t ht he=>?_⟩
    simp only [he x (by simp [Op.operands]) v hv,EV,if_true]
    exact k3 t ht
   ·cases h
  ·cases h
 all_goals (rw [ho] at Bq; simp [bh] at Bq)
theorem Al {pre:aL} {preB:bK} {G:List GO} (h:fk E s o (s.dv pre preB G)) :
  (pre=[]∨∃ d x,o.dst=some d∧(pre=[.put d x]∨pre=[.put d x,.kill d])∧∀ k off,x=.lp k off→(∃ y∈o.op.operands,∃ dM,aY E s.ae y=.lp k dM)∨(bh o.op=true∧k=d)) ∧
  (preB=[]∨∃ k cs,preB=[(k,cs)]∧((bh o.op=true∧o.dst=some k)∨∃ y∈o.op.operands,∃ off,aY E s.ae y=.lp k off)):=by
 obtain ⟨h1,h2⟩:=h
 refine ⟨?_,?_⟩
 ·rcases h1 with h1 | ⟨d,x,hd,h1,hx⟩
  ·exact .inl (by simpa [St.dv] using h1)
  ·refine .inr ⟨d,x,hd,?_,hx⟩
   rcases h1 with h1 | h1
   ·left
    have h1:pre++s.ae=[.put d x]++s.ae:=h1
    exact List.append_cancel_right h1
   ·right
    have h1:pre++s.ae=[.put d x,.kill d]++s.ae:=h1
    exact List.append_cancel_right h1
 ·rcases h2 with h2 | ⟨k,cs,h2,hx⟩
  ·exact .inl (by simpa [St.dv] using h2)
  ·refine .inr ⟨k,cs,?_,hx⟩
   have h2:preB++s.boxes=[(k,cs)]++s.boxes:=h2
   exact List.append_cancel_right h2
theorem fP (d e:Nat) (l:aL):lk (.kill d :: l) e=(match lk l e with | .lp k off=>bif Nat.beq k d then .none else .lp k off | x=>x):=rfl
theorem rT {d e:Nat} {l:aL} (h:∀ off,lk l e≠.lp d off):lk (.kill d :: l) e=lk l e:=by
 rw [fP]
 split
 ·rename_i k off hk
  cases hb:Nat.beq k d with
  | true=>exact absurd (by rw [hk,Nat.eq_of_beq_eq_true hb]) (h off)
  | false=>rw [hk]; rfl
 ·rfl
theorem Bt {d:Nat} {pre:aL} {preB:bK} {G:List GO} (cs:List AV) (FC:fk E s o (s.dv pre preB G)) (bT:o.dst≠some d) (Bu:∀ y∈o.op.operands,∀ off,aY E s.ae y≠.lp d off) :
  ln ((mw s d cs).dv pre preB G) (mw (s.dv pre preB G) d cs):=by
 obtain ⟨h1,h2⟩:=Al FC
 refine ⟨funext fun e=>?_,funext fun k=>?_,rfl,rfl,rfl,rfl⟩
 ·show lk (pre++([.put d (.lp d 0),.kill d]++s.ae)) e=lk ([.put d (.lp d 0),.kill d]++(pre++s.ae)) e
  rcases h1 with rfl | ⟨d',x,hd,hp,hx⟩
  ·rfl
  ·have OG:d'≠d:=fun c=>bT (by rw [hd,c])
   have ou:∀ off,x≠.lp d off:=fun off c=>by
    rcases hx d off c with ⟨y,hy,dM,ho⟩ | ⟨_,h⟩
    ·exact Bu y hy dM ho
    ·exact OG h.symm
   by_cases c1:d=e
   ·subst c1
    rcases hp with rfl | rfl
    ·simp only [List.cons_append,List.nil_append]
     rw [aC OG,au,au]
    ·simp only [List.cons_append,List.nil_append]
     rw [aC OG,au,rT (fun off=>by rw [au]; intro c; cases c; exact OG rfl),au]
   ·simp only [List.cons_append,List.nil_append]
    rw [aC c1]
    by_cases c2:d'=e
    ·subst c2
     rcases hp with rfl | rfl
     ·simp only [List.cons_append,List.nil_append]
      rw [au,rT (fun off=>by rw [au]; exact ou off),au]
     ·simp only [List.cons_append,List.nil_append]
      rw [au,rT (fun off=>by rw [au]; exact ou off),au]
    ·rcases hp with rfl | rfl
     ·simp only [List.cons_append,List.nil_append]
      rw [aC c2,aC c1,fP,fP,aC c2]
     ·simp only [List.cons_append,List.nil_append]
      rw [aC c2,fP,aC c1,fP,fP,aC c2,fP]
      cases lk s.ae e with
      | lp k off=>cases hb:Nat.beq k d <;> cases B0:Nat.beq k d' <;> simp [hb,B0]
      | _=>rfl
 ·show cz (preB++([(d,cs)]++s.boxes)) k=cz ([(d,cs)]++(preB++s.boxes)) k
  rcases h2 with rfl | ⟨k',cs',rfl,hk⟩
  ·rfl
  ·have EW:k'≠d:=fun c=>by
    subst c
    rcases hk with ⟨_,hk⟩ | ⟨y,hy,off,ho⟩
    ·exact bT hk
    ·exact Bu y hy off ho
   simp only [List.cons_append,List.nil_append,cz]
   cases hb:Nat.beq k' k with
   | true=>
    have:Nat.beq d k=false:=by
     cases B0:Nat.beq d k with
     | true=>exact absurd ((Nat.eq_of_beq_eq_true hb).trans (Nat.eq_of_beq_eq_true B0).symm) EW
     | false=>rfl
    rw [this]; rfl
   | false=>rfl
end
section
variable {E:Env} {s t:St} {f:FuncId} {o:Oper} {K K':St→Prop}
theorem zd (hn:s.n=t.n) (hG:s.G=t.G) (hB:∀ k off,(∃ y∈o.op.operands,aY E s.ae y=.lp k off)→cz s.boxes k=cz t.boxes k) (cS:∀ y∈o.op.operands,aY E s.ae y=aY E t.ae y) (h:gA E f o K s)
  (hK:∀ pre preB G,fk E t o (t.dv pre preB G)→K (s.dv pre preB G)→K' (t.dv pre preB G)):gA E f o K' t:=by
 unfold gA at h ⊢
 split at h
 ·rename_i x args tys ho
  have h1:aY E s.ae x=aY E t.ae x:=cS x (by rw [ho]; simp [Op.operands,Call.operands])
  have h2:jf E s.ae args.toList=jf E t.ae args.toList:=eh fun y hy=>cS y (by rw [ho]; simp [Op.operands,Call.operands]; exact .inr (by simpa using hy))
  try simp only [ho]
  rw [← h1,← h2,← hG]
  split at h
  ·refine bR.mono h fun r G' hk=>?_
   obtain ⟨pre,preB,G,p1,p2,p3,p4⟩:=bc.cm (s:=s) (t:=t) (al:=bh o.op) hn G' o.dst (.v r)
   rw [p3] at hk
   have hO:fk E t o ((t.bp G').put o.dst (.v r)):=gX rfl rfl _
   rw [p4] at hO ⊢
   exact hK pre preB G hO hk
  ·refine gV.mono h fun r G' hk=>?_
   obtain ⟨pre,preB,G,p1,p2,p3,p4⟩:=bc.cm (s:=s) (t:=t) (al:=bh o.op) hn G' o.dst (.v (.bool r))
   rw [p3] at hk
   have hO:fk E t o ((t.bp G').put o.dst (.v (.bool r))):=gX rfl rfl _
   rw [p4] at hO ⊢
   exact hK pre preB G hO hk
  ·exact h.elim
 ·exact h.elim
 ·split at h
  ·rename_i c s' hs
   obtain ⟨t',h1,pre,preB,G,p1,p2,p3,p4⟩:=nG hn hG hB cS hs
   have hO:=za h1
   rw [h1]
   obtain ⟨rfl,hk⟩:=h.out
   refine cn.mk rfl ?_
   rw [p3] at hk
   rw [p4] at hO ⊢
   exact hK pre preB G hO hk
  ·exact h.elim
theorem An (ha:bh o.op=true):gA E f o K s↔∃ s',aj E f s o=some (true,s')∧K s':=by
 unfold gA
 split
 ·rename_i h
  rw [h] at ha
  simp [bh] at ha
 ·rename_i h
  rw [h] at ha
  simp [bh] at ha
 ·split
  ·rename_i c s' hs
   constructor
   ·intro h
    obtain ⟨rfl,hk⟩:=h.out
    exact ⟨s',hs,hk⟩
   ·rintro ⟨vY,h1,h2⟩
    rw [hs] at h1
    cases h1
    exact cn.mk rfl h2
  ·rename_i hs
   constructor
   ·exact fun h=>h.elim
   ·rintro ⟨vY,h1,_⟩
    rw [hs] at h1
    cases h1
end
end Go.Am
