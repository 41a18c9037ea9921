/- The abstract machine: a function's contract out of its body. -/
import Derived.Test.YtfiopgedfcaodaaGreatDoorAmKF
import Derived.OrdersIn
set_option linter.all false
namespace Go.Am
open Go
section intro
variable {E:Env} {R R':aj} {w w':World} {β β':Nat→Nat}
theorem wX {bx JA:cF} (h:Step R w β bx R' w' β' JA) (hn:∀ k cs,dS bx k≠some cs):Step R w (fun _=>0) eZ R' w' (fun _=>0) eZ:=by
 have own:∀ b,Own R β bx b→Live R b:=fun b ho=>by
  rcases ho with ho | ⟨k,cs,hk,_⟩
  ·exact ho
  ·exact absurd hk (hn k cs)
 exact ⟨h.ext,h.os,h.tape,h.output,h.size,fun b hb vv=>h.bQ b hb (fun ho=>vv (.inl (own b ho))),fun b hb ho=>.inl (own b (h.own b hb (.inl (eB ho)))),fun b o hi hb vv=>h.im b o hi hb (fun ho=>vv (.inl (own b ho)))⟩
theorem Kk:∀ {l:List AV} {n i:Nat},(i < n∨n+l.length≤i→lk (Wa n l) i=.none)∧(∀ a,l[i - n]?=some a→n≤i→lk (Wa n l) i=.v a)
 | [],n,i=>⟨fun _=>rfl,fun a h=>by simp at h⟩
 | b :: l,n,i=>by
  obtain ⟨h1,h2⟩:=Kk (l:=l) (n:=n+1) (i:=i)
  refine ⟨fun h=>?_,fun a h hn=>?_⟩
  ·simp only [List.length_cons] at h
   simp only [Wa]
   rw [bA (by omega)]
   exact h1 (by omega)
  ·simp only [Wa]
   by_cases e:n=i
   ·subst e
    rw [ba]
    simp at h
    rw [h]
   ·rw [bA e]
    refine h2 a ?_ (by omega)
    have:i - n=(i - (n+1))+1:=by omega
    rw [this] at h
    simpa using h
theorem Kl {ntmps:Nat} {args:List AV} {cs:List Value} {G:List GO} (hg:dE E R w G) (hl:aK R w args cs) :
  bi E R w (fun _=>0) (St.init ntmps args G) { tmps:=⟨cs⟩++Array.replicate (ntmps - (⟨cs⟩:Array Value).size) undef,defers:=[] }:=by
 have hlen:=hl.length
 refine ⟨hg,⟨fun k c hk=>?_,fun k k' c c' hk _ _=>?_⟩,fun i hi=>?_,?_,trivial⟩
 ·simp [St.init,dS] at hk
 ·simp [St.init,dS] at hk
 ·simp only [St.init] at hi ⊢
  obtain ⟨h1,h2⟩:=Kk (l:=args) (n:=0) (i:=i)
  by_cases bP:i < args.length
  ·have hy:args[i]?=some args[i]:=List.getElem?_eq_getElem bP
   obtain ⟨c,k1,k2⟩:=hl.get hy
   rw [h2 _ (by rw [Nat.sub_zero]; exact hy) (Nat.zero_le _)]
   refine ⟨c,?_,k2⟩
   rw [Array.getElem?_append_left (by simp; omega)]
   simpa using k1
  ·exact absurd (h1 (by omega)) hi
 ·simp [St.init]
  omega
theorem Fo {ntmps:Nat} {args:List AV} {G:List GO} (k:Nat) (cs:List AV):dS (St.init ntmps args G).boxes k≠some cs:=by
 simp [St.init,dS]
theorem cO.intro {g : FuncId} {fn : Func} {c : Code} {args : List AV} {G : List GO} {Q : AV → List GO → Prop} (hf : E.P.funcs[g]? = some fn) (hb : fn.body = some c) (hn : (fn.name == "runtime.NumGoroutine") = false)
  (h:fF E c (R4 E fn Q) (St.init fn.ntmps args G)):cO E g args G Q:=by
 refine ⟨⟨fn,hf,by simp [hb],hn⟩,fun R w cs hg hl=>?_⟩
 refine callsIn_of_wp_marks hf hb trivial (wpIn_mono (h R w (fun _=>0) _ Fence.wide (Kl hg hl) rfl) ?_)
 rintro e a' w' ⟨s',R',β',hq,hr,kf,bR⟩
 have fin:(match oB s'.marks s'.G with
  | some G=>match Ki E (s'.bY G) fn with
   | some r=>Q r G
   | none=>False
  | none=>False)→LeavesInM Fence.wide 0 E.P fn a'.tmps (GP E R w Q) a'.defers .returning w':=by
  intro hq
  split at hq
  ·rename_i G2 Xh
   split at hq
   ·rename_i r Fp
    refine Is fn (GP E R w Q) (s:=s') (G:=s'.G) hr hr.d Xh (fun RS Be uo=>?_)
    obtain ⟨v,h1,h2⟩:=Kj Be Fp
    exact ⟨v,h1,r,G2,R',hq,h2,Be.g,wX (kf.trans uo) Fo⟩
   ·exact hq.elim
  ·exact hq.elim
 cases e with
 | normal=>exact fin hq
 | ret=>exact fin hq
 | exit _=>exact hq.elim
 | goto _=>exact hq.elim
 | panic _=>exact hq.elim
 | outgrown=>exact hq.elim
end intro
end Go.Am
namespace Go.Am
open Go
def St.iC (s:St) (pre:bp) (preB:cF) (G:List GO):St:=⟨pre++s.ae,preB++s.boxes,G,s.marks,s.ro,s.n⟩
def Wb (al:Bool) (dst:Option Tmp) (pre:bp):Prop:=
 pre=[]∨∃ d x,dst=some d∧(pre=[.put d x]∨(al=true∧pre=[.put d x,.kill d]))
def b8 (al w:Bool) (dst:Option Tmp) (s t s' t':St):Prop:=
 ∃ pre preB G,Wb al dst pre∧(w=false→preB=[]∧G=s.G∧∃ x,s'=s.put dst x∧t'=t.put dst x)∧s'=s.iC pre preB G∧t'=t.iC pre preB G
section
variable {E:Env} {s t:St} {o:Oper}
theorem kY (s:St) (d:Tmp) (x:SV):s.put (some d) x=bif Nat.blt d s.n then s.iC [.put d x] [] s.G else s:=by
 cases h:Nat.blt d s.n <;> simp [St.put,h,St.iC]
theorem b8.put {al w:Bool} (hn:s.n=t.n) (hG:s.G=t.G) (dst:Option Tmp) (x:SV):b8 al w dst s t (s.put dst x) (t.put dst x):=by
 cases dst with
 | none=>exact ⟨[],[],s.G,.inl rfl,fun _=>⟨rfl,rfl,x,rfl,rfl⟩,rfl,by rw [hG]; rfl⟩
 | some d=>
  have hx:∃ y,s.put (some d) x=s.put (some d) y∧t.put (some d) x=t.put (some d) y:=⟨x,rfl,rfl⟩
  revert hx
  generalize hs:s.put (some d) x=s'
  generalize ht:t.put (some d) x=t'
  intro hx
  rw [kY] at hs ht
  rw [← hn] at ht
  revert hs ht
  cases Nat.blt d s.n with
  | true=>exact fun hs ht=>⟨[.put d x],[],s.G,.inr ⟨d,x,rfl,.inl rfl⟩,fun _=>⟨rfl,rfl,hx⟩,hs.symm,by rw [hG]; exact ht.symm⟩
  | false=>exact fun hs ht=>⟨[],[],s.G,.inl rfl,fun _=>⟨rfl,rfl,hx⟩,hs.symm,by rw [hG]; exact ht.symm⟩
theorem b8.dv {al:Bool} (hn:s.n=t.n) (G:List GO) (dst:Option Tmp) (x:SV):b8 al true dst s t ((s.bY G).put dst x) ((t.bY G).put dst x):=by
 cases dst with
 | none=>exact ⟨[],[],G,.inl rfl,fun h=>(by cases h),rfl,rfl⟩
 | some d=>
  rw [kY,kY,show (t.bY G).n=(s.bY G).n from hn.symm]
  cases Nat.blt d (s.bY G).n with
  | true=>exact ⟨[.put d x],[],G,.inr ⟨d,x,rfl,.inl rfl⟩,fun h=>(by cases h),rfl,rfl⟩
  | false=>exact ⟨[],[],G,.inl rfl,fun h=>(by cases h),rfl,rfl⟩
theorem b8.bY {al:Bool} (G:List GO) (dst:Option Tmp):b8 al true dst s t (s.bY G) (t.bY G):=⟨[],[],G,.inl rfl,fun h=>(by cases h),rfl,rfl⟩
theorem b8.yZ {al:Bool} (hG:s.G=t.G) (dst:Option Tmp) (d:Nat) (cs:List AV):b8 al true dst s t (s.yZ d cs) (t.yZ d cs):=
 ⟨[],[(d,cs)],s.G,.inl rfl,fun h=>(by cases h),rfl,(by rw [hG]; rfl)⟩
theorem gW {a b:bp}:∀ {l:List Operand},(∀ y∈l,bS E a y=bS E b y)→mC E a l=mC E b l
 | [],_=>rfl
 | x :: l,h=>by
  simp only [mC]
  rw [h x (by simp),gW (l:=l) (fun y hy=>h y (by simp [hy]))]
theorem mb {a b:bp}:∀ {l:List (Nat × Operand)},(∀ p∈l,bS E a p.2=bS E b p.2)→Nu E a l=Nu E b l
 | [],_=>rfl
 | (i,x) :: l,h=>by
  simp only [Nu]
  rw [h (i,x) (by simp),mb (l:=l) (fun y hy=>h y (by simp [hy]))]
theorem zm (hG:s.G=t.G) (hB:dS s.boxes=dS t.boxes) (p:SV):mG s p=mG t p:=by
 unfold mG
 rw [hG,hB]
theorem CO (hG:s.G=t.G) (hB:dS s.boxes=dS t.boxes) (ty:TypeId) (p:SV):rv E s ty p=rv E t ty p:=by
 unfold rv
 rw [zm hG hB]
theorem uq (hG:s.G=t.G) (id f i sz:Nat) (ty:TypeId):vZ E s id f i sz ty=vZ E t id f i sz ty:=by
 unfold vZ
 rw [hG]
theorem CP (hG:s.G=t.G) (hB:dS s.boxes=dS t.boxes) (ty:TypeId) (p:SV):zG E s ty p=zG E t ty p:=by
 unfold zG
 split
 ·rw [uq hG]
 ·rw [CO hG hB]
theorem CQ (hG:s.G=t.G) (esz:Nat) (d x:AV):rB s esz d x=rB t esz d x:=by
 unfold rB
 rw [hG]
theorem ur {f:FuncId} {dst:Option Tmp} {el:TypeId} {cs:List AV} {c:Bool} {s':St} (hn:s.n=t.n) (hG:s.G=t.G) (h:iI E f s dst el cs=some (c,s')) :
  ∃ t',iI E f t dst el cs=some (c,t')∧b8 true true dst s t s' t':=by
 unfold iI at *
 cases dst with
 | none=>cases h
 | some d=>
  simp only at *
  split at h
  ·rename_i hg
   injection h with h
   injection h with h1 h2
   subst h1 h2
   rw [if_pos hg]
   refine ⟨_,rfl,?_⟩
   have:=b8.dv (al:=true) hn (s.G++[.row cs el]) (some d) (.v (.ptr s.G.length 0))
   rw [hG] at this
   have e:s.dP (.row cs el)=s.bY (t.G++[.row cs el]):=by rw [← hG]; rfl
   rw [e,hG]
   exact this
  ·rename_i hg
   rw [if_neg hg,← hn]
   split at h
   ·rename_i hb
    injection h with h
    injection h with h1 h2
    subst h1 h2
    refine ⟨_,rfl,[.put d (.lp d 0),.kill d],[(d,cs)],s.G,.inr ⟨d,_,rfl,.inr ⟨rfl,rfl⟩⟩,fun h=>(by cases h),?_,?_⟩
    ·simp [St.put,St.yZ,St.kill,hb,St.iC]
    ·simp only [St.put,St.yZ,St.kill,← hn,hb,St.iC,hG]
     rfl
   ·cases h
theorem CR {ty:TypeId} {p x:SV} {s':St} {al:Bool} {dst:Option Tmp} (hG:s.G=t.G) (hB:dS s.boxes=dS t.boxes) (h:lh E s ty p x=some s') :
  ∃ t',lh E t ty p x=some t'∧b8 al true dst s t s' t':=by
 unfold lh at *
 split at h
 ·split at h
  ·rename_i hc
   rw [if_pos hc]
   split at h
   ·rw [← hB]
    split at h
    ·split at h
     ·rename_i Km
      cases h
      simp only [Km,if_true]
      exact ⟨_,rfl,.yZ hG _ _ _⟩
     ·cases h
    ·cases h
   ·rw [← hG]
    split at h
    ·split at h
     ·rename_i Km
      cases h
      simp only [Km,if_true]
      exact ⟨_,rfl,.bY _ _⟩
     ·cases h
    ·cases h
   ·cases h
  ·cases h
 ·cases h
theorem CS {ty:TypeId} {p x:SV} {c:Bool} {s':St} {al:Bool} {dst:Option Tmp} (hG:s.G=t.G) (hB:dS s.boxes=dS t.boxes) (h:li E s ty p x=some (c,s')) :
  ∃ t',li E t ty p x=some (c,t')∧b8 al true dst s t s' t':=by
 unfold li at *
 split at h
 ·rw [← hG]
  split at h
  ·split at h
   ·rename_i h1 h2 hc
    simp only [hc,if_true]
    split at h
    ·rename_i Km
     injection h with h; injection h with e1 e2
     subst e1; subst e2
     simp only [Km,if_true]
     exact ⟨_,rfl,.bY _ _⟩
    ·rename_i Km
     rw [if_neg Km,← uq hG]
     split at h
     ·rename_i hg
      split at h
      ·rename_i hc3
       injection h with h; injection h with e1 e2
       subst e1; subst e2
       simp only [hc3,if_true]
       exact ⟨_,rfl,.bY _ _⟩
      ·cases h
     ·cases h
   ·cases h
  ·cases h
 ·split at h
  ·rename_i s1 hs
   injection h with h; injection h with e1 e2
   subst e1; subst e2
   obtain ⟨t',h3,h4⟩:=CR (al:=al) (dst:=dst) hG hB hs
   simp only [h3]
   exact ⟨_,rfl,h4⟩
  ·cases h
def eP:Op→Bool
 | .alloc _=>true
 | .box _ _=>true
 | _=>false
def tv:Op→Bool
 | .move _ | .assign _ | .pick _ _ _ | .build _ _ | .buildSlice _ _ _ | .load _ _ | .binOp _ _ _ _ _ | .unOp _ _ _ | .convert _ _ _ | .makeFunc _ _ _ | .fieldAddr _ _ _ | .field _ _ _
 | .indexAddr _ _ _ | .index _ _ _ | .slice _ _ _ _ _ | .extract _ _ | .lookup _ _ _ _ | .nilCheck _=>true
 | .call { callee:=.builtin .len,.. }=>true
 | .call { callee:=.builtin .max,.. }=>true
 | .call { callee:=.builtin .min,.. }=>true
 | _=>false
def Tg:Op→Bool
 | .load _ _=>true
 | .lookup _ _ _ _=>true
 | .call _=>true
 | .convert _ _ _=>true
 | _=>false
def NP:Builtin→Bool
 | .append | .copy | .clear=>true
 | _=>false
theorem zo {dst:Option Tmp} {b:Builtin} {l:List AV} {tys:List TypeId} {c:Bool} {s':St} {al:Bool} (hn:s.n=t.n) (hG:s.G=t.G) (h:bZ E s dst b l tys=some (c,s')) :
  ∃ t',bZ E t dst b l tys=some (c,t')∧b8 al (NP b) dst s t s' t':=by
 obtain ⟨sl,bx,G,m,ro,n⟩:=s
 obtain ⟨Wc,JA,G',m',lM,n'⟩:=t
 have hc:=fun esz d x=>CQ (s:=⟨sl,bx,G,m,ro,n⟩) (t:=⟨Wc,JA,G',m',lM,n'⟩) hG esz d x
 simp only at hn hG
 subst hn hG
 unfold bZ at h ⊢
 simp only [← hc]
 cases b
 all_goals (try (cases h; done))
 all_goals (try simp only at h ⊢)
 all_goals (try (split at h <;> first | (cases h; done) | simp only at h ⊢))
 all_goals (repeat' (split at h))
 all_goals (first | (cases h; done) | skip)
 all_goals (injection h with h; injection h with h1 h2; subst h1 h2)
 all_goals (try simp only [if_true, *])
 all_goals (first | exact ⟨_,rfl,.put (by rfl) (by rfl) _ _⟩ | exact ⟨_,rfl,.dv (by rfl) _ _ _⟩ | exact ⟨_,rfl,.bY _ _⟩)
theorem wY (hG:s.G=t.G) (a b:TypeId) (x:SV):lR E s a b x=lR E t a b x:=by
 unfold lR
 rw [hG]
theorem zp (hG:s.G=t.G) (ty:TypeId) (m k:SV):kS E s ty m k=kS E t ty m k:=by
 have:mapOf s=mapOf t:=by funext m; unfold mapOf; rw [hG]
 unfold kS jj
 rw [this,hG]
theorem sa {ty:TypeId} {m k x:SV} {s':St} {al:Bool} {dst:Option Tmp} (hG:s.G=t.G) (h:fR E s ty m k x=some s') :
  ∃ t',fR E t ty m k x=some t'∧b8 al true dst s t s' t':=by
 unfold fR at *
 rw [← hG]
 repeat' (split at h)
 all_goals (first | (cases h; done) | skip)
 cases h
 simp only [*]
 exact ⟨_,rfl,.bY _ _⟩
theorem Fq {dst:Option Tmp} {x:SV} {s':St} {al:Bool} (hn:s.n=t.n) (hG:s.G=t.G) (h:nG s dst x=some s') :
  ∃ t',nG t dst x=some t'∧b8 al true dst s t s' t':=by
 unfold nG at *
 rw [← hG]
 split at h
 ·split at h
  ·rename_i l pos hg
   cases hb:Nat.blt pos l.length with
   | true=>
    rw [hb] at h
    simp only [cond_true] at h ⊢
    cases h
    exact ⟨_,rfl,.dv hn _ _ _⟩
   | false=>
    rw [hb] at h
    simp only [cond_false] at h ⊢
    cases h
    obtain ⟨pre,preB,G,p1,p2,p3⟩:=b8.put (al:=al) (w:=true) hn hG dst (.v (.bH [.bool false]))
    exact ⟨_,rfl,pre,preB,G,p1,p2,p3⟩
  ·cases h
 ·cases h
theorem ng {f:FuncId} {r:Bool × St} (h:ig E f s o=some r):∃ args tys,o.op=.call { callee:=.builtin .append,args:=args,argTypes:=tys }:=by
 unfold ig at h
 split at h
 ·split at h
  ·split at h
   ·rename_i args tys ho
    exact ⟨args,tys,ho⟩
   ·cases h
  ·cases h
 ·cases h
theorem wZ {f:FuncId} {c:Bool} {s':St} {al:Bool} (hn:s.n=t.n) (hG:s.G=t.G) (eK:∀ y∈o.op.operands,bS E s.ae y=bS E t.ae y)
  (h:ig E f s o=some (c,s')):∃ t',ig E f t o=some (c,t')∧b8 al true o.dst s t s' t':=by
 obtain ⟨args,tys,ho⟩:=ng h
 have h1:mC E s.ae args.toList=mC E t.ae args.toList:=gW fun y hy=>eK y (by rw [ho]; simp [Op.operands,Call.operands]; simpa using hy)
 unfold ig at h ⊢
 rw [ho] at h ⊢
 simp only [h1,hG] at h ⊢
 repeat' (split at h)
 all_goals (first | (cases h; done) | skip)
 injection h with h; injection h with h2 h3
 subst h2 h3
 simp only [*,if_true]
 refine ⟨_,rfl,?_⟩
 exact b8.dv hn _ _ _
theorem va {f:FuncId} (hn:s.n=t.n) (hG:s.G=t.G) (eK:∀ y∈o.op.operands,bS E s.ae y=bS E t.ae y) (h:ig E f s o=none):ig E f t o=none:=by
 cases ht:ig E f t o with
 | none=>rfl
 | some r=>
  obtain ⟨t',h1,_⟩:=wZ (s:=t) (t:=s) (al:=false) hn.symm hG.symm (fun y hy=>(eK y hy).symm) (c:=r.1) (s':=r.2) ht
  rw [h] at h1
  cases h1
theorem gX {f:FuncId} {c:Bool} {s':St} (hn:s.n=t.n) (hG:s.G=t.G) (hB:dS s.boxes=dS t.boxes) (eK:∀ y∈o.op.operands,bS E s.ae y=bS E t.ae y)
  (h:ar E f s o=some (c,s')):∃ t',ar E f t o=some (c,t')∧b8 (eP o.op) (!tv o.op) o.dst s t s' t':=by
 obtain ⟨dst,op,ty,pos,after,guard⟩:=o
 cases op
 case move x=>
  simp only [ar,eK x (by simp [Op.operands])] at h ⊢
  split at h
  all_goals (injection h with h; injection h with h1 h2; subst h1 h2; (try simp only [*]); exact ⟨_,rfl,.put hn hG _ _⟩)
 case assign x=>
  simp only [ar,eK x (by simp [Op.operands])] at h ⊢
  split at h
  all_goals (injection h with h; injection h with h1 h2; subst h1 h2; (try simp only [*]); exact ⟨_,rfl,.put hn hG _ _⟩)
 case pick x y z=>
  simp only [ar,eK x (by simp [Op.operands]),eK y (by simp [Op.operands]),eK z (by simp [Op.operands])] at h ⊢
  split at h
  ·injection h with h; injection h with h1 h2; subst h1 h2; (try simp only [*]); exact ⟨_,rfl,.put hn hG _ _⟩
  ·cases h
 case alloc e=>
  simp only [ar] at h ⊢
  repeat' (split at h)
  all_goals (first | (cases h; done) | skip)
  simp only [*]
  exact ur hn hG h
 case box e x=>
  simp only [ar,eK x (by simp [Op.operands])] at h ⊢
  repeat' (split at h)
  all_goals (first | (cases h; done) | skip)
  simp only [*]
  exact ur hn hG h
 case build ty ps=>
  have he:mH E s ty ps.toList=mH E t ty ps.toList:=by
   unfold mH
   rw [mb (fun p hp=>eK p.2 (by simp only [Op.operands,List.mem_toArray,List.mem_map]; exact ⟨p,hp,rfl⟩))]
  simp only [ar,he] at h ⊢
  split at h
  ·injection h with h; injection h with h1 h2; subst h1 h2; (try simp only [*]); exact ⟨_,rfl,.put hn hG _ _⟩
  ·cases h
 case buildSlice ty len ps=>
  have he:bV E s ty len ps.toList=bV E t ty len ps.toList:=by
   unfold bV
   rw [mb (fun p hp=>eK p.2 (by simp only [Op.operands,List.mem_toArray,List.mem_map]; exact ⟨p,hp,rfl⟩))]
  simp only [ar,he] at h ⊢
  split at h
  ·injection h with h; injection h with h1 h2; subst h1 h2; (try simp only [*]); exact ⟨_,rfl,.put hn hG _ _⟩
  ·cases h
 case load ty x=>
  simp only [ar,eK x (by simp [Op.operands]),CP hG hB] at h ⊢
  split at h
  ·injection h with h; injection h with h1 h2; subst h1 h2; (try simp only [*]); exact ⟨_,rfl,.put hn hG _ _⟩
  ·cases h
 case store ty x y=>
  simp only [ar,eK x (by simp [Op.operands]),eK y (by simp [Op.operands])] at h ⊢
  split at h
  ·rename_i s1 hs
   injection h with h; injection h with h1 h2; subst h1 h2
   obtain ⟨t',h3,h4⟩:=CS (al:=false) (dst:=none) hG hB hs
   rw [h3]
   exact ⟨_,rfl,h4⟩
  ·cases h
 case binOp op a x y b=>
  simp only [ar,eK x (by simp [Op.operands]),eK y (by simp [Op.operands])] at h ⊢
  repeat' (split at h)
  all_goals (first | (cases h; done) | skip)
  all_goals (injection h with h; injection h with h1 h2; subst h1 h2; (try simp only [*]); exact ⟨_,rfl,.put hn hG _ _⟩)
 case unOp op a x=>
  simp only [ar,eK x (by simp [Op.operands])] at h ⊢
  repeat' (split at h)
  all_goals (first | (cases h; done) | skip)
  all_goals (injection h with h; injection h with h1 h2; subst h1 h2; (try simp only [*]); exact ⟨_,rfl,.put hn hG _ _⟩)
 case nilCheck x=>
  simp only [ar,eK x (by simp [Op.operands])] at h ⊢
  repeat' (split at h)
  all_goals (first | (cases h; done) | skip)
  all_goals (injection h with h; injection h with h1 h2; subst h1 h2; (try simp only [*]); exact ⟨_,rfl,.put hn hG _ _⟩)
 case convert a b x=>
  simp only [ar,eK x (by simp [Op.operands]),wY hG] at h ⊢
  repeat' (split at h)
  all_goals (first | (cases h; done) | skip)
  all_goals (injection h with h; injection h with h1 h2; subst h1 h2; (try simp only [*]); exact ⟨_,rfl,.put hn hG _ _⟩)
 case makeFunc fo a b=>
  cases fo with
  | func g=>
   have h1:mC E s.ae a.toList=mC E t.ae a.toList:=gW fun y hy=>eK y (by simp only [Op.operands,Array.mem_append]; exact .inl (by simpa using hy))
   have h2:mC E s.ae b.toList=mC E t.ae b.toList:=gW fun y hy=>eK y (by simp only [Op.operands,Array.mem_append]; exact .inr (by simpa using hy))
   simp only [ar,h1,h2] at h ⊢
   repeat' (split at h)
   all_goals (first | (cases h; done) | skip)
   all_goals (injection h with h; injection h with h1 h2; subst h1 h2; (try simp only [*]); exact ⟨_,rfl,.put hn hG _ _⟩)
  | _=>simp [ar] at h
 case fieldAddr a x j=>
  simp only [ar,eK x (by simp [Op.operands])] at h ⊢
  repeat' (split at h)
  all_goals (first | (cases h; done) | skip)
  all_goals (injection h with h; injection h with h1 h2; subst h1 h2; (try simp only [*]); exact ⟨_,rfl,.put hn hG _ _⟩)
 case field a x j=>
  simp only [ar,eK x (by simp [Op.operands])] at h ⊢
  repeat' (split at h)
  all_goals (first | (cases h; done) | skip)
  all_goals (injection h with h; injection h with h1 h2; subst h1 h2; (try simp only [*]); exact ⟨_,rfl,.put hn hG _ _⟩)
 case indexAddr a x y=>
  simp only [ar,eK x (by simp [Op.operands]),eK y (by simp [Op.operands])] at h ⊢
  repeat' (split at h)
  all_goals (first | (cases h; done) | skip)
  all_goals (injection h with h; injection h with h1 h2; subst h1 h2; (try simp only [*]); exact ⟨_,rfl,.put hn hG _ _⟩)
 case index a x y=>
  simp only [ar,eK x (by simp [Op.operands]),eK y (by simp [Op.operands])] at h ⊢
  repeat' (split at h)
  all_goals (first | (cases h; done) | skip)
  all_goals (injection h with h; injection h with h1 h2; subst h1 h2; (try simp only [*]); exact ⟨_,rfl,.put hn hG _ _⟩)
 case slice a x lo hi mx=>
  have h1:mI E s.ae lo=mI E t.ae lo:=by
   cases lo with
   | none=>rfl
   | some y=>simp only [mI]; rw [eK y (by simp [Op.operands])]
  have h2:mI E s.ae hi=mI E t.ae hi:=by
   cases hi with
   | none=>rfl
   | some y=>simp only [mI]; rw [eK y (by simp [Op.operands])]
  simp only [ar,eK x (by simp [Op.operands]),h1,h2] at h ⊢
  repeat' (split at h)
  all_goals (first | (cases h; done) | skip)
  all_goals (injection h with h; injection h with h1 h2; subst h1 h2; (try simp only [*]); exact ⟨_,rfl,.put hn hG _ _⟩)
 case extract x i=>
  simp only [ar,eK x (by simp [Op.operands])] at h ⊢
  repeat' (split at h)
  all_goals (first | (cases h; done) | skip)
  all_goals (injection h with h; injection h with h1 h2; subst h1 h2; (try simp only [*]); exact ⟨_,rfl,.put hn hG _ _⟩)
 case makeSlice ty x y=>
  simp only [ar,eK x (by simp [Op.operands]),eK y (by simp [Op.operands])] at h ⊢
  repeat' (split at h)
  all_goals (first | (cases h; done) | skip)
  all_goals (injection h with h; injection h with h1 h2; subst h1 h2)
  all_goals (simp only [*])
  all_goals (refine ⟨_,rfl,?_⟩)
  all_goals (have e:∀ o,t.dP o=t.bY (s.G++[o]):=fun o=>by rw [hG]; rfl)
  all_goals (rw [e,← hG])
  all_goals (exact b8.dv (al:=false) hn _ dst _)
 case lookup ty x y ok=>
  simp only [ar,eK x (by simp [Op.operands]),eK y (by simp [Op.operands]),zp hG] at h ⊢
  split at h
  ·injection h with h; injection h with h1 h2; subst h1 h2; (try simp only [*]); exact ⟨_,rfl,.put hn hG _ _⟩
  ·cases h
 case mapUpdate ty x y z=>
  simp only [ar,eK x (by simp [Op.operands]),eK y (by simp [Op.operands]),eK z (by simp [Op.operands])] at h ⊢
  split at h
  ·rename_i s1 hs
   injection h with h; injection h with h1 h2; subst h1 h2
   obtain ⟨t',h3,h4⟩:=sa (al:=false) (dst:=none) hG hs
   rw [h3]
   exact ⟨_,rfl,h4⟩
  ·cases h
 case insert ty x y z=>
  simp only [ar,eK x (by simp [Op.operands]),eK y (by simp [Op.operands]),eK z (by simp [Op.operands])] at h ⊢
  split at h
  ·rename_i s1 hs
   injection h with h; injection h with h1 h2; subst h1 h2
   obtain ⟨t',h3,h4⟩:=sa (al:=false) (dst:=none) hG hs
   rw [h3]
   exact ⟨_,rfl,h4⟩
  ·cases h
 case entry x=>
  simp only [ar,eK x (by simp [Op.operands])] at h ⊢
  have e:tc E s (bS E t.ae x)=tc E t (bS E t.ae x):=by unfold tc; rw [hG]
  rw [e] at h
  split at h
  ·injection h with h; injection h with h1 h2; subst h1 h2; (try simp only [*]); exact ⟨_,rfl,.put hn hG _ _⟩
  ·cases h
 case mapEntry ty x y=>
  simp only [ar,eK x (by simp [Op.operands]),eK y (by simp [Op.operands])] at h ⊢
  unfold gS at h ⊢
  rw [← hG]
  repeat' (split at h)
  all_goals (first | (cases h; done) | skip)
  rename_i jP
  repeat' (split at jP)
  all_goals (first | (cases jP; done) | skip)
  injection jP with jP; injection jP with h3 jP; injection jP with h4 h5
  injection h with h; injection h with h1 h2; subst h1 h2 h3 h4 h5
  simp only [*,if_true]
  exact ⟨_,rfl,b8.dv (al:=false) hn _ dst _⟩
 case entryStore ty x y z=>
  simp only [ar,eK x (by simp [Op.operands]),eK y (by simp [Op.operands]),eK z (by simp [Op.operands])] at h ⊢
  unfold eM at h ⊢
  rw [← hG]
  repeat' (split at h)
  all_goals (first | (cases h; done) | skip)
  rename_i jP
  repeat' (split at jP)
  all_goals (first | (cases jP; done) | skip)
  injection jP with jP; injection jP with h3 h5
  injection h with h; injection h with h1 h2; subst h1 h2 h3 h5
  simp only [*]
  exact ⟨_,rfl,.bY _ _⟩
 case range ty x=>
  simp only [ar,eK x (by simp [Op.operands])] at h ⊢
  repeat' (split at h)
  all_goals (first | (cases h; done) | skip)
  ·injection h with h; injection h with h1 h2; subst h1 h2
   (try simp only [*])
   refine ⟨_,rfl,?_⟩
   have e:∀ o,t.dP o=t.bY (s.G++[o]):=fun o=>by rw [hG]; rfl
   rw [e,← hG]
   exact b8.dv (al:=false) hn _ dst _
  ·rename_i hk hg
   injection h with h; injection h with h1 h2; subst h1 h2
   have ze:=hg
   rw [hG] at ze
   simp only [hk,ze]
   refine ⟨_,rfl,?_⟩
   have e:∀ o,t.dP o=t.bY (s.G++[o]):=fun o=>by rw [hG]; rfl
   rw [e,← hG]
   exact b8.dv (al:=false) hn _ dst _
 case next x b=>
  cases b with
  | false=>simp [ar] at h
  | true=>
   simp only [ar,eK x (by simp [Op.operands])] at h ⊢
   split at h
   ·rename_i s1 hs
    injection h with h; injection h with h1 h2; subst h1 h2
    obtain ⟨t',h3,h4⟩:=Fq (al:=false) hn hG hs
    rw [h3]
    exact ⟨_,rfl,h4⟩
   ·cases h
 case makeMap ty r=>
  cases r with
  | none=>
   simp only [ar] at h ⊢
   injection h with h; injection h with h1 h2; subst h1 h2
   refine ⟨_,rfl,?_⟩
   have:=b8.dv (al:=false) hn (s.G++[.map []]) dst (.v (.map s.G.length))
   have e:∀ o,t.dP o=t.bY (s.G++[o]):=fun o=>by rw [hG]; rfl
   rw [e,← hG]
   exact this
  | some _=>simp [ar] at h
 case call cl=>
  obtain ⟨callee,args,tys⟩:=cl
  cases callee with
  | builtin b=>
   have h1:mC E s.ae args.toList=mC E t.ae args.toList:=gW fun y hy=>eK y (by simp [Op.operands,Call.operands]; simpa using hy)
   cases hf:ig E f s { dst:=dst,op:=.call { callee:=.builtin b,args:=args,argTypes:=tys },type:=ty,pos:=pos,after:=after,guard:=guard } with
   | some r=>
    simp only [ar,hf] at h
    obtain ⟨t',q1,q2⟩:=wZ (al:=eP (.call { callee:=.builtin b,args:=args,argTypes:=tys })) hn hG eK (c:=r.1) (s':=r.2) hf
    cases h
    obtain ⟨a2,t2,ho⟩:=ng hf
    cases ho
    refine ⟨t',by simp only [ar,q1],?_⟩
    exact q2
   | none=>
   have W6:=va hn hG eK hf
   simp only [ar,hf,W6,h1] at h ⊢
   split at h
   ·(try simp only [*])
    obtain ⟨t',h3,h4⟩:=zo (al:=false) hn hG h
    refine ⟨t',h3,?_⟩
    have:(!tv (.call { callee:=.builtin b,args:=args,argTypes:=tys }))=NP b∨NP b=false:=by cases b <;> simp [tv,NP]
    rcases this with this | this
    ·rw [this]; exact h4
    ·obtain ⟨pre,preB,G,p1,p2,p3⟩:=h4
     exact ⟨pre,preB,G,p1,fun _=>p2 this,p3⟩
   ·cases h
  | _=>simp [ar] at h
 all_goals (simp [ar] at h)
end
end Go.Am
namespace Go.Am
open Go
structure pR (s t:St):Prop where
 l:lk s.ae=lk t.ae
 b:dS s.boxes=dS t.boxes
 G:s.G=t.G
 m:s.marks=t.marks
 ro:s.ro=t.ro
 n:s.n=t.n
theorem pR.refl (s:St):pR s s:=⟨rfl,rfl,rfl,rfl,rfl,rfl⟩
theorem pR.symm {s t:St} (h:pR s t):pR t s:=⟨h.l.symm,h.b.symm,h.G.symm,h.m.symm,h.ro.symm,h.n.symm⟩
theorem pR.trans {s t u:St} (h:pR s t) (k:pR t u):pR s u:=⟨h.l.trans k.l,h.b.trans k.b,h.G.trans k.G,h.m.trans k.m,h.ro.trans k.ro,h.n.trans k.n⟩
theorem mc {a b:bp} {e:Nat} (h:lk a e=lk b e):∀ pre:bp,lk (pre++a) e=lk (pre++b) e
 | []=>h
 | .put d x :: pre=>by
  simp only [List.cons_append,lk]
  rw [mc h pre]
 | .kill d :: pre=>by
  simp only [List.cons_append,lk]
  rw [mc h pre]
theorem xd {a b:cF} {e:Nat} (h:dS a e=dS b e):∀ pre:cF,dS (pre++a) e=dS (pre++b) e
 | []=>h
 | (d,x) :: pre=>by
  simp only [List.cons_append,dS]
  rw [xd h pre]
theorem pR.iC {s t:St} (h:pR s t) (pre:bp) (preB:cF) (G:List GO):pR (s.iC pre preB G) (t.iC pre preB G):=
 ⟨funext fun e=>mc (by rw [h.l]) pre,funext fun e=>xd (by rw [h.b]) preB,rfl,h.m,h.ro,h.n⟩
theorem Kn {E:Env} {a b:bp} {x:Operand} (h:∀ t,x=.tmp t→lk a t=lk b t):bS E a x=bS E b x:=by
 cases x with
 | tmp t=>exact h t rfl
 | _=>rfl
theorem pR.bS {E:Env} {s t:St} (h:pR s t) (x:Operand):bS E s.ae x=bS E t.ae x:=Kn fun e _=>by rw [h.l]
section CT
variable {E:Env} {R:aj} {w:World} {β:Nat→Nat} {s t:St} {a:Act}
theorem bi.eqv (h:bi E R w β s a) (e:pR s t):bi E R w β t a where
 g:=by rw [← e.G]; exact h.g
 b:=⟨fun k cs hk=>h.b.box k cs (by rw [e.b]; exact hk),fun k k' c c' h1 h2=>h.b.inj k k' c c' (by rw [e.b]; exact h1) (by rw [e.b]; exact h2)⟩
 t:=fun i hi=>by
  rw [← e.l] at hi ⊢
  exact h.t i hi
 n:=by rw [← e.n]; exact h.n
 d:=by rw [← e.m]; exact h.d
theorem vw {bx JA:cF} (h:dS bx=dS JA) {b:Nat} (k:Own R β bx b):Own R β JA b:=by
 rcases k with k | ⟨j,cs,h1,h2⟩
 ·exact .inl k
 ·exact .inr ⟨j,cs,by rw [← h]; exact h1,h2⟩
theorem Step.eqv {R':aj} {w':World} {β':Nat→Nat} {bx JA cx cx':cF} (h:Step R w β bx R' w' β' JA) (h1:dS bx=dS cx) (h2:dS JA=dS cx'):Step R w β cx R' w' β' cx':=
 ⟨h.ext,h.os,h.tape,h.output,h.size,fun b hb hn=>h.bQ b hb (fun ho=>hn (vw h1 ho)),fun b hb ho=>vw h1 (h.own b hb (vw h2.symm ho)),fun b o hi hb hn=>h.im b o hi hb (fun ho=>hn (vw h1 ho))⟩
end CT
section ops
variable {E:Env} {s t:St} {f:FuncId} {o:Oper} {K K':St→Prop}
def Inv (K:St→Prop):Prop:=∀ s t,pR s t→K s→K t
theorem CU {op:Op} (h:tv op=true):eP op=false:=by
 cases op <;> simp_all [tv,eP]
theorem tw (hn:s.n=t.n) (hG:s.G=t.G) (hB:dS s.boxes=dS t.boxes) (eK:∀ y∈o.op.operands,bS E s.ae y=bS E t.ae y) (h:nf E f o K s)
  (hK:∀ pre preB G,Wb (eP o.op) o.dst pre→(tv o.op=true→preB=[]∧G=s.G)→K (s.iC pre preB G)→K' (t.iC pre preB G)):nf E f o K' t:=by
 unfold nf at h ⊢
 split at h
 ·rename_i x args tys ho
  have h1:bS E s.ae x=bS E t.ae x:=eK x (by rw [ho]; simp [Op.operands,Call.operands])
  have h2:mC E s.ae args.toList=mC E t.ae args.toList:=gW fun y hy=>eK y (by rw [ho]; simp [Op.operands,Call.operands]; exact .inr (by simpa using hy))
  try simp only [ho]
  rw [← h1,← h2,← hG]
  split at h
  ·refine cO.mono h fun r G' hk=>?_
   obtain ⟨pre,preB,G,p1,p2,p3,p4⟩:=b8.dv (s:=s) (t:=t) (al:=eP o.op) hn G' o.dst (.v r)
   rw [p3] at hk
   rw [p4]
   exact hK pre preB G p1 (fun e=>by rw [ho] at e; simp [tv] at e) hk
  ·refine lA.mono h fun r G' hk=>?_
   obtain ⟨pre,preB,G,p1,p2,p3,p4⟩:=b8.dv (s:=s) (t:=t) (al:=eP o.op) hn G' o.dst (.v (.bool r))
   rw [p3] at hk
   rw [p4]
   exact hK pre preB G p1 (fun e=>by rw [ho] at e; simp [tv] at e) hk
  ·exact h.elim
 ·exact h.elim
 ·split at h
  ·rename_i c s' hs
   obtain ⟨t',h1,pre,preB,G,p1,p2,p3,p4⟩:=gX hn hG hB eK hs
   rw [h1]
   obtain ⟨rfl,hk⟩:=h.out
   refine dD.mk rfl ?_
   rw [p3] at hk
   rw [p4]
   exact hK pre preB G p1 (fun e=>⟨(p2 (by simp [e])).1,(p2 (by simp [e])).2.1⟩) hk
  ·exact h.elim
theorem tx (h:nf E f o K s) (hK:∀ s,K s→K' s):nf E f o K' s:=
 tw rfl rfl rfl (fun _ _=>rfl) h fun _ _ _ _ _ hk=>hK _ hk
theorem xe (h:nf E f o K s) (e:pR s t) (hK:Inv K):nf E f o K t:=
 tw e.n e.G e.b (fun y _=>e.bS y) h fun _ _ _ _ _ hk=>hK _ _ (e.iC _ _ _) hk
def Cb (ops:List Oper) (s:St) (o:Oper):Option Bool:=match o.guard with
 | none=>some true
 | some (j,want)=>match oz ops j with
  | some d=>match lk s.ae d with
   | .v (.bool b)=>some (b == want)
   | .v (.bH [])=>some false
   | _=>none
  | none=>none
theorem CV (s:St) {d:Tmp} {x:SV} (h:lk s.ae d=x):pR s (s.put (some d) x):=by
 simp only [St.put]
 split
 ·refine ⟨funext fun e=>?_,rfl,rfl,rfl,rfl,rfl⟩
  by_cases k:d=e
  ·subst k; rw [ba]; exact h
  ·rw [bA k]
 ·exact pR.refl s
theorem pR.put {s t:St} (h:pR s t) (d:Option Tmp) (x:SV):pR (s.put d x) (t.put d x):=by
 obtain ⟨pre,preB,G,_,_,p3,p4⟩:=b8.put (s:=s) (t:=t) (al:=false) (w:=false) h.n h.G d x
 rw [p3,p4]
 exact h.iC _ _ _
theorem js {ops:List Oper} (hK:Inv K):cB E f ops o K s↔(Cb ops s o=some true∧nf E f o K s)∨(Cb ops s o=some false∧K (s.put o.dst (.v gJ))):=by
 unfold cB Cb
 cases hg:o.guard with
 | none=>simp
 | some p=>
  obtain ⟨j,want⟩:=p
  simp only
  cases hd:oz ops j with
  | none=>simp
  | some d=>
   simp only
   cases hl:lk s.ae d with
   | none=>simp
   | lp _ _=>simp
   | v a=>
    cases a with
    | bool b=>
     have e1:b=want→pR s (s.put (some d) (.v (.bool want))):=fun e=>CV s (by rw [hl,e])
     have e2:b=(!want)→pR s (s.put (some d) (.v (.bool (!want)))):=fun e=>CV s (by rw [hl,e])
     constructor
     ·intro ⟨h1,h2⟩
      by_cases e:b=want
      ·exact .inl ⟨by simp [e],xe (h1 e) (e1 e).symm hK⟩
      ·have e':b=(!want):=by cases b <;> cases want <;> simp_all
       exact .inr ⟨by simp [e],hK _ _ ((e2 e').symm.put _ _) (h2 e')⟩
     ·rintro (⟨h1,h2⟩ | ⟨h1,h2⟩)
      ·have e:b=want:=by simpa using h1
       exact ⟨fun e=>xe h2 (e1 e) hK,fun e'=>by subst e; cases b <;> cases e'⟩
      ·have e:¬ b=want:=by simpa using h1
       exact ⟨fun k=>absurd k e,fun e'=>hK _ _ ((e2 e').put _ _) h2⟩
    | bH vs=>cases vs <;> simp
    | _=>simp
theorem cT {ops:List Oper} (h:cB E f ops o K s) (hK:∀ s,K s→K' s):cB E f ops o K' s:=by
 unfold cB at h ⊢
 split at h
 ·exact tx h hK
 ·split at h
  ·exact h.elim
  ·split at h
   ·exact ⟨fun e=>tx (h.1 e) hK,fun e=>hK _ (h.2 e)⟩
   ·exact hK _ h
   ·exact h.elim
theorem Bg {ops:List Oper} (e:pR s t):Cb ops s o=Cb ops t o:=by
 unfold Cb
 rw [e.l]
theorem CW {ops:List Oper} (hK:Inv K):Inv (cB E f ops o K):=fun s t e h=>by
 rw [js hK] at h ⊢
 rcases h with ⟨h1,h2⟩ | ⟨h1,h2⟩
 ·exact .inl ⟨by rw [← Bg e]; exact h1,xe h2 e hK⟩
 ·exact .inr ⟨by rw [← Bg e]; exact h1,hK _ _ (e.put _ _) h2⟩
end ops
end Go.Am
namespace Go.Am
open Go
def Ko (dst:Option Tmp) (s t s' t':St):Prop:=∃ x,s'=s.put dst x∧t'=t.put dst x
section
variable {E:Env} {s t:St} {o:Oper}
theorem Ko.put (_:s.n=t.n) (dst:Option Tmp) (x:SV):Ko dst s t (s.put dst x) (t.put dst x):=⟨x,rfl,rfl⟩
theorem CX {f:FuncId} {c:Bool} {s':St} (hN:tv o.op=true) (hR:Tg o.op=false) (hn:s.n=t.n) (eK:∀ y∈o.op.operands,bS E s.ae y=bS E t.ae y)
  (h:ar E f s o=some (c,s')):∃ t',ar E f t o=some (c,t')∧Ko o.dst s t s' t':=by
 obtain ⟨dst,op,ty,pos,after,guard⟩:=o
 cases op
 case move x=>
  simp only [ar,eK x (by simp [Op.operands])] at h ⊢
  split at h
  all_goals (injection h with h; injection h with h1 h2; subst h1 h2; (try simp only [*]); exact ⟨_,rfl,.put hn _ _⟩)
 case assign x=>
  simp only [ar,eK x (by simp [Op.operands])] at h ⊢
  split at h
  all_goals (injection h with h; injection h with h1 h2; subst h1 h2; (try simp only [*]); exact ⟨_,rfl,.put hn _ _⟩)
 case pick x y z=>
  simp only [ar,eK x (by simp [Op.operands]),eK y (by simp [Op.operands]),eK z (by simp [Op.operands])] at h ⊢
  split at h
  ·injection h with h; injection h with h1 h2; subst h1 h2; (try simp only [*]); exact ⟨_,rfl,.put hn _ _⟩
  ·cases h
 case build ty ps=>
  have he:mH E s ty ps.toList=mH E t ty ps.toList:=by
   unfold mH
   rw [mb (fun p hp=>eK p.2 (by simp only [Op.operands,List.mem_toArray,List.mem_map]; exact ⟨p,hp,rfl⟩))]
  simp only [ar,he] at h ⊢
  split at h
  ·injection h with h; injection h with h1 h2; subst h1 h2; (try simp only [*]); exact ⟨_,rfl,.put hn _ _⟩
  ·cases h
 case buildSlice ty len ps=>
  have he:bV E s ty len ps.toList=bV E t ty len ps.toList:=by
   unfold bV
   rw [mb (fun p hp=>eK p.2 (by simp only [Op.operands,List.mem_toArray,List.mem_map]; exact ⟨p,hp,rfl⟩))]
  simp only [ar,he] at h ⊢
  split at h
  ·injection h with h; injection h with h1 h2; subst h1 h2; (try simp only [*]); exact ⟨_,rfl,.put hn _ _⟩
  ·cases h
 case binOp op a x y b=>
  simp only [ar,eK x (by simp [Op.operands]),eK y (by simp [Op.operands])] at h ⊢
  repeat' (split at h)
  all_goals (first | (cases h; done) | skip)
  all_goals (injection h with h; injection h with h1 h2; subst h1 h2; (try simp only [*]); exact ⟨_,rfl,.put hn _ _⟩)
 case unOp op a x=>
  simp only [ar,eK x (by simp [Op.operands])] at h ⊢
  repeat' (split at h)
  all_goals (first | (cases h; done) | skip)
  all_goals (injection h with h; injection h with h1 h2; subst h1 h2; (try simp only [*]); exact ⟨_,rfl,.put hn _ _⟩)
 case convert a b x=>simp [Tg] at hR
 case nilCheck x=>
  simp only [ar,eK x (by simp [Op.operands])] at h ⊢
  repeat' (split at h)
  all_goals (first | (cases h; done) | skip)
  all_goals (injection h with h; injection h with h1 h2; subst h1 h2; (try simp only [*]); exact ⟨_,rfl,.put hn _ _⟩)
 case makeFunc fo a b=>
  cases fo with
  | func g=>
   have h1:mC E s.ae a.toList=mC E t.ae a.toList:=gW fun y hy=>eK y (by simp only [Op.operands,Array.mem_append]; exact .inl (by simpa using hy))
   have h2:mC E s.ae b.toList=mC E t.ae b.toList:=gW fun y hy=>eK y (by simp only [Op.operands,Array.mem_append]; exact .inr (by simpa using hy))
   simp only [ar,h1,h2] at h ⊢
   repeat' (split at h)
   all_goals (first | (cases h; done) | skip)
   all_goals (injection h with h; injection h with h1 h2; subst h1 h2; (try simp only [*]); exact ⟨_,rfl,.put hn _ _⟩)
  | _=>simp [ar] at h
 case fieldAddr a x j=>
  simp only [ar,eK x (by simp [Op.operands])] at h ⊢
  repeat' (split at h)
  all_goals (first | (cases h; done) | skip)
  all_goals (injection h with h; injection h with h1 h2; subst h1 h2; (try simp only [*]); exact ⟨_,rfl,.put hn _ _⟩)
 case field a x j=>
  simp only [ar,eK x (by simp [Op.operands])] at h ⊢
  repeat' (split at h)
  all_goals (first | (cases h; done) | skip)
  all_goals (injection h with h; injection h with h1 h2; subst h1 h2; (try simp only [*]); exact ⟨_,rfl,.put hn _ _⟩)
 case indexAddr a x y=>
  simp only [ar,eK x (by simp [Op.operands]),eK y (by simp [Op.operands])] at h ⊢
  repeat' (split at h)
  all_goals (first | (cases h; done) | skip)
  all_goals (injection h with h; injection h with h1 h2; subst h1 h2; (try simp only [*]); exact ⟨_,rfl,.put hn _ _⟩)
 case index a x y=>
  simp only [ar,eK x (by simp [Op.operands]),eK y (by simp [Op.operands])] at h ⊢
  repeat' (split at h)
  all_goals (first | (cases h; done) | skip)
  all_goals (injection h with h; injection h with h1 h2; subst h1 h2; (try simp only [*]); exact ⟨_,rfl,.put hn _ _⟩)
 case slice a x lo hi mx=>
  have h1:mI E s.ae lo=mI E t.ae lo:=by
   cases lo with
   | none=>rfl
   | some y=>simp only [mI]; rw [eK y (by simp [Op.operands])]
  have h2:mI E s.ae hi=mI E t.ae hi:=by
   cases hi with
   | none=>rfl
   | some y=>simp only [mI]; rw [eK y (by simp [Op.operands])]
  simp only [ar,eK x (by simp [Op.operands]),h1,h2] at h ⊢
  repeat' (split at h)
  all_goals (first | (cases h; done) | skip)
  all_goals (injection h with h; injection h with h1 h2; subst h1 h2; (try simp only [*]); exact ⟨_,rfl,.put hn _ _⟩)
 case extract x i=>
  simp only [ar,eK x (by simp [Op.operands])] at h ⊢
  repeat' (split at h)
  all_goals (first | (cases h; done) | skip)
  all_goals (injection h with h; injection h with h1 h2; subst h1 h2; (try simp only [*]); exact ⟨_,rfl,.put hn _ _⟩)
 all_goals (first | (simp [tv] at hN; done) | (simp [Tg] at hR; done))
end
end Go.Am
namespace Go.Am
open Go
section
variable {E:Env} {s t:St} {f:FuncId} {ops:Array Oper} {o oj oi:Oper} {d:Tmp} {x:SV} {K:St→Prop}
theorem Kp (ops:Array Oper) (j:Nat):oz ops.toList j=(ops[j]?).bind (·.dst):=by
 unfold oz
 rw [aY,Array.getElem?_toList]
 cases ops[j]? <;> rfl
theorem Bh {e:Tmp} (h:.tmp e∈o.op.operands):e∈o.looksAt ops:=
 List.mem_append_left _ (List.mem_filterMap.2 ⟨.tmp e,by simpa using h,rfl⟩)
theorem jK {j:Nat} {want:Bool} {e:Tmp} (h:o.guard=some (j,want)) (he:oz ops.toList j=some e):e∈o.looksAt ops:=by
 rw [Kp] at he
 refine List.mem_append_right _ ?_
 rw [h]
 simp [he]
theorem oC (h:∀ e∈o.looksAt ops,lk s.ae e=lk t.ae e):∀ y∈o.op.operands,bS E s.ae y=bS E t.ae y:=fun _ hy=>
 Kn fun e he=>h e (Bh (he ▸ hy))
theorem pq (h:∀ e∈o.looksAt ops,lk s.ae e=lk t.ae e):Cb ops.toList s o=Cb ops.toList t o:=by
 unfold Cb
 split
 ·rfl
 ·rename_i j want hg
  split
  ·rename_i e he
   rw [h e (jK hg he)]
  ·rfl
theorem vx (s:St) (d:Tmp) (x:SV) {e:Nat} (h:d≠e):lk (s.put (some d) x).ae e=lk s.ae e:=by
 simp only [St.put]
 split
 ·exact bA h
 ·rfl
theorem iO (s:St) (d:Option Tmp) (x:SV):(s.put d x).boxes=s.boxes∧(s.put d x).G=s.G∧(s.put d x).n=s.n∧(s.put d x).marks=s.marks∧(s.put d x).ro=s.ro:=by
 cases d with
 | none=>exact ⟨rfl,rfl,rfl,rfl,rfl⟩
 | some d=>
  simp only [St.put]
  split <;> exact ⟨rfl,rfl,rfl,rfl,rfl⟩
def xf (E:Env) (f:FuncId) (ops:Array Oper) (o:Oper) (s:St) (x:SV):Prop:=
 (Cb ops.toList s o=some true∧ar E f s o=some (true,s.put o.dst x))∨(Cb ops.toList s o=some false∧x=.v gJ)
theorem Kq {c:Bool} {s':St} (hN:tv o.op=true) (h:ar E f s o=some (c,s')):∃ x,s'=s.put o.dst x:=by
 obtain ⟨t',_,pre,preB,G,_,h2,_,_⟩:=gX (t:=s) rfl rfl rfl (fun _ _=>rfl) h
 obtain ⟨_,_,x,hx,_⟩:=h2 (by simp [hN])
 exact ⟨x,hx⟩
theorem Kr (hN:tv o.op=true):nf E f o K s↔∃ s',ar E f s o=some (true,s')∧K s':=by
 unfold nf
 split
 ·rename_i h
  rw [h] at hN
  simp [tv] at hN
 ·rename_i h
  rw [h] at hN
  simp [tv] at hN
 ·split
  ·rename_i c s' hs
   constructor
   ·intro h
    obtain ⟨rfl,hk⟩:=h.out
    exact ⟨s',hs,hk⟩
   ·rintro ⟨EZ,h1,h2⟩
    rw [hs] at h1
    cases h1
    exact dD.mk rfl h2
  ·rename_i hs
   constructor
   ·exact fun h=>h.elim
   ·rintro ⟨EZ,h1,_⟩
    rw [hs] at h1
    cases h1
theorem xg (hN:tv o.op=true) (hK:Inv K) (h:cB E f ops.toList o K s):∃ x,xf E f ops o s x∧K (s.put o.dst x):=by
 rcases (js hK).1 h with ⟨h1,h2⟩ | ⟨h1,h2⟩
 ·obtain ⟨s',h3,h4⟩:=(Kr hN).1 h2
  obtain ⟨x,rfl⟩:=Kq hN h3
  exact ⟨x,.inl ⟨h1,h3⟩,h4⟩
 ·exact ⟨_,.inr ⟨h1,rfl⟩,h2⟩
theorem xh (hN:tv o.op=true) (hK:Inv K) (hx:xf E f ops o s x) (h:K (s.put o.dst x)):cB E f ops.toList o K s:=by
 rw [js hK]
 rcases hx with ⟨h1,h2⟩ | ⟨h1,rfl⟩
 ·exact .inl ⟨h1,(Kr hN).2 ⟨_,h2,h⟩⟩
 ·exact .inr ⟨h1,h⟩
def Fs (E:Env) (f:FuncId) (ops:List Oper) (o:Oper) (s:St):Prop:=match Cb ops s o with
 | some true=>match o.dst,ar E f s o with
  | some d,some (c,s')=>c=true∧lk s'.ae d=lk s.ae d
  | _,_=>False
 | some false=>True
 | none=>False
theorem NQ (hN:tv o.op=true) (hd:d∉o.looksAt ops) (cL:o.dst≠some d) (he:∀ e,d≠e→lk s.ae e=lk t.ae e) (hB:dS s.boxes=dS t.boxes) (hG:s.G=t.G) (hn:s.n=t.n)
  (h:Fs E f ops.toList o s):Fs E f ops.toList o t:=by
 have hl:∀ e∈o.looksAt ops,lk s.ae e=lk t.ae e:=fun e hm=>he e fun k=>hd (k ▸ hm)
 unfold Fs at h ⊢
 rw [← pq hl]
 split
 ·rename_i hg
  rw [hg] at h
  simp only at h
  split at h
  ·rename_i e c s' It hs
   obtain ⟨t',h3,pre,preB,G,_,h4,_,_⟩:=gX hn hG hB (oC hl) hs
   obtain ⟨_,_,y,h5,h6⟩:=h4 (by simp [hN])
   rw [It,h3]
   refine ⟨h.1,?_⟩
   have hde:d≠e:=fun k=>cL (by rw [It,k])
   have h7:=h.2
   rw [h5,It] at h7
   rw [h6,It,← he e hde]
   simp only [St.put,← hn] at h7 ⊢
   split
   ·rename_i hb
    rw [hb] at h7
    simp only [ba] at h7 ⊢
    exact h7
   ·exact (he e hde).symm
  ·exact h.elim
 ·trivial
 ·rename_i hg
  rw [hg] at h
  exact h
theorem NR (hN:tv o.op=true) (e:pR s t) (h:Fs E f ops.toList o s):Fs E f ops.toList o t:=by
 unfold Fs at h ⊢
 rw [← Bg e]
 split
 ·rename_i hg
  rw [hg] at h
  simp only at h
  split at h
  ·rename_i d c s' It hs
   obtain ⟨t',h3,pre,preB,G,_,h4,_,_⟩:=gX e.n e.G e.b (fun y _=>e.bS y) hs
   obtain ⟨_,_,y,h5,h6⟩:=h4 (by simp [hN])
   rw [It,h3]
   refine ⟨h.1,?_⟩
   rw [h6,← (e.put o.dst y).l,← h5,← e.l]
   exact h.2
  ·exact h.elim
 ·trivial
 ·rename_i hg
  rw [hg] at h
  exact h
def jt (oj oi:Oper):Bool:=eP oi.op || (Tg oj.op&&!tv oi.op)
theorem Ks {al:Bool} {dst:Option Tmp} {pre:bp} (h:Wb al dst pre) {e:Nat} (he:dst≠some e) (l:bp):lk (pre++l) e=lk l e∨(al=true∧∃ k off,lk l e=.lp k off):=by
 rcases h with rfl | ⟨d,y,rfl,rfl | ⟨rfl,rfl⟩⟩
 ·exact .inl rfl
 ·exact .inl (bA fun k=>he (by rw [k]))
 ·simp only [List.cons_append,List.nil_append]
  rw [bA (fun k=>he (by rw [k]))]
  simp only [lk]
  cases hl:lk l e with
  | lp k off=>exact .inr ⟨trivial,k,off,rfl⟩
  | _=>exact .inl rfl
theorem sb {al:Bool} {pre:bp} (preB:cF) (G:List GO) (h:Wb al oi.dst pre) (cL:oi.dst≠some d) (hx:al=false∨∃ a,x=.v a):pR ((s.put (some d) x).iC pre preB G) ((s.iC pre preB G).put (some d) x):=by
 have hb:∀ b,Nat.blt d s.n=b→pR ((s.put (some d) x).iC pre preB G) ((s.iC pre preB G).put (some d) x):=fun b hb=>by
  have kT:Nat.blt d (s.iC pre preB G).n=b:=hb
  rw [kY,kY,hb,kT]
  cases b with
  | false=>exact pR.refl _
  | true=>
   refine ⟨funext fun e=>?_,rfl,rfl,rfl,rfl,rfl⟩
   simp only [cond_true,St.iC,List.cons_append,List.nil_append]
   by_cases k:d=e
   ·subst k
    rw [ba]
    rcases Ks h cL (.put d x :: s.ae) with h1 | ⟨h1,k,off,h2⟩
    ·rw [h1,ba]
    ·rw [ba] at h2
     rcases hx with hx | ⟨a,hx⟩
     ·rw [hx] at h1; cases h1
     ·rw [hx] at h2; cases h2
   ·rw [bA k]
    exact mc (bA k) pre
 exact hb _ rfl
theorem Iu (hN:tv oj.op=true) (Nh:oj.dst=some d) (CY:d∉oj.looksAt ops) (ZH:oj.apart ops oi=true) (hK:Inv K) (hx:xf E f ops oj s x) {pre:bp} {preB:cF} {G:List GO}
  (CZ:Wb (eP oi.op) oi.dst pre) (Xi:tv oi.op=true→preB=[]∧G=s.G) (hk:K ((s.put (some d) x).iC pre preB G)) (WU:∀ t',K t'→jt oj oi=true→Fs E f ops.toList oj t') :
  ∃ x',xf E f ops oj (s.iC pre preB G) x'∧K ((s.iC pre preB G).put (some d) x'):=by
 obtain ⟨_,cL,E2⟩:=Oper.apart_spec ZH
 have Xj:oi.dst≠some d:=cL d Nh
 have Ab:∀ e∈oj.looksAt ops,oi.dst≠some e:=fun e he k=>E2 e k he
 have yU:∀ e∈oj.looksAt ops,(eP oi.op=false∨∃ b,lk s.ae e=.v b)→lk s.ae e=lk (s.iC pre preB G).ae e:=fun e he ha=>by
  rcases Ks CZ (Ab e he) s.ae with h1 | ⟨h1,k,off,h2⟩
  ·exact h1.symm
  ·rcases ha with ha | ⟨b,ha⟩
   ·rw [ha] at h1; cases h1
   ·rw [ha] at h2; cases h2
 have NS:∀ b,Cb ops.toList s oj=some b→Cb ops.toList (s.iC pre preB G) oj=some b:=fun b hb=>by
  unfold Cb at hb ⊢
  split
  ·rename_i hg; rw [hg] at hb; exact hb
  ·rename_i j want hg
   rw [hg] at hb
   simp only at hb
   split
   ·rename_i e he
    rw [he] at hb
    simp only at hb
    split at hb
    ·rename_i b' hl
     have:=yU e (jK hg he) (.inr ⟨_,hl⟩)
     rw [← this,hl]
     exact hb
    ·rename_i hl
     have:=yU e (jK hg he) (.inr ⟨_,hl⟩)
     rw [← this,hl]
     exact hb
    ·cases hb
   ·rename_i he; rw [he] at hb; cases hb
 rcases hx with ⟨h1,h2⟩ | ⟨h1,rfl⟩
 ·rw [Nh] at h2
  by_cases aa3:jt oj oi=true
  ·have hr:=WU _ hk aa3
   -- the state with the slot, and the one without it
   have A7:∀ e,d≠e→lk ((s.put (some d) x).iC pre preB G).ae e=lk (s.iC pre preB G).ae e:=fun e he=>mc (vx s d x he) pre
   have hB:dS ((s.put (some d) x).iC pre preB G).boxes=dS (s.iC pre preB G).boxes:=by
    simp only [St.iC]; rw [(iO s _ x).1]
   have hn:((s.put (some d) x).iC pre preB G).n=(s.iC pre preB G).n:=(iO s _ x).2.2.1
   have Iv:∀ e∈oj.looksAt ops,lk ((s.put (some d) x).iC pre preB G).ae e=lk (s.iC pre preB G).ae e:=fun e he=>A7 e fun k=>CY (k ▸ he)
   have hg2:Cb ops.toList ((s.put (some d) x).iC pre preB G) oj=some true:=by rw [pq Iv]; exact NS _ h1
   unfold Fs at hr
   rw [hg2] at hr
   simp only [Nh] at hr
   split at hr
   ·rename_i d' c s' M7 hs
    cases M7
    obtain ⟨rfl,hr⟩:=hr
    obtain ⟨t',h3,p,pB,G2,_,h4,_,_⟩:=gX (t:=s.iC pre preB G) hn rfl hB (oC Iv) hs
    obtain ⟨_,_,y,h5,h6⟩:=h4 (by simp [hN])
    rw [h6] at h3
    rw [h5,Nh] at hr
    refine ⟨y,.inl ⟨NS _ h1,h3⟩,hK _ _ ?_ hk⟩
    have hmr:((s.put (some d) x).iC pre preB G).marks=(s.iC pre preB G).marks∧((s.put (some d) x).iC pre preB G).ro=(s.iC pre preB G).ro:=(iO s _ x).2.2.2
    obtain ⟨q1,q2,q3,q4,q5⟩:=iO (s.iC pre preB G) (some d) y
    refine ⟨funext fun e=>?_,by rw [q1]; exact hB,by rw [q2]; rfl,by rw [q4]; exact hmr.1,by rw [q5]; exact hmr.2,by rw [q3]; exact hn⟩
    by_cases k:d=e
    ·subst k
     rw [← hr]
     have hb:∀ b,Nat.blt d s.n=b→lk (((s.put (some d) x).iC pre preB G).put (some d) y).ae d=lk ((s.iC pre preB G).put (some d) y).ae d:=fun b hb=>by
      have Xk:Nat.blt d (s.iC pre preB G).n=b:=hb
      have Jq:Nat.blt d ((s.put (some d) x).iC pre preB G).n=b:=by rw [hn]; exact hb
      rw [kY _ d y,kY _ d y,Xk,Jq]
      cases b with
      | true=>simp [St.iC,ba]
      | false=>
       simp only [cond_false]
       rw [kY,hb]
       rfl
     exact hb _ rfl
    ·rw [vx _ _ _ k]
     exact A7 e k
   ·exact hr.elim
  ·have GQ:eP oi.op=false:=by cases ha:eP oi.op <;> simp_all [jt]
   have hl:∀ e∈oj.looksAt ops,lk s.ae e=lk (s.iC pre preB G).ae e:=fun e he=>yU e he (.inl GQ)
   have fin:∀ y,s.put (some d) x=s.put (some d) y→ar E f (s.iC pre preB G) oj=some (true,(s.iC pre preB G).put oj.dst y) →
     ∃ x',xf E f ops oj (s.iC pre preB G) x'∧K ((s.iC pre preB G).put (some d) x'):=fun y hy hs=>by
    refine ⟨y,.inl ⟨NS _ h1,hs⟩,hK _ _ (sb (oi:=oi) preB G CZ Xj (.inl GQ)) ?_⟩
    rw [← hy]
    exact hk
   cases hNo:tv oi.op with
   | true=>
    obtain ⟨rfl,rfl⟩:=Xi hNo
    obtain ⟨t',h3,p,pB,G2,_,h4,_,_⟩:=gX (s:=s) (t:=s.iC pre [] s.G) rfl rfl rfl (oC hl) h2
    obtain ⟨_,_,y,h5,h6⟩:=h4 (by simp [hN])
    rw [Nh] at h5
    exact fin y h5 (by rw [h3,h6])
   | false=>
    have hR:Tg oj.op=false:=by cases ha:Tg oj.op <;> simp_all [jt]
    obtain ⟨t',h3,y,h5,h6⟩:=CX (s:=s) (t:=s.iC pre preB G) hN hR rfl (oC hl) h2
    rw [Nh] at h5
    exact fin y h5 (by rw [h3,h6])
 ·exact ⟨_,.inr ⟨NS _ h1,rfl⟩,hK _ _ (sb (oi:=oi) preB G CZ Xj (.inr ⟨_,rfl⟩)) hk⟩
end
end Go.Am
namespace Go.Am
open Go
section
variable {E:Env} {s t:St} {f:FuncId} {ops:Array Oper} {o oj oi:Oper} {d:Tmp} {x:SV} {K K':St→Prop} {eD:Nat→List Nat} {C:List Nat}
def Jr (E:Env) (f:FuncId) (ops:Array Oper) (eD:Nat→List Nat) (C:List Nat) (i:Nat) (s:St):Prop:=
 ∀ j∈C,∀ oj oi,ops[j]?=some oj→ops[i]?=some oi→jt oj oi=true→j∉eD i→Fs E f ops.toList oj s
def NC (ops:Array Oper) (C:List Nat):Prop:=∀ j∈C,∀ oj,ops[j]?=some oj→tv oj.op=true
theorem vy {i:Nat} (hC:NC ops C):Inv (Jr E f ops eD C i):=fun _ _ e h j hj oj oi h1 h2 h3 h4=>NR (hC j hj oj h1) e (h j hj oj oi h1 h2 h3 h4)
def jQ (E:Env) (f:FuncId) (ops:Array Oper) (eD:Nat→List Nat) (C:List Nat) (K:St→Prop):Nat→Array Bool→St→Prop
 | 0,listed,s=>Region.ready .any ops listed=[]∧K s
 | n+1,listed,s=>(Region.ready .any ops listed=[]→K s) ∧
   ∀ i∈Region.ready .any ops listed,∀ oi,ops[i]?=some oi→cB E f ops.toList oi (fun s'=>Jr E f ops eD C i s'∧jQ E f ops eD C K n (listed.setIfInBounds i true) s') s
theorem me (hC:NC ops C) (hK:Inv K):∀ n listed,Inv (jQ E f ops eD C K n listed)
 | 0,_=>fun s t e h=>⟨h.1,hK s t e h.2⟩
 | n+1,_=>fun s t e h=>⟨fun h0=>hK s t e (h.1 h0),fun i hi oi Ab=>CW (fun s t e h=>⟨vy hC s t e h.1,me hC hK n _ s t e h.2⟩) s t e (h.2 i hi oi Ab)⟩
theorem nh {C':List Nat}:∀ n (listed:Array Bool) (s:St),
  (∀ k∈C',k∈C∨∀ i ok oi,ops[k]?=some ok→ops[i]?=some oi→listed.getD i true=false→jt ok oi=true→k∈eD i) →
  jQ E f ops eD C K n listed s→jQ E f ops eD C' K n listed s
 | 0,_,_,_,h=>h
 | n+1,listed,s,hk,h=>⟨h.1,fun i hi oi Ab=>cT (h.2 i hi oi Ab) fun s' h'=>⟨fun k Th ok R5 h1 h2 h3 h4=>by
   rcases hk k Th with h5 | h5
   ·exact h'.1 k h5 ok R5 h1 h2 h3 h4
   ·exact absurd (h5 i ok R5 h1 h2 (mem_ready.1 hi).1 h3) h4,nh n _ s' (fun k Th=>by
   rcases hk k Th with h5 | h5
   ·exact .inl h5
   ·refine .inr fun i' ok R5 h1 h2 h3 h4=>h5 i' ok R5 h1 h2 ?_ h4
    by_cases e:i=i'
    ·subst e; exact (mem_ready.1 hi).1
    ·rw [getD_set_ne true e] at h3; exact h3) h'.2⟩⟩
def C0 (ops:Array Oper) (eD:Nat→List Nat):Prop:=∀ i oi a,ops[i]?=some oi→a∈eD i→∃ e∈oi.after,Region.binds .any e=true∧(e.on=a∨a∈eD e.on)
def oD (eD:Nat→List Nat) (listed:Array Bool):Prop:=∀ i,listed.getD i false=true→∀ a∈eD i,listed.getD a false=true
theorem oD.ready {listed:Array Bool} (h:oD eD listed) (ha:C0 ops eD) {i:Nat} (hi:i∈Region.ready .any ops listed):∀ a∈eD i,listed.getD a false=true:=fun a ZI=>by
 obtain ⟨_,o,ho,ni⟩:=mem_ready.1 hi
 obtain ⟨e,he,hb,h2⟩:=ha i o a ho ZI
 rcases h2 with rfl | h2
 ·exact ni e he hb
 ·exact h _ (ni e he hb) a h2
theorem nJ {listed:Array Bool} {i:Nat} (h:listed.getD i false=true):listed.getD i true=true:=by
 rw [Array.getD_eq_getD_getElem?] at *
 cases hl:listed[i]? with
 | none=>rw [hl] at h; cases h
 | some b=>rw [hl] at h; exact h
theorem oD.add {listed:Array Bool} (h:oD eD listed) (ha:C0 ops eD) {i:Nat} (hi:i∈Region.ready .any ops listed):oD eD (listed.setIfInBounds i true):=fun k hk a ZI=>by
 by_cases e:i=k
 ·subst e
  exact getD_set_true (h.ready ha hi a ZI)
 ·rw [getD_set_ne false e] at hk
  exact getD_set_true (h k hk a ZI)
theorem Ft (hA:C0 ops eD) (hC:NC ops C) (hK:Inv K) {j:Nat} (hj:ops[j]?=some oj) (hN:tv oj.op=true) (Nh:oj.dst=some d) (CY:d∉oj.looksAt ops)
  (hCd:∀ k∈C,∀ ok,ops[k]?=some ok→d∉ok.looksAt ops∧ok.dst≠some d):∀ n (listed:Array Bool) (s:St) (x:SV),oD eD listed →
   (∀ i oi,ops[i]?=some oi→i≠j→listed.getD i true=false→(∀ e∈oi.after,Region.binds .any e=true→e.on≠j)→oj.apart ops oi=true) →
   j∈Region.ready .any ops listed→xf E f ops oj s x→jQ E f ops eD (j :: C) K n (listed.setIfInBounds j true) (s.put (some d) x)→jQ E f ops eD C K (n+1) listed s:=by
 have ZJ:NC ops (j :: C):=fun k hk ok ho=>by
  rcases List.mem_cons.1 hk with rfl | hk
  ·rw [hj] at ho; cases ho; exact hN
  ·exact hC k hk ok ho
 have self:∀ n (listed:Array Bool) (s:St) (x:SV),xf E f ops oj s x→jQ E f ops eD (j :: C) K n (listed.setIfInBounds j true) (s.put (some d) x)→∀ oi,ops[j]?=some oi →
   cB E f ops.toList oi (fun s'=>Jr E f ops eD C j s'∧jQ E f ops eD C K n (listed.setIfInBounds j true) s') s:=fun n listed s x hx h oi Ab=>by
  rw [hj] at Ab
  cases Ab
  refine xh hN (fun s t e h=>⟨vy hC s t e h.1,me hC hK _ _ s t e h.2⟩) hx ?_
  rw [Nh]
  refine ⟨fun k _ ok R5 _ h2 h3 _=>?_,nh n _ _ (fun k hk=>.inl (List.mem_cons_of_mem _ hk)) h⟩
  rw [hj] at h2
  cases h2
  simp [jt,CU hN,hN] at h3
 intro n
 induction n with
 | zero=>
  intro listed s x _ _ hr hx h
  refine ⟨fun h0=>by rw [h0] at hr; simp at hr,fun i hi oi Ab=>?_⟩
  by_cases e:i=j
  ·subst e; exact self 0 listed s x hx h oi Ab
  ·have:=ready_mono hi e
   rw [h.1] at this
   simp at this
 | succ n ih=>
  intro listed s x jh kU hr hx h
  refine ⟨fun h0=>by rw [h0] at hr; simp at hr,fun i hi oi Ab=>?_⟩
  by_cases e:i=j
  ·subst e; exact self (n+1) listed s x hx h oi Ab
  ·have Xl:=(mem_ready.1 hi).1
   have Xm:=(mem_ready.1 hr).1
   have SQ:∀ ed∈oi.after,Region.binds .any ed=true→ed.on≠j:=fun ed he hb jP=>by
    obtain ⟨_,o,ho,ni⟩:=mem_ready.1 hi
    rw [Ab] at ho
    cases ho
    have h1:=nJ (ni ed he hb)
    rw [jP,Xm] at h1
    cases h1
   have ZH:=kU i oi Ab e Xl SQ
   have hG:=h.2 i (ready_mono hi e) oi Ab
   have Xn:j∉eD i:=fun hm=>by
    have h1:=nJ (jh.ready hA hi j hm)
    rw [Xm] at h1
    cases h1
   have hKi:Inv (fun s'=>Jr E f ops eD (j :: C) i s'∧jQ E f ops eD (j :: C) K n ((listed.setIfInBounds j true).setIfInBounds i true) s'):=
    fun s t e h=>⟨vy ZJ s t e h.1,me ZJ hK _ _ s t e h.2⟩
   have Ti:∀ k ok,ops[k]?=some ok→k≠j→(listed.setIfInBounds i true).getD k true=false→(∀ e∈ok.after,Region.binds .any e=true→e.on≠j)→oj.apart ops ok=true:=fun k ok hk hkj hku vv=>by
    refine kU k ok hk hkj ?_ vv
    by_cases e':i=k
    ·subst e'; exact Xl
    ·rw [getD_set_ne true e'] at hku; exact hku
   have core:∀ {pre:bp} {preB:cF} {G:List GO},Wb (eP oi.op) oi.dst pre→(tv oi.op=true→preB=[]∧G=s.G) →
     (Jr E f ops eD (j :: C) i ((s.put (some d) x).iC pre preB G)∧jQ E f ops eD (j :: C) K n ((listed.setIfInBounds j true).setIfInBounds i true) ((s.put (some d) x).iC pre preB G)) →
     Jr E f ops eD C i (s.iC pre preB G)∧jQ E f ops eD C K (n+1) (listed.setIfInBounds i true) (s.iC pre preB G):=by
    intro pre preB G CZ Xi hk
    obtain ⟨x',wq,gl⟩:=Iu hN Nh CY ZH hKi hx CZ Xi hk (fun t' C1 hd=>C1.1 j (List.mem_cons_self ..) oj oi hj Ab hd Xn)
    refine ⟨fun k Th ok R5 h1 h2 h3 h4=>?_,?_⟩
    ·obtain ⟨q1,q2⟩:=hCd k Th ok h1
     obtain ⟨b1,b2,b3,_⟩:=iO (s.iC pre preB G) (some d) x'
     exact NQ (hC k Th ok h1) q1 q2 (fun e he=>vx _ _ _ he) (by rw [b1]) b2 b3 (gl.1 k (List.mem_cons_of_mem _ Th) ok R5 h1 h2 h3 h4)
    ·refine ih (listed.setIfInBounds i true) _ x' (jh.add hA hi) Ti (ready_mono hr (Ne.symm e)) wq ?_
     rw [Array.setIfInBounds_comm _ _ e]
     exact gl.2
   rw [js (fun s t e h=>⟨vy hC s t e h.1,me hC hK _ _ s t e h.2⟩)]
   obtain ⟨En,_,_⟩:=Oper.apart_spec ZH
   have yU:∀ e∈oi.looksAt ops,lk (s.put (some d) x).ae e=lk s.ae e:=fun e he=>vx s d x fun k=>En d Nh (k ▸ he)
   obtain ⟨b1,b2,b3,b4,b5⟩:=iO s (some d) x
   rcases (js hKi).1 hG with ⟨h1,h2⟩ | ⟨h1,h2⟩
   ·refine .inl ⟨by rw [← pq yU]; exact h1,tw b3 b2 (by rw [b1]) (oC yU) h2 fun pre preB G hp Xi hk=>core hp (fun hh=>?_) hk⟩
    obtain ⟨q1,q2⟩:=Xi hh
    exact ⟨q1,by rw [q2,b2]⟩
   ·refine .inr ⟨by rw [← pq yU]; exact h1,?_⟩
    obtain ⟨pre,preB,G,p1,p2,p3,p4⟩:=b8.put (s:=s.put (some d) x) (t:=s) (al:=eP oi.op) (w:=false) b3 b2 oi.dst (.v gJ)
    obtain ⟨q1,q2,_⟩:=p2 rfl
    rw [p3] at h2
    rw [p4]
    exact core p1 (fun _=>⟨q1,by rw [q2,b2]⟩) h2
end
inductive DT where
 | done
 | take (j:Nat) (C:List Nat) (t:DT)
 | br (i:Nat) (re C:List Nat) (t:DT) (more:DT)
 | stop
structure oE where
 dst:Option Tmp
 lo:List Tmp
 pr:List Nat
 n:Bool
 r:Bool
 a:Bool
def lB (x:Nat):List Nat→Bool
 | []=>false
 | y :: l=>Nat.beq x y || lB x l
def pt:List Edge→List Nat
 | []=>[]
 | e :: l=>bif Region.binds .any e then e.on :: pt l else pt l
def kl (ops:Array Oper) (o:Oper):oE:=⟨o.dst,o.looksAt ops,pt o.after.toList,tv o.op,Tg o.op,eP o.op⟩
def C2 {α:Type} (n:Nat) (K:Nat→α):α:=match n with
 | 0=>K 0
 | m+1=>K (Nat.succ m)
def Ac {α:Type}:List Nat→(List Nat→α)→α
 | [],K=>K []
 | a :: l,K=>C2 a fun a=>Ac l fun l=>K (a :: l)
def Tj {α:Type} (i:oE) (K:oE→α):α:=match i with
 | ⟨d,lo,pr,n,r,a⟩=>Ac lo fun lo=>Ac pr fun pr=>(match d with
  | none=>(fun (K:Option Tmp→α)=>K none)
  | some d=>(fun (K:Option Tmp→α)=>C2 d fun d=>K (some d))) fun d=>(bif n then (fun (K:Bool→α)=>K true) else fun K=>K false) fun n=>
   (bif r then (fun (K:Bool→α)=>K true) else fun K=>K false) fun r=>(bif a then (fun (K:Bool→α)=>K true) else fun K=>K false) fun a=>K ⟨d,lo,pr,n,r,a⟩
def GR {α:Type}:List oE→(List oE→α)→α
 | [],K=>K []
 | i :: l,K=>Tj i fun i=>GR l fun l=>K (i :: l)
def Bi (x y:oE):Bool:=
 (match x.dst with
 | some d=>!lB d y.lo&&(match y.dst with | some e=>!Nat.beq e d | none=>true)
 | none=>true) &&
 (match y.dst with
 | some d=>!lB d x.lo
 | none=>true)
def C3 (j:Nat) (x:oE) (cf:List Nat):Nat→List oE→Bool
 | _,[]=>true
 | i,y :: l=>(Nat.beq i j || lB j y.pr || lB i cf || Bi x y)&&C3 j x cf (i+1) l
def C4 (I:List oE):Nat→List oE→List (List Nat)→Bool
 | _,[],_=>true
 | j,x :: l,c :: cs=>(!x.n || C3 j x c 0 I)&&C4 I (j+1) l cs
 | _,_,_=>false
def xi (eD:Nat→List Nat):Nat→List oE→Bool
 | _,[]=>true
 | i,x :: l=>(eD i).all (fun a=>x.pr.any fun e=>Nat.beq e a || lB a (eD e))&&xi eD (i+1) l
def nj (L:Nat):Nat→List oE→List Nat
 | _,[]=>[]
 | i,x :: l=>bif !L.testBit i&&x.pr.all (fun e=>L.testBit e) then i :: nj L (i+1) l else nj L (i+1) l
def pu (x y:oE):Bool:=y.a || (x.r&&!y.n)
def pw (eD:Nat→List Nat) (L k:Nat) (x:oE):Nat→List oE→Bool
 | _,[]=>true
 | i,y :: l=>(L.testBit i || !pu x y || lB k (eD i))&&pw eD L k x (i+1) l
def vz (I:List oE) (eD:Nat→List Nat) (L:Nat) (C C':List Nat):Bool:=C.all fun k=>lB k C' || match nth I k with
 | none=>false
 | some x=>pw eD L k x 0 I
def R6 (I:List oE) (eD:Nat→List Nat) (C re:List Nat) (i:Nat) (y:oE):Bool:=C.all fun k=>lB k re || match nth I k with
 | none=>false
 | some x=>!pu x y || lB k (eD i)
def GS (I:List oE) (C:List Nat):Bool:=C.all fun k=>match nth I k with
 | some x=>x.n
 | none=>false
def nV (I:List oE) (N:Nat) (eD:Nat→List Nat) (cf:List (List Nat)):DT→Nat→List Nat→Nat→Option (List Nat)→Bool
 | .done,_,_,L,none=>Nat.beq L N
 | .take j C' t,n+1,C,L,none=>match nth I j,nth cf j with
  | some x,some c=>match x.dst with
   | none=>false
   | some d=>x.n&&!lB d x.lo&&(C.all fun k=>match nth I k with
     | none=>false
     | some y=>!lB d y.lo&&(match y.dst with | some e=>!Nat.beq e d | none=>true)) &&
    c.all (fun i=>L.testBit i)&&!L.testBit j&&x.pr.all (fun e=>L.testBit e)&&GS I C' &&
    C2 (L ||| 2 ^ j) fun L'=>vz I eD L' (j :: C) C'&&nV I N eD cf t n C' L' none
  | _,_=>false
 | .br i re C' t more,n+1,C,L,left=>match nth I i with
  | none=>false
  | some y=>(match left with
   | none=>fun (K:List Nat→Bool)=>Ac (nj L 0 I) K
   | some l=>fun K=>K l) fun l=>
    R6 I eD C re i y&&GS I C'&&lB i l&&(C2 (L ||| 2 ^ i) fun L'=>vz I eD L' C C'&&nV I N eD cf t n C' L' none) &&
     nV I N eD cf more (n+1) C L (some (l.filter fun k=>!Nat.beq k i))
 | .stop,_,_,_,some l=>l.isEmpty
 | _,_,_,_,_=>false
def Ad (E:Env) (f:FuncId) (ops:List Oper):List Nat→St→Prop
 | [],_=>True
 | k :: l,s=>(match nth ops k with
  | some ok=>Fs E f ops ok s
  | none=>True)∧Ad E f ops l s
def xj (E:Env) (f:FuncId) (ops:List Oper):DT→(St→Prop)→St→Prop
 | .done,K,s=>K s
 | .take j _ t,K,s=>match nth ops j with
  | some oj=>cB E f ops oj (xj E f ops t K) s
  | none=>False
 | .br i re _ t more,K,s=>(match nth ops i with
  | some oi=>cB E f ops oi (fun s'=>Ad E f ops re s'∧xj E f ops t K s') s
  | none=>False)∧xj E f ops more K s
 | .stop,_,_=>True
def Kt (l:List (List Nat)) (i:Nat):List Nat:=match nth l i with
 | some a=>a
 | none=>[]
section
variable {E:Env} {s t:St} {f:FuncId} {ops:Array Oper} {K:St→Prop} {eD:Nat→List Nat}
theorem fH {x:Nat}:∀ {l:List Nat},lB x l=true↔x∈l
 | []=>by simp [lB]
 | y :: l=>by simp [lB,fH (l:=l)]
theorem px {α:Type} (n:Nat) (K:Nat→α):C2 n K=K n:=by cases n <;> rfl
theorem xl {α:Type}:∀ (l:List Nat) (K:List Nat→α),Ac l K=K l
 | [],_=>rfl
 | a :: l,K=>by simp only [Ac,px]; rw [xl]
theorem NT {α:Type} (i:oE) (K:oE→α):Tj i K=K i:=by
 obtain ⟨d,lo,pr,n,r,a⟩:=i
 cases d <;> cases n <;> cases r <;> cases a <;> simp [Tj,xl,px]
theorem C5 {α:Type}:∀ (l:List oE) (K:List oE→α),GR l K=K l
 | [],_=>rfl
 | a :: l,K=>by simp only [GR,NT]; rw [C5]
def km (ops:Array Oper):List oE:=ops.toList.map (kl ops)
theorem xm {k:Nat} {x:oE} (h:nth (km ops) k=some x):∃ o,ops[k]?=some o∧x=kl ops o:=by
 rw [aY,km,List.getElem?_map,Array.getElem?_toList] at h
 cases ho:ops[k]? with
 | none=>rw [ho] at h; cases h
 | some o=>rw [ho] at h; exact ⟨o,rfl,by simpa using h.symm⟩
theorem iP {e:Nat}:∀ {l:List Edge},e∈pt l↔∃ ed∈l,Region.binds .any ed=true∧ed.on=e
 | []=>by simp [pt]
 | x :: l=>by
  unfold pt
  cases hb:Region.binds .any x with
  | true=>
   simp only [cond_true,List.mem_cons,iP (l:=l),exists_eq_or_imp,hb,true_and]
   constructor
   ·rintro (h | h)
    ·exact .inl h.symm
    ·exact .inr h
   ·rintro (h | h)
    ·exact .inl h.symm
    ·exact .inr h
  | false=>simp only [cond_false,List.mem_cons,iP (l:=l),exists_eq_or_imp,hb,false_and,false_or,Bool.false_eq_true]
theorem Iw {x y:Oper} (h:Bi (kl ops x) (kl ops y)=true):x.apart ops y=true:=by
 have hm:∀ (d:Nat) (l:List Nat),lB d l=false→l.contains d=false:=fun d l h=>by
  cases hc:l.contains d with
  | false=>rfl
  | true=>rw [fH.2 (by simpa using hc)] at h; cases h
 unfold Bi at h
 unfold Oper.apart
 simp only [kl,Bool.and_eq_true] at h ⊢
 refine ⟨?_,?_⟩
 ·cases hx:x.dst with
  | none=>rfl
  | some d=>
   rw [hx] at h
   simp only [Bool.and_eq_true,Bool.not_eq_true'] at h ⊢
   refine ⟨hm _ _ h.1.1,?_⟩
   have h2:=h.1.2
   cases hy:y.dst with
   | none=>rfl
   | some e=>
    rw [hy] at h2
    simp only [Bool.not_eq_true'] at h2
    have:e≠d:=fun k=>by rw [k,wh] at h2; cases h2
    simpa using this
 ·cases hy:y.dst with
  | none=>rfl
  | some d=>
   rw [hy] at h
   simp only [Bool.not_eq_true'] at h ⊢
   exact hm _ _ h.2
def C6 (ops:Array Oper) (L:Nat) (listed:Array Bool):Prop:=listed.size=ops.size∧∀ i,i < ops.size→listed[i]?=some (L.testBit i)
theorem C6.add {L:Nat} {listed:Array Bool} (h:C6 ops L listed) (j:Nat):C6 ops (L ||| 2 ^ j) (listed.setIfInBounds j true):=by
 refine ⟨by simp [h.1],fun i hi=>?_⟩
 rw [Nat.testBit_or,Nat.testBit_two_pow]
 by_cases e:j=i
 ·subst e
  rw [Array.getElem?_setIfInBounds_self_of_lt (by rw [h.1]; exact hi)]
  simp
 ·rw [Array.getElem?_setIfInBounds_ne e,h.2 i hi]
  simp [e]
theorem C6.Fu {L:Nat} {listed:Array Bool} (h:C6 ops L listed) {i:Nat} (hi:i < ops.size) (b:Bool):listed.getD i b=L.testBit i:=by
 rw [Array.getD_eq_getD_getElem?,h.2 i hi]; rfl
theorem xn {L:Nat} {listed:Array Bool} (h:C6 ops L listed) {j:Nat} {o:Oper} (ho:ops[j]?=some o) (h1:L.testBit j=false) (h2:((kl ops o).pr.all fun e=>L.testBit e)=true)
  (bP:∀ e∈o.after,Region.binds .any e=true→e.on < ops.size):j∈Region.ready .any ops listed:=by
 have hj:j < ops.size:=(Array.getElem?_eq_some_iff.1 ho).1
 refine mem_ready.2 ⟨by rw [h.Fu hj]; exact h1,o,ho,fun e he hb=>?_⟩
 rw [h.Fu (bP e he hb)]
 exact List.all_eq_true.1 h2 e.on (iP.2 ⟨e,by simpa using he,hb,rfl⟩)
def Tk (n:Nat) (I:List oE):Bool:=I.all fun x=>x.pr.all fun e=>Nat.blt e n
theorem gw {k:Nat} {o:Oper} (h:ops[k]?=some o):nth (km ops) k=some (kl ops o):=by
 rw [aY,km,List.getElem?_map,Array.getElem?_toList,h]; rfl
theorem mf {k:Nat} {o:Oper} (h:ops[k]?=some o):(km ops)[k]?=some (kl ops o):=by
 rw [← aY]; exact gw h
theorem tz (h:Tk ops.size (km ops)=true) {k:Nat} {o:Oper} (ho:ops[k]?=some o):∀ e∈o.after,Region.binds .any e=true→e.on < ops.size:=fun e he hb=>by
 have h1:=List.all_eq_true.1 h (kl ops o) (List.mem_of_getElem? (mf ho))
 have h2:=List.all_eq_true.1 h1 e.on (iP.2 ⟨e,by simpa using he,hb,rfl⟩)
 exact Nat.le_of_ble_eq_true h2
theorem xo {j:Nat} {x:oE} {c:List Nat}:∀ {l:List oE} {i:Nat},C3 j x c i l=true→∀ k y,l[k]?=some y→(Nat.beq (i+k) j || lB j y.pr || lB (i+k) c || Bi x y)=true
 | [],_,_,k,y,hk=>by simp at hk
 | z :: l,i,h,k,y,hk=>by
  unfold C3 at h
  rw [Bool.and_eq_true] at h
  cases k with
  | zero=>simp at hk; subst hk; exact h.1
  | succ k=>
   have:=xo h.2 k y (by simpa using hk)
   rw [show i+1+k=i+(k+1) by omega] at this
   exact this
theorem xp {I:List oE}:∀ {l:List oE} {j:Nat} {cs:List (List Nat)},C4 I j l cs=true→∀ k x c,l[k]?=some x→cs[k]?=some c→x.n=true→C3 (j+k) x c 0 I=true
 | [],_,_,_,k,x,c,hk,_,_=>by simp at hk
 | z :: l,j,[],_,k,x,c,_,hc,_=>by simp at hc
 | z :: l,j,d :: cs,h,k,x,c,hk,hc,hn=>by
  unfold C4 at h
  rw [Bool.and_eq_true] at h
  cases k with
  | zero=>
   simp at hk hc
   subst hk hc
   have:=h.1
   rw [hn] at this
   simpa using this
  | succ k=>
   have:=xp h.2 k x c (by simpa using hk) (by simpa using hc) hn
   rw [show j+1+k=j+(k+1) by omega] at this
   exact this
theorem uu:∀ {l:List oE} {i:Nat},xi eD i l=true→∀ k x,l[k]?=some x→∀ a∈eD (i+k),∃ e∈x.pr,e=a∨a∈eD e
 | [],_,_,k,x,hk=>by simp at hk
 | z :: l,i,h,k,x,hk=>by
  unfold xi at h
  rw [Bool.and_eq_true] at h
  cases k with
  | zero=>
   simp at hk
   subst hk
   intro a ha
   have h1:=List.all_eq_true.1 h.1 a ha
   obtain ⟨e,he,h2⟩:=List.any_eq_true.1 h1
   rw [Bool.or_eq_true] at h2
   refine ⟨e,he,?_⟩
   rcases h2 with h2 | h2
   ·exact .inl (Nat.eq_of_beq_eq_true h2)
   ·exact .inr (fH.1 h2)
  | succ k=>
   have:=uu h.2 k x (by simpa using hk)
   rw [show i+1+k=i+(k+1) by omega] at this
   exact this
theorem Fv (h:xi eD 0 (km ops)=true):C0 ops eD:=fun i oi a hi ha=>by
 have h1:=uu h i _ (mf hi) a (by rw [Nat.zero_add]; exact ha)
 obtain ⟨e,he,h2⟩:=h1
 obtain ⟨ed,q1,q2,rfl⟩:=iP.1 he
 exact ⟨ed,by simpa using q1,q2,h2⟩
theorem oF {L:Nat}:∀ {l:List oE} {i k:Nat},k∈nj L i l↔∃ j x,k=i+j∧l[j]?=some x∧L.testBit k=false∧(x.pr.all fun e=>L.testBit e)=true
 | [],i,k=>by simp [nj]
 | z :: l,i,k=>by
  have ih:=oF (L:=L) (l:=l) (i:=i+1) (k:=k)
  have rest:(∃ j x,k=i+1+j∧l[j]?=some x∧L.testBit k=false∧(x.pr.all fun e=>L.testBit e)=true)↔∃ j x,k=i+(j+1)∧(z :: l)[j+1]?=some x∧L.testBit k=false∧(x.pr.all fun e=>L.testBit e)=true:=by
   constructor
   ·rintro ⟨j,x,h1,h2⟩; exact ⟨j,x,by omega,by simpa using h2⟩
   ·rintro ⟨j,x,h1,h2⟩; exact ⟨j,x,by omega,by simpa using h2⟩
  unfold nj
  cases hc:(!L.testBit i&&z.pr.all fun e=>L.testBit e) with
  | true=>
   simp only [cond_true,List.mem_cons,ih,rest]
   rw [Bool.and_eq_true,Bool.not_eq_true'] at hc
   constructor
   ·rintro (rfl | ⟨j,x,h⟩)
    ·exact ⟨0,z,rfl,rfl,hc⟩
    ·exact ⟨j+1,x,h⟩
   ·rintro ⟨j,x,h1,h2⟩
    cases j with
    | zero=>exact .inl h1
    | succ j=>exact .inr ⟨j,x,h1,h2⟩
  | false=>
   simp only [cond_false,ih,rest]
   constructor
   ·rintro ⟨j,x,h⟩; exact ⟨j+1,x,h⟩
   ·rintro ⟨j,x,h1,h2,h3,h4⟩
    cases j with
    | zero=>
     simp at h2 h1
     subst h1 h2
     rw [h3,h4] at hc
     cases hc
    | succ j=>exact ⟨j,x,h1,h2,h3,h4⟩
theorem oG {L k:Nat} {x:oE}:∀ {l:List oE} {i:Nat},pw eD L k x i l=true→∀ j y,l[j]?=some y→L.testBit (i+j)=false→pu x y=true→k∈eD (i+j)
 | [],_,_,j,y,hj=>by simp at hj
 | z :: l,i,h,j,y,hj=>by
  unfold pw at h
  rw [Bool.and_eq_true] at h
  cases j with
  | zero=>
   simp at hj
   subst hj
   intro h1 h2
   have h3:=h.1
   rw [Nat.add_zero] at h1
   rw [h1,h2] at h3
   exact fH.1 (by simpa using h3)
  | succ j=>
   have:=oG h.2 j y (by simpa using hj)
   rw [show i+1+j=i+(j+1) by omega] at this
   exact this
theorem uv {L:Nat} {listed:Array Bool} (hM:C6 ops L listed) {C C':List Nat} (h:vz (km ops) eD L C C'=true):∀ k∈C,k∈C'∨∀ i ok oi,ops[k]?=some ok→ops[i]?=some oi→listed.getD i true=false→jt ok oi=true→k∈eD i:=fun k hk=>by
 have h1:=List.all_eq_true.1 h k hk
 rw [Bool.or_eq_true] at h1
 rcases h1 with h1 | h1
 ·exact .inl (fH.1 h1)
 ·refine .inr fun i ok oi q1 q2 q3 q4=>?_
  rw [gw q1] at h1
  have hi:i < ops.size:=(Array.getElem?_eq_some_iff.1 q2).1
  have:=oG h1 i _ (mf q2) (by rw [Nat.zero_add,← hM.Fu hi]; exact q3) q4
  rw [Nat.zero_add] at this
  exact this
theorem Ae {C:List Nat} (h:GS (km ops) C=true):NC ops C:=fun k hk ok dY=>by
 have:=List.all_eq_true.1 h k hk
 rw [gw dY] at this
 exact this
theorem sd {cf:List (List Nat)} (hA:C0 ops eD) (hP:Tk ops.size (km ops)=true) (hF:C4 (km ops) 0 (km ops) cf=true) (hK:Inv K):∀ (T:DT) (n:Nat) (C:List Nat) (listed:Array Bool) (L:Nat),NC ops C→oD eD listed→C6 ops L listed →
  (nV (km ops) (2 ^ ops.size - 1) eD cf T n C L none=true→∀ s,xj E f ops.toList T K s→jQ E f ops eD C K n listed s) ∧
  (∀ m l,n=m+1→nV (km ops) (2 ^ ops.size - 1) eD cf T n C L (some l)=true→∀ s,xj E f ops.toList T K s→∀ i∈l,i∈Region.ready .any ops listed→∀ oi,ops[i]?=some oi →
   cB E f ops.toList oi (fun s'=>Jr E f ops eD C i s'∧jQ E f ops eD C K m (listed.setIfInBounds i true) s') s)
 | .done,n,C,listed,L,hC,jh,hM=>by
  refine ⟨fun h s hs=>?_,fun m l _ h=>by simp [nV] at h⟩
  have hL:L=2 ^ ops.size - 1:=Nat.eq_of_beq_eq_true (by simpa only [nV] using h)
  have hr:Region.ready .any ops listed=[]:=by
   apply List.eq_nil_iff_forall_not_mem.2
   intro j hj
   obtain ⟨h1,o,ho,_⟩:=mem_ready.1 hj
   have bP:j < ops.size:=(Array.getElem?_eq_some_iff.1 ho).1
   rw [hM.Fu bP,hL,Nat.testBit_two_pow_sub_one] at h1
   simp [bP] at h1
  cases n with
  | zero=>exact ⟨hr,hs⟩
  | succ n=>exact ⟨fun _=>hs,fun i hi=>by rw [hr] at hi; simp at hi⟩
 | .stop,n,C,listed,L,hC,jh,hM=>by
  refine ⟨fun h=>by cases n <;> simp [nV] at h,fun m l e h s _ i hi=>?_⟩
  subst e
  have:l=[]:=by simpa [nV] using h
  rw [this] at hi
  simp at hi
 | .take j C' T,0,C,listed,L,hC,jh,hM=>⟨fun h=>by simp [nV] at h,fun m l e=>by cases e⟩
 | .take j C' T,n+1,C,listed,L,hC,jh,hM=>by
  refine ⟨fun h s hs=>?_,fun m l _ h=>by simp [nV] at h⟩
  unfold nV at h
  split at h
  ·rename_i x c hx hc
   obtain ⟨oj,hj,rfl⟩:=xm hx
   split at h
   ·cases h
   ·rename_i d hd
    simp only [px,Bool.and_eq_true] at h
    obtain ⟨⟨⟨⟨⟨⟨⟨hN,CY⟩,hCd⟩,hcf⟩,hbit⟩,hpr⟩,ni⟩,Tl,hT⟩:=h
    have hN:tv oj.op=true:=hN
    have hd:oj.dst=some d:=hd
    have Ku:j∈Region.ready .any ops listed:=xn hM hj (by simpa using hbit) hpr (tz hP hj)
    have V6:∀ {d:Nat} {l:List Nat},(!lB d l)=true→d∉l:=fun h hm=>by rw [fH.2 hm] at h; cases h
    have Tm:d∉oj.looksAt ops:=V6 CY
    have aa6:∀ k∈C,∀ ok,ops[k]?=some ok→d∉ok.looksAt ops∧ok.dst≠some d:=fun k hk ok dY=>by
     have:=List.all_eq_true.1 hCd k hk
     rw [gw dY] at this
     simp only [Bool.and_eq_true] at this
     refine ⟨V6 this.1,fun e=>?_⟩
     have h2:=this.2
     simp only [kl,e,wh] at h2
     cases h2
    have ZJ:NC ops (j :: C):=fun k hk ok ho=>by
     rcases List.mem_cons.1 hk with rfl | hk
     ·rw [hj] at ho; cases ho; exact hN
     ·exact hC k hk ok ho
    have aa7:=jh.add hA Ku
    obtain ⟨ih,_⟩:=sd hA hP hF hK T n C' (listed.setIfInBounds j true) (L ||| 2 ^ j) (Ae ni) aa7 (hM.add j)
    unfold xj at hs
    rw [aY,Array.getElem?_toList,hj] at hs
    simp only at hs
    have hs':cB E f ops.toList oj (jQ E f ops eD (j :: C) K n (listed.setIfInBounds j true)) s:=cT hs fun s' h'=>nh n _ _ (uv (hM.add j) Tl) (ih hT s' h')
    obtain ⟨x,wq,hk⟩:=xg hN (me ZJ hK _ _) hs'
    rw [hd] at hk
    refine Ft hA hC hK hj hN hd Tm aa6 n listed s x jh (fun i oi hi cL Xl vv=>?_) Ku wq hk
    have ER:=xp hF j _ c (mf hj) (by rw [← aY]; exact hc) hN
    have jr:=xo ER i _ (mf hi)
    rw [Nat.zero_add,Nat.zero_add] at jr
    simp only [Bool.or_eq_true] at jr
    have aa8:i < ops.size:=(Array.getElem?_eq_some_iff.1 hi).1
    rcases jr with ((h1 | h1) | h1) | h1
    ·exact absurd (Nat.eq_of_beq_eq_true h1) cL
    ·obtain ⟨e,q1,q2,q3⟩:=iP.1 (fH.1 h1)
     exact absurd q3 (vv e (by simpa using q1) q2)
    ·have:=List.all_eq_true.1 hcf i (fH.1 h1)
     rw [hM.Fu aa8,this] at Xl
     cases Xl
    ·exact Iw h1
  ·cases h
 | .br i re C' T more,0,C,listed,L,hC,jh,hM=>⟨fun h=>by simp [nV] at h,fun m l e=>by cases e⟩
 | .br i re C' T more,n+1,C,listed,L,hC,jh,hM=>by
  have main:∀ left l,(match left with | none=>nj L 0 (km ops) | some l=>l)=l→nV (km ops) (2 ^ ops.size - 1) eD cf (.br i re C' T more) (n+1) C L left=true→∀ s,xj E f ops.toList (.br i re C' T more) K s→i∈l∧∀ k∈l,k∈Region.ready .any ops listed→∀ ok,ops[k]?=some ok →
    cB E f ops.toList ok (fun s'=>Jr E f ops eD C k s'∧jQ E f ops eD C K n (listed.setIfInBounds k true) s') s:=by
   intro left l hl h s hs
   unfold nV at h
   split at h
   ·cases h
   ·rename_i y hy
    obtain ⟨oi,Ab,rfl⟩:=xm hy
    have h:(R6 (km ops) eD C re i (kl ops oi)&&GS (km ops) C'&&lB i l&&(vz (km ops) eD (L ||| 2 ^ i) C C'&&nV (km ops) (2 ^ ops.size - 1) eD cf T n C' (L ||| 2 ^ i) none) &&
     nV (km ops) (2 ^ ops.size - 1) eD cf more (n+1) C L (some (l.filter fun k=>!Nat.beq k i)))=true:=by
     cases left with
     | none=>simp only at hl; subst hl; simp only [xl,px] at h; exact h
     | some l'=>simp only at hl; subst hl; simp only [px] at h; exact h
    simp only [Bool.and_eq_true] at h
    obtain ⟨⟨⟨⟨WU,ni⟩,uZ⟩,Tl,hT⟩,hmore⟩:=h
    unfold xj at hs
    refine ⟨fH.1 uZ,fun k hk ZK ok dY=>?_⟩
    by_cases e:k=i
    ·subst e
     rw [Ab] at dY
     cases dY
     obtain ⟨ih,_⟩:=sd hA hP hF hK T n C' (listed.setIfInBounds k true) (L ||| 2 ^ k) (Ae ni) (jh.add hA ZK) (hM.add k)
     have h1:=hs.1
     rw [aY,Array.getElem?_toList,Ab] at h1
     refine cT h1 fun s' h'=>⟨fun c hc oc R5 q1 q2 q3 q4=>?_,nh n _ _ (uv (hM.add k) Tl) (ih hT s' h'.2)⟩
     rw [Ab] at q2
     cases q2
     have Bb:=List.all_eq_true.1 WU c hc
     rw [gw q1] at Bb
     have q3':pu (kl ops oc) (kl ops oi)=true:=q3
     simp only [q3',Bool.not_true,Bool.false_or,Bool.or_eq_true] at Bb
     rcases Bb with Bb | Bb
     ·have hm:c∈re:=fH.1 Bb
      have:∀ (re:List Nat),c∈re→Ad E f ops.toList re s'→Fs E f ops.toList oc s':=by
       intro re
       induction re with
       | nil=>intro hm; simp at hm
       | cons a re ihr=>
        intro hm ha
        rcases List.mem_cons.1 hm with rfl | hm
        ·have:=ha.1
         rw [aY,Array.getElem?_toList,q1] at this
         exact this
        ·exact ihr hm ha.2
      exact this re hm h'.1
     ·exact absurd (fH.1 Bb) q4
    ·obtain ⟨_,ih⟩:=sd hA hP hF hK more (n+1) C listed L hC jh hM
     refine ih n _ rfl hmore s hs.2 k ?_ ZK ok dY
     rw [List.mem_filter]
     exact ⟨hk,by rw [mM e]; rfl⟩
  refine ⟨fun h s hs=>?_,fun m l e h s hs k hk ZK ok dY=>?_⟩
  ·obtain ⟨m1,m2⟩:=main none _ rfl h s hs
   have back:∀ k,k∈nj L 0 (km ops)→k∈Region.ready .any ops listed:=fun k hk=>by
    obtain ⟨j,x,q1,q2,q3,q4⟩:=oF.1 hk
    rw [Nat.zero_add] at q1
    subst q1
    rw [← aY] at q2
    obtain ⟨o,ho,rfl⟩:=xm q2
    exact xn hM ho q3 q4 (tz hP ho)
   have Xo:∀ k,k∈Region.ready .any ops listed→k∈nj L 0 (km ops):=fun k hk=>by
    obtain ⟨h1,o,ho,ni⟩:=mem_ready.1 hk
    have bP:k < ops.size:=(Array.getElem?_eq_some_iff.1 ho).1
    refine oF.2 ⟨k,kl ops o,by omega,mf ho,by rw [← hM.Fu bP]; exact h1,List.all_eq_true.2 fun e he=>?_⟩
    obtain ⟨ed,q1,q2,rfl⟩:=iP.1 he
    have h2:=ni ed (by simpa using q1) q2
    rw [hM.Fu (tz hP ho ed (by simpa using q1) q2)] at h2
    exact h2
   refine ⟨fun h0=>?_,fun k hk ok dY=>m2 k (Xo k hk) hk ok dY⟩
   have:=back i m1
   rw [h0] at this
   simp at this
  ·cases e
   exact (main (some l) l rfl h s hs).2 k hk ZK ok dY
theorem xq {R:aj} {w:World} {β:Nat→Nat} {F:Fence} {Qc:Exit→Act→World→Prop} {C:List Nat} (hQ:∀ a' w',ox E R w β s K a' w'→Qc .normal a' w') :
  ∀ (n:Nat) (listed:Array Bool) (R1:aj) (w1:World) (β1:Nat→Nat) (s1:St) (a1:Act),bi E R1 w1 β1 s1 a1→Step R w β s.boxes R1 w1 β1 s1.boxes→s1.ro=s.ro→bM R1 s1.ro F →
   jQ E f ops eD C K n listed s1→wpAnyIn F 0 E.P .any ops Qc n listed a1 w1
 | 0,listed,R1,w1,β1,s1,a1,hr,kf,bR,_,ha=>⟨ha.1,hQ _ _ ⟨s1,R1,β1,ha.2,hr,kf,bR⟩⟩
 | n+1,listed,R1,w1,β1,s1,a1,hr,kf,bR,hf,ha=>by
  refine ⟨fun h0=>hQ _ _ ⟨s1,R1,β1,ha.1 h0,hr,kf,bR⟩,fun i hi=>?_⟩
  obtain ⟨_,o,ho,_⟩:=mem_ready.1 hi
  unfold wpOpIn
  simp only [ho]
  refine r7 hr hf (ha.2 i hi o ho) _ ?_
  rintro a' w' ⟨s',R',β',q1,q2,q3,q4⟩
  exact xq hQ n _ R' w' β' s' a' q2 (kf.trans q3) (q4.trans bR) (by rw [q4]; exact hf.mono q3.ext) q1.2
theorem gy {K':St→Prop} (hK:∀ s,K s→K' s):∀ (T:DT) (s:St),xj E f ops.toList T K s→xj E f ops.toList T K' s
 | .done,s,h=>hK s h
 | .stop,_,_=>trivial
 | .take j C T,s,h=>by
  unfold xj at h ⊢
  split
  ·rename_i oj hj
   rw [hj] at h
   exact cT h fun s' h'=>gy hK T s' h'
  ·rename_i hj
   rw [hj] at h
   exact h
 | .br i re C T more,s,h=>by
  unfold xj at h ⊢
  refine ⟨?_,gy hK more s h.2⟩
  have h:=h.1
  split
  ·rename_i oj hj
   rw [hj] at h
   exact cT h fun s' h'=>⟨h'.1,gy hK T s' h'.2⟩
  ·rename_i hj
   rw [hj] at h
   exact h
structure af where
 eD:List (List Nat)
 cf:List (List Nat)
 T:DT
def Fw (ops:Array Oper) (p:af):Bool:=GR (ops.toList.map (kl ops)) fun I=>
 C2 ops.size fun n=>C2 (2 ^ n - 1) fun N=>xi (Kt p.eD) 0 I&&Tk n I&&C4 I 0 I p.cf&&nV I N (Kt p.eD) p.cf p.T n [] 0 none
theorem bi.drawn {R:aj} {w:World} {β:Nat→Nat} {a:Act} (h:bi E R w β s a):bi E R { w with drawn:=w.drawn+1 } β s a∧Step R w β s.boxes R { w with drawn:=w.drawn+1 } β s.boxes:=by
 have e:Ext R w R { w with drawn:=w.drawn+1 }:=⟨fun _ _ h=>h,fun _ _ _=>rfl,fun _ ro h=>⟨ro,h,cm.refl ro⟩,gk.refl w⟩
 refine ⟨⟨⟨h.g.len,fun id go ro h1 h2=>(h.g.obj id go ro h1 h2).mono e (fun _ _=>rfl) (fun _ _ _ h=>h),h.g.inj,h.g.wf,fun g cs hg=>(h.g.cw g cs hg).mono e,Nat.le_succ_of_le h.g.lo⟩,?_,h.t.mono e,h.n,h.d⟩,?_⟩
 ·exact h.b.bQ e (fun _ _ _=>rfl) (fun _ _ _ _ h=>h) (fun _ _ _ h=>h)
 ·exact ⟨e,rfl,rfl,rfl,Nat.le_refl _,fun _ _ _=>rfl,fun _ _ h=>h,fun _ _ h _ _=>h⟩
theorem fF.draw {id:Nat} {p:af} {Q:Exit→St→Prop} (dY:Fw ops p=true) (h:xj E f ops.toList p.T (Q .normal) s):fF E (.region id ops true) Q s:=fun R w β a F hr hf=>by
 simp only [Fw,C5,px,Bool.and_eq_true] at dY
 obtain ⟨⟨⟨hA,hP⟩,hF⟩,hT⟩:=dY
 refine wpIn_region_any E.mixed ?_
 obtain ⟨q1,q2⟩:=hr.drawn
 have hK:Inv (fun s=>∃ u,pR u s∧Q .normal u):=fun s t e ⟨u,h1,h2⟩=>⟨u,h1.trans e,h2⟩
 have h':=gy (K':=fun s=>∃ u,pR u s∧Q .normal u) (fun s h=>⟨s,pR.refl s,h⟩) p.T s h
 have jh:oD (Kt p.eD) (Array.replicate ops.size false):=fun i hi=>by
  rw [Array.getD_eq_getD_getElem?,Array.getElem?_replicate] at hi
  split at hi <;> cases hi
 have Tn:=(sd (E:=E) (f:=f) (Fv hA) hP hF hK p.T ops.size [] (Array.replicate ops.size false) 0 (fun k hk=>by simp at hk) jh ⟨by simp,fun i hi=>by simp [hi]⟩).1 hT s h'
 refine xq (R:=R) (w:=w) (β:=β) (s:=s) (f:=f) (K:=fun s=>∃ u,pR u s∧Q .normal u) ?_ _ _ R _ β s a q1 q2 rfl hf Tn
 rintro a' w' ⟨s',R',β',⟨u,e,hu⟩,h2,h3,h4⟩
 exact ⟨u,R',β',hu,h2.eqv e.symm,h3.eqv rfl e.symm.b,e.ro.trans h4⟩
end
end Go.Am
