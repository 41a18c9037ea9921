/- The abstract machine: a function's contract out of its body. -/
import Derived.Test.YtldcljfjjoidhaaGreatDoorAmKF
import Derived.OrdersIn
set_option linter.all false
namespace Go.Am
open Go
section intro
variable {E:Env} {R R':ao} {w w':World} {β β':Nat→Nat}
theorem we {bx I1:cJ} (h:Step R w β bx R' w' β' I1) (hn:∀ k cs,dv bx k≠some cs):Step R w (fun _=>0) fa R' w' (fun _=>0) fa:=by
 have own:∀ b,Own R β bx b→Live R b:=fun b ho=>by
  rcases ho with ho | ⟨k,cs,hk,_⟩
  ·exact ho
  ·exact absurd hk (hn k cs)
 exact ⟨h.ext,h.os,h.tape,h.output,h.size,fun b hb sZ=>h.bE b hb (fun ho=>sZ (.inl (own b ho))),fun b hb ho=>.inl (own b (h.own b hb (.inl (eJ ho)))),fun b o hi hb sZ=>h.im b o hi hb (fun ho=>sZ (.inl (own b ho)))⟩
theorem JE:∀ {l:List AV} {n i:Nat},(i < n∨n+l.length≤i→lk (WR n l) i=.none)∧(∀ a,l[i - n]?=some a→n≤i→lk (WR n l) i=.v a)
 | [],n,i=>⟨fun _=>rfl,fun a h=>by simp at h⟩
 | b :: l,n,i=>by
  obtain ⟨h1,h2⟩:=JE (l:=l) (n:=n+1) (i:=i)
  refine ⟨fun h=>?_,fun a h hn=>?_⟩
  ·simp only [List.length_cons] at h
   simp only [WR]
   rw [aR (by omega)]
   exact h1 (by omega)
  ·simp only [WR]
   by_cases e:n=i
   ·subst e
    rw [aD]
    simp at h
    rw [h]
   ·rw [aR e]
    refine h2 a ?_ (by omega)
    have:i - n=(i - (n+1))+1:=by omega
    rw [this] at h
    simpa using h
theorem JF {ntmps:Nat} {args:List AV} {cs:List Value} {G:List GO} (hg:dz E R w G) (hl:aM R w args cs) :
  bn E R w (fun _=>0) (St.init ntmps args G) { tmps:=⟨cs⟩++Array.replicate (ntmps - (⟨cs⟩:Array Value).size) undef,defers:=[] }:=by
 have hlen:=hl.length
 refine ⟨hg,⟨fun k c hk=>?_,fun k k' c c' hk _ _=>?_⟩,fun i hi=>?_,?_,trivial⟩
 ·simp [St.init,dv] at hk
 ·simp [St.init,dv] at hk
 ·simp only [St.init] at hi ⊢
  obtain ⟨h1,h2⟩:=JE (l:=args) (n:=0) (i:=i)
  by_cases bV:i < args.length
  ·have hy:args[i]?=some args[i]:=List.getElem?_eq_getElem bV
   obtain ⟨c,k1,k2⟩:=hl.get hy
   rw [h2 _ (by rw [Nat.sub_zero]; exact hy) (Nat.zero_le _)]
   refine ⟨c,?_,k2⟩
   rw [Array.getElem?_append_left (by simp; omega)]
   simpa using k1
  ·exact absurd (h1 (by omega)) hi
 ·simp [St.init]
  omega
theorem EG {ntmps:Nat} {args:List AV} {G:List GO} (k:Nat) (cs:List AV):dv (St.init ntmps args G).boxes k≠some cs:=by
 simp [St.init,dv]
theorem cw.intro {g : FuncId} {fn : Func} {c : Code} {args : List AV} {G : List GO} {Q : AV → List GO → Prop} (hf : E.P.funcs[g]? = some fn) (hb : fn.body = some c) (hn : (fn.name == "runtime.NumGoroutine") = false)
  (h:fK E c (RY E fn Q) (St.init fn.ntmps args G)):cw E g args G Q:=by
 refine ⟨⟨fn,hf,by simp [hb],hn⟩,fun R w cs hg hl=>?_⟩
 refine callsIn_of_wp_marks hf hb trivial (wpIn_mono (h R w (fun _=>0) _ Fence.wide (JF hg hl) rfl) ?_)
 rintro e a' w' ⟨s',R',β',hq,hr,kT,bR⟩
 have fin:(match oC s'.marks s'.G with
  | some G=>match JC E (s'.b9 G) fn with
   | some r=>Q r G
   | none=>False
  | none=>False)→LeavesInM Fence.wide 0 E.P fn a'.tmps (Ge E R w Q) a'.defers .returning w':=by
  intro hq
  split at hq
  ·rename_i G2 X7
   split at hq
   ·rename_i r EH
    refine HI fn (Ge E R w Q) (s:=s') (G:=s'.G) hr hr.d X7 (fun RR AM tY=>?_)
    obtain ⟨v,h1,h2⟩:=JD AM EH
    exact ⟨v,h1,r,G2,R',hq,h2,AM.g,we (kT.trans tY) EG⟩
   ·exact hq.elim
  ·exact hq.elim
 cases e with
 | normal=>exact fin hq
 | ret=>exact fin hq
 | exit _=>exact hq.elim
 | goto _=>exact hq.elim
 | panic _=>exact hq.elim
 | outgrown=>exact hq.elim
end intro
end Go.Am
namespace Go.Am
open Go
def St.fe (s:St) (pre:bj) (preB:cJ) (G:List GO):St:=⟨pre++s.ah,preB++s.boxes,G,s.marks,s.ro,s.n⟩
def WS (al:Bool) (dst:Option Tmp) (pre:bj):Prop:=
 pre=[]∨∃ d x,dst=some d∧(pre=[.put d x]∨(al=true∧pre=[.put d x,.kill d]))
def bQ (al w:Bool) (dst:Option Tmp) (s t s' t':St):Prop:=
 ∃ pre preB G,WS al dst pre∧(w=false→preB=[]∧G=s.G∧∃ x,s'=s.put dst x∧t'=t.put dst x)∧s'=s.fe pre preB G∧t'=t.fe pre preB G
section
variable {E:Env} {s t:St} {o:Oper}
theorem lh (s:St) (d:Tmp) (x:SV):s.put (some d) x=bif Nat.blt d s.n then s.fe [.put d x] [] s.G else s:=by
 cases h:Nat.blt d s.n <;> simp [St.put,h,St.fe]
theorem bQ.put {al w:Bool} (hn:s.n=t.n) (hG:s.G=t.G) (dst:Option Tmp) (x:SV):bQ al w dst s t (s.put dst x) (t.put dst x):=by
 cases dst with
 | none=>exact ⟨[],[],s.G,.inl rfl,fun _=>⟨rfl,rfl,x,rfl,rfl⟩,rfl,by rw [hG]; rfl⟩
 | some d=>
  have hx:∃ y,s.put (some d) x=s.put (some d) y∧t.put (some d) x=t.put (some d) y:=⟨x,rfl,rfl⟩
  revert hx
  generalize hs:s.put (some d) x=s'
  generalize ht:t.put (some d) x=t'
  intro hx
  rw [lh] at hs ht
  rw [← hn] at ht
  revert hs ht
  cases Nat.blt d s.n with
  | true=>exact fun hs ht=>⟨[.put d x],[],s.G,.inr ⟨d,x,rfl,.inl rfl⟩,fun _=>⟨rfl,rfl,hx⟩,hs.symm,by rw [hG]; exact ht.symm⟩
  | false=>exact fun hs ht=>⟨[],[],s.G,.inl rfl,fun _=>⟨rfl,rfl,hx⟩,hs.symm,by rw [hG]; exact ht.symm⟩
theorem bQ.dA {al:Bool} (hn:s.n=t.n) (G:List GO) (dst:Option Tmp) (x:SV):bQ al true dst s t ((s.b9 G).put dst x) ((t.b9 G).put dst x):=by
 cases dst with
 | none=>exact ⟨[],[],G,.inl rfl,fun h=>(by cases h),rfl,rfl⟩
 | some d=>
  rw [lh,lh,show (t.b9 G).n=(s.b9 G).n from hn.symm]
  cases Nat.blt d (s.b9 G).n with
  | true=>exact ⟨[.put d x],[],G,.inr ⟨d,x,rfl,.inl rfl⟩,fun h=>(by cases h),rfl,rfl⟩
  | false=>exact ⟨[],[],G,.inl rfl,fun h=>(by cases h),rfl,rfl⟩
theorem bQ.b9 {al:Bool} (G:List GO) (dst:Option Tmp):bQ al true dst s t (s.b9 G) (t.b9 G):=⟨[],[],G,.inl rfl,fun h=>(by cases h),rfl,rfl⟩
theorem bQ.uD {al:Bool} (hG:s.G=t.G) (dst:Option Tmp) (d:Nat) (cs:List AV):bQ al true dst s t (s.uD d cs) (t.uD d cs):=
 ⟨[],[(d,cs)],s.G,.inl rfl,fun h=>(by cases h),rfl,(by rw [hG]; rfl)⟩
theorem gf {a b:bj}:∀ {l:List Operand},(∀ y∈l,bI E a y=bI E b y)→lS E a l=lS E b l
 | [],_=>rfl
 | x :: l,h=>by
  simp only [lS]
  rw [h x (by simp),gf (l:=l) (fun y hy=>h y (by simp [hy]))]
theorem mj {a b:bj}:∀ {l:List (Nat × Operand)},(∀ p∈l,bI E a p.2=bI E b p.2)→MY E a l=MY E b l
 | [],_=>rfl
 | (i,x) :: l,h=>by
  simp only [MY]
  rw [h (i,x) (by simp),mj (l:=l) (fun y hy=>h y (by simp [hy]))]
theorem yI (hG:s.G=t.G) (p:SV) (hB:∀ k off,p=.lp k off→dv s.boxes k=dv t.boxes k):mI s p=mI t p:=by
 unfold mI
 rw [hG]
 cases p with
 | lp k off=>simp only [hB k off rfl]
 | v a=>cases a <;> rfl
 | _=>rfl
theorem Cp (hG:s.G=t.G) (ty:TypeId) (p:SV) (hB:∀ k off,p=.lp k off→dv s.boxes k=dv t.boxes k):rb E s ty p=rb E t ty p:=by
 unfold rb
 rw [yI hG p hB]
theorem tZ (hG:s.G=t.G) (id f i sz:Nat) (ty:TypeId):vr E s id f i sz ty=vr E t id f i sz ty:=by
 unfold vr
 rw [hG]
theorem Cq (hG:s.G=t.G) (ty:TypeId) (p:SV) (hB:∀ k off,p=.lp k off→dv s.boxes k=dv t.boxes k):ze E s ty p=ze E t ty p:=by
 unfold ze
 split
 ·rw [tZ hG]
 ·rw [Cp hG _ _ hB]
theorem Cr (hG:s.G=t.G) (esz:Nat) (d x:AV):rm s esz d x=rm t esz d x:=by
 unfold rm
 rw [hG]
theorem ua {f:FuncId} {dst:Option Tmp} {el:TypeId} {cs:List AV} {c:Bool} {s':St} (hn:s.n=t.n) (hG:s.G=t.G) (h:eV E f s dst el cs=some (c,s')) :
  ∃ t',eV E f t dst el cs=some (c,t')∧bQ true true dst s t s' t':=by
 unfold eV at *
 cases dst with
 | none=>cases h
 | some d=>
  simp only at *
  split at h
  ·rename_i hg
   injection h with h
   injection h with h1 h2
   subst h1 h2
   rw [if_pos hg]
   refine ⟨_,rfl,?_⟩
   have:=bQ.dA (al:=true) hn (s.G++[.row cs el]) (some d) (.v (.ptr s.G.length 0))
   rw [hG] at this
   have e:s.dN (.row cs el)=s.b9 (t.G++[.row cs el]):=by rw [← hG]; rfl
   rw [e,hG]
   exact this
  ·rename_i hg
   rw [if_neg hg,← hn]
   split at h
   ·rename_i hb
    injection h with h
    injection h with h1 h2
    subst h1 h2
    refine ⟨_,rfl,[.put d (.lp d 0),.kill d],[(d,cs)],s.G,.inr ⟨d,_,rfl,.inr ⟨rfl,rfl⟩⟩,fun h=>(by cases h),?_,?_⟩
    ·simp [St.put,St.uD,St.kill,hb,St.fe]
    ·simp only [St.put,St.uD,St.kill,← hn,hb,St.fe,hG]
     rfl
   ·cases h
theorem Cs {ty:TypeId} {p x:SV} {s':St} {al:Bool} {dst:Option Tmp} (hG:s.G=t.G) (hB:∀ k off,p=.lp k off→dv s.boxes k=dv t.boxes k) (h:jy E s ty p x=some s') :
  ∃ t',jy E t ty p x=some t'∧bQ al true dst s t s' t':=by
 unfold jy at *
 split at h
 ·split at h
  ·rename_i hc
   rw [if_pos hc]
   split at h
   ·rw [← hB _ _ rfl]
    split at h
    ·split at h
     ·rename_i NF
      cases h
      simp only [NF,if_true]
      exact ⟨_,rfl,.uD hG _ _ _⟩
     ·cases h
    ·cases h
   ·rw [← hG]
    split at h
    ·split at h
     ·rename_i NF
      cases h
      simp only [NF,if_true]
      exact ⟨_,rfl,.b9 _ _⟩
     ·cases h
    ·cases h
   ·cases h
  ·cases h
 ·cases h
theorem Ct {ty:TypeId} {p x:SV} {c:Bool} {s':St} {al:Bool} {dst:Option Tmp} (hG:s.G=t.G) (hB:∀ k off,p=.lp k off→dv s.boxes k=dv t.boxes k) (h:jz E s ty p x=some (c,s')) :
  ∃ t',jz E t ty p x=some (c,t')∧bQ al true dst s t s' t':=by
 unfold jz at *
 split at h
 ·rw [← hG]
  split at h
  ·split at h
   ·rename_i h1 h2 hc
    simp only [hc,if_true]
    split at h
    ·rename_i NF
     injection h with h; injection h with e1 e2
     subst e1; subst e2
     simp only [NF,if_true]
     exact ⟨_,rfl,.b9 _ _⟩
    ·rename_i NF
     rw [if_neg NF,← tZ hG]
     split at h
     ·rename_i hg
      split at h
      ·rename_i hc3
       injection h with h; injection h with e1 e2
       subst e1; subst e2
       simp only [hc3,if_true]
       exact ⟨_,rfl,.b9 _ _⟩
      ·cases h
     ·cases h
   ·cases h
  ·cases h
 ·split at h
  ·rename_i s1 hs
   injection h with h; injection h with e1 e2
   subst e1; subst e2
   obtain ⟨t',h3,h4⟩:=Cs (al:=al) (dst:=dst) hG hB hs
   simp only [h3]
   exact ⟨_,rfl,h4⟩
  ·cases h
def bU:Op→Bool
 | .alloc _=>true
 | .box _ _=>true
 | _=>false
def sG:Op→Bool
 | .move _ | .assign _ | .pick _ _ _ | .build _ _ | .buildSlice _ _ _ | .load _ _ | .binOp _ _ _ _ _ | .unOp _ _ _ | .convert _ _ _ | .makeFunc _ _ _ | .fieldAddr _ _ _ | .field _ _ _
 | .indexAddr _ _ _ | .index _ _ _ | .slice _ _ _ _ _ | .extract _ _ | .lookup _ _ _ _ | .nilCheck _=>true
 | .call { callee:=.builtin .len,.. }=>true
 | .call { callee:=.builtin .max,.. }=>true
 | .call { callee:=.builtin .min,.. }=>true
 | _=>false
def TE:Op→Bool
 | .load _ _=>true
 | .lookup _ _ _ _=>true
 | .call _=>true
 | .convert _ _ _=>true
 | _=>false
def NG:Builtin→Bool
 | .append | .copy | .clear=>true
 | _=>false
theorem yJ {dst:Option Tmp} {b:Builtin} {l:List AV} {tys:List TypeId} {c:Bool} {s':St} {al:Bool} (hn:s.n=t.n) (hG:s.G=t.G) (h:bS E s dst b l tys=some (c,s')) :
  ∃ t',bS E t dst b l tys=some (c,t')∧bQ al (NG b) dst s t s' t':=by
 obtain ⟨sl,bx,G,m,ro,n⟩:=s
 obtain ⟨WT,I1,G',m',lT,n'⟩:=t
 have hc:=fun esz d x=>Cr (s:=⟨sl,bx,G,m,ro,n⟩) (t:=⟨WT,I1,G',m',lT,n'⟩) hG esz d x
 simp only at hn hG
 subst hn hG
 unfold bS at h ⊢
 simp only [← hc]
 cases b
 all_goals (try (cases h; done))
 all_goals (try simp only at h ⊢)
 all_goals (try (split at h <;> first | (cases h; done) | simp only at h ⊢))
 all_goals (repeat' (split at h))
 all_goals (first | (cases h; done) | skip)
 all_goals (injection h with h; injection h with h1 h2; subst h1 h2)
 all_goals (try simp only [if_true, *])
 all_goals (first | exact ⟨_,rfl,.put (by rfl) (by rfl) _ _⟩ | exact ⟨_,rfl,.dA (by rfl) _ _ _⟩ | exact ⟨_,rfl,.b9 _ _⟩)
theorem wg (hG:s.G=t.G) (a b:TypeId) (x:SV):lY E s a b x=lY E t a b x:=by
 unfold lY
 rw [hG]
theorem yK (hG:s.G=t.G) (ty:TypeId) (m k:SV):kY E s ty m k=kY E t ty m k:=by
 have:mapOf s=mapOf t:=by funext m; unfold mapOf; rw [hG]
 unfold kY jg
 rw [this,hG]
theorem rT {ty:TypeId} {m k x:SV} {s':St} {al:Bool} {dst:Option Tmp} (hG:s.G=t.G) (h:eX E s ty m k x=some s') :
  ∃ t',eX E t ty m k x=some t'∧bQ al true dst s t s' t':=by
 unfold eX at *
 rw [← hG]
 repeat' (split at h)
 all_goals (first | (cases h; done) | skip)
 cases h
 simp only [*]
 exact ⟨_,rfl,.b9 _ _⟩
theorem EI {dst:Option Tmp} {x:SV} {s':St} {al:Bool} (hn:s.n=t.n) (hG:s.G=t.G) (h:kZ s dst x=some s') :
  ∃ t',kZ t dst x=some t'∧bQ al true dst s t s' t':=by
 unfold kZ at *
 rw [← hG]
 split at h
 ·split at h
  ·rename_i l pos hg
   cases hb:Nat.blt pos l.length with
   | true=>
    rw [hb] at h
    simp only [cond_true] at h ⊢
    cases h
    exact ⟨_,rfl,.dA hn _ _ _⟩
   | false=>
    rw [hb] at h
    simp only [cond_false] at h ⊢
    cases h
    obtain ⟨pre,preB,G,p1,p2,p3⟩:=bQ.put (al:=al) (w:=true) hn hG dst (.v (.bi [.bool false]))
    exact ⟨_,rfl,pre,preB,G,p1,p2,p3⟩
  ·cases h
 ·cases h
theorem mZ {f:FuncId} {r:Bool × St} (h:gF E f s o=some r):∃ args tys,o.op=.call { callee:=.builtin .append,args:=args,argTypes:=tys }:=by
 unfold gF at h
 split at h
 ·split at h
  ·split at h
   ·rename_i args tys ho
    exact ⟨args,tys,ho⟩
   ·cases h
  ·cases h
 ·cases h
theorem wh {f:FuncId} {c:Bool} {s':St} {al:Bool} (hn:s.n=t.n) (hG:s.G=t.G) (ej:∀ y∈o.op.operands,bI E s.ah y=bI E t.ah y)
  (h:gF E f s o=some (c,s')):∃ t',gF E f t o=some (c,t')∧bQ al true o.dst s t s' t':=by
 obtain ⟨args,tys,ho⟩:=mZ h
 have h1:lS E s.ah args.toList=lS E t.ah args.toList:=gf fun y hy=>ej y (by rw [ho]; simp [Op.operands,Call.operands]; simpa using hy)
 unfold gF at h ⊢
 rw [ho] at h ⊢
 simp only [h1,hG] at h ⊢
 repeat' (split at h)
 all_goals (first | (cases h; done) | skip)
 injection h with h; injection h with h2 h3
 subst h2 h3
 simp only [*,if_true]
 refine ⟨_,rfl,?_⟩
 exact bQ.dA hn _ _ _
theorem uO {f:FuncId} (hn:s.n=t.n) (hG:s.G=t.G) (ej:∀ y∈o.op.operands,bI E s.ah y=bI E t.ah y) (h:gF E f s o=none):gF E f t o=none:=by
 cases ht:gF E f t o with
 | none=>rfl
 | some r=>
  obtain ⟨t',h1,_⟩:=wh (s:=t) (t:=s) (al:=false) hn.symm hG.symm (fun y hy=>(ej y hy).symm) (c:=r.1) (s':=r.2) ht
  rw [h] at h1
  cases h1
theorem rU {f:FuncId} {c:Bool} {s':St} (hn:s.n=t.n) (hG:s.G=t.G) (hB:∀ k off,(∃ y∈o.op.operands,bI E s.ah y=.lp k off)→dv s.boxes k=dv t.boxes k) (ej:∀ y∈o.op.operands,bI E s.ah y=bI E t.ah y)
  (h:au E f s o=some (c,s')):∃ t',au E f t o=some (c,t')∧bQ (bU o.op) (!sG o.op) o.dst s t s' t':=by
 obtain ⟨dst,op,ty,pos,after,guard⟩:=o
 cases op
 case move x=>
  simp only [au,ej x (by simp [Op.operands])] at h ⊢
  split at h
  all_goals (injection h with h; injection h with h1 h2; subst h1 h2; (try simp only [*]); exact ⟨_,rfl,.put hn hG _ _⟩)
 case assign x=>
  simp only [au,ej x (by simp [Op.operands])] at h ⊢
  split at h
  all_goals (injection h with h; injection h with h1 h2; subst h1 h2; (try simp only [*]); exact ⟨_,rfl,.put hn hG _ _⟩)
 case pick x y z=>
  simp only [au,ej x (by simp [Op.operands]),ej y (by simp [Op.operands]),ej z (by simp [Op.operands])] at h ⊢
  split at h
  ·injection h with h; injection h with h1 h2; subst h1 h2; (try simp only [*]); exact ⟨_,rfl,.put hn hG _ _⟩
  ·cases h
 case alloc e=>
  simp only [au] at h ⊢
  repeat' (split at h)
  all_goals (first | (cases h; done) | skip)
  simp only [*]
  exact ua hn hG h
 case box e x=>
  simp only [au,ej x (by simp [Op.operands])] at h ⊢
  repeat' (split at h)
  all_goals (first | (cases h; done) | skip)
  simp only [*]
  exact ua hn hG h
 case build ty ps=>
  have he:mJ E s ty ps.toList=mJ E t ty ps.toList:=by
   unfold mJ
   rw [mj (fun p hp=>ej p.2 (by simp only [Op.operands,List.mem_toArray,List.mem_map]; exact ⟨p,hp,rfl⟩))]
  simp only [au,he] at h ⊢
  split at h
  ·injection h with h; injection h with h1 h2; subst h1 h2; (try simp only [*]); exact ⟨_,rfl,.put hn hG _ _⟩
  ·cases h
 case buildSlice ty len ps=>
  have he:ca E s ty len ps.toList=ca E t ty len ps.toList:=by
   unfold ca
   rw [mj (fun p hp=>ej p.2 (by simp only [Op.operands,List.mem_toArray,List.mem_map]; exact ⟨p,hp,rfl⟩))]
  simp only [au,he] at h ⊢
  split at h
  ·injection h with h; injection h with h1 h2; subst h1 h2; (try simp only [*]); exact ⟨_,rfl,.put hn hG _ _⟩
  ·cases h
 case load ty x=>
  simp only [au,ej x (by simp [Op.operands])] at h ⊢
  rw [Cq hG ty _ (fun k off e=>hB k off ⟨x,by simp [Op.operands],by rw [ej x (by simp [Op.operands])]; exact e⟩)] at h
  split at h
  ·injection h with h; injection h with h1 h2; subst h1 h2; (try simp only [*]); exact ⟨_,rfl,.put hn hG _ _⟩
  ·cases h
 case store ty x y=>
  simp only [au,ej x (by simp [Op.operands]),ej y (by simp [Op.operands])] at h ⊢
  split at h
  ·rename_i s1 hs
   injection h with h; injection h with h1 h2; subst h1 h2
   obtain ⟨t',h3,h4⟩:=Ct (al:=false) (dst:=none) hG (fun k off e=>hB k off ⟨x,by simp [Op.operands],by rw [ej x (by simp [Op.operands])]; exact e⟩) hs
   rw [h3]
   exact ⟨_,rfl,h4⟩
  ·cases h
 case binOp op a x y b=>
  simp only [au,ej x (by simp [Op.operands]),ej y (by simp [Op.operands])] at h ⊢
  repeat' (split at h)
  all_goals (first | (cases h; done) | skip)
  all_goals (injection h with h; injection h with h1 h2; subst h1 h2; (try simp only [*]); exact ⟨_,rfl,.put hn hG _ _⟩)
 case unOp op a x=>
  simp only [au,ej x (by simp [Op.operands])] at h ⊢
  repeat' (split at h)
  all_goals (first | (cases h; done) | skip)
  all_goals (injection h with h; injection h with h1 h2; subst h1 h2; (try simp only [*]); exact ⟨_,rfl,.put hn hG _ _⟩)
 case nilCheck x=>
  simp only [au,ej x (by simp [Op.operands])] at h ⊢
  repeat' (split at h)
  all_goals (first | (cases h; done) | skip)
  all_goals (injection h with h; injection h with h1 h2; subst h1 h2; (try simp only [*]); exact ⟨_,rfl,.put hn hG _ _⟩)
 case convert a b x=>
  simp only [au,ej x (by simp [Op.operands]),wg hG] at h ⊢
  repeat' (split at h)
  all_goals (first | (cases h; done) | skip)
  all_goals (injection h with h; injection h with h1 h2; subst h1 h2; (try simp only [*]); exact ⟨_,rfl,.put hn hG _ _⟩)
 case makeFunc fo a b=>
  cases fo with
  | func g=>
   have h1:lS E s.ah a.toList=lS E t.ah a.toList:=gf fun y hy=>ej y (by simp only [Op.operands,Array.mem_append]; exact .inl (by simpa using hy))
   have h2:lS E s.ah b.toList=lS E t.ah b.toList:=gf fun y hy=>ej y (by simp only [Op.operands,Array.mem_append]; exact .inr (by simpa using hy))
   simp only [au,h1,h2] at h ⊢
   repeat' (split at h)
   all_goals (first | (cases h; done) | skip)
   all_goals (injection h with h; injection h with h1 h2; subst h1 h2; (try simp only [*]); exact ⟨_,rfl,.put hn hG _ _⟩)
  | _=>simp [au] at h
 case fieldAddr a x j=>
  simp only [au,ej x (by simp [Op.operands])] at h ⊢
  repeat' (split at h)
  all_goals (first | (cases h; done) | skip)
  all_goals (injection h with h; injection h with h1 h2; subst h1 h2; (try simp only [*]); exact ⟨_,rfl,.put hn hG _ _⟩)
 case field a x j=>
  simp only [au,ej x (by simp [Op.operands])] at h ⊢
  repeat' (split at h)
  all_goals (first | (cases h; done) | skip)
  all_goals (injection h with h; injection h with h1 h2; subst h1 h2; (try simp only [*]); exact ⟨_,rfl,.put hn hG _ _⟩)
 case indexAddr a x y=>
  simp only [au,ej x (by simp [Op.operands]),ej y (by simp [Op.operands])] at h ⊢
  repeat' (split at h)
  all_goals (first | (cases h; done) | skip)
  all_goals (injection h with h; injection h with h1 h2; subst h1 h2; (try simp only [*]); exact ⟨_,rfl,.put hn hG _ _⟩)
 case index a x y=>
  simp only [au,ej x (by simp [Op.operands]),ej y (by simp [Op.operands])] at h ⊢
  repeat' (split at h)
  all_goals (first | (cases h; done) | skip)
  all_goals (injection h with h; injection h with h1 h2; subst h1 h2; (try simp only [*]); exact ⟨_,rfl,.put hn hG _ _⟩)
 case slice a x lo hi mx=>
  have h1:mK E s.ah lo=mK E t.ah lo:=by
   cases lo with
   | none=>rfl
   | some y=>simp only [mK]; rw [ej y (by simp [Op.operands])]
  have h2:mK E s.ah hi=mK E t.ah hi:=by
   cases hi with
   | none=>rfl
   | some y=>simp only [mK]; rw [ej y (by simp [Op.operands])]
  simp only [au,ej x (by simp [Op.operands]),h1,h2] at h ⊢
  repeat' (split at h)
  all_goals (first | (cases h; done) | skip)
  all_goals (injection h with h; injection h with h1 h2; subst h1 h2; (try simp only [*]); exact ⟨_,rfl,.put hn hG _ _⟩)
 case extract x i=>
  simp only [au,ej x (by simp [Op.operands])] at h ⊢
  repeat' (split at h)
  all_goals (first | (cases h; done) | skip)
  all_goals (injection h with h; injection h with h1 h2; subst h1 h2; (try simp only [*]); exact ⟨_,rfl,.put hn hG _ _⟩)
 case makeSlice ty x y=>
  simp only [au,ej x (by simp [Op.operands]),ej y (by simp [Op.operands])] at h ⊢
  repeat' (split at h)
  all_goals (first | (cases h; done) | skip)
  all_goals (injection h with h; injection h with h1 h2; subst h1 h2)
  all_goals (simp only [*])
  all_goals (refine ⟨_,rfl,?_⟩)
  all_goals (have e:∀ o,t.dN o=t.b9 (s.G++[o]):=fun o=>by rw [hG]; rfl)
  all_goals (rw [e,← hG])
  all_goals (exact bQ.dA (al:=false) hn _ dst _)
 case lookup ty x y ok=>
  simp only [au,ej x (by simp [Op.operands]),ej y (by simp [Op.operands]),yK hG] at h ⊢
  split at h
  ·injection h with h; injection h with h1 h2; subst h1 h2; (try simp only [*]); exact ⟨_,rfl,.put hn hG _ _⟩
  ·cases h
 case mapUpdate ty x y z=>
  simp only [au,ej x (by simp [Op.operands]),ej y (by simp [Op.operands]),ej z (by simp [Op.operands])] at h ⊢
  split at h
  ·rename_i s1 hs
   injection h with h; injection h with h1 h2; subst h1 h2
   obtain ⟨t',h3,h4⟩:=rT (al:=false) (dst:=none) hG hs
   rw [h3]
   exact ⟨_,rfl,h4⟩
  ·cases h
 case insert ty x y z=>
  simp only [au,ej x (by simp [Op.operands]),ej y (by simp [Op.operands]),ej z (by simp [Op.operands])] at h ⊢
  split at h
  ·rename_i s1 hs
   injection h with h; injection h with h1 h2; subst h1 h2
   obtain ⟨t',h3,h4⟩:=rT (al:=false) (dst:=none) hG hs
   rw [h3]
   exact ⟨_,rfl,h4⟩
  ·cases h
 case entry x=>
  simp only [au,ej x (by simp [Op.operands])] at h ⊢
  have e:sN E s (bI E t.ah x)=sN E t (bI E t.ah x):=by unfold sN; rw [hG]
  rw [e] at h
  split at h
  ·injection h with h; injection h with h1 h2; subst h1 h2; (try simp only [*]); exact ⟨_,rfl,.put hn hG _ _⟩
  ·cases h
 case mapEntry ty x y=>
  simp only [au,ej x (by simp [Op.operands]),ej y (by simp [Op.operands])] at h ⊢
  unfold fX at h ⊢
  rw [← hG]
  repeat' (split at h)
  all_goals (first | (cases h; done) | skip)
  rename_i jL
  repeat' (split at jL)
  all_goals (first | (cases jL; done) | skip)
  injection jL with jL; injection jL with h3 jL; injection jL with h4 h5
  injection h with h; injection h with h1 h2; subst h1 h2 h3 h4 h5
  simp only [*,if_true]
  exact ⟨_,rfl,bQ.dA (al:=false) hn _ dst _⟩
 case entryStore ty x y z=>
  simp only [au,ej x (by simp [Op.operands]),ej y (by simp [Op.operands]),ej z (by simp [Op.operands])] at h ⊢
  unfold ef at h ⊢
  rw [← hG]
  repeat' (split at h)
  all_goals (first | (cases h; done) | skip)
  rename_i jL
  repeat' (split at jL)
  all_goals (first | (cases jL; done) | skip)
  injection jL with jL; injection jL with h3 h5
  injection h with h; injection h with h1 h2; subst h1 h2 h3 h5
  simp only [*]
  exact ⟨_,rfl,.b9 _ _⟩
 case range ty x=>
  simp only [au,ej x (by simp [Op.operands])] at h ⊢
  repeat' (split at h)
  all_goals (first | (cases h; done) | skip)
  ·injection h with h; injection h with h1 h2; subst h1 h2
   (try simp only [*])
   refine ⟨_,rfl,?_⟩
   have e:∀ o,t.dN o=t.b9 (s.G++[o]):=fun o=>by rw [hG]; rfl
   rw [e,← hG]
   exact bQ.dA (al:=false) hn _ dst _
  ·rename_i hk hg
   injection h with h; injection h with h1 h2; subst h1 h2
   have qv:=hg
   rw [hG] at qv
   simp only [hk,qv]
   refine ⟨_,rfl,?_⟩
   have e:∀ o,t.dN o=t.b9 (s.G++[o]):=fun o=>by rw [hG]; rfl
   rw [e,← hG]
   exact bQ.dA (al:=false) hn _ dst _
 case next x b=>
  cases b with
  | false=>simp [au] at h
  | true=>
   simp only [au,ej x (by simp [Op.operands])] at h ⊢
   split at h
   ·rename_i s1 hs
    injection h with h; injection h with h1 h2; subst h1 h2
    obtain ⟨t',h3,h4⟩:=EI (al:=false) hn hG hs
    rw [h3]
    exact ⟨_,rfl,h4⟩
   ·cases h
 case makeMap ty r=>
  cases r with
  | none=>
   simp only [au] at h ⊢
   injection h with h; injection h with h1 h2; subst h1 h2
   refine ⟨_,rfl,?_⟩
   have:=bQ.dA (al:=false) hn (s.G++[.map []]) dst (.v (.map s.G.length))
   have e:∀ o,t.dN o=t.b9 (s.G++[o]):=fun o=>by rw [hG]; rfl
   rw [e,← hG]
   exact this
  | some _=>simp [au] at h
 case call cl=>
  obtain ⟨callee,args,tys⟩:=cl
  cases callee with
  | builtin b=>
   have h1:lS E s.ah args.toList=lS E t.ah args.toList:=gf fun y hy=>ej y (by simp [Op.operands,Call.operands]; simpa using hy)
   cases hf:gF E f s { dst:=dst,op:=.call { callee:=.builtin b,args:=args,argTypes:=tys },type:=ty,pos:=pos,after:=after,guard:=guard } with
   | some r=>
    simp only [au,hf] at h
    obtain ⟨t',q1,q2⟩:=wh (al:=bU (.call { callee:=.builtin b,args:=args,argTypes:=tys })) hn hG ej (c:=r.1) (s':=r.2) hf
    cases h
    obtain ⟨a2,t2,ho⟩:=mZ hf
    cases ho
    refine ⟨t',by simp only [au,q1],?_⟩
    exact q2
   | none=>
   have XX:=uO hn hG ej hf
   simp only [au,hf,XX,h1] at h ⊢
   split at h
   ·(try simp only [*])
    obtain ⟨t',h3,h4⟩:=yJ (al:=false) hn hG h
    refine ⟨t',h3,?_⟩
    have:(!sG (.call { callee:=.builtin b,args:=args,argTypes:=tys }))=NG b∨NG b=false:=by cases b <;> simp [sG,NG]
    rcases this with this | this
    ·rw [this]; exact h4
    ·obtain ⟨pre,preB,G,p1,p2,p3⟩:=h4
     exact ⟨pre,preB,G,p1,fun _=>p2 this,p3⟩
   ·cases h
  | _=>simp [au] at h
 all_goals (simp [au] at h)
theorem ib {f:FuncId} {c:Bool} {s':St} (hn:s.n=t.n) (hG:s.G=t.G) (hB:dv s.boxes=dv t.boxes) (ej:∀ y∈o.op.operands,bI E s.ah y=bI E t.ah y)
  (h:au E f s o=some (c,s')):∃ t',au E f t o=some (c,t')∧bQ (bU o.op) (!sG o.op) o.dst s t s' t':=
 rU hn hG (fun k _ _=>by rw [hB]) ej h
end
end Go.Am
namespace Go.Am
open Go
structure pw (s t:St):Prop where
 l:lk s.ah=lk t.ah
 b:dv s.boxes=dv t.boxes
 G:s.G=t.G
 m:s.marks=t.marks
 ro:s.ro=t.ro
 n:s.n=t.n
theorem pw.refl (s:St):pw s s:=⟨rfl,rfl,rfl,rfl,rfl,rfl⟩
theorem pw.symm {s t:St} (h:pw s t):pw t s:=⟨h.l.symm,h.b.symm,h.G.symm,h.m.symm,h.ro.symm,h.n.symm⟩
theorem pw.trans {s t u:St} (h:pw s t) (k:pw t u):pw s u:=⟨h.l.trans k.l,h.b.trans k.b,h.G.trans k.G,h.m.trans k.m,h.ro.trans k.ro,h.n.trans k.n⟩
theorem mm {a b:bj} {e:Nat} (h:lk a e=lk b e):∀ pre:bj,lk (pre++a) e=lk (pre++b) e
 | []=>h
 | .put d x :: pre=>by
  simp only [List.cons_append,lk]
  rw [mm h pre]
 | .kill d :: pre=>by
  simp only [List.cons_append,lk]
  rw [mm h pre]
theorem wi {a b:cJ} {e:Nat} (h:dv a e=dv b e):∀ pre:cJ,dv (pre++a) e=dv (pre++b) e
 | []=>h
 | (d,x) :: pre=>by
  simp only [List.cons_append,dv]
  rw [wi h pre]
theorem pw.fe {s t:St} (h:pw s t) (pre:bj) (preB:cJ) (G:List GO):pw (s.fe pre preB G) (t.fe pre preB G):=
 ⟨funext fun e=>mm (by rw [h.l]) pre,funext fun e=>wi (by rw [h.b]) preB,rfl,h.m,h.ro,h.n⟩
theorem JG {E:Env} {a b:bj} {x:Operand} (h:∀ t,x=.tmp t→lk a t=lk b t):bI E a x=bI E b x:=by
 cases x with
 | tmp t=>exact h t rfl
 | _=>rfl
theorem pw.bI {E:Env} {s t:St} (h:pw s t) (x:Operand):bI E s.ah x=bI E t.ah x:=JG fun e _=>by rw [h.l]
section BL
variable {E:Env} {R:ao} {w:World} {β:Nat→Nat} {s t:St} {a:Act}
theorem bn.eqv (h:bn E R w β s a) (e:pw s t):bn E R w β t a where
 g:=by rw [← e.G]; exact h.g
 b:=⟨fun k cs hk=>h.b.box k cs (by rw [e.b]; exact hk),fun k k' c c' h1 h2=>h.b.inj k k' c c' (by rw [e.b]; exact h1) (by rw [e.b]; exact h2)⟩
 t:=fun i hi=>by
  rw [← e.l] at hi ⊢
  exact h.t i hi
 n:=by rw [← e.n]; exact h.n
 d:=by rw [← e.m]; exact h.d
theorem uX {bx I1:cJ} (h:dv bx=dv I1) {b:Nat} (k:Own R β bx b):Own R β I1 b:=by
 rcases k with k | ⟨j,cs,h1,h2⟩
 ·exact .inl k
 ·exact .inr ⟨j,cs,by rw [← h]; exact h1,h2⟩
theorem Step.eqv {R':ao} {w':World} {β':Nat→Nat} {bx I1 cx cx':cJ} (h:Step R w β bx R' w' β' I1) (h1:dv bx=dv cx) (h2:dv I1=dv cx'):Step R w β cx R' w' β' cx':=
 ⟨h.ext,h.os,h.tape,h.output,h.size,fun b hb hn=>h.bE b hb (fun ho=>hn (uX h1 ho)),fun b hb ho=>uX h1 (h.own b hb (uX h2.symm ho)),fun b o hi hb hn=>h.im b o hi hb (fun ho=>hn (uX h1 ho))⟩
end BL
section ops
variable {E:Env} {s t:St} {f:FuncId} {o:Oper} {K K':St→Prop}
def Inv (K:St→Prop):Prop:=∀ s t,pw s t→K s→K t
theorem Cu {op:Op} (h:sG op=true):bU op=false:=by
 cases op <;> simp_all [sG,bU]
theorem ta (hn:s.n=t.n) (hG:s.G=t.G) (hB:dv s.boxes=dv t.boxes) (ej:∀ y∈o.op.operands,bI E s.ah y=bI E t.ah y) (h:jU E f o K s)
  (hK:∀ pre preB G,WS (bU o.op) o.dst pre→(sG o.op=true→preB=[]∧G=s.G)→K (s.fe pre preB G)→K' (t.fe pre preB G)):jU E f o K' t:=by
 unfold jU at h ⊢
 split at h
 ·rename_i x args tys ho
  have h1:bI E s.ah x=bI E t.ah x:=ej x (by rw [ho]; simp [Op.operands,Call.operands])
  have h2:lS E s.ah args.toList=lS E t.ah args.toList:=gf fun y hy=>ej y (by rw [ho]; simp [Op.operands,Call.operands]; exact .inr (by simpa using hy))
  try simp only [ho]
  rw [← h1,← h2,← hG]
  split at h
  ·refine cw.mono h fun r G' hk=>?_
   obtain ⟨pre,preB,G,p1,p2,p3,p4⟩:=bQ.dA (s:=s) (t:=t) (al:=bU o.op) hn G' o.dst (.v r)
   rw [p3] at hk
   rw [p4]
   exact hK pre preB G p1 (fun e=>by rw [ho] at e; simp [sG] at e) hk
  ·refine kj.mono h fun r G' hk=>?_
   obtain ⟨pre,preB,G,p1,p2,p3,p4⟩:=bQ.dA (s:=s) (t:=t) (al:=bU o.op) hn G' o.dst (.v (.bool r))
   rw [p3] at hk
   rw [p4]
   exact hK pre preB G p1 (fun e=>by rw [ho] at e; simp [sG] at e) hk
  ·exact h.elim
 ·exact h.elim
 ·split at h
  ·rename_i c s' hs
   obtain ⟨t',h1,pre,preB,G,p1,p2,p3,p4⟩:=ib hn hG hB ej hs
   rw [h1]
   obtain ⟨rfl,hk⟩:=h.out
   refine dC.mk rfl ?_
   rw [p3] at hk
   rw [p4]
   exact hK pre preB G p1 (fun e=>⟨(p2 (by simp [e])).1,(p2 (by simp [e])).2.1⟩) hk
  ·exact h.elim
theorem tc (h:jU E f o K s) (hK:∀ s,K s→K' s):jU E f o K' s:=
 ta rfl rfl rfl (fun _ _=>rfl) h fun _ _ _ _ _ hk=>hK _ hk
theorem wj (h:jU E f o K s) (e:pw s t) (hK:Inv K):jU E f o K t:=
 ta e.n e.G e.b (fun y _=>e.bI y) h fun _ _ _ _ _ hk=>hK _ _ (e.fe _ _ _) hk
def BM (ops:List Oper) (s:St) (o:Oper):Option Bool:=match o.guard with
 | none=>some true
 | some (j,want)=>match oA ops j with
  | some d=>match lk s.ah d with
   | .v (.bool b)=>some (b == want)
   | .v (.bi [])=>some false
   | _=>none
  | none=>none
theorem Cv (s:St) {d:Tmp} {x:SV} (h:lk s.ah d=x):pw s (s.put (some d) x):=by
 simp only [St.put]
 split
 ·refine ⟨funext fun e=>?_,rfl,rfl,rfl,rfl,rfl⟩
  by_cases k:d=e
  ·subst k; rw [aD]; exact h
  ·rw [aR k]
 ·exact pw.refl s
theorem pw.put {s t:St} (h:pw s t) (d:Option Tmp) (x:SV):pw (s.put d x) (t.put d x):=by
 obtain ⟨pre,preB,G,_,_,p3,p4⟩:=bQ.put (s:=s) (t:=t) (al:=false) (w:=false) h.n h.G d x
 rw [p3,p4]
 exact h.fe _ _ _
theorem fM {ops:List Oper} (hK:Inv K):ck E f ops o K s↔(BM ops s o=some true∧jU E f o K s)∨(BM ops s o=some false∧K (s.put o.dst (.v fE))):=by
 unfold ck BM
 cases hg:o.guard with
 | none=>simp
 | some p=>
  obtain ⟨j,want⟩:=p
  simp only
  cases hd:oA ops j with
  | none=>simp
  | some d=>
   simp only
   cases hl:lk s.ah d with
   | none=>simp
   | lp _ _=>simp
   | v a=>
    cases a with
    | bool b=>
     have e1:b=want→pw s (s.put (some d) (.v (.bool want))):=fun e=>Cv s (by rw [hl,e])
     have e2:b=(!want)→pw s (s.put (some d) (.v (.bool (!want)))):=fun e=>Cv s (by rw [hl,e])
     constructor
     ·intro ⟨h1,h2⟩
      by_cases e:b=want
      ·exact .inl ⟨by simp [e],wj (h1 e) (e1 e).symm hK⟩
      ·have e':b=(!want):=by cases b <;> cases want <;> simp_all
       exact .inr ⟨by simp [e],hK _ _ ((e2 e').symm.put _ _) (h2 e')⟩
     ·rintro (⟨h1,h2⟩ | ⟨h1,h2⟩)
      ·have e:b=want:=by simpa using h1
       exact ⟨fun e=>wj h2 (e1 e) hK,fun e'=>by subst e; cases b <;> cases e'⟩
      ·have e:¬ b=want:=by simpa using h1
       exact ⟨fun k=>absurd k e,fun e'=>hK _ _ ((e2 e').put _ _) h2⟩
    | bi vs=>cases vs <;> simp
    | _=>simp
theorem cm {ops:List Oper} (h:ck E f ops o K s) (hK:∀ s,K s→K' s):ck E f ops o K' s:=by
 unfold ck at h ⊢
 split at h
 ·exact tc h hK
 ·split at h
  ·exact h.elim
  ·split at h
   ·exact ⟨fun e=>tc (h.1 e) hK,fun e=>hK _ (h.2 e)⟩
   ·exact hK _ h
   ·exact h.elim
theorem AO {ops:List Oper} (e:pw s t):BM ops s o=BM ops t o:=by
 unfold BM
 rw [e.l]
theorem Cw {ops:List Oper} (hK:Inv K):Inv (ck E f ops o K):=fun s t e h=>by
 rw [fM hK] at h ⊢
 rcases h with ⟨h1,h2⟩ | ⟨h1,h2⟩
 ·exact .inl ⟨by rw [← AO e]; exact h1,wj h2 e hK⟩
 ·exact .inr ⟨by rw [← AO e]; exact h1,hK _ _ (e.put _ _) h2⟩
end ops
end Go.Am
namespace Go.Am
open Go
def JH (dst:Option Tmp) (s t s' t':St):Prop:=∃ x,s'=s.put dst x∧t'=t.put dst x
section
variable {E:Env} {s t:St} {o:Oper}
theorem JH.put (_:s.n=t.n) (dst:Option Tmp) (x:SV):JH dst s t (s.put dst x) (t.put dst x):=⟨x,rfl,rfl⟩
theorem Cx {f:FuncId} {c:Bool} {s':St} (hN:sG o.op=true) (hR:TE o.op=false) (hn:s.n=t.n) (ej:∀ y∈o.op.operands,bI E s.ah y=bI E t.ah y)
  (h:au E f s o=some (c,s')):∃ t',au E f t o=some (c,t')∧JH o.dst s t s' t':=by
 obtain ⟨dst,op,ty,pos,after,guard⟩:=o
 cases op
 case move x=>
  simp only [au,ej x (by simp [Op.operands])] at h ⊢
  split at h
  all_goals (injection h with h; injection h with h1 h2; subst h1 h2; (try simp only [*]); exact ⟨_,rfl,.put hn _ _⟩)
 case assign x=>
  simp only [au,ej x (by simp [Op.operands])] at h ⊢
  split at h
  all_goals (injection h with h; injection h with h1 h2; subst h1 h2; (try simp only [*]); exact ⟨_,rfl,.put hn _ _⟩)
 case pick x y z=>
  simp only [au,ej x (by simp [Op.operands]),ej y (by simp [Op.operands]),ej z (by simp [Op.operands])] at h ⊢
  split at h
  ·injection h with h; injection h with h1 h2; subst h1 h2; (try simp only [*]); exact ⟨_,rfl,.put hn _ _⟩
  ·cases h
 case build ty ps=>
  have he:mJ E s ty ps.toList=mJ E t ty ps.toList:=by
   unfold mJ
   rw [mj (fun p hp=>ej p.2 (by simp only [Op.operands,List.mem_toArray,List.mem_map]; exact ⟨p,hp,rfl⟩))]
  simp only [au,he] at h ⊢
  split at h
  ·injection h with h; injection h with h1 h2; subst h1 h2; (try simp only [*]); exact ⟨_,rfl,.put hn _ _⟩
  ·cases h
 case buildSlice ty len ps=>
  have he:ca E s ty len ps.toList=ca E t ty len ps.toList:=by
   unfold ca
   rw [mj (fun p hp=>ej p.2 (by simp only [Op.operands,List.mem_toArray,List.mem_map]; exact ⟨p,hp,rfl⟩))]
  simp only [au,he] at h ⊢
  split at h
  ·injection h with h; injection h with h1 h2; subst h1 h2; (try simp only [*]); exact ⟨_,rfl,.put hn _ _⟩
  ·cases h
 case binOp op a x y b=>
  simp only [au,ej x (by simp [Op.operands]),ej y (by simp [Op.operands])] at h ⊢
  repeat' (split at h)
  all_goals (first | (cases h; done) | skip)
  all_goals (injection h with h; injection h with h1 h2; subst h1 h2; (try simp only [*]); exact ⟨_,rfl,.put hn _ _⟩)
 case unOp op a x=>
  simp only [au,ej x (by simp [Op.operands])] at h ⊢
  repeat' (split at h)
  all_goals (first | (cases h; done) | skip)
  all_goals (injection h with h; injection h with h1 h2; subst h1 h2; (try simp only [*]); exact ⟨_,rfl,.put hn _ _⟩)
 case convert a b x=>simp [TE] at hR
 case nilCheck x=>
  simp only [au,ej x (by simp [Op.operands])] at h ⊢
  repeat' (split at h)
  all_goals (first | (cases h; done) | skip)
  all_goals (injection h with h; injection h with h1 h2; subst h1 h2; (try simp only [*]); exact ⟨_,rfl,.put hn _ _⟩)
 case makeFunc fo a b=>
  cases fo with
  | func g=>
   have h1:lS E s.ah a.toList=lS E t.ah a.toList:=gf fun y hy=>ej y (by simp only [Op.operands,Array.mem_append]; exact .inl (by simpa using hy))
   have h2:lS E s.ah b.toList=lS E t.ah b.toList:=gf fun y hy=>ej y (by simp only [Op.operands,Array.mem_append]; exact .inr (by simpa using hy))
   simp only [au,h1,h2] at h ⊢
   repeat' (split at h)
   all_goals (first | (cases h; done) | skip)
   all_goals (injection h with h; injection h with h1 h2; subst h1 h2; (try simp only [*]); exact ⟨_,rfl,.put hn _ _⟩)
  | _=>simp [au] at h
 case fieldAddr a x j=>
  simp only [au,ej x (by simp [Op.operands])] at h ⊢
  repeat' (split at h)
  all_goals (first | (cases h; done) | skip)
  all_goals (injection h with h; injection h with h1 h2; subst h1 h2; (try simp only [*]); exact ⟨_,rfl,.put hn _ _⟩)
 case field a x j=>
  simp only [au,ej x (by simp [Op.operands])] at h ⊢
  repeat' (split at h)
  all_goals (first | (cases h; done) | skip)
  all_goals (injection h with h; injection h with h1 h2; subst h1 h2; (try simp only [*]); exact ⟨_,rfl,.put hn _ _⟩)
 case indexAddr a x y=>
  simp only [au,ej x (by simp [Op.operands]),ej y (by simp [Op.operands])] at h ⊢
  repeat' (split at h)
  all_goals (first | (cases h; done) | skip)
  all_goals (injection h with h; injection h with h1 h2; subst h1 h2; (try simp only [*]); exact ⟨_,rfl,.put hn _ _⟩)
 case index a x y=>
  simp only [au,ej x (by simp [Op.operands]),ej y (by simp [Op.operands])] at h ⊢
  repeat' (split at h)
  all_goals (first | (cases h; done) | skip)
  all_goals (injection h with h; injection h with h1 h2; subst h1 h2; (try simp only [*]); exact ⟨_,rfl,.put hn _ _⟩)
 case slice a x lo hi mx=>
  have h1:mK E s.ah lo=mK E t.ah lo:=by
   cases lo with
   | none=>rfl
   | some y=>simp only [mK]; rw [ej y (by simp [Op.operands])]
  have h2:mK E s.ah hi=mK E t.ah hi:=by
   cases hi with
   | none=>rfl
   | some y=>simp only [mK]; rw [ej y (by simp [Op.operands])]
  simp only [au,ej x (by simp [Op.operands]),h1,h2] at h ⊢
  repeat' (split at h)
  all_goals (first | (cases h; done) | skip)
  all_goals (injection h with h; injection h with h1 h2; subst h1 h2; (try simp only [*]); exact ⟨_,rfl,.put hn _ _⟩)
 case extract x i=>
  simp only [au,ej x (by simp [Op.operands])] at h ⊢
  repeat' (split at h)
  all_goals (first | (cases h; done) | skip)
  all_goals (injection h with h; injection h with h1 h2; subst h1 h2; (try simp only [*]); exact ⟨_,rfl,.put hn _ _⟩)
 all_goals (first | (simp [sG] at hN; done) | (simp [TE] at hR; done))
end
end Go.Am
namespace Go.Am
open Go
section
variable {E:Env} {s t:St} {f:FuncId} {ops:Array Oper} {o oj oi:Oper} {d:Tmp} {x:SV} {K:St→Prop}
theorem JI (ops:Array Oper) (j:Nat):oA ops.toList j=(ops[j]?).bind (·.dst):=by
 unfold oA
 rw [bc,Array.getElem?_toList]
 cases ops[j]? <;> rfl
theorem na {e:Tmp} (h:.tmp e∈o.op.operands):e∈o.looksAt ops:=
 List.mem_append_left _ (List.mem_filterMap.2 ⟨.tmp e,by simpa using h,rfl⟩)
theorem jD {j:Nat} {want:Bool} {e:Tmp} (h:o.guard=some (j,want)) (he:oA ops.toList j=some e):e∈o.looksAt ops:=by
 rw [JI] at he
 refine List.mem_append_right _ ?_
 rw [h]
 simp [he]
theorem kn (h:∀ e∈o.looksAt ops,lk s.ah e=lk t.ah e):∀ y∈o.op.operands,bI E s.ah y=bI E t.ah y:=fun _ hy=>
 JG fun e he=>h e (na (he ▸ hy))
theorem j7 (h:∀ e∈o.looksAt ops,lk s.ah e=lk t.ah e):BM ops.toList s o=BM ops.toList t o:=by
 unfold BM
 split
 ·rfl
 ·rename_i j want hg
  split
  ·rename_i e he
   rw [h e (jD hg he)]
  ·rfl
theorem uY (s:St) (d:Tmp) (x:SV) {e:Nat} (h:d≠e):lk (s.put (some d) x).ah e=lk s.ah e:=by
 simp only [St.put]
 split
 ·exact aR h
 ·rfl
theorem fN (s:St) (d:Option Tmp) (x:SV):(s.put d x).boxes=s.boxes∧(s.put d x).G=s.G∧(s.put d x).n=s.n∧(s.put d x).marks=s.marks∧(s.put d x).ro=s.ro:=by
 cases d with
 | none=>exact ⟨rfl,rfl,rfl,rfl,rfl⟩
 | some d=>
  simp only [St.put]
  split <;> exact ⟨rfl,rfl,rfl,rfl,rfl⟩
def wo (E:Env) (f:FuncId) (ops:Array Oper) (o:Oper) (s:St) (x:SV):Prop:=
 (BM ops.toList s o=some true∧au E f s o=some (true,s.put o.dst x))∨(BM ops.toList s o=some false∧x=.v fE)
theorem JJ {c:Bool} {s':St} (hN:sG o.op=true) (h:au E f s o=some (c,s')):∃ x,s'=s.put o.dst x:=by
 obtain ⟨t',_,pre,preB,G,_,h2,_,_⟩:=ib (t:=s) rfl rfl rfl (fun _ _=>rfl) h
 obtain ⟨_,_,x,hx,_⟩:=h2 (by simp [hN])
 exact ⟨x,hx⟩
theorem JK (hN:sG o.op=true):jU E f o K s↔∃ s',au E f s o=some (true,s')∧K s':=by
 unfold jU
 split
 ·rename_i h
  rw [h] at hN
  simp [sG] at hN
 ·rename_i h
  rw [h] at hN
  simp [sG] at hN
 ·split
  ·rename_i c s' hs
   constructor
   ·intro h
    obtain ⟨rfl,hk⟩:=h.out
    exact ⟨s',hs,hk⟩
   ·rintro ⟨B4,h1,h2⟩
    rw [hs] at h1
    cases h1
    exact dC.mk rfl h2
  ·rename_i hs
   constructor
   ·exact fun h=>h.elim
   ·rintro ⟨B4,h1,_⟩
    rw [hs] at h1
    cases h1
theorem wq (hN:sG o.op=true) (hK:Inv K) (h:ck E f ops.toList o K s):∃ x,wo E f ops o s x∧K (s.put o.dst x):=by
 rcases (fM hK).1 h with ⟨h1,h2⟩ | ⟨h1,h2⟩
 ·obtain ⟨s',h3,h4⟩:=(JK hN).1 h2
  obtain ⟨x,rfl⟩:=JJ hN h3
  exact ⟨x,.inl ⟨h1,h3⟩,h4⟩
 ·exact ⟨_,.inr ⟨h1,rfl⟩,h2⟩
theorem wv (hN:sG o.op=true) (hK:Inv K) (hx:wo E f ops o s x) (h:K (s.put o.dst x)):ck E f ops.toList o K s:=by
 rw [fM hK]
 rcases hx with ⟨h1,h2⟩ | ⟨h1,rfl⟩
 ·exact .inl ⟨h1,(JK hN).2 ⟨_,h2,h⟩⟩
 ·exact .inr ⟨h1,h⟩
def EJ (E:Env) (f:FuncId) (ops:List Oper) (o:Oper) (s:St):Prop:=match BM ops s o with
 | some true=>match o.dst,au E f s o with
  | some d,some (c,s')=>c=true∧lk s'.ah d=lk s.ah d
  | _,_=>False
 | some false=>True
 | none=>False
theorem NH (hN:sG o.op=true) (hd:d∉o.looksAt ops) (cP:o.dst≠some d) (he:∀ e,d≠e→lk s.ah e=lk t.ah e) (hB:dv s.boxes=dv t.boxes) (hG:s.G=t.G) (hn:s.n=t.n)
  (h:EJ E f ops.toList o s):EJ E f ops.toList o t:=by
 have hl:∀ e∈o.looksAt ops,lk s.ah e=lk t.ah e:=fun e hm=>he e fun k=>hd (k ▸ hm)
 unfold EJ at h ⊢
 rw [← j7 hl]
 split
 ·rename_i hg
  rw [hg] at h
  simp only at h
  split at h
  ·rename_i e c s' HJ hs
   obtain ⟨t',h3,pre,preB,G,_,h4,_,_⟩:=ib hn hG hB (kn hl) hs
   obtain ⟨_,_,y,h5,h6⟩:=h4 (by simp [hN])
   rw [HJ,h3]
   refine ⟨h.1,?_⟩
   have hde:d≠e:=fun k=>cP (by rw [HJ,k])
   have h7:=h.2
   rw [h5,HJ] at h7
   rw [h6,HJ,← he e hde]
   simp only [St.put,← hn] at h7 ⊢
   split
   ·rename_i hb
    rw [hb] at h7
    simp only [aD] at h7 ⊢
    exact h7
   ·exact (he e hde).symm
  ·exact h.elim
 ·trivial
 ·rename_i hg
  rw [hg] at h
  exact h
theorem NI (hN:sG o.op=true) (e:pw s t) (h:EJ E f ops.toList o s):EJ E f ops.toList o t:=by
 unfold EJ at h ⊢
 rw [← AO e]
 split
 ·rename_i hg
  rw [hg] at h
  simp only at h
  split at h
  ·rename_i d c s' HJ hs
   obtain ⟨t',h3,pre,preB,G,_,h4,_,_⟩:=ib e.n e.G e.b (fun y _=>e.bI y) hs
   obtain ⟨_,_,y,h5,h6⟩:=h4 (by simp [hN])
   rw [HJ,h3]
   refine ⟨h.1,?_⟩
   rw [h6,← (e.put o.dst y).l,← h5,← e.l]
   exact h.2
  ·exact h.elim
 ·trivial
 ·rename_i hg
  rw [hg] at h
  exact h
def jo (oj oi:Oper):Bool:=bU oi.op || (TE oj.op&&!sG oi.op)
theorem JL {al:Bool} {dst:Option Tmp} {pre:bj} (h:WS al dst pre) {e:Nat} (he:dst≠some e) (l:bj):lk (pre++l) e=lk l e∨(al=true∧∃ k off,lk l e=.lp k off):=by
 rcases h with rfl | ⟨d,y,rfl,rfl | ⟨rfl,rfl⟩⟩
 ·exact .inl rfl
 ·exact .inl (aR fun k=>he (by rw [k]))
 ·simp only [List.cons_append,List.nil_append]
  rw [aR (fun k=>he (by rw [k]))]
  simp only [lk]
  cases hl:lk l e with
  | lp k off=>exact .inr ⟨trivial,k,off,rfl⟩
  | _=>exact .inl rfl
theorem rV {al:Bool} {pre:bj} (preB:cJ) (G:List GO) (h:WS al oi.dst pre) (cP:oi.dst≠some d) (hx:al=false∨∃ a,x=.v a):pw ((s.put (some d) x).fe pre preB G) ((s.fe pre preB G).put (some d) x):=by
 have hb:∀ b,Nat.blt d s.n=b→pw ((s.put (some d) x).fe pre preB G) ((s.fe pre preB G).put (some d) x):=fun b hb=>by
  have kd:Nat.blt d (s.fe pre preB G).n=b:=hb
  rw [lh,lh,hb,kd]
  cases b with
  | false=>exact pw.refl _
  | true=>
   refine ⟨funext fun e=>?_,rfl,rfl,rfl,rfl,rfl⟩
   simp only [cond_true,St.fe,List.cons_append,List.nil_append]
   by_cases k:d=e
   ·subst k
    rw [aD]
    rcases JL h cP (.put d x :: s.ah) with h1 | ⟨h1,k,off,h2⟩
    ·rw [h1,aD]
    ·rw [aD] at h2
     rcases hx with hx | ⟨a,hx⟩
     ·rw [hx] at h1; cases h1
     ·rw [hx] at h2; cases h2
   ·rw [aR k]
    exact mm (aR k) pre
 exact hb _ rfl
theorem HK (hN:sG oj.op=true) (Gf:oj.dst=some d) (Cy:d∉oj.looksAt ops) (WU:oj.apart ops oi=true) (hK:Inv K) (hx:wo E f ops oj s x) {pre:bj} {preB:cJ} {G:List GO}
  (yL:WS (bU oi.op) oi.dst pre) (X8:sG oi.op=true→preB=[]∧G=s.G) (hk:K ((s.put (some d) x).fe pre preB G)) (XI:∀ t',K t'→jo oj oi=true→EJ E f ops.toList oj t') :
  ∃ x',wo E f ops oj (s.fe pre preB G) x'∧K ((s.fe pre preB G).put (some d) x'):=by
 obtain ⟨_,cP,B9⟩:=Oper.apart_spec WU
 have JM:oi.dst≠some d:=cP d Gf
 have rW:∀ e∈oj.looksAt ops,oi.dst≠some e:=fun e he k=>B9 e k he
 have tO:∀ e∈oj.looksAt ops,(bU oi.op=false∨∃ b,lk s.ah e=.v b)→lk s.ah e=lk (s.fe pre preB G).ah e:=fun e he ha=>by
  rcases JL yL (rW e he) s.ah with h1 | ⟨h1,k,off,h2⟩
  ·exact h1.symm
  ·rcases ha with ha | ⟨b,ha⟩
   ·rw [ha] at h1; cases h1
   ·rw [ha] at h2; cases h2
 have NJ:∀ b,BM ops.toList s oj=some b→BM ops.toList (s.fe pre preB G) oj=some b:=fun b hb=>by
  unfold BM at hb ⊢
  split
  ·rename_i hg; rw [hg] at hb; exact hb
  ·rename_i j want hg
   rw [hg] at hb
   simp only at hb
   split
   ·rename_i e he
    rw [he] at hb
    simp only at hb
    split at hb
    ·rename_i b' hl
     have:=tO e (jD hg he) (.inr ⟨_,hl⟩)
     rw [← this,hl]
     exact hb
    ·rename_i hl
     have:=tO e (jD hg he) (.inr ⟨_,hl⟩)
     rw [← this,hl]
     exact hb
    ·cases hb
   ·rename_i he; rw [he] at hb; cases hb
 rcases hx with ⟨h1,h2⟩ | ⟨h1,rfl⟩
 ·rw [Gf] at h2
  by_cases abz:jo oj oi=true
  ·have hr:=XI _ hk abz
   -- the state with the slot, and the one without it
   have AG:∀ e,d≠e→lk ((s.put (some d) x).fe pre preB G).ah e=lk (s.fe pre preB G).ah e:=fun e he=>mm (uY s d x he) pre
   have hB:dv ((s.put (some d) x).fe pre preB G).boxes=dv (s.fe pre preB G).boxes:=by
    simp only [St.fe]; rw [(fN s _ x).1]
   have hn:((s.put (some d) x).fe pre preB G).n=(s.fe pre preB G).n:=(fN s _ x).2.2.1
   have JN:∀ e∈oj.looksAt ops,lk ((s.put (some d) x).fe pre preB G).ah e=lk (s.fe pre preB G).ah e:=fun e he=>AG e fun k=>Cy (k ▸ he)
   have hg2:BM ops.toList ((s.put (some d) x).fe pre preB G) oj=some true:=by rw [j7 JN]; exact NJ _ h1
   unfold EJ at hr
   rw [hg2] at hr
   simp only [Gf] at hr
   split at hr
   ·rename_i d' c s' FV hs
    cases FV
    obtain ⟨rfl,hr⟩:=hr
    obtain ⟨t',h3,p,pB,G2,_,h4,_,_⟩:=ib (t:=s.fe pre preB G) hn rfl hB (kn JN) hs
    obtain ⟨_,_,y,h5,h6⟩:=h4 (by simp [hN])
    rw [h6] at h3
    rw [h5,Gf] at hr
    refine ⟨y,.inl ⟨NJ _ h1,h3⟩,hK _ _ ?_ hk⟩
    have hmr:((s.put (some d) x).fe pre preB G).marks=(s.fe pre preB G).marks∧((s.put (some d) x).fe pre preB G).ro=(s.fe pre preB G).ro:=(fN s _ x).2.2.2
    obtain ⟨q1,q2,q3,q4,q5⟩:=fN (s.fe pre preB G) (some d) y
    refine ⟨funext fun e=>?_,by rw [q1]; exact hB,by rw [q2]; rfl,by rw [q4]; exact hmr.1,by rw [q5]; exact hmr.2,by rw [q3]; exact hn⟩
    by_cases k:d=e
    ·subst k
     rw [← hr]
     have hb:∀ b,Nat.blt d s.n=b→lk (((s.put (some d) x).fe pre preB G).put (some d) y).ah d=lk ((s.fe pre preB G).put (some d) y).ah d:=fun b hb=>by
      have HL:Nat.blt d (s.fe pre preB G).n=b:=hb
      have IV:Nat.blt d ((s.put (some d) x).fe pre preB G).n=b:=by rw [hn]; exact hb
      rw [lh _ d y,lh _ d y,HL,IV]
      cases b with
      | true=>simp [St.fe,aD]
      | false=>
       simp only [cond_false]
       rw [lh,hb]
       rfl
     exact hb _ rfl
    ·rw [uY _ _ _ k]
     exact AG e k
   ·exact hr.elim
  ·have yM:bU oi.op=false:=by cases ha:bU oi.op <;> simp_all [jo]
   have hl:∀ e∈oj.looksAt ops,lk s.ah e=lk (s.fe pre preB G).ah e:=fun e he=>tO e he (.inl yM)
   have fin:∀ y,s.put (some d) x=s.put (some d) y→au E f (s.fe pre preB G) oj=some (true,(s.fe pre preB G).put oj.dst y) →
     ∃ x',wo E f ops oj (s.fe pre preB G) x'∧K ((s.fe pre preB G).put (some d) x'):=fun y hy hs=>by
    refine ⟨y,.inl ⟨NJ _ h1,hs⟩,hK _ _ (rV (oi:=oi) preB G yL JM (.inl yM)) ?_⟩
    rw [← hy]
    exact hk
   cases hNo:sG oi.op with
   | true=>
    obtain ⟨rfl,rfl⟩:=X8 hNo
    obtain ⟨t',h3,p,pB,G2,_,h4,_,_⟩:=ib (s:=s) (t:=s.fe pre [] s.G) rfl rfl rfl (kn hl) h2
    obtain ⟨_,_,y,h5,h6⟩:=h4 (by simp [hN])
    rw [Gf] at h5
    exact fin y h5 (by rw [h3,h6])
   | false=>
    have hR:TE oj.op=false:=by cases ha:TE oj.op <;> simp_all [jo]
    obtain ⟨t',h3,y,h5,h6⟩:=Cx (s:=s) (t:=s.fe pre preB G) hN hR rfl (kn hl) h2
    rw [Gf] at h5
    exact fin y h5 (by rw [h3,h6])
 ·exact ⟨_,.inr ⟨NJ _ h1,rfl⟩,hK _ _ (rV (oi:=oi) preB G yL JM (.inr ⟨_,rfl⟩)) hk⟩
end
end Go.Am
namespace Go.Am
open Go
section
variable {E:Env} {s t:St} {o:Oper}
def iB (E:Env) (s:St) (o:Oper) (s':St):Prop:=
 (s'.ah=s.ah∨∃ d x,o.dst=some d∧(s'.ah=.put d x :: s.ah∨s'.ah=.put d x :: .kill d :: s.ah)∧∀ k off,x=.lp k off→(∃ y∈o.op.operands,∃ fF,bI E s.ah y=.lp k fF)∨(bU o.op=true∧k=d)) ∧
 (s'.boxes=s.boxes∨∃ k cs,s'.boxes=(k,cs) :: s.boxes∧((bU o.op=true∧o.dst=some k)∨∃ y∈o.op.operands,∃ off,bI E s.ah y=.lp k off))
theorem li {s1:St} (h1:s1.ah=s.ah) (h2:s1.boxes=s.boxes) {x:SV} (hx:∀ k off,x=.lp k off→∃ y∈o.op.operands,∃ fF,bI E s.ah y=.lp k fF):iB E s o (s1.put o.dst x):=by
 refine ⟨?_,.inl (by rw [(fN s1 o.dst x).1,h2])⟩
 cases hd:o.dst with
 | none=>exact .inl h1
 | some d=>
  simp only [St.put]
  split
  ·exact .inr ⟨d,x,rfl,.inl (by rw [h1]),fun k off h=>.inl (hx k off h)⟩
  ·exact .inl h1
theorem ko {s1:St} (h1:s1.ah=s.ah) (h2:s1.boxes=s.boxes) (a:AV):iB E s o (s1.put o.dst (.v a)):=li h1 h2 fun k off h=>by cases h
theorem mn {s1:St} (h1:s1.ah=s.ah) (h2:s1.boxes=s.boxes):iB E s o s1:=⟨.inl h1,.inl h2⟩
theorem NK {k:Nat} {cs:List AV} (h:∃ y∈o.op.operands,∃ off,bI E s.ah y=.lp k off):iB E s o (s.uD k cs):=⟨.inl rfl,.inr ⟨k,cs,rfl,.inr h⟩⟩
theorem Cz {n:Nat} {x:SV} {k off:Nat} (h:zb n x=some (.lp k off)):∃ fF,x=.lp k fF:=by
 unfold zb at h
 split at h <;> cases h
 exact ⟨_,rfl⟩
theorem yN {ty:TypeId} {x:SV} {j k off:Nat} (h:kb E ty x j=some (.lp k off)):∃ fF,x=.lp k fF:=by
 unfold kb at h
 repeat' (split at h)
 all_goals (first | (cases h; done) | exact Cz h)
theorem yO {ty:TypeId} {x ix:SV} {c:Bool} {k off:Nat} (h:ka E ty x ix=some (c,.lp k off)):∃ fF,x=.lp k fF:=by
 unfold ka at h
 repeat' (split at h)
 all_goals (first | (cases h; done) | skip)
 rename_i hm
 injection h with h; injection h with h1 h2; subst h2
 exact Cz hm
theorem EL {ty:TypeId} {p x:SV} {s':St} (hp:∀ k off,p=.lp k off→∃ y∈o.op.operands,∃ fF,bI E s.ah y=.lp k fF) (h:jy E s ty p x=some s'):iB E s o s':=by
 unfold jy at h
 repeat' (split at h)
 all_goals (first | (cases h; done) | skip)
 ·cases h; exact NK (hp _ _ rfl)
 ·cases h; exact mn rfl rfl
theorem EM {ty:TypeId} {p x:SV} {c:Bool} {s':St} (hp:∀ k off,p=.lp k off→∃ y∈o.op.operands,∃ fF,bI E s.ah y=.lp k fF) (h:jz E s ty p x=some (c,s')):iB E s o s':=by
 unfold jz at h
 repeat' (split at h)
 all_goals (first | (cases h; done) | skip)
 ·injection h with h; injection h with h1 h2; subst h2; exact mn rfl rfl
 ·injection h with h; injection h with h1 h2; subst h2; exact mn rfl rfl
 ·rename_i hs
  injection h with h; injection h with h1 h2; subst h2; exact EL hp hs
theorem ub {ty:TypeId} {m k x:SV} {s':St} (h:eX E s ty m k x=some s'):iB E s o s':=by
 unfold eX at h
 repeat' (split at h)
 all_goals (first | (cases h; done) | skip)
 cases h; exact mn rfl rfl
theorem HM {x:SV} {s':St} (h:kZ s o.dst x=some s'):iB E s o s':=by
 unfold kZ at h
 split at h
 ·split at h
  ·rename_i l pos hg
   cases hb:Nat.blt pos l.length with
   | true=>
    rw [hb] at h
    simp only [cond_true] at h
    cases h
    exact ko rfl rfl _
   | false=>
    rw [hb] at h
    simp only [cond_false] at h
    cases h
    exact ko rfl rfl _
  ·cases h
 ·cases h
theorem AP {b:Builtin} {l:List AV} {tys:List TypeId} {c:Bool} {s':St} (h:bS E s o.dst b l tys=some (c,s')):iB E s o s':=by
 unfold bS at h
 cases b
 all_goals (try (cases h; done))
 all_goals (try simp only at h)
 all_goals (try (split at h <;> first | (cases h; done) | simp only at h))
 all_goals (repeat' (split at h))
 all_goals (first | (cases h; done) | skip)
 all_goals (injection h with h; injection h with h1 h2; subst h1 h2)
 all_goals (first | exact ko rfl rfl _ | exact mn rfl rfl)
theorem HN {f:FuncId} {c:Bool} {s':St} (h:gF E f s o=some (c,s')):iB E s o s':=by
 unfold gF at h
 repeat' (split at h)
 all_goals (first | (cases h; done) | skip)
 injection h with h; injection h with h2 h3
 subst h3
 exact ko rfl rfl _
theorem wx {f:FuncId} {el:TypeId} {cs:List AV} {c:Bool} {s':St} (ha:bU o.op=true) (h:eV E f s o.dst el cs=some (c,s')):iB E s o s':=by
 unfold eV at h
 split at h
 ·cases h
 ·rename_i d hd
  split at h
  ·injection h with h; injection h with h1 h2; subst h2
   rw [← hd]
   exact ko rfl rfl _
  ·split at h
   ·rename_i hb
    injection h with h; injection h with h1 h2; subst h2
    refine ⟨.inr ⟨d,.lp d 0,hd,.inr ?_,fun k off h=>by cases h; exact .inr ⟨ha,rfl⟩⟩,.inr ⟨d,cs,?_,.inl ⟨ha,hd⟩⟩⟩
    ·simp only [St.put,St.uD,St.kill,hb]
    ·rw [(fN _ (some d) (.lp d 0)).1]; rfl
   ·cases h
theorem EN {f:FuncId} {c:Bool} {s':St} (h:au E f s o=some (c,s')):iB E s o s':=by
 cases ho:o.op
 case move x=>
  simp only [au,ho] at h
  split at h
  all_goals (injection h with h; injection h with h1 h2; subst h2)
  ·exact ko rfl rfl _
  ·rename_i k off hx
   exact li rfl rfl fun k' fF e=>by cases e; exact ⟨x,by rw [ho]; simp [Op.operands],_,hx⟩
  ·exact li rfl rfl fun k' fF e=>by cases e
 case assign x=>
  simp only [au,ho] at h
  split at h
  all_goals (injection h with h; injection h with h1 h2; subst h2)
  ·exact ko rfl rfl _
  ·rename_i k off hx
   exact li rfl rfl fun k' fF e=>by cases e; exact ⟨x,by rw [ho]; simp [Op.operands],_,hx⟩
  ·exact li rfl rfl fun k' fF e=>by cases e
 case nilCheck x=>
  simp only [au,ho] at h
  split at h
  ·injection h with h; injection h with h1 h2; subst h2
   exact ko rfl rfl _
  ·rename_i k off hx
   injection h with h; injection h with h1 h2; subst h2
   exact li rfl rfl fun k' fF e=>by cases e; exact ⟨x,by rw [ho]; simp [Op.operands],_,hx⟩
  ·cases h
 case fieldAddr a x j=>
  simp only [au,ho] at h
  split at h
  ·rename_i p hp
   injection h with h; injection h with h1 h2; subst h2
   exact li rfl rfl fun k' fF e=>by subst e; exact ⟨x,by rw [ho]; simp [Op.operands],yN hp⟩
  ·cases h
 case indexAddr a x y=>
  simp only [au,ho] at h
  split at h
  ·rename_i c' p hp
   injection h with h; injection h with h1 h2; subst h2
   exact li rfl rfl fun k' fF e=>by subst e; exact ⟨x,by rw [ho]; simp [Op.operands],yO hp⟩
  ·cases h
 case alloc e=>
  simp only [au,ho] at h
  repeat' (split at h)
  all_goals (first | (cases h; done) | skip)
  exact wx (by rw [ho]; rfl) h
 case box e x=>
  simp only [au,ho] at h
  repeat' (split at h)
  all_goals (first | (cases h; done) | skip)
  exact wx (by rw [ho]; rfl) h
 case store ty x y=>
  simp only [au,ho] at h
  split at h
  ·rename_i hs
   injection h with h; injection h with h1 h2; subst h2
   exact EM (fun k off e=>⟨x,by rw [ho]; simp [Op.operands],off,e⟩) hs
  ·cases h
 case mapUpdate ty x y z=>
  simp only [au,ho] at h
  split at h
  ·rename_i hs
   injection h with h; injection h with h1 h2; subst h2
   exact ub hs
  ·cases h
 case insert ty x y z=>
  simp only [au,ho] at h
  split at h
  ·rename_i hs
   injection h with h; injection h with h1 h2; subst h2
   exact ub hs
  ·cases h
 case mapEntry ty x y=>
  simp only [au,ho] at h
  split at h
  ·rename_i hs
   injection h with h; injection h with h1 h2; subst h2
   unfold fX at hs
   repeat' (split at hs)
   all_goals (first | (cases hs; done) | skip)
   injection hs with hs; injection hs with h3 hs; injection hs with h4 h5
   subst h5
   exact ko rfl rfl _
  ·cases h
 case entryStore ty x y z=>
  simp only [au,ho] at h
  split at h
  ·rename_i hs
   injection h with h; injection h with h1 h2; subst h2
   unfold ef at hs
   repeat' (split at hs)
   all_goals (first | (cases hs; done) | skip)
   injection hs with hs; injection hs with h3 h4
   subst h4
   exact mn rfl rfl
  ·cases h
 case next x b=>
  cases b with
  | false=>simp [au,ho] at h
  | true=>
   simp only [au,ho] at h
   split at h
   ·rename_i hs
    injection h with h; injection h with h1 h2; subst h2
    exact HM hs
   ·cases h
 case call cl=>
  obtain ⟨callee,args,tys⟩:=cl
  cases callee with
  | builtin b=>
   simp only [au,ho] at h
   split at h
   ·rename_i r hf
    cases h
    exact HN hf
   ·split at h
    ·exact AP h
    ·cases h
  | _=>simp [au,ho] at h
 case makeFunc fo a b=>
  cases fo with
  | func g=>
   simp only [au,ho] at h
   repeat' (split at h)
   all_goals (first | (cases h; done) | skip)
   injection h with h; injection h with h1 h2; subst h2
   exact ko rfl rfl _
  | _=>simp [au,ho] at h
 case makeMap ty r=>
  cases r with
  | none=>
   simp only [au,ho] at h
   injection h with h; injection h with h1 h2; subst h2
   exact ko rfl rfl _
  | some _=>simp [au,ho] at h
 all_goals (first
  | (simp [au,ho] at h; done)
  | (simp only [au,ho] at h; (repeat' (split at h)); (all_goals (first | (cases h; done) | skip)); (all_goals (injection h with h; injection h with h1 h2; subst h2)); (all_goals (exact ko rfl rfl _))))
def qF (s:St) (d:Nat) (cs:List AV):St:=s.fe [.put d (.lp d 0),.kill d] [(d,cs)] s.G
theorem EO {f:FuncId} {d:Tmp} {c:Bool} {s1:St} (yM:bU o.op=true) (hd:o.dst=some d) (hg:E.yy f d=false) (h:au E f s o=some (c,s1)) :
  c=true∧∃ cs,s1=qF s d cs∧∀ t:St,t.n=s.n→(∀ y∈o.op.operands,∀ v,bI E s.ah y=.v v→bI E t.ah y=.v v)→au E f t o=some (true,qF t d cs):=by
 have key:∀ (el:TypeId) (cs:List AV),eV E f s o.dst el cs=some (c,s1)→c=true∧s1=qF s d cs∧∀ t:St,t.n=s.n→eV E f t o.dst el cs=some (true,qF t d cs):=by
  intro el cs h
  unfold eV at h
  rw [hd] at h
  simp only [hg,Bool.false_eq_true,if_false] at h
  split at h
  ·rename_i hb
   injection h with h; injection h with h1 h2; subst h1 h2
   refine ⟨rfl,?_,fun t ht=>?_⟩
   ·simp only [St.put,St.uD,St.kill,hb,qF,St.fe]; rfl
   ·unfold eV
    rw [hd]
    simp only [hg,Bool.false_eq_true,if_false,ht,hb]
    simp only [St.put,St.uD,St.kill,ht,hb,qF,St.fe]; rfl
  ·cases h
 cases ho:o.op
 case alloc e=>
  simp only [au,ho] at h ⊢
  split at h
  ·split at h
   ·split at h
    ·rename_i hi _ _ hz MZ
     obtain ⟨k1,k2,k3⟩:=key _ _ h
     refine ⟨k1,_,k2,fun t ht _=>?_⟩
     simp only [hi,hz,MZ,if_true]
     exact k3 t ht
    ·cases h
   ·cases h
  ·cases h
 case box e x=>
  simp only [au,ho] at h ⊢
  split at h
  ·split at h
   ·rename_i v hv MZ
    obtain ⟨k1,k2,k3⟩:=key _ _ h
    refine ⟨k1,_,k2,fun t ht he=>?_⟩
    simp only [he x (by simp [Op.operands]) v hv,MZ,if_true]
    exact k3 t ht
   ·cases h
  ·cases h
 all_goals (rw [ho] at yM; simp [bU] at yM)
theorem Gg {pre:bj} {preB:cJ} {G:List GO} (h:iB E s o (s.fe pre preB G)) :
  (pre=[]∨∃ d x,o.dst=some d∧(pre=[.put d x]∨pre=[.put d x,.kill d])∧∀ k off,x=.lp k off→(∃ y∈o.op.operands,∃ fF,bI E s.ah y=.lp k fF)∨(bU o.op=true∧k=d)) ∧
  (preB=[]∨∃ k cs,preB=[(k,cs)]∧((bU o.op=true∧o.dst=some k)∨∃ y∈o.op.operands,∃ off,bI E s.ah y=.lp k off)):=by
 obtain ⟨h1,h2⟩:=h
 refine ⟨?_,?_⟩
 ·rcases h1 with h1 | ⟨d,x,hd,h1,hx⟩
  ·exact .inl (by simpa [St.fe] using h1)
  ·refine .inr ⟨d,x,hd,?_,hx⟩
   rcases h1 with h1 | h1
   ·left
    have h1:pre++s.ah=[.put d x]++s.ah:=h1
    exact List.append_cancel_right h1
   ·right
    have h1:pre++s.ah=[.put d x,.kill d]++s.ah:=h1
    exact List.append_cancel_right h1
 ·rcases h2 with h2 | ⟨k,cs,h2,hx⟩
  ·exact .inl (by simpa [St.fe] using h2)
  ·refine .inr ⟨k,cs,?_,hx⟩
   have h2:preB++s.boxes=[(k,cs)]++s.boxes:=h2
   exact List.append_cancel_right h2
theorem jq (d e:Nat) (l:bj):lk (.kill d :: l) e=(match lk l e with | .lp k off=>bif Nat.beq k d then .none else .lp k off | x=>x):=rfl
theorem wy {d e:Nat} {l:bj} (h:∀ off,lk l e≠.lp d off):lk (.kill d :: l) e=lk l e:=by
 rw [jq]
 split
 ·rename_i k off hk
  cases hb:Nat.beq k d with
  | true=>exact absurd (by rw [hk,Nat.eq_of_beq_eq_true hb]) (h off)
  | false=>rw [hk]; rfl
 ·rfl
theorem HO {d:Nat} {pre:bj} {preB:cJ} {G:List GO} (cs:List AV) (NL:iB E s o (s.fe pre preB G)) (cP:o.dst≠some d) (HP:∀ y∈o.op.operands,∀ off,bI E s.ah y≠.lp d off) :
  pw ((qF s d cs).fe pre preB G) (qF (s.fe pre preB G) d cs):=by
 obtain ⟨h1,h2⟩:=Gg NL
 refine ⟨funext fun e=>?_,funext fun k=>?_,rfl,rfl,rfl,rfl⟩
 ·show lk (pre++([.put d (.lp d 0),.kill d]++s.ah)) e=lk ([.put d (.lp d 0),.kill d]++(pre++s.ah)) e
  rcases h1 with rfl | ⟨d',x,hd,hp,hx⟩
  ·rfl
  ·have hdd:d'≠d:=fun c=>cP (by rw [hd,c])
   have rA:∀ off,x≠.lp d off:=fun off c=>by
    rcases hx d off c with ⟨y,hy,fF,ho⟩ | ⟨_,h⟩
    ·exact HP y hy fF ho
    ·exact hdd h.symm
   by_cases c1:d=e
   ·subst c1
    rcases hp with rfl | rfl
    ·simp only [List.cons_append,List.nil_append]
     rw [aR hdd,aD,aD]
    ·simp only [List.cons_append,List.nil_append]
     rw [aR hdd,aD,wy (fun off=>by rw [aD]; intro c; cases c; exact hdd rfl),aD]
   ·simp only [List.cons_append,List.nil_append]
    rw [aR c1]
    by_cases c2:d'=e
    ·subst c2
     rcases hp with rfl | rfl
     ·simp only [List.cons_append,List.nil_append]
      rw [aD,wy (fun off=>by rw [aD]; exact rA off),aD]
     ·simp only [List.cons_append,List.nil_append]
      rw [aD,wy (fun off=>by rw [aD]; exact rA off),aD]
    ·rcases hp with rfl | rfl
     ·simp only [List.cons_append,List.nil_append]
      rw [aR c2,aR c1,jq,jq,aR c2]
     ·simp only [List.cons_append,List.nil_append]
      rw [aR c2,jq,aR c1,jq,jq,aR c2,jq]
      cases lk s.ah e with
      | lp k off=>cases hb:Nat.beq k d <;> cases IV:Nat.beq k d' <;> simp [hb,IV]
      | _=>rfl
 ·show dv (preB++([(d,cs)]++s.boxes)) k=dv ([(d,cs)]++(preB++s.boxes)) k
  rcases h2 with rfl | ⟨k',cs',rfl,hk⟩
  ·rfl
  ·have M1:k'≠d:=fun c=>by
    subst c
    rcases hk with ⟨_,hk⟩ | ⟨y,hy,off,ho⟩
    ·exact cP hk
    ·exact HP y hy off ho
   simp only [List.cons_append,List.nil_append,dv]
   cases hb:Nat.beq k' k with
   | true=>
    have:Nat.beq d k=false:=by
     cases IV:Nat.beq d k with
     | true=>exact absurd ((Nat.eq_of_beq_eq_true hb).trans (Nat.eq_of_beq_eq_true IV).symm) M1
     | false=>rfl
    rw [this]; rfl
   | false=>rfl
end
section
variable {E:Env} {s t:St} {f:FuncId} {o:Oper} {K K':St→Prop}
theorem EP (hn:s.n=t.n) (hG:s.G=t.G) (hB:∀ k off,(∃ y∈o.op.operands,bI E s.ah y=.lp k off)→dv s.boxes k=dv t.boxes k) (ej:∀ y∈o.op.operands,bI E s.ah y=bI E t.ah y) (h:jU E f o K s)
  (hK:∀ pre preB G,iB E t o (t.fe pre preB G)→K (s.fe pre preB G)→K' (t.fe pre preB G)):jU E f o K' t:=by
 unfold jU at h ⊢
 split at h
 ·rename_i x args tys ho
  have h1:bI E s.ah x=bI E t.ah x:=ej x (by rw [ho]; simp [Op.operands,Call.operands])
  have h2:lS E s.ah args.toList=lS E t.ah args.toList:=gf fun y hy=>ej y (by rw [ho]; simp [Op.operands,Call.operands]; exact .inr (by simpa using hy))
  try simp only [ho]
  rw [← h1,← h2,← hG]
  split at h
  ·refine cw.mono h fun r G' hk=>?_
   obtain ⟨pre,preB,G,p1,p2,p3,p4⟩:=bQ.dA (s:=s) (t:=t) (al:=bU o.op) hn G' o.dst (.v r)
   rw [p3] at hk
   have hO:iB E t o ((t.b9 G').put o.dst (.v r)):=ko rfl rfl _
   rw [p4] at hO ⊢
   exact hK pre preB G hO hk
  ·refine kj.mono h fun r G' hk=>?_
   obtain ⟨pre,preB,G,p1,p2,p3,p4⟩:=bQ.dA (s:=s) (t:=t) (al:=bU o.op) hn G' o.dst (.v (.bool r))
   rw [p3] at hk
   have hO:iB E t o ((t.b9 G').put o.dst (.v (.bool r))):=ko rfl rfl _
   rw [p4] at hO ⊢
   exact hK pre preB G hO hk
  ·exact h.elim
 ·exact h.elim
 ·split at h
  ·rename_i c s' hs
   obtain ⟨t',h1,pre,preB,G,p1,p2,p3,p4⟩:=rU hn hG hB ej hs
   have hO:=EN h1
   rw [h1]
   obtain ⟨rfl,hk⟩:=h.out
   refine dC.mk rfl ?_
   rw [p3] at hk
   rw [p4] at hO ⊢
   exact hK pre preB G hO hk
  ·exact h.elim
theorem Gh (ha:bU o.op=true):jU E f o K s↔∃ s',au E f s o=some (true,s')∧K s':=by
 unfold jU
 split
 ·rename_i h
  rw [h] at ha
  simp [bU] at ha
 ·rename_i h
  rw [h] at ha
  simp [bU] at ha
 ·split
  ·rename_i c s' hs
   constructor
   ·intro h
    obtain ⟨rfl,hk⟩:=h.out
    exact ⟨s',hs,hk⟩
   ·rintro ⟨B4,h1,h2⟩
    rw [hs] at h1
    cases h1
    exact dC.mk rfl h2
  ·rename_i hs
   constructor
   ·exact fun h=>h.elim
   ·rintro ⟨B4,h1,_⟩
    rw [hs] at h1
    cases h1
end
end Go.Am
