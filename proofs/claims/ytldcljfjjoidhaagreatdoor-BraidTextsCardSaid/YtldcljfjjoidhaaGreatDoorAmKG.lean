/- The abstract machine: what an operation does to a state is the same in a state that agrees with it. -/
import Derived.Test.YtldcljfjjoidhaaGreatDoorAmKF
import Derived.OrdersIn
set_option linter.all false
open Array renaming mem_append→aai
open Go.Call renaming operands→aag
open Go.Op renaming operands→aab
open List renaming cons_append→aac, nil_append→aad, append_cancel_right→aaf, mem_toArray→aah, mem_map→aaF
open Nat renaming blt→aae, eq_of_beq_eq_true→aao, beq→aap
namespace Go.Am
open Go
def St.ft (s:St) (pre:bj) (preB:cV) (G:List GO):St:=⟨pre++s.ae,preB++s.boxes,G,s.marks,s.ro,s.n⟩
def Y0 (al:Bool) (dst:Option Tmp) (pre:bj):Prop:=
 pre=[]∨∃ d x,dst=some d∧(pre=[.put d x]∨(al=true∧pre=[.put d x,.kill d]))
def bZ (al w:Bool) (dst:Option Tmp) (s t s' t':St):Prop:=
 ∃ pre preB G,Y0 al dst pre∧(w=false→preB=[]∧G=s.G∧∃ x,s'=s.put dst x∧t'=t.put dst x)∧s'=s.ft pre preB G∧t'=t.ft pre preB G
section
variable {E:Env} {s t:St} {o:Oper}
theorem lS (s:St) (d:Tmp) (x:SV):s.put (some d) x=bif aae d s.n then s.ft [.put d x] [] s.G else s:=by
 cases h:aae d s.n <;> simp [St.put,h,St.ft]
theorem bZ.put {al w:Bool} (hn:s.n=t.n) (hG:s.G=t.G) (dst:Option Tmp) (x:SV):bZ al w dst s t (s.put dst x) (t.put dst x):=by
 cases dst with
 |none=>exact ⟨[],[],s.G,.inl rfl,fun _=>⟨rfl,rfl,x,rfl,rfl⟩,rfl,by rw [hG]; rfl⟩
 |some d=>
  have hx:∃ y,s.put (some d) x=s.put (some d) y∧t.put (some d) x=t.put (some d) y:=⟨x,rfl,rfl⟩;revert hx;generalize hs:s.put (some d) x=s';generalize ht:t.put (some d) x=t';intro hx;rw [lS] at hs ht;rw [← hn] at ht;revert hs ht;cases aae d s.n with
  |true=>exact fun hs ht=>⟨[.put d x],[],s.G,.inr ⟨d,x,rfl,.inl rfl⟩,fun _=>⟨rfl,rfl,hx⟩,hs.symm,by rw [hG]; exact ht.symm⟩
  |false=>exact fun hs ht=>⟨[],[],s.G,.inl rfl,fun _=>⟨rfl,rfl,hx⟩,hs.symm,by rw [hG]; exact ht.symm⟩
theorem bZ.dJ {al:Bool} (hn:s.n=t.n) (G:List GO) (dst:Option Tmp) (x:SV):bZ al true dst s t ((s.cH G).put dst x) ((t.cH G).put dst x):=by
 cases dst with
 |none=>exact ⟨[],[],G,.inl rfl,fun h=>(by cases h),rfl,rfl⟩
 |some d=>
  rw [lS,lS,show (t.cH G).n=(s.cH G).n from hn.symm];cases aae d (s.cH G).n with
  |true=>exact ⟨[.put d x],[],G,.inr ⟨d,x,rfl,.inl rfl⟩,fun h=>(by cases h),rfl,rfl⟩
  |false=>exact ⟨[],[],G,.inl rfl,fun h=>(by cases h),rfl,rfl⟩
theorem bZ.cH {al:Bool} (G:List GO) (dst:Option Tmp):bZ al true dst s t (s.cH G) (t.cH G):=⟨[],[],G,.inl rfl,fun h=>(by cases h),rfl,rfl⟩
theorem bZ.wj {al:Bool} (hG:s.G=t.G) (dst:Option Tmp) (d:Nat) (cs:List AV):bZ al true dst s t (s.wj d cs) (t.wj d cs):=
 ⟨[],[(d,cs)],s.G,.inl rfl,fun h=>(by cases h),rfl,(by rw [hG]; rfl)⟩
theorem iA {a b:bj}:∀ {l:List Operand},(∀ y∈l,bP E a y=bP E b y)→nL E a l=nL E b l
 |[],_=>rfl
 |x :: l,h=>by
  simp only [nL];rw [h x (by simp),iA (l:=l) (fun y hy=>h y (by simp [hy]))]
theorem mY {a b:bj}:∀ {l:List (Nat × Operand)},(∀ p∈l,bP E a p.2=bP E b p.2)→Pa E a l=Pa E b l
 |[],_=>rfl
 |(i,x) :: l,h=>by
  simp only [Pa];rw [h (i,x) (by simp),mY (l:=l) (fun y hy=>h y (by simp [hy]))]
theorem As (hG:s.G=t.G) (p:SV) (hB:∀ k off,p=.lp k off→dA s.boxes k=dA t.boxes k):nK s p=nK t p:=by
 unfold nK;rw [hG];cases p with
 |lp k off=>simp only [hB k off rfl]
 |v a=>cases a <;> rfl
 |_=>rfl
theorem DU (hG:s.G=t.G) (ty:TypeId) (p:SV) (hB:∀ k off,p=.lp k off→dA s.boxes k=dA t.boxes k):sP E s ty p=sP E t ty p:=by
 unfold sP;rw [As hG p hB]
theorem vJ (hG:s.G=t.G) (id f i sz:Nat) (ty:TypeId):xz E s id f i sz ty=xz E t id f i sz ty:=by
 unfold xz;rw [hG]
theorem DV (hG:s.G=t.G) (ty:TypeId) (p:SV) (hB:∀ k off,p=.lp k off→dA s.boxes k=dA t.boxes k):AW E s ty p=AW E t ty p:=by
 unfold AW;split
 ·rw [vJ hG]
 ·rw [DU hG _ _ hB]
theorem DW (hG:s.G=t.G) (esz:Nat) (d x:AV):sQ s esz d x=sQ t esz d x:=by
 unfold sQ;rw [hG]
theorem vK {f:FuncId} {dst:Option Tmp} {el:TypeId} {cs:List AV} {c:Bool} {s':St} (hn:s.n=t.n) (hG:s.G=t.G) (h:fb E f s dst el cs=some (c,s')) :
  ∃ t',fb E f t dst el cs=some (c,t')∧bZ true true dst s t s' t':=by
 unfold fb at *;cases dst with
 |none=>cases h
 |some d=>
  simp only at *;split at h
  ·rename_i hg;injection h with h;injection h with h1 h2;subst h1 h2;rw [if_pos hg];refine ⟨_,rfl,?_⟩;have:=bZ.dJ (al:=true) hn (s.G++[.row cs el]) (some d) (.v (.ptr s.G.length 0));rw [hG] at this;have e:s.dU (.row cs el)=s.cH (t.G++[.row cs el]):=by rw [← hG]; rfl
   rw [e,hG];exact this
  ·rename_i hg;rw [if_neg hg,← hn];split at h
   ·rename_i hb;injection h with h;injection h with h1 h2;subst h1 h2;refine ⟨_,rfl,[.put d (.lp d 0),.kill d],[(d,cs)],s.G,.inr ⟨d,_,rfl,.inr ⟨rfl,rfl⟩⟩,fun h=>(by cases h),?_,?_⟩
    ·simp [St.put,St.wj,St.kill,hb,St.ft]
    ·simp only [St.put,St.wj,St.kill,← hn,hb,St.ft,hG];rfl
   ·cases h
theorem DX {ty:TypeId} {p x:SV} {s':St} {al:Bool} {dst:Option Tmp} (hG:s.G=t.G) (hB:∀ k off,p=.lp k off→dA s.boxes k=dA t.boxes k) (h:jR E s ty p x=some s') :
  ∃ t',jR E t ty p x=some t'∧bZ al true dst s t s' t':=by
 unfold jR at *;split at h
 ·split at h
  ·rename_i hc;rw [if_pos hc];split at h
   ·rw [← hB _ _ rfl];split at h
    ·split at h
     ·rename_i PM;cases h;simp only [PM,if_true];exact ⟨_,rfl,.wj hG _ _ _⟩
     ·cases h
    ·cases h
   ·rw [← hG];split at h
    ·split at h
     ·rename_i PM;cases h;simp only [PM,if_true];exact ⟨_,rfl,.cH _ _⟩
     ·cases h
    ·cases h
   ·cases h
  ·cases h
 ·cases h
theorem DY {ty:TypeId} {p x:SV} {c:Bool} {s':St} {al:Bool} {dst:Option Tmp} (hG:s.G=t.G) (hB:∀ k off,p=.lp k off→dA s.boxes k=dA t.boxes k) (h:jS E s ty p x=some (c,s')) :
  ∃ t',jS E t ty p x=some (c,t')∧bZ al true dst s t s' t':=by
 unfold jS at *;split at h
 ·rw [← hG];split at h
  ·split at h
   ·rename_i h1 h2 hc;simp only [hc,if_true];split at h
    ·rename_i PM;injection h with h; injection h with e1 e2;subst e1; subst e2;simp only [PM,if_true];exact ⟨_,rfl,.cH _ _⟩
    ·rename_i PM;rw [if_neg PM,← vJ hG];split at h
     ·rename_i hg;split at h
      ·rename_i hc3;injection h with h; injection h with e1 e2;subst e1; subst e2;simp only [hc3,if_true];exact ⟨_,rfl,.cH _ _⟩
      ·cases h
     ·cases h
   ·cases h
  ·cases h
 ·split at h
  ·rename_i s1 hs;injection h with h; injection h with e1 e2;subst e1; subst e2;obtain ⟨t',h3,h4⟩:=DX (al:=al) (dst:=dst) hG hB hs;simp only [h3];exact ⟨_,rfl,h4⟩
  ·cases h
def b6:Op→Bool
 |.alloc _=>true
 |.box _ _=>true
 |_=>false
def tZ:Op→Bool
 |.move _ | .assign _ | .pick _ _ _ | .build _ _ | .buildSlice _ _ _ | .load _ _ | .binOp _ _ _ _ _ | .unOp _ _ _ | .convert _ _ _ | .makeFunc _ _ _ | .fieldAddr _ _ _ | .field _ _ _
 |.indexAddr _ _ _ | .index _ _ _ | .slice _ _ _ _ _ | .extract _ _ | .lookup _ _ _ _ | .nilCheck _=>true
 |.call { callee:=.builtin .len,.. }=>true
 |.call { callee:=.builtin .max,.. }=>true
 |.call { callee:=.builtin .min,.. }=>true
 |_=>false
def VT:Op→Bool
 |.load _ _=>true
 |.lookup _ _ _ _=>true
 |.call _=>true
 |.convert _ _ _=>true
 |_=>false
def PN:Builtin→Bool
 |.append | .copy | .clear=>true
 |_=>false
theorem Au {dst:Option Tmp} {b:Builtin} {l:List AV} {tys:List TypeId} {c:Bool} {s':St} {al:Bool} (hn:s.n=t.n) (hG:s.G=t.G) (h:bW E s dst b l tys=some (c,s')) :
  ∃ t',bW E t dst b l tys=some (c,t')∧bZ al (PN b) dst s t s' t':=by
 obtain ⟨sl,bx,G,m,ro,n⟩:=s;obtain ⟨Y1,KZ,G',m',mO,n'⟩:=t;have hc:=fun esz d x=>DW (s:=⟨sl,bx,G,m,ro,n⟩) (t:=⟨Y1,KZ,G',m',mO,n'⟩) hG esz d x
 simp only at hn hG;subst hn hG;unfold bW at h ⊢;simp only [← hc];cases b
 all_goals (try (cases h; done))
 all_goals (try simp only at h ⊢)
 all_goals (try (split at h <;> first | (cases h; done) | simp only at h ⊢))
 all_goals (repeat' (split at h))
 all_goals (first|(cases h; done) | skip)
 all_goals (injection h with h; injection h with h1 h2; subst h1 h2)
 all_goals (try simp only [if_true, *])
 all_goals (first|exact ⟨_,rfl,.put (by rfl) (by rfl) _ _⟩ | exact ⟨_,rfl,.dJ (by rfl) _ _ _⟩ | exact ⟨_,rfl,.cH _ _⟩)
theorem yn (hG:s.G=t.G) (a b:TypeId) (x:SV):mM E s a b x=mM E t a b x:=by
 unfold mM;rw [hG]
theorem Av (hG:s.G=t.G) (ty:TypeId) (m k:SV):lK E s ty m k=lK E t ty m k:=by
 have:mapOf s=mapOf t:=by funext m; unfold mapOf; rw [hG]
 unfold lK mK;rw [this,hG]
theorem to {ty:TypeId} {m k x:SV} {s':St} {al:Bool} {dst:Option Tmp} (hG:s.G=t.G) (h:fc E s ty m k x=some s') :
  ∃ t',fc E t ty m k x=some t'∧bZ al true dst s t s' t':=by
 unfold fc at *;rw [← hG]
 repeat' (split at h)
 all_goals (first|(cases h; done) | skip)
 cases h;simp only [*];exact ⟨_,rfl,.cH _ _⟩
theorem Gv {dst:Option Tmp} {x:SV} {s':St} {al:Bool} (hn:s.n=t.n) (hG:s.G=t.G) (h:lL s dst x=some s') :
  ∃ t',lL t dst x=some t'∧bZ al true dst s t s' t':=by
 unfold lL at *;rw [← hG];split at h
 ·split at h
  ·rename_i l pos hg;cases hb:aae pos l.length with
   |true=>
    rw [hb] at h;simp only [cond_true] at h ⊢;cases h;exact ⟨_,rfl,.dJ hn _ _ _⟩
   |false=>
    rw [hb] at h;simp only [cond_false] at h ⊢;cases h;obtain ⟨pre,preB,G,p1,p2,p3⟩:=bZ.put (al:=al) (w:=true) hn hG dst (.v (.bq [.bool false]));exact ⟨_,rfl,pre,preB,G,p1,p2,p3⟩
  ·cases h
 ·cases h
theorem tq {f:FuncId} {r:Bool × St} (h:iu E f s o=some r):∃ args tys,o.op=.call { callee:=.builtin .append,args:=args,argTypes:=tys }:=by
 unfold iu at h;cases h
theorem Gw {f:FuncId} {c:Bool} {s':St} {al:Bool} (hn:s.n=t.n) (hG:s.G=t.G) (eM:∀ y∈o.op.operands,bP E s.ae y=bP E t.ae y)
  (h:iu E f s o=some (c,s')):∃ t',iu E f t o=some (c,t')∧bZ al true o.dst s t s' t':=by
 unfold iu at h;cases h
theorem wE {f:FuncId} (hn:s.n=t.n) (hG:s.G=t.G) (eM:∀ y∈o.op.operands,bP E s.ae y=bP E t.ae y) (h:iu E f s o=none):iu E f t o=none:=rfl
theorem tu {f:FuncId} {c:Bool} {s':St} (hn:s.n=t.n) (hG:s.G=t.G) (hB:∀ k off,(∃ y∈o.op.operands,bP E s.ae y=.lp k off)→dA s.boxes k=dA t.boxes k) (eM:∀ y∈o.op.operands,bP E s.ae y=bP E t.ae y)
  (h:an E f s o=some (c,s')):∃ t',an E f t o=some (c,t')∧bZ (b6 o.op) (!tZ o.op) o.dst s t s' t':=by
 obtain ⟨dst,op,ty,pos,after,guard⟩:=o;cases op
 case move x=>
  simp only [an,eM x (by simp [aab])] at h ⊢;split at h
  all_goals (injection h with h; injection h with h1 h2; subst h1 h2; (try simp only [*]); exact ⟨_,rfl,.put hn hG _ _⟩)
 case assign x=>
  simp only [an,eM x (by simp [aab])] at h ⊢;split at h
  all_goals (injection h with h; injection h with h1 h2; subst h1 h2; (try simp only [*]); exact ⟨_,rfl,.put hn hG _ _⟩)
 case pick x y z=>
  simp only [an,eM x (by simp [aab]),eM y (by simp [aab]),eM z (by simp [aab])] at h ⊢;split at h
  ·injection h with h; injection h with h1 h2; subst h1 h2; (try simp only [*]); exact ⟨_,rfl,.put hn hG _ _⟩
  ·cases h
 case alloc e=>
  simp only [an] at h ⊢
  repeat' (split at h)
  all_goals (first|(cases h; done) | skip)
  simp only [*];exact vK hn hG h
 case box e x=>
  simp only [an,eM x (by simp [aab])] at h ⊢
  repeat' (split at h)
  all_goals (first|(cases h; done) | skip)
  simp only [*];exact vK hn hG h
 case build ty ps=>
  have he:nN E s ty ps.toList=nN E t ty ps.toList:=by
   unfold nN;rw [mY (fun p hp=>eM p.2 (by simp only [aab,aah,aaF]; exact ⟨p,hp,rfl⟩))]
  simp only [an,he] at h ⊢;split at h
  ·injection h with h; injection h with h1 h2; subst h1 h2; (try simp only [*]); exact ⟨_,rfl,.put hn hG _ _⟩
  ·cases h
 case buildSlice ty len ps=>
  have he:cp E s ty len ps.toList=cp E t ty len ps.toList:=by
   unfold cp;rw [mY (fun p hp=>eM p.2 (by simp only [aab,aah,aaF]; exact ⟨p,hp,rfl⟩))]
  simp only [an,he] at h ⊢;split at h
  ·injection h with h; injection h with h1 h2; subst h1 h2; (try simp only [*]); exact ⟨_,rfl,.put hn hG _ _⟩
  ·cases h
 case load ty x=>
  simp only [an,eM x (by simp [aab])] at h ⊢;rw [DV hG ty _ (fun k off e=>hB k off ⟨x,by simp [aab],by rw [eM x (by simp [aab])]; exact e⟩)] at h;split at h
  ·injection h with h; injection h with h1 h2; subst h1 h2; (try simp only [*]); exact ⟨_,rfl,.put hn hG _ _⟩
  ·cases h
 case store ty x y=>
  simp only [an,eM x (by simp [aab]),eM y (by simp [aab])] at h ⊢;split at h
  ·rename_i s1 hs;injection h with h; injection h with h1 h2; subst h1 h2;obtain ⟨t',h3,h4⟩:=DY (al:=false) (dst:=none) hG (fun k off e=>hB k off ⟨x,by simp [aab],by rw [eM x (by simp [aab])]; exact e⟩) hs;rw [h3];exact ⟨_,rfl,h4⟩
  ·cases h
 case binOp op a x y b=>
  simp only [an,eM x (by simp [aab]),eM y (by simp [aab])] at h ⊢
  repeat' (split at h)
  all_goals (first|(cases h; done) | skip)
  all_goals (injection h with h; injection h with h1 h2; subst h1 h2; (try simp only [*]); exact ⟨_,rfl,.put hn hG _ _⟩)
 case unOp op a x=>
  simp only [an,eM x (by simp [aab])] at h ⊢
  repeat' (split at h)
  all_goals (first|(cases h; done) | skip)
  all_goals (injection h with h; injection h with h1 h2; subst h1 h2; (try simp only [*]); exact ⟨_,rfl,.put hn hG _ _⟩)
 case nilCheck x=>
  simp only [an,eM x (by simp [aab])] at h ⊢
  repeat' (split at h)
  all_goals (first|(cases h; done) | skip)
  all_goals (injection h with h; injection h with h1 h2; subst h1 h2; (try simp only [*]); exact ⟨_,rfl,.put hn hG _ _⟩)
 case convert a b x=>
  simp only [an,eM x (by simp [aab]),yn hG] at h ⊢
  repeat' (split at h)
  all_goals (first|(cases h; done) | skip)
  all_goals (injection h with h; injection h with h1 h2; subst h1 h2; (try simp only [*]); exact ⟨_,rfl,.put hn hG _ _⟩)
 case makeFunc fo a b=>
  cases fo with
  |func g=>
   have h1:nL E s.ae a.toList=nL E t.ae a.toList:=iA fun y hy=>eM y (by simp only [aab,aai]; exact .inl (by simpa using hy))
   have h2:nL E s.ae b.toList=nL E t.ae b.toList:=iA fun y hy=>eM y (by simp only [aab,aai]; exact .inr (by simpa using hy))
   simp only [an,h1,h2] at h ⊢
   repeat' (split at h)
   all_goals (first|(cases h; done) | skip)
   all_goals (injection h with h; injection h with h1 h2; subst h1 h2; (try simp only [*]); exact ⟨_,rfl,.put hn hG _ _⟩)
  |_=>simp [an] at h
 case fieldAddr a x j=>
  simp only [an,eM x (by simp [aab])] at h ⊢
  repeat' (split at h)
  all_goals (first|(cases h; done) | skip)
  all_goals (injection h with h; injection h with h1 h2; subst h1 h2; (try simp only [*]); exact ⟨_,rfl,.put hn hG _ _⟩)
 case field a x j=>
  simp only [an,eM x (by simp [aab])] at h ⊢
  repeat' (split at h)
  all_goals (first|(cases h; done) | skip)
  all_goals (injection h with h; injection h with h1 h2; subst h1 h2; (try simp only [*]); exact ⟨_,rfl,.put hn hG _ _⟩)
 case indexAddr a x y=>
  simp only [an,eM x (by simp [aab]),eM y (by simp [aab])] at h ⊢
  repeat' (split at h)
  all_goals (first|(cases h; done) | skip)
  all_goals (injection h with h; injection h with h1 h2; subst h1 h2; (try simp only [*]); exact ⟨_,rfl,.put hn hG _ _⟩)
 case index a x y=>
  simp only [an,eM x (by simp [aab]),eM y (by simp [aab])] at h ⊢
  repeat' (split at h)
  all_goals (first|(cases h; done) | skip)
  all_goals (injection h with h; injection h with h1 h2; subst h1 h2; (try simp only [*]); exact ⟨_,rfl,.put hn hG _ _⟩)
 case slice a x lo hi mx=>
  have h1:nO E s.ae lo=nO E t.ae lo:=by
   cases lo with
   |none=>rfl
   |some y=>simp only [nO]; rw [eM y (by simp [aab])]
  have h2:nO E s.ae hi=nO E t.ae hi:=by
   cases hi with
   |none=>rfl
   |some y=>simp only [nO]; rw [eM y (by simp [aab])]
  simp only [an,eM x (by simp [aab]),h1,h2] at h ⊢
  repeat' (split at h)
  all_goals (first|(cases h; done) | skip)
  all_goals (injection h with h; injection h with h1 h2; subst h1 h2; (try simp only [*]); exact ⟨_,rfl,.put hn hG _ _⟩)
 case extract x i=>
  simp only [an,eM x (by simp [aab])] at h ⊢
  repeat' (split at h)
  all_goals (first|(cases h; done) | skip)
  all_goals (injection h with h; injection h with h1 h2; subst h1 h2; (try simp only [*]); exact ⟨_,rfl,.put hn hG _ _⟩)
 case makeSlice ty x y=>
  simp only [an,eM x (by simp [aab]),eM y (by simp [aab])] at h ⊢
  repeat' (split at h)
  all_goals (first|(cases h; done) | skip)
  all_goals (injection h with h; injection h with h1 h2; subst h1 h2)
  all_goals (simp only [*])
  all_goals (refine ⟨_,rfl,?_⟩)
  all_goals (have e:∀ o,t.dU o=t.cH (s.G++[o]):=fun o=>by rw [hG]; rfl)
  all_goals (rw [e,← hG])
  all_goals (exact bZ.dJ (al:=false) hn _ dst _)
 case lookup ty x y ok=>
  simp only [an,eM x (by simp [aab]),eM y (by simp [aab]),Av hG] at h ⊢;split at h
  ·injection h with h; injection h with h1 h2; subst h1 h2; (try simp only [*]); exact ⟨_,rfl,.put hn hG _ _⟩
  ·cases h
 case mapUpdate ty x y z=>
  simp only [an,eM x (by simp [aab]),eM y (by simp [aab]),eM z (by simp [aab])] at h ⊢;split at h
  ·rename_i s1 hs;injection h with h; injection h with h1 h2; subst h1 h2;obtain ⟨t',h3,h4⟩:=to (al:=false) (dst:=none) hG hs;rw [h3];exact ⟨_,rfl,h4⟩
  ·cases h
 case insert ty x y z=>
  simp only [an,eM x (by simp [aab]),eM y (by simp [aab]),eM z (by simp [aab])] at h ⊢;split at h
  ·rename_i s1 hs;injection h with h; injection h with h1 h2; subst h1 h2;obtain ⟨t',h3,h4⟩:=to (al:=false) (dst:=none) hG hs;rw [h3];exact ⟨_,rfl,h4⟩
  ·cases h
 case entry x=>
  simp only [an,eM x (by simp [aab])] at h ⊢;have e:uk E s (bP E t.ae x)=uk E t (bP E t.ae x):=by unfold uk; rw [hG]
  rw [e] at h;split at h
  ·injection h with h; injection h with h1 h2; subst h1 h2; (try simp only [*]); exact ⟨_,rfl,.put hn hG _ _⟩
  ·cases h
 case mapEntry ty x y=>
  simp only [an,eM x (by simp [aab]),eM y (by simp [aab])] at h ⊢;unfold gi at h ⊢;rw [← hG]
  repeat' (split at h)
  all_goals (first|(cases h; done) | skip)
  rename_i lN
  repeat' (split at lN)
  all_goals (first|(cases lN; done) | skip)
  injection lN with lN; injection lN with h3 lN; injection lN with h4 h5;injection h with h; injection h with h1 h2; subst h1 h2 h3 h4 h5;simp only [*,if_true];exact ⟨_,rfl,bZ.dJ (al:=false) hn _ dst _⟩
 case entryStore ty x y z=>
  simp only [an,eM x (by simp [aab]),eM y (by simp [aab]),eM z (by simp [aab])] at h ⊢;unfold eI at h ⊢;rw [← hG]
  repeat' (split at h)
  all_goals (first|(cases h; done) | skip)
  rename_i lN
  repeat' (split at lN)
  all_goals (first|(cases lN; done) | skip)
  injection lN with lN; injection lN with h3 h5;injection h with h; injection h with h1 h2; subst h1 h2 h3 h5;simp only [*];exact ⟨_,rfl,.cH _ _⟩
 case range ty x=>
  simp only [an,eM x (by simp [aab])] at h ⊢
  repeat' (split at h)
  all_goals (first|(cases h; done) | skip)
  ·injection h with h; injection h with h1 h2; subst h1 h2
   (try simp only [*])
   refine ⟨_,rfl,?_⟩;have e:∀ o,t.dU o=t.cH (s.G++[o]):=fun o=>by rw [hG]; rfl
   rw [e,← hG];exact bZ.dJ (al:=false) hn _ dst _
  ·rename_i hk hg;injection h with h; injection h with h1 h2; subst h1 h2;have rV:=hg;rw [hG] at rV;simp only [hk,rV];refine ⟨_,rfl,?_⟩;have e:∀ o,t.dU o=t.cH (s.G++[o]):=fun o=>by rw [hG]; rfl
   rw [e,← hG];exact bZ.dJ (al:=false) hn _ dst _
 case next x b=>
  cases b with
  |false=>simp [an] at h
  |true=>
   simp only [an,eM x (by simp [aab])] at h ⊢;split at h
   ·rename_i s1 hs;injection h with h; injection h with h1 h2; subst h1 h2;obtain ⟨t',h3,h4⟩:=Gv (al:=false) hn hG hs;rw [h3];exact ⟨_,rfl,h4⟩
   ·cases h
 case makeMap ty r=>
  cases r with
  |none=>
   simp only [an] at h ⊢;injection h with h; injection h with h1 h2; subst h1 h2;refine ⟨_,rfl,?_⟩;have:=bZ.dJ (al:=false) hn (s.G++[.map []]) dst (.v (.map s.G.length));have e:∀ o,t.dU o=t.cH (s.G++[o]):=fun o=>by rw [hG]; rfl
   rw [e,← hG];exact this
  |some _=>simp [an] at h
 case call cl=>
  obtain ⟨callee,args,tys⟩:=cl;cases callee with
  |builtin b=>
   have h1:nL E s.ae args.toList=nL E t.ae args.toList:=iA fun y hy=>eM y (by simp [aab,aag]; simpa using hy)
   cases hf:iu E f s { dst:=dst,op:=.call { callee:=.builtin b,args:=args,argTypes:=tys },type:=ty,pos:=pos,after:=after,guard:=guard } with
   |some r=>
    simp only [an,hf] at h;obtain ⟨t',q1,q2⟩:=Gw (al:=b6 (.call { callee:=.builtin b,args:=args,argTypes:=tys })) hn hG eM (c:=r.1) (s':=r.2) hf;cases h;obtain ⟨a2,t2,ho⟩:=tq hf;cases ho;refine ⟨t',by simp only [an,q1],?_⟩;exact q2
   |none=>
   have hf':=wE hn hG eM hf;simp only [an,hf,hf',h1] at h ⊢;split at h
   ·(try simp only [*])
    obtain ⟨t',h3,h4⟩:=Au (al:=false) hn hG h;refine ⟨t',h3,?_⟩;have:(!tZ (.call { callee:=.builtin b,args:=args,argTypes:=tys }))=PN b∨PN b=false:=by cases b <;> simp [tZ,PN]
    rcases this with this|this
    ·rw [this]; exact h4
    ·obtain ⟨pre,preB,G,p1,p2,p3⟩:=h4;exact ⟨pre,preB,G,p1,fun _=>p2 this,p3⟩
   ·cases h
  |_=>simp [an] at h
 all_goals (simp [an] at h)
theorem iB {f:FuncId} {c:Bool} {s':St} (hn:s.n=t.n) (hG:s.G=t.G) (hB:dA s.boxes=dA t.boxes) (eM:∀ y∈o.op.operands,bP E s.ae y=bP E t.ae y)
  (h:an E f s o=some (c,s')):∃ t',an E f t o=some (c,t')∧bZ (b6 o.op) (!tZ o.op) o.dst s t s' t':=
 tu hn hG (fun k _ _=>by rw [hB]) eM h
end
end Go.Am
namespace Go.Am
open Go
structure qI (s t:St):Prop where
 l:lk s.ae=lk t.ae
 b:dA s.boxes=dA t.boxes
 G:s.G=t.G
 m:s.marks=t.marks
 ro:s.ro=t.ro
 n:s.n=t.n
theorem qI.refl (s:St):qI s s:=⟨rfl,rfl,rfl,rfl,rfl,rfl⟩
theorem qI.symm {s t:St} (h:qI s t):qI t s:=⟨h.l.symm,h.b.symm,h.G.symm,h.m.symm,h.ro.symm,h.n.symm⟩
theorem qI.trans {s t u:St} (h:qI s t) (k:qI t u):qI s u:=⟨h.l.trans k.l,h.b.trans k.b,h.G.trans k.G,h.m.trans k.m,h.ro.trans k.ro,h.n.trans k.n⟩
theorem mZ {a b:bj} {e:Nat} (h:lk a e=lk b e):∀ pre:bj,lk (pre++a) e=lk (pre++b) e
 |[]=>h
 |.put d x :: pre=>by
  simp only [aac,lk];rw [mZ h pre]
 |.kill d :: pre=>by
  simp only [aac,lk];rw [mZ h pre]
theorem yo {a b:cV} {e:Nat} (h:dA a e=dA b e):∀ pre:cV,dA (pre++a) e=dA (pre++b) e
 |[]=>h
 |(d,x) :: pre=>by
  simp only [aac,dA];rw [yo h pre]
theorem qI.ft {s t:St} (h:qI s t) (pre:bj) (preB:cV) (G:List GO):qI (s.ft pre preB G) (t.ft pre preB G):=
 ⟨funext fun e=>mZ (by rw [h.l]) pre,funext fun e=>yo (by rw [h.b]) preB,rfl,h.m,h.ro,h.n⟩
theorem LJ {E:Env} {a b:bj} {x:Operand} (h:∀ t,x=.tmp t→lk a t=lk b t):bP E a x=bP E b x:=by
 cases x with
 |tmp t=>exact h t rfl
 |_=>rfl
theorem qI.bP {E:Env} {s t:St} (h:qI s t) (x:Operand):bP E s.ae x=bP E t.ae x:=LJ fun e _=>by rw [h.l]
section Df
variable {E:Env} {R:ak} {w:World} {β:Nat→Nat} {s t:St} {a:Act}
theorem bt.eqv (h:bt E R w β s a) (e:qI s t):bt E R w β t a where
 g:=by rw [← e.G]; exact h.g
 b:=⟨fun k cs hk=>h.b.box k cs (by rw [e.b]; exact hk),fun k k' c c' h1 h2=>h.b.inj k k' c c' (by rw [e.b]; exact h1) (by rw [e.b]; exact h2)⟩
 t:=fun i hi=>by
  rw [← e.l] at hi ⊢;exact h.t i hi
 n:=by rw [← e.n]; exact h.n
 d:=by rw [← e.m]; exact h.d
theorem wT {bx KZ:cV} (h:dA bx=dA KZ) {b:Nat} (k:Own R β bx b):Own R β KZ b:=by
 rcases k with k|⟨j,cs,h1,h2⟩
 ·exact .inl k
 ·exact .inr ⟨j,cs,by rw [← h]; exact h1,h2⟩
theorem Step.eqv {R':ak} {w':World} {β':Nat→Nat} {bx KZ cx cx':cV} (h:Step R w β bx R' w' β' KZ) (h1:dA bx=dA cx) (h2:dA KZ=dA cx'):Step R w β cx R' w' β' cx':=
 ⟨h.ext,h.os,h.tape,h.output,h.size,fun b hb hn=>h.aY b hb (fun ho=>hn (wT h1 ho)),fun b hb ho=>wT h1 (h.own b hb (wT h2.symm ho)),fun b o hi hb hn=>h.im b o hi hb (fun ho=>hn (wT h1 ho))⟩
end Df
section ops
variable {E:Env} {s t:St} {f:FuncId} {o:Oper} {K K':St→Prop}
def Inv (K:St→Prop):Prop:=∀ s t,qI s t→K s→K t
theorem DZ {op:Op} (h:tZ op=true):b6 op=false:=by
 cases op <;> simp_all [tZ,b6]
theorem uE (hn:s.n=t.n) (hG:s.G=t.G) (hB:dA s.boxes=dA t.boxes) (eM:∀ y∈o.op.operands,bP E s.ae y=bP E t.ae y) (h:ke E f o K s)
  (hK:∀ pre preB G,Y0 (b6 o.op) o.dst pre→(tZ o.op=true→preB=[]∧G=s.G)→K (s.ft pre preB G)→K' (t.ft pre preB G)):ke E f o K' t:=by
 unfold ke at h ⊢;split at h
 ·rename_i x args tys ho;have h1:bP E s.ae x=bP E t.ae x:=eM x (by rw [ho]; simp [aab,aag]);have h2:nL E s.ae args.toList=nL E t.ae args.toList:=iA fun y hy=>eM y (by rw [ho]; simp [aab,aag]; exact .inr (by simpa using hy))
  try simp only [ho]
  rw [← h1,← h2,← hG];split at h
  ·refine cG.mono h fun r G' hk=>?_
   obtain ⟨pre,preB,G,p1,p2,p3,p4⟩:=bZ.dJ (s:=s) (t:=t) (al:=b6 o.op) hn G' o.dst (.v r);rw [p3] at hk;rw [p4];exact hK pre preB G p1 (fun e=>by rw [ho] at e; simp [tZ] at e) hk
  ·refine kH.mono h fun r G' hk=>?_
   obtain ⟨pre,preB,G,p1,p2,p3,p4⟩:=bZ.dJ (s:=s) (t:=t) (al:=b6 o.op) hn G' o.dst (.v (.bool r));rw [p3] at hk;rw [p4];exact hK pre preB G p1 (fun e=>by rw [ho] at e; simp [tZ] at e) hk
  ·exact h.elim
 ·exact h.elim
 ·split at h
  ·rename_i c s' hs;obtain ⟨t',h1,pre,preB,G,p1,p2,p3,p4⟩:=iB hn hG hB eM hs;rw [h1];obtain ⟨rfl,hk⟩:=h.out;refine dG.mk rfl ?_;rw [p3] at hk;rw [p4];exact hK pre preB G p1 (fun e=>⟨(p2 (by simp [e])).1,(p2 (by simp [e])).2.1⟩) hk
  ·exact h.elim
theorem uF (h:ke E f o K s) (hK:∀ s,K s→K' s):ke E f o K' s:=
 uE rfl rfl rfl (fun _ _=>rfl) h fun _ _ _ _ _ hk=>hK _ hk
theorem yp (h:ke E f o K s) (e:qI s t) (hK:Inv K):ke E f o K t:=
 uE e.n e.G e.b (fun y _=>e.bP y) h fun _ _ _ _ _ hk=>hK _ _ (e.ft _ _ _) hk
def Dg (ops:List Oper) (s:St) (o:Oper):Option Bool:=match o.guard with
 |none=>some true
 |some (j,want)=>match pI ops j with
  |some d=>match lk s.ae d with
   |.v (.bool b)=>some (b == want)
   |.v (.bq [])=>some false
   |_=>none
  |none=>none
theorem D0 (s:St) {d:Tmp} {x:SV} (h:lk s.ae d=x):qI s (s.put (some d) x):=by
 simp only [St.put];split
 ·refine ⟨funext fun e=>?_,rfl,rfl,rfl,rfl,rfl⟩;by_cases k:d=e
  ·subst k; rw [aA]; exact h
  ·rw [aS k]
 ·exact qI.refl s
theorem qI.put {s t:St} (h:qI s t) (d:Option Tmp) (x:SV):qI (s.put d x) (t.put d x):=by
 obtain ⟨pre,preB,G,_,_,p3,p4⟩:=bZ.put (s:=s) (t:=t) (al:=false) (w:=false) h.n h.G d x;rw [p3,p4];exact h.ft _ _ _
theorem fU {ops:List Oper} (hK:Inv K):cw E f ops o K s↔(Dg ops s o=some true∧ke E f o K s)∨(Dg ops s o=some false∧K (s.put o.dst (.v fM))):=by
 unfold cw Dg;cases hg:o.guard with
 |none=>simp
 |some p=>
  obtain ⟨j,want⟩:=p;simp only;cases hd:pI ops j with
  |none=>simp
  |some d=>
   simp only;cases hl:lk s.ae d with
   |none=>simp
   |lp _ _=>simp
   |v a=>
    cases a with
    |bool b=>
     have e1:b=want→qI s (s.put (some d) (.v (.bool want))):=fun e=>D0 s (by rw [hl,e])
     have e2:b=(!want)→qI s (s.put (some d) (.v (.bool (!want)))):=fun e=>D0 s (by rw [hl,e])
     constructor
     ·intro ⟨h1,h2⟩;by_cases e:b=want
      ·exact .inl ⟨by simp [e],yp (h1 e) (e1 e).symm hK⟩
      ·have e':b=(!want):=by cases b <;> cases want <;> simp_all
       exact .inr ⟨by simp [e],hK _ _ ((e2 e').symm.put _ _) (h2 e')⟩
     ·rintro (⟨h1,h2⟩|⟨h1,h2⟩)
      ·have e:b=want:=by simpa using h1
       exact ⟨fun e=>yp h2 (e1 e) hK,fun e'=>by subst e; cases b <;> cases e'⟩
      ·have e:¬ b=want:=by simpa using h1
       exact ⟨fun k=>absurd k e,fun e'=>hK _ _ ((e2 e').put _ _) h2⟩
    |bq vs=>cases vs <;> simp
    |_=>simp
theorem cz {ops:List Oper} (h:cw E f ops o K s) (hK:∀ s,K s→K' s):cw E f ops o K' s:=by
 unfold cw at h ⊢;split at h
 ·exact uF h hK
 ·split at h
  ·exact h.elim
  ·split at h
   ·exact ⟨fun e=>uF (h.1 e) hK,fun e=>hK _ (h.2 e)⟩
   ·exact hK _ h
   ·exact h.elim
theorem Cl {ops:List Oper} (e:qI s t):Dg ops s o=Dg ops t o:=by
 unfold Dg;rw [e.l]
theorem D1 {ops:List Oper} (hK:Inv K):Inv (cw E f ops o K):=fun s t e h=>by
 rw [fU hK] at h ⊢;rcases h with ⟨h1,h2⟩|⟨h1,h2⟩
 ·exact .inl ⟨by rw [← Cl e]; exact h1,yp h2 e hK⟩
 ·exact .inr ⟨by rw [← Cl e]; exact h1,hK _ _ (e.put _ _) h2⟩
end ops
end Go.Am
namespace Go.Am
open Go
def LL (dst:Option Tmp) (s t s' t':St):Prop:=∃ x,s'=s.put dst x∧t'=t.put dst x
section
variable {E:Env} {s t:St} {o:Oper}
theorem LL.put (_:s.n=t.n) (dst:Option Tmp) (x:SV):LL dst s t (s.put dst x) (t.put dst x):=⟨x,rfl,rfl⟩
theorem D2 {f:FuncId} {c:Bool} {s':St} (hN:tZ o.op=true) (hR:VT o.op=false) (hn:s.n=t.n) (eM:∀ y∈o.op.operands,bP E s.ae y=bP E t.ae y)
  (h:an E f s o=some (c,s')):∃ t',an E f t o=some (c,t')∧LL o.dst s t s' t':=by
 obtain ⟨dst,op,ty,pos,after,guard⟩:=o;cases op
 case move x=>
  simp only [an,eM x (by simp [aab])] at h ⊢;split at h
  all_goals (injection h with h; injection h with h1 h2; subst h1 h2; (try simp only [*]); exact ⟨_,rfl,.put hn _ _⟩)
 case assign x=>
  simp only [an,eM x (by simp [aab])] at h ⊢;split at h
  all_goals (injection h with h; injection h with h1 h2; subst h1 h2; (try simp only [*]); exact ⟨_,rfl,.put hn _ _⟩)
 case pick x y z=>
  simp only [an,eM x (by simp [aab]),eM y (by simp [aab]),eM z (by simp [aab])] at h ⊢;split at h
  ·injection h with h; injection h with h1 h2; subst h1 h2; (try simp only [*]); exact ⟨_,rfl,.put hn _ _⟩
  ·cases h
 case build ty ps=>
  have he:nN E s ty ps.toList=nN E t ty ps.toList:=by
   unfold nN;rw [mY (fun p hp=>eM p.2 (by simp only [aab,aah,aaF]; exact ⟨p,hp,rfl⟩))]
  simp only [an,he] at h ⊢;split at h
  ·injection h with h; injection h with h1 h2; subst h1 h2; (try simp only [*]); exact ⟨_,rfl,.put hn _ _⟩
  ·cases h
 case buildSlice ty len ps=>
  have he:cp E s ty len ps.toList=cp E t ty len ps.toList:=by
   unfold cp;rw [mY (fun p hp=>eM p.2 (by simp only [aab,aah,aaF]; exact ⟨p,hp,rfl⟩))]
  simp only [an,he] at h ⊢;split at h
  ·injection h with h; injection h with h1 h2; subst h1 h2; (try simp only [*]); exact ⟨_,rfl,.put hn _ _⟩
  ·cases h
 case binOp op a x y b=>
  simp only [an,eM x (by simp [aab]),eM y (by simp [aab])] at h ⊢
  repeat' (split at h)
  all_goals (first|(cases h; done) | skip)
  all_goals (injection h with h; injection h with h1 h2; subst h1 h2; (try simp only [*]); exact ⟨_,rfl,.put hn _ _⟩)
 case unOp op a x=>
  simp only [an,eM x (by simp [aab])] at h ⊢
  repeat' (split at h)
  all_goals (first|(cases h; done) | skip)
  all_goals (injection h with h; injection h with h1 h2; subst h1 h2; (try simp only [*]); exact ⟨_,rfl,.put hn _ _⟩)
 case convert a b x=>simp [VT] at hR
 case nilCheck x=>
  simp only [an,eM x (by simp [aab])] at h ⊢
  repeat' (split at h)
  all_goals (first|(cases h; done) | skip)
  all_goals (injection h with h; injection h with h1 h2; subst h1 h2; (try simp only [*]); exact ⟨_,rfl,.put hn _ _⟩)
 case makeFunc fo a b=>
  cases fo with
  |func g=>
   have h1:nL E s.ae a.toList=nL E t.ae a.toList:=iA fun y hy=>eM y (by simp only [aab,aai]; exact .inl (by simpa using hy))
   have h2:nL E s.ae b.toList=nL E t.ae b.toList:=iA fun y hy=>eM y (by simp only [aab,aai]; exact .inr (by simpa using hy))
   simp only [an,h1,h2] at h ⊢
   repeat' (split at h)
   all_goals (first|(cases h; done) | skip)
   all_goals (injection h with h; injection h with h1 h2; subst h1 h2; (try simp only [*]); exact ⟨_,rfl,.put hn _ _⟩)
  |_=>simp [an] at h
 case fieldAddr a x j=>
  simp only [an,eM x (by simp [aab])] at h ⊢
  repeat' (split at h)
  all_goals (first|(cases h; done) | skip)
  all_goals (injection h with h; injection h with h1 h2; subst h1 h2; (try simp only [*]); exact ⟨_,rfl,.put hn _ _⟩)
 case field a x j=>
  simp only [an,eM x (by simp [aab])] at h ⊢
  repeat' (split at h)
  all_goals (first|(cases h; done) | skip)
  all_goals (injection h with h; injection h with h1 h2; subst h1 h2; (try simp only [*]); exact ⟨_,rfl,.put hn _ _⟩)
 case indexAddr a x y=>
  simp only [an,eM x (by simp [aab]),eM y (by simp [aab])] at h ⊢
  repeat' (split at h)
  all_goals (first|(cases h; done) | skip)
  all_goals (injection h with h; injection h with h1 h2; subst h1 h2; (try simp only [*]); exact ⟨_,rfl,.put hn _ _⟩)
 case index a x y=>
  simp only [an,eM x (by simp [aab]),eM y (by simp [aab])] at h ⊢
  repeat' (split at h)
  all_goals (first|(cases h; done) | skip)
  all_goals (injection h with h; injection h with h1 h2; subst h1 h2; (try simp only [*]); exact ⟨_,rfl,.put hn _ _⟩)
 case slice a x lo hi mx=>
  have h1:nO E s.ae lo=nO E t.ae lo:=by
   cases lo with
   |none=>rfl
   |some y=>simp only [nO]; rw [eM y (by simp [aab])]
  have h2:nO E s.ae hi=nO E t.ae hi:=by
   cases hi with
   |none=>rfl
   |some y=>simp only [nO]; rw [eM y (by simp [aab])]
  simp only [an,eM x (by simp [aab]),h1,h2] at h ⊢
  repeat' (split at h)
  all_goals (first|(cases h; done) | skip)
  all_goals (injection h with h; injection h with h1 h2; subst h1 h2; (try simp only [*]); exact ⟨_,rfl,.put hn _ _⟩)
 case extract x i=>
  simp only [an,eM x (by simp [aab])] at h ⊢
  repeat' (split at h)
  all_goals (first|(cases h; done) | skip)
  all_goals (injection h with h; injection h with h1 h2; subst h1 h2; (try simp only [*]); exact ⟨_,rfl,.put hn _ _⟩)
 all_goals (first|(simp [tZ] at hN; done) | (simp [VT] at hR; done))
end
end Go.Am
namespace Go.Am
open Go
section
variable {E:Env} {s t:St} {f:FuncId} {ops:Array Oper} {o oj oi:Oper} {d:Tmp} {x:SV} {K:St→Prop}
theorem LM (ops:Array Oper) (j:Nat):pI ops.toList j=(ops[j]?).bind (·.dst):=by
 unfold pI;rw [bi,Array.getElem?_toList];cases ops[j]? <;> rfl
theorem n9 {e:Tmp} (h:.tmp e∈o.op.operands):e∈o.looksAt ops:=
 List.mem_append_left _ (List.mem_filterMap.2 ⟨.tmp e,by simpa using h,rfl⟩)
theorem jW {j:Nat} {want:Bool} {e:Tmp} (h:o.guard=some (j,want)) (he:pI ops.toList j=some e):e∈o.looksAt ops:=by
 rw [LM] at he;refine List.mem_append_right _ ?_;rw [h];simp [he]
theorem kI (h:∀ e∈o.looksAt ops,lk s.ae e=lk t.ae e):∀ y∈o.op.operands,bP E s.ae y=bP E t.ae y:=fun _ hy=>
 LJ fun e he=>h e (n9 (he ▸ hy))
theorem kv (h:∀ e∈o.looksAt ops,lk s.ae e=lk t.ae e):Dg ops.toList s o=Dg ops.toList t o:=by
 unfold Dg;split
 ·rfl
 ·rename_i j want hg;split
  ·rename_i e he;rw [h e (jW hg he)]
  ·rfl
theorem wU (s:St) (d:Tmp) (x:SV) {e:Nat} (h:d≠e):lk (s.put (some d) x).ae e=lk s.ae e:=by
 simp only [St.put];split
 ·exact aS h
 ·rfl
theorem fV (s:St) (d:Option Tmp) (x:SV):(s.put d x).boxes=s.boxes∧(s.put d x).G=s.G∧(s.put d x).n=s.n∧(s.put d x).marks=s.marks∧(s.put d x).ro=s.ro:=by
 cases d with
 |none=>exact ⟨rfl,rfl,rfl,rfl,rfl⟩
 |some d=>
  simp only [St.put];split <;> exact ⟨rfl,rfl,rfl,rfl,rfl⟩
def yq (E:Env) (f:FuncId) (ops:Array Oper) (o:Oper) (s:St) (x:SV):Prop:=
 (Dg ops.toList s o=some true∧an E f s o=some (true,s.put o.dst x))∨(Dg ops.toList s o=some false∧x=.v fM)
theorem LN {c:Bool} {s':St} (hN:tZ o.op=true) (h:an E f s o=some (c,s')):∃ x,s'=s.put o.dst x:=by
 obtain ⟨t',_,pre,preB,G,_,h2,_,_⟩:=iB (t:=s) rfl rfl rfl (fun _ _=>rfl) h;obtain ⟨_,_,x,hx,_⟩:=h2 (by simp [hN]);exact ⟨x,hx⟩
theorem LO (hN:tZ o.op=true):ke E f o K s↔∃ s',an E f s o=some (true,s')∧K s':=by
 unfold ke;split
 ·rename_i h;rw [h] at hN;simp [tZ] at hN
 ·rename_i h;rw [h] at hN;simp [tZ] at hN
 ·split
  ·rename_i c s' hs;constructor
   ·intro h;obtain ⟨rfl,hk⟩:=h.out;exact ⟨s',hs,hk⟩
   ·rintro ⟨DA,h1,h2⟩;rw [hs] at h1;cases h1;exact dG.mk rfl h2
  ·rename_i hs;constructor
   ·exact fun h=>h.elim
   ·rintro ⟨DA,h1,_⟩;rw [hs] at h1;cases h1
theorem yt (hN:tZ o.op=true) (hK:Inv K) (h:cw E f ops.toList o K s):∃ x,yq E f ops o s x∧K (s.put o.dst x):=by
 rcases (fU hK).1 h with ⟨h1,h2⟩|⟨h1,h2⟩
 ·obtain ⟨s',h3,h4⟩:=(LO hN).1 h2;obtain ⟨x,rfl⟩:=LN hN h3;exact ⟨x,.inl ⟨h1,h3⟩,h4⟩
 ·exact ⟨_,.inr ⟨h1,rfl⟩,h2⟩
theorem yu (hN:tZ o.op=true) (hK:Inv K) (hx:yq E f ops o s x) (h:K (s.put o.dst x)):cw E f ops.toList o K s:=by
 rw [fU hK];rcases hx with ⟨h1,h2⟩|⟨h1,rfl⟩
 ·exact .inl ⟨h1,(LO hN).2 ⟨_,h2,h⟩⟩
 ·exact .inr ⟨h1,h⟩
def Gx (E:Env) (f:FuncId) (ops:List Oper) (o:Oper) (s:St):Prop:=match Dg ops s o with
 |some true=>match o.dst,an E f s o with
  |some d,some (c,s')=>c=true∧lk s'.ae d=lk s.ae d
  |_,_=>False
 |some false=>True
 |none=>False
theorem PO (hN:tZ o.op=true) (hd:d∉o.looksAt ops) (cS:o.dst≠some d) (he:∀ e,d≠e→lk s.ae e=lk t.ae e) (hB:dA s.boxes=dA t.boxes) (hG:s.G=t.G) (hn:s.n=t.n)
  (h:Gx E f ops.toList o s):Gx E f ops.toList o t:=by
 have hl:∀ e∈o.looksAt ops,lk s.ae e=lk t.ae e:=fun e hm=>he e fun k=>hd (k ▸ hm)
 unfold Gx at h ⊢;rw [← kv hl];split
 ·rename_i hg;rw [hg] at h;simp only at h;split at h
  ·rename_i e c s' JE hs;obtain ⟨t',h3,pre,preB,G,_,h4,_,_⟩:=iB hn hG hB (kI hl) hs;obtain ⟨_,_,y,h5,h6⟩:=h4 (by simp [hN]);rw [JE,h3];refine ⟨h.1,?_⟩;have hde:d≠e:=fun k=>cS (by rw [JE,k])
   have h7:=h.2;rw [h5,JE] at h7;rw [h6,JE,← he e hde];simp only [St.put,← hn] at h7 ⊢;split
   ·rename_i hb;rw [hb] at h7;simp only [aA] at h7 ⊢;exact h7
   ·exact (he e hde).symm
  ·exact h.elim
 ·trivial
 ·rename_i hg;rw [hg] at h;exact h
theorem PP (hN:tZ o.op=true) (e:qI s t) (h:Gx E f ops.toList o s):Gx E f ops.toList o t:=by
 unfold Gx at h ⊢;rw [← Cl e];split
 ·rename_i hg;rw [hg] at h;simp only at h;split at h
  ·rename_i d c s' JE hs;obtain ⟨t',h3,pre,preB,G,_,h4,_,_⟩:=iB e.n e.G e.b (fun y _=>e.bP y) hs;obtain ⟨_,_,y,h5,h6⟩:=h4 (by simp [hN]);rw [JE,h3];refine ⟨h.1,?_⟩;rw [h6,← (e.put o.dst y).l,← h5,← e.l];exact h.2
  ·exact h.elim
 ·trivial
 ·rename_i hg;rw [hg] at h;exact h
def jC (oj oi:Oper):Bool:=b6 oi.op || (VT oj.op&&!tZ oi.op)
theorem LP {al:Bool} {dst:Option Tmp} {pre:bj} (h:Y0 al dst pre) {e:Nat} (he:dst≠some e) (l:bj):lk (pre++l) e=lk l e∨(al=true∧∃ k off,lk l e=.lp k off):=by
 rcases h with rfl|⟨d,y,rfl,rfl|⟨rfl,rfl⟩⟩
 ·exact .inl rfl
 ·exact .inl (aS fun k=>he (by rw [k]))
 ·simp only [aac,aad];rw [aS (fun k=>he (by rw [k]))];simp only [lk];cases hl:lk l e with
  |lp k off=>exact .inr ⟨trivial,k,off,rfl⟩
  |_=>exact .inl rfl
theorem tv {al:Bool} {pre:bj} (preB:cV) (G:List GO) (h:Y0 al oi.dst pre) (cS:oi.dst≠some d) (hx:al=false∨∃ a,x=.v a):qI ((s.put (some d) x).ft pre preB G) ((s.ft pre preB G).put (some d) x):=by
 have hb:∀ b,aae d s.n=b→qI ((s.put (some d) x).ft pre preB G) ((s.ft pre preB G).put (some d) x):=fun b hb=>by
  have gJ:aae d (s.ft pre preB G).n=b:=hb;rw [lS,lS,hb,gJ];cases b with
  |false=>exact qI.refl _
  |true=>
   refine ⟨funext fun e=>?_,rfl,rfl,rfl,rfl,rfl⟩;simp only [cond_true,St.ft,aac,aad];by_cases k:d=e
   ·subst k;rw [aA];rcases LP h cS (.put d x :: s.ae) with h1|⟨h1,k,off,h2⟩
    ·rw [h1,aA]
    ·rw [aA] at h2;rcases hx with hx|⟨a,hx⟩
     ·rw [hx] at h1; cases h1
     ·rw [hx] at h2; cases h2
   ·rw [aS k];exact mZ (aS k) pre
 exact hb _ rfl
theorem JF (hN:tZ oj.op=true) (H9:oj.dst=some d) (D3:d∉oj.looksAt ops) (Ur:oj.apart ops oi=true) (hK:Inv K) (hx:yq E f ops oj s x) {pre:bj} {preB:cV} {G:List GO}
  (Aw:Y0 (b6 oi.op) oi.dst pre) (hNi:tZ oi.op=true→preB=[]∧G=s.G) (hk:K ((s.put (some d) x).ft pre preB G)) (ZR:∀ t',K t'→jC oj oi=true→Gx E f ops.toList oj t') :
  ∃ x',yq E f ops oj (s.ft pre preB G) x'∧K ((s.ft pre preB G).put (some d) x'):=by
 obtain ⟨_,cS,F6⟩:=Oper.apart_spec Ur;have LQ:oi.dst≠some d:=cS d H9;have tw:∀ e∈oj.looksAt ops,oi.dst≠some e:=fun e he k=>F6 e k he
 have wS:∀ e∈oj.looksAt ops,(b6 oi.op=false∨∃ b,lk s.ae e=.v b)→lk s.ae e=lk (s.ft pre preB G).ae e:=fun e he ha=>by
  rcases LP Aw (tw e he) s.ae with h1|⟨h1,k,off,h2⟩
  ·exact h1.symm
  ·rcases ha with ha|⟨b,ha⟩
   ·rw [ha] at h1; cases h1
   ·rw [ha] at h2; cases h2
 have PQ:∀ b,Dg ops.toList s oj=some b→Dg ops.toList (s.ft pre preB G) oj=some b:=fun b hb=>by
  unfold Dg at hb ⊢;split
  ·rename_i hg; rw [hg] at hb; exact hb
  ·rename_i j want hg;rw [hg] at hb;simp only at hb;split
   ·rename_i e he;rw [he] at hb;simp only at hb;split at hb
    ·rename_i b' hl;have:=wS e (jW hg he) (.inr ⟨_,hl⟩);rw [← this,hl];exact hb
    ·rename_i hl;have:=wS e (jW hg he) (.inr ⟨_,hl⟩);rw [← this,hl];exact hb
    ·cases hb
   ·rename_i he; rw [he] at hb; cases hb
 rcases hx with ⟨h1,h2⟩|⟨h1,rfl⟩
 ·rw [H9] at h2;by_cases aek:jC oj oi=true
  ·have hr:=ZR _ hk aek
   -- the state with the slot, and the one without it
   have Cf:∀ e,d≠e→lk ((s.put (some d) x).ft pre preB G).ae e=lk (s.ft pre preB G).ae e:=fun e he=>mZ (wU s d x he) pre
   have hB:dA ((s.put (some d) x).ft pre preB G).boxes=dA (s.ft pre preB G).boxes:=by
    simp only [St.ft]; rw [(fV s _ x).1]
   have hn:((s.put (some d) x).ft pre preB G).n=(s.ft pre preB G).n:=(fV s _ x).2.2.1;have LR:∀ e∈oj.looksAt ops,lk ((s.put (some d) x).ft pre preB G).ae e=lk (s.ft pre preB G).ae e:=fun e he=>Cf e fun k=>D3 (k ▸ he)
   have hg2:Dg ops.toList ((s.put (some d) x).ft pre preB G) oj=some true:=by rw [kv LR]; exact PQ _ h1
   unfold Gx at hr;rw [hg2] at hr;simp only [H9] at hr;split at hr
   ·rename_i d' c s' HP hs;cases HP;obtain ⟨rfl,hr⟩:=hr;obtain ⟨t',h3,p,pB,G2,_,h4,_,_⟩:=iB (t:=s.ft pre preB G) hn rfl hB (kI LR) hs;obtain ⟨_,_,y,h5,h6⟩:=h4 (by simp [hN]);rw [h6] at h3;rw [h5,H9] at hr;refine ⟨y,.inl ⟨PQ _ h1,h3⟩,hK _ _ ?_ hk⟩;have hmr:((s.put (some d) x).ft pre preB G).marks=(s.ft pre preB G).marks∧((s.put (some d) x).ft pre preB G).ro=(s.ft pre preB G).ro:=(fV s _ x).2.2.2;obtain ⟨q1,q2,q3,q4,q5⟩:=fV (s.ft pre preB G) (some d) y;refine ⟨funext fun e=>?_,by rw [q1]; exact hB,by rw [q2]; rfl,by rw [q4]; exact hmr.1,by rw [q5]; exact hmr.2,by rw [q3]; exact hn⟩;by_cases k:d=e
    ·subst k;rw [← hr];have hb:∀ b,aae d s.n=b→lk (((s.put (some d) x).ft pre preB G).put (some d) y).ae d=lk ((s.ft pre preB G).put (some d) y).ae d:=fun b hb=>by
      have Gy:aae d (s.ft pre preB G).n=b:=hb;have KM:aae d ((s.put (some d) x).ft pre preB G).n=b:=by rw [hn]; exact hb
      rw [lS _ d y,lS _ d y,Gy,KM];cases b with
      |true=>simp [St.ft,aA]
      |false=>
       simp only [cond_false];rw [lS,hb];rfl
     exact hb _ rfl
    ·rw [wU _ _ _ k];exact Cf e k
   ·exact hr.elim
  ·have wF:b6 oi.op=false:=by cases ha:b6 oi.op <;> simp_all [jC]
   have hl:∀ e∈oj.looksAt ops,lk s.ae e=lk (s.ft pre preB G).ae e:=fun e he=>wS e he (.inl wF)
   have fin:∀ y,s.put (some d) x=s.put (some d) y→an E f (s.ft pre preB G) oj=some (true,(s.ft pre preB G).put oj.dst y) →
     ∃ x',yq E f ops oj (s.ft pre preB G) x'∧K ((s.ft pre preB G).put (some d) x'):=fun y hy hs=>by
    refine ⟨y,.inl ⟨PQ _ h1,hs⟩,hK _ _ (tv (oi:=oi) preB G Aw LQ (.inl wF)) ?_⟩;rw [← hy];exact hk
   cases hNo:tZ oi.op with
   |true=>
    obtain ⟨rfl,rfl⟩:=hNi hNo;obtain ⟨t',h3,p,pB,G2,_,h4,_,_⟩:=iB (s:=s) (t:=s.ft pre [] s.G) rfl rfl rfl (kI hl) h2;obtain ⟨_,_,y,h5,h6⟩:=h4 (by simp [hN]);rw [H9] at h5;exact fin y h5 (by rw [h3,h6])
   |false=>
    have hR:VT oj.op=false:=by cases ha:VT oj.op <;> simp_all [jC]
    obtain ⟨t',h3,y,h5,h6⟩:=D2 (s:=s) (t:=s.ft pre preB G) hN hR rfl (kI hl) h2;rw [H9] at h5;exact fin y h5 (by rw [h3,h6])
 ·exact ⟨_,.inr ⟨PQ _ h1,rfl⟩,hK _ _ (tv (oi:=oi) preB G Aw LQ (.inr ⟨_,rfl⟩)) hk⟩
end
end Go.Am
namespace Go.Am
open Go
section
variable {E:Env} {s t:St} {o:Oper}
def iN (E:Env) (s:St) (o:Oper) (s':St):Prop:=
 (s'.ae=s.ae∨∃ d x,o.dst=some d∧(s'.ae=.put d x :: s.ae∨s'.ae=.put d x :: .kill d :: s.ae)∧∀ k off,x=.lp k off→(∃ y∈o.op.operands,∃ fO,bP E s.ae y=.lp k fO)∨(b6 o.op=true∧k=d)) ∧
 (s'.boxes=s.boxes∨∃ k cs,s'.boxes=(k,cs) :: s.boxes∧((b6 o.op=true∧o.dst=some k)∨∃ y∈o.op.operands,∃ off,bP E s.ae y=.lp k off))
theorem lT {s1:St} (h1:s1.ae=s.ae) (h2:s1.boxes=s.boxes) {x:SV} (hx:∀ k off,x=.lp k off→∃ y∈o.op.operands,∃ fO,bP E s.ae y=.lp k fO):iN E s o (s1.put o.dst x):=by
 refine ⟨?_,.inl (by rw [(fV s1 o.dst x).1,h2])⟩;cases hd:o.dst with
 |none=>exact .inl h1
 |some d=>
  simp only [St.put];split
  ·exact .inr ⟨d,x,rfl,.inl (by rw [h1]),fun k off h=>.inl (hx k off h)⟩
  ·exact .inl h1
theorem lU {s1:St} (h1:s1.ae=s.ae) (h2:s1.boxes=s.boxes) (a:AV):iN E s o (s1.put o.dst (.v a)):=lT h1 h2 fun k off h=>by cases h
theorem na {s1:St} (h1:s1.ae=s.ae) (h2:s1.boxes=s.boxes):iN E s o s1:=⟨.inl h1,.inl h2⟩
theorem PR {k:Nat} {cs:List AV} (h:∃ y∈o.op.operands,∃ off,bP E s.ae y=.lp k off):iN E s o (s.wj k cs):=⟨.inl rfl,.inr ⟨k,cs,rfl,.inr h⟩⟩
theorem D4 {n:Nat} {x:SV} {k off:Nat} (h:AT n x=some (.lp k off)):∃ fO,x=.lp k fO:=by
 unfold AT at h;split at h <;> cases h;exact ⟨_,rfl⟩
theorem Ax {ty:TypeId} {x:SV} {j k off:Nat} (h:kA E ty x j=some (.lp k off)):∃ fO,x=.lp k fO:=by
 unfold kA at h
 repeat' (split at h)
 all_goals (first|(cases h; done) | exact D4 h)
theorem Ay {ty:TypeId} {x ix:SV} {c:Bool} {k off:Nat} (h:kz E ty x ix=some (c,.lp k off)):∃ fO,x=.lp k fO:=by
 unfold kz at h
 repeat' (split at h)
 all_goals (first|(cases h; done) | skip)
 rename_i hm;injection h with h; injection h with h1 h2; subst h2;exact D4 hm
theorem Gz {ty:TypeId} {p x:SV} {s':St} (hp:∀ k off,p=.lp k off→∃ y∈o.op.operands,∃ fO,bP E s.ae y=.lp k fO) (h:jR E s ty p x=some s'):iN E s o s':=by
 unfold jR at h
 repeat' (split at h)
 all_goals (first|(cases h; done) | skip)
 ·cases h; exact PR (hp _ _ rfl)
 ·cases h; exact na rfl rfl
theorem GA {ty:TypeId} {p x:SV} {c:Bool} {s':St} (hp:∀ k off,p=.lp k off→∃ y∈o.op.operands,∃ fO,bP E s.ae y=.lp k fO) (h:jS E s ty p x=some (c,s')):iN E s o s':=by
 unfold jS at h
 repeat' (split at h)
 all_goals (first|(cases h; done) | skip)
 ·injection h with h; injection h with h1 h2; subst h2; exact na rfl rfl
 ·injection h with h; injection h with h1 h2; subst h2; exact na rfl rfl
 ·rename_i hs;injection h with h; injection h with h1 h2; subst h2; exact Gz hp hs
theorem vL {ty:TypeId} {m k x:SV} {s':St} (h:fc E s ty m k x=some s'):iN E s o s':=by
 unfold fc at h
 repeat' (split at h)
 all_goals (first|(cases h; done) | skip)
 cases h; exact na rfl rfl
theorem JG {x:SV} {s':St} (h:lL s o.dst x=some s'):iN E s o s':=by
 unfold lL at h;split at h
 ·split at h
  ·rename_i l pos hg;cases hb:aae pos l.length with
   |true=>
    rw [hb] at h;simp only [cond_true] at h;cases h;exact lU rfl rfl _
   |false=>
    rw [hb] at h;simp only [cond_false] at h;cases h;exact lU rfl rfl _
  ·cases h
 ·cases h
theorem Cm {b:Builtin} {l:List AV} {tys:List TypeId} {c:Bool} {s':St} (h:bW E s o.dst b l tys=some (c,s')):iN E s o s':=by
 unfold bW at h;cases b
 all_goals (try (cases h; done))
 all_goals (try simp only at h)
 all_goals (try (split at h <;> first | (cases h; done) | simp only at h))
 all_goals (repeat' (split at h))
 all_goals (first|(cases h; done) | skip)
 all_goals (injection h with h; injection h with h1 h2; subst h1 h2)
 all_goals (first|exact lU rfl rfl _ | exact na rfl rfl)
theorem JH {f:FuncId} {c:Bool} {s':St} (h:iu E f s o=some (c,s')):iN E s o s':=by
 unfold iu at h;cases h
theorem yw {f:FuncId} {el:TypeId} {cs:List AV} {c:Bool} {s':St} (ha:b6 o.op=true) (h:fb E f s o.dst el cs=some (c,s')):iN E s o s':=by
 unfold fb at h;split at h
 ·cases h
 ·rename_i d hd;split at h
  ·injection h with h; injection h with h1 h2; subst h2;rw [← hd];exact lU rfl rfl _
  ·split at h
   ·rename_i hb;injection h with h; injection h with h1 h2; subst h2;refine ⟨.inr ⟨d,.lp d 0,hd,.inr ?_,fun k off h=>by cases h; exact .inr ⟨ha,rfl⟩⟩,.inr ⟨d,cs,?_,.inl ⟨ha,hd⟩⟩⟩
    ·simp only [St.put,St.wj,St.kill,hb]
    ·rw [(fV _ (some d) (.lp d 0)).1]; rfl
   ·cases h
theorem GB {f:FuncId} {c:Bool} {s':St} (h:an E f s o=some (c,s')):iN E s o s':=by
 cases ho:o.op
 case move x=>
  simp only [an,ho] at h;split at h
  all_goals (injection h with h; injection h with h1 h2; subst h2)
  ·exact lU rfl rfl _
  ·rename_i k off hx;exact lT rfl rfl fun k' fO e=>by cases e; exact ⟨x,by rw [ho]; simp [aab],_,hx⟩
  ·exact lT rfl rfl fun k' fO e=>by cases e
 case assign x=>
  simp only [an,ho] at h;split at h
  all_goals (injection h with h; injection h with h1 h2; subst h2)
  ·exact lU rfl rfl _
  ·rename_i k off hx;exact lT rfl rfl fun k' fO e=>by cases e; exact ⟨x,by rw [ho]; simp [aab],_,hx⟩
  ·exact lT rfl rfl fun k' fO e=>by cases e
 case nilCheck x=>
  simp only [an,ho] at h;split at h
  ·injection h with h; injection h with h1 h2; subst h2;exact lU rfl rfl _
  ·rename_i k off hx;injection h with h; injection h with h1 h2; subst h2;exact lT rfl rfl fun k' fO e=>by cases e; exact ⟨x,by rw [ho]; simp [aab],_,hx⟩
  ·cases h
 case fieldAddr a x j=>
  simp only [an,ho] at h;split at h
  ·rename_i p hp;injection h with h; injection h with h1 h2; subst h2;exact lT rfl rfl fun k' fO e=>by subst e; exact ⟨x,by rw [ho]; simp [aab],Ax hp⟩
  ·cases h
 case indexAddr a x y=>
  simp only [an,ho] at h;split at h
  ·rename_i c' p hp;injection h with h; injection h with h1 h2; subst h2;exact lT rfl rfl fun k' fO e=>by subst e; exact ⟨x,by rw [ho]; simp [aab],Ay hp⟩
  ·cases h
 case alloc e=>
  simp only [an,ho] at h
  repeat' (split at h)
  all_goals (first|(cases h; done) | skip)
  exact yw (by rw [ho]; rfl) h
 case box e x=>
  simp only [an,ho] at h
  repeat' (split at h)
  all_goals (first|(cases h; done) | skip)
  exact yw (by rw [ho]; rfl) h
 case store ty x y=>
  simp only [an,ho] at h;split at h
  ·rename_i hs;injection h with h; injection h with h1 h2; subst h2;exact GA (fun k off e=>⟨x,by rw [ho]; simp [aab],off,e⟩) hs
  ·cases h
 case mapUpdate ty x y z=>
  simp only [an,ho] at h;split at h
  ·rename_i hs;injection h with h; injection h with h1 h2; subst h2;exact vL hs
  ·cases h
 case insert ty x y z=>
  simp only [an,ho] at h;split at h
  ·rename_i hs;injection h with h; injection h with h1 h2; subst h2;exact vL hs
  ·cases h
 case mapEntry ty x y=>
  simp only [an,ho] at h;split at h
  ·rename_i hs;injection h with h; injection h with h1 h2; subst h2;unfold gi at hs
   repeat' (split at hs)
   all_goals (first|(cases hs; done) | skip)
   injection hs with hs; injection hs with h3 hs; injection hs with h4 h5;subst h5;exact lU rfl rfl _
  ·cases h
 case entryStore ty x y z=>
  simp only [an,ho] at h;split at h
  ·rename_i hs;injection h with h; injection h with h1 h2; subst h2;unfold eI at hs
   repeat' (split at hs)
   all_goals (first|(cases hs; done) | skip)
   injection hs with hs; injection hs with h3 h4;subst h4;exact na rfl rfl
  ·cases h
 case next x b=>
  cases b with
  |false=>simp [an,ho] at h
  |true=>
   simp only [an,ho] at h;split at h
   ·rename_i hs;injection h with h; injection h with h1 h2; subst h2;exact JG hs
   ·cases h
 case call cl=>
  obtain ⟨callee,args,tys⟩:=cl;cases callee with
  |builtin b=>
   simp only [an,ho] at h;split at h
   ·rename_i r hf;cases h;exact JH hf
   ·split at h
    ·exact Cm h
    ·cases h
  |_=>simp [an,ho] at h
 case makeFunc fo a b=>
  cases fo with
  |func g=>
   simp only [an,ho] at h
   repeat' (split at h)
   all_goals (first|(cases h; done) | skip)
   injection h with h; injection h with h1 h2; subst h2;exact lU rfl rfl _
  |_=>simp [an,ho] at h
 case makeMap ty r=>
  cases r with
  |none=>
   simp only [an,ho] at h;injection h with h; injection h with h1 h2; subst h2;exact lU rfl rfl _
  |some _=>simp [an,ho] at h
 all_goals (first
  |(simp [an,ho] at h; done)
  |(simp only [an,ho] at h; (repeat' (split at h)); (all_goals (first|(cases h; done) | skip)); (all_goals (injection h with h; injection h with h1 h2; subst h2)); (all_goals (exact lU rfl rfl _))))
def sd (s:St) (d:Nat) (cs:List AV):St:=s.ft [.put d (.lp d 0),.kill d] [(d,cs)] s.G
theorem GC {f:FuncId} {d:Tmp} {c:Bool} {s1:St} (wF:b6 o.op=true) (hd:o.dst=some d) (hg:E.BZ f d=false) (h:an E f s o=some (c,s1)) :
  c=true∧∃ cs,s1=sd s d cs∧∀ t:St,t.n=s.n→(∀ y∈o.op.operands,∀ v,bP E s.ae y=.v v→bP E t.ae y=.v v)→an E f t o=some (true,sd t d cs):=by
 have key:∀ (el:TypeId) (cs:List AV),fb E f s o.dst el cs=some (c,s1)→c=true∧s1=sd s d cs∧∀ t:St,t.n=s.n→fb E f t o.dst el cs=some (true,sd t d cs):=by
  intro el cs h;unfold fb at h;rw [hd] at h;simp only [hg,Bool.false_eq_true,if_false] at h;split at h
  ·rename_i hb;injection h with h; injection h with h1 h2; subst h1 h2;refine ⟨rfl,?_,fun t ht=>?_⟩
   ·simp only [St.put,St.wj,St.kill,hb,sd,St.ft]; rfl
   ·unfold fb;rw [hd];simp only [hg,Bool.false_eq_true,if_false,ht,hb];simp only [St.put,St.wj,St.kill,ht,hb,sd,St.ft]; rfl
  ·cases h
 cases ho:o.op
 case alloc e=>
  simp only [an,ho] at h ⊢;split at h
  ·split at h
   ·split at h
    ·rename_i hi _ _ hz Pb;obtain ⟨k1,k2,k3⟩:=key _ _ h;refine ⟨k1,_,k2,fun t ht _=>?_⟩;simp only [hi,hz,Pb,if_true];exact k3 t ht
    ·cases h
   ·cases h
  ·cases h
 case box e x=>
  simp only [an,ho] at h ⊢;split at h
  ·split at h
   ·rename_i v hv Pb;obtain ⟨k1,k2,k3⟩:=key _ _ h;refine ⟨k1,_,k2,fun t ht he=>?_⟩;simp only [he x (by simp [aab]) v hv,Pb,if_true];exact k3 t ht
   ·cases h
  ·cases h
 all_goals (rw [ho] at wF; simp [b6] at wF)
theorem Ia {pre:bj} {preB:cV} {G:List GO} (h:iN E s o (s.ft pre preB G)) :
  (pre=[]∨∃ d x,o.dst=some d∧(pre=[.put d x]∨pre=[.put d x,.kill d])∧∀ k off,x=.lp k off→(∃ y∈o.op.operands,∃ fO,bP E s.ae y=.lp k fO)∨(b6 o.op=true∧k=d)) ∧
  (preB=[]∨∃ k cs,preB=[(k,cs)]∧((b6 o.op=true∧o.dst=some k)∨∃ y∈o.op.operands,∃ off,bP E s.ae y=.lp k off)):=by
 obtain ⟨h1,h2⟩:=h;refine ⟨?_,?_⟩
 ·rcases h1 with h1|⟨d,x,hd,h1,hx⟩
  ·exact .inl (by simpa [St.ft] using h1)
  ·refine .inr ⟨d,x,hd,?_,hx⟩;rcases h1 with h1|h1
   ·left;have h1:pre++s.ae=[.put d x]++s.ae:=h1;exact aaf h1
   ·right;have h1:pre++s.ae=[.put d x,.kill d]++s.ae:=h1;exact aaf h1
 ·rcases h2 with h2|⟨k,cs,h2,hx⟩
  ·exact .inl (by simpa [St.ft] using h2)
  ·refine .inr ⟨k,cs,?_,hx⟩;have h2:preB++s.boxes=[(k,cs)]++s.boxes:=h2;exact aaf h2
theorem jD (d e:Nat) (l:bj):lk (.kill d :: l) e=(match lk l e with | .lp k off=>bif aap k d then .none else .lp k off | x=>x):=rfl
theorem yx {d e:Nat} {l:bj} (h:∀ off,lk l e≠.lp d off):lk (.kill d :: l) e=lk l e:=by
 rw [jD];split
 ·rename_i k off hk;cases hb:aap k d with
  |true=>exact absurd (by rw [hk,aao hb]) (h off)
  |false=>rw [hk]; rfl
 ·rfl
theorem JI {d:Nat} {pre:bj} {preB:cV} {G:List GO} (cs:List AV) (PS:iN E s o (s.ft pre preB G)) (cS:o.dst≠some d) (JJ:∀ y∈o.op.operands,∀ off,bP E s.ae y≠.lp d off) :
  qI ((sd s d cs).ft pre preB G) (sd (s.ft pre preB G) d cs):=by
 obtain ⟨h1,h2⟩:=Ia PS;refine ⟨funext fun e=>?_,funext fun k=>?_,rfl,rfl,rfl,rfl⟩
 ·show lk (pre++([.put d (.lp d 0),.kill d]++s.ae)) e=lk ([.put d (.lp d 0),.kill d]++(pre++s.ae)) e;rcases h1 with rfl|⟨d',x,hd,hp,hx⟩
  ·rfl
  ·have hdd:d'≠d:=fun c=>cS (by rw [hd,c])
   have oW:∀ off,x≠.lp d off:=fun off c=>by
    rcases hx d off c with ⟨y,hy,fO,ho⟩|⟨_,h⟩
    ·exact JJ y hy fO ho
    ·exact hdd h.symm
   by_cases c1:d=e
   ·subst c1;rcases hp with rfl|rfl
    ·simp only [aac,aad];rw [aS hdd,aA,aA]
    ·simp only [aac,aad];rw [aS hdd,aA,yx (fun off=>by rw [aA]; intro c; cases c; exact hdd rfl),aA]
   ·simp only [aac,aad];rw [aS c1];by_cases c2:d'=e
    ·subst c2;rcases hp with rfl|rfl
     ·simp only [aac,aad];rw [aA,yx (fun off=>by rw [aA]; exact oW off),aA]
     ·simp only [aac,aad];rw [aA,yx (fun off=>by rw [aA]; exact oW off),aA]
    ·rcases hp with rfl|rfl
     ·simp only [aac,aad];rw [aS c2,aS c1,jD,jD,aS c2]
     ·simp only [aac,aad];rw [aS c2,jD,aS c1,jD,jD,aS c2,jD];cases lk s.ae e with
      |lp k off=>cases hb:aap k d <;> cases KM:aap k d' <;> simp [hb,KM]
      |_=>rfl
 ·show dA (preB++([(d,cs)]++s.boxes)) k=dA ([(d,cs)]++(preB++s.boxes)) k;rcases h2 with rfl|⟨k',cs',rfl,hk⟩
  ·rfl
  ·have Pc:k'≠d:=fun c=>by
    subst c;rcases hk with ⟨_,hk⟩|⟨y,hy,off,ho⟩
    ·exact cS hk
    ·exact JJ y hy off ho
   simp only [aac,aad,dA];cases hb:aap k' k with
   |true=>
    have:aap d k=false:=by
     cases KM:aap d k with
     |true=>exact absurd ((aao hb).trans (aao KM).symm) Pc
     |false=>rfl
    rw [this]; rfl
   |false=>rfl
end
section
variable {E:Env} {s t:St} {f:FuncId} {o:Oper} {K K':St→Prop}
theorem GD (hn:s.n=t.n) (hG:s.G=t.G) (hB:∀ k off,(∃ y∈o.op.operands,bP E s.ae y=.lp k off)→dA s.boxes k=dA t.boxes k) (eM:∀ y∈o.op.operands,bP E s.ae y=bP E t.ae y) (h:ke E f o K s)
  (hK:∀ pre preB G,iN E t o (t.ft pre preB G)→K (s.ft pre preB G)→K' (t.ft pre preB G)):ke E f o K' t:=by
 unfold ke at h ⊢;split at h
 ·rename_i x args tys ho;have h1:bP E s.ae x=bP E t.ae x:=eM x (by rw [ho]; simp [aab,aag]);have h2:nL E s.ae args.toList=nL E t.ae args.toList:=iA fun y hy=>eM y (by rw [ho]; simp [aab,aag]; exact .inr (by simpa using hy))
  try simp only [ho]
  rw [← h1,← h2,← hG];split at h
  ·refine cG.mono h fun r G' hk=>?_
   obtain ⟨pre,preB,G,p1,p2,p3,p4⟩:=bZ.dJ (s:=s) (t:=t) (al:=b6 o.op) hn G' o.dst (.v r);rw [p3] at hk;have hO:iN E t o ((t.cH G').put o.dst (.v r)):=lU rfl rfl _;rw [p4] at hO ⊢;exact hK pre preB G hO hk
  ·refine kH.mono h fun r G' hk=>?_
   obtain ⟨pre,preB,G,p1,p2,p3,p4⟩:=bZ.dJ (s:=s) (t:=t) (al:=b6 o.op) hn G' o.dst (.v (.bool r));rw [p3] at hk;have hO:iN E t o ((t.cH G').put o.dst (.v (.bool r))):=lU rfl rfl _;rw [p4] at hO ⊢;exact hK pre preB G hO hk
  ·exact h.elim
 ·exact h.elim
 ·split at h
  ·rename_i c s' hs;obtain ⟨t',h1,pre,preB,G,p1,p2,p3,p4⟩:=tu hn hG hB eM hs;have hO:=GB h1;rw [h1];obtain ⟨rfl,hk⟩:=h.out;refine dG.mk rfl ?_;rw [p3] at hk;rw [p4] at hO ⊢;exact hK pre preB G hO hk
  ·exact h.elim
theorem Ib (ha:b6 o.op=true):ke E f o K s↔∃ s',an E f s o=some (true,s')∧K s':=by
 unfold ke;split
 ·rename_i h;rw [h] at ha;simp [b6] at ha
 ·rename_i h;rw [h] at ha;simp [b6] at ha
 ·split
  ·rename_i c s' hs;constructor
   ·intro h;obtain ⟨rfl,hk⟩:=h.out;exact ⟨s',hs,hk⟩
   ·rintro ⟨DA,h1,h2⟩;rw [hs] at h1;cases h1;exact dG.mk rfl h2
  ·rename_i hs;constructor
   ·exact fun h=>h.elim
   ·rintro ⟨DA,h1,_⟩;rw [hs] at h1;cases h1
end
end Go.Am
