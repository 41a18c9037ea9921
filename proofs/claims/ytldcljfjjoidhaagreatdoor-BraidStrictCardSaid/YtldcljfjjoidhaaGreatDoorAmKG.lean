/- The abstract machine: what an operation does to a state is the same in a state that agrees with it. -/
import Derived.Test.YtldcljfjjoidhaaGreatDoorAmKF
import Derived.OrdersIn
set_option linter.all false
open Array renaming mem_append→aaM
open Go.Call renaming operands→aaC
open Go.Op renaming operands→aaa
open List renaming cons_append→aab, nil_append→aac, append_cancel_right→aaB, mem_toArray→aaH, mem_map→aaY
open Nat renaming blt→aax, eq_of_beq_eq_true→aaR, beq→aaX
namespace Go.Am
open Go
def St.fw (s:St) (pre:bh) (preB:cO) (G:List GO):St:=⟨pre++s.ae,preB++s.boxes,G,s.marks,s.ro,s.n⟩
def X6 (al:Bool) (dst:Option Tmp) (pre:bh):Prop:=
 pre=[]∨∃ d x,dst=some d∧(pre=[.put d x]∨(al=true∧pre=[.put d x,.kill d]))
def bW (al w:Bool) (dst:Option Tmp) (s t s' t':St):Prop:=
 ∃ pre preB G,X6 al dst pre∧(w=false→preB=[]∧G=s.G∧∃ x,s'=s.put dst x∧t'=t.put dst x)∧s'=s.fw pre preB G∧t'=t.fw pre preB G
section
variable {E:Env} {s t:St} {o:Oper}
theorem lK (s:St) (d:Tmp) (x:SV):s.put (some d) x=bif aax d s.n then s.fw [.put d x] [] s.G else s:=by
 cases h:aax d s.n <;> simp [St.put,h,St.fw]
theorem bW.put {al w:Bool} (hn:s.n=t.n) (hG:s.G=t.G) (dst:Option Tmp) (x:SV):bW al w dst s t (s.put dst x) (t.put dst x):=by
 cases dst with
 |none=>exact ⟨[],[],s.G,.inl rfl,fun _=>⟨rfl,rfl,x,rfl,rfl⟩,rfl,by rw [hG]; rfl⟩
 |some d=>
  have hx:∃ y,s.put (some d) x=s.put (some d) y∧t.put (some d) x=t.put (some d) y:=⟨x,rfl,rfl⟩;revert hx;generalize hs:s.put (some d) x=s';generalize ht:t.put (some d) x=t';intro hx;rw [lK] at hs ht;rw [← hn] at ht;revert hs ht;cases aax d s.n with
  |true=>exact fun hs ht=>⟨[.put d x],[],s.G,.inr ⟨d,x,rfl,.inl rfl⟩,fun _=>⟨rfl,rfl,hx⟩,hs.symm,by rw [hG]; exact ht.symm⟩
  |false=>exact fun hs ht=>⟨[],[],s.G,.inl rfl,fun _=>⟨rfl,rfl,hx⟩,hs.symm,by rw [hG]; exact ht.symm⟩
theorem bW.dH {al:Bool} (hn:s.n=t.n) (G:List GO) (dst:Option Tmp) (x:SV):bW al true dst s t ((s.cD G).put dst x) ((t.cD G).put dst x):=by
 cases dst with
 |none=>exact ⟨[],[],G,.inl rfl,fun h=>(by cases h),rfl,rfl⟩
 |some d=>
  rw [lK,lK,show (t.cD G).n=(s.cD G).n from hn.symm];cases aax d (s.cD G).n with
  |true=>exact ⟨[.put d x],[],G,.inr ⟨d,x,rfl,.inl rfl⟩,fun h=>(by cases h),rfl,rfl⟩
  |false=>exact ⟨[],[],G,.inl rfl,fun h=>(by cases h),rfl,rfl⟩
theorem bW.cD {al:Bool} (G:List GO) (dst:Option Tmp):bW al true dst s t (s.cD G) (t.cD G):=⟨[],[],G,.inl rfl,fun h=>(by cases h),rfl,rfl⟩
theorem bW.vV {al:Bool} (hG:s.G=t.G) (dst:Option Tmp) (d:Nat) (cs:List AV):bW al true dst s t (s.vV d cs) (t.vV d cs):=
 ⟨[],[(d,cs)],s.G,.inl rfl,fun h=>(by cases h),rfl,(by rw [hG]; rfl)⟩
theorem ir {a b:bh}:∀ {l:List Operand},(∀ y∈l,bJ E a y=bJ E b y)→nE E a l=nE E b l
 |[],_=>rfl
 |x :: l,h=>by
  simp only [nE];rw [h x (by simp),ir (l:=l) (fun y hy=>h y (by simp [hy]))]
theorem mS {a b:bh}:∀ {l:List (Nat × Operand)},(∀ p∈l,bJ E a p.2=bJ E b p.2)→OQ E a l=OQ E b l
 |[],_=>rfl
 |(i,x) :: l,h=>by
  simp only [OQ];rw [h (i,x) (by simp),mS (l:=l) (fun y hy=>h y (by simp [hy]))]
theorem Av (hG:s.G=t.G) (p:SV) (hB:∀ k off,p=.lp k off→dy s.boxes k=dy t.boxes k):nD s p=nD t p:=by
 unfold nD;rw [hG];cases p with
 |lp k off=>simp only [hB k off rfl]
 |v a=>cases a <;> rfl
 |_=>rfl
theorem DF (hG:s.G=t.G) (ty:TypeId) (p:SV) (hB:∀ k off,p=.lp k off→dy s.boxes k=dy t.boxes k):sD E s ty p=sD E t ty p:=by
 unfold sD;rw [Av hG p hB]
theorem vu (hG:s.G=t.G) (id f i sz:Nat) (ty:TypeId):xj E s id f i sz ty=xj E t id f i sz ty:=by
 unfold xj;rw [hG]
theorem DG (hG:s.G=t.G) (ty:TypeId) (p:SV) (hB:∀ k off,p=.lp k off→dy s.boxes k=dy t.boxes k):AR E s ty p=AR E t ty p:=by
 unfold AR;split
 ·rw [vu hG]
 ·rw [DF hG _ _ hB]
theorem DH (hG:s.G=t.G) (esz:Nat) (d x:AV):sE s esz d x=sE t esz d x:=by
 unfold sE;rw [hG]
theorem vv {f:FuncId} {dst:Option Tmp} {el:TypeId} {cs:List AV} {c:Bool} {s':St} (hn:s.n=t.n) (hG:s.G=t.G) (h:fb E f s dst el cs=some (c,s')) :
  ∃ t',fb E f t dst el cs=some (c,t')∧bW true true dst s t s' t':=by
 unfold fb at *;cases dst with
 |none=>cases h
 |some d=>
  simp only at *;split at h
  ·rename_i hg;injection h with h;injection h with h1 h2;subst h1 h2;rw [if_pos hg];refine ⟨_,rfl,?_⟩;have:=bW.dH (al:=true) hn (s.G++[.row cs el]) (some d) (.v (.ptr s.G.length 0));rw [hG] at this;have e:s.dQ (.row cs el)=s.cD (t.G++[.row cs el]):=by rw [← hG]; rfl
   rw [e,hG];exact this
  ·rename_i hg;rw [if_neg hg,← hn];split at h
   ·rename_i hb;injection h with h;injection h with h1 h2;subst h1 h2;refine ⟨_,rfl,[.put d (.lp d 0),.kill d],[(d,cs)],s.G,.inr ⟨d,_,rfl,.inr ⟨rfl,rfl⟩⟩,fun h=>(by cases h),?_,?_⟩
    ·simp [St.put,St.vV,St.kill,hb,St.fw]
    ·simp only [St.put,St.vV,St.kill,← hn,hb,St.fw,hG];rfl
   ·cases h
theorem DI {ty:TypeId} {p x:SV} {s':St} {al:Bool} {dst:Option Tmp} (hG:s.G=t.G) (hB:∀ k off,p=.lp k off→dy s.boxes k=dy t.boxes k) (h:jN E s ty p x=some s') :
  ∃ t',jN E t ty p x=some t'∧bW al true dst s t s' t':=by
 unfold jN at *;split at h
 ·split at h
  ·rename_i hc;rw [if_pos hc];split at h
   ·rw [← hB _ _ rfl];split at h
    ·split at h
     ·rename_i Pu;cases h;simp only [Pu,if_true];exact ⟨_,rfl,.vV hG _ _ _⟩
     ·cases h
    ·cases h
   ·rw [← hG];split at h
    ·split at h
     ·rename_i Pu;cases h;simp only [Pu,if_true];exact ⟨_,rfl,.cD _ _⟩
     ·cases h
    ·cases h
   ·cases h
  ·cases h
 ·cases h
theorem DJ {ty:TypeId} {p x:SV} {c:Bool} {s':St} {al:Bool} {dst:Option Tmp} (hG:s.G=t.G) (hB:∀ k off,p=.lp k off→dy s.boxes k=dy t.boxes k) (h:jO E s ty p x=some (c,s')) :
  ∃ t',jO E t ty p x=some (c,t')∧bW al true dst s t s' t':=by
 unfold jO at *;split at h
 ·rw [← hG];split at h
  ·split at h
   ·rename_i h1 h2 hc;simp only [hc,if_true];split at h
    ·rename_i Pu;injection h with h; injection h with e1 e2;subst e1; subst e2;simp only [Pu,if_true];exact ⟨_,rfl,.cD _ _⟩
    ·rename_i Pu;rw [if_neg Pu,← vu hG];split at h
     ·rename_i hg;split at h
      ·rename_i hc3;injection h with h; injection h with e1 e2;subst e1; subst e2;simp only [hc3,if_true];exact ⟨_,rfl,.cD _ _⟩
      ·cases h
     ·cases h
   ·cases h
  ·cases h
 ·split at h
  ·rename_i s1 hs;injection h with h; injection h with e1 e2;subst e1; subst e2;obtain ⟨t',h3,h4⟩:=DI (al:=al) (dst:=dst) hG hB hs;simp only [h3];exact ⟨_,rfl,h4⟩
  ·cases h
def bX:Op→Bool
 |.alloc _=>true
 |.box _ _=>true
 |_=>false
def tT:Op→Bool
 |.move _ | .assign _ | .pick _ _ _ | .build _ _ | .buildSlice _ _ _ | .load _ _ | .binOp _ _ _ _ _ | .unOp _ _ _ | .convert _ _ _ | .makeFunc _ _ _ | .fieldAddr _ _ _ | .field _ _ _
 |.indexAddr _ _ _ | .index _ _ _ | .slice _ _ _ _ _ | .extract _ _ | .lookup _ _ _ _ | .nilCheck _=>true
 |.call { callee:=.builtin .len,.. }=>true
 |.call { callee:=.builtin .max,.. }=>true
 |.call { callee:=.builtin .min,.. }=>true
 |_=>false
def Vh:Op→Bool
 |.load _ _=>true
 |.lookup _ _ _ _=>true
 |.call _=>true
 |.convert _ _ _=>true
 |_=>false
def Pv:Builtin→Bool
 |.append | .copy | .clear=>true
 |_=>false
theorem Aw {dst:Option Tmp} {b:Builtin} {l:List AV} {tys:List TypeId} {c:Bool} {s':St} {al:Bool} (hn:s.n=t.n) (hG:s.G=t.G) (h:bT E s dst b l tys=some (c,s')) :
  ∃ t',bT E t dst b l tys=some (c,t')∧bW al (Pv b) dst s t s' t':=by
 obtain ⟨sl,bx,G,m,ro,n⟩:=s;obtain ⟨X7,KF,G',m',mI,n'⟩:=t;have hc:=fun esz d x=>DH (s:=⟨sl,bx,G,m,ro,n⟩) (t:=⟨X7,KF,G',m',mI,n'⟩) hG esz d x
 simp only at hn hG;subst hn hG;unfold bT at h ⊢;simp only [← hc];cases b
 all_goals (try (cases h; done))
 all_goals (try simp only at h ⊢)
 all_goals (try (split at h <;> first | (cases h; done) | simp only at h ⊢))
 all_goals (repeat' (split at h))
 all_goals (first|(cases h; done) | skip)
 all_goals (injection h with h; injection h with h1 h2; subst h1 h2)
 all_goals (try simp only [if_true, *])
 all_goals (first|exact ⟨_,rfl,.put (by rfl) (by rfl) _ _⟩ | exact ⟨_,rfl,.dH (by rfl) _ _ _⟩ | exact ⟨_,rfl,.cD _ _⟩)
theorem xY (hG:s.G=t.G) (a b:TypeId) (x:SV):mG E s a b x=mG E t a b x:=by
 unfold mG;rw [hG]
theorem Ax (hG:s.G=t.G) (ty:TypeId) (m k:SV):lE E s ty m k=lE E t ty m k:=by
 have:mapOf s=mapOf t:=by funext m; unfold mapOf; rw [hG]
 unfold lE mE;rw [this,hG]
theorem s8 {ty:TypeId} {m k x:SV} {s':St} {al:Bool} {dst:Option Tmp} (hG:s.G=t.G) (h:fc E s ty m k x=some s') :
  ∃ t',fc E t ty m k x=some t'∧bW al true dst s t s' t':=by
 unfold fc at *;rw [← hG]
 repeat' (split at h)
 all_goals (first|(cases h; done) | skip)
 cases h;simp only [*];exact ⟨_,rfl,.cD _ _⟩
theorem Gc {dst:Option Tmp} {x:SV} {s':St} {al:Bool} (hn:s.n=t.n) (hG:s.G=t.G) (h:lF s dst x=some s') :
  ∃ t',lF t dst x=some t'∧bW al true dst s t s' t':=by
 unfold lF at *;rw [← hG];split at h
 ·split at h
  ·rename_i l pos hg;cases hb:aax pos l.length with
   |true=>
    rw [hb] at h;simp only [cond_true] at h ⊢;cases h;exact ⟨_,rfl,.dH hn _ _ _⟩
   |false=>
    rw [hb] at h;simp only [cond_false] at h ⊢;cases h;obtain ⟨pre,preB,G,p1,p2,p3⟩:=bW.put (al:=al) (w:=true) hn hG dst (.v (.bk [.bool false]));exact ⟨_,rfl,pre,preB,G,p1,p2,p3⟩
  ·cases h
 ·cases h
theorem s9 {f:FuncId} {r:Bool × St} (h:ij E f s o=some r):∃ args tys,o.op=.call { callee:=.builtin .append,args:=args,argTypes:=tys }:=by
 unfold ij at h;cases h
theorem Gd {f:FuncId} {c:Bool} {s':St} {al:Bool} (hn:s.n=t.n) (hG:s.G=t.G) (eI:∀ y∈o.op.operands,bJ E s.ae y=bJ E t.ae y)
  (h:ij E f s o=some (c,s')):∃ t',ij E f t o=some (c,t')∧bW al true o.dst s t s' t':=by
 unfold ij at h;cases h
theorem wo {f:FuncId} (hn:s.n=t.n) (hG:s.G=t.G) (eI:∀ y∈o.op.operands,bJ E s.ae y=bJ E t.ae y) (h:ij E f s o=none):ij E f t o=none:=rfl
theorem tc {f:FuncId} {c:Bool} {s':St} (hn:s.n=t.n) (hG:s.G=t.G) (hB:∀ k off,(∃ y∈o.op.operands,bJ E s.ae y=.lp k off)→dy s.boxes k=dy t.boxes k) (eI:∀ y∈o.op.operands,bJ E s.ae y=bJ E t.ae y)
  (h:an E f s o=some (c,s')):∃ t',an E f t o=some (c,t')∧bW (bX o.op) (!tT o.op) o.dst s t s' t':=by
 obtain ⟨dst,op,ty,pos,after,guard⟩:=o;cases op
 case move x=>
  simp only [an,eI x (by simp [aaa])] at h ⊢;split at h
  all_goals (injection h with h; injection h with h1 h2; subst h1 h2; (try simp only [*]); exact ⟨_,rfl,.put hn hG _ _⟩)
 case assign x=>
  simp only [an,eI x (by simp [aaa])] at h ⊢;split at h
  all_goals (injection h with h; injection h with h1 h2; subst h1 h2; (try simp only [*]); exact ⟨_,rfl,.put hn hG _ _⟩)
 case pick x y z=>
  simp only [an,eI x (by simp [aaa]),eI y (by simp [aaa]),eI z (by simp [aaa])] at h ⊢;split at h
  ·injection h with h; injection h with h1 h2; subst h1 h2; (try simp only [*]); exact ⟨_,rfl,.put hn hG _ _⟩
  ·cases h
 case alloc e=>
  simp only [an] at h ⊢
  repeat' (split at h)
  all_goals (first|(cases h; done) | skip)
  simp only [*];exact vv hn hG h
 case box e x=>
  simp only [an,eI x (by simp [aaa])] at h ⊢
  repeat' (split at h)
  all_goals (first|(cases h; done) | skip)
  simp only [*];exact vv hn hG h
 case build ty ps=>
  have he:nF E s ty ps.toList=nF E t ty ps.toList:=by
   unfold nF;rw [mS (fun p hp=>eI p.2 (by simp only [aaa,aaH,aaY]; exact ⟨p,hp,rfl⟩))]
  simp only [an,he] at h ⊢;split at h
  ·injection h with h; injection h with h1 h2; subst h1 h2; (try simp only [*]); exact ⟨_,rfl,.put hn hG _ _⟩
  ·cases h
 case buildSlice ty len ps=>
  have he:cg E s ty len ps.toList=cg E t ty len ps.toList:=by
   unfold cg;rw [mS (fun p hp=>eI p.2 (by simp only [aaa,aaH,aaY]; exact ⟨p,hp,rfl⟩))]
  simp only [an,he] at h ⊢;split at h
  ·injection h with h; injection h with h1 h2; subst h1 h2; (try simp only [*]); exact ⟨_,rfl,.put hn hG _ _⟩
  ·cases h
 case load ty x=>
  simp only [an,eI x (by simp [aaa])] at h ⊢;rw [DG hG ty _ (fun k off e=>hB k off ⟨x,by simp [aaa],by rw [eI x (by simp [aaa])]; exact e⟩)] at h;split at h
  ·injection h with h; injection h with h1 h2; subst h1 h2; (try simp only [*]); exact ⟨_,rfl,.put hn hG _ _⟩
  ·cases h
 case store ty x y=>
  simp only [an,eI x (by simp [aaa]),eI y (by simp [aaa])] at h ⊢;split at h
  ·rename_i s1 hs;injection h with h; injection h with h1 h2; subst h1 h2;obtain ⟨t',h3,h4⟩:=DJ (al:=false) (dst:=none) hG (fun k off e=>hB k off ⟨x,by simp [aaa],by rw [eI x (by simp [aaa])]; exact e⟩) hs;rw [h3];exact ⟨_,rfl,h4⟩
  ·cases h
 case binOp op a x y b=>
  simp only [an,eI x (by simp [aaa]),eI y (by simp [aaa])] at h ⊢
  repeat' (split at h)
  all_goals (first|(cases h; done) | skip)
  all_goals (injection h with h; injection h with h1 h2; subst h1 h2; (try simp only [*]); exact ⟨_,rfl,.put hn hG _ _⟩)
 case unOp op a x=>
  simp only [an,eI x (by simp [aaa])] at h ⊢
  repeat' (split at h)
  all_goals (first|(cases h; done) | skip)
  all_goals (injection h with h; injection h with h1 h2; subst h1 h2; (try simp only [*]); exact ⟨_,rfl,.put hn hG _ _⟩)
 case nilCheck x=>
  simp only [an,eI x (by simp [aaa])] at h ⊢
  repeat' (split at h)
  all_goals (first|(cases h; done) | skip)
  all_goals (injection h with h; injection h with h1 h2; subst h1 h2; (try simp only [*]); exact ⟨_,rfl,.put hn hG _ _⟩)
 case convert a b x=>
  simp only [an,eI x (by simp [aaa]),xY hG] at h ⊢
  repeat' (split at h)
  all_goals (first|(cases h; done) | skip)
  all_goals (injection h with h; injection h with h1 h2; subst h1 h2; (try simp only [*]); exact ⟨_,rfl,.put hn hG _ _⟩)
 case makeFunc fo a b=>
  cases fo with
  |func g=>
   have h1:nE E s.ae a.toList=nE E t.ae a.toList:=ir fun y hy=>eI y (by simp only [aaa,aaM]; exact .inl (by simpa using hy))
   have h2:nE E s.ae b.toList=nE E t.ae b.toList:=ir fun y hy=>eI y (by simp only [aaa,aaM]; exact .inr (by simpa using hy))
   simp only [an,h1,h2] at h ⊢
   repeat' (split at h)
   all_goals (first|(cases h; done) | skip)
   all_goals (injection h with h; injection h with h1 h2; subst h1 h2; (try simp only [*]); exact ⟨_,rfl,.put hn hG _ _⟩)
  |_=>simp [an] at h
 case fieldAddr a x j=>
  simp only [an,eI x (by simp [aaa])] at h ⊢
  repeat' (split at h)
  all_goals (first|(cases h; done) | skip)
  all_goals (injection h with h; injection h with h1 h2; subst h1 h2; (try simp only [*]); exact ⟨_,rfl,.put hn hG _ _⟩)
 case field a x j=>
  simp only [an,eI x (by simp [aaa])] at h ⊢
  repeat' (split at h)
  all_goals (first|(cases h; done) | skip)
  all_goals (injection h with h; injection h with h1 h2; subst h1 h2; (try simp only [*]); exact ⟨_,rfl,.put hn hG _ _⟩)
 case indexAddr a x y=>
  simp only [an,eI x (by simp [aaa]),eI y (by simp [aaa])] at h ⊢
  repeat' (split at h)
  all_goals (first|(cases h; done) | skip)
  all_goals (injection h with h; injection h with h1 h2; subst h1 h2; (try simp only [*]); exact ⟨_,rfl,.put hn hG _ _⟩)
 case index a x y=>
  simp only [an,eI x (by simp [aaa]),eI y (by simp [aaa])] at h ⊢
  repeat' (split at h)
  all_goals (first|(cases h; done) | skip)
  all_goals (injection h with h; injection h with h1 h2; subst h1 h2; (try simp only [*]); exact ⟨_,rfl,.put hn hG _ _⟩)
 case slice a x lo hi mx=>
  have h1:nG E s.ae lo=nG E t.ae lo:=by
   cases lo with
   |none=>rfl
   |some y=>simp only [nG]; rw [eI y (by simp [aaa])]
  have h2:nG E s.ae hi=nG E t.ae hi:=by
   cases hi with
   |none=>rfl
   |some y=>simp only [nG]; rw [eI y (by simp [aaa])]
  simp only [an,eI x (by simp [aaa]),h1,h2] at h ⊢
  repeat' (split at h)
  all_goals (first|(cases h; done) | skip)
  all_goals (injection h with h; injection h with h1 h2; subst h1 h2; (try simp only [*]); exact ⟨_,rfl,.put hn hG _ _⟩)
 case extract x i=>
  simp only [an,eI x (by simp [aaa])] at h ⊢
  repeat' (split at h)
  all_goals (first|(cases h; done) | skip)
  all_goals (injection h with h; injection h with h1 h2; subst h1 h2; (try simp only [*]); exact ⟨_,rfl,.put hn hG _ _⟩)
 case makeSlice ty x y=>
  simp only [an,eI x (by simp [aaa]),eI y (by simp [aaa])] at h ⊢
  repeat' (split at h)
  all_goals (first|(cases h; done) | skip)
  all_goals (injection h with h; injection h with h1 h2; subst h1 h2)
  all_goals (simp only [*])
  all_goals (refine ⟨_,rfl,?_⟩)
  all_goals (have e:∀ o,t.dQ o=t.cD (s.G++[o]):=fun o=>by rw [hG]; rfl)
  all_goals (rw [e,← hG])
  all_goals (exact bW.dH (al:=false) hn _ dst _)
 case lookup ty x y ok=>
  simp only [an,eI x (by simp [aaa]),eI y (by simp [aaa]),Ax hG] at h ⊢;split at h
  ·injection h with h; injection h with h1 h2; subst h1 h2; (try simp only [*]); exact ⟨_,rfl,.put hn hG _ _⟩
  ·cases h
 case mapUpdate ty x y z=>
  simp only [an,eI x (by simp [aaa]),eI y (by simp [aaa]),eI z (by simp [aaa])] at h ⊢;split at h
  ·rename_i s1 hs;injection h with h; injection h with h1 h2; subst h1 h2;obtain ⟨t',h3,h4⟩:=s8 (al:=false) (dst:=none) hG hs;rw [h3];exact ⟨_,rfl,h4⟩
  ·cases h
 case insert ty x y z=>
  simp only [an,eI x (by simp [aaa]),eI y (by simp [aaa]),eI z (by simp [aaa])] at h ⊢;split at h
  ·rename_i s1 hs;injection h with h; injection h with h1 h2; subst h1 h2;obtain ⟨t',h3,h4⟩:=s8 (al:=false) (dst:=none) hG hs;rw [h3];exact ⟨_,rfl,h4⟩
  ·cases h
 case entry x=>
  simp only [an,eI x (by simp [aaa])] at h ⊢;have e:ub E s (bJ E t.ae x)=ub E t (bJ E t.ae x):=by unfold ub; rw [hG]
  rw [e] at h;split at h
  ·injection h with h; injection h with h1 h2; subst h1 h2; (try simp only [*]); exact ⟨_,rfl,.put hn hG _ _⟩
  ·cases h
 case mapEntry ty x y=>
  simp only [an,eI x (by simp [aaa]),eI y (by simp [aaa])] at h ⊢;unfold gk at h ⊢;rw [← hG]
  repeat' (split at h)
  all_goals (first|(cases h; done) | skip)
  rename_i lG
  repeat' (split at lG)
  all_goals (first|(cases lG; done) | skip)
  injection lG with lG; injection lG with h3 lG; injection lG with h4 h5;injection h with h; injection h with h1 h2; subst h1 h2 h3 h4 h5;simp only [*,if_true];exact ⟨_,rfl,bW.dH (al:=false) hn _ dst _⟩
 case entryStore ty x y z=>
  simp only [an,eI x (by simp [aaa]),eI y (by simp [aaa]),eI z (by simp [aaa])] at h ⊢;unfold eC at h ⊢;rw [← hG]
  repeat' (split at h)
  all_goals (first|(cases h; done) | skip)
  rename_i lG
  repeat' (split at lG)
  all_goals (first|(cases lG; done) | skip)
  injection lG with lG; injection lG with h3 h5;injection h with h; injection h with h1 h2; subst h1 h2 h3 h5;simp only [*];exact ⟨_,rfl,.cD _ _⟩
 case range ty x=>
  simp only [an,eI x (by simp [aaa])] at h ⊢
  repeat' (split at h)
  all_goals (first|(cases h; done) | skip)
  ·injection h with h; injection h with h1 h2; subst h1 h2
   (try simp only [*])
   refine ⟨_,rfl,?_⟩;have e:∀ o,t.dQ o=t.cD (s.G++[o]):=fun o=>by rw [hG]; rfl
   rw [e,← hG];exact bW.dH (al:=false) hn _ dst _
  ·rename_i hk hg;injection h with h; injection h with h1 h2; subst h1 h2;have rI:=hg;rw [hG] at rI;simp only [hk,rI];refine ⟨_,rfl,?_⟩;have e:∀ o,t.dQ o=t.cD (s.G++[o]):=fun o=>by rw [hG]; rfl
   rw [e,← hG];exact bW.dH (al:=false) hn _ dst _
 case next x b=>
  cases b with
  |false=>simp [an] at h
  |true=>
   simp only [an,eI x (by simp [aaa])] at h ⊢;split at h
   ·rename_i s1 hs;injection h with h; injection h with h1 h2; subst h1 h2;obtain ⟨t',h3,h4⟩:=Gc (al:=false) hn hG hs;rw [h3];exact ⟨_,rfl,h4⟩
   ·cases h
 case makeMap ty r=>
  cases r with
  |none=>
   simp only [an] at h ⊢;injection h with h; injection h with h1 h2; subst h1 h2;refine ⟨_,rfl,?_⟩;have:=bW.dH (al:=false) hn (s.G++[.map []]) dst (.v (.map s.G.length));have e:∀ o,t.dQ o=t.cD (s.G++[o]):=fun o=>by rw [hG]; rfl
   rw [e,← hG];exact this
  |some _=>simp [an] at h
 case call cl=>
  obtain ⟨callee,args,tys⟩:=cl;cases callee with
  |builtin b=>
   have h1:nE E s.ae args.toList=nE E t.ae args.toList:=ir fun y hy=>eI y (by simp [aaa,aaC]; simpa using hy)
   cases hf:ij E f s { dst:=dst,op:=.call { callee:=.builtin b,args:=args,argTypes:=tys },type:=ty,pos:=pos,after:=after,guard:=guard } with
   |some r=>
    simp only [an,hf] at h;obtain ⟨t',q1,q2⟩:=Gd (al:=bX (.call { callee:=.builtin b,args:=args,argTypes:=tys })) hn hG eI (c:=r.1) (s':=r.2) hf;cases h;obtain ⟨a2,t2,ho⟩:=s9 hf;cases ho;refine ⟨t',by simp only [an,q1],?_⟩;exact q2
   |none=>
   have hf':=wo hn hG eI hf;simp only [an,hf,hf',h1] at h ⊢;split at h
   ·(try simp only [*])
    obtain ⟨t',h3,h4⟩:=Aw (al:=false) hn hG h;refine ⟨t',h3,?_⟩;have:(!tT (.call { callee:=.builtin b,args:=args,argTypes:=tys }))=Pv b∨Pv b=false:=by cases b <;> simp [tT,Pv]
    rcases this with this|this
    ·rw [this]; exact h4
    ·obtain ⟨pre,preB,G,p1,p2,p3⟩:=h4;exact ⟨pre,preB,G,p1,fun _=>p2 this,p3⟩
   ·cases h
  |_=>simp [an] at h
 all_goals (simp [an] at h)
theorem iu {f:FuncId} {c:Bool} {s':St} (hn:s.n=t.n) (hG:s.G=t.G) (hB:dy s.boxes=dy t.boxes) (eI:∀ y∈o.op.operands,bJ E s.ae y=bJ E t.ae y)
  (h:an E f s o=some (c,s')):∃ t',an E f t o=some (c,t')∧bW (bX o.op) (!tT o.op) o.dst s t s' t':=
 tc hn hG (fun k _ _=>by rw [hB]) eI h
end
end Go.Am
namespace Go.Am
open Go
structure qp (s t:St):Prop where
 l:lk s.ae=lk t.ae
 b:dy s.boxes=dy t.boxes
 G:s.G=t.G
 m:s.marks=t.marks
 ro:s.ro=t.ro
 n:s.n=t.n
theorem qp.refl (s:St):qp s s:=⟨rfl,rfl,rfl,rfl,rfl,rfl⟩
theorem qp.symm {s t:St} (h:qp s t):qp t s:=⟨h.l.symm,h.b.symm,h.G.symm,h.m.symm,h.ro.symm,h.n.symm⟩
theorem qp.trans {s t u:St} (h:qp s t) (k:qp t u):qp s u:=⟨h.l.trans k.l,h.b.trans k.b,h.G.trans k.G,h.m.trans k.m,h.ro.trans k.ro,h.n.trans k.n⟩
theorem mT {a b:bh} {e:Nat} (h:lk a e=lk b e):∀ pre:bh,lk (pre++a) e=lk (pre++b) e
 |[]=>h
 |.put d x :: pre=>by
  simp only [aab,lk];rw [mT h pre]
 |.kill d :: pre=>by
  simp only [aab,lk];rw [mT h pre]
theorem xZ {a b:cO} {e:Nat} (h:dy a e=dy b e):∀ pre:cO,dy (pre++a) e=dy (pre++b) e
 |[]=>h
 |(d,x) :: pre=>by
  simp only [aab,dy];rw [xZ h pre]
theorem qp.fw {s t:St} (h:qp s t) (pre:bh) (preB:cO) (G:List GO):qp (s.fw pre preB G) (t.fw pre preB G):=
 ⟨funext fun e=>mT (by rw [h.l]) pre,funext fun e=>xZ (by rw [h.b]) preB,rfl,h.m,h.ro,h.n⟩
theorem Lm {E:Env} {a b:bh} {x:Operand} (h:∀ t,x=.tmp t→lk a t=lk b t):bJ E a x=bJ E b x:=by
 cases x with
 |tmp t=>exact h t rfl
 |_=>rfl
theorem qp.bJ {E:Env} {s t:St} (h:qp s t) (x:Operand):bJ E s.ae x=bJ E t.ae x:=Lm fun e _=>by rw [h.l]
section C3
variable {E:Env} {R:ak} {w:World} {β:Nat→Nat} {s t:St} {a:Act}
theorem bl.eqv (h:bl E R w β s a) (e:qp s t):bl E R w β t a where
 g:=by rw [← e.G]; exact h.g
 b:=⟨fun k cs hk=>h.b.box k cs (by rw [e.b]; exact hk),fun k k' c c' h1 h2=>h.b.inj k k' c c' (by rw [e.b]; exact h1) (by rw [e.b]; exact h2)⟩
 t:=fun i hi=>by
  rw [← e.l] at hi ⊢;exact h.t i hi
 n:=by rw [← e.n]; exact h.n
 d:=by rw [← e.m]; exact h.d
theorem wH {bx KF:cO} (h:dy bx=dy KF) {b:Nat} (k:Own R β bx b):Own R β KF b:=by
 rcases k with k|⟨j,cs,h1,h2⟩
 ·exact .inl k
 ·exact .inr ⟨j,cs,by rw [← h]; exact h1,h2⟩
theorem Step.eqv {R':ak} {w':World} {β':Nat→Nat} {bx KF cx cx':cO} (h:Step R w β bx R' w' β' KF) (h1:dy bx=dy cx) (h2:dy KF=dy cx'):Step R w β cx R' w' β' cx':=
 ⟨h.ext,h.os,h.tape,h.output,h.size,fun b hb hn=>h.aW b hb (fun ho=>hn (wH h1 ho)),fun b hb ho=>wH h1 (h.own b hb (wH h2.symm ho)),fun b o hi hb hn=>h.im b o hi hb (fun ho=>hn (wH h1 ho))⟩
end C3
section ops
variable {E:Env} {s t:St} {f:FuncId} {o:Oper} {K K':St→Prop}
def Inv (K:St→Prop):Prop:=∀ s t,qp s t→K s→K t
theorem DK {op:Op} (h:tT op=true):bX op=false:=by
 cases op <;> simp_all [tT,bX]
theorem ux (hn:s.n=t.n) (hG:s.G=t.G) (hB:dy s.boxes=dy t.boxes) (eI:∀ y∈o.op.operands,bJ E s.ae y=bJ E t.ae y) (h:j8 E f o K s)
  (hK:∀ pre preB G,X6 (bX o.op) o.dst pre→(tT o.op=true→preB=[]∧G=s.G)→K (s.fw pre preB G)→K' (t.fw pre preB G)):j8 E f o K' t:=by
 unfold j8 at h ⊢;split at h
 ·rename_i x args tys ho;have h1:bJ E s.ae x=bJ E t.ae x:=eI x (by rw [ho]; simp [aaa,aaC]);have h2:nE E s.ae args.toList=nE E t.ae args.toList:=ir fun y hy=>eI y (by rw [ho]; simp [aaa,aaC]; exact .inr (by simpa using hy))
  try simp only [ho]
  rw [← h1,← h2,← hG];split at h
  ·refine cB.mono h fun r G' hk=>?_
   obtain ⟨pre,preB,G,p1,p2,p3,p4⟩:=bW.dH (s:=s) (t:=t) (al:=bX o.op) hn G' o.dst (.v r);rw [p3] at hk;rw [p4];exact hK pre preB G p1 (fun e=>by rw [ho] at e; simp [tT] at e) hk
  ·refine kE.mono h fun r G' hk=>?_
   obtain ⟨pre,preB,G,p1,p2,p3,p4⟩:=bW.dH (s:=s) (t:=t) (al:=bX o.op) hn G' o.dst (.v (.bool r));rw [p3] at hk;rw [p4];exact hK pre preB G p1 (fun e=>by rw [ho] at e; simp [tT] at e) hk
  ·exact h.elim
 ·exact h.elim
 ·split at h
  ·rename_i c s' hs;obtain ⟨t',h1,pre,preB,G,p1,p2,p3,p4⟩:=iu hn hG hB eI hs;rw [h1];obtain ⟨rfl,hk⟩:=h.out;refine dE.mk rfl ?_;rw [p3] at hk;rw [p4];exact hK pre preB G p1 (fun e=>⟨(p2 (by simp [e])).1,(p2 (by simp [e])).2.1⟩) hk
  ·exact h.elim
theorem uy (h:j8 E f o K s) (hK:∀ s,K s→K' s):j8 E f o K' s:=
 ux rfl rfl rfl (fun _ _=>rfl) h fun _ _ _ _ _ hk=>hK _ hk
theorem yd (h:j8 E f o K s) (e:qp s t) (hK:Inv K):j8 E f o K t:=
 ux e.n e.G e.b (fun y _=>e.bJ y) h fun _ _ _ _ _ hk=>hK _ _ (e.fw _ _ _) hk
def C4 (ops:List Oper) (s:St) (o:Oper):Option Bool:=match o.guard with
 |none=>some true
 |some (j,want)=>match pz ops j with
  |some d=>match lk s.ae d with
   |.v (.bool b)=>some (b == want)
   |.v (.bk [])=>some false
   |_=>none
  |none=>none
theorem DL (s:St) {d:Tmp} {x:SV} (h:lk s.ae d=x):qp s (s.put (some d) x):=by
 simp only [St.put];split
 ·refine ⟨funext fun e=>?_,rfl,rfl,rfl,rfl,rfl⟩;by_cases k:d=e
  ·subst k; rw [ay]; exact h
  ·rw [aQ k]
 ·exact qp.refl s
theorem qp.put {s t:St} (h:qp s t) (d:Option Tmp) (x:SV):qp (s.put d x) (t.put d x):=by
 obtain ⟨pre,preB,G,_,_,p3,p4⟩:=bW.put (s:=s) (t:=t) (al:=false) (w:=false) h.n h.G d x;rw [p3,p4];exact h.fw _ _ _
theorem fW {ops:List Oper} (hK:Inv K):cn E f ops o K s↔(C4 ops s o=some true∧j8 E f o K s)∨(C4 ops s o=some false∧K (s.put o.dst (.v fO))):=by
 unfold cn C4;cases hg:o.guard with
 |none=>simp
 |some p=>
  obtain ⟨j,want⟩:=p;simp only;cases hd:pz ops j with
  |none=>simp
  |some d=>
   simp only;cases hl:lk s.ae d with
   |none=>simp
   |lp _ _=>simp
   |v a=>
    cases a with
    |bool b=>
     have e1:b=want→qp s (s.put (some d) (.v (.bool want))):=fun e=>DL s (by rw [hl,e])
     have e2:b=(!want)→qp s (s.put (some d) (.v (.bool (!want)))):=fun e=>DL s (by rw [hl,e])
     constructor
     ·intro ⟨h1,h2⟩;by_cases e:b=want
      ·exact .inl ⟨by simp [e],yd (h1 e) (e1 e).symm hK⟩
      ·have e':b=(!want):=by cases b <;> cases want <;> simp_all
       exact .inr ⟨by simp [e],hK _ _ ((e2 e').symm.put _ _) (h2 e')⟩
     ·rintro (⟨h1,h2⟩|⟨h1,h2⟩)
      ·have e:b=want:=by simpa using h1
       exact ⟨fun e=>yd h2 (e1 e) hK,fun e'=>by subst e; cases b <;> cases e'⟩
      ·have e:¬ b=want:=by simpa using h1
       exact ⟨fun k=>absurd k e,fun e'=>hK _ _ ((e2 e').put _ _) h2⟩
    |bk vs=>cases vs <;> simp
    |_=>simp
theorem cp {ops:List Oper} (h:cn E f ops o K s) (hK:∀ s,K s→K' s):cn E f ops o K' s:=by
 unfold cn at h ⊢;split at h
 ·exact uy h hK
 ·split at h
  ·exact h.elim
  ·split at h
   ·exact ⟨fun e=>uy (h.1 e) hK,fun e=>hK _ (h.2 e)⟩
   ·exact hK _ h
   ·exact h.elim
theorem Cc {ops:List Oper} (e:qp s t):C4 ops s o=C4 ops t o:=by
 unfold C4;rw [e.l]
theorem DM {ops:List Oper} (hK:Inv K):Inv (cn E f ops o K):=fun s t e h=>by
 rw [fW hK] at h ⊢;rcases h with ⟨h1,h2⟩|⟨h1,h2⟩
 ·exact .inl ⟨by rw [← Cc e]; exact h1,yd h2 e hK⟩
 ·exact .inr ⟨by rw [← Cc e]; exact h1,hK _ _ (e.put _ _) h2⟩
end ops
end Go.Am
namespace Go.Am
open Go
def Ln (dst:Option Tmp) (s t s' t':St):Prop:=∃ x,s'=s.put dst x∧t'=t.put dst x
section
variable {E:Env} {s t:St} {o:Oper}
theorem Ln.put (_:s.n=t.n) (dst:Option Tmp) (x:SV):Ln dst s t (s.put dst x) (t.put dst x):=⟨x,rfl,rfl⟩
theorem DN {f:FuncId} {c:Bool} {s':St} (hN:tT o.op=true) (hR:Vh o.op=false) (hn:s.n=t.n) (eI:∀ y∈o.op.operands,bJ E s.ae y=bJ E t.ae y)
  (h:an E f s o=some (c,s')):∃ t',an E f t o=some (c,t')∧Ln o.dst s t s' t':=by
 obtain ⟨dst,op,ty,pos,after,guard⟩:=o;cases op
 case move x=>
  simp only [an,eI x (by simp [aaa])] at h ⊢;split at h
  all_goals (injection h with h; injection h with h1 h2; subst h1 h2; (try simp only [*]); exact ⟨_,rfl,.put hn _ _⟩)
 case assign x=>
  simp only [an,eI x (by simp [aaa])] at h ⊢;split at h
  all_goals (injection h with h; injection h with h1 h2; subst h1 h2; (try simp only [*]); exact ⟨_,rfl,.put hn _ _⟩)
 case pick x y z=>
  simp only [an,eI x (by simp [aaa]),eI y (by simp [aaa]),eI z (by simp [aaa])] at h ⊢;split at h
  ·injection h with h; injection h with h1 h2; subst h1 h2; (try simp only [*]); exact ⟨_,rfl,.put hn _ _⟩
  ·cases h
 case build ty ps=>
  have he:nF E s ty ps.toList=nF E t ty ps.toList:=by
   unfold nF;rw [mS (fun p hp=>eI p.2 (by simp only [aaa,aaH,aaY]; exact ⟨p,hp,rfl⟩))]
  simp only [an,he] at h ⊢;split at h
  ·injection h with h; injection h with h1 h2; subst h1 h2; (try simp only [*]); exact ⟨_,rfl,.put hn _ _⟩
  ·cases h
 case buildSlice ty len ps=>
  have he:cg E s ty len ps.toList=cg E t ty len ps.toList:=by
   unfold cg;rw [mS (fun p hp=>eI p.2 (by simp only [aaa,aaH,aaY]; exact ⟨p,hp,rfl⟩))]
  simp only [an,he] at h ⊢;split at h
  ·injection h with h; injection h with h1 h2; subst h1 h2; (try simp only [*]); exact ⟨_,rfl,.put hn _ _⟩
  ·cases h
 case binOp op a x y b=>
  simp only [an,eI x (by simp [aaa]),eI y (by simp [aaa])] at h ⊢
  repeat' (split at h)
  all_goals (first|(cases h; done) | skip)
  all_goals (injection h with h; injection h with h1 h2; subst h1 h2; (try simp only [*]); exact ⟨_,rfl,.put hn _ _⟩)
 case unOp op a x=>
  simp only [an,eI x (by simp [aaa])] at h ⊢
  repeat' (split at h)
  all_goals (first|(cases h; done) | skip)
  all_goals (injection h with h; injection h with h1 h2; subst h1 h2; (try simp only [*]); exact ⟨_,rfl,.put hn _ _⟩)
 case convert a b x=>simp [Vh] at hR
 case nilCheck x=>
  simp only [an,eI x (by simp [aaa])] at h ⊢
  repeat' (split at h)
  all_goals (first|(cases h; done) | skip)
  all_goals (injection h with h; injection h with h1 h2; subst h1 h2; (try simp only [*]); exact ⟨_,rfl,.put hn _ _⟩)
 case makeFunc fo a b=>
  cases fo with
  |func g=>
   have h1:nE E s.ae a.toList=nE E t.ae a.toList:=ir fun y hy=>eI y (by simp only [aaa,aaM]; exact .inl (by simpa using hy))
   have h2:nE E s.ae b.toList=nE E t.ae b.toList:=ir fun y hy=>eI y (by simp only [aaa,aaM]; exact .inr (by simpa using hy))
   simp only [an,h1,h2] at h ⊢
   repeat' (split at h)
   all_goals (first|(cases h; done) | skip)
   all_goals (injection h with h; injection h with h1 h2; subst h1 h2; (try simp only [*]); exact ⟨_,rfl,.put hn _ _⟩)
  |_=>simp [an] at h
 case fieldAddr a x j=>
  simp only [an,eI x (by simp [aaa])] at h ⊢
  repeat' (split at h)
  all_goals (first|(cases h; done) | skip)
  all_goals (injection h with h; injection h with h1 h2; subst h1 h2; (try simp only [*]); exact ⟨_,rfl,.put hn _ _⟩)
 case field a x j=>
  simp only [an,eI x (by simp [aaa])] at h ⊢
  repeat' (split at h)
  all_goals (first|(cases h; done) | skip)
  all_goals (injection h with h; injection h with h1 h2; subst h1 h2; (try simp only [*]); exact ⟨_,rfl,.put hn _ _⟩)
 case indexAddr a x y=>
  simp only [an,eI x (by simp [aaa]),eI y (by simp [aaa])] at h ⊢
  repeat' (split at h)
  all_goals (first|(cases h; done) | skip)
  all_goals (injection h with h; injection h with h1 h2; subst h1 h2; (try simp only [*]); exact ⟨_,rfl,.put hn _ _⟩)
 case index a x y=>
  simp only [an,eI x (by simp [aaa]),eI y (by simp [aaa])] at h ⊢
  repeat' (split at h)
  all_goals (first|(cases h; done) | skip)
  all_goals (injection h with h; injection h with h1 h2; subst h1 h2; (try simp only [*]); exact ⟨_,rfl,.put hn _ _⟩)
 case slice a x lo hi mx=>
  have h1:nG E s.ae lo=nG E t.ae lo:=by
   cases lo with
   |none=>rfl
   |some y=>simp only [nG]; rw [eI y (by simp [aaa])]
  have h2:nG E s.ae hi=nG E t.ae hi:=by
   cases hi with
   |none=>rfl
   |some y=>simp only [nG]; rw [eI y (by simp [aaa])]
  simp only [an,eI x (by simp [aaa]),h1,h2] at h ⊢
  repeat' (split at h)
  all_goals (first|(cases h; done) | skip)
  all_goals (injection h with h; injection h with h1 h2; subst h1 h2; (try simp only [*]); exact ⟨_,rfl,.put hn _ _⟩)
 case extract x i=>
  simp only [an,eI x (by simp [aaa])] at h ⊢
  repeat' (split at h)
  all_goals (first|(cases h; done) | skip)
  all_goals (injection h with h; injection h with h1 h2; subst h1 h2; (try simp only [*]); exact ⟨_,rfl,.put hn _ _⟩)
 all_goals (first|(simp [tT] at hN; done) | (simp [Vh] at hR; done))
end
end Go.Am
namespace Go.Am
open Go
section
variable {E:Env} {s t:St} {f:FuncId} {ops:Array Oper} {o oj oi:Oper} {d:Tmp} {x:SV} {K:St→Prop}
theorem Lo (ops:Array Oper) (j:Nat):pz ops.toList j=(ops[j]?).bind (·.dst):=by
 unfold pz;rw [bg,Array.getElem?_toList];cases ops[j]? <;> rfl
theorem nU {e:Tmp} (h:.tmp e∈o.op.operands):e∈o.looksAt ops:=
 List.mem_append_left _ (List.mem_filterMap.2 ⟨.tmp e,by simpa using h,rfl⟩)
theorem jS {j:Nat} {want:Bool} {e:Tmp} (h:o.guard=some (j,want)) (he:pz ops.toList j=some e):e∈o.looksAt ops:=by
 rw [Lo] at he;refine List.mem_append_right _ ?_;rw [h];simp [he]
theorem kF (h:∀ e∈o.looksAt ops,lk s.ae e=lk t.ae e):∀ y∈o.op.operands,bJ E s.ae y=bJ E t.ae y:=fun _ hy=>
 Lm fun e he=>h e (nU (he ▸ hy))
theorem kq (h:∀ e∈o.looksAt ops,lk s.ae e=lk t.ae e):C4 ops.toList s o=C4 ops.toList t o:=by
 unfold C4;split
 ·rfl
 ·rename_i j want hg;split
  ·rename_i e he;rw [h e (jS hg he)]
  ·rfl
theorem wI (s:St) (d:Tmp) (x:SV) {e:Nat} (h:d≠e):lk (s.put (some d) x).ae e=lk s.ae e:=by
 simp only [St.put];split
 ·exact aQ h
 ·rfl
theorem fX (s:St) (d:Option Tmp) (x:SV):(s.put d x).boxes=s.boxes∧(s.put d x).G=s.G∧(s.put d x).n=s.n∧(s.put d x).marks=s.marks∧(s.put d x).ro=s.ro:=by
 cases d with
 |none=>exact ⟨rfl,rfl,rfl,rfl,rfl⟩
 |some d=>
  simp only [St.put];split <;> exact ⟨rfl,rfl,rfl,rfl,rfl⟩
def ye (E:Env) (f:FuncId) (ops:Array Oper) (o:Oper) (s:St) (x:SV):Prop:=
 (C4 ops.toList s o=some true∧an E f s o=some (true,s.put o.dst x))∨(C4 ops.toList s o=some false∧x=.v fO)
theorem Lp {c:Bool} {s':St} (hN:tT o.op=true) (h:an E f s o=some (c,s')):∃ x,s'=s.put o.dst x:=by
 obtain ⟨t',_,pre,preB,G,_,h2,_,_⟩:=iu (t:=s) rfl rfl rfl (fun _ _=>rfl) h;obtain ⟨_,_,x,hx,_⟩:=h2 (by simp [hN]);exact ⟨x,hx⟩
theorem Lq (hN:tT o.op=true):j8 E f o K s↔∃ s',an E f s o=some (true,s')∧K s':=by
 unfold j8;split
 ·rename_i h;rw [h] at hN;simp [tT] at hN
 ·rename_i h;rw [h] at hN;simp [tT] at hN
 ·split
  ·rename_i c s' hs;constructor
   ·intro h;obtain ⟨rfl,hk⟩:=h.out;exact ⟨s',hs,hk⟩
   ·rintro ⟨Dl,h1,h2⟩;rw [hs] at h1;cases h1;exact dE.mk rfl h2
  ·rename_i hs;constructor
   ·exact fun h=>h.elim
   ·rintro ⟨Dl,h1,_⟩;rw [hs] at h1;cases h1
theorem yf (hN:tT o.op=true) (hK:Inv K) (h:cn E f ops.toList o K s):∃ x,ye E f ops o s x∧K (s.put o.dst x):=by
 rcases (fW hK).1 h with ⟨h1,h2⟩|⟨h1,h2⟩
 ·obtain ⟨s',h3,h4⟩:=(Lq hN).1 h2;obtain ⟨x,rfl⟩:=Lp hN h3;exact ⟨x,.inl ⟨h1,h3⟩,h4⟩
 ·exact ⟨_,.inr ⟨h1,rfl⟩,h2⟩
theorem yg (hN:tT o.op=true) (hK:Inv K) (hx:ye E f ops o s x) (h:K (s.put o.dst x)):cn E f ops.toList o K s:=by
 rw [fW hK];rcases hx with ⟨h1,h2⟩|⟨h1,rfl⟩
 ·exact .inl ⟨h1,(Lq hN).2 ⟨_,h2,h⟩⟩
 ·exact .inr ⟨h1,h⟩
def Ge (E:Env) (f:FuncId) (ops:List Oper) (o:Oper) (s:St):Prop:=match C4 ops s o with
 |some true=>match o.dst,an E f s o with
  |some d,some (c,s')=>c=true∧lk s'.ae d=lk s.ae d
  |_,_=>False
 |some false=>True
 |none=>False
theorem Pw (hN:tT o.op=true) (hd:d∉o.looksAt ops) (cQ:o.dst≠some d) (he:∀ e,d≠e→lk s.ae e=lk t.ae e) (hB:dy s.boxes=dy t.boxes) (hG:s.G=t.G) (hn:s.n=t.n)
  (h:Ge E f ops.toList o s):Ge E f ops.toList o t:=by
 have hl:∀ e∈o.looksAt ops,lk s.ae e=lk t.ae e:=fun e hm=>he e fun k=>hd (k ▸ hm)
 unfold Ge at h ⊢;rw [← kq hl];split
 ·rename_i hg;rw [hg] at h;simp only at h;split at h
  ·rename_i e c s' Jk hs;obtain ⟨t',h3,pre,preB,G,_,h4,_,_⟩:=iu hn hG hB (kF hl) hs;obtain ⟨_,_,y,h5,h6⟩:=h4 (by simp [hN]);rw [Jk,h3];refine ⟨h.1,?_⟩;have hde:d≠e:=fun k=>cQ (by rw [Jk,k])
   have h7:=h.2;rw [h5,Jk] at h7;rw [h6,Jk,← he e hde];simp only [St.put,← hn] at h7 ⊢;split
   ·rename_i hb;rw [hb] at h7;simp only [ay] at h7 ⊢;exact h7
   ·exact (he e hde).symm
  ·exact h.elim
 ·trivial
 ·rename_i hg;rw [hg] at h;exact h
theorem Px (hN:tT o.op=true) (e:qp s t) (h:Ge E f ops.toList o s):Ge E f ops.toList o t:=by
 unfold Ge at h ⊢;rw [← Cc e];split
 ·rename_i hg;rw [hg] at h;simp only at h;split at h
  ·rename_i d c s' Jk hs;obtain ⟨t',h3,pre,preB,G,_,h4,_,_⟩:=iu e.n e.G e.b (fun y _=>e.bJ y) hs;obtain ⟨_,_,y,h5,h6⟩:=h4 (by simp [hN]);rw [Jk,h3];refine ⟨h.1,?_⟩;rw [h6,← (e.put o.dst y).l,← h5,← e.l];exact h.2
  ·exact h.elim
 ·trivial
 ·rename_i hg;rw [hg] at h;exact h
def jz (oj oi:Oper):Bool:=bX oi.op || (Vh oj.op&&!tT oi.op)
theorem Lr {al:Bool} {dst:Option Tmp} {pre:bh} (h:X6 al dst pre) {e:Nat} (he:dst≠some e) (l:bh):lk (pre++l) e=lk l e∨(al=true∧∃ k off,lk l e=.lp k off):=by
 rcases h with rfl|⟨d,y,rfl,rfl|⟨rfl,rfl⟩⟩
 ·exact .inl rfl
 ·exact .inl (aQ fun k=>he (by rw [k]))
 ·simp only [aab,aac];rw [aQ (fun k=>he (by rw [k]))];simp only [lk];cases hl:lk l e with
  |lp k off=>exact .inr ⟨trivial,k,off,rfl⟩
  |_=>exact .inl rfl
theorem td {al:Bool} {pre:bh} (preB:cO) (G:List GO) (h:X6 al oi.dst pre) (cQ:oi.dst≠some d) (hx:al=false∨∃ a,x=.v a):qp ((s.put (some d) x).fw pre preB G) ((s.fw pre preB G).put (some d) x):=by
 have hb:∀ b,aax d s.n=b→qp ((s.put (some d) x).fw pre preB G) ((s.fw pre preB G).put (some d) x):=fun b hb=>by
  have gL:aax d (s.fw pre preB G).n=b:=hb;rw [lK,lK,hb,gL];cases b with
  |false=>exact qp.refl _
  |true=>
   refine ⟨funext fun e=>?_,rfl,rfl,rfl,rfl,rfl⟩;simp only [cond_true,St.fw,aab,aac];by_cases k:d=e
   ·subst k;rw [ay];rcases Lr h cQ (.put d x :: s.ae) with h1|⟨h1,k,off,h2⟩
    ·rw [h1,ay]
    ·rw [ay] at h2;rcases hx with hx|⟨a,hx⟩
     ·rw [hx] at h1; cases h1
     ·rw [hx] at h2; cases h2
   ·rw [aQ k];exact mT (aQ k) pre
 exact hb _ rfl
theorem Jl (hN:tT oj.op=true) (HR:oj.dst=some d) (DO:d∉oj.looksAt ops) (TN:oj.apart ops oi=true) (hK:Inv K) (hx:ye E f ops oj s x) {pre:bh} {preB:cO} {G:List GO}
  (Ay:X6 (bX oi.op) oi.dst pre) (Zi:tT oi.op=true→preB=[]∧G=s.G) (hk:K ((s.put (some d) x).fw pre preB G)) (YT:∀ t',K t'→jz oj oi=true→Ge E f ops.toList oj t') :
  ∃ x',ye E f ops oj (s.fw pre preB G) x'∧K ((s.fw pre preB G).put (some d) x'):=by
 obtain ⟨_,cQ,FM⟩:=Oper.apart_spec TN;have Ls:oi.dst≠some d:=cQ d HR;have te:∀ e∈oj.looksAt ops,oi.dst≠some e:=fun e he k=>FM e k he
 have wG:∀ e∈oj.looksAt ops,(bX oi.op=false∨∃ b,lk s.ae e=.v b)→lk s.ae e=lk (s.fw pre preB G).ae e:=fun e he ha=>by
  rcases Lr Ay (te e he) s.ae with h1|⟨h1,k,off,h2⟩
  ·exact h1.symm
  ·rcases ha with ha|⟨b,ha⟩
   ·rw [ha] at h1; cases h1
   ·rw [ha] at h2; cases h2
 have Py:∀ b,C4 ops.toList s oj=some b→C4 ops.toList (s.fw pre preB G) oj=some b:=fun b hb=>by
  unfold C4 at hb ⊢;split
  ·rename_i hg; rw [hg] at hb; exact hb
  ·rename_i j want hg;rw [hg] at hb;simp only at hb;split
   ·rename_i e he;rw [he] at hb;simp only at hb;split at hb
    ·rename_i b' hl;have:=wG e (jS hg he) (.inr ⟨_,hl⟩);rw [← this,hl];exact hb
    ·rename_i hl;have:=wG e (jS hg he) (.inr ⟨_,hl⟩);rw [← this,hl];exact hb
    ·cases hb
   ·rename_i he; rw [he] at hb; cases hb
 rcases hx with ⟨h1,h2⟩|⟨h1,rfl⟩
 ·rw [HR] at h2;by_cases ac3:jz oj oi=true
  ·have hr:=YT _ hk ac3
   -- the state with the slot, and the one without it
   have B6:∀ e,d≠e→lk ((s.put (some d) x).fw pre preB G).ae e=lk (s.fw pre preB G).ae e:=fun e he=>mT (wI s d x he) pre
   have hB:dy ((s.put (some d) x).fw pre preB G).boxes=dy (s.fw pre preB G).boxes:=by
    simp only [St.fw]; rw [(fX s _ x).1]
   have hn:((s.put (some d) x).fw pre preB G).n=(s.fw pre preB G).n:=(fX s _ x).2.2.1;have Lt:∀ e∈oj.looksAt ops,lk ((s.put (some d) x).fw pre preB G).ae e=lk (s.fw pre preB G).ae e:=fun e he=>B6 e fun k=>DO (k ▸ he)
   have hg2:C4 ops.toList ((s.put (some d) x).fw pre preB G) oj=some true:=by rw [kq Lt]; exact Py _ h1
   unfold Ge at hr;rw [hg2] at hr;simp only [HR] at hr;split at hr
   ·rename_i d' c s' Hy hs;cases Hy;obtain ⟨rfl,hr⟩:=hr;obtain ⟨t',h3,p,pB,G2,_,h4,_,_⟩:=iu (t:=s.fw pre preB G) hn rfl hB (kF Lt) hs;obtain ⟨_,_,y,h5,h6⟩:=h4 (by simp [hN]);rw [h6] at h3;rw [h5,HR] at hr;refine ⟨y,.inl ⟨Py _ h1,h3⟩,hK _ _ ?_ hk⟩;have hmr:((s.put (some d) x).fw pre preB G).marks=(s.fw pre preB G).marks∧((s.put (some d) x).fw pre preB G).ro=(s.fw pre preB G).ro:=(fX s _ x).2.2.2;obtain ⟨q1,q2,q3,q4,q5⟩:=fX (s.fw pre preB G) (some d) y;refine ⟨funext fun e=>?_,by rw [q1]; exact hB,by rw [q2]; rfl,by rw [q4]; exact hmr.1,by rw [q5]; exact hmr.2,by rw [q3]; exact hn⟩;by_cases k:d=e
    ·subst k;rw [← hr];have hb:∀ b,aax d s.n=b→lk (((s.put (some d) x).fw pre preB G).put (some d) y).ae d=lk ((s.fw pre preB G).put (some d) y).ae d:=fun b hb=>by
      have Gf:aax d (s.fw pre preB G).n=b:=hb;have Ks:aax d ((s.put (some d) x).fw pre preB G).n=b:=by rw [hn]; exact hb
      rw [lK _ d y,lK _ d y,Gf,Ks];cases b with
      |true=>simp [St.fw,ay]
      |false=>
       simp only [cond_false];rw [lK,hb];rfl
     exact hb _ rfl
    ·rw [wI _ _ _ k];exact B6 e k
   ·exact hr.elim
  ·have Az:bX oi.op=false:=by cases ha:bX oi.op <;> simp_all [jz]
   have hl:∀ e∈oj.looksAt ops,lk s.ae e=lk (s.fw pre preB G).ae e:=fun e he=>wG e he (.inl Az)
   have fin:∀ y,s.put (some d) x=s.put (some d) y→an E f (s.fw pre preB G) oj=some (true,(s.fw pre preB G).put oj.dst y) →
     ∃ x',ye E f ops oj (s.fw pre preB G) x'∧K ((s.fw pre preB G).put (some d) x'):=fun y hy hs=>by
    refine ⟨y,.inl ⟨Py _ h1,hs⟩,hK _ _ (td (oi:=oi) preB G Ay Ls (.inl Az)) ?_⟩;rw [← hy];exact hk
   cases hNo:tT oi.op with
   |true=>
    obtain ⟨rfl,rfl⟩:=Zi hNo;obtain ⟨t',h3,p,pB,G2,_,h4,_,_⟩:=iu (s:=s) (t:=s.fw pre [] s.G) rfl rfl rfl (kF hl) h2;obtain ⟨_,_,y,h5,h6⟩:=h4 (by simp [hN]);rw [HR] at h5;exact fin y h5 (by rw [h3,h6])
   |false=>
    have hR:Vh oj.op=false:=by cases ha:Vh oj.op <;> simp_all [jz]
    obtain ⟨t',h3,y,h5,h6⟩:=DN (s:=s) (t:=s.fw pre preB G) hN hR rfl (kF hl) h2;rw [HR] at h5;exact fin y h5 (by rw [h3,h6])
 ·exact ⟨_,.inr ⟨Py _ h1,rfl⟩,hK _ _ (td (oi:=oi) preB G Ay Ls (.inr ⟨_,rfl⟩)) hk⟩
end
end Go.Am
namespace Go.Am
open Go
section
variable {E:Env} {s t:St} {o:Oper}
def iK (E:Env) (s:St) (o:Oper) (s':St):Prop:=
 (s'.ae=s.ae∨∃ d x,o.dst=some d∧(s'.ae=.put d x :: s.ae∨s'.ae=.put d x :: .kill d :: s.ae)∧∀ k off,x=.lp k off→(∃ y∈o.op.operands,∃ fQ,bJ E s.ae y=.lp k fQ)∨(bX o.op=true∧k=d)) ∧
 (s'.boxes=s.boxes∨∃ k cs,s'.boxes=(k,cs) :: s.boxes∧((bX o.op=true∧o.dst=some k)∨∃ y∈o.op.operands,∃ off,bJ E s.ae y=.lp k off))
theorem lL {s1:St} (h1:s1.ae=s.ae) (h2:s1.boxes=s.boxes) {x:SV} (hx:∀ k off,x=.lp k off→∃ y∈o.op.operands,∃ fQ,bJ E s.ae y=.lp k fQ):iK E s o (s1.put o.dst x):=by
 refine ⟨?_,.inl (by rw [(fX s1 o.dst x).1,h2])⟩;cases hd:o.dst with
 |none=>exact .inl h1
 |some d=>
  simp only [St.put];split
  ·exact .inr ⟨d,x,rfl,.inl (by rw [h1]),fun k off h=>.inl (hx k off h)⟩
  ·exact .inl h1
theorem lM {s1:St} (h1:s1.ae=s.ae) (h2:s1.boxes=s.boxes) (a:AV):iK E s o (s1.put o.dst (.v a)):=lL h1 h2 fun k off h=>by cases h
theorem mU {s1:St} (h1:s1.ae=s.ae) (h2:s1.boxes=s.boxes):iK E s o s1:=⟨.inl h1,.inl h2⟩
theorem Pz {k:Nat} {cs:List AV} (h:∃ y∈o.op.operands,∃ off,bJ E s.ae y=.lp k off):iK E s o (s.vV k cs):=⟨.inl rfl,.inr ⟨k,cs,rfl,.inr h⟩⟩
theorem DP {n:Nat} {x:SV} {k off:Nat} (h:AP n x=some (.lp k off)):∃ fQ,x=.lp k fQ:=by
 unfold AP at h;split at h <;> cases h;exact ⟨_,rfl⟩
theorem AA {ty:TypeId} {x:SV} {j k off:Nat} (h:kx E ty x j=some (.lp k off)):∃ fQ,x=.lp k fQ:=by
 unfold kx at h
 repeat' (split at h)
 all_goals (first|(cases h; done) | exact DP h)
theorem AB {ty:TypeId} {x ix:SV} {c:Bool} {k off:Nat} (h:kw E ty x ix=some (c,.lp k off)):∃ fQ,x=.lp k fQ:=by
 unfold kw at h
 repeat' (split at h)
 all_goals (first|(cases h; done) | skip)
 rename_i hm;injection h with h; injection h with h1 h2; subst h2;exact DP hm
theorem Gg {ty:TypeId} {p x:SV} {s':St} (hp:∀ k off,p=.lp k off→∃ y∈o.op.operands,∃ fQ,bJ E s.ae y=.lp k fQ) (h:jN E s ty p x=some s'):iK E s o s':=by
 unfold jN at h
 repeat' (split at h)
 all_goals (first|(cases h; done) | skip)
 ·cases h; exact Pz (hp _ _ rfl)
 ·cases h; exact mU rfl rfl
theorem Gh {ty:TypeId} {p x:SV} {c:Bool} {s':St} (hp:∀ k off,p=.lp k off→∃ y∈o.op.operands,∃ fQ,bJ E s.ae y=.lp k fQ) (h:jO E s ty p x=some (c,s')):iK E s o s':=by
 unfold jO at h
 repeat' (split at h)
 all_goals (first|(cases h; done) | skip)
 ·injection h with h; injection h with h1 h2; subst h2; exact mU rfl rfl
 ·injection h with h; injection h with h1 h2; subst h2; exact mU rfl rfl
 ·rename_i hs;injection h with h; injection h with h1 h2; subst h2; exact Gg hp hs
theorem vw {ty:TypeId} {m k x:SV} {s':St} (h:fc E s ty m k x=some s'):iK E s o s':=by
 unfold fc at h
 repeat' (split at h)
 all_goals (first|(cases h; done) | skip)
 cases h; exact mU rfl rfl
theorem Jm {x:SV} {s':St} (h:lF s o.dst x=some s'):iK E s o s':=by
 unfold lF at h;split at h
 ·split at h
  ·rename_i l pos hg;cases hb:aax pos l.length with
   |true=>
    rw [hb] at h;simp only [cond_true] at h;cases h;exact lM rfl rfl _
   |false=>
    rw [hb] at h;simp only [cond_false] at h;cases h;exact lM rfl rfl _
  ·cases h
 ·cases h
theorem Cd {b:Builtin} {l:List AV} {tys:List TypeId} {c:Bool} {s':St} (h:bT E s o.dst b l tys=some (c,s')):iK E s o s':=by
 unfold bT at h;cases b
 all_goals (try (cases h; done))
 all_goals (try simp only at h)
 all_goals (try (split at h <;> first | (cases h; done) | simp only at h))
 all_goals (repeat' (split at h))
 all_goals (first|(cases h; done) | skip)
 all_goals (injection h with h; injection h with h1 h2; subst h1 h2)
 all_goals (first|exact lM rfl rfl _ | exact mU rfl rfl)
theorem Jn {f:FuncId} {c:Bool} {s':St} (h:ij E f s o=some (c,s')):iK E s o s':=by
 unfold ij at h;cases h
theorem yh {f:FuncId} {el:TypeId} {cs:List AV} {c:Bool} {s':St} (ha:bX o.op=true) (h:fb E f s o.dst el cs=some (c,s')):iK E s o s':=by
 unfold fb at h;split at h
 ·cases h
 ·rename_i d hd;split at h
  ·injection h with h; injection h with h1 h2; subst h2;rw [← hd];exact lM rfl rfl _
  ·split at h
   ·rename_i hb;injection h with h; injection h with h1 h2; subst h2;refine ⟨.inr ⟨d,.lp d 0,hd,.inr ?_,fun k off h=>by cases h; exact .inr ⟨ha,rfl⟩⟩,.inr ⟨d,cs,?_,.inl ⟨ha,hd⟩⟩⟩
    ·simp only [St.put,St.vV,St.kill,hb]
    ·rw [(fX _ (some d) (.lp d 0)).1]; rfl
   ·cases h
theorem Gi {f:FuncId} {c:Bool} {s':St} (h:an E f s o=some (c,s')):iK E s o s':=by
 cases ho:o.op
 case move x=>
  simp only [an,ho] at h;split at h
  all_goals (injection h with h; injection h with h1 h2; subst h2)
  ·exact lM rfl rfl _
  ·rename_i k off hx;exact lL rfl rfl fun k' fQ e=>by cases e; exact ⟨x,by rw [ho]; simp [aaa],_,hx⟩
  ·exact lL rfl rfl fun k' fQ e=>by cases e
 case assign x=>
  simp only [an,ho] at h;split at h
  all_goals (injection h with h; injection h with h1 h2; subst h2)
  ·exact lM rfl rfl _
  ·rename_i k off hx;exact lL rfl rfl fun k' fQ e=>by cases e; exact ⟨x,by rw [ho]; simp [aaa],_,hx⟩
  ·exact lL rfl rfl fun k' fQ e=>by cases e
 case nilCheck x=>
  simp only [an,ho] at h;split at h
  ·injection h with h; injection h with h1 h2; subst h2;exact lM rfl rfl _
  ·rename_i k off hx;injection h with h; injection h with h1 h2; subst h2;exact lL rfl rfl fun k' fQ e=>by cases e; exact ⟨x,by rw [ho]; simp [aaa],_,hx⟩
  ·cases h
 case fieldAddr a x j=>
  simp only [an,ho] at h;split at h
  ·rename_i p hp;injection h with h; injection h with h1 h2; subst h2;exact lL rfl rfl fun k' fQ e=>by subst e; exact ⟨x,by rw [ho]; simp [aaa],AA hp⟩
  ·cases h
 case indexAddr a x y=>
  simp only [an,ho] at h;split at h
  ·rename_i c' p hp;injection h with h; injection h with h1 h2; subst h2;exact lL rfl rfl fun k' fQ e=>by subst e; exact ⟨x,by rw [ho]; simp [aaa],AB hp⟩
  ·cases h
 case alloc e=>
  simp only [an,ho] at h
  repeat' (split at h)
  all_goals (first|(cases h; done) | skip)
  exact yh (by rw [ho]; rfl) h
 case box e x=>
  simp only [an,ho] at h
  repeat' (split at h)
  all_goals (first|(cases h; done) | skip)
  exact yh (by rw [ho]; rfl) h
 case store ty x y=>
  simp only [an,ho] at h;split at h
  ·rename_i hs;injection h with h; injection h with h1 h2; subst h2;exact Gh (fun k off e=>⟨x,by rw [ho]; simp [aaa],off,e⟩) hs
  ·cases h
 case mapUpdate ty x y z=>
  simp only [an,ho] at h;split at h
  ·rename_i hs;injection h with h; injection h with h1 h2; subst h2;exact vw hs
  ·cases h
 case insert ty x y z=>
  simp only [an,ho] at h;split at h
  ·rename_i hs;injection h with h; injection h with h1 h2; subst h2;exact vw hs
  ·cases h
 case mapEntry ty x y=>
  simp only [an,ho] at h;split at h
  ·rename_i hs;injection h with h; injection h with h1 h2; subst h2;unfold gk at hs
   repeat' (split at hs)
   all_goals (first|(cases hs; done) | skip)
   injection hs with hs; injection hs with h3 hs; injection hs with h4 h5;subst h5;exact lM rfl rfl _
  ·cases h
 case entryStore ty x y z=>
  simp only [an,ho] at h;split at h
  ·rename_i hs;injection h with h; injection h with h1 h2; subst h2;unfold eC at hs
   repeat' (split at hs)
   all_goals (first|(cases hs; done) | skip)
   injection hs with hs; injection hs with h3 h4;subst h4;exact mU rfl rfl
  ·cases h
 case next x b=>
  cases b with
  |false=>simp [an,ho] at h
  |true=>
   simp only [an,ho] at h;split at h
   ·rename_i hs;injection h with h; injection h with h1 h2; subst h2;exact Jm hs
   ·cases h
 case call cl=>
  obtain ⟨callee,args,tys⟩:=cl;cases callee with
  |builtin b=>
   simp only [an,ho] at h;split at h
   ·rename_i r hf;cases h;exact Jn hf
   ·split at h
    ·exact Cd h
    ·cases h
  |_=>simp [an,ho] at h
 case makeFunc fo a b=>
  cases fo with
  |func g=>
   simp only [an,ho] at h
   repeat' (split at h)
   all_goals (first|(cases h; done) | skip)
   injection h with h; injection h with h1 h2; subst h2;exact lM rfl rfl _
  |_=>simp [an,ho] at h
 case makeMap ty r=>
  cases r with
  |none=>
   simp only [an,ho] at h;injection h with h; injection h with h1 h2; subst h2;exact lM rfl rfl _
  |some _=>simp [an,ho] at h
 all_goals (first
  |(simp [an,ho] at h; done)
  |(simp only [an,ho] at h; (repeat' (split at h)); (all_goals (first|(cases h; done) | skip)); (all_goals (injection h with h; injection h with h1 h2; subst h2)); (all_goals (exact lM rfl rfl _))))
def rR (s:St) (d:Nat) (cs:List AV):St:=s.fw [.put d (.lp d 0),.kill d] [(d,cs)] s.G
theorem Gj {f:FuncId} {d:Tmp} {c:Bool} {s1:St} (Az:bX o.op=true) (hd:o.dst=some d) (hg:E.BQ f d=false) (h:an E f s o=some (c,s1)) :
  c=true∧∃ cs,s1=rR s d cs∧∀ t:St,t.n=s.n→(∀ y∈o.op.operands,∀ v,bJ E s.ae y=.v v→bJ E t.ae y=.v v)→an E f t o=some (true,rR t d cs):=by
 have key:∀ (el:TypeId) (cs:List AV),fb E f s o.dst el cs=some (c,s1)→c=true∧s1=rR s d cs∧∀ t:St,t.n=s.n→fb E f t o.dst el cs=some (true,rR t d cs):=by
  intro el cs h;unfold fb at h;rw [hd] at h;simp only [hg,Bool.false_eq_true,if_false] at h;split at h
  ·rename_i hb;injection h with h; injection h with h1 h2; subst h1 h2;refine ⟨rfl,?_,fun t ht=>?_⟩
   ·simp only [St.put,St.vV,St.kill,hb,rR,St.fw]; rfl
   ·unfold fb;rw [hd];simp only [hg,Bool.false_eq_true,if_false,ht,hb];simp only [St.put,St.vV,St.kill,ht,hb,rR,St.fw]; rfl
  ·cases h
 cases ho:o.op
 case alloc e=>
  simp only [an,ho] at h ⊢;split at h
  ·split at h
   ·split at h
    ·rename_i hi _ _ hz OR;obtain ⟨k1,k2,k3⟩:=key _ _ h;refine ⟨k1,_,k2,fun t ht _=>?_⟩;simp only [hi,hz,OR,if_true];exact k3 t ht
    ·cases h
   ·cases h
  ·cases h
 case box e x=>
  simp only [an,ho] at h ⊢;split at h
  ·split at h
   ·rename_i v hv OR;obtain ⟨k1,k2,k3⟩:=key _ _ h;refine ⟨k1,_,k2,fun t ht he=>?_⟩;simp only [he x (by simp [aaa]) v hv,OR,if_true];exact k3 t ht
   ·cases h
  ·cases h
 all_goals (rw [ho] at Az; simp [bX] at Az)
theorem HS {pre:bh} {preB:cO} {G:List GO} (h:iK E s o (s.fw pre preB G)) :
  (pre=[]∨∃ d x,o.dst=some d∧(pre=[.put d x]∨pre=[.put d x,.kill d])∧∀ k off,x=.lp k off→(∃ y∈o.op.operands,∃ fQ,bJ E s.ae y=.lp k fQ)∨(bX o.op=true∧k=d)) ∧
  (preB=[]∨∃ k cs,preB=[(k,cs)]∧((bX o.op=true∧o.dst=some k)∨∃ y∈o.op.operands,∃ off,bJ E s.ae y=.lp k off)):=by
 obtain ⟨h1,h2⟩:=h;refine ⟨?_,?_⟩
 ·rcases h1 with h1|⟨d,x,hd,h1,hx⟩
  ·exact .inl (by simpa [St.fw] using h1)
  ·refine .inr ⟨d,x,hd,?_,hx⟩;rcases h1 with h1|h1
   ·left;have h1:pre++s.ae=[.put d x]++s.ae:=h1;exact aaB h1
   ·right;have h1:pre++s.ae=[.put d x,.kill d]++s.ae:=h1;exact aaB h1
 ·rcases h2 with h2|⟨k,cs,h2,hx⟩
  ·exact .inl (by simpa [St.fw] using h2)
  ·refine .inr ⟨k,cs,?_,hx⟩;have h2:preB++s.boxes=[(k,cs)]++s.boxes:=h2;exact aaB h2
theorem jA (d e:Nat) (l:bh):lk (.kill d :: l) e=(match lk l e with | .lp k off=>bif aaX k d then .none else .lp k off | x=>x):=rfl
theorem yi {d e:Nat} {l:bh} (h:∀ off,lk l e≠.lp d off):lk (.kill d :: l) e=lk l e:=by
 rw [jA];split
 ·rename_i k off hk;cases hb:aaX k d with
  |true=>exact absurd (by rw [hk,aaR hb]) (h off)
  |false=>rw [hk]; rfl
 ·rfl
theorem Jo {d:Nat} {pre:bh} {preB:cO} {G:List GO} (cs:List AV) (PA:iK E s o (s.fw pre preB G)) (cQ:o.dst≠some d) (Jp:∀ y∈o.op.operands,∀ off,bJ E s.ae y≠.lp d off) :
  qp ((rR s d cs).fw pre preB G) (rR (s.fw pre preB G) d cs):=by
 obtain ⟨h1,h2⟩:=HS PA;refine ⟨funext fun e=>?_,funext fun k=>?_,rfl,rfl,rfl,rfl⟩
 ·show lk (pre++([.put d (.lp d 0),.kill d]++s.ae)) e=lk ([.put d (.lp d 0),.kill d]++(pre++s.ae)) e;rcases h1 with rfl|⟨d',x,hd,hp,hx⟩
  ·rfl
  ·have hdd:d'≠d:=fun c=>cQ (by rw [hd,c])
   have oJ:∀ off,x≠.lp d off:=fun off c=>by
    rcases hx d off c with ⟨y,hy,fQ,ho⟩|⟨_,h⟩
    ·exact Jp y hy fQ ho
    ·exact hdd h.symm
   by_cases c1:d=e
   ·subst c1;rcases hp with rfl|rfl
    ·simp only [aab,aac];rw [aQ hdd,ay,ay]
    ·simp only [aab,aac];rw [aQ hdd,ay,yi (fun off=>by rw [ay]; intro c; cases c; exact hdd rfl),ay]
   ·simp only [aab,aac];rw [aQ c1];by_cases c2:d'=e
    ·subst c2;rcases hp with rfl|rfl
     ·simp only [aab,aac];rw [ay,yi (fun off=>by rw [ay]; exact oJ off),ay]
     ·simp only [aab,aac];rw [ay,yi (fun off=>by rw [ay]; exact oJ off),ay]
    ·rcases hp with rfl|rfl
     ·simp only [aab,aac];rw [aQ c2,aQ c1,jA,jA,aQ c2]
     ·simp only [aab,aac];rw [aQ c2,jA,aQ c1,jA,jA,aQ c2,jA];cases lk s.ae e with
      |lp k off=>cases hb:aaX k d <;> cases Ks:aaX k d' <;> simp [hb,Ks]
      |_=>rfl
 ·show dy (preB++([(d,cs)]++s.boxes)) k=dy ([(d,cs)]++(preB++s.boxes)) k;rcases h2 with rfl|⟨k',cs',rfl,hk⟩
  ·rfl
  ·have OS:k'≠d:=fun c=>by
    subst c;rcases hk with ⟨_,hk⟩|⟨y,hy,off,ho⟩
    ·exact cQ hk
    ·exact Jp y hy off ho
   simp only [aab,aac,dy];cases hb:aaX k' k with
   |true=>
    have:aaX d k=false:=by
     cases Ks:aaX d k with
     |true=>exact absurd ((aaR hb).trans (aaR Ks).symm) OS
     |false=>rfl
    rw [this]; rfl
   |false=>rfl
end
section
variable {E:Env} {s t:St} {f:FuncId} {o:Oper} {K K':St→Prop}
theorem Gk (hn:s.n=t.n) (hG:s.G=t.G) (hB:∀ k off,(∃ y∈o.op.operands,bJ E s.ae y=.lp k off)→dy s.boxes k=dy t.boxes k) (eI:∀ y∈o.op.operands,bJ E s.ae y=bJ E t.ae y) (h:j8 E f o K s)
  (hK:∀ pre preB G,iK E t o (t.fw pre preB G)→K (s.fw pre preB G)→K' (t.fw pre preB G)):j8 E f o K' t:=by
 unfold j8 at h ⊢;split at h
 ·rename_i x args tys ho;have h1:bJ E s.ae x=bJ E t.ae x:=eI x (by rw [ho]; simp [aaa,aaC]);have h2:nE E s.ae args.toList=nE E t.ae args.toList:=ir fun y hy=>eI y (by rw [ho]; simp [aaa,aaC]; exact .inr (by simpa using hy))
  try simp only [ho]
  rw [← h1,← h2,← hG];split at h
  ·refine cB.mono h fun r G' hk=>?_
   obtain ⟨pre,preB,G,p1,p2,p3,p4⟩:=bW.dH (s:=s) (t:=t) (al:=bX o.op) hn G' o.dst (.v r);rw [p3] at hk;have hO:iK E t o ((t.cD G').put o.dst (.v r)):=lM rfl rfl _;rw [p4] at hO ⊢;exact hK pre preB G hO hk
  ·refine kE.mono h fun r G' hk=>?_
   obtain ⟨pre,preB,G,p1,p2,p3,p4⟩:=bW.dH (s:=s) (t:=t) (al:=bX o.op) hn G' o.dst (.v (.bool r));rw [p3] at hk;have hO:iK E t o ((t.cD G').put o.dst (.v (.bool r))):=lM rfl rfl _;rw [p4] at hO ⊢;exact hK pre preB G hO hk
  ·exact h.elim
 ·exact h.elim
 ·split at h
  ·rename_i c s' hs;obtain ⟨t',h1,pre,preB,G,p1,p2,p3,p4⟩:=tc hn hG hB eI hs;have hO:=Gi h1;rw [h1];obtain ⟨rfl,hk⟩:=h.out;refine dE.mk rfl ?_;rw [p3] at hk;rw [p4] at hO ⊢;exact hK pre preB G hO hk
  ·exact h.elim
theorem HT (ha:bX o.op=true):j8 E f o K s↔∃ s',an E f s o=some (true,s')∧K s':=by
 unfold j8;split
 ·rename_i h;rw [h] at ha;simp [bX] at ha
 ·rename_i h;rw [h] at ha;simp [bX] at ha
 ·split
  ·rename_i c s' hs;constructor
   ·intro h;obtain ⟨rfl,hk⟩:=h.out;exact ⟨s',hs,hk⟩
   ·rintro ⟨Dl,h1,h2⟩;rw [hs] at h1;cases h1;exact dE.mk rfl h2
  ·rename_i hs;constructor
   ·exact fun h=>h.elim
   ·rintro ⟨Dl,h1,_⟩;rw [hs] at h1;cases h1
end
end Go.Am
