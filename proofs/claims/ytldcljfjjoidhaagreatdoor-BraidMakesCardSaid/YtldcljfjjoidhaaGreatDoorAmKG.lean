/- The abstract machine: what an operation does to a state is the same in a state that agrees with it. -/
import Derived.Test.YtldcljfjjoidhaaGreatDoorAmKF
import Derived.OrdersIn
set_option linter.all false
open Array renaming mem_append→abj
open Go.Call renaming operands→aaY
open Go.Op renaming operands→aad
open List renaming cons_append→aao, nil_append→aau, append_cancel_right→aaO, mem_toArray→abi, mem_map→abp
open Nat renaming blt→aaB, eq_of_beq_eq_true→abn, beq→abo
namespace Go.Am
open Go
def St.gB (s:St) (pre:bk) (preB:dc) (G:List GO):St:=⟨pre++s.ab,preB++s.boxes,G,s.marks,s.ro,s.n⟩
def Pre (al:Bool) (dst:Option Tmp) (pre:bk):Prop:=
 pre=[]∨∃ d x,dst=some d∧(pre=[.put d x]∨(al=true∧pre=[.put d x,.kill d]))
def b6 (al w:Bool) (dst:Option Tmp) (s t s' t':St):Prop:=
 ∃ pre preB G,Pre al dst pre∧(w=false→preB=[]∧G=s.G∧∃ x,s'=s.put dst x∧t'=t.put dst x)∧s'=s.gB pre preB G∧t'=t.gB pre preB G
section
variable {E:Env} {s t:St} {o:Oper}
theorem nj (s:St) (d:Tmp) (x:SV):s.put (some d) x=bif aaB d s.n then s.gB [.put d x] [] s.G else s:=by
 cases h:aaB d s.n <;> simp [St.put,h,St.gB]
theorem b6.put {al w:Bool} (hn:s.n=t.n) (hG:s.G=t.G) (dst:Option Tmp) (x:SV):b6 al w dst s t (s.put dst x) (t.put dst x):=by
 cases dst with
 |none=>exact ⟨[],[],s.G,.inl rfl,fun _=>⟨rfl,rfl,x,rfl,rfl⟩,rfl,by rw [hG]; rfl⟩
 |some d=>
  have hx:∃ y,s.put (some d) x=s.put (some d) y∧t.put (some d) x=t.put (some d) y:=⟨x,rfl,rfl⟩;revert hx;generalize hs:s.put (some d) x=s';generalize ht:t.put (some d) x=t';intro hx;rw [nj] at hs ht;rw [← hn] at ht;revert hs ht;cases aaB d s.n with
  |true=>exact fun hs ht=>⟨[.put d x],[],s.G,.inr ⟨d,x,rfl,.inl rfl⟩,fun _=>⟨rfl,rfl,hx⟩,hs.symm,by rw [hG]; exact ht.symm⟩
  |false=>exact fun hs ht=>⟨[],[],s.G,.inl rfl,fun _=>⟨rfl,rfl,hx⟩,hs.symm,by rw [hG]; exact ht.symm⟩
theorem b6.eL {al:Bool} (hn:s.n=t.n) (G:List GO) (dst:Option Tmp) (x:SV):b6 al true dst s t ((s.cP G).put dst x) ((t.cP G).put dst x):=by
 cases dst with
 |none=>exact ⟨[],[],G,.inl rfl,fun h=>(by cases h),rfl,rfl⟩
 |some d=>
  rw [nj,nj,show (t.cP G).n=(s.cP G).n from hn.symm];cases aaB d (s.cP G).n with
  |true=>exact ⟨[.put d x],[],G,.inr ⟨d,x,rfl,.inl rfl⟩,fun h=>(by cases h),rfl,rfl⟩
  |false=>exact ⟨[],[],G,.inl rfl,fun h=>(by cases h),rfl,rfl⟩
theorem b6.cP {al:Bool} (G:List GO) (dst:Option Tmp):b6 al true dst s t (s.cP G) (t.cP G):=⟨[],[],G,.inl rfl,fun h=>(by cases h),rfl,rfl⟩
theorem b6.xI {al:Bool} (hG:s.G=t.G) (dst:Option Tmp) (d:Nat) (cs:List AV):b6 al true dst s t (s.xI d cs) (t.xI d cs):=
 ⟨[],[(d,cs)],s.G,.inl rfl,fun h=>(by cases h),rfl,(by rw [hG]; rfl)⟩
theorem ju {a b:bk}:∀ {l:List Operand},(∀ y∈l,bQ E a y=bQ E b y)→oR E a l=oR E b l
 |[],_=>rfl
 |x :: l,h=>by
  simp only [oR];rw [h x (by simp),ju (l:=l) (fun y hy=>h y (by simp [hy]))]
theorem ov {a b:bk}:∀ {l:List (Nat × Operand)},(∀ p∈l,bQ E a p.2=bQ E b p.2)→Rj E a l=Rj E b l
 |[],_=>rfl
 |(i,x) :: l,h=>by
  simp only [Rj];rw [h (i,x) (by simp),ov (l:=l) (fun y hy=>h y (by simp [hy]))]
theorem BN (hG:s.G=t.G) (p:SV) (hB:∀ k off,p=.lp k off→eF s.boxes k=eF t.boxes k):oQ s p=oQ t p:=by
 unfold oQ;rw [hG];cases p with
 |lp k off=>simp only [hB k off rfl]
 |v a=>cases a <;> rfl
 |_=>rfl
theorem Fv (hG:s.G=t.G) (ty:TypeId) (p:SV) (hB:∀ k off,p=.lp k off→eF s.boxes k=eF t.boxes k):tL E s ty p=tL E t ty p:=by
 unfold tL;rw [BN hG p hB]
theorem wX (hG:s.G=t.G) (id f i sz:Nat) (ty:TypeId):yU E s id f i sz ty=yU E t id f i sz ty:=by
 unfold yU;rw [hG]
theorem Fw (hG:s.G=t.G) (ty:TypeId) (p:SV) (hB:∀ k off,p=.lp k off→eF s.boxes k=eF t.boxes k):Cd E s ty p=Cd E t ty p:=by
 unfold Cd;split
 ·rw [wX hG]
 ·rw [Fv hG _ _ hB]
theorem Fx (hG:s.G=t.G) (esz:Nat) (d x:AV):tN s esz d x=tN t esz d x:=by
 unfold tN;rw [hG]
theorem wY {f:FuncId} {dst:Option Tmp} {el:TypeId} {cs:List AV} {c:Bool} {s':St} (hn:s.n=t.n) (hG:s.G=t.G) (h:gq E f s dst el cs=some (c,s')) :
  ∃ t',gq E f t dst el cs=some (c,t')∧b6 true true dst s t s' t':=by
 unfold gq at *;cases dst with
 |none=>cases h
 |some d=>
  simp only at *;split at h
  ·rename_i hg;injection h with h;injection h with h1 h2;subst h1 h2;rw [if_pos hg];refine ⟨_,rfl,?_⟩;have:=b6.eL (al:=true) hn (s.G++[.row cs el]) (some d) (.v (.ptr s.G.length 0));rw [hG] at this;have e:s.fj (.row cs el)=s.cP (t.G++[.row cs el]):=by rw [← hG]; rfl
   rw [e,hG];exact this
  ·rename_i hg;rw [if_neg hg,← hn];split at h
   ·rename_i hb;injection h with h;injection h with h1 h2;subst h1 h2;refine ⟨_,rfl,[.put d (.lp d 0),.kill d],[(d,cs)],s.G,.inr ⟨d,_,rfl,.inr ⟨rfl,rfl⟩⟩,fun h=>(by cases h),?_,?_⟩
    ·simp [St.put,St.xI,St.kill,hb,St.gB]
    ·simp only [St.put,St.xI,St.kill,← hn,hb,St.gB,hG];rfl
   ·cases h
theorem Fy {ty:TypeId} {p x:SV} {s':St} {al:Bool} {dst:Option Tmp} (hG:s.G=t.G) (hB:∀ k off,p=.lp k off→eF s.boxes k=eF t.boxes k) (h:kY E s ty p x=some s') :
  ∃ t',kY E t ty p x=some t'∧b6 al true dst s t s' t':=by
 unfold kY at *;split at h
 ·split at h
  ·rename_i hc;rw [if_pos hc];split at h
   ·rw [← hB _ _ rfl];split at h
    ·split at h
     ·rename_i Sb;cases h;simp only [Sb,if_true];exact ⟨_,rfl,.xI hG _ _ _⟩
     ·cases h
    ·cases h
   ·rw [← hG];split at h
    ·split at h
     ·rename_i Sb;cases h;simp only [Sb,if_true];exact ⟨_,rfl,.cP _ _⟩
     ·cases h
    ·cases h
   ·cases h
  ·cases h
 ·cases h
theorem Fz {ty:TypeId} {p x:SV} {c:Bool} {s':St} {al:Bool} {dst:Option Tmp} (hG:s.G=t.G) (hB:∀ k off,p=.lp k off→eF s.boxes k=eF t.boxes k) (h:kZ E s ty p x=some (c,s')) :
  ∃ t',kZ E t ty p x=some (c,t')∧b6 al true dst s t s' t':=by
 unfold kZ at *;split at h
 ·rw [← hG];split at h
  ·split at h
   ·rename_i h1 h2 hc;simp only [hc,if_true];split at h
    ·rename_i Sb;injection h with h; injection h with e1 e2;subst e1; subst e2;simp only [Sb,if_true];exact ⟨_,rfl,.cP _ _⟩
    ·rename_i Sb;rw [if_neg Sb,← wX hG];split at h
     ·rename_i hg;split at h
      ·rename_i hc3;injection h with h; injection h with e1 e2;subst e1; subst e2;simp only [hc3,if_true];exact ⟨_,rfl,.cP _ _⟩
      ·cases h
     ·cases h
   ·cases h
  ·cases h
 ·split at h
  ·rename_i s1 hs;injection h with h; injection h with e1 e2;subst e1; subst e2;obtain ⟨t',h3,h4⟩:=Fy (al:=al) (dst:=dst) hG hB hs;simp only [h3];exact ⟨_,rfl,h4⟩
  ·cases h
def b7:Op→Bool
 |.alloc _=>true
 |.box _ _=>true
 |_=>false
def vh:Op→Bool
 |.move _ | .assign _ | .pick _ _ _ | .build _ _ | .buildSlice _ _ _ | .load _ _ | .binOp _ _ _ _ _ | .unOp _ _ _ | .convert _ _ _ | .makeFunc _ _ _ | .fieldAddr _ _ _ | .field _ _ _
 |.indexAddr _ _ _ | .index _ _ _ | .slice _ _ _ _ _ | .extract _ _ | .lookup _ _ _ _ | .nilCheck _=>true
 |.call { callee:=.builtin .len,.. }=>true
 |.call { callee:=.builtin .max,.. }=>true
 |.call { callee:=.builtin .min,.. }=>true
 |_=>false
def Ym:Op→Bool
 |.load _ _=>true
 |.lookup _ _ _ _=>true
 |.call _=>true
 |.convert _ _ _=>true
 |_=>false
def Sc:Builtin→Bool
 |.append | .copy | .clear=>true
 |_=>false
theorem BO {dst:Option Tmp} {b:Builtin} {l:List AV} {tys:List TypeId} {c:Bool} {s':St} {al:Bool} (hn:s.n=t.n) (hG:s.G=t.G) (h:bU E s dst b l tys=some (c,s')) :
  ∃ t',bU E t dst b l tys=some (c,t')∧b6 al (Sc b) dst s t s' t':=by
 obtain ⟨sl,bx,G,m,ro,n⟩:=s;obtain ⟨sl',MH,G',m',od,n'⟩:=t;have hc:=fun esz d x=>Fx (s:=⟨sl,bx,G,m,ro,n⟩) (t:=⟨sl',MH,G',m',od,n'⟩) hG esz d x
 simp only at hn hG;subst hn hG;unfold bU at h ⊢;simp only [← hc];cases b
 all_goals (try (cases h; done))
 all_goals (try simp only at h ⊢)
 all_goals (try (split at h <;> first | (cases h; done) | simp only at h ⊢))
 all_goals (repeat' (split at h))
 all_goals (first|(cases h; done) | skip)
 all_goals (injection h with h; injection h with h1 h2; subst h1 h2)
 all_goals (try simp only [if_true, *])
 all_goals (first|exact ⟨_,rfl,.put (by rfl) (by rfl) _ _⟩ | exact ⟨_,rfl,.eL (by rfl) _ _ _⟩ | exact ⟨_,rfl,.cP _ _⟩)
theorem zG (hG:s.G=t.G) (a b:TypeId) (x:SV):n9 E s a b x=n9 E t a b x:=by
 unfold n9;rw [hG]
theorem BP (hG:s.G=t.G) (ty:TypeId) (m k:SV):nb E s ty m k=nb E t ty m k:=by
 have:mapOf s=mapOf t:=by funext m; unfold mapOf; rw [hG]
 unfold nb n3;rw [this,hG]
theorem uo {ty:TypeId} {m k x:SV} {s':St} {al:Bool} {dst:Option Tmp} (hG:s.G=t.G) (h:gr E s ty m k x=some s') :
  ∃ t',gr E t ty m k x=some t'∧b6 al true dst s t s' t':=by
 unfold gr at *;rw [← hG]
 repeat' (split at h)
 all_goals (first|(cases h; done) | skip)
 cases h;simp only [*];exact ⟨_,rfl,.cP _ _⟩
theorem Ic {dst:Option Tmp} {x:SV} {s':St} {al:Bool} (hn:s.n=t.n) (hG:s.G=t.G) (h:nf s dst x=some s') :
  ∃ t',nf t dst x=some t'∧b6 al true dst s t s' t':=by
 unfold nf at *;rw [← hG];split at h
 ·split at h
  ·rename_i l pos hg;cases hb:aaB pos l.length with
   |true=>
    rw [hb] at h;simp only [cond_true] at h ⊢;cases h;exact ⟨_,rfl,.eL hn _ _ _⟩
   |false=>
    rw [hb] at h;simp only [cond_false] at h ⊢;cases h;obtain ⟨pre,preB,G,p1,p2,p3⟩:=b6.put (al:=al) (w:=true) hn hG dst (.v (.bu [.bool false]));exact ⟨_,rfl,pre,preB,G,p1,p2,p3⟩
  ·cases h
 ·cases h
theorem uq {f:FuncId} {r:Bool × St} (h:jq E f s o=some r):∃ args tys,o.op=.call { callee:=.builtin .append,args:=args,argTypes:=tys }:=by
 unfold jq at h;cases h
theorem Ie {f:FuncId} {c:Bool} {s':St} {al:Bool} (hn:s.n=t.n) (hG:s.G=t.G) (fP:∀ y∈o.op.operands,bQ E s.ab y=bQ E t.ab y)
  (h:jq E f s o=some (c,s')):∃ t',jq E f t o=some (c,t')∧b6 al true o.dst s t s' t':=by
 unfold jq at h;cases h
theorem xV {f:FuncId} (hn:s.n=t.n) (hG:s.G=t.G) (fP:∀ y∈o.op.operands,bQ E s.ab y=bQ E t.ab y) (h:jq E f s o=none):jq E f t o=none:=rfl
theorem ur {f:FuncId} {c:Bool} {s':St} (hn:s.n=t.n) (hG:s.G=t.G) (hB:∀ k off,(∃ y∈o.op.operands,bQ E s.ab y=.lp k off)→eF s.boxes k=eF t.boxes k) (fP:∀ y∈o.op.operands,bQ E s.ab y=bQ E t.ab y)
  (h:an E f s o=some (c,s')):∃ t',an E f t o=some (c,t')∧b6 (b7 o.op) (!vh o.op) o.dst s t s' t':=by
 obtain ⟨dst,op,ty,pos,after,guard⟩:=o;cases op
 case move x=>
  simp only [an,fP x (by simp [aad])] at h ⊢;split at h
  all_goals (injection h with h; injection h with h1 h2; subst h1 h2; (try simp only [*]); exact ⟨_,rfl,.put hn hG _ _⟩)
 case assign x=>
  simp only [an,fP x (by simp [aad])] at h ⊢;split at h
  all_goals (injection h with h; injection h with h1 h2; subst h1 h2; (try simp only [*]); exact ⟨_,rfl,.put hn hG _ _⟩)
 case pick x y z=>
  simp only [an,fP x (by simp [aad]),fP y (by simp [aad]),fP z (by simp [aad])] at h ⊢;split at h
  ·injection h with h; injection h with h1 h2; subst h1 h2; (try simp only [*]); exact ⟨_,rfl,.put hn hG _ _⟩
  ·cases h
 case alloc e=>
  simp only [an] at h ⊢
  repeat' (split at h)
  all_goals (first|(cases h; done) | skip)
  simp only [*];exact wY hn hG h
 case box e x=>
  simp only [an,fP x (by simp [aad])] at h ⊢
  repeat' (split at h)
  all_goals (first|(cases h; done) | skip)
  simp only [*];exact wY hn hG h
 case build ty ps=>
  have he:oS E s ty ps.toList=oS E t ty ps.toList:=by
   unfold oS;rw [ov (fun p hp=>fP p.2 (by simp only [aad,abi,abp]; exact ⟨p,hp,rfl⟩))]
  simp only [an,he] at h ⊢;split at h
  ·injection h with h; injection h with h1 h2; subst h1 h2; (try simp only [*]); exact ⟨_,rfl,.put hn hG _ _⟩
  ·cases h
 case buildSlice ty len ps=>
  have he:cn E s ty len ps.toList=cn E t ty len ps.toList:=by
   unfold cn;rw [ov (fun p hp=>fP p.2 (by simp only [aad,abi,abp]; exact ⟨p,hp,rfl⟩))]
  simp only [an,he] at h ⊢;split at h
  ·injection h with h; injection h with h1 h2; subst h1 h2; (try simp only [*]); exact ⟨_,rfl,.put hn hG _ _⟩
  ·cases h
 case load ty x=>
  simp only [an,fP x (by simp [aad])] at h ⊢;rw [Fw hG ty _ (fun k off e=>hB k off ⟨x,by simp [aad],by rw [fP x (by simp [aad])]; exact e⟩)] at h;split at h
  ·injection h with h; injection h with h1 h2; subst h1 h2; (try simp only [*]); exact ⟨_,rfl,.put hn hG _ _⟩
  ·cases h
 case store ty x y=>
  simp only [an,fP x (by simp [aad]),fP y (by simp [aad])] at h ⊢;split at h
  ·rename_i s1 hs;injection h with h; injection h with h1 h2; subst h1 h2;obtain ⟨t',h3,h4⟩:=Fz (al:=false) (dst:=none) hG (fun k off e=>hB k off ⟨x,by simp [aad],by rw [fP x (by simp [aad])]; exact e⟩) hs;rw [h3];exact ⟨_,rfl,h4⟩
  ·cases h
 case binOp op a x y b=>
  simp only [an,fP x (by simp [aad]),fP y (by simp [aad])] at h ⊢
  repeat' (split at h)
  all_goals (first|(cases h; done) | skip)
  all_goals (injection h with h; injection h with h1 h2; subst h1 h2; (try simp only [*]); exact ⟨_,rfl,.put hn hG _ _⟩)
 case unOp op a x=>
  simp only [an,fP x (by simp [aad])] at h ⊢
  repeat' (split at h)
  all_goals (first|(cases h; done) | skip)
  all_goals (injection h with h; injection h with h1 h2; subst h1 h2; (try simp only [*]); exact ⟨_,rfl,.put hn hG _ _⟩)
 case nilCheck x=>
  simp only [an,fP x (by simp [aad])] at h ⊢
  repeat' (split at h)
  all_goals (first|(cases h; done) | skip)
  all_goals (injection h with h; injection h with h1 h2; subst h1 h2; (try simp only [*]); exact ⟨_,rfl,.put hn hG _ _⟩)
 case convert a b x=>
  simp only [an,fP x (by simp [aad]),zG hG] at h ⊢
  repeat' (split at h)
  all_goals (first|(cases h; done) | skip)
  all_goals (injection h with h; injection h with h1 h2; subst h1 h2; (try simp only [*]); exact ⟨_,rfl,.put hn hG _ _⟩)
 case makeFunc fo a b=>
  cases fo with
  |func g=>
   have h1:oR E s.ab a.toList=oR E t.ab a.toList:=ju fun y hy=>fP y (by simp only [aad,abj]; exact .inl (by simpa using hy))
   have h2:oR E s.ab b.toList=oR E t.ab b.toList:=ju fun y hy=>fP y (by simp only [aad,abj]; exact .inr (by simpa using hy))
   simp only [an,h1,h2] at h ⊢
   repeat' (split at h)
   all_goals (first|(cases h; done) | skip)
   all_goals (injection h with h; injection h with h1 h2; subst h1 h2; (try simp only [*]); exact ⟨_,rfl,.put hn hG _ _⟩)
  |_=>simp [an] at h
 case fieldAddr a x j=>
  simp only [an,fP x (by simp [aad])] at h ⊢
  repeat' (split at h)
  all_goals (first|(cases h; done) | skip)
  all_goals (injection h with h; injection h with h1 h2; subst h1 h2; (try simp only [*]); exact ⟨_,rfl,.put hn hG _ _⟩)
 case field a x j=>
  simp only [an,fP x (by simp [aad])] at h ⊢
  repeat' (split at h)
  all_goals (first|(cases h; done) | skip)
  all_goals (injection h with h; injection h with h1 h2; subst h1 h2; (try simp only [*]); exact ⟨_,rfl,.put hn hG _ _⟩)
 case indexAddr a x y=>
  simp only [an,fP x (by simp [aad]),fP y (by simp [aad])] at h ⊢
  repeat' (split at h)
  all_goals (first|(cases h; done) | skip)
  all_goals (injection h with h; injection h with h1 h2; subst h1 h2; (try simp only [*]); exact ⟨_,rfl,.put hn hG _ _⟩)
 case index a x y=>
  simp only [an,fP x (by simp [aad]),fP y (by simp [aad])] at h ⊢
  repeat' (split at h)
  all_goals (first|(cases h; done) | skip)
  all_goals (injection h with h; injection h with h1 h2; subst h1 h2; (try simp only [*]); exact ⟨_,rfl,.put hn hG _ _⟩)
 case slice a x lo hi mx=>
  have h1:oU E s.ab lo=oU E t.ab lo:=by
   cases lo with
   |none=>rfl
   |some y=>simp only [oU]; rw [fP y (by simp [aad])]
  have h2:oU E s.ab hi=oU E t.ab hi:=by
   cases hi with
   |none=>rfl
   |some y=>simp only [oU]; rw [fP y (by simp [aad])]
  simp only [an,fP x (by simp [aad]),h1,h2] at h ⊢
  repeat' (split at h)
  all_goals (first|(cases h; done) | skip)
  all_goals (injection h with h; injection h with h1 h2; subst h1 h2; (try simp only [*]); exact ⟨_,rfl,.put hn hG _ _⟩)
 case extract x i=>
  simp only [an,fP x (by simp [aad])] at h ⊢
  repeat' (split at h)
  all_goals (first|(cases h; done) | skip)
  all_goals (injection h with h; injection h with h1 h2; subst h1 h2; (try simp only [*]); exact ⟨_,rfl,.put hn hG _ _⟩)
 case makeSlice ty x y=>
  simp only [an,fP x (by simp [aad]),fP y (by simp [aad])] at h ⊢
  repeat' (split at h)
  all_goals (first|(cases h; done) | skip)
  all_goals (injection h with h; injection h with h1 h2; subst h1 h2)
  all_goals (simp only [*])
  all_goals (refine ⟨_,rfl,?_⟩)
  all_goals (have e:∀ o,t.fj o=t.cP (s.G++[o]):=fun o=>by rw [hG]; rfl)
  all_goals (rw [e,← hG])
  all_goals (exact b6.eL (al:=false) hn _ dst _)
 case lookup ty x y ok=>
  simp only [an,fP x (by simp [aad]),fP y (by simp [aad]),BP hG] at h ⊢;split at h
  ·injection h with h; injection h with h1 h2; subst h1 h2; (try simp only [*]); exact ⟨_,rfl,.put hn hG _ _⟩
  ·cases h
 case mapUpdate ty x y z=>
  simp only [an,fP x (by simp [aad]),fP y (by simp [aad]),fP z (by simp [aad])] at h ⊢;split at h
  ·rename_i s1 hs;injection h with h; injection h with h1 h2; subst h1 h2;obtain ⟨t',h3,h4⟩:=uo (al:=false) (dst:=none) hG hs;rw [h3];exact ⟨_,rfl,h4⟩
  ·cases h
 case insert ty x y z=>
  simp only [an,fP x (by simp [aad]),fP y (by simp [aad]),fP z (by simp [aad])] at h ⊢;split at h
  ·rename_i s1 hs;injection h with h; injection h with h1 h2; subst h1 h2;obtain ⟨t',h3,h4⟩:=uo (al:=false) (dst:=none) hG hs;rw [h3];exact ⟨_,rfl,h4⟩
  ·cases h
 case entry x=>
  simp only [an,fP x (by simp [aad])] at h ⊢;have e:vo E s (bQ E t.ab x)=vo E t (bQ E t.ab x):=by unfold vo; rw [hG]
  rw [e] at h;split at h
  ·injection h with h; injection h with h1 h2; subst h1 h2; (try simp only [*]); exact ⟨_,rfl,.put hn hG _ _⟩
  ·cases h
 case mapEntry ty x y=>
  simp only [an,fP x (by simp [aad]),fP y (by simp [aad])] at h ⊢;unfold iq at h ⊢;rw [← hG]
  repeat' (split at h)
  all_goals (first|(cases h; done) | skip)
  rename_i nX
  repeat' (split at nX)
  all_goals (first|(cases nX; done) | skip)
  injection nX with nX; injection nX with h3 nX; injection nX with h4 h5;injection h with h; injection h with h1 h2; subst h1 h2 h3 h4 h5;simp only [*,if_true];exact ⟨_,rfl,b6.eL (al:=false) hn _ dst _⟩
 case entryStore ty x y z=>
  simp only [an,fP x (by simp [aad]),fP y (by simp [aad]),fP z (by simp [aad])] at h ⊢;unfold fK at h ⊢;rw [← hG]
  repeat' (split at h)
  all_goals (first|(cases h; done) | skip)
  rename_i nX
  repeat' (split at nX)
  all_goals (first|(cases nX; done) | skip)
  injection nX with nX; injection nX with h3 h5;injection h with h; injection h with h1 h2; subst h1 h2 h3 h5;simp only [*];exact ⟨_,rfl,.cP _ _⟩
 case range ty x=>
  simp only [an,fP x (by simp [aad])] at h ⊢
  repeat' (split at h)
  all_goals (first|(cases h; done) | skip)
  ·injection h with h; injection h with h1 h2; subst h1 h2
   (try simp only [*])
   refine ⟨_,rfl,?_⟩;have e:∀ o,t.fj o=t.cP (s.G++[o]):=fun o=>by rw [hG]; rfl
   rw [e,← hG];exact b6.eL (al:=false) hn _ dst _
  ·rename_i hk hg;injection h with h; injection h with h1 h2; subst h1 h2;have sk:=hg;rw [hG] at sk;simp only [hk,sk];refine ⟨_,rfl,?_⟩;have e:∀ o,t.fj o=t.cP (s.G++[o]):=fun o=>by rw [hG]; rfl
   rw [e,← hG];exact b6.eL (al:=false) hn _ dst _
 case next x b=>
  cases b with
  |false=>simp [an] at h
  |true=>
   simp only [an,fP x (by simp [aad])] at h ⊢;split at h
   ·rename_i s1 hs;injection h with h; injection h with h1 h2; subst h1 h2;obtain ⟨t',h3,h4⟩:=Ic (al:=false) hn hG hs;rw [h3];exact ⟨_,rfl,h4⟩
   ·cases h
 case makeMap ty r=>
  cases r with
  |none=>
   simp only [an] at h ⊢;injection h with h; injection h with h1 h2; subst h1 h2;refine ⟨_,rfl,?_⟩;have:=b6.eL (al:=false) hn (s.G++[.map []]) dst (.v (.map s.G.length));have e:∀ o,t.fj o=t.cP (s.G++[o]):=fun o=>by rw [hG]; rfl
   rw [e,← hG];exact this
  |some _=>simp [an] at h
 case call cl=>
  obtain ⟨callee,args,tys⟩:=cl;cases callee with
  |builtin b=>
   have h1:oR E s.ab args.toList=oR E t.ab args.toList:=ju fun y hy=>fP y (by simp [aad,aaY]; simpa using hy)
   cases hf:jq E f s { dst:=dst,op:=.call { callee:=.builtin b,args:=args,argTypes:=tys },type:=ty,pos:=pos,after:=after,guard:=guard } with
   |some r=>
    simp only [an,hf] at h;obtain ⟨t',q1,q2⟩:=Ie (al:=b7 (.call { callee:=.builtin b,args:=args,argTypes:=tys })) hn hG fP (c:=r.1) (s':=r.2) hf;cases h;obtain ⟨a2,t2,ho⟩:=uq hf;cases ho;refine ⟨t',by simp only [an,q1],?_⟩;exact q2
   |none=>
   have hf':=xV hn hG fP hf;simp only [an,hf,hf',h1] at h ⊢;split at h
   ·(try simp only [*])
    obtain ⟨t',h3,h4⟩:=BO (al:=false) hn hG h;refine ⟨t',h3,?_⟩;have:(!vh (.call { callee:=.builtin b,args:=args,argTypes:=tys }))=Sc b∨Sc b=false:=by cases b <;> simp [vh,Sc]
    rcases this with this|this
    ·rw [this]; exact h4
    ·obtain ⟨pre,preB,G,p1,p2,p3⟩:=h4;exact ⟨pre,preB,G,p1,fun _=>p2 this,p3⟩
   ·cases h
  |_=>simp [an] at h
 all_goals (simp [an] at h)
theorem jv {f:FuncId} {c:Bool} {s':St} (hn:s.n=t.n) (hG:s.G=t.G) (hB:eF s.boxes=eF t.boxes) (fP:∀ y∈o.op.operands,bQ E s.ab y=bQ E t.ab y)
  (h:an E f s o=some (c,s')):∃ t',an E f t o=some (c,t')∧b6 (b7 o.op) (!vh o.op) o.dst s t s' t':=
 ur hn hG (fun k _ _=>by rw [hB]) fP h
end
end Go.Am
namespace Go.Am
open Go
structure rN (s t:St):Prop where
 l:lk s.ab=lk t.ab
 b:eF s.boxes=eF t.boxes
 G:s.G=t.G
 m:s.marks=t.marks
 ro:s.ro=t.ro
 n:s.n=t.n
theorem rN.refl (s:St):rN s s:=⟨rfl,rfl,rfl,rfl,rfl,rfl⟩
theorem rN.symm {s t:St} (h:rN s t):rN t s:=⟨h.l.symm,h.b.symm,h.G.symm,h.m.symm,h.ro.symm,h.n.symm⟩
theorem rN.trans {s t u:St} (h:rN s t) (k:rN t u):rN s u:=⟨h.l.trans k.l,h.b.trans k.b,h.G.trans k.G,h.m.trans k.m,h.ro.trans k.ro,h.n.trans k.n⟩
theorem ow {a b:bk} {e:Nat} (h:lk a e=lk b e):∀ pre:bk,lk (pre++a) e=lk (pre++b) e
 |[]=>h
 |.put d x :: pre=>by
  simp only [aao,lk];rw [ow h pre]
 |.kill d :: pre=>by
  simp only [aao,lk];rw [ow h pre]
theorem zH {a b:dc} {e:Nat} (h:eF a e=eF b e):∀ pre:dc,eF (pre++a) e=eF (pre++b) e
 |[]=>h
 |(d,x) :: pre=>by
  simp only [aao,eF];rw [zH h pre]
theorem rN.gB {s t:St} (h:rN s t) (pre:bk) (preB:dc) (G:List GO):rN (s.gB pre preB G) (t.gB pre preB G):=
 ⟨funext fun e=>ow (by rw [h.l]) pre,funext fun e=>zH (by rw [h.b]) preB,rfl,h.m,h.ro,h.n⟩
theorem No {E:Env} {a b:bk} {x:Operand} (h:∀ t,x=.tmp t→lk a t=lk b t):bQ E a x=bQ E b x:=by
 cases x with
 |tmp t=>exact h t rfl
 |_=>rfl
theorem rN.bQ {E:Env} {s t:St} (h:rN s t) (x:Operand):bQ E s.ab x=bQ E t.ab x:=No fun e _=>by rw [h.l]
section CF
variable {E:Env} {R:ak} {w:World} {β:Nat→Nat} {s t:St} {a:Act}
theorem bq.eqv (h:bq E R w β s a) (e:rN s t):bq E R w β t a where
 g:=by rw [← e.G]; exact h.g
 b:=⟨fun k cs hk=>h.b.box k cs (by rw [e.b]; exact hk),fun k k' c c' h1 h2=>h.b.inj k k' c c' (by rw [e.b]; exact h1) (by rw [e.b]; exact h2)⟩
 t:=fun i hi=>by
  rw [← e.l] at hi ⊢;exact h.t i hi
 n:=by rw [← e.n]; exact h.n
 d:=by rw [← e.m]; exact h.d
theorem yq {bx MH:dc} (h:eF bx=eF MH) {b:Nat} (k:Own R β bx b):Own R β MH b:=by
 rcases k with k|⟨j,cs,h1,h2⟩
 ·exact .inl k
 ·exact .inr ⟨j,cs,by rw [← h]; exact h1,h2⟩
theorem Step.eqv {R':ak} {w':World} {β':Nat→Nat} {bx MH cx cx':dc} (h:Step R w β bx R' w' β' MH) (h1:eF bx=eF cx) (h2:eF MH=eF cx'):Step R w β cx R' w' β' cx':=
 ⟨h.ext,h.os,h.tape,h.output,h.size,fun b hb hn=>h.bJ b hb (fun ho=>hn (yq h1 ho)),fun b hb ho=>yq h1 (h.own b hb (yq h2.symm ho)),fun b o hi hb hn=>h.im b o hi hb (fun ho=>hn (yq h1 ho))⟩
end CF
section ops
variable {E:Env} {s t:St} {f:FuncId} {o:Oper} {K K':St→Prop}
def Inv (K:St→Prop):Prop:=∀ s t,rN s t→K s→K t
theorem FA {op:Op} (h:vh op=true):b7 op=false:=by
 cases op <;> simp_all [vh,b7]
theorem vD (hn:s.n=t.n) (hG:s.G=t.G) (hB:eF s.boxes=eF t.boxes) (fP:∀ y∈o.op.operands,bQ E s.ab y=bQ E t.ab y) (h:lF E f o K s)
  (hK:∀ pre preB G,Pre (b7 o.op) o.dst pre→(vh o.op=true→preB=[]∧G=s.G)→K (s.gB pre preB G)→K' (t.gB pre preB G)):lF E f o K' t:=by
 unfold lF at h ⊢;split at h
 ·rename_i x args tys ho;have h1:bQ E s.ab x=bQ E t.ab x:=fP x (by rw [ho]; simp [aad,aaY]);have h2:oR E s.ab args.toList=oR E t.ab args.toList:=ju fun y hy=>fP y (by rw [ho]; simp [aad,aaY]; exact .inr (by simpa using hy))
  try simp only [ho]
  rw [← h1,← h2,← hG];split at h
  ·refine cO.mono h fun r G' hk=>?_
   obtain ⟨pre,preB,G,p1,p2,p3,p4⟩:=b6.eL (s:=s) (t:=t) (al:=b7 o.op) hn G' o.dst (.v r);rw [p3] at hk;rw [p4];exact hK pre preB G p1 (fun e=>by rw [ho] at e; simp [vh] at e) hk
  ·refine mh.mono h fun r G' hk=>?_
   obtain ⟨pre,preB,G,p1,p2,p3,p4⟩:=b6.eL (s:=s) (t:=t) (al:=b7 o.op) hn G' o.dst (.v (.bool r));rw [p3] at hk;rw [p4];exact hK pre preB G p1 (fun e=>by rw [ho] at e; simp [vh] at e) hk
  ·exact h.elim
 ·exact h.elim
 ·split at h
  ·rename_i c s' hs;obtain ⟨t',h1,pre,preB,G,p1,p2,p3,p4⟩:=jv hn hG hB fP hs;rw [h1];obtain ⟨rfl,hk⟩:=h.out;refine eJ.mk rfl ?_;rw [p3] at hk;rw [p4];exact hK pre preB G p1 (fun e=>⟨(p2 (by simp [e])).1,(p2 (by simp [e])).2.1⟩) hk
  ·exact h.elim
theorem vE (h:lF E f o K s) (hK:∀ s,K s→K' s):lF E f o K' s:=
 vD rfl rfl rfl (fun _ _=>rfl) h fun _ _ _ _ _ hk=>hK _ hk
theorem zI (h:lF E f o K s) (e:rN s t) (hK:Inv K):lF E f o K t:=
 vD e.n e.G e.b (fun y _=>e.bQ y) h fun _ _ _ _ _ hk=>hK _ _ (e.gB _ _ _) hk
def ES (ops:List Oper) (s:St) (o:Oper):Option Bool:=match o.guard with
 |none=>some true
 |some (j,want)=>match qG ops j with
  |some d=>match lk s.ab d with
   |.v (.bool b)=>some (b == want)
   |.v (.bu [])=>some false
   |_=>none
  |none=>none
theorem FB (s:St) {d:Tmp} {x:SV} (h:lk s.ab d=x):rN s (s.put (some d) x):=by
 simp only [St.put];split
 ·refine ⟨funext fun e=>?_,rfl,rfl,rfl,rfl,rfl⟩;by_cases k:d=e
  ·subst k; rw [aC]; exact h
  ·rw [aW k]
 ·exact rN.refl s
theorem rN.put {s t:St} (h:rN s t) (d:Option Tmp) (x:SV):rN (s.put d x) (t.put d x):=by
 obtain ⟨pre,preB,G,_,_,p3,p4⟩:=b6.put (s:=s) (t:=t) (al:=false) (w:=false) h.n h.G d x;rw [p3,p4];exact h.gB _ _ _
theorem hZ {ops:List Oper} (hK:Inv K):cA E f ops o K s↔(ES ops s o=some true∧lF E f o K s)∨(ES ops s o=some false∧K (s.put o.dst (.v gW))):=by
 unfold cA ES;cases hg:o.guard with
 |none=>simp
 |some p=>
  obtain ⟨j,want⟩:=p;simp only;cases hd:qG ops j with
  |none=>simp
  |some d=>
   simp only;cases hl:lk s.ab d with
   |none=>simp
   |lp _ _=>simp
   |v a=>
    cases a with
    |bool b=>
     have e1:b=want→rN s (s.put (some d) (.v (.bool want))):=fun e=>FB s (by rw [hl,e])
     have e2:b=(!want)→rN s (s.put (some d) (.v (.bool (!want)))):=fun e=>FB s (by rw [hl,e])
     constructor
     ·intro ⟨h1,h2⟩;by_cases e:b=want
      ·exact .inl ⟨by simp [e],zI (h1 e) (e1 e).symm hK⟩
      ·have e':b=(!want):=by cases b <;> cases want <;> simp_all
       exact .inr ⟨by simp [e],hK _ _ ((e2 e').symm.put _ _) (h2 e')⟩
     ·rintro (⟨h1,h2⟩|⟨h1,h2⟩)
      ·have e:b=want:=by simpa using h1
       exact ⟨fun e=>zI h2 (e1 e) hK,fun e'=>by subst e; cases b <;> cases e'⟩
      ·have e:¬ b=want:=by simpa using h1
       exact ⟨fun k=>absurd k e,fun e'=>hK _ _ ((e2 e').put _ _) h2⟩
    |bu vs=>cases vs <;> simp
    |_=>simp
theorem cB {ops:List Oper} (h:cA E f ops o K s) (hK:∀ s,K s→K' s):cA E f ops o K' s:=by
 unfold cA at h ⊢;split at h
 ·exact vE h hK
 ·split at h
  ·exact h.elim
  ·split at h
   ·exact ⟨fun e=>vE (h.1 e) hK,fun e=>hK _ (h.2 e)⟩
   ·exact hK _ h
   ·exact h.elim
theorem DP {ops:List Oper} (e:rN s t):ES ops s o=ES ops t o:=by
 unfold ES;rw [e.l]
theorem FC {ops:List Oper} (hK:Inv K):Inv (cA E f ops o K):=fun s t e h=>by
 rw [hZ hK] at h ⊢;rcases h with ⟨h1,h2⟩|⟨h1,h2⟩
 ·exact .inl ⟨by rw [← DP e]; exact h1,zI h2 e hK⟩
 ·exact .inr ⟨by rw [← DP e]; exact h1,hK _ _ (e.put _ _) h2⟩
end ops
end Go.Am
namespace Go.Am
open Go
def Np (dst:Option Tmp) (s t s' t':St):Prop:=∃ x,s'=s.put dst x∧t'=t.put dst x
section
variable {E:Env} {s t:St} {o:Oper}
theorem Np.put (_:s.n=t.n) (dst:Option Tmp) (x:SV):Np dst s t (s.put dst x) (t.put dst x):=⟨x,rfl,rfl⟩
theorem FD {f:FuncId} {c:Bool} {s':St} (hN:vh o.op=true) (hR:Ym o.op=false) (hn:s.n=t.n) (fP:∀ y∈o.op.operands,bQ E s.ab y=bQ E t.ab y)
  (h:an E f s o=some (c,s')):∃ t',an E f t o=some (c,t')∧Np o.dst s t s' t':=by
 obtain ⟨dst,op,ty,pos,after,guard⟩:=o;cases op
 case move x=>
  simp only [an,fP x (by simp [aad])] at h ⊢;split at h
  all_goals (injection h with h; injection h with h1 h2; subst h1 h2; (try simp only [*]); exact ⟨_,rfl,.put hn _ _⟩)
 case assign x=>
  simp only [an,fP x (by simp [aad])] at h ⊢;split at h
  all_goals (injection h with h; injection h with h1 h2; subst h1 h2; (try simp only [*]); exact ⟨_,rfl,.put hn _ _⟩)
 case pick x y z=>
  simp only [an,fP x (by simp [aad]),fP y (by simp [aad]),fP z (by simp [aad])] at h ⊢;split at h
  ·injection h with h; injection h with h1 h2; subst h1 h2; (try simp only [*]); exact ⟨_,rfl,.put hn _ _⟩
  ·cases h
 case build ty ps=>
  have he:oS E s ty ps.toList=oS E t ty ps.toList:=by
   unfold oS;rw [ov (fun p hp=>fP p.2 (by simp only [aad,abi,abp]; exact ⟨p,hp,rfl⟩))]
  simp only [an,he] at h ⊢;split at h
  ·injection h with h; injection h with h1 h2; subst h1 h2; (try simp only [*]); exact ⟨_,rfl,.put hn _ _⟩
  ·cases h
 case buildSlice ty len ps=>
  have he:cn E s ty len ps.toList=cn E t ty len ps.toList:=by
   unfold cn;rw [ov (fun p hp=>fP p.2 (by simp only [aad,abi,abp]; exact ⟨p,hp,rfl⟩))]
  simp only [an,he] at h ⊢;split at h
  ·injection h with h; injection h with h1 h2; subst h1 h2; (try simp only [*]); exact ⟨_,rfl,.put hn _ _⟩
  ·cases h
 case binOp op a x y b=>
  simp only [an,fP x (by simp [aad]),fP y (by simp [aad])] at h ⊢
  repeat' (split at h)
  all_goals (first|(cases h; done) | skip)
  all_goals (injection h with h; injection h with h1 h2; subst h1 h2; (try simp only [*]); exact ⟨_,rfl,.put hn _ _⟩)
 case unOp op a x=>
  simp only [an,fP x (by simp [aad])] at h ⊢
  repeat' (split at h)
  all_goals (first|(cases h; done) | skip)
  all_goals (injection h with h; injection h with h1 h2; subst h1 h2; (try simp only [*]); exact ⟨_,rfl,.put hn _ _⟩)
 case convert a b x=>simp [Ym] at hR
 case nilCheck x=>
  simp only [an,fP x (by simp [aad])] at h ⊢
  repeat' (split at h)
  all_goals (first|(cases h; done) | skip)
  all_goals (injection h with h; injection h with h1 h2; subst h1 h2; (try simp only [*]); exact ⟨_,rfl,.put hn _ _⟩)
 case makeFunc fo a b=>
  cases fo with
  |func g=>
   have h1:oR E s.ab a.toList=oR E t.ab a.toList:=ju fun y hy=>fP y (by simp only [aad,abj]; exact .inl (by simpa using hy))
   have h2:oR E s.ab b.toList=oR E t.ab b.toList:=ju fun y hy=>fP y (by simp only [aad,abj]; exact .inr (by simpa using hy))
   simp only [an,h1,h2] at h ⊢
   repeat' (split at h)
   all_goals (first|(cases h; done) | skip)
   all_goals (injection h with h; injection h with h1 h2; subst h1 h2; (try simp only [*]); exact ⟨_,rfl,.put hn _ _⟩)
  |_=>simp [an] at h
 case fieldAddr a x j=>
  simp only [an,fP x (by simp [aad])] at h ⊢
  repeat' (split at h)
  all_goals (first|(cases h; done) | skip)
  all_goals (injection h with h; injection h with h1 h2; subst h1 h2; (try simp only [*]); exact ⟨_,rfl,.put hn _ _⟩)
 case field a x j=>
  simp only [an,fP x (by simp [aad])] at h ⊢
  repeat' (split at h)
  all_goals (first|(cases h; done) | skip)
  all_goals (injection h with h; injection h with h1 h2; subst h1 h2; (try simp only [*]); exact ⟨_,rfl,.put hn _ _⟩)
 case indexAddr a x y=>
  simp only [an,fP x (by simp [aad]),fP y (by simp [aad])] at h ⊢
  repeat' (split at h)
  all_goals (first|(cases h; done) | skip)
  all_goals (injection h with h; injection h with h1 h2; subst h1 h2; (try simp only [*]); exact ⟨_,rfl,.put hn _ _⟩)
 case index a x y=>
  simp only [an,fP x (by simp [aad]),fP y (by simp [aad])] at h ⊢
  repeat' (split at h)
  all_goals (first|(cases h; done) | skip)
  all_goals (injection h with h; injection h with h1 h2; subst h1 h2; (try simp only [*]); exact ⟨_,rfl,.put hn _ _⟩)
 case slice a x lo hi mx=>
  have h1:oU E s.ab lo=oU E t.ab lo:=by
   cases lo with
   |none=>rfl
   |some y=>simp only [oU]; rw [fP y (by simp [aad])]
  have h2:oU E s.ab hi=oU E t.ab hi:=by
   cases hi with
   |none=>rfl
   |some y=>simp only [oU]; rw [fP y (by simp [aad])]
  simp only [an,fP x (by simp [aad]),h1,h2] at h ⊢
  repeat' (split at h)
  all_goals (first|(cases h; done) | skip)
  all_goals (injection h with h; injection h with h1 h2; subst h1 h2; (try simp only [*]); exact ⟨_,rfl,.put hn _ _⟩)
 case extract x i=>
  simp only [an,fP x (by simp [aad])] at h ⊢
  repeat' (split at h)
  all_goals (first|(cases h; done) | skip)
  all_goals (injection h with h; injection h with h1 h2; subst h1 h2; (try simp only [*]); exact ⟨_,rfl,.put hn _ _⟩)
 all_goals (first|(simp [vh] at hN; done) | (simp [Ym] at hR; done))
end
end Go.Am
namespace Go.Am
open Go
section
variable {E:Env} {s t:St} {f:FuncId} {ops:Array Oper} {o oj oi:Oper} {d:Tmp} {x:SV} {K:St→Prop}
theorem Nq (ops:Array Oper) (j:Nat):qG ops.toList j=(ops[j]?).bind (·.dst):=by
 unfold qG;rw [bj,Array.getElem?_toList];cases ops[j]? <;> rfl
theorem pt {e:Tmp} (h:.tmp e∈o.op.operands):e∈o.looksAt ops:=
 List.mem_append_left _ (List.mem_filterMap.2 ⟨.tmp e,by simpa using h,rfl⟩)
theorem lh {j:Nat} {want:Bool} {e:Tmp} (h:o.guard=some (j,want)) (he:qG ops.toList j=some e):e∈o.looksAt ops:=by
 rw [Nq] at he;refine List.mem_append_right _ ?_;rw [h];simp [he]
theorem mi (h:∀ e∈o.looksAt ops,lk s.ab e=lk t.ab e):∀ y∈o.op.operands,bQ E s.ab y=bQ E t.ab y:=fun _ hy=>
 No fun e he=>h e (pt (he ▸ hy))
theorem lR (h:∀ e∈o.looksAt ops,lk s.ab e=lk t.ab e):ES ops.toList s o=ES ops.toList t o:=by
 unfold ES;split
 ·rfl
 ·rename_i j want hg;split
  ·rename_i e he;rw [h e (lh hg he)]
  ·rfl
theorem yt (s:St) (d:Tmp) (x:SV) {e:Nat} (h:d≠e):lk (s.put (some d) x).ab e=lk s.ab e:=by
 simp only [St.put];split
 ·exact aW h
 ·rfl
theorem ia (s:St) (d:Option Tmp) (x:SV):(s.put d x).boxes=s.boxes∧(s.put d x).G=s.G∧(s.put d x).n=s.n∧(s.put d x).marks=s.marks∧(s.put d x).ro=s.ro:=by
 cases d with
 |none=>exact ⟨rfl,rfl,rfl,rfl,rfl⟩
 |some d=>
  simp only [St.put];split <;> exact ⟨rfl,rfl,rfl,rfl,rfl⟩
def zJ (E:Env) (f:FuncId) (ops:Array Oper) (o:Oper) (s:St) (x:SV):Prop:=
 (ES ops.toList s o=some true∧an E f s o=some (true,s.put o.dst x))∨(ES ops.toList s o=some false∧x=.v gW)
theorem Nr {c:Bool} {s':St} (hN:vh o.op=true) (h:an E f s o=some (c,s')):∃ x,s'=s.put o.dst x:=by
 obtain ⟨t',_,pre,preB,G,_,h2,_,_⟩:=jv (t:=s) rfl rfl rfl (fun _ _=>rfl) h;obtain ⟨_,_,x,hx,_⟩:=h2 (by simp [hN]);exact ⟨x,hx⟩
theorem Ns (hN:vh o.op=true):lF E f o K s↔∃ s',an E f s o=some (true,s')∧K s':=by
 unfold lF;split
 ·rename_i h;rw [h] at hN;simp [vh] at hN
 ·rename_i h;rw [h] at hN;simp [vh] at hN
 ·split
  ·rename_i c s' hs;constructor
   ·intro h;obtain ⟨rfl,hk⟩:=h.out;exact ⟨s',hs,hk⟩
   ·rintro ⟨Fa,h1,h2⟩;rw [hs] at h1;cases h1;exact eJ.mk rfl h2
  ·rename_i hs;constructor
   ·exact fun h=>h.elim
   ·rintro ⟨Fa,h1,_⟩;rw [hs] at h1;cases h1
theorem zK (hN:vh o.op=true) (hK:Inv K) (h:cA E f ops.toList o K s):∃ x,zJ E f ops o s x∧K (s.put o.dst x):=by
 rcases (hZ hK).1 h with ⟨h1,h2⟩|⟨h1,h2⟩
 ·obtain ⟨s',h3,h4⟩:=(Ns hN).1 h2;obtain ⟨x,rfl⟩:=Nr hN h3;exact ⟨x,.inl ⟨h1,h3⟩,h4⟩
 ·exact ⟨_,.inr ⟨h1,rfl⟩,h2⟩
theorem zL (hN:vh o.op=true) (hK:Inv K) (hx:zJ E f ops o s x) (h:K (s.put o.dst x)):cA E f ops.toList o K s:=by
 rw [hZ hK];rcases hx with ⟨h1,h2⟩|⟨h1,rfl⟩
 ·exact .inl ⟨h1,(Ns hN).2 ⟨_,h2,h⟩⟩
 ·exact .inr ⟨h1,h⟩
def Ig (E:Env) (f:FuncId) (ops:List Oper) (o:Oper) (s:St):Prop:=match ES ops s o with
 |some true=>match o.dst,an E f s o with
  |some d,some (c,s')=>c=true∧lk s'.ab d=lk s.ab d
  |_,_=>False
 |some false=>True
 |none=>False
theorem Sd (hN:vh o.op=true) (hd:d∉o.looksAt ops) (cK:o.dst≠some d) (he:∀ e,d≠e→lk s.ab e=lk t.ab e) (hB:eF s.boxes=eF t.boxes) (hG:s.G=t.G) (hn:s.n=t.n)
  (h:Ig E f ops.toList o s):Ig E f ops.toList o t:=by
 have hl:∀ e∈o.looksAt ops,lk s.ab e=lk t.ab e:=fun e hm=>he e fun k=>hd (k ▸ hm)
 unfold Ig at h ⊢;rw [← lR hl];split
 ·rename_i hg;rw [hg] at h;simp only at h;split at h
  ·rename_i e c s' Lm hs;obtain ⟨t',h3,pre,preB,G,_,h4,_,_⟩:=jv hn hG hB (mi hl) hs;obtain ⟨_,_,y,h5,h6⟩:=h4 (by simp [hN]);rw [Lm,h3];refine ⟨h.1,?_⟩;have hde:d≠e:=fun k=>cK (by rw [Lm,k])
   have h7:=h.2;rw [h5,Lm] at h7;rw [h6,Lm,← he e hde];simp only [St.put,← hn] at h7 ⊢;split
   ·rename_i hb;rw [hb] at h7;simp only [aC] at h7 ⊢;exact h7
   ·exact (he e hde).symm
  ·exact h.elim
 ·trivial
 ·rename_i hg;rw [hg] at h;exact h
theorem Se (hN:vh o.op=true) (e:rN s t) (h:Ig E f ops.toList o s):Ig E f ops.toList o t:=by
 unfold Ig at h ⊢;rw [← DP e];split
 ·rename_i hg;rw [hg] at h;simp only at h;split at h
  ·rename_i d c s' Lm hs;obtain ⟨t',h3,pre,preB,G,_,h4,_,_⟩:=jv e.n e.G e.b (fun y _=>e.bQ y) hs;obtain ⟨_,_,y,h5,h6⟩:=h4 (by simp [hN]);rw [Lm,h3];refine ⟨h.1,?_⟩;rw [h6,← (e.put o.dst y).l,← h5,← e.l];exact h.2
  ·exact h.elim
 ·trivial
 ·rename_i hg;rw [hg] at h;exact h
def kF (oj oi:Oper):Bool:=b7 oi.op || (Ym oj.op&&!vh oi.op)
theorem Nt {al:Bool} {dst:Option Tmp} {pre:bk} (h:Pre al dst pre) {e:Nat} (he:dst≠some e) (l:bk):lk (pre++l) e=lk l e∨(al=true∧∃ k off,lk l e=.lp k off):=by
 rcases h with rfl|⟨d,y,rfl,rfl|⟨rfl,rfl⟩⟩
 ·exact .inl rfl
 ·exact .inl (aW fun k=>he (by rw [k]))
 ·simp only [aao,aau];rw [aW (fun k=>he (by rw [k]))];simp only [lk];cases hl:lk l e with
  |lp k off=>exact .inr ⟨trivial,k,off,rfl⟩
  |_=>exact .inl rfl
theorem uu {al:Bool} {pre:bk} (preB:dc) (G:List GO) (h:Pre al oi.dst pre) (cK:oi.dst≠some d) (hx:al=false∨∃ a,x=.v a):rN ((s.put (some d) x).gB pre preB G) ((s.gB pre preB G).put (some d) x):=by
 have hb:∀ b,aaB d s.n=b→rN ((s.put (some d) x).gB pre preB G) ((s.gB pre preB G).put (some d) x):=fun b hb=>by
  have ka:aaB d (s.gB pre preB G).n=b:=hb;rw [nj,nj,hb,ka];cases b with
  |false=>exact rN.refl _
  |true=>
   refine ⟨funext fun e=>?_,rfl,rfl,rfl,rfl,rfl⟩;simp only [cond_true,St.gB,aao,aau];by_cases k:d=e
   ·subst k;rw [aC];rcases Nt h cK (.put d x :: s.ab) with h1|⟨h1,k,off,h2⟩
    ·rw [h1,aC]
    ·rw [aC] at h2;rcases hx with hx|⟨a,hx⟩
     ·rw [hx] at h1; cases h1
     ·rw [hx] at h2; cases h2
   ·rw [aW k];exact ow (aW k) pre
 exact hb _ rfl
theorem Ln (hN:vh oj.op=true) (JH:oj.dst=some d) (FE:d∉oj.looksAt ops) (WO:oj.apart ops oi=true) (hK:Inv K) (hx:zJ E f ops oj s x) {pre:bk} {preB:dc} {G:List GO}
  (BQ:Pre (b7 oi.op) oi.dst pre) (hNi:vh oi.op=true→preB=[]∧G=s.G) (hk:K ((s.put (some d) x).gB pre preB G)) (hre:∀ t',K t'→kF oj oi=true→Ig E f ops.toList oj t') :
  ∃ x',zJ E f ops oj (s.gB pre preB G) x'∧K ((s.gB pre preB G).put (some d) x'):=by
 obtain ⟨_,cK,HL⟩:=Oper.apart_spec WO;have Nu:oi.dst≠some d:=cK d JH;have uv:∀ e∈oj.looksAt ops,oi.dst≠some e:=fun e he k=>HL e k he
 have yo:∀ e∈oj.looksAt ops,(b7 oi.op=false∨∃ b,lk s.ab e=.v b)→lk s.ab e=lk (s.gB pre preB G).ab e:=fun e he ha=>by
  rcases Nt BQ (uv e he) s.ab with h1|⟨h1,k,off,h2⟩
  ·exact h1.symm
  ·rcases ha with ha|⟨b,ha⟩
   ·rw [ha] at h1; cases h1
   ·rw [ha] at h2; cases h2
 have Sf:∀ b,ES ops.toList s oj=some b→ES ops.toList (s.gB pre preB G) oj=some b:=fun b hb=>by
  unfold ES at hb ⊢;split
  ·rename_i hg; rw [hg] at hb; exact hb
  ·rename_i j want hg;rw [hg] at hb;simp only at hb;split
   ·rename_i e he;rw [he] at hb;simp only at hb;split at hb
    ·rename_i b' hl;have:=yo e (lh hg he) (.inr ⟨_,hl⟩);rw [← this,hl];exact hb
    ·rename_i hl;have:=yo e (lh hg he) (.inr ⟨_,hl⟩);rw [← this,hl];exact hb
    ·cases hb
   ·rename_i he; rw [he] at hb; cases hb
 rcases hx with ⟨h1,h2⟩|⟨h1,rfl⟩
 ·rw [JH] at h2;by_cases agH:kF oj oi=true
  ·have hr:=hre _ hk agH
   -- the state with the slot, and the one without it
   have DJ:∀ e,d≠e→lk ((s.put (some d) x).gB pre preB G).ab e=lk (s.gB pre preB G).ab e:=fun e he=>ow (yt s d x he) pre
   have hB:eF ((s.put (some d) x).gB pre preB G).boxes=eF (s.gB pre preB G).boxes:=by
    simp only [St.gB]; rw [(ia s _ x).1]
   have hn:((s.put (some d) x).gB pre preB G).n=(s.gB pre preB G).n:=(ia s _ x).2.2.1;have s7:∀ e∈oj.looksAt ops,lk ((s.put (some d) x).gB pre preB G).ab e=lk (s.gB pre preB G).ab e:=fun e he=>DJ e fun k=>FE (k ▸ he)
   have hg2:ES ops.toList ((s.put (some d) x).gB pre preB G) oj=some true:=by rw [lR s7]; exact Sf _ h1
   unfold Ig at hr;rw [hg2] at hr;simp only [JH] at hr;split at hr
   ·rename_i d' c s' Jo hs;cases Jo;obtain ⟨rfl,hr⟩:=hr;obtain ⟨t',h3,p,pB,G2,_,h4,_,_⟩:=jv (t:=s.gB pre preB G) hn rfl hB (mi s7) hs;obtain ⟨_,_,y,h5,h6⟩:=h4 (by simp [hN]);rw [h6] at h3;rw [h5,JH] at hr;refine ⟨y,.inl ⟨Sf _ h1,h3⟩,hK _ _ ?_ hk⟩;have hmr:((s.put (some d) x).gB pre preB G).marks=(s.gB pre preB G).marks∧((s.put (some d) x).gB pre preB G).ro=(s.gB pre preB G).ro:=(ia s _ x).2.2.2;obtain ⟨q1,q2,q3,q4,q5⟩:=ia (s.gB pre preB G) (some d) y;refine ⟨funext fun e=>?_,by rw [q1]; exact hB,by rw [q2]; rfl,by rw [q4]; exact hmr.1,by rw [q5]; exact hmr.2,by rw [q3]; exact hn⟩;by_cases k:d=e
    ·subst k;rw [← hr];have hb:∀ b,aaB d s.n=b→lk (((s.put (some d) x).gB pre preB G).put (some d) y).ab d=lk ((s.gB pre preB G).put (some d) y).ab d:=fun b hb=>by
      have Ih:aaB d (s.gB pre preB G).n=b:=hb;have Hf:aaB d ((s.put (some d) x).gB pre preB G).n=b:=by rw [hn]; exact hb
      rw [nj _ d y,nj _ d y,Ih,Hf];cases b with
      |true=>simp [St.gB,aC]
      |false=>
       simp only [cond_false];rw [nj,hb];rfl
     exact hb _ rfl
    ·rw [yt _ _ _ k];exact DJ e k
   ·exact hr.elim
  ·have BR:b7 oi.op=false:=by cases ha:b7 oi.op <;> simp_all [kF]
   have hl:∀ e∈oj.looksAt ops,lk s.ab e=lk (s.gB pre preB G).ab e:=fun e he=>yo e he (.inl BR)
   have fin:∀ y,s.put (some d) x=s.put (some d) y→an E f (s.gB pre preB G) oj=some (true,(s.gB pre preB G).put oj.dst y) →
     ∃ x',zJ E f ops oj (s.gB pre preB G) x'∧K ((s.gB pre preB G).put (some d) x'):=fun y hy hs=>by
    refine ⟨y,.inl ⟨Sf _ h1,hs⟩,hK _ _ (uu (oi:=oi) preB G BQ Nu (.inl BR)) ?_⟩;rw [← hy];exact hk
   cases hNo:vh oi.op with
   |true=>
    obtain ⟨rfl,rfl⟩:=hNi hNo;obtain ⟨t',h3,p,pB,G2,_,h4,_,_⟩:=jv (s:=s) (t:=s.gB pre [] s.G) rfl rfl rfl (mi hl) h2;obtain ⟨_,_,y,h5,h6⟩:=h4 (by simp [hN]);rw [JH] at h5;exact fin y h5 (by rw [h3,h6])
   |false=>
    have hR:Ym oj.op=false:=by cases ha:Ym oj.op <;> simp_all [kF]
    obtain ⟨t',h3,y,h5,h6⟩:=FD (s:=s) (t:=s.gB pre preB G) hN hR rfl (mi hl) h2;rw [JH] at h5;exact fin y h5 (by rw [h3,h6])
 ·exact ⟨_,.inr ⟨Sf _ h1,rfl⟩,hK _ _ (uu (oi:=oi) preB G BQ Nu (.inr ⟨_,rfl⟩)) hk⟩
end
end Go.Am
namespace Go.Am
open Go
section
variable {E:Env} {s t:St} {o:Oper}
def jP (E:Env) (s:St) (o:Oper) (s':St):Prop:=
 (s'.ab=s.ab∨∃ d x,o.dst=some d∧(s'.ab=.put d x :: s.ab∨s'.ab=.put d x :: .kill d :: s.ab)∧∀ k off,x=.lp k off→(∃ y∈o.op.operands,∃ gX,bQ E s.ab y=.lp k gX)∨(b7 o.op=true∧k=d)) ∧
 (s'.boxes=s.boxes∨∃ k cs,s'.boxes=(k,cs) :: s.boxes∧((b7 o.op=true∧o.dst=some k)∨∃ y∈o.op.operands,∃ off,bQ E s.ab y=.lp k off))
theorem np {s1:St} (h1:s1.ab=s.ab) (h2:s1.boxes=s.boxes) {x:SV} (hx:∀ k off,x=.lp k off→∃ y∈o.op.operands,∃ gX,bQ E s.ab y=.lp k gX):jP E s o (s1.put o.dst x):=by
 refine ⟨?_,.inl (by rw [(ia s1 o.dst x).1,h2])⟩;cases hd:o.dst with
 |none=>exact .inl h1
 |some d=>
  simp only [St.put];split
  ·exact .inr ⟨d,x,rfl,.inl (by rw [h1]),fun k off h=>.inl (hx k off h)⟩
  ·exact .inl h1
theorem nq {s1:St} (h1:s1.ab=s.ab) (h2:s1.boxes=s.boxes) (a:AV):jP E s o (s1.put o.dst (.v a)):=np h1 h2 fun k off h=>by cases h
theorem ox {s1:St} (h1:s1.ab=s.ab) (h2:s1.boxes=s.boxes):jP E s o s1:=⟨.inl h1,.inl h2⟩
theorem Sg {k:Nat} {cs:List AV} (h:∃ y∈o.op.operands,∃ off,bQ E s.ab y=.lp k off):jP E s o (s.xI k cs):=⟨.inl rfl,.inr ⟨k,cs,rfl,.inr h⟩⟩
theorem FF {n:Nat} {x:SV} {k off:Nat} (h:Cb n x=some (.lp k off)):∃ gX,x=.lp k gX:=by
 unfold Cb at h;split at h <;> cases h;exact ⟨_,rfl⟩
theorem BS {ty:TypeId} {x:SV} {j k off:Nat} (h:lZ E ty x j=some (.lp k off)):∃ gX,x=.lp k gX:=by
 unfold lZ at h
 repeat' (split at h)
 all_goals (first|(cases h; done) | exact FF h)
theorem BT {ty:TypeId} {x ix:SV} {c:Bool} {k off:Nat} (h:lY E ty x ix=some (c,.lp k off)):∃ gX,x=.lp k gX:=by
 unfold lY at h
 repeat' (split at h)
 all_goals (first|(cases h; done) | skip)
 rename_i hm;injection h with h; injection h with h1 h2; subst h2;exact FF hm
theorem Ii {ty:TypeId} {p x:SV} {s':St} (hp:∀ k off,p=.lp k off→∃ y∈o.op.operands,∃ gX,bQ E s.ab y=.lp k gX) (h:kY E s ty p x=some s'):jP E s o s':=by
 unfold kY at h
 repeat' (split at h)
 all_goals (first|(cases h; done) | skip)
 ·cases h; exact Sg (hp _ _ rfl)
 ·cases h; exact ox rfl rfl
theorem Ij {ty:TypeId} {p x:SV} {c:Bool} {s':St} (hp:∀ k off,p=.lp k off→∃ y∈o.op.operands,∃ gX,bQ E s.ab y=.lp k gX) (h:kZ E s ty p x=some (c,s')):jP E s o s':=by
 unfold kZ at h
 repeat' (split at h)
 all_goals (first|(cases h; done) | skip)
 ·injection h with h; injection h with h1 h2; subst h2; exact ox rfl rfl
 ·injection h with h; injection h with h1 h2; subst h2; exact ox rfl rfl
 ·rename_i hs;injection h with h; injection h with h1 h2; subst h2; exact Ii hp hs
theorem wZ {ty:TypeId} {m k x:SV} {s':St} (h:gr E s ty m k x=some s'):jP E s o s':=by
 unfold gr at h
 repeat' (split at h)
 all_goals (first|(cases h; done) | skip)
 cases h; exact ox rfl rfl
theorem Lo {x:SV} {s':St} (h:nf s o.dst x=some s'):jP E s o s':=by
 unfold nf at h;split at h
 ·split at h
  ·rename_i l pos hg;cases hb:aaB pos l.length with
   |true=>
    rw [hb] at h;simp only [cond_true] at h;cases h;exact nq rfl rfl _
   |false=>
    rw [hb] at h;simp only [cond_false] at h;cases h;exact nq rfl rfl _
  ·cases h
 ·cases h
theorem DQ {b:Builtin} {l:List AV} {tys:List TypeId} {c:Bool} {s':St} (h:bU E s o.dst b l tys=some (c,s')):jP E s o s':=by
 unfold bU at h;cases b
 all_goals (try (cases h; done))
 all_goals (try simp only at h)
 all_goals (try (split at h <;> first | (cases h; done) | simp only at h))
 all_goals (repeat' (split at h))
 all_goals (first|(cases h; done) | skip)
 all_goals (injection h with h; injection h with h1 h2; subst h1 h2)
 all_goals (first|exact nq rfl rfl _ | exact ox rfl rfl)
theorem Lp {f:FuncId} {c:Bool} {s':St} (h:jq E f s o=some (c,s')):jP E s o s':=by
 unfold jq at h;cases h
theorem zM {f:FuncId} {el:TypeId} {cs:List AV} {c:Bool} {s':St} (ha:b7 o.op=true) (h:gq E f s o.dst el cs=some (c,s')):jP E s o s':=by
 unfold gq at h;split at h
 ·cases h
 ·rename_i d hd;split at h
  ·injection h with h; injection h with h1 h2; subst h2;rw [← hd];exact nq rfl rfl _
  ·split at h
   ·rename_i hb;injection h with h; injection h with h1 h2; subst h2;refine ⟨.inr ⟨d,.lp d 0,hd,.inr ?_,fun k off h=>by cases h; exact .inr ⟨ha,rfl⟩⟩,.inr ⟨d,cs,?_,.inl ⟨ha,hd⟩⟩⟩
    ·simp only [St.put,St.xI,St.kill,hb]
    ·rw [(ia _ (some d) (.lp d 0)).1]; rfl
   ·cases h
theorem Ik {f:FuncId} {c:Bool} {s':St} (h:an E f s o=some (c,s')):jP E s o s':=by
 cases ho:o.op
 case move x=>
  simp only [an,ho] at h;split at h
  all_goals (injection h with h; injection h with h1 h2; subst h2)
  ·exact nq rfl rfl _
  ·rename_i k off hx;exact np rfl rfl fun k' gX e=>by cases e; exact ⟨x,by rw [ho]; simp [aad],_,hx⟩
  ·exact np rfl rfl fun k' gX e=>by cases e
 case assign x=>
  simp only [an,ho] at h;split at h
  all_goals (injection h with h; injection h with h1 h2; subst h2)
  ·exact nq rfl rfl _
  ·rename_i k off hx;exact np rfl rfl fun k' gX e=>by cases e; exact ⟨x,by rw [ho]; simp [aad],_,hx⟩
  ·exact np rfl rfl fun k' gX e=>by cases e
 case nilCheck x=>
  simp only [an,ho] at h;split at h
  ·injection h with h; injection h with h1 h2; subst h2;exact nq rfl rfl _
  ·rename_i k off hx;injection h with h; injection h with h1 h2; subst h2;exact np rfl rfl fun k' gX e=>by cases e; exact ⟨x,by rw [ho]; simp [aad],_,hx⟩
  ·cases h
 case fieldAddr a x j=>
  simp only [an,ho] at h;split at h
  ·rename_i p hp;injection h with h; injection h with h1 h2; subst h2;exact np rfl rfl fun k' gX e=>by subst e; exact ⟨x,by rw [ho]; simp [aad],BS hp⟩
  ·cases h
 case indexAddr a x y=>
  simp only [an,ho] at h;split at h
  ·rename_i c' p hp;injection h with h; injection h with h1 h2; subst h2;exact np rfl rfl fun k' gX e=>by subst e; exact ⟨x,by rw [ho]; simp [aad],BT hp⟩
  ·cases h
 case alloc e=>
  simp only [an,ho] at h
  repeat' (split at h)
  all_goals (first|(cases h; done) | skip)
  exact zM (by rw [ho]; rfl) h
 case box e x=>
  simp only [an,ho] at h
  repeat' (split at h)
  all_goals (first|(cases h; done) | skip)
  exact zM (by rw [ho]; rfl) h
 case store ty x y=>
  simp only [an,ho] at h;split at h
  ·rename_i hs;injection h with h; injection h with h1 h2; subst h2;exact Ij (fun k off e=>⟨x,by rw [ho]; simp [aad],off,e⟩) hs
  ·cases h
 case mapUpdate ty x y z=>
  simp only [an,ho] at h;split at h
  ·rename_i hs;injection h with h; injection h with h1 h2; subst h2;exact wZ hs
  ·cases h
 case insert ty x y z=>
  simp only [an,ho] at h;split at h
  ·rename_i hs;injection h with h; injection h with h1 h2; subst h2;exact wZ hs
  ·cases h
 case mapEntry ty x y=>
  simp only [an,ho] at h;split at h
  ·rename_i hs;injection h with h; injection h with h1 h2; subst h2;unfold iq at hs
   repeat' (split at hs)
   all_goals (first|(cases hs; done) | skip)
   injection hs with hs; injection hs with h3 hs; injection hs with h4 h5;subst h5;exact nq rfl rfl _
  ·cases h
 case entryStore ty x y z=>
  simp only [an,ho] at h;split at h
  ·rename_i hs;injection h with h; injection h with h1 h2; subst h2;unfold fK at hs
   repeat' (split at hs)
   all_goals (first|(cases hs; done) | skip)
   injection hs with hs; injection hs with h3 h4;subst h4;exact ox rfl rfl
  ·cases h
 case next x b=>
  cases b with
  |false=>simp [an,ho] at h
  |true=>
   simp only [an,ho] at h;split at h
   ·rename_i hs;injection h with h; injection h with h1 h2; subst h2;exact Lo hs
   ·cases h
 case call cl=>
  obtain ⟨callee,args,tys⟩:=cl;cases callee with
  |builtin b=>
   simp only [an,ho] at h;split at h
   ·rename_i r hf;cases h;exact Lp hf
   ·split at h
    ·exact DQ h
    ·cases h
  |_=>simp [an,ho] at h
 case makeFunc fo a b=>
  cases fo with
  |func g=>
   simp only [an,ho] at h
   repeat' (split at h)
   all_goals (first|(cases h; done) | skip)
   injection h with h; injection h with h1 h2; subst h2;exact nq rfl rfl _
  |_=>simp [an,ho] at h
 case makeMap ty r=>
  cases r with
  |none=>
   simp only [an,ho] at h;injection h with h; injection h with h1 h2; subst h2;exact nq rfl rfl _
  |some _=>simp [an,ho] at h
 all_goals (first
  |(simp [an,ho] at h; done)
  |(simp only [an,ho] at h; (repeat' (split at h)); (all_goals (first|(cases h; done) | skip)); (all_goals (injection h with h; injection h with h1 h2; subst h2)); (all_goals (exact nq rfl rfl _))))
def s8 (s:St) (d:Nat) (cs:List AV):St:=s.gB [.put d (.lp d 0),.kill d] [(d,cs)] s.G
theorem Il {f:FuncId} {d:Tmp} {c:Bool} {s1:St} (BR:b7 o.op=true) (hd:o.dst=some d) (hg:E.Dt f d=false) (h:an E f s o=some (c,s1)) :
  c=true∧∃ cs,s1=s8 s d cs∧∀ t:St,t.n=s.n→(∀ y∈o.op.operands,∀ v,bQ E s.ab y=.v v→bQ E t.ab y=.v v)→an E f t o=some (true,s8 t d cs):=by
 have key:∀ (el:TypeId) (cs:List AV),gq E f s o.dst el cs=some (c,s1)→c=true∧s1=s8 s d cs∧∀ t:St,t.n=s.n→gq E f t o.dst el cs=some (true,s8 t d cs):=by
  intro el cs h;unfold gq at h;rw [hd] at h;simp only [hg,Bool.false_eq_true,if_false] at h;split at h
  ·rename_i hb;injection h with h; injection h with h1 h2; subst h1 h2;refine ⟨rfl,?_,fun t ht=>?_⟩
   ·simp only [St.put,St.xI,St.kill,hb,s8,St.gB]; rfl
   ·unfold gq;rw [hd];simp only [hg,Bool.false_eq_true,if_false,ht,hb];simp only [St.put,St.xI,St.kill,ht,hb,s8,St.gB]; rfl
  ·cases h
 cases ho:o.op
 case alloc e=>
  simp only [an,ho] at h ⊢;split at h
  ·split at h
   ·split at h
    ·rename_i hi _ _ hz Rk;obtain ⟨k1,k2,k3⟩:=key _ _ h;refine ⟨k1,_,k2,fun t ht _=>?_⟩;simp only [hi,hz,Rk,if_true];exact k3 t ht
    ·cases h
   ·cases h
  ·cases h
 case box e x=>
  simp only [an,ho] at h ⊢;split at h
  ·split at h
   ·rename_i v hv Rk;obtain ⟨k1,k2,k3⟩:=key _ _ h;refine ⟨k1,_,k2,fun t ht he=>?_⟩;simp only [he x (by simp [aad]) v hv,Rk,if_true];exact k3 t ht
   ·cases h
  ·cases h
 all_goals (rw [ho] at BR; simp [b7] at BR)
theorem JI {pre:bk} {preB:dc} {G:List GO} (h:jP E s o (s.gB pre preB G)) :
  (pre=[]∨∃ d x,o.dst=some d∧(pre=[.put d x]∨pre=[.put d x,.kill d])∧∀ k off,x=.lp k off→(∃ y∈o.op.operands,∃ gX,bQ E s.ab y=.lp k gX)∨(b7 o.op=true∧k=d)) ∧
  (preB=[]∨∃ k cs,preB=[(k,cs)]∧((b7 o.op=true∧o.dst=some k)∨∃ y∈o.op.operands,∃ off,bQ E s.ab y=.lp k off)):=by
 obtain ⟨h1,h2⟩:=h;refine ⟨?_,?_⟩
 ·rcases h1 with h1|⟨d,x,hd,h1,hx⟩
  ·exact .inl (by simpa [St.gB] using h1)
  ·refine .inr ⟨d,x,hd,?_,hx⟩;rcases h1 with h1|h1
   ·left;have h1:pre++s.ab=[.put d x]++s.ab:=h1;exact aaO h1
   ·right;have h1:pre++s.ab=[.put d x,.kill d]++s.ab:=h1;exact aaO h1
 ·rcases h2 with h2|⟨k,cs,h2,hx⟩
  ·exact .inl (by simpa [St.gB] using h2)
  ·refine .inr ⟨k,cs,?_,hx⟩;have h2:preB++s.boxes=[(k,cs)]++s.boxes:=h2;exact aaO h2
theorem kG (d e:Nat) (l:bk):lk (.kill d :: l) e=(match lk l e with | .lp k off=>bif abo k d then .none else .lp k off | x=>x):=rfl
theorem zN {d e:Nat} {l:bk} (h:∀ off,lk l e≠.lp d off):lk (.kill d :: l) e=lk l e:=by
 rw [kG];split
 ·rename_i k off hk;cases hb:abo k d with
  |true=>exact absurd (by rw [hk,abn hb]) (h off)
  |false=>rw [hk]; rfl
 ·rfl
theorem Lq {d:Nat} {pre:bk} {preB:dc} {G:List GO} (cs:List AV) (Sh:jP E s o (s.gB pre preB G)) (cK:o.dst≠some d) (Lr:∀ y∈o.op.operands,∀ off,bQ E s.ab y≠.lp d off) :
  rN ((s8 s d cs).gB pre preB G) (s8 (s.gB pre preB G) d cs):=by
 obtain ⟨h1,h2⟩:=JI Sh;refine ⟨funext fun e=>?_,funext fun k=>?_,rfl,rfl,rfl,rfl⟩
 ·show lk (pre++([.put d (.lp d 0),.kill d]++s.ab)) e=lk ([.put d (.lp d 0),.kill d]++(pre++s.ab)) e;rcases h1 with rfl|⟨d',x,hd,hp,hx⟩
  ·rfl
  ·have hdd:d'≠d:=fun c=>cK (by rw [hd,c])
   have so:∀ off,x≠.lp d off:=fun off c=>by
    rcases hx d off c with ⟨y,hy,gX,ho⟩|⟨_,h⟩
    ·exact Lr y hy gX ho
    ·exact hdd h.symm
   by_cases c1:d=e
   ·subst c1;rcases hp with rfl|rfl
    ·simp only [aao,aau];rw [aW hdd,aC,aC]
    ·simp only [aao,aau];rw [aW hdd,aC,zN (fun off=>by rw [aC]; intro c; cases c; exact hdd rfl),aC]
   ·simp only [aao,aau];rw [aW c1];by_cases c2:d'=e
    ·subst c2;rcases hp with rfl|rfl
     ·simp only [aao,aau];rw [aC,zN (fun off=>by rw [aC]; exact so off),aC]
     ·simp only [aao,aau];rw [aC,zN (fun off=>by rw [aC]; exact so off),aC]
    ·rcases hp with rfl|rfl
     ·simp only [aao,aau];rw [aW c2,aW c1,kG,kG,aW c2]
     ·simp only [aao,aau];rw [aW c2,kG,aW c1,kG,kG,aW c2,kG];cases lk s.ab e with
      |lp k off=>cases hb:abo k d <;> cases Hf:abo k d' <;> simp [hb,Hf]
      |_=>rfl
 ·show eF (preB++([(d,cs)]++s.boxes)) k=eF ([(d,cs)]++(preB++s.boxes)) k;rcases h2 with rfl|⟨k',cs',rfl,hk⟩
  ·rfl
  ·have Rl:k'≠d:=fun c=>by
    subst c;rcases hk with ⟨_,hk⟩|⟨y,hy,off,ho⟩
    ·exact cK hk
    ·exact Lr y hy off ho
   simp only [aao,aau,eF];cases hb:abo k' k with
   |true=>
    have:abo d k=false:=by
     cases Hf:abo d k with
     |true=>exact absurd ((abn hb).trans (abn Hf).symm) Rl
     |false=>rfl
    rw [this]; rfl
   |false=>rfl
end
section
variable {E:Env} {s t:St} {f:FuncId} {o:Oper} {K K':St→Prop}
theorem Im (hn:s.n=t.n) (hG:s.G=t.G) (hB:∀ k off,(∃ y∈o.op.operands,bQ E s.ab y=.lp k off)→eF s.boxes k=eF t.boxes k) (fP:∀ y∈o.op.operands,bQ E s.ab y=bQ E t.ab y) (h:lF E f o K s)
  (hK:∀ pre preB G,jP E t o (t.gB pre preB G)→K (s.gB pre preB G)→K' (t.gB pre preB G)):lF E f o K' t:=by
 unfold lF at h ⊢;split at h
 ·rename_i x args tys ho;have h1:bQ E s.ab x=bQ E t.ab x:=fP x (by rw [ho]; simp [aad,aaY]);have h2:oR E s.ab args.toList=oR E t.ab args.toList:=ju fun y hy=>fP y (by rw [ho]; simp [aad,aaY]; exact .inr (by simpa using hy))
  try simp only [ho]
  rw [← h1,← h2,← hG];split at h
  ·refine cO.mono h fun r G' hk=>?_
   obtain ⟨pre,preB,G,p1,p2,p3,p4⟩:=b6.eL (s:=s) (t:=t) (al:=b7 o.op) hn G' o.dst (.v r);rw [p3] at hk;have hO:jP E t o ((t.cP G').put o.dst (.v r)):=nq rfl rfl _;rw [p4] at hO ⊢;exact hK pre preB G hO hk
  ·refine mh.mono h fun r G' hk=>?_
   obtain ⟨pre,preB,G,p1,p2,p3,p4⟩:=b6.eL (s:=s) (t:=t) (al:=b7 o.op) hn G' o.dst (.v (.bool r));rw [p3] at hk;have hO:jP E t o ((t.cP G').put o.dst (.v (.bool r))):=nq rfl rfl _;rw [p4] at hO ⊢;exact hK pre preB G hO hk
  ·exact h.elim
 ·exact h.elim
 ·split at h
  ·rename_i c s' hs;obtain ⟨t',h1,pre,preB,G,p1,p2,p3,p4⟩:=ur hn hG hB fP hs;have hO:=Ik h1;rw [h1];obtain ⟨rfl,hk⟩:=h.out;refine eJ.mk rfl ?_;rw [p3] at hk;rw [p4] at hO ⊢;exact hK pre preB G hO hk
  ·exact h.elim
theorem JJ (ha:b7 o.op=true):lF E f o K s↔∃ s',an E f s o=some (true,s')∧K s':=by
 unfold lF;split
 ·rename_i h;rw [h] at ha;simp [b7] at ha
 ·rename_i h;rw [h] at ha;simp [b7] at ha
 ·split
  ·rename_i c s' hs;constructor
   ·intro h;obtain ⟨rfl,hk⟩:=h.out;exact ⟨s',hs,hk⟩
   ·rintro ⟨Fa,h1,h2⟩;rw [hs] at h1;cases h1;exact eJ.mk rfl h2
  ·rename_i hs;constructor
   ·exact fun h=>h.elim
   ·rintro ⟨Fa,h1,_⟩;rw [hs] at h1;cases h1
end
end Go.Am
