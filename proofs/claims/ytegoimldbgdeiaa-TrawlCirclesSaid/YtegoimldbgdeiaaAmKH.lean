/- The abstract machine: what an operation does to a state is the same in a state that agrees with it. -/
import Derived.Test.YtegoimldbgdeiaaAmKG
import Derived.OrdersIn
set_option linter.all false
open Array renaming mem_append→aay
open Go.Call renaming operands→aat
open Go.Op renaming operands→aae
open List renaming cons_append→aal, nil_append→aas, append_cancel_right→aav, mem_toArray→aax, mem_map→aaM
open Nat renaming blt→aau, eq_of_beq_eq_true→aaA, beq→aaK
namespace Go.Am
open Go
def St.iy (s:St) (pre:bp) (preB:dy) (G:List GO):St:=⟨pre++s.af,preB++s.boxes,G,s.marks,s.ro,s.n⟩
def Pre (al:Bool) (dst:Option Tmp) (pre:bp):Prop:=
 pre=[]∨∃ d x,dst=some d∧(pre=[.put d x]∨(al=true∧pre=[.put d x,.kill d]))
def cC (al w:Bool) (dst:Option Tmp) (s t s' t':St):Prop:=
 ∃ pre preB G,Pre al dst pre∧(w=false→preB=[]∧G=s.G∧∃ x,s'=s.put dst x∧t'=t.put dst x)∧s'=s.iy pre preB G∧t'=t.iy pre preB G
section
variable {E:Env} {s t:St} {o:Oper}
theorem pX (s:St) (d:Tmp) (x:SV):s.put (some d) x=bif aau d s.n then s.iy [.put d x] [] s.G else s:=by
 cases h:aau d s.n <;> simp [St.put,h,St.iy]
theorem cC.put {al w:Bool} (hn:s.n=t.n) (hG:s.G=t.G) (dst:Option Tmp) (x:SV):cC al w dst s t (s.put dst x) (t.put dst x):=by
 cases dst with
 |none=>exact ⟨[],[],s.G,.inl rfl,fun _=>⟨rfl,rfl,x,rfl,rfl⟩,rfl,by rw [hG]; rfl⟩
 |some d=>
  have hx:∃ y,s.put (some d) x=s.put (some d) y∧t.put (some d) x=t.put (some d) y:=⟨x,rfl,rfl⟩;revert hx;generalize hs:s.put (some d) x=s';generalize ht:t.put (some d) x=t';intro hx;rw [pX] at hs ht;rw [← hn] at ht;revert hs ht;cases aau d s.n with
  |true=>exact fun hs ht=>⟨[.put d x],[],s.G,.inr ⟨d,x,rfl,.inl rfl⟩,fun _=>⟨rfl,rfl,hx⟩,hs.symm,by rw [hG]; exact ht.symm⟩
  |false=>exact fun hs ht=>⟨[],[],s.G,.inl rfl,fun _=>⟨rfl,rfl,hx⟩,hs.symm,by rw [hG]; exact ht.symm⟩
theorem cC.fg {al:Bool} (hn:s.n=t.n) (G:List GO) (dst:Option Tmp) (x:SV):cC al true dst s t ((s.cj G).put dst x) ((t.cj G).put dst x):=by
 cases dst with
 |none=>exact ⟨[],[],G,.inl rfl,fun h=>(by cases h),rfl,rfl⟩
 |some d=>
  rw [pX,pX,show (t.cj G).n=(s.cj G).n from hn.symm];cases aau d (s.cj G).n with
  |true=>exact ⟨[.put d x],[],G,.inr ⟨d,x,rfl,.inl rfl⟩,fun h=>(by cases h),rfl,rfl⟩
  |false=>exact ⟨[],[],G,.inl rfl,fun h=>(by cases h),rfl,rfl⟩
theorem cC.cj {al:Bool} (G:List GO) (dst:Option Tmp):cC al true dst s t (s.cj G) (t.cj G):=⟨[],[],G,.inl rfl,fun h=>(by cases h),rfl,rfl⟩
theorem cC.Af {al:Bool} (hG:s.G=t.G) (dst:Option Tmp) (d:Nat) (cs:List AV):cC al true dst s t (s.Af d cs) (t.Af d cs):=
 ⟨[],[(d,cs)],s.G,.inl rfl,fun h=>(by cases h),rfl,(by rw [hG]; rfl)⟩
theorem jA {a b:bp}:∀ {l:List Operand},(∀ y∈l,bJ E a y=bJ E b y)→qm E a l=qm E b l
 |[],_=>rfl
 |x :: l,h=>by
  simp only [qm];rw [h x (by simp),jA (l:=l) (fun y hy=>h y (by simp [hy]))]
theorem qZ {a b:bp}:∀ {l:List (Nat × Operand)},(∀ p∈l,bJ E a p.2=bJ E b p.2)→TQ E a l=TQ E b l
 |[],_=>rfl
 |(i,x) :: l,h=>by
  simp only [TQ];rw [h (i,x) (by simp),qZ (l:=l) (fun y hy=>h y (by simp [hy]))]
theorem EN (hG:s.G=t.G) (p:SV) (hB:∀ k off,p=.lp k off→eJ s.boxes k=eJ t.boxes k):rR s p=rR t p:=by
 unfold rR;rw [hG];cases p with
 |lp k off=>simp only [hB k off rfl]
 |v a=>cases a <;> rfl
 |_=>rfl
theorem IE (hG:s.G=t.G) (ty:TypeId) (p:SV) (hB:∀ k off,p=.lp k off→eJ s.boxes k=eJ t.boxes k):xh E s ty p=xh E t ty p:=by
 unfold xh;rw [EN hG p hB]
theorem Au (hG:s.G=t.G) (id f i sz:Nat) (ty:TypeId):B8 E s id f i sz ty=B8 E t id f i sz ty:=by
 unfold B8;rw [hG]
theorem IF (hG:s.G=t.G) (ty:TypeId) (p:SV) (hB:∀ k off,p=.lp k off→eJ s.boxes k=eJ t.boxes k):E9 E s ty p=E9 E t ty p:=by
 unfold E9;split
 ·rw [Au hG]
 ·rw [IE hG _ _ hB]
theorem IG (hG:s.G=t.G) (esz:Nat) (d x:AV):H4 s esz d x=H4 t esz d x:=rfl
theorem Av {f:FuncId} {dst:Option Tmp} {el:TypeId} {cs:List AV} {c:Bool} {s':St} (hn:s.n=t.n) (hG:s.G=t.G) (h:hY E f s dst el cs=some (c,s')) :
  ∃ t',hY E f t dst el cs=some (c,t')∧cC true true dst s t s' t':=by
 unfold hY at *;cases dst with
 |none=>cases h
 |some d=>
  simp only at *;split at h
  ·rename_i hg;injection h with h;injection h with h1 h2;subst h1 h2;rw [if_pos hg];refine ⟨_,rfl,?_⟩;have:=cC.fg (al:=true) hn (s.G++[.row cs el]) (some d) (.v (.ptr s.G.length 0));rw [hG] at this;have e:s.fq (.row cs el)=s.cj (t.G++[.row cs el]):=by rw [← hG]; rfl
   rw [e,hG];exact this
  ·rename_i hg;rw [if_neg hg,← hn];split at h
   ·rename_i hb;injection h with h;injection h with h1 h2;subst h1 h2;refine ⟨_,rfl,[.put d (.lp d 0),.kill d],[(d,cs)],s.G,.inr ⟨d,_,rfl,.inr ⟨rfl,rfl⟩⟩,fun h=>(by cases h),?_,?_⟩
    ·simp [St.put,St.Af,St.kill,hb,St.iy]
    ·simp only [St.put,St.Af,St.kill,← hn,hb,St.iy,hG];rfl
   ·cases h
theorem IH {ty:TypeId} {p x:SV} {s':St} {al:Bool} {dst:Option Tmp} (hG:s.G=t.G) (hB:∀ k off,p=.lp k off→eJ s.boxes k=eJ t.boxes k) (h:jI E s ty p x=some s') :
  ∃ t',jI E t ty p x=some t'∧cC al true dst s t s' t':=by
 unfold jI at *;split at h
 ·split at h
  ·rename_i hc;rw [if_pos hc];split at h
   ·rw [← hB _ _ rfl];split at h
    ·split at h
     ·rename_i O5;cases h;simp only [O5,if_true];exact ⟨_,rfl,.Af hG _ _ _⟩
     ·cases h
    ·cases h
   ·rw [← hG];split at h
    ·split at h
     ·rename_i O5;cases h;simp only [O5,if_true];exact ⟨_,rfl,.cj _ _⟩
     ·cases h
    ·cases h
   ·cases h
  ·cases h
 ·cases h
theorem II {ty:TypeId} {p x:SV} {c:Bool} {s':St} {al:Bool} {dst:Option Tmp} (hG:s.G=t.G) (hB:∀ k off,p=.lp k off→eJ s.boxes k=eJ t.boxes k) (h:iS E s ty p x=some (c,s')) :
  ∃ t',iS E t ty p x=some (c,t')∧cC al true dst s t s' t':=by
 unfold iS at *;split at h
 ·rw [← hG];split at h
  ·split at h
   ·rename_i h1 h2 hc;simp only [hc,if_true];split at h
    ·rename_i O5;injection h with h; injection h with e1 e2;subst e1; subst e2;simp only [O5,if_true];exact ⟨_,rfl,.cj _ _⟩
    ·rename_i O5;rw [if_neg O5,← Au hG];split at h
     ·rename_i hg;split at h
      ·rename_i hc3;injection h with h; injection h with e1 e2;subst e1; subst e2;simp only [hc3,if_true];exact ⟨_,rfl,.cj _ _⟩
      ·cases h
     ·cases h
   ·cases h
  ·cases h
 ·split at h
  ·rename_i s1 hs;injection h with h; injection h with e1 e2;subst e1; subst e2;obtain ⟨t',h3,h4⟩:=IH (al:=al) (dst:=dst) hG hB hs;simp only [h3];exact ⟨_,rfl,h4⟩
  ·cases h
theorem Ln (hG:s.G=t.G) (p x:SV):wo s p x=wo t p x:=by unfold wo; rw [hG]
theorem IJ {ty:TypeId} {p x:SV} {c:Bool} {s':St} {al:Bool} {dst:Option Tmp} (hG:s.G=t.G) (hB:∀ k off,p=.lp k off→eJ s.boxes k=eJ t.boxes k) (h:nf E s ty p x=some (c,s')) :
  ∃ t',nf E t ty p x=some (c,t')∧cC al true dst s t s' t':=by
 unfold nf at *;rw [← Ln hG];split at h
 ·rename_i c1 s1 hs;injection h with h; injection h with e1 e2;subst e1; subst e2;obtain ⟨t',h3,pre,preB,G,h4,_,h5,h6⟩:=II (s:=s.cj (wo s p x).2.2) (t:=t.cj (wo s p x).2.2) (al:=al) (dst:=dst) rfl hB hs;rw [h3];exact ⟨_,rfl,pre,preB,G,h4,(fun h=>by cases h),h5,h6⟩
 ·cases h
def cN:Op→Bool
 |.alloc _=>true
 |.box _ _=>true
 |_=>false
def yV:Op→Bool
 |.move _ | .assign _ | .pick _ _ _ | .build _ _ | .buildSlice _ _ _ | .load _ _ | .binOp _ _ _ _ _ | .unOp _ _ _ | .convert _ _ _ | .makeFunc _ _ _ | .fieldAddr _ _ _ | .field _ _ _
 |.indexAddr _ _ _ | .index _ _ _ | .slice _ _ _ _ _ | .extract _ _ | .lookup _ _ _ _ | .nilCheck _=>true
 |.call { callee:=.builtin .len,.. }=>true
 |.call { callee:=.builtin .max,.. }=>true
 |.call { callee:=.builtin .min,.. }=>true
 |_=>false
def Zf:Op→Bool
 |.load _ _=>true
 |.lookup _ _ _ _=>true
 |.call _=>true
 |.convert _ _ _=>true
 |_=>false
def UP:Builtin→Bool
 |.append | .copy | .clear=>true
 |_=>false
theorem EO {dst:Option Tmp} {b:Builtin} {l:List AV} {tys:List TypeId} {c:Bool} {s':St} {al:Bool} (hn:s.n=t.n) (hG:s.G=t.G) (h:dm E s dst b l tys=some (c,s')) :
  ∃ t',dm E t dst b l tys=some (c,t')∧cC al (UP b) dst s t s' t':=by
 obtain ⟨sl,bx,G,m,ro,n⟩:=s;obtain ⟨sl',MH,G',m',qM,n'⟩:=t;have hc:=fun esz d x=>IG (s:=⟨sl,bx,G,m,ro,n⟩) (t:=⟨sl',MH,G',m',qM,n'⟩) hG esz d x
 simp only at hn hG;subst hn hG;unfold dm at h ⊢;simp only [← hc];cases b
 all_goals (try (cases h; done))
 all_goals (try simp only at h ⊢)
 all_goals (try (split at h <;> first | (cases h; done) | simp only at h ⊢))
 all_goals (repeat' (split at h))
 all_goals (first|(cases h; done) | skip)
 all_goals (injection h with h; injection h with h1 h2; subst h1 h2)
 all_goals (try simp only [if_true, *])
 all_goals (first|exact ⟨_,rfl,.put (by rfl) (by rfl) _ _⟩ | exact ⟨_,rfl,.fg (by rfl) _ _ _⟩ | exact ⟨_,rfl,.cj _ _⟩)
theorem CJ (hG:s.G=t.G) (a b:TypeId) (x:SV):tA E s a b x=tA E t a b x:=rfl
theorem EP (hG:s.G=t.G) (ty:TypeId) (m k:SV):pT E s ty m k=pT E t ty m k:=by
 have:mapOf s=mapOf t:=by funext m; unfold mapOf; rw [hG]
 unfold pT my;rw [this,hG]
theorem xS {ty:TypeId} {m k x:SV} {s':St} {al:Bool} {dst:Option Tmp} (hG:s.G=t.G) (h:ia E s ty m k x=some s') :
  ∃ t',ia E t ty m k x=some t'∧cC al true dst s t s' t':=by
 unfold ia at *;rw [← hG]
 repeat' (split at h)
 all_goals (first|(cases h; done) | skip)
 cases h;simp only [*];exact ⟨_,rfl,.cj _ _⟩
theorem Lo {dst:Option Tmp} {x:SV} {s':St} {al:Bool} (hn:s.n=t.n) (hG:s.G=t.G) (h:pU s dst x=some s') :
  ∃ t',pU t dst x=some t'∧cC al true dst s t s' t':=by
 unfold pU at *;rw [← hG];split at h
 ·split at h
  ·rename_i l pos hg;cases hb:aau pos l.length with
   |true=>
    rw [hb] at h;simp only [cond_true] at h ⊢;cases h;exact ⟨_,rfl,.fg hn _ _ _⟩
   |false=>
    rw [hb] at h;simp only [cond_false] at h ⊢;cases h;obtain ⟨pre,preB,G,p1,p2,p3⟩:=cC.put (al:=al) (w:=true) hn hG dst (.v (.bG [.bool false]));exact ⟨_,rfl,pre,preB,G,p1,p2,p3⟩
  ·cases h
 ·cases h
theorem su {f:FuncId} {r:Bool × St} (h:jN E f s o=some r):∃ args tys,o.op=.call { callee:=.builtin .append,args:=args,argTypes:=tys }:=by
 unfold jN at h;split at h
 ·split at h
  ·split at h
   ·rename_i args tys ho;exact ⟨args,tys,ho⟩
   ·cases h
  ·cases h
 ·cases h
theorem CK {f:FuncId} {c:Bool} {s':St} {al:Bool} (hn:s.n=t.n) (hG:s.G=t.G) (fX:∀ y∈o.op.operands,bJ E s.af y=bJ E t.af y)
  (h:jN E f s o=some (c,s')):∃ t',jN E f t o=some (c,t')∧cC al true o.dst s t s' t':=by
 obtain ⟨args,tys,ho⟩:=su h;have h1:qm E s.af args.toList=qm E t.af args.toList:=jA fun y hy=>fX y (by rw [ho]; simp [aae,aat]; simpa using hy)
 unfold jN at h ⊢;rw [ho] at h ⊢;simp only [h1,hG] at h ⊢
 repeat' (split at h)
 all_goals (first|(cases h; done) | skip)
 injection h with h; injection h with h2 h3;subst h2 h3;simp only [*,if_true];refine ⟨_,rfl,?_⟩;exact cC.fg hn _ _ _
theorem Bf {f:FuncId} (hn:s.n=t.n) (hG:s.G=t.G) (fX:∀ y∈o.op.operands,bJ E s.af y=bJ E t.af y) (h:jN E f s o=none):jN E f t o=none:=by
 cases ht:jN E f t o with
 |none=>rfl
 |some r=>
  obtain ⟨t',h1,_⟩:=CK (s:=t) (t:=s) (al:=false) hn.symm hG.symm (fun y hy=>(fX y hy).symm) (c:=r.1) (s':=r.2) ht;rw [h] at h1;cases h1
theorem xT {f:FuncId} {c:Bool} {s':St} (hn:s.n=t.n) (hG:s.G=t.G) (hB:∀ k off,(∃ y∈o.op.operands,bJ E s.af y=.lp k off)→eJ s.boxes k=eJ t.boxes k) (fX:∀ y∈o.op.operands,bJ E s.af y=bJ E t.af y)
  (h:an E f s o=some (c,s')):∃ t',an E f t o=some (c,t')∧cC (cN o.op) (!yV o.op) o.dst s t s' t':=by
 obtain ⟨dst,op,ty,pos,after,guard⟩:=o;cases op
 case move x=>
  simp only [an,fX x (by simp [aae])] at h ⊢;split at h
  all_goals (injection h with h; injection h with h1 h2; subst h1 h2; (try simp only [*]); exact ⟨_,rfl,.put hn hG _ _⟩)
 case assign x=>
  simp only [an,fX x (by simp [aae])] at h ⊢;split at h
  all_goals (injection h with h; injection h with h1 h2; subst h1 h2; (try simp only [*]); exact ⟨_,rfl,.put hn hG _ _⟩)
 case pick x y z=>
  simp only [an,fX x (by simp [aae]),fX y (by simp [aae]),fX z (by simp [aae])] at h ⊢;split at h
  ·injection h with h; injection h with h1 h2; subst h1 h2; (try simp only [*]); exact ⟨_,rfl,.put hn hG _ _⟩
  ·cases h
 case alloc e=>
  simp only [an] at h ⊢
  repeat' (split at h)
  all_goals (first|(cases h; done) | skip)
  simp only [*];exact Av hn hG h
 case box e x=>
  simp only [an,fX x (by simp [aae])] at h ⊢
  repeat' (split at h)
  all_goals (first|(cases h; done) | skip)
  simp only [*];exact Av hn hG h
 case build ty ps=>
  have he:rS E s ty ps.toList=rS E t ty ps.toList:=by
   unfold rS;rw [qZ (fun p hp=>fX p.2 (by simp only [aae,aax,aaM]; exact ⟨p,hp,rfl⟩))]
  simp only [an,he] at h ⊢;split at h
  ·injection h with h; injection h with h1 h2; subst h1 h2; (try simp only [*]); exact ⟨_,rfl,.put hn hG _ _⟩
  ·cases h
 case buildSlice ty len ps=>
  have he:cV E s ty len ps.toList=cV E t ty len ps.toList:=by
   unfold cV;rw [qZ (fun p hp=>fX p.2 (by simp only [aae,aax,aaM]; exact ⟨p,hp,rfl⟩))]
  simp only [an,he] at h ⊢;split at h
  ·injection h with h; injection h with h1 h2; subst h1 h2; (try simp only [*]); exact ⟨_,rfl,.put hn hG _ _⟩
  ·cases h
 case load ty x=>
  simp only [an,fX x (by simp [aae])] at h ⊢;rw [IF hG ty _ (fun k off e=>hB k off ⟨x,by simp [aae],by rw [fX x (by simp [aae])]; exact e⟩)] at h;split at h
  ·injection h with h; injection h with h1 h2; subst h1 h2; (try simp only [*]); exact ⟨_,rfl,.put hn hG _ _⟩
  ·cases h
 case store ty x y=>
  simp only [an,fX x (by simp [aae]),fX y (by simp [aae])] at h ⊢;split at h
  ·rename_i s1 hs;injection h with h; injection h with h1 h2; subst h1 h2;obtain ⟨t',h3,h4⟩:=IJ (al:=false) (dst:=none) hG (fun k off e=>hB k off ⟨x,by simp [aae],by rw [fX x (by simp [aae])]; exact e⟩) hs;rw [h3];exact ⟨_,rfl,h4⟩
  ·cases h
 case binOp op a x y b=>
  simp only [an,fX x (by simp [aae]),fX y (by simp [aae])] at h ⊢
  repeat' (split at h)
  all_goals (first|(cases h; done) | skip)
  all_goals (injection h with h; injection h with h1 h2; subst h1 h2; (try simp only [*]); exact ⟨_,rfl,.put hn hG _ _⟩)
 case unOp op a x=>
  simp only [an,fX x (by simp [aae])] at h ⊢
  repeat' (split at h)
  all_goals (first|(cases h; done) | skip)
  all_goals (injection h with h; injection h with h1 h2; subst h1 h2; (try simp only [*]); exact ⟨_,rfl,.put hn hG _ _⟩)
 case nilCheck x=>
  simp only [an,fX x (by simp [aae])] at h ⊢
  repeat' (split at h)
  all_goals (first|(cases h; done) | skip)
  all_goals (injection h with h; injection h with h1 h2; subst h1 h2; (try simp only [*]); exact ⟨_,rfl,.put hn hG _ _⟩)
 case convert a b x=>
  simp only [an,fX x (by simp [aae]),CJ hG] at h ⊢
  repeat' (split at h)
  all_goals (first|(cases h; done) | skip)
  all_goals (injection h with h; injection h with h1 h2; subst h1 h2; (try simp only [*]); exact ⟨_,rfl,.put hn hG _ _⟩)
 case makeFunc fo a b=>
  cases fo with
  |func g=>
   have h1:qm E s.af a.toList=qm E t.af a.toList:=jA fun y hy=>fX y (by simp only [aae,aay]; exact .inl (by simpa using hy))
   have h2:qm E s.af b.toList=qm E t.af b.toList:=jA fun y hy=>fX y (by simp only [aae,aay]; exact .inr (by simpa using hy))
   simp only [an,h1,h2] at h ⊢
   repeat' (split at h)
   all_goals (first|(cases h; done) | skip)
   all_goals (injection h with h; injection h with h1 h2; subst h1 h2; (try simp only [*]); exact ⟨_,rfl,.put hn hG _ _⟩)
  |_=>simp [an] at h
 case fieldAddr a x j=>
  simp only [an,fX x (by simp [aae])] at h ⊢
  repeat' (split at h)
  all_goals (first|(cases h; done) | skip)
  all_goals (injection h with h; injection h with h1 h2; subst h1 h2; (try simp only [*]); exact ⟨_,rfl,.put hn hG _ _⟩)
 case field a x j=>
  simp only [an,fX x (by simp [aae])] at h ⊢
  repeat' (split at h)
  all_goals (first|(cases h; done) | skip)
  all_goals (injection h with h; injection h with h1 h2; subst h1 h2; (try simp only [*]); exact ⟨_,rfl,.put hn hG _ _⟩)
 case indexAddr a x y=>
  simp only [an,fX x (by simp [aae]),fX y (by simp [aae])] at h ⊢
  repeat' (split at h)
  all_goals (first|(cases h; done) | skip)
  all_goals (injection h with h; injection h with h1 h2; subst h1 h2; (try simp only [*]); exact ⟨_,rfl,.put hn hG _ _⟩)
 case index a x y=>
  simp only [an,fX x (by simp [aae]),fX y (by simp [aae])] at h ⊢
  repeat' (split at h)
  all_goals (first|(cases h; done) | skip)
  all_goals (injection h with h; injection h with h1 h2; subst h1 h2; (try simp only [*]); exact ⟨_,rfl,.put hn hG _ _⟩)
 case slice a x lo hi mx=>
  have h1:pO E s.af lo=pO E t.af lo:=by
   cases lo with
   |none=>rfl
   |some y=>simp only [pO]; rw [fX y (by simp [aae])]
  have h2:pO E s.af hi=pO E t.af hi:=by
   cases hi with
   |none=>rfl
   |some y=>simp only [pO]; rw [fX y (by simp [aae])]
  simp only [an,fX x (by simp [aae]),h1,h2] at h ⊢
  repeat' (split at h)
  all_goals (first|(cases h; done) | skip)
  all_goals (injection h with h; injection h with h1 h2; subst h1 h2; (try simp only [*]); exact ⟨_,rfl,.put hn hG _ _⟩)
 case extract x i=>
  simp only [an,fX x (by simp [aae])] at h ⊢
  repeat' (split at h)
  all_goals (first|(cases h; done) | skip)
  all_goals (injection h with h; injection h with h1 h2; subst h1 h2; (try simp only [*]); exact ⟨_,rfl,.put hn hG _ _⟩)
 case makeSlice ty x y=>
  simp only [an,rV,fX x (by simp [aae]),fX y (by simp [aae]),hG] at h ⊢
  repeat' (split at h)
  all_goals (first|(cases h; done) | skip)
  all_goals (injection h with h; injection h with h1 h2; subst h1 h2)
  all_goals (simp only [*])
  all_goals (refine ⟨_,rfl,?_⟩)
  all_goals (have e:∀ o,t.fq o=t.cj (t.G++[o]):=fun o=>rfl)
  all_goals (have e':∀ o,s.fq o=s.cj (t.G++[o]):=fun o=>by rw [← hG]; rfl)
  all_goals (try rw [e,e'])
  all_goals (exact cC.fg (al:=false) hn _ dst _)
 case lookup ty x y ok=>
  simp only [an,fX x (by simp [aae]),fX y (by simp [aae]),EP hG] at h ⊢;split at h
  ·injection h with h; injection h with h1 h2; subst h1 h2; (try simp only [*]); exact ⟨_,rfl,.put hn hG _ _⟩
  ·cases h
 case mapUpdate ty x y z=>
  simp only [an,fX x (by simp [aae]),fX y (by simp [aae]),fX z (by simp [aae])] at h ⊢;split at h
  ·rename_i s1 hs;injection h with h; injection h with h1 h2; subst h1 h2;obtain ⟨t',h3,h4⟩:=xS (al:=false) (dst:=none) hG hs;rw [h3];exact ⟨_,rfl,h4⟩
  ·cases h
 case insert ty x y z=>
  simp only [an,fX x (by simp [aae]),fX y (by simp [aae]),fX z (by simp [aae])] at h ⊢;split at h
  ·rename_i s1 hs;injection h with h; injection h with h1 h2; subst h1 h2;obtain ⟨t',h3,h4⟩:=xS (al:=false) (dst:=none) hG hs;rw [h3];exact ⟨_,rfl,h4⟩
  ·cases h
 case entry x=>
  simp only [an,fX x (by simp [aae])] at h ⊢;have e:zj E s (bJ E t.af x)=zj E t (bJ E t.af x):=by unfold zj; rw [hG]
  rw [e] at h;split at h
  ·injection h with h; injection h with h1 h2; subst h1 h2; (try simp only [*]); exact ⟨_,rfl,.put hn hG _ _⟩
  ·cases h
 case mapEntry ty x y=>
  simp only [an,fX x (by simp [aae]),fX y (by simp [aae])] at h ⊢;unfold jv at h ⊢;rw [← hG]
  repeat' (split at h)
  all_goals (first|(cases h; done) | skip)
  rename_i mm
  repeat' (split at mm)
  all_goals (first|(cases mm; done) | skip)
  injection mm with mm; injection mm with h3 mm; injection mm with h4 h5;injection h with h; injection h with h1 h2; subst h1 h2 h3 h4 h5;simp only [*,if_true];exact ⟨_,rfl,cC.fg (al:=false) hn _ dst _⟩
 case entryStore ty x y z=>
  simp only [an,fX x (by simp [aae]),fX y (by simp [aae]),fX z (by simp [aae])] at h ⊢;unfold fV at h ⊢;rw [← hG]
  repeat' (split at h)
  all_goals (first|(cases h; done) | skip)
  rename_i mm
  repeat' (split at mm)
  all_goals (first|(cases mm; done) | skip)
  injection mm with mm; injection mm with h3 h5;injection h with h; injection h with h1 h2; subst h1 h2 h3 h5;simp only [*];exact ⟨_,rfl,.cj _ _⟩
 case range ty x=>
  simp only [an,fX x (by simp [aae])] at h ⊢
  repeat' (split at h)
  all_goals (first|(cases h; done) | skip)
  ·injection h with h; injection h with h1 h2; subst h1 h2
   (try simp only [*])
   refine ⟨_,rfl,?_⟩;have e:∀ o,t.fq o=t.cj (s.G++[o]):=fun o=>by rw [hG]; rfl
   rw [e,← hG];exact cC.fg (al:=false) hn _ dst _
  ·rename_i hk hg;injection h with h; injection h with h1 h2; subst h1 h2;have Kh:=hg;rw [hG] at Kh;simp only [hk,Kh];refine ⟨_,rfl,?_⟩;have e:∀ o,t.fq o=t.cj (s.G++[o]):=fun o=>by rw [hG]; rfl
   rw [e,← hG];exact cC.fg (al:=false) hn _ dst _
 case next x b=>
  cases b with
  |false=>simp [an] at h
  |true=>
   simp only [an,fX x (by simp [aae])] at h ⊢;split at h
   ·rename_i s1 hs;injection h with h; injection h with h1 h2; subst h1 h2;obtain ⟨t',h3,h4⟩:=Lo (al:=false) hn hG hs;rw [h3];exact ⟨_,rfl,h4⟩
   ·cases h
 case makeMap ty r=>
  cases r with
  |none=>
   simp only [an] at h ⊢;injection h with h; injection h with h1 h2; subst h1 h2;refine ⟨_,rfl,?_⟩;have:=cC.fg (al:=false) hn (s.G++[.map []]) dst (.v (.map s.G.length));have e:∀ o,t.fq o=t.cj (s.G++[o]):=fun o=>by rw [hG]; rfl
   rw [e,← hG];exact this
  |some _=>simp [an] at h
 case call cl=>
  obtain ⟨callee,args,tys⟩:=cl;cases callee with
  |builtin b=>
   have h1:qm E s.af args.toList=qm E t.af args.toList:=jA fun y hy=>fX y (by simp [aae,aat]; simpa using hy)
   cases hf:jN E f s { dst:=dst,op:=.call { callee:=.builtin b,args:=args,argTypes:=tys },type:=ty,pos:=pos,after:=after,guard:=guard } with
   |some r=>
    simp only [an,hf] at h;obtain ⟨t',q1,q2⟩:=CK (al:=cN (.call { callee:=.builtin b,args:=args,argTypes:=tys })) hn hG fX (c:=r.1) (s':=r.2) hf;cases h;obtain ⟨a2,t2,ho⟩:=su hf;cases ho;refine ⟨t',by simp only [an,q1],?_⟩;exact q2
   |none=>
   have hf':=Bf hn hG fX hf;simp only [an,hf,hf',h1] at h ⊢;split at h
   ·(try simp only [*])
    obtain ⟨t',h3,h4⟩:=EO (al:=false) hn hG h;refine ⟨t',h3,?_⟩;have:(!yV (.call { callee:=.builtin b,args:=args,argTypes:=tys }))=UP b∨UP b=false:=by cases b <;> simp [yV,UP]
    rcases this with this|this
    ·rw [this]; exact h4
    ·obtain ⟨pre,preB,G,p1,p2,p3⟩:=h4;exact ⟨pre,preB,G,p1,fun _=>p2 this,p3⟩
   ·cases h
  |_=>simp [an] at h
 all_goals (simp [an] at h)
theorem kw {f:FuncId} {c:Bool} {s':St} (hn:s.n=t.n) (hG:s.G=t.G) (hB:eJ s.boxes=eJ t.boxes) (fX:∀ y∈o.op.operands,bJ E s.af y=bJ E t.af y)
  (h:an E f s o=some (c,s')):∃ t',an E f t o=some (c,t')∧cC (cN o.op) (!yV o.op) o.dst s t s' t':=
 xT hn hG (fun k _ _=>by rw [hB]) fX h
end
end Go.Am
namespace Go.Am
open Go
structure uW (s t:St):Prop where
 l:lk s.af=lk t.af
 b:eJ s.boxes=eJ t.boxes
 G:s.G=t.G
 m:s.marks=t.marks
 ro:s.ro=t.ro
 n:s.n=t.n
theorem uW.refl (s:St):uW s s:=⟨rfl,rfl,rfl,rfl,rfl,rfl⟩
theorem uW.symm {s t:St} (h:uW s t):uW t s:=⟨h.l.symm,h.b.symm,h.G.symm,h.m.symm,h.ro.symm,h.n.symm⟩
theorem uW.trans {s t u:St} (h:uW s t) (k:uW t u):uW s u:=⟨h.l.trans k.l,h.b.trans k.b,h.G.trans k.G,h.m.trans k.m,h.ro.trans k.ro,h.n.trans k.n⟩
theorem q9 {a b:bp} {e:Nat} (h:lk a e=lk b e):∀ pre:bp,lk (pre++a) e=lk (pre++b) e
 |[]=>h
 |.put d x :: pre=>by
  simp only [aal,lk];rw [q9 h pre]
 |.kill d :: pre=>by
  simp only [aal,lk];rw [q9 h pre]
theorem CL {a b:dy} {e:Nat} (h:eJ a e=eJ b e):∀ pre:dy,eJ (pre++a) e=eJ (pre++b) e
 |[]=>h
 |(d,x) :: pre=>by
  simp only [aal,eJ];rw [CL h pre]
theorem uW.iy {s t:St} (h:uW s t) (pre:bp) (preB:dy) (G:List GO):uW (s.iy pre preB G) (t.iy pre preB G):=
 ⟨funext fun e=>q9 (by rw [h.l]) pre,funext fun e=>CL (by rw [h.b]) preB,rfl,h.m,h.ro,h.n⟩
theorem Rg {E:Env} {a b:bp} {x:Operand} (h:∀ t,x=.tmp t→lk a t=lk b t):bJ E a x=bJ E b x:=by
 cases x with
 |tmp t=>exact h t rfl
 |_=>rfl
theorem uW.bJ {E:Env} {s t:St} (h:uW s t) (x:Operand):bJ E s.af x=bJ E t.af x:=Rg fun e _=>by rw [h.l]
section HT
variable {E:Env} {R:aj} {w:World} {β:Nat→Nat} {s t:St} {a:Act}
theorem bk.eqv (h:bk E R w β s a) (e:uW s t):bk E R w β t a where
 g:=by rw [← e.G]; exact h.g
 b:=⟨fun k cs hk=>h.b.box k cs (by rw [e.b]; exact hk),fun k k' c c' h1 h2=>h.b.inj k k' c c' (by rw [e.b]; exact h1) (by rw [e.b]; exact h2)⟩
 t:=fun i hi=>by
  rw [← e.l] at hi ⊢;exact h.t i hi
 n:=by rw [← e.n]; exact h.n
 d:=by rw [← e.m]; exact h.d
theorem BD {bx MH:dy} (h:eJ bx=eJ MH) {b:Nat} (k:Own R β bx b):Own R β MH b:=by
 rcases k with k|⟨j,cs,h1,h2⟩
 ·exact .inl k
 ·exact .inr ⟨j,cs,by rw [← h]; exact h1,h2⟩
theorem Step.eqv {R':aj} {w':World} {β':Nat→Nat} {bx MH cx cx':dy} (h:Step R w β bx R' w' β' MH) (h1:eJ bx=eJ cx) (h2:eJ MH=eJ cx'):Step R w β cx R' w' β' cx':=
 ⟨h.ext,h.os,h.tape,h.output,h.size,fun b hb hn=>h.bh b hb (fun ho=>hn (BD h1 ho)),fun b hb ho=>BD h1 (h.own b hb (BD h2.symm ho)),fun b o hi hb hn=>h.im b o hi hb (fun ho=>hn (BD h1 ho))⟩
end HT
section ops
variable {E:Env} {s t:St} {f:FuncId} {o:Oper} {K K':St→Prop}
def Inv (K:St→Prop):Prop:=∀ s t,uW s t→K s→K t
theorem IK {op:Op} (h:yV op=true):cN op=false:=by
 cases op <;> simp_all [yV,cN]
theorem zC (hn:s.n=t.n) (hG:s.G=t.G) (hB:eJ s.boxes=eJ t.boxes) (fX:∀ y∈o.op.operands,bJ E s.af y=bJ E t.af y) (h:nV E f o K s)
  (hK:∀ pre preB G,Pre (cN o.op) o.dst pre→(yV o.op=true→preB=[]∧G=s.G)→K (s.iy pre preB G)→K' (t.iy pre preB G)):nV E f o K' t:=by
 unfold nV at h ⊢;split at h
 ·rename_i x args tys ho;have h1:bJ E s.af x=bJ E t.af x:=fX x (by rw [ho]; simp [aae,aat]);have h2:qm E s.af args.toList=qm E t.af args.toList:=jA fun y hy=>fX y (by rw [ho]; simp [aae,aat]; exact .inr (by simpa using hy))
  try simp only [ho]
  rw [← h1,← h2,← hG];split at h
  ·refine dT.mono h fun r G' hk=>?_
   obtain ⟨pre,preB,G,p1,p2,p3,p4⟩:=cC.fg (s:=s) (t:=t) (al:=cN o.op) hn G' o.dst (.v r);rw [p3] at hk;rw [p4];exact hK pre preB G p1 (fun e=>by rw [ho] at e; simp [yV] at e) hk
  ·refine oJ.mono h fun r G' hk=>?_
   obtain ⟨pre,preB,G,p1,p2,p3,p4⟩:=cC.fg (s:=s) (t:=t) (al:=cN o.op) hn G' o.dst (.v (.bool r));rw [p3] at hk;rw [p4];exact hK pre preB G p1 (fun e=>by rw [ho] at e; simp [yV] at e) hk
  ·exact h.elim
 ·exact h.elim
 ·split at h
  ·rename_i c s' hs;obtain ⟨t',h1,pre,preB,G,p1,p2,p3,p4⟩:=kw hn hG hB fX hs;rw [h1];obtain ⟨rfl,hk⟩:=h.out;refine fj.mk rfl ?_;rw [p3] at hk;rw [p4];exact hK pre preB G p1 (fun e=>⟨(p2 (by simp [e])).1,(p2 (by simp [e])).2.1⟩) hk
  ·exact h.elim
theorem zD (h:nV E f o K s) (hK:∀ s,K s→K' s):nV E f o K' s:=
 zC rfl rfl rfl (fun _ _=>rfl) h fun _ _ _ _ _ hk=>hK _ hk
theorem CM (h:nV E f o K s) (e:uW s t) (hK:Inv K):nV E f o K t:=
 zC e.n e.G e.b (fun y _=>e.bJ y) h fun _ _ _ _ _ hk=>hK _ _ (e.iy _ _ _) hk
def HU (ops:List Oper) (s:St) (o:Oper):Option Bool:=match o.guard with
 |none=>some true
 |some (j,want)=>match tW ops j with
  |some d=>match lk s.af d with
   |.v (.bool b)=>some (b == want)
   |.v (.bG [])=>some false
   |_=>none
  |none=>none
theorem IL (s:St) {d:Tmp} {x:SV} (h:lk s.af d=x):uW s (s.put (some d) x):=by
 simp only [St.put];split
 ·refine ⟨funext fun e=>?_,rfl,rfl,rfl,rfl,rfl⟩;by_cases k:d=e
  ·subst k; rw [aG]; exact h
  ·rw [aX k]
 ·exact uW.refl s
theorem uW.put {s t:St} (h:uW s t) (d:Option Tmp) (x:SV):uW (s.put d x) (t.put d x):=by
 obtain ⟨pre,preB,G,_,_,p3,p4⟩:=cC.put (s:=s) (t:=t) (al:=false) (w:=false) h.n h.G d x;rw [p3,p4];exact h.iy _ _ _
theorem ji {ops:List Oper} (hK:Inv K):cZ E f ops o K s↔(HU ops s o=some true∧nV E f o K s)∨(HU ops s o=some false∧K (s.put o.dst (.v jd))):=by
 unfold cZ HU;cases hg:o.guard with
 |none=>simp
 |some p=>
  obtain ⟨j,want⟩:=p;simp only;cases hd:tW ops j with
  |none=>simp
  |some d=>
   simp only;cases hl:lk s.af d with
   |none=>simp
   |lp _ _=>simp
   |v a=>
    cases a with
    |bool b=>
     have e1:b=want→uW s (s.put (some d) (.v (.bool want))):=fun e=>IL s (by rw [hl,e])
     have e2:b=(!want)→uW s (s.put (some d) (.v (.bool (!want)))):=fun e=>IL s (by rw [hl,e])
     constructor
     ·intro ⟨h1,h2⟩;by_cases e:b=want
      ·exact .inl ⟨by simp [e],CM (h1 e) (e1 e).symm hK⟩
      ·have e':b=(!want):=by cases b <;> cases want <;> simp_all
       exact .inr ⟨by simp [e],hK _ _ ((e2 e').symm.put _ _) (h2 e')⟩
     ·rintro (⟨h1,h2⟩|⟨h1,h2⟩)
      ·have e:b=want:=by simpa using h1
       exact ⟨fun e=>CM h2 (e1 e) hK,fun e'=>by subst e; cases b <;> cases e'⟩
      ·have e:¬ b=want:=by simpa using h1
       exact ⟨fun k=>absurd k e,fun e'=>hK _ _ ((e2 e').put _ _) h2⟩
    |bG vs=>cases vs <;> simp
    |_=>simp
theorem da {ops:List Oper} (h:cZ E f ops o K s) (hK:∀ s,K s→K' s):cZ E f ops o K' s:=by
 unfold cZ at h ⊢;split at h
 ·exact zD h hK
 ·split at h
  ·exact h.elim
  ·split at h
   ·exact ⟨fun e=>zD (h.1 e) hK,fun e=>hK _ (h.2 e)⟩
   ·exact hK _ h
   ·exact h.elim
theorem GX {ops:List Oper} (e:uW s t):HU ops s o=HU ops t o:=by
 unfold HU;rw [e.l]
theorem IM {ops:List Oper} (hK:Inv K):Inv (cZ E f ops o K):=fun s t e h=>by
 rw [ji hK] at h ⊢;rcases h with ⟨h1,h2⟩|⟨h1,h2⟩
 ·exact .inl ⟨by rw [← GX e]; exact h1,CM h2 e hK⟩
 ·exact .inr ⟨by rw [← GX e]; exact h1,hK _ _ (e.put _ _) h2⟩
end ops
end Go.Am
namespace Go.Am
open Go
def Rh (dst:Option Tmp) (s t s' t':St):Prop:=∃ x,s'=s.put dst x∧t'=t.put dst x
section
variable {E:Env} {s t:St} {o:Oper}
theorem Rh.put (_:s.n=t.n) (dst:Option Tmp) (x:SV):Rh dst s t (s.put dst x) (t.put dst x):=⟨x,rfl,rfl⟩
theorem IN {f:FuncId} {c:Bool} {s':St} (hN:yV o.op=true) (hR:Zf o.op=false) (hn:s.n=t.n) (fX:∀ y∈o.op.operands,bJ E s.af y=bJ E t.af y)
  (h:an E f s o=some (c,s')):∃ t',an E f t o=some (c,t')∧Rh o.dst s t s' t':=by
 obtain ⟨dst,op,ty,pos,after,guard⟩:=o;cases op
 case move x=>
  simp only [an,fX x (by simp [aae])] at h ⊢;split at h
  all_goals (injection h with h; injection h with h1 h2; subst h1 h2; (try simp only [*]); exact ⟨_,rfl,.put hn _ _⟩)
 case assign x=>
  simp only [an,fX x (by simp [aae])] at h ⊢;split at h
  all_goals (injection h with h; injection h with h1 h2; subst h1 h2; (try simp only [*]); exact ⟨_,rfl,.put hn _ _⟩)
 case pick x y z=>
  simp only [an,fX x (by simp [aae]),fX y (by simp [aae]),fX z (by simp [aae])] at h ⊢;split at h
  ·injection h with h; injection h with h1 h2; subst h1 h2; (try simp only [*]); exact ⟨_,rfl,.put hn _ _⟩
  ·cases h
 case build ty ps=>
  have he:rS E s ty ps.toList=rS E t ty ps.toList:=by
   unfold rS;rw [qZ (fun p hp=>fX p.2 (by simp only [aae,aax,aaM]; exact ⟨p,hp,rfl⟩))]
  simp only [an,he] at h ⊢;split at h
  ·injection h with h; injection h with h1 h2; subst h1 h2; (try simp only [*]); exact ⟨_,rfl,.put hn _ _⟩
  ·cases h
 case buildSlice ty len ps=>
  have he:cV E s ty len ps.toList=cV E t ty len ps.toList:=by
   unfold cV;rw [qZ (fun p hp=>fX p.2 (by simp only [aae,aax,aaM]; exact ⟨p,hp,rfl⟩))]
  simp only [an,he] at h ⊢;split at h
  ·injection h with h; injection h with h1 h2; subst h1 h2; (try simp only [*]); exact ⟨_,rfl,.put hn _ _⟩
  ·cases h
 case binOp op a x y b=>
  simp only [an,fX x (by simp [aae]),fX y (by simp [aae])] at h ⊢
  repeat' (split at h)
  all_goals (first|(cases h; done) | skip)
  all_goals (injection h with h; injection h with h1 h2; subst h1 h2; (try simp only [*]); exact ⟨_,rfl,.put hn _ _⟩)
 case unOp op a x=>
  simp only [an,fX x (by simp [aae])] at h ⊢
  repeat' (split at h)
  all_goals (first|(cases h; done) | skip)
  all_goals (injection h with h; injection h with h1 h2; subst h1 h2; (try simp only [*]); exact ⟨_,rfl,.put hn _ _⟩)
 case convert a b x=>simp [Zf] at hR
 case nilCheck x=>
  simp only [an,fX x (by simp [aae])] at h ⊢
  repeat' (split at h)
  all_goals (first|(cases h; done) | skip)
  all_goals (injection h with h; injection h with h1 h2; subst h1 h2; (try simp only [*]); exact ⟨_,rfl,.put hn _ _⟩)
 case makeFunc fo a b=>
  cases fo with
  |func g=>
   have h1:qm E s.af a.toList=qm E t.af a.toList:=jA fun y hy=>fX y (by simp only [aae,aay]; exact .inl (by simpa using hy))
   have h2:qm E s.af b.toList=qm E t.af b.toList:=jA fun y hy=>fX y (by simp only [aae,aay]; exact .inr (by simpa using hy))
   simp only [an,h1,h2] at h ⊢
   repeat' (split at h)
   all_goals (first|(cases h; done) | skip)
   all_goals (injection h with h; injection h with h1 h2; subst h1 h2; (try simp only [*]); exact ⟨_,rfl,.put hn _ _⟩)
  |_=>simp [an] at h
 case fieldAddr a x j=>
  simp only [an,fX x (by simp [aae])] at h ⊢
  repeat' (split at h)
  all_goals (first|(cases h; done) | skip)
  all_goals (injection h with h; injection h with h1 h2; subst h1 h2; (try simp only [*]); exact ⟨_,rfl,.put hn _ _⟩)
 case field a x j=>
  simp only [an,fX x (by simp [aae])] at h ⊢
  repeat' (split at h)
  all_goals (first|(cases h; done) | skip)
  all_goals (injection h with h; injection h with h1 h2; subst h1 h2; (try simp only [*]); exact ⟨_,rfl,.put hn _ _⟩)
 case indexAddr a x y=>
  simp only [an,fX x (by simp [aae]),fX y (by simp [aae])] at h ⊢
  repeat' (split at h)
  all_goals (first|(cases h; done) | skip)
  all_goals (injection h with h; injection h with h1 h2; subst h1 h2; (try simp only [*]); exact ⟨_,rfl,.put hn _ _⟩)
 case index a x y=>
  simp only [an,fX x (by simp [aae]),fX y (by simp [aae])] at h ⊢
  repeat' (split at h)
  all_goals (first|(cases h; done) | skip)
  all_goals (injection h with h; injection h with h1 h2; subst h1 h2; (try simp only [*]); exact ⟨_,rfl,.put hn _ _⟩)
 case slice a x lo hi mx=>
  have h1:pO E s.af lo=pO E t.af lo:=by
   cases lo with
   |none=>rfl
   |some y=>simp only [pO]; rw [fX y (by simp [aae])]
  have h2:pO E s.af hi=pO E t.af hi:=by
   cases hi with
   |none=>rfl
   |some y=>simp only [pO]; rw [fX y (by simp [aae])]
  simp only [an,fX x (by simp [aae]),h1,h2] at h ⊢
  repeat' (split at h)
  all_goals (first|(cases h; done) | skip)
  all_goals (injection h with h; injection h with h1 h2; subst h1 h2; (try simp only [*]); exact ⟨_,rfl,.put hn _ _⟩)
 case extract x i=>
  simp only [an,fX x (by simp [aae])] at h ⊢
  repeat' (split at h)
  all_goals (first|(cases h; done) | skip)
  all_goals (injection h with h; injection h with h1 h2; subst h1 h2; (try simp only [*]); exact ⟨_,rfl,.put hn _ _⟩)
 all_goals (first|(simp [yV] at hN; done) | (simp [Zf] at hR; done))
end
end Go.Am
namespace Go.Am
open Go
section
variable {E:Env} {s t:St} {f:FuncId} {ops:Array Oper} {o oj oi:Oper} {d:Tmp} {x:SV} {K:St→Prop}
theorem Ri (ops:Array Oper) (j:Nat):tW ops.toList j=(ops[j]?).bind (·.dst):=by
 unfold tW;rw [bg,Array.getElem?_toList];cases ops[j]? <;> rfl
theorem sx {e:Tmp} (h:.tmp e∈o.op.operands):e∈o.looksAt ops:=
 List.mem_append_left _ (List.mem_filterMap.2 ⟨.tmp e,by simpa using h,rfl⟩)
theorem nj {j:Nat} {want:Bool} {e:Tmp} (h:o.guard=some (j,want)) (he:tW ops.toList j=some e):e∈o.looksAt ops:=by
 rw [Ri] at he;refine List.mem_append_right _ ?_;rw [h];simp [he]
theorem oK (h:∀ e∈o.looksAt ops,lk s.af e=lk t.af e):∀ y∈o.op.operands,bJ E s.af y=bJ E t.af y:=fun _ hy=>
 Rg fun e he=>h e (sx (he ▸ hy))
theorem om (h:∀ e∈o.looksAt ops,lk s.af e=lk t.af e):HU ops.toList s o=HU ops.toList t o:=by
 unfold HU;split
 ·rfl
 ·rename_i j want hg;split
  ·rename_i e he;rw [h e (nj hg he)]
  ·rfl
theorem BE (s:St) (d:Tmp) (x:SV) {e:Nat} (h:d≠e):lk (s.put (some d) x).af e=lk s.af e:=by
 simp only [St.put];split
 ·exact aX h
 ·rfl
theorem jj (s:St) (d:Option Tmp) (x:SV):(s.put d x).boxes=s.boxes∧(s.put d x).G=s.G∧(s.put d x).n=s.n∧(s.put d x).marks=s.marks∧(s.put d x).ro=s.ro:=by
 cases d with
 |none=>exact ⟨rfl,rfl,rfl,rfl,rfl⟩
 |some d=>
  simp only [St.put];split <;> exact ⟨rfl,rfl,rfl,rfl,rfl⟩
def CN (E:Env) (f:FuncId) (ops:Array Oper) (o:Oper) (s:St) (x:SV):Prop:=
 (HU ops.toList s o=some true∧an E f s o=some (true,s.put o.dst x))∨(HU ops.toList s o=some false∧x=.v jd)
theorem Rj {c:Bool} {s':St} (hN:yV o.op=true) (h:an E f s o=some (c,s')):∃ x,s'=s.put o.dst x:=by
 obtain ⟨t',_,pre,preB,G,_,h2,_,_⟩:=kw (t:=s) rfl rfl rfl (fun _ _=>rfl) h;obtain ⟨_,_,x,hx,_⟩:=h2 (by simp [hN]);exact ⟨x,hx⟩
theorem Rk (hN:yV o.op=true):nV E f o K s↔∃ s',an E f s o=some (true,s')∧K s':=by
 unfold nV;split
 ·rename_i h;rw [h] at hN;simp [yV] at hN
 ·rename_i h;rw [h] at hN;simp [yV] at hN
 ·split
  ·rename_i c s' hs;constructor
   ·intro h;obtain ⟨rfl,hk⟩:=h.out;exact ⟨s',hs,hk⟩
   ·rintro ⟨GJ,h1,h2⟩;rw [hs] at h1;cases h1;exact fj.mk rfl h2
  ·rename_i hs;constructor
   ·exact fun h=>h.elim
   ·rintro ⟨GJ,h1,_⟩;rw [hs] at h1;cases h1
theorem CO (hN:yV o.op=true) (hK:Inv K) (h:cZ E f ops.toList o K s):∃ x,CN E f ops o s x∧K (s.put o.dst x):=by
 rcases (ji hK).1 h with ⟨h1,h2⟩|⟨h1,h2⟩
 ·obtain ⟨s',h3,h4⟩:=(Rk hN).1 h2;obtain ⟨x,rfl⟩:=Rj hN h3;exact ⟨x,.inl ⟨h1,h3⟩,h4⟩
 ·exact ⟨_,.inr ⟨h1,rfl⟩,h2⟩
theorem CP (hN:yV o.op=true) (hK:Inv K) (hx:CN E f ops o s x) (h:K (s.put o.dst x)):cZ E f ops.toList o K s:=by
 rw [ji hK];rcases hx with ⟨h1,h2⟩|⟨h1,rfl⟩
 ·exact .inl ⟨h1,(Rk hN).2 ⟨_,h2,h⟩⟩
 ·exact .inr ⟨h1,h⟩
def Lp (E:Env) (f:FuncId) (ops:List Oper) (o:Oper) (s:St):Prop:=match HU ops s o with
 |some true=>match o.dst,an E f s o with
  |some d,some (c,s')=>c=true∧lk s'.af d=lk s.af d
  |_,_=>False
 |some false=>True
 |none=>False
theorem UQ (hN:yV o.op=true) (hd:d∉o.looksAt ops) (du:o.dst≠some d) (he:∀ e,d≠e→lk s.af e=lk t.af e) (hB:eJ s.boxes=eJ t.boxes) (hG:s.G=t.G) (hn:s.n=t.n)
  (h:Lp E f ops.toList o s):Lp E f ops.toList o t:=by
 have hl:∀ e∈o.looksAt ops,lk s.af e=lk t.af e:=fun e hm=>he e fun k=>hd (k ▸ hm)
 unfold Lp at h ⊢;rw [← om hl];split
 ·rename_i hg;rw [hg] at h;simp only at h;split at h
  ·rename_i e c s' O6 hs;obtain ⟨t',h3,pre,preB,G,_,h4,_,_⟩:=kw hn hG hB (oK hl) hs;obtain ⟨_,_,y,h5,h6⟩:=h4 (by simp [hN]);rw [O6,h3];refine ⟨h.1,?_⟩;have hde:d≠e:=fun k=>du (by rw [O6,k])
   have h7:=h.2;rw [h5,O6] at h7;rw [h6,O6,← he e hde];simp only [St.put,← hn] at h7 ⊢;split
   ·rename_i hb;rw [hb] at h7;simp only [aG] at h7 ⊢;exact h7
   ·exact (he e hde).symm
  ·exact h.elim
 ·trivial
 ·rename_i hg;rw [hg] at h;exact h
theorem UR (hN:yV o.op=true) (e:uW s t) (h:Lp E f ops.toList o s):Lp E f ops.toList o t:=by
 unfold Lp at h ⊢;rw [← GX e];split
 ·rename_i hg;rw [hg] at h;simp only at h;split at h
  ·rename_i d c s' O6 hs;obtain ⟨t',h3,pre,preB,G,_,h4,_,_⟩:=kw e.n e.G e.b (fun y _=>e.bJ y) hs;obtain ⟨_,_,y,h5,h6⟩:=h4 (by simp [hN]);rw [O6,h3];refine ⟨h.1,?_⟩;rw [h6,← (e.put o.dst y).l,← h5,← e.l];exact h.2
  ·exact h.elim
 ·trivial
 ·rename_i hg;rw [hg] at h;exact h
def mE (oj oi:Oper):Bool:=cN oi.op || (Zf oj.op&&!yV oi.op)
theorem Rl {al:Bool} {dst:Option Tmp} {pre:bp} (h:Pre al dst pre) {e:Nat} (he:dst≠some e) (l:bp):lk (pre++l) e=lk l e∨(al=true∧∃ k off,lk l e=.lp k off):=by
 rcases h with rfl|⟨d,y,rfl,rfl|⟨rfl,rfl⟩⟩
 ·exact .inl rfl
 ·exact .inl (aX fun k=>he (by rw [k]))
 ·simp only [aal,aas];rw [aX (fun k=>he (by rw [k]))];simp only [lk];cases hl:lk l e with
  |lp k off=>exact .inr ⟨trivial,k,off,rfl⟩
  |_=>exact .inl rfl
theorem xU {al:Bool} {pre:bp} (preB:dy) (G:List GO) (h:Pre al oi.dst pre) (du:oi.dst≠some d) (hx:al=false∨∃ a,x=.v a):uW ((s.put (some d) x).iy pre preB G) ((s.iy pre preB G).put (some d) x):=by
 have hb:∀ b,aau d s.n=b→uW ((s.put (some d) x).iy pre preB G) ((s.iy pre preB G).put (some d) x):=fun b hb=>by
  have mX:aau d (s.iy pre preB G).n=b:=hb;rw [pX,pX,hb,mX];cases b with
  |false=>exact uW.refl _
  |true=>
   refine ⟨funext fun e=>?_,rfl,rfl,rfl,rfl,rfl⟩;simp only [cond_true,St.iy,aal,aas];by_cases k:d=e
   ·subst k;rw [aG];rcases Rl h du (.put d x :: s.af) with h1|⟨h1,k,off,h2⟩
    ·rw [h1,aG]
    ·rw [aG] at h2;rcases hx with hx|⟨a,hx⟩
     ·rw [hx] at h1; cases h1
     ·rw [hx] at h2; cases h2
   ·rw [aX k];exact q9 (aX k) pre
 exact hb _ rfl
theorem O7 (hN:yV oj.op=true) (M0:oj.dst=some d) (IP:d∉oj.looksAt ops) (hap:oj.apart ops oi=true) (hK:Inv K) (hx:CN E f ops oj s x) {pre:bp} {preB:dy} {G:List GO}
  (IQ:Pre (cN oi.op) oi.dst pre) (hNi:yV oi.op=true→preB=[]∧G=s.G) (hk:K ((s.put (some d) x).iy pre preB G)) (hre:∀ t',K t'→mE oj oi=true→Lp E f ops.toList oj t') :
  ∃ x',CN E f ops oj (s.iy pre preB G) x'∧K ((s.iy pre preB G).put (some d) x'):=by
 obtain ⟨_,du,Bb⟩:=Oper.apart_spec hap;have K0:oi.dst≠some d:=du d M0;have xV:∀ e∈oj.looksAt ops,oi.dst≠some e:=fun e he k=>Bb e k he
 have An:∀ e∈oj.looksAt ops,(cN oi.op=false∨∃ b,lk s.af e=.v b)→lk s.af e=lk (s.iy pre preB G).af e:=fun e he ha=>by
  rcases Rl IQ (xV e he) s.af with h1|⟨h1,k,off,h2⟩
  ·exact h1.symm
  ·rcases ha with ha|⟨b,ha⟩
   ·rw [ha] at h1; cases h1
   ·rw [ha] at h2; cases h2
 have US:∀ b,HU ops.toList s oj=some b→HU ops.toList (s.iy pre preB G) oj=some b:=fun b hb=>by
  unfold HU at hb ⊢;split
  ·rename_i hg; rw [hg] at hb; exact hb
  ·rename_i j want hg;rw [hg] at hb;simp only at hb;split
   ·rename_i e he;rw [he] at hb;simp only at hb;split at hb
    ·rename_i b' hl;have:=An e (nj hg he) (.inr ⟨_,hl⟩);rw [← this,hl];exact hb
    ·rename_i hl;have:=An e (nj hg he) (.inr ⟨_,hl⟩);rw [← this,hl];exact hb
    ·cases hb
   ·rename_i he; rw [he] at hb; cases hb
 rcases hx with ⟨h1,h2⟩|⟨h1,rfl⟩
 ·rw [M0] at h2;by_cases ahE:mE oj oi=true
  ·have hr:=hre _ hk ahE
   -- the state with the slot, and the one without it
   have GI:∀ e,d≠e→lk ((s.put (some d) x).iy pre preB G).af e=lk (s.iy pre preB G).af e:=fun e he=>q9 (BE s d x he) pre
   have hB:eJ ((s.put (some d) x).iy pre preB G).boxes=eJ (s.iy pre preB G).boxes:=by
    simp only [St.iy]; rw [(jj s _ x).1]
   have hn:((s.put (some d) x).iy pre preB G).n=(s.iy pre preB G).n:=(jj s _ x).2.2.1;have UT:∀ e∈oj.looksAt ops,lk ((s.put (some d) x).iy pre preB G).af e=lk (s.iy pre preB G).af e:=fun e he=>GI e fun k=>IP (k ▸ he)
   have hg2:HU ops.toList ((s.put (some d) x).iy pre preB G) oj=some true:=by rw [om UT]; exact US _ h1
   unfold Lp at hr;rw [hg2] at hr;simp only [M0] at hr;split at hr
   ·rename_i d' c s' MK hs;cases MK;obtain ⟨rfl,hr⟩:=hr;obtain ⟨t',h3,p,pB,G2,_,h4,_,_⟩:=kw (t:=s.iy pre preB G) hn rfl hB (oK UT) hs;obtain ⟨_,_,y,h5,h6⟩:=h4 (by simp [hN]);rw [h6] at h3;rw [h5,M0] at hr;refine ⟨y,.inl ⟨US _ h1,h3⟩,hK _ _ ?_ hk⟩;have hmr:((s.put (some d) x).iy pre preB G).marks=(s.iy pre preB G).marks∧((s.put (some d) x).iy pre preB G).ro=(s.iy pre preB G).ro:=(jj s _ x).2.2.2;obtain ⟨q1,q2,q3,q4,q5⟩:=jj (s.iy pre preB G) (some d) y;refine ⟨funext fun e=>?_,by rw [q1]; exact hB,by rw [q2]; rfl,by rw [q4]; exact hmr.1,by rw [q5]; exact hmr.2,by rw [q3]; exact hn⟩;by_cases k:d=e
    ·subst k;rw [← hr];have hb:∀ b,aau d s.n=b→lk (((s.put (some d) x).iy pre preB G).put (some d) y).af d=lk ((s.iy pre preB G).put (some d) y).af d:=fun b hb=>by
      have M1:aau d (s.iy pre preB G).n=b:=hb;have O8:aau d ((s.put (some d) x).iy pre preB G).n=b:=by rw [hn]; exact hb
      rw [pX _ d y,pX _ d y,M1,O8];cases b with
      |true=>simp [St.iy,aG]
      |false=>
       simp only [cond_false];rw [pX,hb];rfl
     exact hb _ rfl
    ·rw [BE _ _ _ k];exact GI e k
   ·exact hr.elim
  ·have O9:cN oi.op=false:=by cases ha:cN oi.op <;> simp_all [mE]
   have hl:∀ e∈oj.looksAt ops,lk s.af e=lk (s.iy pre preB G).af e:=fun e he=>An e he (.inl O9)
   have fin:∀ y,s.put (some d) x=s.put (some d) y→an E f (s.iy pre preB G) oj=some (true,(s.iy pre preB G).put oj.dst y) →
     ∃ x',CN E f ops oj (s.iy pre preB G) x'∧K ((s.iy pre preB G).put (some d) x'):=fun y hy hs=>by
    refine ⟨y,.inl ⟨US _ h1,hs⟩,hK _ _ (xU (oi:=oi) preB G IQ K0 (.inl O9)) ?_⟩;rw [← hy];exact hk
   cases hNo:yV oi.op with
   |true=>
    obtain ⟨rfl,rfl⟩:=hNi hNo;obtain ⟨t',h3,p,pB,G2,_,h4,_,_⟩:=kw (s:=s) (t:=s.iy pre [] s.G) rfl rfl rfl (oK hl) h2;obtain ⟨_,_,y,h5,h6⟩:=h4 (by simp [hN]);rw [M0] at h5;exact fin y h5 (by rw [h3,h6])
   |false=>
    have hR:Zf oj.op=false:=by cases ha:Zf oj.op <;> simp_all [mE]
    obtain ⟨t',h3,y,h5,h6⟩:=IN (s:=s) (t:=s.iy pre preB G) hN hR rfl (oK hl) h2;rw [M0] at h5;exact fin y h5 (by rw [h3,h6])
 ·exact ⟨_,.inr ⟨US _ h1,rfl⟩,hK _ _ (xU (oi:=oi) preB G IQ K0 (.inr ⟨_,rfl⟩)) hk⟩
end
end Go.Am
namespace Go.Am
open Go
section
variable {E:Env} {s t:St} {o:Oper}
def ky (E:Env) (s:St) (o:Oper) (s':St):Prop:=
 (s'.af=s.af∨∃ d x,o.dst=some d∧(s'.af=.put d x :: s.af∨s'.af=.put d x :: .kill d :: s.af)∧∀ k off,x=.lp k off→(∃ y∈o.op.operands,∃ jP,bJ E s.af y=.lp k jP)∨(cN o.op=true∧k=d)) ∧
 (s'.boxes=s.boxes∨∃ k cs,s'.boxes=(k,cs) :: s.boxes∧((cN o.op=true∧o.dst=some k)∨∃ y∈o.op.operands,∃ off,bJ E s.af y=.lp k off))
theorem pY {s1:St} (h1:s1.af=s.af) (h2:s1.boxes=s.boxes) {x:SV} (hx:∀ k off,x=.lp k off→∃ y∈o.op.operands,∃ jP,bJ E s.af y=.lp k jP):ky E s o (s1.put o.dst x):=by
 refine ⟨?_,.inl (by rw [(jj s1 o.dst x).1,h2])⟩;cases hd:o.dst with
 |none=>exact .inl h1
 |some d=>
  simp only [St.put];split
  ·exact .inr ⟨d,x,rfl,.inl (by rw [h1]),fun k off h=>.inl (hx k off h)⟩
  ·exact .inl h1
theorem nE {s1:St} (h1:s1.af=s.af) (h2:s1.boxes=s.boxes) (a:AV):ky E s o (s1.put o.dst (.v a)):=pY h1 h2 fun k off h=>by cases h
theorem ra {s1:St} (h1:s1.af=s.af) (h2:s1.boxes=s.boxes):ky E s o s1:=⟨.inl h1,.inl h2⟩
theorem UU {k:Nat} {cs:List AV} (h:∃ y∈o.op.operands,∃ off,bJ E s.af y=.lp k off):ky E s o (s.Af k cs):=⟨.inl rfl,.inr ⟨k,cs,rfl,.inr h⟩⟩
theorem IR {n:Nat} {x:SV} {k off:Nat} (h:E7 n x=some (.lp k off)):∃ jP,x=.lp k jP:=by
 unfold E7 at h;split at h <;> cases h;exact ⟨_,rfl⟩
theorem EQ {ty:TypeId} {x:SV} {j k off:Nat} (h:oC E ty x j=some (.lp k off)):∃ jP,x=.lp k jP:=by
 unfold oC at h
 repeat' (split at h)
 all_goals (first|(cases h; done) | exact IR h)
theorem ER {ty:TypeId} {x ix:SV} {c:Bool} {k off:Nat} (h:oB E ty x ix=some (c,.lp k off)):∃ jP,x=.lp k jP:=by
 unfold oB at h
 repeat' (split at h)
 all_goals (first|(cases h; done) | skip)
 rename_i hm;injection h with h; injection h with h1 h2; subst h2;exact IR hm
theorem Lq {ty:TypeId} {p x:SV} {s':St} (hp:∀ k off,p=.lp k off→∃ y∈o.op.operands,∃ jP,bJ E s.af y=.lp k jP) (h:jI E s ty p x=some s'):ky E s o s':=by
 unfold jI at h
 repeat' (split at h)
 all_goals (first|(cases h; done) | skip)
 ·cases h; exact UU (hp _ _ rfl)
 ·cases h; exact ra rfl rfl
theorem Lr {ty:TypeId} {p x:SV} {c:Bool} {s':St} (hp:∀ k off,p=.lp k off→∃ y∈o.op.operands,∃ jP,bJ E s.af y=.lp k jP) (h:iS E s ty p x=some (c,s')):ky E s o s':=by
 unfold iS at h
 repeat' (split at h)
 all_goals (first|(cases h; done) | skip)
 ·injection h with h; injection h with h1 h2; subst h2; exact ra rfl rfl
 ·injection h with h; injection h with h1 h2; subst h2; exact ra rfl rfl
 ·rename_i hs;injection h with h; injection h with h1 h2; subst h2; exact Lq hp hs
theorem Ls {ty:TypeId} {p x:SV} {c:Bool} {s':St} (hp:∀ k off,p=.lp k off→∃ y∈o.op.operands,∃ jP,bJ E s.af y=.lp k jP) (h:nf E s ty p x=some (c,s')):ky E s o s':=by
 unfold nf at h;split at h
 ·rename_i hs;injection h with h; injection h with e1 e2;subst e2;exact Lr (s:=s.cj (wo s p x).2.2) hp hs
 ·cases h
theorem Aw {ty:TypeId} {m k x:SV} {s':St} (h:ia E s ty m k x=some s'):ky E s o s':=by
 unfold ia at h
 repeat' (split at h)
 all_goals (first|(cases h; done) | skip)
 cases h; exact ra rfl rfl
theorem Pa {x:SV} {s':St} (h:pU s o.dst x=some s'):ky E s o s':=by
 unfold pU at h;split at h
 ·split at h
  ·rename_i l pos hg;cases hb:aau pos l.length with
   |true=>
    rw [hb] at h;simp only [cond_true] at h;cases h;exact nE rfl rfl _
   |false=>
    rw [hb] at h;simp only [cond_false] at h;cases h;exact nE rfl rfl _
  ·cases h
 ·cases h
theorem GY {b:Builtin} {l:List AV} {tys:List TypeId} {c:Bool} {s':St} (h:dm E s o.dst b l tys=some (c,s')):ky E s o s':=by
 unfold dm at h;cases b
 all_goals (try (cases h; done))
 all_goals (try simp only at h)
 all_goals (try (split at h <;> first | (cases h; done) | simp only at h))
 all_goals (repeat' (split at h))
 all_goals (first|(cases h; done) | skip)
 all_goals (injection h with h; injection h with h1 h2; subst h1 h2)
 all_goals (first|exact nE rfl rfl _ | exact ra rfl rfl)
theorem Pb {f:FuncId} {c:Bool} {s':St} (h:jN E f s o=some (c,s')):ky E s o s':=by
 unfold jN at h
 repeat' (split at h)
 all_goals (first|(cases h; done) | skip)
 injection h with h; injection h with h2 h3;subst h3;exact nE rfl rfl _
theorem CQ {f:FuncId} {el:TypeId} {cs:List AV} {c:Bool} {s':St} (ha:cN o.op=true) (h:hY E f s o.dst el cs=some (c,s')):ky E s o s':=by
 unfold hY at h;split at h
 ·cases h
 ·rename_i d hd;split at h
  ·injection h with h; injection h with h1 h2; subst h2;rw [← hd];exact nE rfl rfl _
  ·split at h
   ·rename_i hb;injection h with h; injection h with h1 h2; subst h2;refine ⟨.inr ⟨d,.lp d 0,hd,.inr ?_,fun k off h=>by cases h; exact .inr ⟨ha,rfl⟩⟩,.inr ⟨d,cs,?_,.inl ⟨ha,hd⟩⟩⟩
    ·simp only [St.put,St.Af,St.kill,hb]
    ·rw [(jj _ (some d) (.lp d 0)).1]; rfl
   ·cases h
theorem Lt {f:FuncId} {c:Bool} {s':St} (h:an E f s o=some (c,s')):ky E s o s':=by
 cases ho:o.op
 case move x=>
  simp only [an,ho] at h;split at h
  all_goals (injection h with h; injection h with h1 h2; subst h2)
  ·exact nE rfl rfl _
  ·rename_i k off hx;exact pY rfl rfl fun k' jP e=>by cases e; exact ⟨x,by rw [ho]; simp [aae],_,hx⟩
  ·exact pY rfl rfl fun k' jP e=>by cases e
 case assign x=>
  simp only [an,ho] at h;split at h
  all_goals (injection h with h; injection h with h1 h2; subst h2)
  ·exact nE rfl rfl _
  ·rename_i k off hx;exact pY rfl rfl fun k' jP e=>by cases e; exact ⟨x,by rw [ho]; simp [aae],_,hx⟩
  ·exact pY rfl rfl fun k' jP e=>by cases e
 case nilCheck x=>
  simp only [an,ho] at h;split at h
  ·injection h with h; injection h with h1 h2; subst h2;exact nE rfl rfl _
  ·injection h with h; injection h with h1 h2; subst h2;exact nE rfl rfl _
  ·rename_i k off hx;injection h with h; injection h with h1 h2; subst h2;exact pY rfl rfl fun k' jP e=>by cases e; exact ⟨x,by rw [ho]; simp [aae],_,hx⟩
  ·cases h
 case fieldAddr a x j=>
  simp only [an,ho] at h;split at h
  ·rename_i p hp;injection h with h; injection h with h1 h2; subst h2;exact pY rfl rfl fun k' jP e=>by subst e; exact ⟨x,by rw [ho]; simp [aae],EQ hp⟩
  ·cases h
 case indexAddr a x y=>
  simp only [an,ho] at h;split at h
  ·rename_i c' p hp;injection h with h; injection h with h1 h2; subst h2;exact pY rfl rfl fun k' jP e=>by subst e; exact ⟨x,by rw [ho]; simp [aae],ER hp⟩
  ·cases h
 case alloc e=>
  simp only [an,ho] at h
  repeat' (split at h)
  all_goals (first|(cases h; done) | skip)
  exact CQ (by rw [ho]; rfl) h
 case box e x=>
  simp only [an,ho] at h
  repeat' (split at h)
  all_goals (first|(cases h; done) | skip)
  exact CQ (by rw [ho]; rfl) h
 case store ty x y=>
  simp only [an,ho] at h;split at h
  ·rename_i hs;injection h with h; injection h with h1 h2; subst h2;exact Ls (fun k off e=>⟨x,by rw [ho]; simp [aae],off,e⟩) hs
  ·cases h
 case mapUpdate ty x y z=>
  simp only [an,ho] at h;split at h
  ·rename_i hs;injection h with h; injection h with h1 h2; subst h2;exact Aw hs
  ·cases h
 case insert ty x y z=>
  simp only [an,ho] at h;split at h
  ·rename_i hs;injection h with h; injection h with h1 h2; subst h2;exact Aw hs
  ·cases h
 case mapEntry ty x y=>
  simp only [an,ho] at h;split at h
  ·rename_i hs;injection h with h; injection h with h1 h2; subst h2;unfold jv at hs
   repeat' (split at hs)
   all_goals (first|(cases hs; done) | skip)
   injection hs with hs; injection hs with h3 hs; injection hs with h4 h5;subst h5;exact nE rfl rfl _
  ·cases h
 case entryStore ty x y z=>
  simp only [an,ho] at h;split at h
  ·rename_i hs;injection h with h; injection h with h1 h2; subst h2;unfold fV at hs
   repeat' (split at hs)
   all_goals (first|(cases hs; done) | skip)
   injection hs with hs; injection hs with h3 h4;subst h4;exact ra rfl rfl
  ·cases h
 case next x b=>
  cases b with
  |false=>simp [an,ho] at h
  |true=>
   simp only [an,ho] at h;split at h
   ·rename_i hs;injection h with h; injection h with h1 h2; subst h2;exact Pa hs
   ·cases h
 case call cl=>
  obtain ⟨callee,args,tys⟩:=cl;cases callee with
  |builtin b=>
   simp only [an,ho] at h;split at h
   ·rename_i r hf;cases h;exact Pb hf
   ·split at h
    ·exact GY h
    ·cases h
  |_=>simp [an,ho] at h
 case makeFunc fo a b=>
  cases fo with
  |func g=>
   simp only [an,ho] at h
   repeat' (split at h)
   all_goals (first|(cases h; done) | skip)
   injection h with h; injection h with h1 h2; subst h2;exact nE rfl rfl _
  |_=>simp [an,ho] at h
 case makeMap ty r=>
  cases r with
  |none=>
   simp only [an,ho] at h;injection h with h; injection h with h1 h2; subst h2;exact nE rfl rfl _
  |some _=>simp [an,ho] at h
 all_goals (first
  |(simp [an,ho] at h; done)
  |(simp only [an,rV,ho] at h; (repeat' (split at h)); (all_goals (first|(cases h; done) | skip)); (all_goals (injection h with h; injection h with h1 h2; subst h2)); (all_goals (exact nE rfl rfl _))))
def wH (s:St) (d:Nat) (cs:List AV):St:=s.iy [.put d (.lp d 0),.kill d] [(d,cs)] s.G
theorem Lu {f:FuncId} {d:Tmp} {c:Bool} {s1:St} (O9:cN o.op=true) (hd:o.dst=some d) (hg:E.B7 f d=false) (h:an E f s o=some (c,s1)) :
  c=true∧∃ cs,s1=wH s d cs∧∀ t:St,t.n=s.n→(∀ y∈o.op.operands,∀ v,bJ E s.af y=.v v→bJ E t.af y=.v v)→an E f t o=some (true,wH t d cs):=by
 have key:∀ (el:TypeId) (cs:List AV),hY E f s o.dst el cs=some (c,s1)→c=true∧s1=wH s d cs∧∀ t:St,t.n=s.n→hY E f t o.dst el cs=some (true,wH t d cs):=by
  intro el cs h;unfold hY at h;rw [hd] at h;simp only [hg,Bool.false_eq_true,if_false] at h;split at h
  ·rename_i hb;injection h with h; injection h with h1 h2; subst h1 h2;refine ⟨rfl,?_,fun t ht=>?_⟩
   ·simp only [St.put,St.Af,St.kill,hb,wH,St.iy]; rfl
   ·unfold hY;rw [hd];simp only [hg,Bool.false_eq_true,if_false,ht,hb];simp only [St.put,St.Af,St.kill,ht,hb,wH,St.iy]; rfl
  ·cases h
 cases ho:o.op
 case alloc e=>
  simp only [an,ho] at h ⊢;split at h
  ·split at h
   ·split at h
    ·rename_i hi _ _ hz TS;obtain ⟨k1,k2,k3⟩:=key _ _ h;refine ⟨k1,_,k2,fun t ht _=>?_⟩;simp only [hi,hz,TS,if_true];exact k3 t ht
    ·cases h
   ·cases h
  ·cases h
 case box e x=>
  simp only [an,ho] at h ⊢;split at h
  ·split at h
   ·rename_i v hv TS;obtain ⟨k1,k2,k3⟩:=key _ _ h;refine ⟨k1,_,k2,fun t ht he=>?_⟩;simp only [he x (by simp [aae]) v hv,TS,if_true];exact k3 t ht
   ·cases h
  ·cases h
 all_goals (rw [ho] at O9; simp [cN] at O9)
theorem M2 {pre:bp} {preB:dy} {G:List GO} (h:ky E s o (s.iy pre preB G)) :
  (pre=[]∨∃ d x,o.dst=some d∧(pre=[.put d x]∨pre=[.put d x,.kill d])∧∀ k off,x=.lp k off→(∃ y∈o.op.operands,∃ jP,bJ E s.af y=.lp k jP)∨(cN o.op=true∧k=d)) ∧
  (preB=[]∨∃ k cs,preB=[(k,cs)]∧((cN o.op=true∧o.dst=some k)∨∃ y∈o.op.operands,∃ off,bJ E s.af y=.lp k off)):=by
 obtain ⟨h1,h2⟩:=h;refine ⟨?_,?_⟩
 ·rcases h1 with h1|⟨d,x,hd,h1,hx⟩
  ·exact .inl (by simpa [St.iy] using h1)
  ·refine .inr ⟨d,x,hd,?_,hx⟩;rcases h1 with h1|h1
   ·left;have h1:pre++s.af=[.put d x]++s.af:=h1;exact aav h1
   ·right;have h1:pre++s.af=[.put d x,.kill d]++s.af:=h1;exact aav h1
 ·rcases h2 with h2|⟨k,cs,h2,hx⟩
  ·exact .inl (by simpa [St.iy] using h2)
  ·refine .inr ⟨k,cs,?_,hx⟩;have h2:preB++s.boxes=[(k,cs)]++s.boxes:=h2;exact aav h2
theorem mF (d e:Nat) (l:bp):lk (.kill d :: l) e=(match lk l e with | .lp k off=>bif aaK k d then .none else .lp k off | x=>x):=rfl
theorem CR {d e:Nat} {l:bp} (h:∀ off,lk l e≠.lp d off):lk (.kill d :: l) e=lk l e:=by
 rw [mF];split
 ·rename_i k off hk;cases hb:aaK k d with
  |true=>exact absurd (by rw [hk,aaA hb]) (h off)
  |false=>rw [hk]; rfl
 ·rfl
theorem Pc {d:Nat} {pre:bp} {preB:dy} {G:List GO} (cs:List AV) (UW:ky E s o (s.iy pre preB G)) (du:o.dst≠some d) (Pd:∀ y∈o.op.operands,∀ off,bJ E s.af y≠.lp d off) :
  uW ((wH s d cs).iy pre preB G) (wH (s.iy pre preB G) d cs):=by
 obtain ⟨h1,h2⟩:=M2 UW;refine ⟨funext fun e=>?_,funext fun k=>?_,rfl,rfl,rfl,rfl⟩
 ·show lk (pre++([.put d (.lp d 0),.kill d]++s.af)) e=lk ([.put d (.lp d 0),.kill d]++(pre++s.af)) e;rcases h1 with rfl|⟨d',x,hd,hp,hx⟩
  ·rfl
  ·have hdd:d'≠d:=fun c=>du (by rw [hd,c])
   have vH:∀ off,x≠.lp d off:=fun off c=>by
    rcases hx d off c with ⟨y,hy,jP,ho⟩|⟨_,h⟩
    ·exact Pd y hy jP ho
    ·exact hdd h.symm
   by_cases c1:d=e
   ·subst c1;rcases hp with rfl|rfl
    ·simp only [aal,aas];rw [aX hdd,aG,aG]
    ·simp only [aal,aas];rw [aX hdd,aG,CR (fun off=>by rw [aG]; intro c; cases c; exact hdd rfl),aG]
   ·simp only [aal,aas];rw [aX c1];by_cases c2:d'=e
    ·subst c2;rcases hp with rfl|rfl
     ·simp only [aal,aas];rw [aG,CR (fun off=>by rw [aG]; exact vH off),aG]
     ·simp only [aal,aas];rw [aG,CR (fun off=>by rw [aG]; exact vH off),aG]
    ·rcases hp with rfl|rfl
     ·simp only [aal,aas];rw [aX c2,aX c1,mF,mF,aX c2]
     ·simp only [aal,aas];rw [aX c2,mF,aX c1,mF,mF,aX c2,mF];cases lk s.af e with
      |lp k off=>cases hb:aaK k d <;> cases O8:aaK k d' <;> simp [hb,O8]
      |_=>rfl
 ·show eJ (preB++([(d,cs)]++s.boxes)) k=eJ ([(d,cs)]++(preB++s.boxes)) k;rcases h2 with rfl|⟨k',gr,rfl,hk⟩
  ·rfl
  ·have TT:k'≠d:=fun c=>by
    subst c;rcases hk with ⟨_,hk⟩|⟨y,hy,off,ho⟩
    ·exact du hk
    ·exact Pd y hy off ho
   simp only [aal,aas,eJ];cases hb:aaK k' k with
   |true=>
    have:aaK d k=false:=by
     cases O8:aaK d k with
     |true=>exact absurd ((aaA hb).trans (aaA O8).symm) TT
     |false=>rfl
    rw [this]; rfl
   |false=>rfl
end
section
variable {E:Env} {s t:St} {f:FuncId} {o:Oper} {K K':St→Prop}
theorem Lv (hn:s.n=t.n) (hG:s.G=t.G) (hB:∀ k off,(∃ y∈o.op.operands,bJ E s.af y=.lp k off)→eJ s.boxes k=eJ t.boxes k) (fX:∀ y∈o.op.operands,bJ E s.af y=bJ E t.af y) (h:nV E f o K s)
  (hK:∀ pre preB G,ky E t o (t.iy pre preB G)→K (s.iy pre preB G)→K' (t.iy pre preB G)):nV E f o K' t:=by
 unfold nV at h ⊢;split at h
 ·rename_i x args tys ho;have h1:bJ E s.af x=bJ E t.af x:=fX x (by rw [ho]; simp [aae,aat]);have h2:qm E s.af args.toList=qm E t.af args.toList:=jA fun y hy=>fX y (by rw [ho]; simp [aae,aat]; exact .inr (by simpa using hy))
  try simp only [ho]
  rw [← h1,← h2,← hG];split at h
  ·refine dT.mono h fun r G' hk=>?_
   obtain ⟨pre,preB,G,p1,p2,p3,p4⟩:=cC.fg (s:=s) (t:=t) (al:=cN o.op) hn G' o.dst (.v r);rw [p3] at hk;have hO:ky E t o ((t.cj G').put o.dst (.v r)):=nE rfl rfl _;rw [p4] at hO ⊢;exact hK pre preB G hO hk
  ·refine oJ.mono h fun r G' hk=>?_
   obtain ⟨pre,preB,G,p1,p2,p3,p4⟩:=cC.fg (s:=s) (t:=t) (al:=cN o.op) hn G' o.dst (.v (.bool r));rw [p3] at hk;have hO:ky E t o ((t.cj G').put o.dst (.v (.bool r))):=nE rfl rfl _;rw [p4] at hO ⊢;exact hK pre preB G hO hk
  ·exact h.elim
 ·exact h.elim
 ·split at h
  ·rename_i c s' hs;obtain ⟨t',h1,pre,preB,G,p1,p2,p3,p4⟩:=xT hn hG hB fX hs;have hO:=Lt h1;rw [h1];obtain ⟨rfl,hk⟩:=h.out;refine fj.mk rfl ?_;rw [p3] at hk;rw [p4] at hO ⊢;exact hK pre preB G hO hk
  ·exact h.elim
theorem M3 (ha:cN o.op=true):nV E f o K s↔∃ s',an E f s o=some (true,s')∧K s':=by
 unfold nV;split
 ·rename_i h;rw [h] at ha;simp [cN] at ha
 ·rename_i h;rw [h] at ha;simp [cN] at ha
 ·split
  ·rename_i c s' hs;constructor
   ·intro h;obtain ⟨rfl,hk⟩:=h.out;exact ⟨s',hs,hk⟩
   ·rintro ⟨GJ,h1,h2⟩;rw [hs] at h1;cases h1;exact fj.mk rfl h2
  ·rename_i hs;constructor
   ·exact fun h=>h.elim
   ·rintro ⟨GJ,h1,_⟩;rw [hs] at h1;cases h1
end
end Go.Am
