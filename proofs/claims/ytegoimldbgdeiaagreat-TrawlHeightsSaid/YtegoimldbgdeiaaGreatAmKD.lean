/- The abstract machine: what an operation does to a state is the same in a state that agrees with it. -/
import Derived.Test.YtegoimldbgdeiaaGreatAmKC
import Derived.OrdersIn
set_option linter.all false
open Array renaming getElem?_eq_some_iff->aaS, getElem?_toList->aa5, getD_eq_getD_getElem?->ab3, mem_append->acd, setIfInBounds_comm->aci
open Bool renaming and_eq_true->aaJ, or_eq_true->ab5, not_eq_true'->ab7, false_eq_true->acf
open Go.Call renaming operands->ab9
open Go.Op renaming operands->aad
open Go.Oper renaming apart_spec->acq
open Go.Region renaming ready->aaL, binds->abk
open List renaming cons_append->aag, nil_append->aaK, all_eq_true->aaN, mem_cons->abC, append_cancel_right->ab6, mem_toArray->aca, mem_map->acg, mem_cons_of_mem->acu
open Nat renaming eq_of_beq_eq_true->aaR, beq->aba, blt->abN, zero_add->ab1
namespace Go.Am
open Go
variable {E:Env}{s t s' s1:St}{o oj oi:Oper}{f:FuncId}{K K':St->Prop}{ops:Array Oper}{d:Tmp}{x p m ix:SV}{fJ:Nat->List Nat}{C C':List Nat}{ty el:TypeId}{c al want:Bool}{L k id j e n i off:Nat}{pre:bT}{listed:Array Bool}{preB bx QZ:ew}{b:Builtin}{dst:Option Tmp}{l cs:List AV}{α:Type}{G:List GO}{y:Operand}{Q:Exit->St->Prop}{op:Op}{tys:List TypeId}
def St.ji (s:St) (pre:bT) (preB:ew) (G:List GO):St:=⟨pre++s.ae,preB++s.boxes,G,s.marks,s.ro,s.n⟩
def Pre (al:Bool) (dst:Option Tmp) (pre:bT):Prop:=
 pre=[]\/∃ d x,dst=some d/\(pre=[.put d x]\/(al=true/\pre=[.put d x,.kill d]))
def cT (al w:Bool) (dst:Option Tmp) (s t s' t':St):Prop:=
 ∃ pre preB G,Pre al dst pre/\(w=false->preB=[]/\G=s.G/\∃ x,s'=s.put dst x/\t'=t.put dst x)/\s'=s.ji pre preB G/\t'=t.ji pre preB G
section
def qF (s:St) (d:Tmp) (x:SV):s.put (some d) x=bif abN d s.n then s.ji [.put d x] [] s.G else s:=by
 cases h:abN d s.n <;> simp [St.put,h,St.ji]
def cT.put {al w:Bool} (hn:s.n=t.n) (hG:s.G=t.G) (dst:Option Tmp) (x:SV):cT al w dst s t (s.put dst x) (t.put dst x):=by
 cases dst with
 |none=>exact ⟨[],[],s.G,.inl rfl,λ _=>⟨rfl,rfl,x,rfl,rfl⟩,rfl,by rw [hG]; rfl⟩
 |some d=>
  have hx:∃ y,s.put (some d) x=s.put (some d) y/\t.put (some d) x=t.put (some d) y:=⟨x,rfl,rfl⟩;revert hx;generalize hs:s.put (some d) x=s';generalize ht:t.put (some d) x=t';intro hx;rw [qF] at hs ht;rw [<- hn] at ht;revert hs ht;cases abN d s.n with
  |true=>exact λ hs ht=>⟨[.put d x],[],s.G,.inr ⟨d,x,rfl,.inl rfl⟩,λ _=>⟨rfl,rfl,hx⟩,hs.symm,by rw [hG]; exact ht.symm⟩
  |false=>exact λ hs ht=>⟨[],[],s.G,.inl rfl,λ _=>⟨rfl,rfl,hx⟩,hs.symm,by rw [hG]; exact ht.symm⟩
def cT.fH (hn:s.n=t.n) (G:List GO) (dst:Option Tmp) (x:SV):cT al true dst s t ((s.cM G).put dst x) ((t.cM G).put dst x):=by
 cases dst with
 |none=>exact ⟨[],[],G,.inl rfl,λ h=>(by cases h),rfl,rfl⟩
 |some d=>
  rw [qF,qF,show (t.cM G).n=(s.cM G).n from hn.symm];cases abN d (s.cM G).n with
  |true=>exact ⟨[.put d x],[],G,.inr ⟨d,x,rfl,.inl rfl⟩,λ h=>(by cases h),rfl,rfl⟩
  |false=>exact ⟨[],[],G,.inl rfl,λ h=>(by cases h),rfl,rfl⟩
def cT.cM {al:Bool} (G:List GO) (dst:Option Tmp):cT al true dst s t (s.cM G) (t.cM G):=⟨[],[],G,.inl rfl,λ h=>(by cases h),rfl,rfl⟩
def cT.Bu {al:Bool} (hG:s.G=t.G) (dst:Option Tmp) (d:Nat) (cs:List AV):cT al true dst s t (s.Bu d cs) (t.Bu d cs):=
 ⟨[],[(d,cs)],s.G,.inl rfl,λ h=>(by cases h),rfl,(by rw [hG]; rfl)⟩
def lf {a b:bT}:∀ {l:List Operand},(∀ y∈l,cK E a y=cK E b y)->uk E a l=uk E b l
 |[],_=>rfl
 |x::l,h=>by
  simp only [uk];rw [h x (by simp),lf (l:=l) (λ y hy=>h y (by simp [hy]))]
def rR {a b:bT}:∀ {l:List (Nat×Operand)},(∀ p∈l,cK E a p.2=cK E b p.2)->Xw E a l=Xw E b l
 |[],_=>rfl
 |(i,x)::l,h=>by
  simp only [Xw];rw [h (i,x) (by simp),rR (l:=l) (λ y hy=>h y (by simp [hy]))]
theorem F5 (hG:s.G=t.G) (p:SV) (hB:∀ k off,p=.lp k off->fm s.boxes k=fm t.boxes k):sH s p=sH t p:=by
 unfold sH;rw [hG];cases p with
 |lp k off=>simp only [hB k off rfl]
 |v a=>cases a <;> rfl
 |_=>rfl
def Km (hG:s.G=t.G) (ty:TypeId) (p:SV) (hB:∀ k off,p=.lp k off->fm s.boxes k=fm t.boxes k):yp E s ty p=yp E t ty p:=by
 unfold yp;rw [F5 hG p hB]
def Kn (hG:s.G=t.G) (id f i sz:Nat) (ty:TypeId):Gt E s id f i sz ty=Gt E t id f i sz ty:=by
 unfold Gt;rw [hG]
def Ko (hG:s.G=t.G) (id j f i sz:Nat) (ty:TypeId):Gu E s id j f i sz ty=Gu E t id j f i sz ty:=by
 unfold Gu;rw [hG]
def Kp (hG:s.G=t.G) (ty:TypeId) (p:SV) (hB:∀ k off,p=.lp k off->fm s.boxes k=fm t.boxes k):Gv E s ty p=Gv E t ty p:=by
 unfold Gv;split
 .rw [Kn hG]
 .rw [Ko hG]
 .rw [Km hG _ _ hB]
def BH (hn:s.n=t.n) (hG:s.G=t.G) (h:iP E f s dst el cs=some (c,s')) :
  ∃ t',iP E f t dst el cs=some (c,t')/\cT true true dst s t s' t':=by
 unfold iP at *;cases dst with
 |none=>cases h
 |some d=>
  simp only at *;split at h
  .rename_i hg;obtain ⟨rfl,rfl⟩:=cL h;rw [if_pos hg];refine ⟨_,rfl,?_⟩;have:=cT.fH (al:=true) hn (s.G++[.row cs el]) (some d) (.v (.ptr s.G.length 0));rw [hG] at this;have e:s.gj (.row cs el)=s.cM (t.G++[.row cs el]):=by rw [<- hG]; rfl
   rw [e,hG];exact this
  .rename_i hg;rw [if_neg hg,<- hn];split at h
   .rename_i hb;obtain ⟨rfl,rfl⟩:=cL h;refine ⟨_,rfl,[.put d (.lp d 0),.kill d],[(d,cs)],s.G,.inr ⟨d,_,rfl,.inr ⟨rfl,rfl⟩⟩,λ h=>(by cases h),?_,?_⟩
    .simp [St.put,St.Bu,St.kill,hb,St.ji]
    .simp only [St.put,St.Bu,St.kill,<- hn,hb,St.ji,hG];rfl
   .cases h
def Kq {x:SV} (hG:s.G=t.G) (hB:∀ k off,p=.lp k off->fm s.boxes k=fm t.boxes k) (h:kl E s ty p x=some s') :
  ∃ t',kl E t ty p x=some t'/\cT al true dst s t s' t':=by
 unfold kl at *;split at h
 .split at h
  .rename_i hc;rw [if_pos hc];split at h
   .rw [<- hB _ _ rfl];split at h
    .split at h
     .rename_i Nq;cases h;simp only [Nq,if_true];exact ⟨_,rfl,.Bu hG _ _ _⟩
     .cases h
    .cases h
   .rw [<- hG];split at h
    .split at h
     .rename_i Nq;cases h;simp only [Nq,if_true];exact ⟨_,rfl,.cM _ _⟩
     .cases h
    .cases h
   .cases h
  .cases h
 .cases h
def Kr {x:SV} (hG:s.G=t.G) (hB:∀ k off,p=.lp k off->fm s.boxes k=fm t.boxes k) (h:ic E s ty p x=some (c,s')) :
  ∃ t',ic E t ty p x=some (c,t')/\cT al true dst s t s' t':=by
 unfold ic at *;split at h
 .rw [<- hG];split at h
  .split at h
   .rename_i h1 h2 hc;simp only [hc,if_true];split at h
    .rename_i Nq;obtain ⟨rfl,rfl⟩:=cL h;simp only [Nq,if_true];exact ⟨_,rfl,.cM _ _⟩
    .rename_i Nq;cases h
   .cases h
  .cases h
 .rw [<- hG];split at h
  .split at h
   .rename_i h1 h2 hc;simp only [hc,if_true];split at h
    .rename_i Nq;obtain ⟨rfl,rfl⟩:=cL h;simp only [Nq,if_true];exact ⟨_,rfl,.cM _ _⟩
    .rename_i Nq;cases h
   .cases h
  .cases h
 .split at h
  .rename_i s1 hs;obtain ⟨rfl,rfl⟩:=cL h;obtain ⟨t',h3,h4⟩:=Kq (al:=al) (dst:=dst) hG hB hs;simp only [h3];exact ⟨_,rfl,h4⟩
  .cases h
def Nr (hG:s.G=t.G) (p x:SV):xh s p x=xh t p x:=by unfold xh; rw [hG]
def Ks {x:SV} (hG:s.G=t.G) (hB:∀ k off,p=.lp k off->fm s.boxes k=fm t.boxes k) (h:nY E s ty p x=some (c,s')) :
  ∃ t',nY E t ty p x=some (c,t')/\cT al true dst s t s' t':=by
 unfold nY at *;rw [<- Nr hG];split at h
 .rename_i c1 s1 hs;obtain ⟨rfl,rfl⟩:=cL h;obtain ⟨t',h3,pre,preB,G,h4,_,h5,h6⟩:=Kr (s:=s.cM (xh s p x).2.2) (t:=t.cM (xh s p x).2.2) (al:=al) (dst:=dst) rfl hB hs;rw [h3];exact ⟨_,rfl,pre,preB,G,h4,(λ h=>by cases h),h5,h6⟩
 .cases h
def dq:Op->Bool
 |.alloc _=>true
 |.box _ _=>true
 |_=>false
def wQ:Op->Bool
 |.move _ | .assign _ | .pick _ _ _ | .build _ _ | .buildSlice _ _ _ | .load _ _ | .binOp _ _ _ _ _ | .unOp _ _ _ | .convert _ _ _ | .makeFunc _ _ _ | .fieldAddr _ _ _ | .field _ _ _
 |.indexAddr _ _ _ | .index _ _ _ | .slice _ _ _ _ _ | .extract _ _ | .lookup _ _ _ _ | .nilCheck _=>true
 |.call { callee:=.builtin .len,.. }=>true
 |.call { callee:=.builtin .max,.. }=>true
 |.call { callee:=.builtin .min,.. }=>true
 |_=>false
def isR:Op->Bool
 |.load _ _=>true
 |.lookup _ _ _ _=>true
 |.call _=>true
 |.convert _ _ _=>true
 |_=>false
def Ys:Builtin->Bool
 |.append | .copy | .clear=>true
 |_=>false
def F6 (hn:s.n=t.n) (hG:s.G=t.G) (h:eX E s dst b l tys=some (c,s')) :
  ∃ t',eX E t dst b l tys=some (c,t')/\cT al (Ys b) dst s t s' t':=by
 obtain ⟨sl,bx,G,m,ro,n⟩:=s;obtain ⟨sl',QZ,G',m',oN,n'⟩:=t;simp only at hn hG;subst hn hG;unfold eX at h ⊢;cases b
 all_goals (try (cases h; done))
 all_goals (try simp only at h ⊢)
 all_goals (try (split at h <;> first | (cases h; done) | simp only at h ⊢))
 all_goals (repeat' (split at h))
 all_goals (first|(cases h; done) | skip)
 all_goals (injection h with h; injection h with h1 h2; subst h1 h2)
 all_goals (try simp only [if_true, *])
 all_goals (first|exact ⟨_,rfl,.put (by rfl) (by rfl) _ _⟩ | exact ⟨_,rfl,.fH (by rfl) _ _ _⟩ | exact ⟨_,rfl,.cM _ _⟩)
def F7 (hG:s.G=t.G) (ty:TypeId) (m k:SV):qz E s ty m k=qz E t ty m k:=by
 have:mapOf s=mapOf t:=by funext m; unfold mapOf; rw [hG]
 unfold qz rI;rw [this,hG]
def Ih {k x:SV} (hG:s.G=t.G) (h:gN E s ty m k x=some s') :
  ∃ t',gN E t ty m k x=some t'/\cT al true dst s t s' t':=by
 unfold gN at *;rw [<- hG]
 repeat' (split at h)
 all_goals (first|(cases h; done) | skip)
 cases h;simp only [*];exact ⟨_,rfl,.cM _ _⟩
def Ns (hG:s.G=t.G) (x:SV):xi s x=xi t x:=by unfold xi; rw [hG]
def Ii {k x:SV} (hG:s.G=t.G) (h:jA E s ty m k x=some (c,s')) :
  ∃ t',jA E t ty m k x=some (c,t')/\cT al true dst s t s' t':=by
 unfold jA at *;rw [<- Ns hG];split at h
 .rename_i s1 hs;obtain ⟨rfl,rfl⟩:=cL h;obtain ⟨t',h3,pre,preB,G,h4,_,h5,h6⟩:=Ih (s:=s.cM (xi s x).2.2) (t:=t.cM (xi s x).2.2) (al:=al) (dst:=dst) rfl hs;rw [h3];exact ⟨_,rfl,pre,preB,G,h4,(λ h=>by cases h),h5,h6⟩
 .cases h
def Nt (hn:s.n=t.n) (hG:s.G=t.G) (h:qA s dst x=some s') :
  ∃ t',qA t dst x=some t'/\cT al true dst s t s' t':=by
 unfold qA at *;rw [<- hG];split at h
 .split at h
  .rename_i l pos hg;cases hb:abN pos l.length with
   |true=>
    rw [hb] at h;simp only [cond_true] at h ⊢;cases h;exact ⟨_,rfl,.fH hn _ _ _⟩
   |false=>
    rw [hb] at h;simp only [cond_false] at h ⊢;cases h;obtain ⟨pre,preB,G,p1,p2,p3⟩:=cT.put (al:=al) (w:=true) hn hG dst (.v (.cD [.bool false]));exact ⟨_,rfl,pre,preB,G,p1,p2,p3⟩
  .cases h
 .cases h
def yZ (hn:s.n=t.n) (hG:s.G=t.G) (hB:∀ k off,(∃ y∈o.op.operands,cK E s.ae y=.lp k off)->fm s.boxes k=fm t.boxes k) (jY:∀ y∈o.op.operands,cK E s.ae y=cK E t.ae y)
  (h:aA E f s o=some (c,s')):∃ t',aA E f t o=some (c,t')/\cT (dq o.op) (!wQ o.op) o.dst s t s' t':=by
 obtain ⟨dst,op,ty,pos,after,guard⟩:=o;cases op
 case pick x y z=>
  simp only [aA,jY x (by simp [aad]),jY y (by simp [aad]),jY z (by simp [aad])] at h ⊢;split at h
  .injection h with h; injection h with h1 h2; subst h1 h2; (try simp only [*]); exact ⟨_,rfl,.put hn hG _ _⟩
  .cases h
 case alloc e=>
  simp only [aA] at h ⊢
  repeat' (split at h)
  all_goals (first|(cases h; done) | skip)
  simp only [*];exact BH hn hG h
 case box e x=>
  simp only [aA,jY x (by simp [aad])] at h ⊢
  repeat' (split at h)
  all_goals (first|(cases h; done) | skip)
  simp only [*];exact BH hn hG h
 case build ty ps=>
  have he:sI E s ty ps.toList=sI E t ty ps.toList:=by
   unfold sI;rw [rR (λ p hp=>jY p.2 (by simp only [aad,aca,acg]; exact ⟨p,hp,rfl⟩))]
  simp only [aA,he] at h ⊢;split at h
  .injection h with h; injection h with h1 h2; subst h1 h2; (try simp only [*]); exact ⟨_,rfl,.put hn hG _ _⟩
  .cases h
 case buildSlice ty len ps=>
  have he:dW E s ty len ps.toList=dW E t ty len ps.toList:=by
   unfold dW;rw [rR (λ p hp=>jY p.2 (by simp only [aad,aca,acg]; exact ⟨p,hp,rfl⟩))]
  simp only [aA,he] at h ⊢;split at h
  .injection h with h; injection h with h1 h2; subst h1 h2; (try simp only [*]); exact ⟨_,rfl,.put hn hG _ _⟩
  .cases h
 case load ty x=>
  simp only [aA,jY x (by simp [aad])] at h ⊢;rw [Kp hG ty _ (λ k off e=>hB k off ⟨x,by simp [aad],by rw [jY x (by simp [aad])]; exact e⟩)] at h;split at h
  .injection h with h; injection h with h1 h2; subst h1 h2; (try simp only [*]); exact ⟨_,rfl,.put hn hG _ _⟩
  .cases h
 case store ty x y=>
  simp only [aA,jY x (by simp [aad]),jY y (by simp [aad])] at h ⊢;split at h
  .rename_i s1 hs;injection h with h; injection h with h1 h2; subst h1 h2;obtain ⟨t',h3,h4⟩:=Ks (al:=false) (dst:=none) hG (λ k off e=>hB k off ⟨x,by simp [aad],by rw [jY x (by simp [aad])]; exact e⟩) hs;rw [h3];exact ⟨_,rfl,h4⟩
  .cases h
 case binOp _ _ x y _ | indexAddr _ x y | index _ x y=>
  simp only [aA,jY x (by simp [aad]),jY y (by simp [aad])] at h ⊢
  repeat' (split at h)
  all_goals (first|(cases h; done) | skip)
  all_goals (injection h with h; injection h with h1 h2; subst h1 h2; (try simp only [*]); exact ⟨_,rfl,.put hn hG _ _⟩)
 case nilCheck x | move x | assign x | unOp _ _ x | fieldAddr _ x _ | field _ x _ | extract x _=>
  simp only [aA,jY x (by simp [aad])] at h ⊢
  repeat' (split at h)
  all_goals (first|(cases h; done) | skip)
  all_goals (injection h with h; injection h with h1 h2; subst h1 h2; (try simp only [*]); exact ⟨_,rfl,.put hn hG _ _⟩)
 case makeFunc fo a b=>
  cases fo with
  |func g=>
   have h1:uk E s.ae a.toList=uk E t.ae a.toList:=lf λ y hy=>jY y (by simp only [aad,acd]; exact .inl (by simpa using hy))
   have h2:uk E s.ae b.toList=uk E t.ae b.toList:=lf λ y hy=>jY y (by simp only [aad,acd]; exact .inr (by simpa using hy))
   simp only [aA,h1,h2] at h ⊢
   repeat' (split at h)
   all_goals (first|(cases h; done) | skip)
   all_goals (injection h with h; injection h with h1 h2; subst h1 h2; (try simp only [*]); exact ⟨_,rfl,.put hn hG _ _⟩)
  |_=>simp [aA] at h
 case slice a x lo hi mx=>
  have h1:qp E s.ae lo=qp E t.ae lo:=by
   cases lo with
   |none=>rfl
   |some y=>simp only [qp]; rw [jY y (by simp [aad])]
  have h2:qp E s.ae hi=qp E t.ae hi:=by
   cases hi with
   |none=>rfl
   |some y=>simp only [qp]; rw [jY y (by simp [aad])]
  simp only [aA,jY x (by simp [aad]),h1,h2] at h ⊢
  repeat' (split at h)
  all_goals (first|(cases h; done) | skip)
  all_goals (injection h with h; injection h with h1 h2; subst h1 h2; (try simp only [*]); exact ⟨_,rfl,.put hn hG _ _⟩)
 case makeSlice ty x y=>
  simp only [aA,sP,jY x (by simp [aad]),jY y (by simp [aad]),hG] at h ⊢
  repeat' (split at h)
  all_goals (first|(cases h; done) | skip)
  all_goals (injection h with h; injection h with h1 h2; subst h1 h2)
  all_goals (simp only [*])
  all_goals (refine ⟨_,rfl,?_⟩)
  all_goals (have e:∀ o,t.gj o=t.cM (t.G++[o]):=λ o=>rfl)
  all_goals (have e':∀ o,s.gj o=s.cM (t.G++[o]):=λ o=>by rw [<- hG]; rfl)
  all_goals (try rw [e,e'])
  all_goals (exact cT.fH (al:=false) hn _ dst _)
 case lookup ty x y ok=>
  simp only [aA,jY x (by simp [aad]),jY y (by simp [aad]),F7 hG] at h ⊢;split at h
  .injection h with h; injection h with h1 h2; subst h1 h2; (try simp only [*]); exact ⟨_,rfl,.put hn hG _ _⟩
  .cases h
 case mapUpdate ty x y z=>
  simp only [aA,jY x (by simp [aad]),jY y (by simp [aad]),jY z (by simp [aad])] at h ⊢;split at h
  .rename_i c1 s1 hs;injection h with h; injection h with h1 h2; subst h1 h2;obtain ⟨t',h3,h4⟩:=Ii (al:=false) (dst:=none) hG hs;rw [h3];exact ⟨_,rfl,h4⟩
  .cases h
 case entry x=>
  simp only [aA,jY x (by simp [aad])] at h ⊢;have e:AE E s (cK E t.ae x)=AE E t (cK E t.ae x):=by unfold AE; rw [hG]
  rw [e] at h;split at h
  .injection h with h; injection h with h1 h2; subst h1 h2; (try simp only [*]); exact ⟨_,rfl,.put hn hG _ _⟩
  .cases h
 case mapEntry ty x y=>
  simp only [aA,jY x (by simp [aad]),jY y (by simp [aad])] at h ⊢;unfold jW at h ⊢;rw [<- hG]
  repeat' (split at h)
  all_goals (first|(cases h; done) | skip)
  rename_i ph
  repeat' (split at ph)
  all_goals (first|(cases ph; done) | skip)
  injection ph with ph; injection ph with h3 ph; injection ph with h4 h5;injection h with h; injection h with h1 h2; subst h1 h2 h3 h4 h5;simp only [*,if_true];exact ⟨_,rfl,cT.fH (al:=false) hn _ dst _⟩
 case entryStore ty x y z=>
  simp only [aA,jY x (by simp [aad]),jY y (by simp [aad]),jY z (by simp [aad])] at h ⊢;unfold gP at h ⊢;rw [<- hG]
  repeat' (split at h)
  all_goals (first|(cases h; done) | skip)
  rename_i ph
  repeat' (split at ph)
  all_goals (first|(cases ph; done) | skip)
  injection ph with ph; injection ph with h3 h5;injection h with h; injection h with h1 h2; subst h1 h2 h3 h5;simp only [*];exact ⟨_,rfl,.cM _ _⟩
 case range ty x=>
  simp only [aA,jY x (by simp [aad])] at h ⊢
  repeat' (split at h)
  all_goals (first|(cases h; done) | skip)
  .injection h with h; injection h with h1 h2; subst h1 h2
   (try simp only [*])
   refine ⟨_,rfl,?_⟩;have e:∀ o,t.gj o=t.cM (s.G++[o]):=λ o=>by rw [hG]; rfl
   rw [e,<- hG];exact cT.fH (al:=false) hn _ dst _
  .rename_i hk hg;injection h with h; injection h with h1 h2; subst h1 h2;have Jy:=hg;rw [hG] at Jy;simp only [hk,Jy];refine ⟨_,rfl,?_⟩;have e:∀ o,t.gj o=t.cM (s.G++[o]):=λ o=>by rw [hG]; rfl
   rw [e,<- hG];exact cT.fH (al:=false) hn _ dst _
 case next x b=>
  cases b with
  |false=>simp [aA] at h
  |true=>
   simp only [aA,jY x (by simp [aad])] at h ⊢;split at h
   .rename_i s1 hs;injection h with h; injection h with h1 h2; subst h1 h2;obtain ⟨t',h3,h4⟩:=Nt (al:=false) hn hG hs;rw [h3];exact ⟨_,rfl,h4⟩
   .cases h
 case makeMap ty r=>
  cases r with
  |none=>
   simp only [aA] at h ⊢;injection h with h; injection h with h1 h2; subst h1 h2;refine ⟨_,rfl,?_⟩;have:=cT.fH (al:=false) hn (s.G++[.map []]) dst (.v (.map s.G.length));have e:∀ o,t.gj o=t.cM (s.G++[o]):=λ o=>by rw [hG]; rfl
   rw [e,<- hG];exact this
  |some _=>simp [aA] at h
 case call cl=>
  obtain ⟨callee,args,tys⟩:=cl;cases callee with
  |builtin b=>
   have h1:uk E s.ae args.toList=uk E t.ae args.toList:=lf λ y hy=>jY y (by simp [aad,ab9]; simpa using hy)
   simp only [aA,h1] at h ⊢;split at h
   ·(try simp only [*])
    obtain ⟨t',h3,h4⟩:=F6 (al:=false) hn hG h;refine ⟨t',h3,?_⟩;have:(!wQ (.call { callee:=.builtin b,args:=args,argTypes:=tys }))=Ys b\/Ys b=false:=by cases b <;> simp [wQ,Ys]
    rcases this with this|this
    .rw [this]; exact h4
    .obtain ⟨pre,preB,G,p1,p2,p3⟩:=h4;exact ⟨pre,preB,G,p1,λ _=>p2 this,p3⟩
   .cases h
  |_=>simp [aA] at h
 all_goals (simp [aA] at h)
def lg (hn:s.n=t.n) (hG:s.G=t.G) (hB:fm s.boxes=fm t.boxes) (jY:∀ y∈o.op.operands,cK E s.ae y=cK E t.ae y)
  (h:aA E f s o=some (c,s')):∃ t',aA E f t o=some (c,t')/\cT (dq o.op) (!wQ o.op) o.dst s t s' t':=
 yZ hn hG (λ k _ _=>by rw [hB]) jY h
end
structure vG (s t:St):Prop where
 l:lk s.ae=lk t.ae
 b:fm s.boxes=fm t.boxes
 G:s.G=t.G
 m:s.marks=t.marks
 ro:s.ro=t.ro
 n:s.n=t.n
def vG.refl (s:St):vG s s:=⟨rfl,rfl,rfl,rfl,rfl,rfl⟩
def vG.symm {s t:St} (h:vG s t):vG t s:=⟨h.l.symm,h.b.symm,h.G.symm,h.m.symm,h.ro.symm,h.n.symm⟩
def vG.trans {s t u:St} (h:vG s t) (k:vG t u):vG s u:=⟨h.l.trans k.l,h.b.trans k.b,h.G.trans k.G,h.m.trans k.m,h.ro.trans k.ro,h.n.trans k.n⟩
def rS {a b:bT} {e:Nat} (h:lk a e=lk b e):∀ pre:bT,lk (pre++a) e=lk (pre++b) e
 |[]=>h
 |.put d x::pre=>by
  simp only [aag,lk];rw [rS h pre]
 |.kill d::pre=>by
  simp only [aag,lk];rw [rS h pre]
def DN {a b:ew} {e:Nat} (h:fm a e=fm b e):∀ pre:ew,fm (pre++a) e=fm (pre++b) e
 |[]=>h
 |(d,x)::pre=>by
  simp only [aag,fm];rw [DN h pre]
def vG.ji {s t:St} (h:vG s t) (pre:bT) (preB:ew) (G:List GO):vG (s.ji pre preB G) (t.ji pre preB G):=
 ⟨funext λ e=>rS (by rw [h.l]) pre,funext λ e=>DN (by rw [h.b]) preB,rfl,h.m,h.ro,h.n⟩
theorem Ut {a b:bT} {x:Operand} (h:∀ t,x=.tmp t->lk a t=lk b t):cK E a x=cK E b x:=by
 cases x with
 |tmp t=>exact h t rfl
 |_=>rfl
def vG.cK {E:Env} {s t:St} (h:vG s t) (x:Operand):cK E s.ae x=cK E t.ae x:=Ut λ e _=>by rw [h.l]
section JD
variable {R:ak} {w:World} {β:Nat->Nat} {a:Act}
def bG.eqv (h:bG E R w β s a) (e:vG s t):bG E R w β t a where
 g:=by rw [<- e.G]; exact h.g
 b:=⟨λ k cs hk=>h.b.box k cs (by rw [e.b]; exact hk),λ k k' c c' h1 h2=>h.b.inj k k' c c' (by rw [e.b]; exact h1) (by rw [e.b]; exact h2)⟩
 t:=λ i hi=>by
  rw [<- e.l] at hi ⊢;exact h.t i hi
 n:=by rw [<- e.n]; exact h.n
 d:=by rw [<- e.m]; exact h.d
def CO (h:fm bx=fm QZ) {b:Nat} (k:Own R β bx b):Own R β QZ b:=by
 rcases k with k|⟨j,cs,h1,h2⟩
 .exact .inl k
 .exact .inr ⟨j,cs,by rw [<- h]; exact h1,h2⟩
def Step.eqv {R':ak} {w':World} {β':Nat->Nat} {cx cx':ew} (h:Step R w β bx R' w' β' QZ) (h1:fm bx=fm cx) (h2:fm QZ=fm cx'):Step R w β cx R' w' β' cx':=
 ⟨h.ext,h.os,h.tape,h.output,h.size,λ b hb hn=>h.keep b hb (λ ho=>hn (CO h1 ho)),λ b hb ho=>CO h1 (h.own b hb (CO h2.symm ho)),λ b o hi hb hn=>h.im b o hi hb (λ ho=>hn (CO h1 ho))⟩
end JD
section ops
def Inv (K:St->Prop):Prop:=∀ s t,vG s t->K s->K t
def Kt (h:wQ op=true):dq op=false:=by
 cases op <;> simp_all [wQ,dq]
def AT (hn:s.n=t.n) (hG:s.G=t.G) (hB:fm s.boxes=fm t.boxes) (jY:∀ y∈o.op.operands,cK E s.ae y=cK E t.ae y) (h:oD E f o K s)
  (hK:∀ pre preB G,Pre (dq o.op) o.dst pre->(wQ o.op=true->preB=[]/\G=s.G)->K (s.ji pre preB G)->K' (t.ji pre preB G)):oD E f o K' t:=by
 unfold oD at h ⊢;split at h
 .rename_i x args tys ho;have h1:cK E s.ae x=cK E t.ae x:=jY x (by rw [ho]; simp [aad,ab9]);have h2:uk E s.ae args.toList=uk E t.ae args.toList:=lf λ y hy=>jY y (by rw [ho]; simp [aad,ab9]; exact .inr (by simpa using hy))
  try simp only [ho]
  rw [<- h1,<- h2,<- hG];split at h
  .refine eI.mono h λ r G' hk=>?_
   obtain ⟨pre,preB,G,p1,p2,p3,p4⟩:=cT.fH (s:=s) (t:=t) (al:=dq o.op) hn G' o.dst (.v r);rw [p3] at hk;rw [p4];exact hK pre preB G p1 (λ e=>by rw [ho] at e; simp [wQ] at e) hk
  .refine px.mono h λ r G' hk=>?_
   obtain ⟨pre,preB,G,p1,p2,p3,p4⟩:=cT.fH (s:=s) (t:=t) (al:=dq o.op) hn G' o.dst (.v (.bool r));rw [p3] at hk;rw [p4];exact hK pre preB G p1 (λ e=>by rw [ho] at e; simp [wQ] at e) hk
  .exact h.elim
 .exact h.elim
 .split at h
  .rename_i c s' hs;obtain ⟨t',h1,pre,preB,G,p1,p2,p3,p4⟩:=lg hn hG hB jY hs;rw [h1];obtain ⟨rfl,hk⟩:=h.out;refine gv.mk rfl ?_;rw [p3] at hk;rw [p4];exact hK pre preB G p1 (λ e=>⟨(p2 (by simp [e])).1,(p2 (by simp [e])).2.1⟩) hk
  .exact h.elim
def AU (h:oD E f o K s) (hK:∀ s,K s->K' s):oD E f o K' s:=
 AT rfl rfl rfl (λ _ _=>rfl) h λ _ _ _ _ _ hk=>hK _ hk
def DO (h:oD E f o K s) (e:vG s t) (hK:Inv K):oD E f o K t:=
 AT e.n e.G e.b (λ y _=>e.cK y) h λ _ _ _ _ _ hk=>hK _ _ (e.ji _ _ _) hk
def JE (ops:List Oper) (s:St) (o:Oper):Option Bool:=match o.guard with
 |none=>some true
 |some (j,want)=>match uI ops j with
  |some d=>match lk s.ae d with
   |.v (.bool b)=>some (b == want)
   |.v (.cD [])=>some false
   |_=>none
  |none=>none
def Ku (s:St) (h:lk s.ae d=x):vG s (s.put (some d) x):=by
 simp only [St.put];split
 .refine ⟨funext λ e=>?_,rfl,rfl,rfl,rfl,rfl⟩;by_cases k:d=e
  .subst k; rw [aS]; exact h
  .rw [bq k]
 .exact vG.refl s
def vG.put {s t:St} (h:vG s t) (d:Option Tmp) (x:SV):vG (s.put d x) (t.put d x):=by
 obtain ⟨pre,preB,G,_,_,p3,p4⟩:=cT.put (s:=s) (t:=t) (al:=false) (w:=false) h.n h.G d x;rw [p3,p4];exact h.ji _ _ _
def jS {ops:List Oper} (hK:Inv K):dD E f ops o K s↔(JE ops s o=some true/\oD E f o K s)\/(JE ops s o=some false/\K (s.put o.dst (.v jM))):=by
 unfold dD JE;cases hg:o.guard with
 |none=>simp
 |some p=>
  obtain ⟨j,want⟩:=p;simp only;cases hd:uI ops j with
  |none=>simp
  |some d=>
   simp only;cases hl:lk s.ae d with
   |none=>simp
   |lp _ _=>simp
   |v a=>
    cases a with
    |bool b=>
     have e1:b=want->vG s (s.put (some d) (.v (.bool want))):=λ e=>Ku s (by rw [hl,e])
     have e2:b=(!want)->vG s (s.put (some d) (.v (.bool (!want)))):=λ e=>Ku s (by rw [hl,e])
     constructor
     .intro ⟨h1,h2⟩;by_cases e:b=want
      .exact .inl ⟨by simp [e],DO (h1 e) (e1 e).symm hK⟩
      .have e':b=(!want):=by cases b <;> cases want <;> simp_all
       exact .inr ⟨by simp [e],hK _ _ ((e2 e').symm.put _ _) (h2 e')⟩
     .rintro (⟨h1,h2⟩|⟨h1,h2⟩)
      .have e:b=want:=by simpa using h1
       exact ⟨λ e=>DO h2 (e1 e) hK,λ e'=>by subst e; cases b <;> cases e'⟩
      .have e:¬ b=want:=by simpa using h1
       exact ⟨λ k=>absurd k e,λ e'=>hK _ _ ((e2 e').put _ _) h2⟩
    |cD vs=>cases vs <;> simp
    |_=>simp
def dE {ops:List Oper} (h:dD E f ops o K s) (hK:∀ s,K s->K' s):dD E f ops o K' s:=by
 unfold dD at h ⊢;split at h
 .exact AU h hK
 .split at h
  .exact h.elim
  .split at h
   .exact ⟨λ e=>AU (h.1 e) hK,λ e=>hK _ (h.2 e)⟩
   .exact hK _ h
   .exact h.elim
def Ij {ops:List Oper} (e:vG s t):JE ops s o=JE ops t o:=by
 unfold JE;rw [e.l]
def Kv {ops:List Oper} (hK:Inv K):Inv (dD E f ops o K):=λ s t e h=>by
 rw [jS hK] at h ⊢;rcases h with ⟨h1,h2⟩|⟨h1,h2⟩
 .exact .inl ⟨by rw [<- Ij e]; exact h1,DO h2 e hK⟩
 .exact .inr ⟨by rw [<- Ij e]; exact h1,hK _ _ (e.put _ _) h2⟩
end ops
def Uu (dst:Option Tmp) (s t s' t':St):Prop:=∃ x,s'=s.put dst x/\t'=t.put dst x
section
def Uu.put (_:s.n=t.n) (dst:Option Tmp) (x:SV):Uu dst s t (s.put dst x) (t.put dst x):=⟨x,rfl,rfl⟩
def Kw (hN:wQ o.op=true) (hR:isR o.op=false) (hn:s.n=t.n) (jY:∀ y∈o.op.operands,cK E s.ae y=cK E t.ae y)
  (h:aA E f s o=some (c,s')):∃ t',aA E f t o=some (c,t')/\Uu o.dst s t s' t':=by
 obtain ⟨dst,op,ty,pos,after,guard⟩:=o;cases op
 case move x=>
  simp only [aA,jY x (by simp [aad])] at h ⊢;split at h
  all_goals (injection h with h; injection h with h1 h2; subst h1 h2; (try simp only [*]); exact ⟨_,rfl,.put hn _ _⟩)
 case assign x=>
  simp only [aA,jY x (by simp [aad])] at h ⊢;split at h
  all_goals (injection h with h; injection h with h1 h2; subst h1 h2; (try simp only [*]); exact ⟨_,rfl,.put hn _ _⟩)
 case pick x y z=>
  simp only [aA,jY x (by simp [aad]),jY y (by simp [aad]),jY z (by simp [aad])] at h ⊢;split at h
  .injection h with h; injection h with h1 h2; subst h1 h2; (try simp only [*]); exact ⟨_,rfl,.put hn _ _⟩
  .cases h
 case build ty ps=>
  have he:sI E s ty ps.toList=sI E t ty ps.toList:=by
   unfold sI;rw [rR (λ p hp=>jY p.2 (by simp only [aad,aca,acg]; exact ⟨p,hp,rfl⟩))]
  simp only [aA,he] at h ⊢;split at h
  .injection h with h; injection h with h1 h2; subst h1 h2; (try simp only [*]); exact ⟨_,rfl,.put hn _ _⟩
  .cases h
 case buildSlice ty len ps=>
  have he:dW E s ty len ps.toList=dW E t ty len ps.toList:=by
   unfold dW;rw [rR (λ p hp=>jY p.2 (by simp only [aad,aca,acg]; exact ⟨p,hp,rfl⟩))]
  simp only [aA,he] at h ⊢;split at h
  .injection h with h; injection h with h1 h2; subst h1 h2; (try simp only [*]); exact ⟨_,rfl,.put hn _ _⟩
  .cases h
 case binOp op a x y b=>
  simp only [aA,jY x (by simp [aad]),jY y (by simp [aad])] at h ⊢
  repeat' (split at h)
  all_goals (first|(cases h; done) | skip)
  all_goals (injection h with h; injection h with h1 h2; subst h1 h2; (try simp only [*]); exact ⟨_,rfl,.put hn _ _⟩)
 case unOp op a x=>
  simp only [aA,jY x (by simp [aad])] at h ⊢
  repeat' (split at h)
  all_goals (first|(cases h; done) | skip)
  all_goals (injection h with h; injection h with h1 h2; subst h1 h2; (try simp only [*]); exact ⟨_,rfl,.put hn _ _⟩)
 case convert a b x=>simp [isR] at hR
 case nilCheck x=>
  simp only [aA,jY x (by simp [aad])] at h ⊢
  repeat' (split at h)
  all_goals (first|(cases h; done) | skip)
  all_goals (injection h with h; injection h with h1 h2; subst h1 h2; (try simp only [*]); exact ⟨_,rfl,.put hn _ _⟩)
 case makeFunc fo a b=>
  cases fo with
  |func g=>
   have h1:uk E s.ae a.toList=uk E t.ae a.toList:=lf λ y hy=>jY y (by simp only [aad,acd]; exact .inl (by simpa using hy))
   have h2:uk E s.ae b.toList=uk E t.ae b.toList:=lf λ y hy=>jY y (by simp only [aad,acd]; exact .inr (by simpa using hy))
   simp only [aA,h1,h2] at h ⊢
   repeat' (split at h)
   all_goals (first|(cases h; done) | skip)
   all_goals (injection h with h; injection h with h1 h2; subst h1 h2; (try simp only [*]); exact ⟨_,rfl,.put hn _ _⟩)
  |_=>simp [aA] at h
 case fieldAddr a x j=>
  simp only [aA,jY x (by simp [aad])] at h ⊢
  repeat' (split at h)
  all_goals (first|(cases h; done) | skip)
  all_goals (injection h with h; injection h with h1 h2; subst h1 h2; (try simp only [*]); exact ⟨_,rfl,.put hn _ _⟩)
 case field a x j=>
  simp only [aA,jY x (by simp [aad])] at h ⊢
  repeat' (split at h)
  all_goals (first|(cases h; done) | skip)
  all_goals (injection h with h; injection h with h1 h2; subst h1 h2; (try simp only [*]); exact ⟨_,rfl,.put hn _ _⟩)
 case indexAddr a x y=>
  simp only [aA,jY x (by simp [aad]),jY y (by simp [aad])] at h ⊢
  repeat' (split at h)
  all_goals (first|(cases h; done) | skip)
  all_goals (injection h with h; injection h with h1 h2; subst h1 h2; (try simp only [*]); exact ⟨_,rfl,.put hn _ _⟩)
 case index a x y=>
  simp only [aA,jY x (by simp [aad]),jY y (by simp [aad])] at h ⊢
  repeat' (split at h)
  all_goals (first|(cases h; done) | skip)
  all_goals (injection h with h; injection h with h1 h2; subst h1 h2; (try simp only [*]); exact ⟨_,rfl,.put hn _ _⟩)
 case slice a x lo hi mx=>
  have h1:qp E s.ae lo=qp E t.ae lo:=by
   cases lo with
   |none=>rfl
   |some y=>simp only [qp]; rw [jY y (by simp [aad])]
  have h2:qp E s.ae hi=qp E t.ae hi:=by
   cases hi with
   |none=>rfl
   |some y=>simp only [qp]; rw [jY y (by simp [aad])]
  simp only [aA,jY x (by simp [aad]),h1,h2] at h ⊢
  repeat' (split at h)
  all_goals (first|(cases h; done) | skip)
  all_goals (injection h with h; injection h with h1 h2; subst h1 h2; (try simp only [*]); exact ⟨_,rfl,.put hn _ _⟩)
 case extract x i=>
  simp only [aA,jY x (by simp [aad])] at h ⊢
  repeat' (split at h)
  all_goals (first|(cases h; done) | skip)
  all_goals (injection h with h; injection h with h1 h2; subst h1 h2; (try simp only [*]); exact ⟨_,rfl,.put hn _ _⟩)
 all_goals (first|(simp [wQ] at hN; done) | (simp [isR] at hR; done))
end
section
def Uv (ops:Array Oper) (j:Nat):uI ops.toList j=(ops[j]?).bind (·.dst):=by
 unfold uI;rw [bk,aa5];cases ops[j]? <;> rfl
def s6 {e:Tmp} (h:.tmp e∈o.op.operands):e∈o.looksAt ops:=
 List.mem_append_left _ (List.mem_filterMap.2 ⟨.tmp e,by simpa using h,rfl⟩)
def n5 {e:Tmp} (h:o.guard=some (j,want)) (he:uI ops.toList j=some e):e∈o.looksAt ops:=by
 rw [Uv] at he;refine List.mem_append_right _ ?_;rw [h];simp [he]
def py (h:∀ e∈o.looksAt ops,lk s.ae e=lk t.ae e):∀ y∈o.op.operands,cK E s.ae y=cK E t.ae y:=λ _ hy=>
 Ut λ e he=>h e (s6 (he ▸ hy))
def oU (h:∀ e∈o.looksAt ops,lk s.ae e=lk t.ae e):JE ops.toList s o=JE ops.toList t o:=by
 unfold JE;split
 .rfl
 .rename_i j want hg;split
  .rename_i e he;rw [h e (n5 hg he)]
  .rfl
def CP (s:St) (d:Tmp) (x:SV) (h:d≠e):lk (s.put (some d) x).ae e=lk s.ae e:=by
 simp only [St.put];split
 .exact bq h
 .rfl
def jT (s:St) (d:Option Tmp) (x:SV):(s.put d x).boxes=s.boxes/\(s.put d x).G=s.G/\(s.put d x).n=s.n/\(s.put d x).marks=s.marks/\(s.put d x).ro=s.ro:=by
 cases d with
 |none=>exact ⟨rfl,rfl,rfl,rfl,rfl⟩
 |some d=>
  simp only [St.put];split <;> exact ⟨rfl,rfl,rfl,rfl,rfl⟩
def DP (E:Env) (f:FuncId) (ops:Array Oper) (o:Oper) (s:St) (x:SV):Prop:=
 (JE ops.toList s o=some true/\aA E f s o=some (true,s.put o.dst x))\/(JE ops.toList s o=some false/\x=.v jM)
def Uw (hN:wQ o.op=true) (h:aA E f s o=some (c,s')):∃ x,s'=s.put o.dst x:=by
 obtain ⟨t',_,pre,preB,G,_,h2,_,_⟩:=lg (t:=s) rfl rfl rfl (λ _ _=>rfl) h;obtain ⟨_,_,x,hx,_⟩:=h2 (by simp [hN]);exact ⟨x,hx⟩
def Ux (hN:wQ o.op=true):oD E f o K s↔∃ s',aA E f s o=some (true,s')/\K s':=by
 unfold oD;split
 .rename_i h;rw [h] at hN;simp [wQ] at hN
 .rename_i h;rw [h] at hN;simp [wQ] at hN
 .split
  .rename_i c s' hs;constructor
   .intro h;obtain ⟨rfl,hk⟩:=h.out;exact ⟨s',hs,hk⟩
   .rintro ⟨JB,h1,h2⟩;rw [hs] at h1;cases h1;exact gv.mk rfl h2
  .rename_i hs;constructor
   .exact λ h=>h.elim
   .rintro ⟨JB,h1,_⟩;rw [hs] at h1;cases h1
def DQ (hN:wQ o.op=true) (hK:Inv K) (h:dD E f ops.toList o K s):∃ x,DP E f ops o s x/\K (s.put o.dst x):=by
 rcases (jS hK).1 h with ⟨h1,h2⟩|⟨h1,h2⟩
 .obtain ⟨s',h3,h4⟩:=(Ux hN).1 h2;obtain ⟨x,rfl⟩:=Uw hN h3;exact ⟨x,.inl ⟨h1,h3⟩,h4⟩
 .exact ⟨_,.inr ⟨h1,rfl⟩,h2⟩
def DR (hN:wQ o.op=true) (hK:Inv K) (hx:DP E f ops o s x) (h:K (s.put o.dst x)):dD E f ops.toList o K s:=by
 rw [jS hK];rcases hx with ⟨h1,h2⟩|⟨h1,rfl⟩
 .exact .inl ⟨h1,(Ux hN).2 ⟨_,h2,h⟩⟩
 .exact .inr ⟨h1,h⟩
def Nu (E:Env) (f:FuncId) (ops:List Oper) (o:Oper) (s:St):Prop:=match JE ops s o with
 |some true=>match o.dst,aA E f s o with
  |some d,some (c,s')=>c=true/\lk s'.ae d=lk s.ae d
  |_,_=>False
 |some false=>True
 |none=>False
def Yt (hN:wQ o.op=true) (hd:d∉o.looksAt ops) (de:o.dst≠some d) (he:∀ e,d≠e->lk s.ae e=lk t.ae e) (hB:fm s.boxes=fm t.boxes) (hG:s.G=t.G) (hn:s.n=t.n)
  (h:Nu E f ops.toList o s):Nu E f ops.toList o t:=by
 have hl:∀ e∈o.looksAt ops,lk s.ae e=lk t.ae e:=λ e hm=>he e λ k=>hd (k ▸ hm)
 unfold Nu at h ⊢;rw [<- oU hl];split
 .rename_i hg;rw [hg] at h;simp only at h;split at h
  .rename_i e c s' Rs hs;obtain ⟨t',h3,pre,preB,G,_,h4,_,_⟩:=lg hn hG hB (py hl) hs;obtain ⟨_,_,y,h5,h6⟩:=h4 (by simp [hN]);rw [Rs,h3];refine ⟨h.1,?_⟩;have hde:d≠e:=λ k=>de (by rw [Rs,k])
   have h7:=h.2;rw [h5,Rs] at h7;rw [h6,Rs,<- he e hde];simp only [St.put,<- hn] at h7 ⊢;split
   .rename_i hb;rw [hb] at h7;simp only [aS] at h7 ⊢;exact h7
   .exact (he e hde).symm
  .exact h.elim
 .trivial
 .rename_i hg;rw [hg] at h;exact h
def Yu (hN:wQ o.op=true) (e:vG s t) (h:Nu E f ops.toList o s):Nu E f ops.toList o t:=by
 unfold Nu at h ⊢;rw [<- Ij e];split
 .rename_i hg;rw [hg] at h;simp only at h;split at h
  .rename_i d c s' Rs hs;obtain ⟨t',h3,pre,preB,G,_,h4,_,_⟩:=lg e.n e.G e.b (λ y _=>e.cK y) hs;obtain ⟨_,_,y,h5,h6⟩:=h4 (by simp [hN]);rw [Rs,h3];refine ⟨h.1,?_⟩;rw [h6,<- (e.put o.dst y).l,<- h5,<- e.l];exact h.2
  .exact h.elim
 .trivial
 .rename_i hg;rw [hg] at h;exact h
def nA (oj oi:Oper):Bool:=dq oi.op || (isR oj.op&&!wQ oi.op)
def Uy (h:Pre al dst pre) (he:dst≠some e) (l:bT):lk (pre++l) e=lk l e\/(al=true/\∃ k off,lk l e=.lp k off):=by
 rcases h with rfl|⟨d,y,rfl,rfl|⟨rfl,rfl⟩⟩
 .exact .inl rfl
 .exact .inl (bq λ k=>he (by rw [k]))
 .simp only [aag,aaK];rw [bq (λ k=>he (by rw [k]))];simp only [lk];cases hl:lk l e with
  |lp k off=>exact .inr ⟨trivial,k,off,rfl⟩
  |_=>exact .inl rfl
def za (preB:ew) (G:List GO) (h:Pre al oi.dst pre) (de:oi.dst≠some d) (hx:al=false\/∃ a,x=.v a):vG ((s.put (some d) x).ji pre preB G) ((s.ji pre preB G).put (some d) x):=by
 have hb:∀ b,abN d s.n=b->vG ((s.put (some d) x).ji pre preB G) ((s.ji pre preB G).put (some d) x):=λ b hb=>by
  have nt:abN d (s.ji pre preB G).n=b:=hb;rw [qF,qF,hb,nt];cases b with
  |false=>exact vG.refl _
  |true=>
   refine ⟨funext λ e=>?_,rfl,rfl,rfl,rfl,rfl⟩;simp only [cond_true,St.ji,aag,aaK];by_cases k:d=e
   .subst k;rw [aS];rcases Uy h de (.put d x::s.ae) with h1|⟨h1,k,off,h2⟩
    .rw [h1,aS]
    .rw [aS] at h2;rcases hx with hx|⟨a,hx⟩
     .rw [hx] at h1; cases h1
     .rw [hx] at h2; cases h2
   .rw [bq k];exact rS (bq k) pre
 exact hb _ rfl
def Rt (hN:wQ oj.op=true) (Pq:oj.dst=some d) (Kx:d∉oj.looksAt ops) (Yl:oj.apart ops oi=true) (hK:Inv K) (hx:DP E f ops oj s x) 
  (Ky:Pre (dq oi.op) oi.dst pre) (hNi:wQ oi.op=true->preB=[]/\G=s.G) (hk:K ((s.put (some d) x).ji pre preB G)) (hre:∀ t',K t'->nA oj oi=true->Nu E f ops.toList oj t') :
  ∃ x',DP E f ops oj (s.ji pre preB G) x'/\K ((s.ji pre preB G).put (some d) x'):=by
 obtain ⟨_,de,FX⟩:=acq Yl;have M2:oi.dst≠some d:=de d Pq;have zd:∀ e∈oj.looksAt ops,oi.dst≠some e:=λ e he k=>FX e k he
 have CM:∀ e∈oj.looksAt ops,(dq oi.op=false\/∃ b,lk s.ae e=.v b)->lk s.ae e=lk (s.ji pre preB G).ae e:=λ e he ha=>by
  rcases Uy Ky (zd e he) s.ae with h1|⟨h1,k,off,h2⟩
  .exact h1.symm
  .rcases ha with ha|⟨b,ha⟩
   .rw [ha] at h1; cases h1
   .rw [ha] at h2; cases h2
 have Yv:∀ b,JE ops.toList s oj=some b->JE ops.toList (s.ji pre preB G) oj=some b:=λ b hb=>by
  unfold JE at hb ⊢;split
  .rename_i hg; rw [hg] at hb; exact hb
  .rename_i j want hg;rw [hg] at hb;simp only at hb;split
   .rename_i e he;rw [he] at hb;simp only at hb;split at hb
    .rename_i b' hl;have:=CM e (n5 hg he) (.inr ⟨_,hl⟩);rw [<- this,hl];exact hb
    .rename_i hl;have:=CM e (n5 hg he) (.inr ⟨_,hl⟩);rw [<- this,hl];exact hb
    .cases hb
   .rename_i he; rw [he] at hb; cases hb
 rcases hx with ⟨h1,h2⟩|⟨h1,rfl⟩
 .rw [Pq] at h2;by_cases an9:nA oj oi=true
  .have hr:=hre _ hk an9
   have FV:∀ e,d≠e->lk ((s.put (some d) x).ji pre preB G).ae e=lk (s.ji pre preB G).ae e:=λ e he=>rS (CP s d x he) pre
   have hB:fm ((s.put (some d) x).ji pre preB G).boxes=fm (s.ji pre preB G).boxes:=by
    simp only [St.ji]; rw [(jT s _ x).1]
   have hn:((s.put (some d) x).ji pre preB G).n=(s.ji pre preB G).n:=(jT s _ x).2.2.1;have Yw:∀ e∈oj.looksAt ops,lk ((s.put (some d) x).ji pre preB G).ae e=lk (s.ji pre preB G).ae e:=λ e he=>FV e λ k=>Kx (k ▸ he)
   have hg2:JE ops.toList ((s.put (some d) x).ji pre preB G) oj=some true:=by rw [oU Yw]; exact Yv _ h1
   unfold Nu at hr;rw [hg2] at hr;simp only [Pq] at hr;split at hr
   .rename_i d' c s' O6 hs;cases O6;obtain ⟨rfl,hr⟩:=hr;obtain ⟨t',h3,p,pB,G2,_,h4,_,_⟩:=lg (t:=s.ji pre preB G) hn rfl hB (py Yw) hs;obtain ⟨_,_,y,h5,h6⟩:=h4 (by simp [hN]);rw [h6] at h3;rw [h5,Pq] at hr;refine ⟨y,.inl ⟨Yv _ h1,h3⟩,hK _ _ ?_ hk⟩;have hmr:((s.put (some d) x).ji pre preB G).marks=(s.ji pre preB G).marks/\((s.put (some d) x).ji pre preB G).ro=(s.ji pre preB G).ro:=(jT s _ x).2.2.2;obtain ⟨q1,q2,q3,q4,q5⟩:=jT (s.ji pre preB G) (some d) y;refine ⟨funext λ e=>?_,by rw [q1]; exact hB,by rw [q2]; rfl,by rw [q4]; exact hmr.1,by rw [q5]; exact hmr.2,by rw [q3]; exact hn⟩;by_cases k:d=e
    .subst k;rw [<- hr];have hb:∀ b,abN d s.n=b->lk (((s.put (some d) x).ji pre preB G).put (some d) y).ae d=lk ((s.ji pre preB G).put (some d) y).ae d:=λ b hb=>by
      have Kz:abN d (s.ji pre preB G).n=b:=hb;have Tg:abN d ((s.put (some d) x).ji pre preB G).n=b:=by rw [hn]; exact hb
      rw [qF _ d y,qF _ d y,Kz,Tg];cases b with
      |true=>simp [St.ji,aS]
      |false=>
       simp only [cond_false];rw [qF,hb];rfl
     exact hb _ rfl
    .rw [CP _ _ _ k];exact FV e k
   .exact hr.elim
  .have Ru:dq oi.op=false:=by cases ha:dq oi.op <;> simp_all [nA]
   have hl:∀ e∈oj.looksAt ops,lk s.ae e=lk (s.ji pre preB G).ae e:=λ e he=>CM e he (.inl Ru)
   have fin:∀ y,s.put (some d) x=s.put (some d) y->aA E f (s.ji pre preB G) oj=some (true,(s.ji pre preB G).put oj.dst y) ->
     ∃ x',DP E f ops oj (s.ji pre preB G) x'/\K ((s.ji pre preB G).put (some d) x'):=λ y hy hs=>by
    refine ⟨y,.inl ⟨Yv _ h1,hs⟩,hK _ _ (za (oi:=oi) preB G Ky M2 (.inl Ru)) ?_⟩;rw [<- hy];exact hk
   cases hNo:wQ oi.op with
   |true=>
    obtain ⟨rfl,rfl⟩:=hNi hNo;obtain ⟨t',h3,p,pB,G2,_,h4,_,_⟩:=lg (s:=s) (t:=s.ji pre [] s.G) rfl rfl rfl (py hl) h2;obtain ⟨_,_,y,h5,h6⟩:=h4 (by simp [hN]);rw [Pq] at h5;exact fin y h5 (by rw [h3,h6])
   |false=>
    have hR:isR oj.op=false:=by cases ha:isR oj.op <;> simp_all [nA]
    obtain ⟨t',h3,y,h5,h6⟩:=Kw (s:=s) (t:=s.ji pre preB G) hN hR rfl (py hl) h2;rw [Pq] at h5;exact fin y h5 (by rw [h3,h6])
 .exact ⟨_,.inr ⟨Yv _ h1,rfl⟩,hK _ _ (za (oi:=oi) preB G Ky M2 (.inr ⟨_,rfl⟩)) hk⟩
end
section
def li (E:Env) (s:St) (o:Oper) (s':St):Prop:=
 (s'.ae=s.ae\/∃ d x,o.dst=some d/\(s'.ae=.put d x::s.ae\/s'.ae=.put d x :: .kill d::s.ae)/\∀ k off,x=.lp k off->(∃ y∈o.op.operands,∃ lL,cK E s.ae y=.lp k lL)\/(dq o.op=true/\k=d)) /\
 (s'.boxes=s.boxes\/∃ k cs,s'.boxes=(k,cs)::s.boxes/\((dq o.op=true/\o.dst=some k)\/∃ y∈o.op.operands,∃ off,cK E s.ae y=.lp k off))
def vH (h1:s1.ae=s.ae) (h2:s1.boxes=s.boxes) (hx:∀ k off,x=.lp k off->∃ y∈o.op.operands,∃ lL,cK E s.ae y=.lp k lL):li E s o (s1.put o.dst x):=by
 refine ⟨?_,.inl (by rw [(jT s1 o.dst x).1,h2])⟩;cases hd:o.dst with
 |none=>exact .inl h1
 |some d=>
  simp only [St.put];split
  .exact .inr ⟨d,x,rfl,.inl (by rw [h1]),λ k off h=>.inl (hx k off h)⟩
  .exact .inl h1
def qG (h1:s1.ae=s.ae) (h2:s1.boxes=s.boxes) (a:AV):li E s o (s1.put o.dst (.v a)):=vH h1 h2 λ k off h=>by cases h
def rT (h1:s1.ae=s.ae) (h2:s1.boxes=s.boxes):li E s o s1:=⟨.inl h1,.inl h2⟩
def Yx (h:∃ y∈o.op.operands,∃ off,cK E s.ae y=.lp k off):li E s o (s.Bu k cs):=⟨.inl rfl,.inr ⟨k,cs,rfl,.inr h⟩⟩
def KA {k off:Nat} (h:Gr n x=some (.lp k off)):∃ lL,x=.lp k lL:=by
 unfold Gr at h;split at h <;> cases h;exact ⟨_,rfl⟩
def F8 {k off:Nat} (h:o0 E ty x j=some (.lp k off)):∃ lL,x=.lp k lL:=by
 unfold o0 at h
 repeat' (split at h)
 all_goals (first|(cases h; done) | exact KA h)
def F9 (h:oZ E ty x ix=some (c,.lp k off)):∃ lL,x=.lp k lL:=by
 unfold oZ at h
 repeat' (split at h)
 all_goals (first|(cases h; done) | skip)
 rename_i hm;injection h with h; injection h with h1 h2; subst h2;exact KA hm
def Nv {x:SV} (hp:∀ k off,p=.lp k off->∃ y∈o.op.operands,∃ lL,cK E s.ae y=.lp k lL) (h:kl E s ty p x=some s'):li E s o s':=by
 unfold kl at h
 repeat' (split at h)
 all_goals (first|(cases h; done) | skip)
 .cases h; exact Yx (hp _ _ rfl)
 .cases h; exact rT rfl rfl
def Nw {x:SV} (hp:∀ k off,p=.lp k off->∃ y∈o.op.operands,∃ lL,cK E s.ae y=.lp k lL) (h:ic E s ty p x=some (c,s')):li E s o s':=by
 unfold ic at h
 repeat' (split at h)
 all_goals (first|(cases h; done) | skip)
 .injection h with h; injection h with h1 h2; subst h2; exact rT rfl rfl
 .injection h with h; injection h with h1 h2; subst h2; exact rT rfl rfl
 .rename_i hs;injection h with h; injection h with h1 h2; subst h2; exact Nv hp hs
def Nx {x:SV} (hp:∀ k off,p=.lp k off->∃ y∈o.op.operands,∃ lL,cK E s.ae y=.lp k lL) (h:nY E s ty p x=some (c,s')):li E s o s':=by
 unfold nY at h;split at h
 .rename_i hs;obtain ⟨e1,rfl⟩:=cL h;exact Nw (s:=s.cM (xh s p x).2.2) hp hs
 .cases h
def KB {k x:SV} (h:gN E s ty m k x=some s'):li E s o s':=by
 unfold gN at h
 repeat' (split at h)
 all_goals (first|(cases h; done) | skip)
 cases h; exact rT rfl rfl
def KC {k x:SV} (h:jA E s ty m k x=some (c,s')):li E s o s':=by
 unfold jA at h;split at h
 .rename_i hs;obtain ⟨e1,rfl⟩:=cL h;exact KB (s:=s.cM (xi s x).2.2) hs
 .cases h
def Rv (h:qA s o.dst x=some s'):li E s o s':=by
 unfold qA at h;split at h
 .split at h
  .rename_i l pos hg;cases hb:abN pos l.length with
   |true=>
    rw [hb] at h;simp only [cond_true] at h;cases h;exact qG rfl rfl _
   |false=>
    rw [hb] at h;simp only [cond_false] at h;cases h;exact qG rfl rfl _
  .cases h
 .cases h
def Ik (h:eX E s o.dst b l tys=some (c,s')):li E s o s':=by
 unfold eX at h;cases b
 all_goals (try (cases h; done))
 all_goals (try simp only at h)
 all_goals (try (split at h <;> first | (cases h; done) | simp only at h))
 all_goals (repeat' (split at h))
 all_goals (first|(cases h; done) | skip)
 all_goals (injection h with h; injection h with h1 h2; subst h1 h2)
 all_goals (first|exact qG rfl rfl _ | exact rT rfl rfl)
def DS (ha:dq o.op=true) (h:iP E f s o.dst el cs=some (c,s')):li E s o s':=by
 unfold iP at h;split at h
 .cases h
 .rename_i d hd;split at h
  .injection h with h; injection h with h1 h2; subst h2;rw [<- hd];exact qG rfl rfl _
  .split at h
   .rename_i hb;injection h with h; injection h with h1 h2; subst h2;refine ⟨.inr ⟨d,.lp d 0,hd,.inr ?_,λ k off h=>by cases h; exact .inr ⟨ha,rfl⟩⟩,.inr ⟨d,cs,?_,.inl ⟨ha,hd⟩⟩⟩
    .simp only [St.put,St.Bu,St.kill,hb]
    .rw [(jT _ (some d) (.lp d 0)).1]; rfl
   .cases h
def Ny (h:aA E f s o=some (c,s')):li E s o s':=by
 cases ho:o.op
 case move x | assign x=>
  simp only [aA,ho] at h;split at h
  all_goals (injection h with h; injection h with h1 h2; subst h2)
  .exact qG rfl rfl _
  .rename_i k off hx;exact vH rfl rfl λ k' lL e=>by cases e; exact ⟨x,by rw [ho]; simp [aad],_,hx⟩
  .exact vH rfl rfl λ k' lL e=>by cases e
 case nilCheck x=>
  simp only [aA,ho] at h;split at h
  .injection h with h; injection h with h1 h2; subst h2;exact qG rfl rfl _
  .injection h with h; injection h with h1 h2; subst h2;exact qG rfl rfl _
  .rename_i k off hx;injection h with h; injection h with h1 h2; subst h2;exact vH rfl rfl λ k' lL e=>by cases e; exact ⟨x,by rw [ho]; simp [aad],_,hx⟩
  .cases h
 case fieldAddr a x j=>
  simp only [aA,ho] at h;split at h
  .rename_i p hp;injection h with h; injection h with h1 h2; subst h2;exact vH rfl rfl λ k' lL e=>by subst e; exact ⟨x,by rw [ho]; simp [aad],F8 hp⟩
  .cases h
 case indexAddr a x y=>
  simp only [aA,ho] at h;split at h
  .rename_i c' p hp;injection h with h; injection h with h1 h2; subst h2;exact vH rfl rfl λ k' lL e=>by subst e; exact ⟨x,by rw [ho]; simp [aad],F9 hp⟩
  .cases h
 case alloc e=>
  simp only [aA,ho] at h
  repeat' (split at h)
  all_goals (first|(cases h; done) | skip)
  exact DS (by rw [ho]; rfl) h
 case box e x=>
  simp only [aA,ho] at h
  repeat' (split at h)
  all_goals (first|(cases h; done) | skip)
  exact DS (by rw [ho]; rfl) h
 case store ty x y=>
  simp only [aA,ho] at h;split at h
  .rename_i hs;injection h with h; injection h with h1 h2; subst h2;exact Nx (λ k off e=>⟨x,by rw [ho]; simp [aad],off,e⟩) hs
  .cases h
 case mapUpdate ty x y z=>
  simp only [aA,ho] at h;split at h
  .rename_i hs;injection h with h; injection h with h1 h2; subst h2;exact KC hs
  .cases h
 case mapEntry ty x y=>
  simp only [aA,ho] at h;split at h
  .rename_i hs;injection h with h; injection h with h1 h2; subst h2;unfold jW at hs
   repeat' (split at hs)
   all_goals (first|(cases hs; done) | skip)
   injection hs with hs; injection hs with h3 hs; injection hs with h4 h5;subst h5;exact qG rfl rfl _
  .cases h
 case entryStore ty x y z=>
  simp only [aA,ho] at h;split at h
  .rename_i hs;injection h with h; injection h with h1 h2; subst h2;unfold gP at hs
   repeat' (split at hs)
   all_goals (first|(cases hs; done) | skip)
   obtain ⟨h3,rfl⟩:=cL hs;exact rT rfl rfl
  .cases h
 case next x b=>
  cases b with
  |false=>simp [aA,ho] at h
  |true=>
   simp only [aA,ho] at h;split at h
   .rename_i hs;injection h with h; injection h with h1 h2; subst h2;exact Rv hs
   .cases h
 case call cl=>
  obtain ⟨callee,args,tys⟩:=cl;cases callee with
  |builtin b=>
   simp only [aA,ho] at h;split at h
   .exact Ik h
   .cases h
  |_=>simp [aA,ho] at h
 case makeFunc fo a b=>
  cases fo with
  |func g=>
   simp only [aA,ho] at h
   repeat' (split at h)
   all_goals (first|(cases h; done) | skip)
   injection h with h; injection h with h1 h2; subst h2;exact qG rfl rfl _
  |_=>simp [aA,ho] at h
 case makeMap ty r=>
  cases r with
  |none=>
   simp only [aA,ho] at h;injection h with h; injection h with h1 h2; subst h2;exact qG rfl rfl _
  |some _=>simp [aA,ho] at h
 all_goals (first
  |(simp [aA,ho] at h; done)
  |(simp only [aA,sP,ho] at h; (repeat' (split at h)); (all_goals (first|(cases h; done) | skip)); (all_goals (injection h with h; injection h with h1 h2; subst h2)); (all_goals (exact qG rfl rfl _))))
def xA (s:St) (d:Nat) (cs:List AV):St:=s.ji [.put d (.lp d 0),.kill d] [(d,cs)] s.G
def Nz (Ru:dq o.op=true) (hd:o.dst=some d) (hg:E.FP f d=false) (h:aA E f s o=some (c,s1)) :
  c=true/\∃ cs,s1=xA s d cs/\∀ t:St,t.n=s.n->(∀ y∈o.op.operands,∀ v,cK E s.ae y=.v v->cK E t.ae y=.v v)->aA E f t o=some (true,xA t d cs):=by
 have key:∀ (el:TypeId) (cs:List AV),iP E f s o.dst el cs=some (c,s1)->c=true/\s1=xA s d cs/\∀ t:St,t.n=s.n->iP E f t o.dst el cs=some (true,xA t d cs):=by
  intro el cs h;unfold iP at h;rw [hd] at h;simp only [hg,acf,if_false] at h;split at h
  .rename_i hb;injection h with h; injection h with h1 h2; subst h1 h2;refine ⟨rfl,?_,λ t ht=>?_⟩
   .simp only [St.put,St.Bu,St.kill,hb,xA,St.ji]; rfl
   .unfold iP;rw [hd];simp only [hg,acf,if_false,ht,hb];simp only [St.put,St.Bu,St.kill,ht,hb,xA,St.ji]; rfl
  .cases h
 cases ho:o.op
 case alloc e=>
  simp only [aA,ho] at h ⊢;split at h
  .split at h
   .split at h
    .rename_i hi _ _ hz Q5;obtain ⟨k1,k2,k3⟩:=key _ _ h;refine ⟨k1,_,k2,λ t ht _=>?_⟩;simp only [hi,hz,Q5,if_true];exact k3 t ht
    .cases h
   .cases h
  .cases h
 case box e x=>
  simp only [aA,ho] at h ⊢;split at h
  .split at h
   .rename_i v hv Q5;obtain ⟨k1,k2,k3⟩:=key _ _ h;refine ⟨k1,_,k2,λ t ht he=>?_⟩;simp only [he x (by simp [aad]) v hv,Q5,if_true];exact k3 t ht
   .cases h
  .cases h
 all_goals (rw [ho] at Ru; simp [dq] at Ru)
def Pr (h:li E s o (s.ji pre preB G)) :
  (pre=[]\/∃ d x,o.dst=some d/\(pre=[.put d x]\/pre=[.put d x,.kill d])/\∀ k off,x=.lp k off->(∃ y∈o.op.operands,∃ lL,cK E s.ae y=.lp k lL)\/(dq o.op=true/\k=d)) /\
  (preB=[]\/∃ k cs,preB=[(k,cs)]/\((dq o.op=true/\o.dst=some k)\/∃ y∈o.op.operands,∃ off,cK E s.ae y=.lp k off)):=by
 obtain ⟨h1,h2⟩:=h;refine ⟨?_,?_⟩
 .rcases h1 with h1|⟨d,x,hd,h1,hx⟩
  .exact .inl (by simpa [St.ji] using h1)
  .refine .inr ⟨d,x,hd,?_,hx⟩;rcases h1 with h1|h1
   .left;have h1:pre++s.ae=[.put d x]++s.ae:=h1;exact ab6 h1
   .right;have h1:pre++s.ae=[.put d x,.kill d]++s.ae:=h1;exact ab6 h1
 .rcases h2 with h2|⟨k,cs,h2,hx⟩
  .exact .inl (by simpa [St.ji] using h2)
  .refine .inr ⟨k,cs,?_,hx⟩;have h2:preB++s.boxes=[(k,cs)]++s.boxes:=h2;exact ab6 h2
theorem nB (d e:Nat) (l:bT):lk (.kill d::l) e=(match lk l e with | .lp k off=>bif aba k d then .none else .lp k off | x=>x):=rfl
def DU {d e:Nat} {l:bT} (h:∀ off,lk l e≠.lp d off):lk (.kill d::l) e=lk l e:=by
 rw [nB];split
 .rename_i k off hk;cases hb:aba k d with
  |true=>exact absurd (by rw [hk,aaR hb]) (h off)
  |false=>rw [hk]; rfl
 .rfl
theorem Rw {d:Nat} (cs:List AV) (Uz:li E s o (s.ji pre preB G)) (de:o.dst≠some d) (Rx:∀ y∈o.op.operands,∀ off,cK E s.ae y≠.lp d off) :
  vG ((xA s d cs).ji pre preB G) (xA (s.ji pre preB G) d cs):=by
 obtain ⟨h1,h2⟩:=Pr Uz;refine ⟨funext λ e=>?_,funext λ k=>?_,rfl,rfl,rfl,rfl⟩
 .show lk (pre++([.put d (.lp d 0),.kill d]++s.ae)) e=lk ([.put d (.lp d 0),.kill d]++(pre++s.ae)) e;rcases h1 with rfl|⟨d',x,hd,hp,hx⟩
  .rfl
  .have hdd:d'≠d:=λ c=>de (by rw [hd,c])
   have Al:∀ off,x≠.lp d off:=λ off c=>by
    rcases hx d off c with ⟨y,hy,lL,ho⟩|⟨_,h⟩
    .exact Rx y hy lL ho
    .exact hdd h.symm
   by_cases c1:d=e
   .subst c1;rcases hp with rfl|rfl
    .simp only [aag,aaK];rw [bq hdd,aS,aS]
    .simp only [aag,aaK];rw [bq hdd,aS,DU (λ off=>by rw [aS]; intro c; cases c; exact hdd rfl),aS]
   .simp only [aag,aaK];rw [bq c1];by_cases c2:d'=e
    .subst c2;rcases hp with rfl|rfl
     .simp only [aag,aaK];rw [aS,DU (λ off=>by rw [aS]; exact Al off),aS]
     .simp only [aag,aaK];rw [aS,DU (λ off=>by rw [aS]; exact Al off),aS]
    .rcases hp with rfl|rfl
     .simp only [aag,aaK];rw [bq c2,bq c1,nB,nB,bq c2]
     .simp only [aag,aaK];rw [bq c2,nB,bq c1,nB,nB,bq c2,nB];cases lk s.ae e with
      |lp k off=>cases hb:aba k d <;> cases Tg:aba k d' <;> simp [hb,Tg]
      |_=>rfl
 .show fm (preB++([(d,cs)]++s.boxes)) k=fm ([(d,cs)]++(preB++s.boxes)) k;rcases h2 with rfl|⟨k',iO,rfl,hk⟩
  .rfl
  .have Xx:k'≠d:=λ c=>by
    subst c;rcases hk with ⟨_,hk⟩|⟨y,hy,off,ho⟩
    .exact de hk
    .exact Rx y hy off ho
   simp only [aag,aaK,fm];cases hb:aba k' k with
   |true=>
    have:aba d k=false:=by
     cases Tg:aba d k with
     |true=>exact absurd ((aaR hb).trans (aaR Tg).symm) Xx
     |false=>rfl
    rw [this]; rfl
   |false=>rfl
end
section
def NA (hn:s.n=t.n) (hG:s.G=t.G) (hB:∀ k off,(∃ y∈o.op.operands,cK E s.ae y=.lp k off)->fm s.boxes k=fm t.boxes k) (jY:∀ y∈o.op.operands,cK E s.ae y=cK E t.ae y) (h:oD E f o K s)
  (hK:∀ pre preB G,li E t o (t.ji pre preB G)->K (s.ji pre preB G)->K' (t.ji pre preB G)):oD E f o K' t:=by
 unfold oD at h ⊢;split at h
 .rename_i x args tys ho;have h1:cK E s.ae x=cK E t.ae x:=jY x (by rw [ho]; simp [aad,ab9]);have h2:uk E s.ae args.toList=uk E t.ae args.toList:=lf λ y hy=>jY y (by rw [ho]; simp [aad,ab9]; exact .inr (by simpa using hy))
  try simp only [ho]
  rw [<- h1,<- h2,<- hG];split at h
  .refine eI.mono h λ r G' hk=>?_
   obtain ⟨pre,preB,G,p1,p2,p3,p4⟩:=cT.fH (s:=s) (t:=t) (al:=dq o.op) hn G' o.dst (.v r);rw [p3] at hk;have hO:li E t o ((t.cM G').put o.dst (.v r)):=qG rfl rfl _;rw [p4] at hO ⊢;exact hK pre preB G hO hk
  .refine px.mono h λ r G' hk=>?_
   obtain ⟨pre,preB,G,p1,p2,p3,p4⟩:=cT.fH (s:=s) (t:=t) (al:=dq o.op) hn G' o.dst (.v (.bool r));rw [p3] at hk;have hO:li E t o ((t.cM G').put o.dst (.v (.bool r))):=qG rfl rfl _;rw [p4] at hO ⊢;exact hK pre preB G hO hk
  .exact h.elim
 .exact h.elim
 .split at h
  .rename_i c s' hs;obtain ⟨t',h1,pre,preB,G,p1,p2,p3,p4⟩:=yZ hn hG hB jY hs;have hO:=Ny h1;rw [h1];obtain ⟨rfl,hk⟩:=h.out;refine gv.mk rfl ?_;rw [p3] at hk;rw [p4] at hO ⊢;exact hK pre preB G hO hk
  .exact h.elim
def Ps (ha:dq o.op=true):oD E f o K s↔∃ s',aA E f s o=some (true,s')/\K s':=by
 unfold oD;split
 .rename_i h;rw [h] at ha;simp [dq] at ha
 .rename_i h;rw [h] at ha;simp [dq] at ha
 .split
  .rename_i c s' hs;constructor
   .intro h;obtain ⟨rfl,hk⟩:=h.out;exact ⟨s',hs,hk⟩
   .rintro ⟨JB,h1,h2⟩;rw [hs] at h1;cases h1;exact gv.mk rfl h2
  .rename_i hs;constructor
   .exact λ h=>h.elim
   .rintro ⟨JB,h1,_⟩;rw [hs] at h1;cases h1
end
section
def Ry (E:Env) (f:FuncId) (ops:Array Oper) (fJ:Nat->List Nat) (C:List Nat) (i:Nat) (s:St):Prop:=
 ∀ j∈C,∀ oj oi,ops[j]?=some oj->ops[i]?=some oi->nA oj oi=true->j∉fJ i->Nu E f ops.toList oj s
def NC (ops:Array Oper) (C:List Nat):Prop:=∀ j∈C,∀ oj,ops[j]?=some oj->wQ oj.op=true
def vI (hC:NC ops C):Inv (Ry E f ops fJ C i):=λ _ _ e h j hj oj oi h1 h2 h3 h4=>Yu (hC j hj oj h1) e (h j hj oj oi h1 h2 h3 h4)
def jC (E:Env) (f:FuncId) (ops:Array Oper) (fJ:Nat->List Nat) (C:List Nat) (K:St->Prop):Nat->Array Bool->St->Prop
 |0,listed,s=>aaL .any ops listed=[]/\K s
 |n+1,listed,s=>(aaL .any ops listed=[]->K s) /\
   ∀ i∈aaL .any ops listed,∀ oi,ops[i]?=some oi->dD E f ops.toList oi (λ s'=>Ry E f ops fJ C i s'/\jC E f ops fJ C K n (listed.setIfInBounds i true) s') s
def lj (hC:NC ops C) (hK:Inv K):∀ n listed,Inv (jC E f ops fJ C K n listed)
 |0,_=>λ s t e h=>⟨h.1,hK s t e h.2⟩
 |n+1,_=>λ s t e h=>⟨λ h0=>hK s t e (h.1 h0),λ i hi oi zd=>Kv (λ s t e h=>⟨vI hC s t e h.1,lj hC hK n _ s t e h.2⟩) s t e (h.2 i hi oi zd)⟩
def s7 {C':List Nat}:∀ n (listed:Array Bool) (s:St),
  (∀ k∈C',k∈C\/∀ i ok oi,ops[k]?=some ok->ops[i]?=some oi->listed.getD i true=false->nA ok oi=true->k∈fJ i) ->
  jC E f ops fJ C K n listed s->jC E f ops fJ C' K n listed s
 |0,_,_,_,h=>h
 |n+1,listed,s,hk,h=>⟨h.1,λ i hi oi zd=>dE (h.2 i hi oi zd) λ s' h'=>⟨λ k hkC ok oi' h1 h2 h3 h4=>by
   rcases hk k hkC with h5|h5
   .exact h'.1 k h5 ok oi' h1 h2 h3 h4
   .exact absurd (h5 i ok oi' h1 h2 (mem_ready.1 hi).1 h3) h4,s7 n _ s' (λ k hkC=>by
   rcases hk k hkC with h5|h5
   .exact .inl h5
   .refine .inr λ i' ok oi' h1 h2 h3 h4=>h5 i' ok oi' h1 h2 ?_ h4
    by_cases e:i=i'
    .subst e; exact (mem_ready.1 hi).1
    .rw [getD_set_ne true e] at h3; exact h3) h'.2⟩⟩
def GS (ops:Array Oper) (fJ:Nat->List Nat):Prop:=∀ i oi a,ops[i]?=some oi->a∈fJ i->∃ e∈oi.after,abk .any e=true/\(e.on=a\/a∈fJ e.on)
def tc (fJ:Nat->List Nat) (listed:Array Bool):Prop:=∀ i,listed.getD i false=true->∀ a∈fJ i,listed.getD a false=true
def tc.ready {listed:Array Bool} (h:tc fJ listed) (ha:GS ops fJ) {i:Nat} (hi:i∈aaL .any ops listed):∀ a∈fJ i,listed.getD a false=true:=λ a haa=>by
 obtain ⟨_,o,ho,zf⟩:=mem_ready.1 hi;obtain ⟨e,he,hb,h2⟩:=ha i o a ho haa;rcases h2 with rfl|h2
 .exact zf e he hb
 .exact h _ (zf e he hb) a h2
def n6 (h:listed.getD i false=true):listed.getD i true=true:=by
 rw [ab3] at *;cases hl:listed[i]? with
 |none=>rw [hl] at h; cases h
 |some b=>rw [hl] at h; exact h
def tc.add (h:tc fJ listed) (ha:GS ops fJ) (hi:i∈aaL .any ops listed):tc fJ (listed.setIfInBounds i true):=λ k hk a haa=>by
 by_cases e:i=k
 .subst e;exact getD_set_true (h.ready ha hi a haa)
 .rw [getD_set_ne false e] at hk;exact getD_set_true (h k hk a haa)
def NB (hA:GS ops fJ) (hC:NC ops C) (hK:Inv K) (hj:ops[j]?=some oj) (hN:wQ oj.op=true) (Pq:oj.dst=some d) (Kx:d∉oj.looksAt ops)
  (hCd:∀ k∈C,∀ ok,ops[k]?=some ok->d∉ok.looksAt ops/\ok.dst≠some d):∀ n (listed:Array Bool) (s:St) (x:SV),tc fJ listed ->
   (∀ i oi,ops[i]?=some oi->i≠j->listed.getD i true=false->(∀ e∈oi.after,abk .any e=true->e.on≠j)->oj.apart ops oi=true) ->
   j∈aaL .any ops listed->DP E f ops oj s x->jC E f ops fJ (j::C) K n (listed.setIfInBounds j true) (s.put (some d) x)->jC E f ops fJ C K (n+1) listed s:=by
 have XE:NC ops (j::C):=λ k hk ok ho=>by
  rcases abC.1 hk with rfl|hk
  .rw [hj] at ho; cases ho; exact hN
  .exact hC k hk ok ho
 have self:∀ n (listed:Array Bool) (s:St) (x:SV),DP E f ops oj s x->jC E f ops fJ (j::C) K n (listed.setIfInBounds j true) (s.put (some d) x)->∀ oi,ops[j]?=some oi ->
   dD E f ops.toList oi (λ s'=>Ry E f ops fJ C j s'/\jC E f ops fJ C K n (listed.setIfInBounds j true) s') s:=λ n listed s x hx h oi zd=>by
  rw [hj] at zd;cases zd;refine DR hN (λ s t e h=>⟨vI hC s t e h.1,lj hC hK _ _ s t e h.2⟩) hx ?_;rw [Pq];refine ⟨λ k _ ok oi' _ h2 h3 _=>?_,s7 n _ _ (λ k hk=>.inl (acu _ hk)) h⟩;rw [hj] at h2;cases h2;simp [nA,Kt hN,hN] at h3
 intro n
 induction n with
 |zero=>
  intro listed s x _ _ hr hx h;refine ⟨λ h0=>by rw [h0] at hr; simp at hr,λ i hi oi zd=>?_⟩;by_cases e:i=j
  .subst e; exact self 0 listed s x hx h oi zd
  .have:=ready_mono hi e;rw [h.1] at this;simp at this
 |succ n ih=>
  intro listed s x nW pj hr hx h;refine ⟨λ h0=>by rw [h0] at hr; simp at hr,λ i hi oi zd=>?_⟩;by_cases e:i=j
  .subst e; exact self (n+1) listed s x hx h oi zd
  .have UA:=(mem_ready.1 hi).1;have Yy:=(mem_ready.1 hr).1;have adS:∀ ed∈oi.after,abk .any ed=true->ed.on≠j:=λ ed he hb ph=>by
    obtain ⟨_,o,ho,zf⟩:=mem_ready.1 hi;rw [zd] at ho;cases ho;have h1:=n6 (zf ed he hb);rw [ph,Yy] at h1;cases h1
   have Yl:=pj i oi zd e UA adS;have hG:=h.2 i (ready_mono hi e) oi zd;have UB:j∉fJ i:=λ hm=>by
    have h1:=n6 (nW.ready hA hi j hm);rw [Yy] at h1;cases h1
   have hKi:Inv (λ s'=>Ry E f ops fJ (j::C) i s'/\jC E f ops fJ (j::C) K n ((listed.setIfInBounds j true).setIfInBounds i true) s'):=
    λ s t e h=>⟨vI XE s t e h.1,lj XE hK _ _ s t e h.2⟩
   have aev:∀ k ok,ops[k]?=some ok->k≠j->(listed.setIfInBounds i true).getD k true=false->(∀ e∈ok.after,abk .any e=true->e.on≠j)->oj.apart ops ok=true:=λ k ok hk hkj hku AO=>by
    refine pj k ok hk hkj ?_ AO;by_cases e':i=k
    .subst e'; exact UA
    .rw [getD_set_ne true e'] at hku; exact hku
   have core:∀ {pre:bT} {preB:ew} {G:List GO},Pre (dq oi.op) oi.dst pre->(wQ oi.op=true->preB=[]/\G=s.G) ->
     (Ry E f ops fJ (j::C) i ((s.put (some d) x).ji pre preB G)/\jC E f ops fJ (j::C) K n ((listed.setIfInBounds j true).setIfInBounds i true) ((s.put (some d) x).ji pre preB G)) ->
     Ry E f ops fJ C i (s.ji pre preB G)/\jC E f ops fJ C K (n+1) (listed.setIfInBounds i true) (s.ji pre preB G):=by
    intro pre preB G Ky hNi hk;obtain ⟨x',Al,mr⟩:=Rt hN Pq Kx Yl hKi hx Ky hNi hk (λ t' tU hd=>tU.1 j (List.mem_cons_self ..) oj oi hj zd hd UB);refine ⟨λ k hkC ok oi' h1 h2 h3 h4=>?_,?_⟩
    .obtain ⟨q1,q2⟩:=hCd k hkC ok h1;obtain ⟨b1,b2,b3,_⟩:=jT (s.ji pre preB G) (some d) x';exact Yt (hC k hkC ok h1) q1 q2 (λ e he=>CP _ _ _ he) (by rw [b1]) b2 b3 (mr.1 k (acu _ hkC) ok oi' h1 h2 h3 h4)
    .refine ih (listed.setIfInBounds i true) _ x' (nW.add hA hi) aev (ready_mono hr (Ne.symm e)) Al ?_;rw [aci _ _ e];exact mr.2
   rw [jS (λ s t e h=>⟨vI hC s t e h.1,lj hC hK _ _ s t e h.2⟩)];obtain ⟨XC,_,_⟩:=acq Yl;have CM:∀ e∈oi.looksAt ops,lk (s.put (some d) x).ae e=lk s.ae e:=λ e he=>CP s d x λ k=>XC d Pq (k ▸ he)
   obtain ⟨b1,b2,b3,b4,b5⟩:=jT s (some d) x;rcases (jS hKi).1 hG with ⟨h1,h2⟩|⟨h1,h2⟩
   .refine .inl ⟨by rw [<- oU CM]; exact h1,AT b3 b2 (by rw [b1]) (py CM) h2 λ pre preB G hp hNi hk=>core hp (λ hh=>?_) hk⟩;obtain ⟨q1,q2⟩:=hNi hh;exact ⟨q1,by rw [q2,b2]⟩
   .refine .inr ⟨by rw [<- oU CM]; exact h1,?_⟩;obtain ⟨pre,preB,G,p1,p2,p3,p4⟩:=cT.put (s:=s.put (some d) x) (t:=s) (al:=dq oi.op) (w:=false) b3 b2 oi.dst (.v jM);obtain ⟨q1,q2,_⟩:=p2 rfl;rw [p3] at h2;rw [p4];exact core p1 (λ _=>⟨q1,by rw [q2,b2]⟩) h2
def Pt {s:St}:Ry E f ops fJ [] i s:=λ j hj=>by cases hj
def aew (h:cK E s.ae y=.lp k off):∃ e,y=.tmp e/\lk s.ae e=.lp k off:=by
 cases y with
 |tmp e=>exact ⟨e,rfl,h⟩
 |const v=>simp only [cK] at h; split at h <;> cases h
 |global g=>simp only [cK] at h; split at h <;> cases h
 |func g=>cases h
def UC (hA:GS ops fJ) (hK:Inv K) (hj:ops[j]?=some oj) (hg:oj.guard=none) (Pq:oj.dst=some d) (Ru:dq oj.op=true) (aex:E.FP f d=false):∀ n (listed:Array Bool) (s s1:St),tc fJ listed ->
  (∀ i oi,ops[i]?=some oi->i≠j->listed.getD i true=false->j∉fJ i->oj.apart ops oi=true/\∀ e∈oi.looksAt ops,∀ off,lk s.ae e≠.lp d off) ->
  j∈aaL .any ops listed->aA E f s oj=some (true,s1)->jC E f ops fJ [] K n (listed.setIfInBounds j true) s1->jC E f ops fJ [] K (n+1) listed s:=by
 have XE:NC ops []:=λ k hk=>by cases hk
 have self:∀ n (listed:Array Bool) (s s1:St),aA E f s oj=some (true,s1)->jC E f ops fJ [] K n (listed.setIfInBounds j true) s1->∀ oi,ops[j]?=some oi ->
   dD E f ops.toList oi (λ s'=>Ry E f ops fJ [] j s'/\jC E f ops fJ [] K n (listed.setIfInBounds j true) s') s:=λ n listed s s1 hx h oi zd=>by
  rw [hj] at zd;cases zd;unfold dD;rw [hg];exact (Ps Ru).2 ⟨s1,hx,Pt,h⟩
 intro n
 induction n with
 |zero=>
  intro listed s s1 _ _ hr hx h;refine ⟨λ h0=>by rw [h0] at hr; simp at hr,λ i hi oi zd=>?_⟩;by_cases e:i=j
  .subst e; exact self 0 listed s s1 hx h oi zd
  .have:=ready_mono hi e;rw [h.1] at this;simp at this
 |succ n ih=>
  intro listed s s1 nW pj hr hx h;refine ⟨λ h0=>by rw [h0] at hr; simp at hr,λ i hi oi zd=>?_⟩;by_cases e:i=j
  .subst e; exact self (n+1) listed s s1 hx h oi zd
  .have UA:=(mem_ready.1 hi).1;have Yy:=(mem_ready.1 hr).1;have UB:j∉fJ i:=λ hm=>by
    have h1:=n6 (nW.ready hA hi j hm);rw [Yy] at h1;cases h1
   obtain ⟨Yl,AO⟩:=pj i oi zd e UA UB;obtain ⟨XC,de,FX⟩:=acq Yl;have M2:oi.dst≠some d:=de d Pq;obtain ⟨_,cs,rfl,Ph⟩:=Nz Ru Pq aex hx;have hG:=h.2 i (ready_mono hi e) oi zd;have hKi:Inv (λ s'=>Ry E f ops fJ [] i s'/\jC E f ops fJ [] K n ((listed.setIfInBounds j true).setIfInBounds i true) s'):=
    λ s t e h=>⟨vI XE s t e h.1,lj XE hK _ _ s t e h.2⟩
   have Rx:∀ y∈oi.op.operands,∀ off,cK E s.ae y≠.lp d off:=λ y hy off hv=>by
    obtain ⟨e',rfl,hv⟩:=aew hv;exact AO e' (s6 hy) off hv
   have core:∀ {pre:bT} {preB:ew} {G:List GO},li E s oi (s.ji pre preB G) ->
     (Ry E f ops fJ [] i ((xA s d cs).ji pre preB G)/\jC E f ops fJ [] K n ((listed.setIfInBounds j true).setIfInBounds i true) ((xA s d cs).ji pre preB G)) ->
     Ry E f ops fJ [] i (s.ji pre preB G)/\jC E f ops fJ [] K (n+1) (listed.setIfInBounds i true) (s.ji pre preB G):=by
    intro pre preB G Uz hk;refine ⟨Pt,?_⟩;obtain ⟨o1,o2⟩:=Pr Uz;have CM:∀ e' off,oi.dst≠some e'\/lk (s.ji pre preB G).ae e'=.lp d off->lk (s.ji pre preB G).ae e'=.lp d off->lk s.ae e'=.lp d off:=by
     intro e' off _ hv;have hv:lk (pre++s.ae) e'=.lp d off:=hv;rcases o1 with rfl|⟨d',x,O6,hp,Yz⟩
     .exact hv
     .have Al:∀ off,x≠.lp d off:=λ off c=>by
       rcases Yz d off c with ⟨y,hy,lL,ho⟩|⟨_,h⟩
       .exact Rx y hy lL ho
       .exact M2 (by rw [O6,h])
      by_cases c2:d'=e'
      .subst c2;rcases hp with rfl|rfl
       .simp only [aag,aaK,aS] at hv; exact absurd hv (Al off)
       .simp only [aag,aaK,aS] at hv; exact absurd hv (Al off)
      .rcases hp with rfl|rfl
       .simp only [aag,aaK] at hv; rwa [bq c2] at hv
       .simp only [aag,aaK] at hv;rw [bq c2,nB] at hv;cases hl:lk s.ae e' with
        |lp k lL=>
         rw [hl] at hv;simp only at hv;cases hb:aba k d' with
         |true=>rw [hb] at hv; cases hv
         |false=>rw [hb] at hv; exact hv
        |v a=>rw [hl] at hv; cases hv
        |none=>rw [hl] at hv; cases hv
    refine ih (listed.setIfInBounds i true) _ _ (nW.add hA hi) ?_ (ready_mono hr (Ne.symm e)) (Ph (s.ji pre preB G) rfl ?_) ?_
    .intro k ok mr hkj hku aoc;have aod:listed.getD k true=false:=by
      by_cases e':i=k
      .subst e'; exact UA
      .rw [getD_set_ne true e'] at hku; exact hku
     obtain ⟨q1,q2⟩:=pj k ok mr hkj aod aoc;exact ⟨q1,λ e' DV off hv=>q2 e' DV off (CM e' off (.inr hv) hv)⟩
    .intro y hy v hv;cases y with
     |tmp e'=>
      have O6:oi.dst≠some e':=λ c=>FX e' c (s6 hy)
      have hv:lk s.ae e'=.v v:=hv;show lk (pre++s.ae) e'=.v v;rcases o1 with rfl|⟨d',x,Un,hp,_⟩
      .exact hv
      .have c2:d'≠e':=λ c=>O6 (by rw [Un,c])
       rcases hp with rfl|rfl
       .simp only [aag,aaK]; rw [bq c2]; exact hv
       .simp only [aag,aaK];rw [bq c2,DU (λ off=>by rw [hv]; intro c; cases c)]; exact hv
     |const _=>exact hv
     |global _=>exact hv
     |func _=>exact hv
    .rw [aci _ _ e];exact lj XE hK _ _ _ _ (Rw cs Uz M2 Rx) hk.2
   have Il:∀ e'∈oi.looksAt ops,lk (xA s d cs).ae e'=lk s.ae e':=λ e' DV=>by
    have c1:d≠e':=λ c=>XC d Pq (c ▸ DV)
    show lk (.put d (.lp d 0) :: .kill d::s.ae) e'=_;rw [bq c1,DU (AO e' DV)]
   have Dr:∀ k off,(∃ y∈oi.op.operands,cK E (xA s d cs).ae y=.lp k off)->fm (xA s d cs).boxes k=fm s.boxes k:=by
    rintro k off ⟨y,hy,hv⟩;rw [py Il y hy] at hv;have Xx:d≠k:=λ c=>Rx y hy off (by rw [c]; exact hv)
    show fm ((d,cs)::s.boxes) k=fm s.boxes k;simp only [fm];cases hb:aba d k with
    |true=>exact absurd (aaR hb) Xx
    |false=>rfl
   rw [jS (λ s t e h=>⟨vI XE s t e h.1,lj XE hK _ _ s t e h.2⟩)];rcases (jS hKi).1 hG with ⟨h1,h2⟩|⟨h1,h2⟩
   .exact .inl ⟨by rw [<- oU Il]; exact h1,NA (s:=xA s d cs) (t:=s) rfl rfl Dr (py Il) h2 λ pre preB G hO hk=>core hO hk⟩
   .refine .inr ⟨by rw [<- oU Il]; exact h1,?_⟩;obtain ⟨pre,preB,G,p1,p2,p3,p4⟩:=cT.put (s:=xA s d cs) (t:=s) (al:=dq oi.op) (w:=false) rfl rfl oi.dst (.v jM);rw [p3] at h2;have hO:li E s oi (s.put oi.dst (.v jM)):=qG rfl rfl _;rw [p4] at hO ⊢;exact core hO h2
end
inductive DT where
 |done
 |take (j:Nat) (C:List Nat) (t:DT)
 |br (i:Nat) (re C:List Nat) (t:DT) (more:DT)
 |stop
 |al (j:Nat) (W:List Nat) (t:DT)
structure td where
 dst:Option Tmp
 lo:List Tmp
 pr:List Nat
 n:Bool
 r:Bool
 a:Bool
def Pu (d:Nat) (s:bT):List Nat->Bool
 |[]=>true
 |e::l=>(match lk s e with
  |.lp k _=>!aba k d
  |_=>true)&&Pu d s l
def aey (E:Env) (f:FuncId) (o:Oper) (W:List Nat) (s:St):Bool:=match o.guard,o.dst with
 |none,some d=>!E.FP f d&&Pu d s.ae W
 |_,_=>false
def n7 (x:Nat):List Nat->Bool
 |[]=>false
 |y::l=>aba x y || n7 x l
def vJ:List Edge->List Nat
 |[]=>[]
 |e::l=>bif abk .any e then e.on::vJ l else vJ l
def pz (ops:Array Oper) (o:Oper):td:=⟨o.dst,o.looksAt ops,vJ o.after.toList,wQ o.op,isR o.op,dq o.op⟩
def Im {α:Type} (n:Nat) (K:Nat->α):α:=match n with
 |0=>K 0
 |m+1=>K (Nat.succ m)
def GU {α:Type}:List Nat->(List Nat->α)->α
 |[],K=>K []
 |a::l,K=>Im a λ a=>GU l λ l=>K (a::l)
def aez {α:Type} (i:td) (K:td->α):α:=match i with
 |⟨d,lo,pr,n,r,a⟩=>GU lo λ lo=>GU pr λ pr=>(match d with
  |none=>(λ (K:Option Tmp->α)=>K none)
  |some d=>(λ (K:Option Tmp->α)=>Im d λ d=>K (some d))) λ d=>(bif n then (λ (K:Bool->α)=>K true) else λ K=>K false) λ n=>
   (bif r then (λ (K:Bool->α)=>K true) else λ K=>K false) λ r=>(bif a then (λ (K:Bool->α)=>K true) else λ K=>K false) λ a=>K ⟨d,lo,pr,n,r,a⟩
def Pv {α:Type}:List td->(List td->α)->α
 |[],K=>K []
 |i::l,K=>aez i λ i=>Pv l λ l=>K (i::l)
def AW (x y:td):Bool:=
 (match x.dst with
 |some d=>!n7 d y.lo&&(match y.dst with | some e=>!aba e d | none=>true)
 |none=>true) &&
 (match y.dst with
 |some d=>!n7 d x.lo
 |none=>true)
def KD (j:Nat) (x:td) (cf:List Nat):Nat->List td->Bool
 |_,[]=>true
 |i,y::l=>(aba i j || n7 j y.pr || n7 i cf || AW x y)&&KD j x cf (i+1) l
def KF (I:List td):Nat->List td->List (List Nat)->Bool
 |_,[],_=>true
 |j,x::l,c::cs=>(!x.n || KD j x c 0 I)&&KF I (j+1) l cs
 |_,_,_=>false
def DW (fJ:Nat->List Nat):Nat->List td->Bool
 |_,[]=>true
 |i,x::l=>(fJ i).all (λ a=>x.pr.any λ e=>aba e a || n7 a (fJ e))&&DW fJ (i+1) l
def te (L:Nat):Nat->List td->List Nat
 |_,[]=>[]
 |i,x::l=>bif !L.testBit i&&x.pr.all (λ e=>L.testBit e) then i::te L (i+1) l else te L (i+1) l
def vK (x y:td):Bool:=y.a || (x.r&&!y.n)
def vL (fJ:Nat->List Nat) (L k:Nat) (x:td):Nat->List td->Bool
 |_,[]=>true
 |i,y::l=>(L.testBit i || !vK x y || n7 k (fJ i))&&vL fJ L k x (i+1) l
def CQ (I:List td) (fJ:Nat->List Nat) (L:Nat) (C C':List Nat):Bool:=C.all λ k=>n7 k C' || match nth I k with
 |none=>false
 |some x=>vL fJ L k x 0 I
def acj (I:List td) (fJ:Nat->List Nat) (C re:List Nat) (i:Nat) (y:td):Bool:=C.all λ k=>n7 k re || match nth I k with
 |none=>false
 |some x=>!vK x y || n7 k (fJ i)
def Pw (fJ:Nat->List Nat) (L:Nat) (W:List Nat) (j:Nat) (x:td):Nat->List td->Bool
 |_,[]=>true
 |i,y::l=>(aba i j || L.testBit i || n7 j (fJ i) || (AW x y&&y.lo.all λ e=>n7 e W))&&Pw fJ L W j x (i+1) l
def Px (I:List td) (C:List Nat):Bool:=C.all λ k=>match nth I k with
 |some x=>x.n
 |none=>false
def qt (I:List td) (N:Nat) (fJ:Nat->List Nat) (cf:List (List Nat)):DT->Nat->List Nat->Nat->Option (List Nat)->Bool
 |.done,_,_,L,none=>aba L N
 |.take j C' t,n+1,C,L,none=>match nth I j,nth cf j with
  |some x,some c=>match x.dst with
   |none=>false
   |some d=>x.n&&!n7 d x.lo&&(C.all λ k=>match nth I k with
     |none=>false
     |some y=>!n7 d y.lo&&(match y.dst with | some e=>!aba e d | none=>true)) &&
    c.all (λ i=>L.testBit i)&&!L.testBit j&&x.pr.all (λ e=>L.testBit e)&&Px I C' &&
    Im (L ||| 2 ^ j) λ L'=>CQ I fJ L' (j::C) C'&&qt I N fJ cf t n C' L' none
  |_,_=>false
 |.br i re C' t more,n+1,C,L,left=>match nth I i with
  |none=>false
  |some y=>(match left with
   |none=>λ (K:List Nat->Bool)=>GU (te L 0 I) K
   |some l=>λ K=>K l) λ l=>
    acj I fJ C re i y&&Px I C'&&n7 i l&&(Im (L ||| 2 ^ i) λ L'=>CQ I fJ L' C C'&&qt I N fJ cf t n C' L' none) &&
     qt I N fJ cf more (n+1) C L (some (l.filter λ k=>!aba k i))
 |.stop,_,_,_,some l=>l.isEmpty
 |.al j W t,n+1,C,L,none=>match nth I j with
  |some x=>match x.dst with
   |none=>false
   |some _=>C.isEmpty&&x.a&&!L.testBit j&&x.pr.all (λ e=>L.testBit e)&&Pw fJ L W j x 0 I&&Im (L ||| 2 ^ j) λ L'=>qt I N fJ cf t n [] L' none
  |none=>false
 |_,_,_,_,_=>false
def GV (E:Env) (f:FuncId) (ops:List Oper):List Nat->St->Prop
 |[],_=>True
 |k::l,s=>(match nth ops k with
  |some ok=>Nu E f ops ok s
  |none=>True)/\GV E f ops l s
def Ao (E:Env) (f:FuncId) (ops:List Oper):DT->(St->Prop)->St->Prop
 |.done,K,s=>K s
 |.take j _ t,K,s=>match nth ops j with
  |some oj=>dD E f ops oj (Ao E f ops t K) s
  |none=>False
 |.br i re _ t more,K,s=>(match nth ops i with
  |some oi=>dD E f ops oi (λ s'=>GV E f ops re s'/\Ao E f ops t K s') s
  |none=>False)/\Ao E f ops more K s
 |.stop,_,_=>True
 |.al j W t,K,s=>match nth ops j with
  |some oj=>aey E f oj W s=true/\dD E f ops oj (Ao E f ops t K) s
  |none=>False
def UD (l:List (List Nat)) (i:Nat):List Nat:=match nth l i with
 |some a=>a
 |none=>[]
section
def iq {x:Nat}:∀ {l:List Nat},n7 x l=true↔x∈l
 |[]=>by simp [n7]
 |y::l=>by simp [n7,iq (l:=l)]
def tf (n:Nat) (K:Nat->α):Im n K=K n:=by cases n <;> rfl
def DX {α:Type}:∀ (l:List Nat) (K:List Nat->α),GU l K=K l
 |[],_=>rfl
 |a::l,K=>by simp only [GU,tf]; rw [DX]
def YA (i:td) (K:td->α):aez i K=K i:=by
 obtain ⟨d,lo,pr,n,r,a⟩:=i;cases d <;> cases n <;> cases r <;> cases a <;> simp [aez,DX,tf]
def KG {α:Type}:∀ (l:List td) (K:List td->α),Pv l K=K l
 |[],_=>rfl
 |a::l,K=>by simp only [Pv,YA]; rw [KG]
def pA (ops:Array Oper):List td:=ops.toList.map (pz ops)
def zg {x:td} (h:nth (pA ops) k=some x):∃ o,ops[k]?=some o/\x=pz ops o:=by
 rw [bk,pA,List.getElem?_map,aa5] at h;cases ho:ops[k]? with
 |none=>rw [ho] at h; cases h
 |some o=>rw [ho] at h; exact ⟨o,rfl,by simpa using h.symm⟩
def mF {e:Nat}:∀ {l:List Edge},e∈vJ l↔∃ ed∈l,abk .any ed=true/\ed.on=e
 |[]=>by simp [vJ]
 |x::l=>by
  unfold vJ;cases hb:abk .any x with
  |true=>
   simp only [cond_true,abC,mF (l:=l),exists_eq_or_imp,hb,true_and];constructor
   .rintro (h|h)
    .exact .inl h.symm
    .exact .inr h
   .rintro (h|h)
    .exact .inl h.symm
    .exact .inr h
  |false=>simp only [cond_false,abC,mF (l:=l),exists_eq_or_imp,hb,false_and,false_or,acf]
def GW {x y:Oper} (h:AW (pz ops x) (pz ops y)=true):x.apart ops y=true:=by
 have hm:∀ (d:Nat) (l:List Nat),n7 d l=false->l.contains d=false:=λ d l h=>by
  cases hc:l.contains d with
  |false=>rfl
  |true=>rw [iq.2 (by simpa using hc)] at h; cases h
 unfold AW at h;unfold Oper.apart;simp only [pz,aaJ] at h ⊢;refine ⟨?_,?_⟩
 .cases hx:x.dst with
  |none=>rfl
  |some d=>
   rw [hx] at h;simp only [aaJ,ab7] at h ⊢;refine ⟨hm _ _ h.1.1,?_⟩;have h2:=h.1.2;cases hy:y.dst with
   |none=>rfl
   |some e=>
    rw [hy] at h2;simp only [ab7] at h2;have:e≠d:=λ k=>by rw [k,yw] at h2; cases h2
    simpa using this
 .cases hy:y.dst with
  |none=>rfl
  |some d=>
   rw [hy] at h;simp only [ab7] at h ⊢;exact hm _ _ h.2
def KH (ops:Array Oper) (L:Nat) (listed:Array Bool):Prop:=listed.size=ops.size/\∀ i,i < ops.size->listed[i]?=some (L.testBit i)
def KH.add (h:KH ops L listed) (j:Nat):KH ops (L ||| 2 ^ j) (listed.setIfInBounds j true):=by
 refine ⟨by simp [h.1],λ i hi=>?_⟩;rw [Nat.testBit_or,Nat.testBit_two_pow];by_cases e:j=i
 .subst e;rw [Array.getElem?_setIfInBounds_self_of_lt (by rw [h.1]; exact hi)];simp
 .rw [Array.getElem?_setIfInBounds_ne e,h.2 i hi];simp [e]
def KH.KI (h:KH ops L listed) (hi:i < ops.size) (b:Bool):listed.getD i b=L.testBit i:=by
 rw [ab3,h.2 i hi]; rfl
def xB (h:KH ops L listed) {o:Oper} (ho:ops[j]?=some o) (h1:L.testBit j=false) (h2:((pz ops o).pr.all λ e=>L.testBit e)=true)
  (du:∀ e∈o.after,abk .any e=true->e.on < ops.size):j∈aaL .any ops listed:=by
 have hj:j < ops.size:=(aaS.1 ho).1;refine mem_ready.2 ⟨by rw [h.KI hj]; exact h1,o,ho,λ e he hb=>?_⟩;rw [h.KI (du e he hb)];exact aaN.1 h2 e.on (mF.2 ⟨e,by simpa using he,hb,rfl⟩)
def aeA (n:Nat) (I:List td):Bool:=I.all λ x=>x.pr.all λ e=>abN e n
def kB {o:Oper} (h:ops[k]?=some o):nth (pA ops) k=some (pz ops o):=by
 rw [bk,pA,List.getElem?_map,aa5,h]; rfl
def pC {o:Oper} (h:ops[k]?=some o):(pA ops)[k]?=some (pz ops o):=by
 rw [<- bk]; exact kB h
def vM (h:aeA ops.size (pA ops)=true) {o:Oper} (ho:ops[k]?=some o):∀ e∈o.after,abk .any e=true->e.on < ops.size:=λ e he hb=>by
 have h1:=aaN.1 h (pz ops o) (List.mem_of_getElem? (pC ho));have h2:=aaN.1 h1 e.on (mF.2 ⟨e,by simpa using he,hb,rfl⟩);exact Nat.le_of_ble_eq_true h2
def DY {j:Nat} {x:td} {c:List Nat}:∀ {l:List td} {i:Nat},KD j x c i l=true->∀ k y,l[k]?=some y->(aba (i+k) j || n7 j y.pr || n7 (i+k) c || AW x y)=true
 |[],_,_,k,y,hk=>by simp at hk
 |z::l,i,h,k,y,hk=>by
  unfold KD at h;rw [aaJ] at h;cases k with
  |zero=>simp at hk; subst hk; exact h.1
  |succ k=>
   have:=DY h.2 k y (by simpa using hk);rw [show i+1+k=i+(k+1) by omega] at this;exact this
def DZ {I:List td}:∀ {l:List td} {j:Nat} {cs:List (List Nat)},KF I j l cs=true->∀ k x c,l[k]?=some x->cs[k]?=some c->x.n=true->KD (j+k) x c 0 I=true
 |[],_,_,_,k,x,c,hk,_,_=>by simp at hk
 |z::l,j,[],_,k,x,c,_,hc,_=>by simp at hc
 |z::l,j,d::cs,h,k,x,c,hk,hc,hn=>by
  unfold KF at h;rw [aaJ] at h;cases k with
  |zero=>
   simp at hk hc;subst hk hc;have:=h.1;rw [hn] at this;simpa using this
  |succ k=>
   have:=DZ h.2 k x c (by simpa using hk) (by simpa using hc) hn;rw [show j+1+k=j+(k+1) by omega] at this;exact this
def BI:∀ {l:List td} {i:Nat},DW fJ i l=true->∀ k x,l[k]?=some x->∀ a∈fJ (i+k),∃ e∈x.pr,e=a\/a∈fJ e
 |[],_,_,k,x,hk=>by simp at hk
 |z::l,i,h,k,x,hk=>by
  unfold DW at h;rw [aaJ] at h;cases k with
  |zero=>
   simp at hk;subst hk;intro a ha;have h1:=aaN.1 h.1 a ha;obtain ⟨e,he,h2⟩:=List.any_eq_true.1 h1;rw [ab5] at h2;refine ⟨e,he,?_⟩;rcases h2 with h2|h2
   .exact .inl (aaR h2)
   .exact .inr (iq.1 h2)
  |succ k=>
   have:=BI h.2 k x (by simpa using hk);rw [show i+1+k=i+(k+1) by omega] at this;exact this
def ND (h:DW fJ 0 (pA ops)=true):GS ops fJ:=λ i oi a hi ha=>by
 have h1:=BI h i _ (pC hi) a (by rw [ab1]; exact ha);obtain ⟨e,he,h2⟩:=h1;obtain ⟨ed,q1,q2,rfl⟩:=mF.1 he;exact ⟨ed,by simpa using q1,q2,h2⟩
def uL {L:Nat}:∀ {l:List td} {i k:Nat},k∈te L i l↔∃ j x,k=i+j/\l[j]?=some x/\L.testBit k=false/\(x.pr.all λ e=>L.testBit e)=true
 |[],i,k=>by simp [te]
 |z::l,i,k=>by
  have ih:=uL (L:=L) (l:=l) (i:=i+1) (k:=k);have rest:(∃ j x,k=i+1+j/\l[j]?=some x/\L.testBit k=false/\(x.pr.all λ e=>L.testBit e)=true)↔∃ j x,k=i+(j+1)/\(z::l)[j+1]?=some x/\L.testBit k=false/\(x.pr.all λ e=>L.testBit e)=true:=by
   constructor
   .rintro ⟨j,x,h1,h2⟩; exact ⟨j,x,by omega,by simpa using h2⟩
   .rintro ⟨j,x,h1,h2⟩; exact ⟨j,x,by omega,by simpa using h2⟩
  unfold te;cases hc:(!L.testBit i&&z.pr.all λ e=>L.testBit e) with
  |true=>
   simp only [cond_true,abC,ih,rest];rw [aaJ,ab7] at hc;constructor
   .rintro (rfl|⟨j,x,h⟩)
    .exact ⟨0,z,rfl,rfl,hc⟩
    .exact ⟨j+1,x,h⟩
   .rintro ⟨j,x,h1,h2⟩;cases j with
    |zero=>exact .inl h1
    |succ j=>exact .inr ⟨j,x,h1,h2⟩
  |false=>
   simp only [cond_false,ih,rest];constructor
   .rintro ⟨j,x,h⟩; exact ⟨j+1,x,h⟩
   .rintro ⟨j,x,h1,h2,h3,h4⟩;cases j with
    |zero=>
     simp at h2 h1;subst h1 h2;rw [h3,h4] at hc;cases hc
    |succ j=>exact ⟨j,x,h1,h2,h3,h4⟩
def uM {L k:Nat} {x:td}:∀ {l:List td} {i:Nat},vL fJ L k x i l=true->∀ j y,l[j]?=some y->L.testBit (i+j)=false->vK x y=true->k∈fJ (i+j)
 |[],_,_,j,y,hj=>by simp at hj
 |z::l,i,h,j,y,hj=>by
  unfold vL at h;rw [aaJ] at h;cases j with
  |zero=>
   simp at hj;subst hj;intro h1 h2;have h3:=h.1;rw [Nat.add_zero] at h1;rw [h1,h2] at h3;exact iq.1 (by simpa using h3)
  |succ j=>
   have:=uM h.2 j y (by simpa using hj);rw [show i+1+j=i+(j+1) by omega] at this;exact this
def BJ (hM:KH ops L listed) (h:CQ (pA ops) fJ L C C'=true):∀ k∈C,k∈C'\/∀ i ok oi,ops[k]?=some ok->ops[i]?=some oi->listed.getD i true=false->nA ok oi=true->k∈fJ i:=λ k hk=>by
 have h1:=aaN.1 h k hk;rw [ab5] at h1;rcases h1 with h1|h1
 .exact .inl (iq.1 h1)
 .refine .inr λ i ok oi q1 q2 q3 q4=>?_
  rw [kB q1] at h1;have hi:i < ops.size:=(aaS.1 q2).1;have:=uM h1 i _ (pC q2) (by rw [ab1,<- hM.KI hi]; exact q3) q4;rw [ab1] at this;exact this
def GX (h:Px (pA ops) C=true):NC ops C:=λ k hk ok gl=>by
 have:=aaN.1 h k hk;rw [kB gl] at this;exact this
def D0 {L j:Nat} {x:td} {W:List Nat}:∀ {l:List td} {i:Nat},Pw fJ L W j x i l=true->∀ k y,l[k]?=some y->(aba (i+k) j || L.testBit (i+k) || n7 j (fJ (i+k)) || (AW x y&&y.lo.all λ e=>n7 e W))=true
 |[],_,_,k,y,hk=>by simp at hk
 |z::l,i,h,k,y,hk=>by
  unfold Pw at h;rw [aaJ] at h;cases k with
  |zero=>simp at hk; subst hk; exact h.1
  |succ k=>
   have:=D0 h.2 k y (by simpa using hk);rw [show i+1+k=i+(k+1) by omega] at this;exact this
def D1 {d:Nat} {s:bT}:∀ {l:List Nat},Pu d s l=true->∀ e∈l,∀ off,lk s e≠.lp d off
 |[],_,e,he,_=>by cases he
 |a::l,h,e,he,off=>by
  unfold Pu at h;rw [aaJ] at h;rcases abC.1 he with rfl|he
  .intro hv;have h1:=h.1;rw [hv] at h1;simp only [yw] at h1;cases h1
  .exact D1 h.2 e he off
def uN {cf:List (List Nat)} (hA:GS ops fJ) (hP:aeA ops.size (pA ops)=true) (hF:KF (pA ops) 0 (pA ops) cf=true) (hK:Inv K):∀ (T:DT) (n:Nat) (C:List Nat) (listed:Array Bool) (L:Nat),NC ops C->tc fJ listed->KH ops L listed ->
  (qt (pA ops) (2 ^ ops.size - 1) fJ cf T n C L none=true->∀ s,Ao E f ops.toList T K s->jC E f ops fJ C K n listed s) /\
  (∀ m l,n=m+1->qt (pA ops) (2 ^ ops.size - 1) fJ cf T n C L (some l)=true->∀ s,Ao E f ops.toList T K s->∀ i∈l,i∈aaL .any ops listed->∀ oi,ops[i]?=some oi ->
   dD E f ops.toList oi (λ s'=>Ry E f ops fJ C i s'/\jC E f ops fJ C K m (listed.setIfInBounds i true) s') s)
 |.done,n,C,listed,L,hC,nW,hM=>by
  refine ⟨λ h s hs=>?_,λ m l _ h=>by simp [qt] at h⟩;have hL:L=2 ^ ops.size - 1:=aaR (by simpa only [qt] using h);have hr:aaL .any ops listed=[]:=by
   apply List.eq_nil_iff_forall_not_mem.2;intro j hj;obtain ⟨h1,o,ho,_⟩:=mem_ready.1 hj;have du:j < ops.size:=(aaS.1 ho).1;rw [hM.KI du,hL,Nat.testBit_two_pow_sub_one] at h1;simp [du] at h1
  cases n with
  |zero=>exact ⟨hr,hs⟩
  |succ n=>exact ⟨λ _=>hs,λ i hi=>by rw [hr] at hi; simp at hi⟩
 |.stop,n,C,listed,L,hC,nW,hM=>by
  refine ⟨λ h=>by cases n <;> simp [qt] at h,λ m l e h s _ i hi=>?_⟩;subst e;have:l=[]:=by simpa [qt] using h
  rw [this] at hi;simp at hi
 |.al j W T,0,C,listed,L,hC,nW,hM=>⟨λ h=>by simp [qt] at h,λ m l e=>by cases e⟩
 |.al j W T,n+1,C,listed,L,hC,nW,hM=>by
  refine ⟨λ h s hs=>?_,λ m l _ h=>by simp [qt] at h⟩;unfold qt at h;split at h
  .rename_i x hx;obtain ⟨oj,hj,rfl⟩:=zg hx;split at h
   .cases h
   .rename_i d hd;simp only [tf,aaJ] at h;obtain ⟨⟨⟨⟨⟨hCe,Ru⟩,hbit⟩,hpr⟩,qU⟩,hT⟩:=h;have hCe:C=[]:=by simpa using hCe
    subst hCe;have Ru:dq oj.op=true:=Ru;have hd:oj.dst=some d:=hd;have D2:j∈aaL .any ops listed:=xB hM hj (by simpa using hbit) hpr (vM hP hj);obtain ⟨ih,_⟩:=uN hA hP hF hK T n [] (listed.setIfInBounds j true) (L ||| 2 ^ j) (λ k hk=>by cases hk) (nW.add hA D2) (hM.add j);unfold Ao at hs;rw [bk,aa5,hj] at hs;simp only at hs;obtain ⟨gl,hs⟩:=hs;unfold aey at gl;split at gl
    .rename_i _ d' hg O6;rw [hd] at O6;cases O6;rw [aaJ] at gl;have aex:E.FP f d=false:=by simpa using gl.1
     have AX:dD E f ops.toList oj (jC E f ops fJ [] K n (listed.setIfInBounds j true)) s:=dE hs λ s' h'=>ih hT s' h'
     unfold dD at AX;rw [hg] at AX;obtain ⟨s1,q1,q2⟩:=(Ps Ru).1 AX;refine UC hA hK hj hg hd Ru aex n listed s s1 nW (λ i oi hi de UA AO=>?_) D2 q1 q2;have rM:=D0 qU i _ (pC hi);rw [ab1] at rM;simp only [ab5] at rM;have aeB:i < ops.size:=(aaS.1 hi).1;rcases rM with ((h1|h1)|h1)|h1
     .exact absurd (aaR h1) de
     .rw [hM.KI aeB,h1] at UA; cases UA
     .exact absurd (iq.1 h1) AO
     .rw [aaJ] at h1;exact ⟨GW h1.1,λ e he off=>D1 gl.2 e (iq.1 (aaN.1 h1.2 e he)) off⟩
    .cases gl
  .cases h
 |.take j C' T,0,C,listed,L,hC,nW,hM=>⟨λ h=>by simp [qt] at h,λ m l e=>by cases e⟩
 |.take j C' T,n+1,C,listed,L,hC,nW,hM=>by
  refine ⟨λ h s hs=>?_,λ m l _ h=>by simp [qt] at h⟩;unfold qt at h;split at h
  .rename_i x c hx hc;obtain ⟨oj,hj,rfl⟩:=zg hx;split at h
   .cases h
   .rename_i d hd;simp only [tf,aaJ] at h;obtain ⟨⟨⟨⟨⟨⟨⟨hN,Kx⟩,hCd⟩,hcf⟩,hbit⟩,hpr⟩,zf⟩,aeC,hT⟩:=h;have hN:wQ oj.op=true:=hN;have hd:oj.dst=some d:=hd;have D2:j∈aaL .any ops listed:=xB hM hj (by simpa using hbit) hpr (vM hP hj);have XA:∀ {d:Nat} {l:List Nat},(!n7 d l)=true->d∉l:=λ h hm=>by rw [iq.2 hm] at h; cases h
    have aeD:d∉oj.looksAt ops:=XA Kx;have aof:∀ k∈C,∀ ok,ops[k]?=some ok->d∉ok.looksAt ops/\ok.dst≠some d:=λ k hk ok gl=>by
     have:=aaN.1 hCd k hk;rw [kB gl] at this;simp only [aaJ] at this;refine ⟨XA this.1,λ e=>?_⟩;have h2:=this.2;simp only [pz,e,yw] at h2;cases h2
    have XE:NC ops (j::C):=λ k hk ok ho=>by
     rcases abC.1 hk with rfl|hk
     .rw [hj] at ho; cases ho; exact hN
     .exact hC k hk ok ho
    have aog:=nW.add hA D2;obtain ⟨ih,_⟩:=uN hA hP hF hK T n C' (listed.setIfInBounds j true) (L ||| 2 ^ j) (GX zf) aog (hM.add j);unfold Ao at hs;rw [bk,aa5,hj] at hs;simp only at hs;have AX:dD E f ops.toList oj (jC E f ops fJ (j::C) K n (listed.setIfInBounds j true)) s:=dE hs λ s' h'=>s7 n _ _ (BJ (hM.add j) aeC) (ih hT s' h')
    obtain ⟨x,Al,hk⟩:=DQ hN (lj XE hK _ _) AX;rw [hd] at hk;refine NB hA hC hK hj hN hd aeD aof n listed s x nW (λ i oi hi de UA AO=>?_) D2 Al hk;have qU:=DZ hF j _ c (pC hj) (by rw [<- bk]; exact hc) hN;have rM:=DY qU i _ (pC hi);rw [ab1,ab1] at rM;simp only [ab5] at rM;have aeB:i < ops.size:=(aaS.1 hi).1;rcases rM with ((h1|h1)|h1)|h1
    .exact absurd (aaR h1) de
    .obtain ⟨e,q1,q2,q3⟩:=mF.1 (iq.1 h1);exact absurd q3 (AO e (by simpa using q1) q2)
    .have:=aaN.1 hcf i (iq.1 h1);rw [hM.KI aeB,this] at UA;cases UA
    .exact GW h1
  .cases h
 |.br i re C' T more,0,C,listed,L,hC,nW,hM=>⟨λ h=>by simp [qt] at h,λ m l e=>by cases e⟩
 |.br i re C' T more,n+1,C,listed,L,hC,nW,hM=>by
  have main:∀ left l,(match left with | none=>te L 0 (pA ops) | some l=>l)=l->qt (pA ops) (2 ^ ops.size - 1) fJ cf (.br i re C' T more) (n+1) C L left=true->∀ s,Ao E f ops.toList (.br i re C' T more) K s->i∈l/\∀ k∈l,k∈aaL .any ops listed->∀ ok,ops[k]?=some ok ->
    dD E f ops.toList ok (λ s'=>Ry E f ops fJ C k s'/\jC E f ops fJ C K n (listed.setIfInBounds k true) s') s:=by
   intro left l hl h s hs;unfold qt at h;split at h
   .cases h
   .rename_i y hy;obtain ⟨oi,zd,rfl⟩:=zg hy;have h:(acj (pA ops) fJ C re i (pz ops oi)&&Px (pA ops) C'&&n7 i l&&(CQ (pA ops) fJ (L ||| 2 ^ i) C C'&&qt (pA ops) (2 ^ ops.size - 1) fJ cf T n C' (L ||| 2 ^ i) none) &&
     qt (pA ops) (2 ^ ops.size - 1) fJ cf more (n+1) C L (some (l.filter λ k=>!aba k i)))=true:=by
     cases left with
     |none=>simp only at hl; subst hl; simp only [DX,tf] at h; exact h
     |some l'=>simp only at hl; subst hl; simp only [tf] at h; exact h
    simp only [aaJ] at h;obtain ⟨⟨⟨⟨hre,zf⟩,iH⟩,aeC,hT⟩,hmore⟩:=h;unfold Ao at hs;refine ⟨iq.1 iH,λ k hk hkr ok gl=>?_⟩;by_cases e:k=i
    .subst e;rw [zd] at gl;cases gl;obtain ⟨ih,_⟩:=uN hA hP hF hK T n C' (listed.setIfInBounds k true) (L ||| 2 ^ k) (GX zf) (nW.add hA hkr) (hM.add k);have h1:=hs.1;rw [bk,aa5,zd] at h1;refine dE h1 λ s' h'=>⟨λ c hc oc oi' q1 q2 q3 q4=>?_,s7 n _ _ (BJ (hM.add k) aeC) (ih hT s' h'.2)⟩
     rw [zd] at q2;cases q2;have Mm:=aaN.1 hre c hc;rw [kB q1] at Mm;have q3':vK (pz ops oc) (pz ops oi)=true:=q3;simp only [q3',Bool.not_true,Bool.false_or,ab5] at Mm;rcases Mm with Mm|Mm
     .have hm:c∈re:=iq.1 Mm;have:∀ (re:List Nat),c∈re->GV E f ops.toList re s'->Nu E f ops.toList oc s':=by
       intro re
       induction re with
       |nil=>intro hm; simp at hm
       |cons a re ihr=>
        intro hm ha;rcases abC.1 hm with rfl|hm
        .have:=ha.1;rw [bk,aa5,q1] at this;exact this
        .exact ihr hm ha.2
      exact this re hm h'.1
     .exact absurd (iq.1 Mm) q4
    .obtain ⟨_,ih⟩:=uN hA hP hF hK more (n+1) C listed L hC nW hM;refine ih n _ rfl hmore s hs.2 k ?_ hkr ok gl;rw [List.mem_filter];exact ⟨hk,by rw [sS e]; rfl⟩
  refine ⟨λ h s hs=>?_,λ m l e h s hs k hk hkr ok gl=>?_⟩
  .obtain ⟨m1,m2⟩:=main none _ rfl h s hs;have back:∀ k,k∈te L 0 (pA ops)->k∈aaL .any ops listed:=λ k hk=>by
    obtain ⟨j,x,q1,q2,q3,q4⟩:=uL.1 hk;rw [ab1] at q1;subst q1;rw [<- bk] at q2;obtain ⟨o,ho,rfl⟩:=zg q2;exact xB hM ho q3 q4 (vM hP ho)
   have ajW:∀ k,k∈aaL .any ops listed->k∈te L 0 (pA ops):=λ k hk=>by
    obtain ⟨h1,o,ho,zf⟩:=mem_ready.1 hk;have du:k < ops.size:=(aaS.1 ho).1;refine uL.2 ⟨k,pz ops o,by omega,pC ho,by rw [<- hM.KI du]; exact h1,aaN.2 λ e he=>?_⟩;obtain ⟨ed,q1,q2,rfl⟩:=mF.1 he;have h2:=zf ed (by simpa using q1) q2;rw [hM.KI (vM hP ho ed (by simpa using q1) q2)] at h2;exact h2
   refine ⟨λ h0=>?_,λ k hk ok gl=>m2 k (ajW k hk) hk ok gl⟩;have:=back i m1;rw [h0] at this;simp at this
  .cases e;exact (main (some l) l rfl h s hs).2 k hk hkr ok gl
def D3 {R:ak} {w:World} {β:Nat->Nat} {F:Fence} {Qc:Exit->Act->World->Prop} {C:List Nat} (hQ:∀ a' w',uH E R w β s K a' w'->Qc .normal a' w') :
  ∀ (n:Nat) (listed:Array Bool) (R1:ak) (w1:World) (β1:Nat->Nat) (s1:St) (a1:Act),bG E R1 w1 β1 s1 a1->Step R w β s.boxes R1 w1 β1 s1.boxes->s1.ro=s.ro->cQ R1 s1.ro F ->
   jC E f ops fJ C K n listed s1->wpAnyIn F 0 E.P .any ops Qc n listed a1 w1
 |0,listed,R1,w1,β1,s1,a1,hr,mh,ck,_,ha=>⟨ha.1,hQ _ _ ⟨s1,R1,β1,ha.2,hr,mh,ck⟩⟩
 |n+1,listed,R1,w1,β1,s1,a1,hr,mh,ck,hf,ha=>by
  refine ⟨λ h0=>hQ _ _ ⟨s1,R1,β1,ha.1 h0,hr,mh,ck⟩,λ i hi=>?_⟩;obtain ⟨_,o,ho,_⟩:=mem_ready.1 hi;unfold wpOpIn;simp only [ho];refine yX hr hf (ha.2 i hi o ho) _ ?_;rintro a' w' ⟨s',R',β',q1,q2,q3,q4⟩;exact D3 hQ n _ R' w' β' s' a' q2 (mh.trans q3) (q4.trans ck) (by rw [q4]; exact hf.mono q3.ext) q1.2
def jq {K':St->Prop} (hK:∀ s,K s->K' s):∀ (T:DT) (s:St),Ao E f ops.toList T K s->Ao E f ops.toList T K' s
 |.done,s,h=>hK s h
 |.stop,_,_=>trivial
 |.take j C T,s,h=>by
  unfold Ao at h ⊢;split
  .rename_i oj hj;rw [hj] at h;exact dE h λ s' h'=>jq hK T s' h'
  .rename_i hj;rw [hj] at h;exact h
 |.al j W T,s,h=>by
  unfold Ao at h ⊢;split
  .rename_i oj hj;rw [hj] at h;exact ⟨h.1,dE h.2 λ s' h'=>jq hK T s' h'⟩
  .rename_i hj;rw [hj] at h;exact h
 |.br i re C T more,s,h=>by
  unfold Ao at h ⊢;refine ⟨?_,jq hK more s h.2⟩;have h:=h.1;split
  .rename_i oj hj;rw [hj] at h;exact dE h λ s' h'=>⟨h'.1,jq hK T s' h'.2⟩
  .rename_i hj;rw [hj] at h;exact h
structure aw where
 fJ:List (List Nat)
 cf:List (List Nat)
 T:DT
def NE (ops:Array Oper) (p:aw):Bool:=Pv (ops.toList.map (pz ops)) λ I=>
 Im ops.size λ n=>Im (2 ^ n - 1) λ N=>DW (UD p.fJ) 0 I&&aeA n I&&KF I 0 I p.cf&&qt I N (UD p.fJ) p.cf p.T n [] 0 none
def bG.drawn {R:ak} {w:World} {β:Nat->Nat} {a:Act} (h:bG E R w β s a):bG E R { w with drawn:=w.drawn+1 } β s a/\Step R w β s.boxes R { w with drawn:=w.drawn+1 } β s.boxes:=by
 have e:Ext R w R { w with drawn:=w.drawn+1 }:=⟨λ _ _ h=>h,λ _ _ _=>rfl,λ _ ro h=>⟨ro,h,dy.refl ro⟩,jN.refl w⟩;refine ⟨⟨⟨h.g.len,λ id go ro h1 h2=>(h.g.obj id go ro h1 h2).mono e (λ _ _=>rfl) (λ _ _ _ h=>h),h.g.inj,h.g.wf,λ g cs hg=>(h.g.fU g cs hg).mono e,Nat.le_succ_of_le h.g.lo⟩,?_,h.t.mono e,h.n,h.d⟩,?_⟩
 .exact h.b.keep e (λ _ _ _=>rfl) (λ _ _ _ _ h=>h) (λ _ _ _ h=>h)
 .exact ⟨e,rfl,rfl,rfl,Nat.le_refl _,λ _ _ _=>rfl,λ _ _ h=>h,λ _ _ h _ _=>h⟩
def iT.draw {p:aw} (gl:NE ops p=true) (h:Ao E f ops.toList p.T (Q .normal) s):iT E (.region id ops true) Q s:=λ R w β a F hr hf=>by
 simp only [NE,KG,tf,aaJ] at gl;obtain ⟨⟨⟨hA,hP⟩,hF⟩,hT⟩:=gl;refine wpIn_region_any E.mixed ?_;obtain ⟨q1,q2⟩:=hr.drawn;have hK:Inv (λ s=>∃ u,vG u s/\Q .normal u):=λ s t e ⟨u,h1,h2⟩=>⟨u,h1.trans e,h2⟩
 have h':=jq (K':=λ s=>∃ u,vG u s/\Q .normal u) (λ s h=>⟨s,vG.refl s,h⟩) p.T s h;have nW:tc (UD p.fJ) (Array.replicate ops.size false):=λ i hi=>by
  rw [ab3,Array.getElem?_replicate] at hi;split at hi <;> cases hi
 have aeE:=(uN (E:=E) (f:=f) (ND hA) hP hF hK p.T ops.size [] (Array.replicate ops.size false) 0 (λ k hk=>by simp at hk) nW ⟨by simp,λ i hi=>by simp [hi]⟩).1 hT s h';refine D3 (R:=R) (w:=w) (β:=β) (s:=s) (f:=f) (K:=λ s=>∃ u,vG u s/\Q .normal u) ?_ _ _ R _ β s a q1 q2 rfl hf aeE;rintro a' w' ⟨s',R',β',⟨u,e,hu⟩,h2,h3,h4⟩;exact ⟨u,R',β',hu,h2.eqv e.symm,h3.eqv rfl e.symm.b,e.ro.trans h4⟩
end
end Go.Am
