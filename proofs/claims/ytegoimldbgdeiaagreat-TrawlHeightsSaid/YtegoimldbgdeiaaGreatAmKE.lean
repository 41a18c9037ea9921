/- The abstract machine: what is asked of bodies; values are brought to a short form. -/
import Derived.Test.YtegoimldbgdeiaaGreatAmKD
import Derived.RangeFuncIn
import Derived.RangeFuncRecord
import Derived.RangeFuncNested
set_option linter.all false
open Bool renaming and_eq_true->aad, and_true->aaL
open Go.Deferred renaming ofValue->acM
open Go.Fence renaming wide->aa5
open Go.LoopState renaming busy->adf
open List renaming length_append->aaR, tail_cons->aaS, drop_left->aba, cons_append->abk, getElem?_eq_getElem->abC, map_cons->abN, mem_cons->ab1, mem_cons_of_mem->ab3, append_inj->acd, take_left->acg, nodup_nil->aci, drop_one->acq
open Nat renaming eq_of_beq_eq_true->aag, beq->aaJ, lt_of_lt_of_le->aaK, blt->aaN, not_lt_zero->ab5, ble->ab6, lt_or_ge->ab9
open Option renaming bind_some->ab7, isSome_iff_exists->aca
open Option.some renaming inj->acf
namespace Go.Am
open Go
variable {E:Env}{s s':St}{R R2 R' R1 R0:ak}{w w' w0:World}{n elem id esz cS sz i:Nat}{β β':Nat->Nat}{a a':Act}{dst:Option Tmp}{ps:Array Tmp}{α X:Type}{used:List Nat}{t e:TypeId}{G G1 G':List GO}{Q Q':Exit->St->Prop}{assign body as0 bd0:Code}{l es first cap ys:List AV}{bu0 dn0 busy done:Bool}{m k x:SV}{v:AV}{p0:Option Code}{fn0:FuncId}{sl0 ae:bT}{bx QZ:ew}{ps0:List Tmp}{ro0 ro:RO}{go go' o o':GO}{pe:aF}{c:Value}{ts tys:List TypeId}{ops:List Oper}{K:AV->List GO->Option X}
def cI (dt:Nat->Option aw):Code->Bool
 |.region id ops true=>match dt id with
  |some p=>NE ops p
  |none=>false
 |.seq x y=>cI dt x&&cI dt y
 |.cond _ x y=>cI dt x&&cI dt y
 |.block _ c=>cI dt c
 |.loop c=>cI dt c
 |.scope c=>cI dt c
 |.rangeFunc _ _ a b=>cI dt a&&cI dt b
 |_=>true
structure aeF extends Env where
 dt:FuncId->Nat->Option aw
 okF:FuncId->Bool
 ack:∀ f fn c,okF f=true->P.funcs[f]?=some fn->fn.body=some c->cI (dt f) c=true
def nC {α:Type} (n:Nat) (K:Nat->α):α:=match n with
 |0=>K 0
 |m+1=>K (Nat.succ m)
def D4 {α:Type} (n:Int) (K:Int->α):α:=match n with
 |.ofNat m=>nC m λ m=>K (.ofNat m)
 |.negSucc m=>nC m λ m=>K (.negSucc m)
def uO {α β:Type}:List β->(List β->α)->α
 |[],K=>K []
 |a::l,K=>uO l λ l=>K (a::l)
def Io {α:Type} (v:AV) (K:AV->α):α:=match v with
 |.int k n=>D4 n λ n=>K (.int k n)
 |.bool true=>K (.bool true)
 |.bool false=>K (.bool false)
 |.list k sz es=>uO es λ es=>K (.list k sz es)
 |.str l=>uO l λ l=>K (.str l)
 |.tP id off sz len cap=>nC off λ off=>nC len λ len=>nC cap λ cap=>K (.tP id off sz len cap)
 |.ptr id off=>nC off λ off=>K (.ptr id off)
 |.agg cs=>uO cs λ cs=>K (.agg cs)
 |v=>K v
def Ip {α:Type} (l:bT) (K:bT->α):α:=match l with
 |.put d (.v a)::l=>Io a λ a=>K (.put d (.v a)::l)
 |.put d (.lp k off)::l=>nC off λ off=>K (.put d (.lp k off)::l)
 |l=>K l
def Iq {α:Type} (l:ew) (K:ew->α):α:=match l with
 |(d,cs)::l=>uO cs λ cs=>K ((d,cs)::l)
 |[]=>K []
def NF {α:Type} (s:St) (K:St->α):α:=match s with
 |⟨sl,bx,G,m,ro,n⟩=>Ip sl λ sl=>Iq bx λ bx=>uO G λ G=>K ⟨sl,bx,G,m,ro,n⟩
def uP (n:Nat) (K:Nat->α):nC n K=K n:=by cases n <;> rfl
def KJ (n:Int) (K:Int->α):D4 n K=K n:=by cases n <;> simp [D4,uP]
def vN {α β:Type}:∀ (l:List β) (K:List β->α),uO l K=K l
 |[],_=>rfl
 |a::l,K=>by simp only [uO]; rw [vN]
def NG (v:AV) (K:AV->α):Io v K=K v:=by
 unfold Io;split <;> simp [uP,KJ,vN]
def NH (l:bT) (K:bT->α):Ip l K=K l:=by
 unfold Ip;split <;> simp [uP,NG]
def NI (l:ew) (K:ew->α):Iq l K=K l:=by
 unfold Iq;split <;> simp [vN]
def Rz (s:St) (K:St->α):NF s K=K s:=by
 obtain ⟨sl,bx,G,m,ro,n⟩:=s;simp [NF,NH,NI,vN]
def Ir:SV->SV->Bool
 |.v a,.v b=>eC a b
 |.lp k o,.lp k' o'=>aaJ k k'&&aaJ o o'
 |_,_=>false
def bRe (E:Env) (f:FuncId) (ops:List Oper) (o:Oper) (s:St):Bool:=match JE ops s o with
 |some true=>match o.dst,aA E f s o with
  |some d,some (c,s')=>c&&Ir (lk s'.ae d) (lk s.ae d)
  |_,_=>false
 |some false=>true
 |none=>false
section
variable {f:FuncId}
def GY {a b:SV} (h:Ir a b=true):a=b:=by
 unfold Ir at h;split at h
 .rw [lQ h]
 .simp only [aad,Nat.beq_eq] at h; rw [h.1,h.2]
 .cases h
def GZ {o:Oper} (h:bRe E f ops o s=true):Nu E f ops o s:=by
 unfold bRe at h;unfold Nu;split at h
 .rename_i hg;rw [hg];simp only;split at h
  .rename_i d c s' hd hs;rw [aad] at h;obtain ⟨rfl,h⟩:=h;rw [hd,hs];exact ⟨rfl,GY h⟩
  .cases h
 .rename_i hg;rw [hg];trivial
 .cases h
end
mutual
def AV.under (n:Nat):AV->Bool
 |.agg cs=>aY n cs
 |.cD cs=>aY n cs
 |.ep cs=>aY n cs
 |.list (.own id) _ _=>aaN id n
 |.list (.bC id _) _ _=>aaN id n
 |.fn _ x y=>aY n x&&aY n y
 |.iface _ v=>v.under n
 |.ptr id _=>aaN id n
 |.tP id _ _ _ _=>aaN id n
 |.eK id _ _ _ _=>aaN id n
 |.gp id _ _ _ _ _=>aaN id n
 |.gW id _ _ _=>aaN id n
 |.rp id _ _ _ _ _ _=>aaN id n
 |.map id=>aaN id n
 |.yield id=>aaN id n
 |_=>true
def aY (n:Nat):List AV->Bool
 |[]=>true
 |a::l=>a.under n&&aY n l
end
mutual
theorem jZ (n:Nat):∀ {a:AV},a.closed=true->a.under n=true:=λ {a} h=>by
 cases a with
 |agg cs=>simp only [AV.closed,AV.under] at *; exact dO n h
 |cD cs=>simp only [AV.closed,AV.under] at *; exact dO n h
 |ep cs=>simp only [AV.closed,AV.under] at *; exact dO n h
 |list k sz es=>cases k <;> simp_all [AV.closed,AV.under,LK.closed]
 |fn f x y=>
  simp only [AV.closed,AV.under,aad] at *;exact ⟨dO n h.1,dO n h.2⟩
 |iface t v=>simp only [AV.closed,AV.under] at *; exact jZ n h
 |_=>simp_all [AV.closed,AV.under]
theorem dO (n:Nat):∀ {l:List AV},aZ l=true->aY n l=true
 |[],_=>rfl
 |a::l,h=>by
  simp only [aZ,aY,aad] at *;exact ⟨jZ n h.1,dO n h.2⟩
end
section move
structure Mv (R R2:ak) (n:Nat):Prop where
 I:∀ b o,R.I b o->R2.I b o
 obj:∀ id ro,id < n->nth R.obj id=some ro->nth R2.obj id=some ro
def kS {a b:Nat} (h:aaN a b=true):a < b:=Nat.le_of_ble_eq_true h
def lV {a b:Nat} (h:a < b):aaN a b=true:=Nat.ble_eq_true_of_le h
def HR.move (m:Mv R R2 n) {k:LK} {b o len cap:Nat} (h:HR R k b o len cap) (hk:∀ id,(k=.own id\/∃ j,k=.bC id j)->id < n):HR R2 k b o len cap:=by
 cases k with
 |nil=>exact h
 |full=>exact h
 |bV=>trivial
 |own id=>obtain ⟨ro,h1,h2⟩:=h; exact ⟨ro,m.obj id ro (hk id (.inl rfl)) h1,h2⟩
 |bC id j=>obtain ⟨ro,h1,h2⟩:=h; exact ⟨ro,m.obj id ro (hk id (.inr ⟨j,rfl⟩)) h1,h2⟩
mutual
theorem Rel.move (m:Mv R R2 n):∀ {a:AV} {c:Value},a.under n=true->Rel R w a c->Rel R2 w a c
 |_,_,_,.bool b=>.bool b
 |_,_,_,.int k i=>.int k i
 |_,_,_,.str l=>.str l
 |_,_,hb,.agg h h1=>.agg (h.move m (by simpa [AV.under] using hb)) h1
 |_,_,hb,.cD h=>.cD (h.move m (by simpa [AV.under] using hb))
 |_,_,_,.qn=>.qn
 |_,_,hb,.ptr h=>.ptr (m.obj _ _ (kS (by simpa [AV.under] using hb)) h)
 |_,_,hb,.ep h=>.ep (h.move m (by simpa [AV.under] using hb))
 |_,_,_,.nq=>.nq
 |_,_,_,.kP=>.kP
 |_,_,_,.pd=>.pd
 |_,_,hb,.qq h ho=>.qq (m.obj _ _ (kS (by simpa [AV.under] using hb)) h) ho
 |_,_,hb,.qQ h ho=>.qQ (m.obj _ _ (kS (by simpa [AV.under] using hb)) h) ho
 |.list k sz es,_,hb,.list h hl hc hk=>.list (h.move m) hl hc (hk.move m λ id e=>by rcases e with e | ⟨j,e⟩ <;> subst e <;> exact kS (by simpa [AV.under] using hb))
 |_,_,hb,.tP h hc=>.tP (m.obj _ _ (kS (by simpa [AV.under] using hb)) h) hc
 |_,_,hb,.pf h ho=>.pf (m.obj _ _ (kS (by simpa [AV.under] using hb)) h) ho
 |_,_,hb,.eK h ho hc=>.eK (m.obj _ _ (kS (by simpa [AV.under] using hb)) h) ho hc
 |_,_,hb,.gp h ho=>.gp (m.obj _ _ (kS (by simpa [AV.under] using hb)) h) ho
 |_,_,hb,.AF h ho=>.AF (m.obj _ _ (kS (by simpa [AV.under] using hb)) h) ho
 |_,_,hb,.gW h ho hc=>.gW (m.obj _ _ (kS (by simpa [AV.under] using hb)) h) ho hc
 |_,_,hb,.rp h ho=>.rp (m.obj _ _ (kS (by simpa [AV.under] using hb)) h) ho
 |_,_,_,.fk=>.fk
 |_,_,hb,.map h=>.map (m.obj _ _ (kS (by simpa [AV.under] using hb)) h)
 |_,_,_,.gf=>.gf
 |_,_,hb,.fn h h'=>.fn (h.move m (by simp only [AV.under,aad] at hb; exact hb.1)) (h'.move m (by simp only [AV.under,aad] at hb; exact hb.2))
 |_,_,hb,.yield h=>.yield (m.obj _ _ (kS (by simpa [AV.under] using hb)) h)
 |_,_,_,.wz=>.wz
 |_,_,hb,.iface h=>.iface (h.move m (by simpa [AV.under] using hb))
theorem bj.move (m:Mv R R2 n):∀ {l:List AV} {cs:List Value},bj R w l cs->aY n l=true->bj R2 w l cs
 |_,_,.nil,_=>.nil
 |_,_,.cons h t,hb=>by
  simp only [aY,aad] at hb;exact .cons (h.move m hb.1) (t.move m hb.2)
theorem lK.move (m:Mv R R2 n):∀ {b o sz:Nat} {l:List AV},lK R w b o sz l->lK R2 w b o sz l
 |_,_,_,_,.nil=>.nil
 |_,_,_,_,@lK.cons _ _ _ _ _ e _ hl ht hk h t=>.cons hl ht hk (h.move m (by
   cases e with
   |agg cs=>exact dO n (show aZ cs=true by simpa [AV.closed] using hk)
   |cD cs=>simp [AV.bN] at ht
   |_=>simp only [AV.cells,aY,aaL]; exact jZ n hk)) (t.move m)
theorem jG.move (m:Mv R R2 n):∀ {b o:Nat} {l:List AV},jG R w b o l->aY n l=true->jG R2 w b o l
 |_,_,_,.nil,_=>.nil
 |_,_,_,.cons hc h1 hi h t,hb=>by
  simp only [aY,aad] at hb;exact .cons hc h1 (m.I _ _ hi) (h.move m hb.1) (t.move m hb.2)
end
def qR.move {E:Env} (m:Mv R R2 n) {g:Nat} {cs:List AV} (h:qR E R w g cs) (hu:aY n cs=true):qR E R2 w g cs:=
 ⟨h.1.move m hu,λ hx=>⟨m.I _ _ (h.2 hx).1,(h.2 hx).2⟩⟩
mutual
theorem Rel.under (hn:R.obj.length<=n):∀ {a:AV} {c:Value},Rel R w a c->a.under n=true
 |_,_,.bool _ | _,_,.int _ _ | _,_,.str _ | _,_,.qn | _,_,.nq | _,_,.kP | _,_,.pd | _,_,.fk | _,_,.gf | _,_,.wz=>by simp [AV.under]
 |_,_,.agg h _=>by simp only [AV.under]; exact h.under hn
 |_,_,.cD h=>by simp only [AV.under]; exact h.under hn
 |_,_,.ptr h=>by simp only [AV.under]; exact lV (aaK (bX h) hn)
 |_,_,.ep h=>by simp only [AV.under]; exact h.under hn
 |_,_,.qq h _=>by simp only [AV.under]; exact lV (aaK (bX h) hn)
 |_,_,.qQ h _=>by simp only [AV.under]; exact lV (aaK (bX h) hn)
 |_,_,@Rel.list _ _ k _ _ _ _ _ _ _ _ _ hk=>by
  cases k with
  |own id=>obtain ⟨ro,h1,_⟩:=hk; simp only [AV.under]; exact lV (aaK (bX h1) hn)
  |bC id j=>obtain ⟨ro,h1,_⟩:=hk; simp only [AV.under]; exact lV (aaK (bX h1) hn)
  |_=>simp [AV.under]
 |_,_,.tP h _=>by simp only [AV.under]; exact lV (aaK (bX h) hn)
 |_,_,.pf h _=>by simp only [AV.under]; exact lV (aaK (bX h) hn)
 |_,_,.eK h _ _=>by simp only [AV.under]; exact lV (aaK (bX h) hn)
 |_,_,.gp h _=>by simp only [AV.under]; exact lV (aaK (bX h) hn)
 |_,_,.AF h _=>by simp only [AV.under]; exact lV (aaK (bX h) hn)
 |_,_,.gW h _ _=>by simp only [AV.under]; exact lV (aaK (bX h) hn)
 |_,_,.rp h _=>by simp only [AV.under]; exact lV (aaK (bX h) hn)
 |_,_,.map h=>by simp only [AV.under]; exact lV (aaK (bX h) hn)
 |_,_,.fn h h'=>by simp only [AV.under,aad]; exact ⟨h.under hn,h'.under hn⟩
 |_,_,.yield h=>by simp only [AV.under]; exact lV (aaK (bX h) hn)
 |_,_,.iface h=>by simp only [AV.under]; exact h.under hn
theorem bj.under (hn:R.obj.length<=n):∀ {l:List AV} {cs:List Value},bj R w l cs->aY n l=true
 |_,_,.nil=>rfl
 |_,_,.cons h t=>by simp only [aY,aad]; exact ⟨h.under hn,t.under hn⟩
theorem jG.under (hn:R.obj.length<=n):∀ {b o:Nat} {l:List AV},jG R w b o l->aY n l=true
 |_,_,_,.nil=>rfl
 |_,_,_,.cons _ _ _ h t=>by simp only [aY,aad]; exact ⟨h.under hn,t.under hn⟩
end
end move
mutual
def aF.under (n:Nat):aF->Bool
 |.agg ps=>ps.under n
 |.cD ps=>ps.under n
 |.own id _ _=>aaN id n
 |.bC id _ _=>aaN id n
 |.gW id _=>aaN id n
 |.bD v=>v.under n
 |.two u v=>u.under n&&v.under n
 |_=>true
def a6.under (n:Nat):a6->Bool
 |.nil=>true
 |.cons p ps=>p.under n&&ps.under n
end
mutual
theorem aF.fQ {n:Nat}:∀ (p:aF) (x:p.T),p.under n=true->(p.enc x).under n=true
 |.int k,x,_=>by simp [aF.enc,AV.under]
 |.bool,x,_=>by simp [aF.enc,AV.under]
 |.str,x,_=>by simp [aF.enc,AV.under]
 |.agg ps,x,h=>by
  simp only [aF.enc,AV.under];exact ps.fQ x h
 |.cD ps,x,h=>by
  simp only [aF.enc,AV.under];exact ps.fQ x h
 |.list sz p,x,_=>by simp [aF.enc,AV.under]
 |.own id sz p,x,h=>by
  simp only [aF.enc,AV.under];exact h
 |.bC id sz p,x,h=>by
  simp only [aF.enc,AV.under];exact h
 |.gW id sz,(x:Nat×Nat),h=>by
  simp only [aF.enc,AV.under];exact h
 |.bD v,x,h=>by
  simp only [aF.enc];exact h
 |.two u v,(x:Bool),h=>by
  simp only [aF.under,aad] at h;change AV.under n (bif x then v else u)=true;cases x
  .exact h.1
  .exact h.2
theorem a6.fQ {n:Nat}:∀ (ps:a6) (x:ps.T),ps.under n=true->aY n (ps.enc x)=true
 |.nil,x,_=>rfl
 |.cons p .nil,x,h=>by
  simp only [a6.under,aaL] at h;simp only [a6.enc,aY,aaL];exact p.fQ _ h
 |.cons p (.cons q ps),x,h=>by
  rw [a6.under,aad] at h;simp only [a6.enc,aY,aad];exact ⟨p.fQ _ h.1,(a6.cons q ps).fQ _ h.2⟩
end
mutual
def AV.exact:AV->Bool
 |.bool _=>true
 |.int _ _=>true
 |.str _=>true
 |.agg cs=>e7 cs
 |.list .bV _ (c::cs)=>c.exact&&e7 cs
 |_=>false
def e7:List AV->Bool
 |[]=>true
 |a::l=>a.exact&&e7 l
end
def xC {f:AV->Bool} {α:Type} {d:AV->α} {g:α->AV} (O5:∀ a,f a=true->a.exact=true->g (d a)=a):∀ {es:List AV},allFit f es=true->e7 es=true->(es.map d).map g=es
 |[],_,_=>rfl
 |a::l,h,e=>by
  simp only [allFit,e7,aad] at *;simp only [abN,O5 a h.1 e.1,xC O5 h.2 e.2]
mutual
theorem aF.lW:∀ (p:aF) {a:AV},p.fits a=true->a.exact=true->p.enc (p.bW a)=a
 |.int k,a,h,e=>by
  cases a with
  |int k' n=>have hk:kEq k k'=true:=h; rw [MG hk]; rfl
  |_=>cases h
 |.bool,a,h,e=>by
  cases a with
  |bool b=>rfl
  |_=>cases h
 |.str,a,h,e=>by
  cases a with
  |str b=>rfl
  |_=>cases h
 |.agg ps,a,h,e=>by
  cases a with
  |agg cs=>
   have e':e7 cs=true:=by simpa [AV.exact] using e
   show AV.agg (ps.enc (ps.bW cs))=_;rw [ps.lW (show ps.fits cs=true from h) e']
  |_=>cases h
 |.cD ps,a,h,e=>by cases a <;> first | (cases h; done) | simp [AV.exact] at e
 |.list sz p,a,h,e=>by
  cases a with
  |list k cr es=>
   cases k with
   |bV=>
    cases es with
    |nil=>simp [AV.exact] at e
    |cons c cs=>
     have hb:((aaJ sz cr || (c::cs).isEmpty)&&allFit p.fits (c::cs))=true:=h;rw [aad] at hb;have e':e7 (c::cs)=true:=by simpa [AV.exact,e7] using e
     have hs:sz=cr:=aag (by simpa using hb.1);show AV.list .bV sz (((c::cs).map p.bW).map p.enc)=_;rw [xC (λ a=>p.lW) hb.2 e',hs]
   |_=>simp [AV.exact] at e
  |_=>cases h
 |.own id sz p,a,h,e=>by
  cases a with
  |list k cr es=>cases k <;> first | (cases h; done) | simp [AV.exact] at e
  |_=>cases h
 |.bC id sz p,a,h,e=>by
  cases a with
  |list k cr es=>cases k <;> first | (cases h; done) | simp [AV.exact] at e
  |_=>cases h
 |.gW id sz,a,h,e=>by cases a <;> first | (cases h; done) | simp [AV.exact] at e
 |.bD u,a,h,e=>(lQ (show eC a u=true from h)).symm
 |.two u v,a,h,_=>yy h
theorem a6.lW:∀ (ps:a6) {l:List AV},ps.fits l=true->e7 l=true->ps.enc (ps.bW l)=l
 |.nil,l,h,_=>by
  cases l with
  |nil=>rfl
  |cons _ _=>cases h
 |.cons p .nil,l,h,e=>by
  cases l with
  |nil=>cases h
  |cons a l=>
   have h':(p.fits a&&l.isEmpty)=true:=h;simp only [aad,List.isEmpty_iff] at h';obtain ⟨h1,rfl⟩:=h';simp only [e7,aaL] at e;show [p.enc (p.bW a)]=_;rw [p.lW h1 e]
 |.cons p (.cons q ps),l,h,e=>by
  cases l with
  |nil=>cases h
  |cons a l=>
   have h':(p.fits a&&(a6.cons q ps).fits l)=true:=h;rw [aad] at h';simp only [e7,aad] at e;show p.enc (p.bW a)::(a6.cons q ps).enc ((a6.cons q ps).bW l)=_;rw [p.lW h'.1 e.1,(a6.cons q ps).lW h'.2 e.2]
end
mutual
theorem tg:∀ {a:AV},a.exact=true->a.closed=true:=λ {a} h=>by
 cases a with
 |agg cs=>simp only [AV.exact,AV.closed] at *; exact wR h
 |list k sz es=>cases k <;> first | rfl | simp [AV.exact] at h
 |_=>simp_all [AV.exact,AV.closed]
theorem wR:∀ {l:List AV},e7 l=true->aZ l=true
 |[],_=>rfl
 |a::l,h=>by
  simp only [e7,aZ,aad] at *;exact ⟨tg h.1,wR h.2⟩
end
def ab:List (AV×AV)->List AV
 |[]=>[]
 |(k,v)::l=>.agg [k,v]::ab l
def ajX:AV->AV×AV
 |.agg [k,v]=>(k,v)
 |_=>(jM,jM)
def ax:List AV->List (AV×AV)
 |[]=>[]
 |a::l=>ajX a::ax l
def AV.entries:AV->List (AV×AV)
 |.list _ _ es=>ax es
 |_=>[]
def tX:∀ l:List (AV×AV),ax (ab l)=l
 |[]=>rfl
 |(k,v)::l=>by simp only [ab,ax,tX l]; rfl
def AV.NJ:AV->Bool
 |.list .bV _ es=>e7 es
 |_=>false
def n8:List AV->List AV->Prop
 |[],[]=>True
 |a::l,b::r=>ky a b/\n8 l r
 |_,_=>False
def n8.refl:∀ l:List AV,n8 l l
 |[]=>trivial
 |a::l=>⟨ky.refl a,n8.refl l⟩
def n8.length:∀ {l r:List AV},n8 l r->l.length=r.length
 |[],[],_=>rfl
 |_::_,_::_,h=>by simp [n8.length h.2]
 |[],_::_,h=>h.elim
 |_::_,[],h=>h.elim
def n8.of {α:Type} {f:AV->Bool} {d:AV->α} {g:α->AV} (O5:∀ v,f v=true->ky v (g (d v))):∀ {es:List AV},allFit f es=true->n8 es ((es.map d).map g)
 |[],_=>trivial
 |e::es,h=>by
  simp only [allFit,aad] at h;exact ⟨O5 e h.1,n8.of O5 h.2⟩
def aF.KK (p:aF) {a:AV} (h:p.fits a=true):n8 a.dU (p.enc (p.bW a)).dU:=by
 cases p with
 |list sz p=>
  cases a with
  |list k cr es=>
   have hb:((aaJ sz cr || es.isEmpty)&&allFit p.fits es)=true:=h;rw [aad] at hb;exact n8.of (λ v hv=>p.fF hv) hb.2
  |_=>cases h
 |own id sz p=>
  cases a with
  |list k cr es=>
   cases k with
   |own nV=>
    have hb:((aaJ id nV&&aaJ sz cr)&&allFit p.fits es)=true:=h;rw [aad] at hb;exact n8.of (λ v hv=>p.fF hv) hb.2
   |_=>cases h
  |_=>cases h
 |bC id sz p=>
  cases a with
  |list k cr es=>
   cases k with
   |bC nV j=>
    have hb:((aaJ id nV&&aaJ sz cr)&&allFit p.fits es)=true:=h;rw [aad] at hb;exact n8.of (λ v hv=>p.fF hv) hb.2
   |_=>cases h
  |_=>cases h
 |bD u=>rw [show a=u from lQ (show eC a u=true from h)]; exact n8.refl _
 |two u v=>rw [yy h]; exact n8.refl _
 |_=>cases a <;> first | (cases h; done) | exact n8.refl _
def D5:List AV->Bool
 |[]=>true
 |a::l=>a.NJ&&D5 l
def AV.UE:AV->Bool
 |.list .bV _ es=>D5 es
 |_=>false
def Th:List AV->List AV->Prop
 |[],[]=>True
 |a::l,b::r=>(a.exact=true->b=a)/\((a.NJ=true->b.dU=a.dU)/\(a.UE=true->b.dU.map AV.dU=a.dU.map AV.dU))/\n8 a.dU b.dU/\Th l r
 |_,_=>False
def aF.D6 (p:aF) {a:AV} (h:p.fits a=true) (e:a.NJ=true):(p.enc (p.bW a)).dU=a.dU:=by
 cases a with
 |list k cr es=>
  cases k with
  |bV=>
   have e':e7 es=true:=e;cases p with
   |list sz p=>
    have hb:((aaJ sz cr || es.isEmpty)&&allFit p.fits es)=true:=h;rw [aad] at hb;show (es.map p.bW).map p.enc=_;rw [xC (λ a=>p.lW) hb.2 e'];rfl
   |bD u=>rw [show AV.list .bV cr es=u from lQ (show eC _ u=true from h)]; rfl
   |two u v=>rw [yy h]
   |_=>cases h
  |_=>cases e
 |_=>cases e
def D7 {p:aF}:∀ {es:List AV},allFit p.fits es=true->D5 es=true->((es.map p.bW).map p.enc).map AV.dU=es.map AV.dU
 |[],_,_=>rfl
 |a::l,h,e=>by
  simp only [allFit,D5,aad] at *;simp only [abN,p.D6 h.1 e.1];rw [D7 h.2 e.2]
def aF.KL (p:aF) {a:AV} (h:p.fits a=true) (e:a.UE=true):(p.enc (p.bW a)).dU.map AV.dU=a.dU.map AV.dU:=by
 cases a with
 |list k cr es=>
  cases k with
  |bV=>
   have e':D5 es=true:=e;cases p with
   |list sz p=>
    have hb:((aaJ sz cr || es.isEmpty)&&allFit p.fits es)=true:=h;rw [aad] at hb;show ((es.map p.bW).map p.enc).map AV.dU=_;rw [D7 hb.2 e'];rfl
   |bD u=>rw [show AV.list .bV cr es=u from lQ (show eC _ u=true from h)]; rfl
   |two u v=>rw [yy h]
   |_=>cases h
  |_=>cases e
 |_=>cases e
def a6.UF:∀ (ps:a6) {l:List AV},ps.fits l=true->Th l (ps.enc (ps.bW l))
 |.nil,l,h=>by
  cases l with
  |nil=>trivial
  |cons _ _=>cases h
 |.cons p .nil,l,h=>by
  cases l with
  |nil=>cases h
  |cons a l=>
   have h':(p.fits a&&l.isEmpty)=true:=h;simp only [aad,List.isEmpty_iff] at h';obtain ⟨h1,rfl⟩:=h';exact ⟨p.lW h1,⟨p.D6 h1,p.KL h1⟩,p.KK h1,trivial⟩
 |.cons p (.cons q ps),l,h=>by
  cases l with
  |nil=>cases h
  |cons a l=>
   have h':(p.fits a&&(a6.cons q ps).fits l)=true:=h;rw [aad] at h';exact ⟨p.lW h'.1,⟨p.D6 h'.1,p.KL h'.1⟩,p.KK h'.1,(a6.cons q ps).UF h'.2⟩
def Th.split:∀ {l r l':List AV},Th (l++r) l'->∃ a b,l'=a++b/\Th l a/\Th r b/\a.length=l.length
 |[],r,l',h=>⟨[],l',rfl,trivial,h,rfl⟩
 |x::l,r,[],h=>h.elim
 |x::l,r,y::l',h=>by
  obtain ⟨a,b,rfl,h2,h3,h4⟩:=Th.split (l:=l) (r:=r) (l':=l') h.2.2.2;exact ⟨y::a,b,rfl,⟨h.1,h.2.1,h.2.2.1,h2⟩,h3,by simp [h4]⟩
mutual
def AV.D8 (L:Nat->Nat):AV->AV
 |.eK id 0 0 sz 0=>.eK id (L id) 0 sz (L id)
 |.fn f x y=>.fn f (UG L x) (UG L y)
 |v=>v
def UG (L:Nat->Nat):List AV->List AV
 |[]=>[]
 |a::l=>a.D8 L::UG L l
end
mutual
def aF.inst (L:Nat->Nat):aF->aF
 |.agg ps=>.agg (ps.inst L)
 |.cD ps=>.cD (ps.inst L)
 |.bD v=>.bD (v.D8 L)
 |p=>p
def a6.inst (L:Nat->Nat):a6->a6
 |.nil=>.nil
 |.cons p ps=>.cons (p.inst L) (ps.inst L)
end
mutual
def aF.pD (L:Nat->Nat):(p:aF)->p.T->AV
 |.int k,(n:Int)=>.int k n
 |.bool,(b:Bool)=>.bool b
 |.str,(s:List UInt8)=>.str s
 |.agg ps,x=>.agg (ps.pD L x)
 |.cD ps,x=>.cD (ps.pD L x)
 |.list sz p,(xs:List p.T)=>.list .bV sz (xs.map p.enc)
 |.own id sz p,(xs:List p.T)=>.list (.own id) sz (xs.map p.enc)
 |.bC id sz p,(x:Nat×List p.T)=>.list (.bC id x.1) sz (x.2.map p.enc)
 |.gW id sz,(x:Nat×Nat)=>.gW id x.1 sz x.2
 |.bD v,_=>v.D8 L
 |.two u v,(b:Bool)=>bif b then v else u
def a6.pD (L:Nat->Nat):(ps:a6)->ps.T->List AV
 |.nil,_=>[]
 |.cons p .nil,x=>[p.pD L x]
 |.cons p (.cons q ps),x=>p.pD L x.1::(a6.cons q ps).pD L x.2
end
mutual
def aF.rU (L:Nat->Nat):aF->AV->Bool
 |.int k,v=>aF.fits (.int k) v
 |.bool,v=>aF.fits .bool v
 |.str,v=>aF.fits .str v
 |.agg ps,v=>match v with
  |.agg cs=>ps.rU L cs
  |_=>false
 |.cD ps,v=>match v with
  |.cD cs=>ps.rU L cs
  |_=>false
 |.list sz p,v=>aF.fits (.list sz p) v
 |.own id sz p,v=>aF.fits (.own id sz p) v
 |.bC id sz p,v=>aF.fits (.bC id sz p) v
 |.gW id sz,v=>aF.fits (.gW id sz) v
 |.bD v,u=>eC u (v.D8 L)
 |.two u v,a=>aF.fits (.two u v) a
def a6.rU (L:Nat->Nat):a6->List AV->Bool
 |.nil,l=>l.isEmpty
 |.cons p ps,l=>match l with
  |a::l=>p.rU L a&&ps.rU L l
  |[]=>false
end
def a6.RA (L:Nat->Nat) (ps:a6) (l:List AV):Option ps.T:=bif ps.rU L l then some (ps.bW l) else none
mutual
theorem aF.mG (L:Nat->Nat):∀ (p:aF) (a:AV),p.rU L a=(p.inst L).fits a
 |.int _,_=>rfl
 |.bool,_=>rfl
 |.str,_=>rfl
 |.agg ps,a=>by
  simp only [aF.rU,aF.inst,aF.fits];cases a <;> first | rfl | exact ps.mG L _
 |.cD ps,a=>by
  simp only [aF.rU,aF.inst,aF.fits];cases a <;> first | rfl | exact ps.mG L _
 |.list _ _,_=>rfl
 |.own _ _ _,_=>rfl
 |.bC _ _ _,_=>rfl
 |.gW _ _,_=>rfl
 |.bD _,_=>rfl
 |.two _ _,_=>rfl
theorem a6.mG (L:Nat->Nat):∀ (ps:a6) (l:List AV),ps.rU L l=(ps.inst L).fits l
 |.nil,_=>rfl
 |.cons p ps,l=>by
  cases l with
  |nil=>rfl
  |cons a l=>
   simp only [a6.rU,a6.inst,a6.fits];rw [p.mG L a,ps.mG L l]
end
mutual
theorem aF.lm (L:Nat->Nat):∀ (p:aF) (a:AV),p.pD L (p.bW a)=(p.inst L).enc ((p.inst L).bW a)
 |.int _,_=>rfl
 |.bool,_=>rfl
 |.str,_=>rfl
 |.agg ps,a=>congrArg AV.agg (ps.lm L a.nX)
 |.cD ps,a=>congrArg AV.cD (ps.lm L a.adD)
 |.list _ _,_=>rfl
 |.own _ _ _,_=>rfl
 |.bC _ _ _,_=>rfl
 |.gW _ _,_=>rfl
 |.bD _,_=>rfl
 |.two _ _,_=>rfl
theorem a6.lm (L:Nat->Nat):∀ (ps:a6) (l:List AV),ps.pD L (ps.bW l)=(ps.inst L).enc ((ps.inst L).bW l)
 |.nil,_=>rfl
 |.cons p .nil,l=>by
  show [p.pD L (p.bW (hH l))]=[(p.inst L).enc ((p.inst L).bW (hH l))];rw [p.lm L]
 |.cons p (.cons q ps),l=>by
  show p.pD L (p.bW (hH l))::(a6.cons q ps).pD L ((a6.cons q ps).bW (Tx l))=(p.inst L).enc ((p.inst L).bW (hH l))::((a6.cons q ps).inst L).enc (((a6.cons q ps).inst L).bW (Tx l));rw [p.lm L,(a6.cons q ps).lm L]
end
mutual
theorem AV.D9 {n:Nat} (L:Nat->Nat):∀ {a:AV},a.under n=true->(a.D8 L).under n=true:=λ {a} h=>by
 cases a with
 |eK id f off sz len=>
  unfold AV.D8;split
  .rename_i h1;cases h1;exact h
  .rename_i h1;cases h1
  .exact h
 |fn f x y=>
  simp only [AV.D8,AV.under,aad] at *;exact ⟨xD L h.1,xD L h.2⟩
 |_=>exact h
theorem xD {n:Nat} (L:Nat->Nat):∀ {l:List AV},aY n l=true->aY n (UG L l)=true
 |[],_=>rfl
 |a::l,h=>by
  simp only [UG,aY,aad] at *;exact ⟨AV.D9 L h.1,xD L h.2⟩
end
mutual
theorem aF.mH {n:Nat} (L:Nat->Nat):∀ {p:aF},p.under n=true->(p.inst L).under n=true
 |.int _,_=>rfl
 |.bool,_=>rfl
 |.str,_=>rfl
 |.agg ps,h=>a6.mH L (ps:=ps) h
 |.cD ps,h=>a6.mH L (ps:=ps) h
 |.list _ _,_=>rfl
 |.own _ _ _,h=>h
 |.bC _ _ _,h=>h
 |.gW _ _,h=>h
 |.bD v,h=>AV.D9 L (a:=v) h
 |.two _ _,h=>h
theorem a6.mH {n:Nat} (L:Nat->Nat):∀ {ps:a6},ps.under n=true->(ps.inst L).under n=true
 |.nil,_=>rfl
 |.cons p ps,h=>by
  simp only [a6.inst,a6.under,aad] at *;exact ⟨aF.mH L h.1,a6.mH L h.2⟩
end
def AV.G3 (L:Nat->Nat) (v:AV):(v.D8 L).dU=v.dU:=by
 unfold AV.D8;split <;> rfl
def uc:List AV->List AV->Prop
 |[],[]=>True
 |a::l,b::r=>a.dU.length=b.dU.length/\uc l r
 |_,_=>False
theorem aF.uQ (L L':Nat->Nat) (p:aF) (x:p.T):(p.pD L x).dU=(p.pD L' x).dU:=by
 cases p with
 |bD v=>
  show (v.D8 L).dU=(v.D8 L').dU;rw [AV.G3,AV.G3]
 |gW _ _=>rfl
 |_=>rfl
def a6.uQ (L L':Nat->Nat):∀ (ps:a6) (x:ps.T),uc (ps.pD L x) (ps.pD L' x)
 |.nil,_=>trivial
 |.cons p .nil,x=>⟨congrArg List.length (p.uQ L L' x),trivial⟩
 |.cons p (.cons q ps),x=>⟨congrArg List.length (p.uQ L L' x.1),(a6.cons q ps).uQ L L' x.2⟩
def Th.ajY:∀ {l r:List AV},Th l r->uc l r
 |[],[],_=>trivial
 |_::_,_::_,h=>⟨h.2.2.1.length,h.2.2.2.ajY⟩
 |[],_::_,h=>h.elim
 |_::_,[],h=>h.elim
def uc.trans:∀ {l r u:List AV},uc l r->uc r u->uc l u
 |[],[],[],_,_=>trivial
 |_::_,_::_,_::_,h,k=>⟨h.1.trans k.1,h.2.trans k.2⟩
 |[],_::_,_,h,_=>h.elim
 |_::_,[],_,h,_=>h.elim
 |[],[],_::_,_,k=>k.elim
 |_::_,_::_,[],_,k=>k.elim
def uc.drop:∀ {l r:List AV} (n:Nat),uc l r->uc (l.drop n) (r.drop n)
 |l,r,0,h=>by simpa using h
 |[],[],_+1,_=>by simp [uc]
 |_::_,_::_,n+1,h=>by simpa using uc.drop n h.2
 |[],_::_,_+1,h=>h.elim
 |_::_,[],_+1,h=>h.elim
def a6.YB (L:Nat->Nat) (ps:a6) {x:ps.T} (h:ps.RA L l=some x):eD l (ps.pD L x)/\Th l (ps.pD L x):=by
 unfold a6.RA at h;cases hf:ps.rU L l with
 |true=>
  rw [hf] at h;cases h;rw [ps.lm L];rw [ps.mG L] at hf;have hd:(ps.inst L).dec l=some ((ps.inst L).bW l):=by unfold a6.dec; rw [hf]; rfl
  exact ⟨((ps.inst L).xj hd).1,(ps.inst L).UF hf⟩
 |false=>rw [hf] at h; cases h
def a6.NK (L:Nat->Nat) (ps:a6) (hp:ps.under n=true) (l:List AV):aY n (ps.pD L (ps.bW l))=true:=by
 rw [ps.lm L];exact (ps.inst L).fQ _ (a6.mH L hp)
def a6.RB (L:Nat->Nat) (ps:a6) {x:ps.T} (h:ps.RA L l=some x):x=ps.bW l:=by
 unfold a6.RA at h;cases hf:ps.rU L l with
 |true=>rw [hf] at h; cases h; rfl
 |false=>rw [hf] at h; cases h
inductive Mn
 |open_
 |busy
 |ret
 |ex (i:Nat)
def Mn.is:Mn->Bool->Option Code->Bool->Bool
 |.open_,false,none,false=>true
 |.busy,true,none,false=>true
 |.ret,false,some .ret,true=>true
 |.ex i,false,some (.exit j),true=>aaJ i j
 |_,_,_,_=>false
def Mn.b:Mn->Bool
 |.busy=>true
 |_=>false
def Mn.p:Mn->Option Code
 |.ret=>some .ret
 |.ex i=>some (.exit i)
 |_=>none
def Mn.d:Mn->Bool
 |.ret=>true
 |.ex _=>true
 |_=>false
def Mn.Py {k:Mn} {b:Bool} {p:Option Code} {d:Bool} (h:k.is b p d=true):b=k.b/\p=k.p/\d=k.d:=by
 unfold Mn.is at h;split at h <;> first | exact ⟨rfl,rfl,rfl⟩ | (cases h; done) | skip
 rw [aag h];exact ⟨rfl,rfl,rfl⟩
inductive GL
 |row (n:Nat)
 |tok (loc sz:Nat) (e:TypeId)
 |dead
 |lp (k:Mn)
 |keep
 |map
 |Mo
 |bO (sz:Nat) (e:TypeId)
 |bC (sz:Nat) (e:TypeId)
 |zh
 |lM (kY:Nat)
 |jv (sz:Nat) (e:TypeId)
def fw (fs:List Nat):List AV:=fs.map λ n:Nat=>.int .i64 n
def dT (l:List AV):List Nat:=l.map λ a=>a.Cc.toNat
def BK (fs:List Nat):dT (fw fs)=fs:=by
 induction fs with
 |nil=>rfl
 |cons n fs ih=>
  show (AV.int .i64 n).Cc.toNat::dT (fw fs)=n::fs;rw [ih];simp [AV.Cc]
def Ea (fs:List Nat):e7 (fw fs)=true:=by
 induction fs with
 |nil=>rfl
 |cons n fs ih=>exact ih
def fC (sz:Nat) (rows:List (List AV)):List AV:=rows.map λ r=>.list .bV sz r
def bR (l:List AV):List (List AV):=l.map AV.dU
def KM (sz:Nat) (rows:List (List AV)):bR (fC sz rows)=rows:=by
 induction rows with
 |nil=>rfl
 |cons r rows ih=>
  show r::bR (fC sz rows)=r::rows;rw [ih]
def dP:List (List AV)->Bool
 |[]=>true
 |r::l=>e7 r&&dP l
def Eb (sz:Nat):∀ rows:List (List AV),dP rows=true->D5 (fC sz rows)=true
 |[],_=>rfl
 |r::rows,h=>by
  simp only [dP,aad] at h;show (e7 r&&D5 (fC sz rows))=true;rw [h.1,Eb sz rows h.2];rfl
def aeG (k:Mn):GO->GO->Bool
 |.loop _ _ _ _ _ _ _ _ _ _,.loop b p _ _ _ _ _ _ _ d=>k.is b p d
 |_,_=>false
def acm (k:Mn):GO->GO
 |.loop _ _ fn sl n ps xz bd d _=>.loop k.b k.p fn sl n ps xz bd d k.d
 |_=>.dead
def aD (es:List (AV×AV)):Bool:=e7 (ab es)
def Ec:GO->GO->Bool
 |.tok f sz e,.tok f' cr e'=>decide (f'=f)&&(aaJ cr sz&&aaJ e' e)
 |.defers a,.defers b=>match a,b with
  |true,true=>true
  |false,false=>true
  |_,_=>false
 |.dead,_=>true
 |.row cs e,.row iO e'=>aaJ e e'&&(au cs iO&&aZ cs)
 |_,_=>false
structure dh where
 ps:a6
 sl:List Tmp
 W:List Tmp
 bx:List (Nat×Nat)
 g:List GL
 lps:List (Tmp×Nat×Nat)
def Ed (ae:bT):List Tmp->Option (List AV)
 |[]=>some []
 |t::l=>match lk ae t with
  |.v a=>match Ed ae l with
   |some r=>some (a::r)
   |none=>none
  |_=>none
def Ee (bx:ew):List (Nat×Nat)->Option (List AV)
 |[]=>some []
 |(k,n)::l=>match fm bx k with
  |some cs=>match Ee bx l with
   |some r=>bif aaJ cs.length n then some (cs++r) else none
   |none=>none
  |none=>none
def nD:List GL->List GO->Option (List AV)
 |[],_=>some []
 |.row n::l,.row cs _::G=>match nD l G with
  |some r=>bif aaJ cs.length n then some (cs++r) else none
  |none=>none
 |.tok _ sz e::l,.tok _ cr e'::G=>bif aaJ sz cr&&aaJ e e' then nD l G else none
 |.dead::l,_::G=>nD l G
 |.lp _::l,_::G=>nD l G
 |.keep::l,_::G=>nD l G
 |.map::l,.map es::G=>match nD l G with
  |some r=>some (.list .bV 2 (ab es)::r)
  |none=>none
 |.Mo::l,.ke s pos::G=>match nD l G with
  |some r=>some (.str s :: .int .i64 pos::r)
  |none=>none
 |.bO sz e::l,.bO es cr e'::G=>match nD l G with
  |some r=>bif aaJ sz cr&&aaJ e e' then some (.list .bV cr es::r) else none
  |none=>none
 |.bC sz e::l,.bC fs cr e'::G=>match nD l G with
  |some r=>bif aaJ sz cr&&aaJ e e' then some (.list .bV 1 (fw fs)::r) else none
  |none=>none
 |.jv sz e::l,.jv rows cr e'::G=>match nD l G with
  |some r=>bif aaJ sz cr&&aaJ e e' then some (.list .bV 1 (fC cr rows)::r) else none
  |none=>none
 |.zh::l,.map es::G=>match nD l G with
  |some r=>some (.list .bV 2 (ab es)::r)
  |none=>none
 |.lM kY::l,.lM mid' n left _ _::G=>match nD l G with
  |some r=>bif aaJ kY mid' then some (.int .i64 n :: .list .bV 1 (fw left)::r) else none
  |none=>none
 |_,_=>none
def UH (vs:List AV) (loc:Nat):Nat:=match nth vs loc with
 |some (.list _ _ es)=>es.length
 |_=>0
def acn:GO->GO->Bool
 |.row _ e,.row _ e'=>aaJ e e'
 |_,_=>false
def aco:GO->GO->Bool
 |.lM _ _ _ _ t,.lM _ _ _ _ t'=>aaJ t t'
 |_,_=>false
def ajZ:GO->TypeId
 |.lM _ _ _ _ t=>t
 |_=>0
def aj0:GO->TypeId
 |.row _ e=>e
 |_=>0
def fD (vs:List AV):List GL->List GO->List GO->Bool
 |[],_,_=>true
 |.tok loc _ _::l,_::B,.tok f _ _::G=>decide (f=UH vs loc)&&fD vs l B G
 |.tok _ _ _::_,_,_=>false
 |.lp k::l,o::B,o'::G=>aeG k o o'&&fD vs l B G
 |.keep::l,o::B,o'::G=>Ec o o'&&fD vs l B G
 |.row _::l,b::B,g::G=>acn b g&&fD vs l B G
 |.map::l,_::B,.map es::G=>aD es&&fD vs l B G
 |.map::_,_,_=>false
 |.Mo::l,_::B,_::G=>fD vs l B G
 |.bO _ _::l,_::B,_::G=>fD vs l B G
 |.bC _ _::l,_::B,_::G=>fD vs l B G
 |.jv _ _::l,_::B,.jv rows _ _::G=>dP rows&&fD vs l B G
 |.jv _ _::_,_,_=>false
 |.zh::l,_::B,_::G=>fD vs l B G
 |.lM _::l,b::B,g::G=>aco b g&&fD vs l B G
 |.dead::l,_::B,_::G=>fD vs l B G
 |_,_,_=>false
def uR:List Tmp->List AV->bT->bT
 |t::ts,a::l,r=>.put t (.v a)::uR ts l r
 |_,_,r=>r
def uS:List (Tmp×Nat×Nat)->bT->bT
 |(t,k,o)::l,r=>.put t (.lp k o)::uS l r
 |[],r=>r
def Pz (ae:bT):List (Tmp×Nat×Nat)->Bool
 |[]=>true
 |(t,k,o)::l=>(match lk ae t with
  |.lp k' o'=>aaJ k' k&&aaJ o' o
  |_=>false)&&Pz ae l
def Ef:List Tmp->bT->bT
 |t::ts,r=>.put t .none::Ef ts r
 |[],r=>r
def BL:List (Nat×Nat)->List AV->ew->ew
 |(k,n)::r,l,b=>(k,l.take n)::BL r (l.drop n) b
 |[],_,b=>b
def fH (vs:List AV):List GL->List GO->List AV->List GO
 |.row n::r,B,l=>.row (l.take n) (aj0 (B.headD .dead))::fH vs r B.tail (l.drop n)
 |.tok loc sz e::r,B,l=>.tok (UH vs loc) sz e::fH vs r B.tail l
 |.dead::r,B,l=>.dead::fH vs r B.tail l
 |.lp k::r,B,l=>acm k (B.headD .dead)::fH vs r B.tail l
 |.keep::r,B,l=>B.headD .dead::fH vs r B.tail l
 |.map::r,B,l=>.map (AV.entries (hH l))::fH vs r B.tail l.tail
 |.Mo::r,B,l=>.ke (AV.adE (hH l)) (AV.Cc (hH l.tail)).toNat::fH vs r B.tail l.tail.tail
 |.bO sz e::r,B,l=>.bO (AV.dU (hH l)) sz e::fH vs r B.tail l.tail
 |.bC sz e::r,B,l=>.bC (dT (AV.dU (hH l))) sz e::fH vs r B.tail l.tail
 |.jv sz e::r,B,l=>.jv (bR (AV.dU (hH l))) sz e::fH vs r B.tail l.tail
 |.zh::r,B,l=>.map (AV.entries (hH l))::fH vs r B.tail l.tail
 |.lM kY::r,B,l=>.lM kY (AV.Cc (hH l)).toNat (dT (AV.dU (hH l.tail))) none (ajZ (B.headD .dead))::fH vs r B.tail l.tail.tail
 |[],_,_=>[]
def Is:List (Nat×Nat)->Nat
 |[]=>0
 |(_,n)::l=>n+Is l
def oo:List GL->List AV->Nat->Nat
 |[],_,_=>0
 |.bO _ _::r,l,i=>match i with
  |0=>(AV.dU (hH l)).length
  |i+1=>oo r l.tail i
 |.row n::r,l,i=>match i with
  |0=>0
  |i+1=>oo r (l.drop n) i
 |.map::r,l,i=>match i with
  |0=>0
  |i+1=>oo r l.tail i
 |.Mo::r,l,i=>match i with
  |0=>0
  |i+1=>oo r l.tail.tail i
 |.bC _ _::r,l,i=>match i with
  |0=>0
  |i+1=>oo r l.tail i
 |.jv _ _::r,l,i=>match i with
  |0=>0
  |i+1=>oo r l.tail i
 |.zh::r,l,i=>match i with
  |0=>0
  |i+1=>oo r l.tail i
 |.lM _::r,l,i=>match i with
  |0=>0
  |i+1=>oo r l.tail.tail i
 |_::r,l,i=>match i with
  |0=>0
  |i+1=>oo r l i
def dh.wD (t:dh) (v:t.ps.T):List AV:=t.ps.pD (oo t.g (((t.ps.pD (λ _=>0) v).drop t.sl.length).drop (Is t.bx))) v
def dh.st (t:dh) (s:St) (v:t.ps.T):St:=
 ⟨uS t.lps (uR t.sl (t.wD v) (Ef t.W s.ae)),BL t.bx ((t.wD v).drop t.sl.length) s.boxes,fH (t.wD v) t.g s.G (((t.wD v).drop t.sl.length).drop (Is t.bx)),s.marks,s.ro,s.n⟩
def XF:List Nat->Nat->Bool
 |[],_=>false
 |a::l,n=>aaJ a n || XF l n
def inK (l:List Tmp) (W:List Tmp) (n:Nat):Bool:=XF l n || XF W n
def Ga (d:Nat) (l W:List Tmp):bT->Bool
 |[]=>true
 |.put t (.lp k _)::r=>(!(aaJ k d) || inK l W t)&&Ga d l W r
 |_::r=>Ga d l W r
def AY (l W:List Tmp) (base:bT):bT->Bool
 |[]=>true
 |.put d _::r=>inK l W d&&AY l W base r
 |.kill d::r=>Ga d l W base&&AY l W base r
def Bu:List (Nat×Nat)->Nat->Bool
 |[],_=>false
 |(a,_)::l,n=>aaJ a n || Bu l n
def CR (l:List (Nat×Nat)) (base:ew):ew->Bool
 |[]=>true
 |(k,_)::r=>(Bu l k || (fm base k).isNone)&&CR l base r
def YC:List Nat->List Nat->Bool
 |[],[]=>true
 |a::l,b::r=>aaJ a b&&YC l r
 |_,_=>false
def aF.lcl (n:Nat):aF->Bool
 |.list _ p=>p.under n
 |_=>false
def a6.flags (n:Nat):a6->List Bool
 |.nil=>[]
 |.cons p ps=>p.lcl n::ps.flags n
def n9:List GL->List Bool->Bool
 |[],_=>true
 |.bO _ _::r,f::l=>f&&n9 r l
 |.bO _ _::_,[]=>false
 |.row n::r,l=>n9 r (jc n l)
 |.map::r,l=>n9 r (jc 1 l)
 |.Mo::r,l=>n9 r (jc 2 l)
 |.bC _ _::r,l=>n9 r (jc 1 l)
 |.jv _ _::r,l=>n9 r (jc 1 l)
 |.zh::r,f::l=>f&&n9 r l
 |.zh::_,[]=>false
 |.lM _::r,l=>n9 r (jc 2 l)
 |_::r,l=>n9 r l
def UI (n:Nat):List GL->Bool
 |[]=>true
 |.lM kY::r=>aaN kY n&&UI n r
 |_::r=>UI n r
def dh.ok (t:dh) (s s':St):Bool:=
 AY t.sl t.W s.ae (s'.ae.take (s'.ae.length - s.ae.length))&&CR t.bx s.boxes (s'.boxes.take (s'.boxes.length - s.boxes.length)) &&
  YC s'.marks s.marks&&aaJ t.g.length s.G.length&&(t.ps.under s.G.length&&(n9 t.g (jc (Is t.bx) (jc t.sl.length (t.ps.flags s.G.length)))&&UI s.G.length t.g))&&Pz s'.ae t.lps
def dh.dec (t:dh) (s s':St):Option t.ps.T:=
 bif t.ok s s' then
  match Ed s'.ae t.sl,Ee s'.boxes t.bx,nD t.g s'.G with
  |some a,some b,some c=>(t.ps.RA (oo t.g c) (a++(b++c))).bind λ v=>bif fD (t.wD v) t.g s.G s'.G then some v else none
  |_,_,_=>none
 else none
def It {l:List Nat} :XF l n=true↔n∈l:=by
 induction l with
 |nil=>simp [XF]
 |cons a l ih=>
  simp only [XF,Bool.or_eq_true,Nat.beq_eq,ih,ab1];constructor
  .rintro (h|h)
   .exact .inl h.symm
   .exact .inr h
  .rintro (h|h)
   .exact .inl h.symm
   .exact .inr h
def PA:∀ {a b:List Nat},YC a b=true->a=b
 |[],[],_=>rfl
 |a::l,b::r,h=>by
  simp only [YC,aad,Nat.beq_eq] at h;rw [h.1,PA h.2]
 |[],_::_,h=>by cases h
 |_::_,[],h=>by cases h
def Iu {d:Nat} {l W:List Tmp} {t off:Nat}:∀ {base:bT},Ga d l W base=true->lk base t=.lp d off->inK l W t=true
 |[],_,h=>by simp [lk] at h
 |.put t' x::r,hn,h=>by
  by_cases e:t'=t
  .subst e;rw [aS] at h;subst h;simp only [Ga,Nat.beq_refl,Bool.not_true,Bool.false_or,aad] at hn;exact hn.1
  .rw [bq e] at h;refine Iu (base:=r) ?_ h;cases x <;> simp only [Ga,aad] at hn
   .exact hn
   .exact hn
   .exact hn.2
 |.kill d'::r,hn,h=>by
  rcases O4 (l:=r) (d:=d') (t:=t) with ⟨h1,_⟩|h1
  .rw [h1] at h;exact Iu (base:=r) hn h
  .rw [h1] at h;cases h
theorem Iv {l W:List Tmp} {base:bT} {t:Nat} (ht:inK l W t=false):∀ {pre:bT},AY l W base pre=true->lk (pre++base) t=lk base t
 |[],_=>rfl
 |.put d x::r,h=>by
  simp only [AY,aad] at h;have de:d≠t:=λ e=>by rw [e,ht] at h; exact absurd h.1 (by simp)
  rw [abk,bq de];exact Iv ht h.2
 |.kill d::r,h=>by
  simp only [AY,aad] at h;have ih:=Iv ht h.2;simp only [abk,lk,ih];cases hb:lk base t with
  |lp k off=>
   by_cases e:k=d
   .subst e;have:=Iu h.1 hb;rw [ht] at this;cases this
   .simp [sS e]
  |_=>rfl
def KN {l:List (Nat×Nat)} {base:ew} {k:Nat} {cs:List AV} (hk:Bu l k=false) (hb:fm base k=some cs):∀ {pre:ew},CR l base pre=true->fm (pre++base) k=some cs
 |[],_=>hb
 |(d,x)::r,h=>by
  simp only [CR,aad] at h;have de:d≠k:=λ e=>by
   rw [e,hk,hb] at h;exact absurd h.1 (by simp)
  rw [abk,fm,sS de];exact KN hk hb h.2
def KO (pre base:List α):(pre++base).take ((pre++base).length - base.length)=pre:=by
 rw [aaR,Nat.add_sub_cancel,acg]
def ak.cut (R:ak) (n:Nat):ak:=⟨R.I,R.obj.take n⟩
def oE {R:ak} :nth (R.cut n).obj id=some ro↔id < n/\nth R.obj id=some ro:=by
 simp only [ak.cut,bk,List.getElem?_take];split
 .simp_all
 .simp_all;omega
def th (R:ak) (n:Nat):Mv R (R.cut n) n:=⟨λ _ _ h=>h,λ _ _ hl h=>oE.2 ⟨hl,h⟩⟩
section JD
def Eg (R:ak) (w:World) (β:Nat->Nat) (K:Nat->Prop) (ae:bT) (tmps:Array Value):Prop:=
 ∀ i,¬ K i->lk ae i≠.none->∃ c,tmps[i]?=some c/\sR R w β (lk ae i) c
def Eh {tmps:Array Value} {base:bT}:∀ {W:List Tmp} {K:Nat->Prop},Eg R w β (λ i=>i∈W\/K i) base tmps->Eg R w β K (Ef W base) tmps
 |[],K,h=>λ i hi hn=>h i (by simpa using hi) hn
 |t::W,K,h=>λ i hi hn=>by
  have ih:Eg R w β (λ i=>i=t\/K i) (Ef W base) tmps:=Eh (W:=W) (λ j hj=>h j (λ hc=>hj (by
   rcases hc with hc|hc
   .rcases ab1.1 hc with hc|hc
    .exact .inr (.inl hc)
    .exact .inl hc
   .exact .inr (.inr hc))))
  simp only [Ef] at hn ⊢;by_cases e:t=i
  .subst e;rw [aS] at hn;exact absurd rfl hn
  .rw [bq e] at hn ⊢;exact ih i (by simp; exact ⟨λ e'=>e e'.symm,hi⟩) hn
def BM {n:Nat} (m:Mv R' R n) {tmps:Array Value} {ae:bT} (hT:uw R' w β ae tmps) {base:bT}:∀ {ts:List Tmp} {K:Nat->Prop} {l l' r r':List AV},Ed ae ts=some l->eD (l++r) (l'++r')->l.length=l'.length->aY n l'=true ->
  Eg R w β (λ i=>i∈ts\/K i) base tmps->Eg R w β K (uR ts (l'++r') base) tmps
 |[],K,l,l',r,r',_,_,_,_,h=>λ i hi hn=>by
  have e:uR [] (l'++r') base=base:=rfl;rw [e] at hn ⊢;exact h i (by simpa using hi) hn
 |t::ts,K,l,l',r,r',hg,hw,hl,hu,h=>by
  unfold Ed at hg;split at hg
  .rename_i a ha;split at hg
   .rename_i l0 CL;cases hg;cases l' with
    |nil=>simp at hl
    |cons b l'=>
     simp only [abk,eD] at hw;simp only [aY,aad] at hu;have ih:Eg R w β (λ i=>i=t\/K i) (uR ts (l'++r') base) tmps:=BM m hT CL hw.2 (by simpa using hl) hu.2 (λ j hj=>h j (λ hc=>hj (by
      rcases hc with hc|hc
      .rcases ab1.1 hc with hc|hc
       .exact .inr (.inl hc)
       .exact .inl hc
      .exact .inr (.inr hc))))
     intro i hi hn;simp only [uR,abk] at hn ⊢;by_cases e:t=i
     .subst e;rw [aS] at hn ⊢;obtain ⟨c,h1,h2⟩:=hT t (by rw [ha]; simp);rw [ha] at h2;exact ⟨c,h1,Rel.move m hu.1 (hw.1 _ _ _ h2)⟩
     .rw [bq e] at hn ⊢;exact ih i (by simp; exact ⟨λ e'=>e e'.symm,hi⟩) hn
   .cases hg
  .cases hg
def Ei (R:ak) (w:World) (β:Nat->Nat) (k:Nat) (cs:List AV):Prop:=
 (∃ vs el,w.heap[β k]?=some (.cells ⟨vs⟩ el (0,0))/\bj R w cs vs/\(∀ v∈vs,v.oneCell'=true))/\(∀ o,¬ R.I (β k) o)/\¬ Live R (β k)
def KP {R:ak} {b:Nat} (h:Live (R.cut n) b):Live R b:=by
 obtain ⟨id,ro,h1,h2⟩:=h;exact ⟨id,ro,(oE.1 h1).2,h2⟩
def Ei.cut {n k:Nat} {cs iO:List AV} (h:Ei R w β k cs) (hw:eD cs iO) (hu:aY n iO=true):Ei (R.cut n) w β k iO:=by
 obtain ⟨⟨vs,el,h1,h2,h3⟩,h4,h5⟩:=h;exact ⟨⟨vs,el,h1,(hw.rel h2).move (th R n) hu,h3⟩,h4,λ hl=>h5 (KP hl)⟩
def gX {n:Nat}:∀ {l r:List AV},aY n (l++r)=(aY n l&&aY n r)
 |[],r=>by simp [aY]
 |a::l,r=>by simp [aY,gX (l:=l),Bool.and_assoc]
def eD.split:∀ {l r l':List AV},eD (l++r) l'->∃ a b,l'=a++b/\eD l a/\eD r b/\a.length=l.length
 |[],r,l',h=>⟨[],l',rfl,trivial,h,rfl⟩
 |x::l,r,[],h=>h.elim
 |x::l,r,y::l',h=>by
  obtain ⟨a,b,rfl,h2,h3,h4⟩:=eD.split (l:=l) (r:=r) (l':=l') h.2;exact ⟨y::a,b,rfl,⟨h.1,h2⟩,h3,by simp [h4]⟩
def KQ {n:Nat} {bxs:ew} (hb:∀ k cs,fm bxs k=some cs->Ei R w β k cs) {base:ew}:∀ {bx:List (Nat×Nat)} {K:Nat->Prop} {l l' r:List AV},Ee bxs bx=some l->eD l l'->aY n l'=true ->
  (∀ k cs,¬ K k->Bu bx k=false->fm base k=some cs->fm bxs k=some cs/\aY n cs=true) ->
  ∀ k cs,¬ K k->fm (BL bx (l'++r) base) k=some cs->Ei (R.cut n) w β k cs/\∃ iO,fm bxs k=some iO
 |[],K,l,l',r,_,_,_,h,k,cs,hK,hk=>by
  obtain ⟨h1,h2⟩:=h k cs hK rfl hk;exact ⟨(hb k cs h1).cut (eD.refl _) h2,cs,h1⟩
 |(d,m)::bx,K,l,l',r,hg,hw,hu,h,k,cs,hK,hk=>by
  unfold Ee at hg;split at hg
  .rename_i cs0 hd;split at hg
   .rename_i l0 CL;cases hm:aaJ cs0.length m with
    |false=>rw [hm] at hg; cases hg
    |true=>
     rw [hm] at hg;cases hg;have hm:=aag hm;obtain ⟨x,y,rfl,k1,k2,k3⟩:=hw.split;rw [gX,aad] at hu;have e1:((x++y)++r).take m=x:=by rw [List.append_assoc,<- hm,<- k3,acg]
     have e2:((x++y)++r).drop m=y++r:=by rw [List.append_assoc,<- hm,<- k3,aba]
     simp only [BL,e1,e2] at hk;rcases ik hk with ⟨rfl,rfl⟩|⟨de,hk⟩
     .exact ⟨(hb d cs0 hd).cut k1 hu.1,cs0,hd⟩
     .refine KQ hb (K:=λ k=>k=d\/K k) (r:=r) CL k2 hu.2 (λ k' iO hK' h1 h2=>?_) k cs (λ hc=>?_) hk
      .exact h k' iO (λ hc=>hK' (.inr hc)) (by simp only [Bu,h1,Bool.or_false]; exact sS (λ e=>hK' (.inl e.symm))) h2
      .rcases hc with hc|hc
       .exact de hc.symm
       .exact hK hc
   .cases hg
  .cases hg
def Cl (n:Nat):List GL->List AV->Prop
 |[],_=>True
 |.bO _ _::r,l=>aY n (AV.dU (hH l))=true/\Cl n r l.tail
 |.row m::r,l=>Cl n r (l.drop m)
 |.map::r,l=>Cl n r l.tail
 |.Mo::r,l=>Cl n r l.tail.tail
 |.bC _ _::r,l=>Cl n r l.tail
 |.jv _ _::r,l=>Cl n r l.tail
 |.zh::r,l=>aY n (AV.dU (hH l))=true/\Cl n r l.tail
 |.lM _::r,l=>Cl n r l.tail.tail
 |_::r,l=>Cl n r l
def uT (n:Nat):List Bool->List AV->Prop
 |[],_=>True
 |_::_,[]=>True
 |f::fl,a::l=>(f=true->aY n a.dU=true)/\uT n fl l
def uT.drop {m:Nat}:∀ {fl:List Bool} {l:List AV} (n:Nat),uT m fl l->uT m (jc n fl) (l.drop n)
 |_,_,0,h=>by simpa [jc] using h
 |[],_,_+1,_=>by simp [jc,uT]
 |_::fl,[],n+1,_=>by
  rw [List.drop_nil];cases jc (n+1) (_::fl) <;> trivial
 |_::fl,_::l,n+1,h=>by simpa [jc] using uT.drop n h.2
def iU {m:Nat}:∀ (g:List GL) {fl:List Bool} {l:List AV},n9 g fl=true->uT m fl l->Cl m g l
 |[],_,_,_,_=>trivial
 |.bO _ _::g,[],_,h,_=>by cases h
 |.bO _ _::g,f::fl,[],h,_=>by
  simp only [n9,aad] at h;refine ⟨rfl,iU g (fl:=fl) h.2 ?_⟩;cases fl <;> trivial
 |.bO _ _::g,f::fl,a::l,h,k=>by
  simp only [n9,aad] at h;exact ⟨k.1 h.1,iU g h.2 k.2⟩
 |.row n::g,fl,l,h,k=>iU g (show n9 g (jc n fl)=true from h) (k.drop n)
 |.map::g,fl,l,h,k=>by
  have:=iU g (show n9 g (jc 1 fl)=true from h) (k.drop 1);rw [acq] at this;exact this
 |.Mo::g,fl,l,h,k=>by
  have:=iU g (show n9 g (jc 2 fl)=true from h) (k.drop 2);have e:l.drop 2=l.tail.tail:=by cases l with
   |nil=>rfl
   |cons a l=>cases l <;> rfl
  rw [e] at this;exact this
 |.bC _ _::g,fl,l,h,k=>by
  have:=iU g (show n9 g (jc 1 fl)=true from h) (k.drop 1);rw [acq] at this;exact this
 |.jv _ _::g,fl,l,h,k=>by
  have:=iU g (show n9 g (jc 1 fl)=true from h) (k.drop 1);rw [acq] at this;exact this
 |.lM _::g,fl,l,h,k=>by
  have:=iU g (show n9 g (jc 2 fl)=true from h) (k.drop 2);have e:l.drop 2=l.tail.tail:=by cases l with
   |nil=>rfl
   |cons a l=>cases l <;> rfl
  rw [e] at this;exact this
 |.zh::g,[],_,h,_=>by cases h
 |.zh::g,f::fl,[],h,_=>by
  simp only [n9,aad] at h;refine ⟨rfl,iU g (fl:=fl) h.2 ?_⟩;cases fl <;> trivial
 |.zh::g,f::fl,a::l,h,k=>by
  simp only [n9,aad] at h;exact ⟨k.1 h.1,iU g h.2 k.2⟩
 |.tok _ _ _::g,fl,l,h,k=>iU g (show n9 g fl=true from h) k
 |.dead::g,fl,l,h,k=>iU g (show n9 g fl=true from h) k
 |.lp _::g,fl,l,h,k=>iU g (show n9 g fl=true from h) k
 |.keep::g,fl,l,h,k=>iU g (show n9 g fl=true from h) k
def Ej {n:Nat} {α:Type} {g:α->AV} (hg:∀ x,(g x).under n=true):∀ xs:List α,aY n (xs.map g)=true
 |[]=>rfl
 |x::xs=>by simp only [abN,aY,hg x,Ej hg xs,Bool.and_self]
def a6.KR (n:Nat) (L:Nat->Nat):∀ (ps:a6) (x:ps.T),uT n (ps.flags n) (ps.pD L x)
 |.nil,_=>trivial
 |.cons p .nil,x=>⟨λ h=>acp L p x h,trivial⟩
 |.cons p (.cons q ps),x=>⟨λ h=>acp L p x.1 h,(a6.cons q ps).KR n L x.2⟩
where
 acp (L:Nat->Nat):∀ (p:aF) (x:p.T),p.lcl n=true->aY n (p.pD L x).dU=true
  |.list _ p,x,h=>Ej (λ y=>p.fQ y h) _
  |.int _,_,h=>by cases h
  |.bool,_,h=>by cases h
  |.str,_,h=>by cases h
  |.agg _,_,h=>by cases h
  |.cD _,_,h=>by cases h
  |.own _ _ _,_,h=>by cases h
  |.bC _ _ _,_,h=>by cases h
  |.gW _ _,_,h=>by cases h
  |.bD _,_,h=>by cases h
  |.two _ _,_,h=>by cases h
def GOk (n:Nat):GO->GO->Prop
 |.row cs el,.row iO el'=>el'=el/\eD cs iO/\aY n iO=true
 |.tok f sz e,.tok f' cr e'=>f=f'/\sz=cr/\e=e'
 |.defers a,.defers b=>a=b
 |.map es,.map es'=>(es'=es/\aD es=true)\/∃ l,es'=ax l/\n8 (ab es) l/\aY n l=true
 |.bC fs sz e,.bC fs' cr e'=>fs=fs'/\sz=cr/\e=e'
 |.jv rows sz e,.jv rows' cr e'=>rows=rows'/\sz=cr/\e=e'
 |.lM kY m left _ t,.lM mid' m' GN cur t'=>kY=mid'/\m=m'/\left=GN/\t=t'/\kY < n/\cur=none
 |.ke l p,.ke l' p'=>l'=l/\p'=p
 |.bO es sz e,.bO es' cr e'=>cr=sz/\e'=e/\n8 es es'/\aY n es'=true
 |_,.dead=>True
 |_,_=>False
def LOk:GO->GO->GO->Prop
 |.loop _ _ fn sl n ps xz bd d _,.loop b p _ _ _ _ _ _ _ dn,go=>go=.loop b p fn sl n ps xz bd d dn
 |_,_,_=>False
def RC (h:Ec o o'=true):GOk n o' o:=by
 cases o with
 |tok f sz e=>
  cases o' with
  |tok f' cr e'=>
   simp only [Ec,aad] at h;exact ⟨of_decide_eq_true h.1,aag h.2.1,aag h.2.2⟩
  |_=>cases h
 |defers a=>
  cases o' with
  |defers b=>cases a <;> cases b <;> first | rfl | cases h
  |_=>cases h
 |dead=>cases o' <;> trivial
 |row cs e=>
  cases o' with
  |row iO e'=>
   simp only [Ec,aad] at h;obtain ⟨h1,h2,h3⟩:=h;have h2:=je h2;subst h2;exact ⟨aag h1,eD.refl _,dO _ h3⟩
  |_=>cases h
 |_=>cases h
def YD {k:Mn} (h:aeG k o o'=true):LOk o o' (acm k o):=by
 cases o with
 |loop b p fn sl n ps xz bd d dn=>
  cases o' with
  |loop b' p' fn' sl' n' ps' YE bd' d' dn'=>
   obtain ⟨rfl,rfl,rfl⟩:=Mn.Py (show k.is b' p' dn'=true from h);rfl
  |_=>cases h
 |_=>cases h
def wS (a:AV):a.entries=ax a.dU:=by cases a <;> rfl
def j6 {n:Nat} {vs:List AV}:∀ {g:List GL} {B G:List GO} {l l':List AV},nD g G=some l->eD l l'->Th l l'->Cl n g l'/\UI n g=true->aY n l'=true->fD vs g B G=true ->
  ∀ id go,nth (fH vs g B l') id=some go->∃ go',nth G id=some go'/\(GOk n go' go\/∃ Te,nth B id=some Te/\LOk Te go' go)
 |[],B,G,l,l',_,_,_,_,_,_,id,go,h=>by simp [fH,nth] at h
 |x::g,[],G,l,l',_,_,_,_,_,ht,_,_,_=>by cases x <;> cases G <;> cases ht
 |x::g,_::_,[],l,l',_,_,_,_,_,ht,_,_,_=>by cases x <;> cases ht
 |.row m::g,b::B,o::G,l,l',hg,hw,hx,yh,hu,ht,id,go,h=>by
   obtain ⟨hty,tU⟩:acn b o=true/\fD vs g B G=true:=by
    rw [<- aad];cases o <;> exact ht
   cases o with
   |row cs el=>
    have ql:aj0 b=el:=by
     cases b <;> first | (cases hty; done) | exact aag hty
    change (match nD g G with
     |some r=>bif aaJ cs.length m then some (cs++r) else none
     |none=>none)=some l at hg
    split at hg
    .rename_i r hr;cases hm:aaJ cs.length m with
     |false=>rw [hm] at hg; cases hg
     |true=>
      rw [hm] at hg;cases hg;have hm:=aag hm;obtain ⟨x,y,rfl,k1,k2,k3⟩:=hw.split;rw [gX,aad] at hu;have e1:(x++y).take m=x:=by rw [<- hm,<- k3,acg]
      have e2:(x++y).drop m=y:=by rw [<- hm,<- k3,aba]
      simp only [fH,e1,e2] at h;cases id with
      |zero=>simp only [nth] at h; cases h; exact ⟨.row cs el,rfl,.inl ⟨ql,k1,hu.1⟩⟩
      |succ id=>exact j6 hr k2 (by obtain ⟨x',y',e1',k1',k2',k3'⟩:=hx.split; have:=acd e1' (by rw [k3,k3']); rw [this.2]; exact k2') (by rw [<- e2]; exact yh) hu.2 tU id go h
    .cases hg
   |_=>cases hg
 |.tok loc sz e::g,b::B,o::G,l,l',hg,hw,hx,yh,hu,ht,id,go,h=>by
   cases o with
   |tok f cr e'=>
    change (bif aaJ sz cr&&aaJ e e' then nD g G else none)=some l at hg;change (decide (f=UH vs loc)&&fD vs g B G)=true at ht;rw [aad] at ht;cases hm:(aaJ sz cr&&aaJ e e') with
    |false=>rw [hm] at hg; cases hg
    |true=>
     rw [hm] at hg;rw [aad] at hm;have q1:=aag hm.1;have q2:=aag hm.2;simp only [fH] at h;cases id with
     |zero=>
      simp only [nth] at h;cases h;exact ⟨.tok f cr e',rfl,.inl ⟨of_decide_eq_true ht.1,q1.symm,q2.symm⟩⟩
     |succ id=>exact j6 hg hw hx yh hu ht.2 id go h
   |_=>cases hg
 |.dead::g,b::B,o::G,l,l',hg,hw,hx,yh,hu,ht,id,go,h=>by
   simp only [fH] at h;have Jy:nD g G=some l:=by cases o <;> exact hg
   have tU:fD vs g B G=true:=by cases o <;> exact ht
   cases id with
   |zero=>
    simp only [nth] at h;cases h;exact ⟨o,rfl,.inl (by cases o <;> trivial)⟩
   |succ id=>exact j6 Jy hw hx yh hu tU id go h
 |.lp k::g,b::B,o::G,l,l',hg,hw,hx,yh,hu,ht,id,go,h=>by
   simp only [fH] at h;have Jy:nD g G=some l:=by cases o <;> exact hg
   change (aeG k b o&&fD vs g B G)=true at ht;rw [aad] at ht;cases id with
   |zero=>
    simp only [nth] at h;cases h;exact ⟨o,rfl,.inr ⟨b,rfl,YD ht.1⟩⟩
   |succ id=>exact j6 Jy hw hx yh hu ht.2 id go h
 |.keep::g,b::B,o::G,l,l',hg,hw,hx,yh,hu,ht,id,go,h=>by
   simp only [fH] at h;have Jy:nD g G=some l:=by cases o <;> exact hg
   change (Ec b o&&fD vs g B G)=true at ht;rw [aad] at ht;cases id with
   |zero=>
    simp only [nth] at h;cases h;exact ⟨o,rfl,.inl (RC ht.1)⟩
   |succ id=>exact j6 Jy hw hx yh hu ht.2 id go h
 |.map::g,b::B,o::G,l,l',hg,hw,hx,yh,hu,ht,id,go,h=>by
   cases o with
   |map es=>
    change (match nD g G with
     |some r=>some (AV.list .bV 2 (ab es)::r)
     |none=>none)=some l at hg
    change (aD es&&fD vs g B G)=true at ht;rw [aad] at ht;split at hg
    .rename_i r hr;cases hg;cases l' with
     |nil=>exact hw.elim
     |cons a l'=>
      simp only [aY,aad] at hu;simp only [fH,hH,aaS] at h;cases id with
      |zero=>
       simp only [nth] at h;cases h;refine ⟨.map es,rfl,.inl (.inl ⟨?_,ht.1⟩)⟩;rw [wS,hx.2.1.1 ht.1];exact tX es
      |succ id=>exact j6 hr hw.2 hx.2.2.2 yh hu.2 ht.2 id go h
    .cases hg
   |_=>cases hg
 |.Mo::g,b::B,o::G,l,l',hg,hw,hx,yh,hu,ht,id,go,h=>by
   have tU:fD vs g B G=true:=by cases o <;> exact ht
   cases o with
   |ke s pos=>
    change (match nD g G with
     |some r=>some (AV.str s::AV.int .i64 pos::r)
     |none=>none)=some l at hg
    split at hg
    .rename_i r hr;cases hg
     match l',hw,hx,hu,h with
     |[],hw,_,_,_=>exact hw.elim
     |[_],hw,_,_,_=>exact hw.2.elim
     |a::a'::l',hw,hx,hu,h=>
      simp only [aY,aad] at hu;simp only [fH,hH,aaS] at h;have e1:=hx.1 (by simp [AV.exact]);have e2:=hx.2.2.2.1 (by simp [AV.exact]);subst e1 e2;cases id with
      |zero=>
       simp only [nth] at h;cases h;exact ⟨.ke s pos,rfl,.inl ⟨rfl,by simp [AV.Cc]⟩⟩
      |succ id=>exact j6 hr hw.2.2 hx.2.2.2.2.2.2 yh hu.2.2 tU id go h
    .cases hg
   |_=>cases hg
 |.bO sz e::g,b::B,o::G,l,l',hg,hw,hx,yh,hu,ht,id,go,h=>by
   have tU:fD vs g B G=true:=by cases o <;> exact ht
   cases o with
   |bO es cr e'=>
    change (match nD g G with
     |some r=>bif aaJ sz cr&&aaJ e e' then some (AV.list .bV cr es::r) else none
     |none=>none)=some l at hg
    split at hg
    .rename_i r hr;cases hm:(aaJ sz cr&&aaJ e e') with
     |false=>rw [hm] at hg; cases hg
     |true=>
     rw [hm] at hg;rw [aad] at hm;have q1:=aag hm.1;have q2:=aag hm.2;cases hg;cases l' with
     |nil=>exact hw.elim
     |cons a l'=>
      simp only [aY,aad] at hu;simp only [fH,hH,aaS] at h;cases id with
      |zero=>
       simp only [nth] at h;cases h;exact ⟨.bO es cr e',rfl,.inl ⟨q1,q2,hx.2.2.1,yh.1.1⟩⟩
      |succ id=>exact j6 hr hw.2 hx.2.2.2 ⟨yh.1.2,yh.2⟩ hu.2 tU id go h
    .cases hg
   |_=>cases hg
 |.bC sz e::g,b::B,o::G,l,l',hg,hw,hx,yh,hu,ht,id,go,h=>by
   have tU:fD vs g B G=true:=by cases o <;> exact ht
   cases o with
   |bC fs cr e'=>
    change (match nD g G with
     |some r=>bif aaJ sz cr&&aaJ e e' then some (AV.list .bV 1 (fw fs)::r) else none
     |none=>none)=some l at hg
    split at hg
    .rename_i r hr;cases hm:(aaJ sz cr&&aaJ e e') with
     |false=>rw [hm] at hg; cases hg
     |true=>
     rw [hm] at hg;rw [aad] at hm;have q1:=aag hm.1;have q2:=aag hm.2;cases hg;cases l' with
     |nil=>exact hw.elim
     |cons a l'=>
      simp only [aY,aad] at hu;simp only [fH,hH,aaS] at h;cases id with
      |zero=>
       simp only [nth] at h;cases h;refine ⟨.bC fs cr e',rfl,.inl ⟨?_,q1.symm,q2.symm⟩⟩;rw [hx.2.1.1 (Ea fs)];exact (BK fs).symm
      |succ id=>exact j6 hr hw.2 hx.2.2.2 yh hu.2 tU id go h
    .cases hg
   |_=>cases hg
 |.jv sz e::g,b::B,o::G,l,l',hg,hw,hx,yh,hu,ht,id,go,h=>by
   cases o with
   |jv rows cr e'=>
    change (match nD g G with
     |some r=>bif aaJ sz cr&&aaJ e e' then some (AV.list .bV 1 (fC cr rows)::r) else none
     |none=>none)=some l at hg
    change (dP rows&&fD vs g B G)=true at ht;rw [aad] at ht;split at hg
    .rename_i r hr;cases hm:(aaJ sz cr&&aaJ e e') with
     |false=>rw [hm] at hg; cases hg
     |true=>
     rw [hm] at hg;rw [aad] at hm;have q1:=aag hm.1;have q2:=aag hm.2;cases hg;cases l' with
     |nil=>exact hw.elim
     |cons a l'=>
      simp only [aY,aad] at hu;simp only [fH,hH,aaS] at h;cases id with
      |zero=>
       simp only [nth] at h;cases h;refine ⟨.jv rows cr e',rfl,.inl ⟨?_,q1.symm,q2.symm⟩⟩;show rows=bR a.dU;unfold bR;rw [hx.2.1.2 (Eb _ _ ht.1)];exact (KM _ rows).symm
      |succ id=>exact j6 hr hw.2 hx.2.2.2 yh hu.2 ht.2 id go h
    .cases hg
   |_=>cases hg
 |.zh::g,b::B,o::G,l,l',hg,hw,hx,yh,hu,ht,id,go,h=>by
   have tU:fD vs g B G=true:=by cases o <;> exact ht
   cases o with
   |map es=>
    change (match nD g G with
     |some r=>some (AV.list .bV 2 (ab es)::r)
     |none=>none)=some l at hg
    split at hg
    .rename_i r hr;cases hg;cases l' with
     |nil=>exact hw.elim
     |cons a l'=>
      simp only [aY,aad] at hu;simp only [fH,hH,aaS] at h;cases id with
      |zero=>
       simp only [nth] at h;cases h;exact ⟨.map es,rfl,.inl (.inr ⟨a.dU,wS a,hx.2.2.1,yh.1.1⟩)⟩
      |succ id=>exact j6 hr hw.2 hx.2.2.2 ⟨yh.1.2,yh.2⟩ hu.2 tU id go h
    .cases hg
   |_=>cases hg
 |.lM kY::g,b::B,o::G,l,l',hg,hw,hx,yh,hu,ht,id,go,h=>by
   obtain ⟨hty,tU⟩:aco b o=true/\fD vs g B G=true:=by
    rw [<- aad];cases o <;> exact ht
   cases o with
   |lM mid' k left cur t=>
    have ql:ajZ b=t:=by
     cases b <;> first | (cases hty; done) | exact aag hty
    change (match nD g G with
     |some r=>bif aaJ kY mid' then some (AV.int .i64 k::AV.list .bV 1 (fw left)::r) else none
     |none=>none)=some l at hg
    split at hg
    .rename_i r hr;cases hm:aaJ kY mid' with
     |false=>rw [hm] at hg; cases hg
     |true=>
     rw [hm] at hg;have q1:=aag hm;subst q1;cases hg;have hmp:=yh.2;simp only [UI,aad] at hmp
     match l',hw,hx,hu,h with
     |[],hw,_,_,_=>exact hw.elim
     |[_],hw,_,_,_=>exact hw.2.elim
     |a::a'::l',hw,hx,hu,h=>
      simp only [aY,aad] at hu;simp only [fH,hH,aaS] at h;have e1:=hx.1 (by simp [AV.exact]);have e2:=hx.2.2.2.2.1.1 (Ea left);subst e1;cases id with
      |zero=>
       simp only [nth] at h;cases h;refine ⟨.lM kY k left cur t,rfl,.inl ⟨rfl,by simp [AV.Cc],?_,ql.symm,kS hmp.1,rfl⟩⟩;rw [e2];exact (BK left).symm
      |succ id=>exact j6 hr hw.2.2 hx.2.2.2.2.2.2 ⟨yh.1,hmp.2⟩ hu.2.2 tU id go h
    .cases hg
   |_=>cases hg
def eM {vs:List AV}:∀ {g:List GL} {B:List GO} {l:List AV},(fH vs g B l).length=g.length
 |[],_,_=>rfl
 |.row m::g,B,l=>by simp [fH,eM (g:=g)]
 |.tok _ _ _::g,B,l=>by simp [fH,eM (g:=g)]
 |.dead::g,B,l=>by simp [fH,eM (g:=g)]
 |.lp _::g,B,l=>by simp [fH,eM (g:=g)]
 |.keep::g,B,l=>by simp [fH,eM (g:=g)]
 |.map::g,B,l=>by simp [fH,eM (g:=g)]
 |.bO _ _::g,B,l=>by simp [fH,eM (g:=g)]
 |.Mo::g,B,l=>by simp [fH,eM (g:=g)]
 |.bC _ _::g,B,l=>by simp [fH,eM (g:=g)]
 |.jv _ _::g,B,l=>by simp [fH,eM (g:=g)]
 |.zh::g,B,l=>by simp [fH,eM (g:=g)]
 |.lM _::g,B,l=>by simp [fH,eM (g:=g)]
def ku.lok {Te go' go:GO} (e:Ext R0 w0 R w) (h0:ku R0 w0 Te ro0) (hle:dy ro0 ro) (h:ku R' w go' ro) (k:LOk Te go' go):ku R w go ro:=by
 cases Te with
 |loop b p fn sl n ps xz bd d dn=>
  cases go' with
  |loop b' p' fn' sl' n' ps' YE bd' d' dn'=>
   change go=_ at k;subst k;cases ro0 with
   |cN bb=>
    simp only [dy] at hle;subst hle;obtain ⟨⟨r0,db0,l1,l2,l3,l4,l5,l6,l7,l8,l9,cW⟩,cX⟩:=h0;obtain ⟨⟨r,db,m1,m2,m3,m4,m5,m6,m7,m8,m9,m10⟩,m11⟩:=h;obtain ⟨r1,q1,q2,q3,q4,q5,q6⟩:=e.lp bb r0 l1;have hr:r1=r:=by
     have:=q1.symm.trans m1;injection this with this;injection this with this
    subst hr;exact ⟨⟨r1,db0,q1,m2,m3,by rw [q2]; exact uw.mono e l4,by rw [q2]; exact l5,by rw [q3]; exact l6,by rw [q4]; exact l7,by rw [q5]; exact l8,by rw [q6]; exact l9,e.cN cW⟩,cX⟩
   |none=>exact h0.elim
   |bK=>exact h0.elim
   |tok _ _ _=>exact h0.elim
   |bC _=>exact h0.elim
  |_=>exact k.elim
 |_=>exact k.elim
def fO.cut {n:Nat}:∀ {es:List (AV×AV)} {aQ:List MapEntry},e7 (ab es)=true->fO R w es aQ->fO (R.cut n) w es aQ
 |[],[],_,_=>trivial
 |[],_::_,_,h=>h.elim
 |_::_,[],_,h=>h.elim
 |(k,v)::es,en::aQ,he,h=>by
  simp only [ab,e7,AV.exact,aaL,aad] at he;exact ⟨h.1.move (th R n) (jZ n (tg he.1.1)),h.2.1.move (th R n) (jZ n (tg he.1.2)),fO.cut he.2 h.2.2⟩
def KS (h:v.under n=true) (k:v.bN=true):aY n v.cells=true:=by
 cases v <;> first | exact h | (simp [AV.bN] at k; done) | (simp only [AV.cells,aY,aaL]; exact h)
def Ek {n sz:Nat}:∀ {es es':List AV},n8 es es'->ig sz es->aY n es'=true->ig sz es'/\eD (aH es) (aH es')/\aY n (aH es')=true
 |[],[],_,_,_=>⟨(λ e he=>by simp at he),trivial,rfl⟩
 |e::es,e'::es',h,k,yA=>by
  obtain ⟨h1,h2⟩:=h;simp only [aY,aad] at yA;obtain ⟨q1,q2⟩:=k e (by simp);obtain ⟨i1,i2,i3⟩:=Ek h2 (λ x hx=>k x (by simp [hx])) yA.2;have hc:=h1.cells q2;have ht:e'.bN=true:=by rw [h1.cD,q2]
  refine ⟨λ x hx=>?_,hc.append i2,by show aY n (e'.cells++aH es')=true; rw [gX,KS yA.1 ht,i3]; rfl⟩;rcases ab1.1 hx with rfl|hx
  .exact ⟨by rw [<- hc.length,q1],ht⟩
  .exact i1 x hx
 |[],_::_,h,_,_=>h.elim
 |_::_,[],h,_,_=>h.elim
def uc.head {r:List AV} (h:uc l r):(AV.dU (hH l)).length=(AV.dU (hH r)).length:=by
 cases l <;> cases r <;> first | rfl | exact h.1 | exact h.elim
def uc.tail {l r:List AV} (h:uc l r):uc l.tail r.tail:=by
 cases l <;> cases r <;> first | exact h | exact h.2 | exact h.elim
def eN:∀ (g:List GL) {l r:List AV} (i:Nat),uc l r->oo g l i=oo g r i
 |[],_,_,_,_=>rfl
 |.bO _ _::g,l,r,0,h=>h.head
 |.bO _ _::g,l,r,i+1,h=>eN g i h.tail
 |.row _::g,l,r,0,h=>rfl
 |.row n::g,l,r,i+1,h=>eN g i (h.drop n)
 |.map::g,l,r,0,h=>rfl
 |.map::g,l,r,i+1,h=>eN g i h.tail
 |.Mo::g,l,r,0,h=>rfl
 |.Mo::g,l,r,i+1,h=>eN g i h.tail.tail
 |.bC _ _::g,l,r,0,h=>rfl
 |.bC _ _::g,l,r,i+1,h=>eN g i h.tail
 |.jv _ _::g,l,r,0,h=>rfl
 |.jv _ _::g,l,r,i+1,h=>eN g i h.tail
 |.zh::g,l,r,0,h=>rfl
 |.zh::g,l,r,i+1,h=>eN g i h.tail
 |.lM _::g,l,r,0,h=>rfl
 |.lM _::g,l,r,i+1,h=>eN g i h.tail.tail
 |.tok _ _ _::g,l,r,0,h=>rfl
 |.tok _ _ _::g,l,r,i+1,h=>eN g i h
 |.dead::g,l,r,0,h=>rfl
 |.dead::g,l,r,i+1,h=>eN g i h
 |.lp _::g,l,r,0,h=>rfl
 |.lp _::g,l,r,i+1,h=>eN g i h
 |.keep::g,l,r,0,h=>rfl
 |.keep::g,l,r,i+1,h=>eN g i h
def fO.aj2 {n:Nat}:∀ {es:List (AV×AV)} {l:List AV} {aQ:List MapEntry},n8 (ab es) l->aY n l=true->fO R w es aQ->fO (R.cut n) w (ax l) aQ
 |[],[],[],_,_,_=>trivial
 |[],[],_::_,_,_,h=>h.elim
 |[],_::_,_,h,_,_=>h.elim
 |(_,_)::_,[],_,h,_,_=>h.elim
 |(_,_)::_,_::_,[],_,_,h=>h.elim
 |(k,v)::es,a::l,en::aQ,hd,hu,h=>by
  obtain ⟨d1,d2⟩:=hd;simp only [aY,aad] at hu;have hc:=d1.cells rfl;have hl:[k,v].length=a.cells.length:=hc.length;cases a with
  |agg cs=>
   match cs,hc,hl with
   |[k',v'],hc,_=>
    have hua:aY n [k',v']=true:=hu.1;simp only [aY,aaL,aad] at hua;exact ⟨(hc.1 _ _ _ h.1).move (th R n) hua.1,(hc.2.1 _ _ _ h.2.1).move (th R n) hua.2,fO.aj2 d2 hu.2 h.2.2⟩
   |[],_,hl=>simp [AV.cells] at hl
   |[_],_,hl=>simp [AV.cells] at hl
   |_::_::_::_,_,hl=>simp [AV.cells] at hl
  |_=>simp [AV.cells] at hl
def El {n sz:Nat}:∀ {es:List AV},jX sz es->aY n (aH es)=true
 |[],_=>rfl
 |e::es,h=>by
  have h1:=h e List.mem_cons_self;have h2:=El (n:=n) (sz:=sz) (es:=es) λ x hx=>h x (ab3 _ hx)
  simp only [aH,gX,h2,aaL];have hk:=h1.2.2;cases e with
  |agg cs=>exact dO n (show aZ cs=true by simpa [AV.closed] using hk)
  |cD cs=>cases h1.2.1
  |_=>simp only [AV.cells,aY,aaL]; exact jZ n hk
def ku.gok (h:ku R w go' ro) (k:GOk n go' go):ku (R.cut n) w go ro:=by
 cases go with
 |dead=>
  cases ro with
  |none=>trivial
  |bK=>trivial
  |cN b=>exact h.lt rfl
  |tok f b c=>exact h.lt rfl
  |bC ts=>exact λ j f b c hj=>h.lt ⟨j,f,c,hj⟩
 |row cs el=>
  cases go' with
  |row iO el'=>
   cases ro with
   |cN b=>
    obtain ⟨vs,h1,h2,h3,h4⟩:=h;obtain ⟨rfl,k⟩:=k;exact ⟨vs,h1,(k.1.rel h2).move (th R n) k.2,h3,h4⟩
   |none=>exact h.elim
   |bK=>exact h.elim
   |tok _ _ _=>exact h.elim
   |bC _=>exact h.elim
  |_=>exact k.elim
 |tok f sz e=>
  cases go' with
  |tok f' cr e'=>
   obtain ⟨rfl,rfl,rfl⟩:=k;cases ro with
   |cN b=>exact h.elim
   |none=>exact h.elim
   |bK=>exact h
   |tok _ _ _=>exact h
   |bC _=>exact h.elim
  |_=>exact k.elim
 |defers a=>
  cases go' with
  |defers b=>
   change b=a at k;subst k;cases ro <;> exact h
  |_=>exact k.elim
 |map es=>
  cases go' with
  |map es'=>
   cases ro with
   |cN b=>
    obtain ⟨aQ,clock,h1,h2,h3⟩:=h;rcases k with ⟨rfl,k2⟩|⟨l,rfl,k2,k3⟩
    .exact ⟨aQ,clock,h1,fO.cut k2 h2,h3⟩
    .exact ⟨aQ,clock,h1,fO.aj2 k2 k3 h2,h3⟩
   |none=>exact h.elim
   |bK=>exact h.elim
   |tok _ _ _=>exact h.elim
   |bC _=>exact h.elim
  |_=>exact k.elim
 |bC fs sz e=>
  cases go' with
  |bC fs' cr e'=>
   obtain ⟨rfl,rfl,rfl⟩:=k;cases ro <;> exact h
  |_=>exact k.elim
 |jv rows sz e=>
  cases go' with
  |jv rows' cr e'=>
   obtain ⟨rfl,rfl,rfl⟩:=k;cases ro with
   |none=>exact h.elim
   |bK=>exact h.elim
   |cN _=>exact h.elim
   |tok _ _ _ _=>exact h.elim
   |bC ts=>
    obtain ⟨h1,h2,h3⟩:=h;refine ⟨h1,h2,λ j row t hj ht=>?_⟩;have h4:=h3 j row t hj ht;cases t with
    |bK=>exact h4
    |full _=>exact h4
    |tok f b c=>
     obtain ⟨h5,ql,cur,vs,k1,k2,k3,k4,k5,k6,k7,k8⟩:=h4;exact ⟨h5,ql,cur,vs,k1,k2,k3,k4,k5,k6.move (th R n) (El ql),k7,k8⟩
  |_=>exact k.elim
 |lM kY m left cur t=>
  cases go' with
  |lM mid' m' GN xn t'=>
   obtain ⟨rfl,rfl,rfl,rfl,k,rfl⟩:=k;cases ro with
   |cN b=>obtain ⟨bm,seen,c0,h1,h2,h3,h4,h5,h6,_⟩:=h; exact ⟨bm,seen,c0,oE.2 ⟨k,h1⟩,h2,h3,h4,h5,h6,λ i hi=>by cases hi⟩
   |none=>exact h.elim
   |bK=>exact h.elim
   |tok _ _ _=>exact h.elim
   |bC _=>exact h.elim
  |_=>exact k.elim
 |ke l p=>
  cases go' with
  |ke l' p'=>
   obtain ⟨rfl,rfl⟩:=k;cases ro <;> exact h
  |_=>exact k.elim
 |bO es sz e=>
  cases go' with
  |bO es' cr e'=>
   obtain ⟨rfl,rfl,k,kc⟩:=k;cases ro with
   |cN b=>exact h.elim
   |none=>exact h.elim
   |bC _=>exact h.elim
   |bK=>
    have he:es'=[]:=h;subst he;exact List.eq_nil_of_length_eq_zero k.length.symm
   |tok f b c=>
    obtain ⟨hk0,h0,h1,cur,vs,h2,h3,h4,h5,h6,h7,h8,h9⟩:=h;obtain ⟨k1,k2,k3⟩:=Ek k h1 kc;exact ⟨hk0,h0.trans k.length,k1,cur,vs,h2,h3,h4,h5,h6,(k2.rel h7).move (th R n) k3,h8,h9⟩
  |_=>exact k.elim
 |_=>cases go' <;> exact k.elim
def wB.ids:∀ {l:List Nat} {ds:List Deferred},wB R l ds->∀ id∈l,id < R.obj.length
 |[],[],_,id,hi=>by simp at hi
 |x::l,d::ds,h,id,hi=>by
  obtain ⟨⟨b,h1,_⟩,h2⟩:=h;rcases ab1.1 hi with rfl|hi
  .exact bX h1
  .exact wB.ids h2 id hi
 |[],_::_,h,_,_=>h.elim
 |_::_,[],h,_,_=>h.elim
def wB.cut {n:Nat}:∀ {l:List Nat} {ds:List Deferred},wB R l ds->(∀ id∈l,id < n)->wB (R.cut n) l ds
 |[],[],_,_=>trivial
 |x::l,d::ds,h,hi=>by
  obtain ⟨⟨b,h1,h3⟩,h2⟩:=h;exact ⟨⟨b,oE.2 ⟨hi x (by simp),h1⟩,h3⟩,wB.cut h2 λ id hm=>hi id (by simp [hm])⟩
 |[],_::_,h,_=>h.elim
 |_::_,[],h,_=>h.elim
def BN {n:Nat} {tmps:Array Value} {ae base:bT} (hT:uw R w β ae tmps):∀ {l:List (Tmp×Nat×Nat)},Pz ae l=true->uw (R.cut n) w β base tmps->uw (R.cut n) w β (uS l base) tmps
 |[],_,h=>h
 |(t,k,o)::l,hl,h=>λ i hi=>by
  simp only [Pz,aad] at hl;simp only [uS] at hi ⊢;by_cases e:t=i
  .subst e;rw [aS];have h1:=hl.1;split at h1
   .rename_i k' o' hk;rw [aad] at h1;have e1:=aag h1.1;have e2:=aag h1.2;subst e1 e2;obtain ⟨c,q1,q2⟩:=hT t (by rw [hk]; simp);rw [hk] at q2;exact ⟨c,q1,q2⟩
   .cases h1
  .rw [bq e] at hi ⊢;exact BN hT hl.2 h i hi
def dh.aeI {t:dh} {v:t.ps.T} (hs:ba s s') (h0:bG E R w β s a) (h:bG E R' w' β' s' a') (st:Ext R w R' w') (hd:t.dec s s'=some v) :
  bG E (R'.cut s.G.length) w' β' (t.st s v) a'/\Ext R w (R'.cut s.G.length) w'/\∀ k cs,fm (t.st s v).boxes k=some cs->∃ iO,fm s'.boxes k=some iO:=by
 have hlen:=h0.g.len;unfold dh.dec at hd;cases gl:t.ok s s' with
 |false=>rw [gl] at hd; cases hd
 |true=>
 rw [gl] at hd;simp only [cond_true] at hd;unfold dh.ok at gl;simp only [aad] at gl;obtain ⟨⟨⟨⟨⟨k1,k2⟩,k3⟩,k4⟩,k5,k7,k8⟩,k6⟩:=gl;obtain ⟨pre,Ky⟩:=hs.sl;obtain ⟨preB,acr⟩:=hs.bx;rw [Ky,KO] at k1;rw [acr,KO] at k2;have k3:=PA k3;have k4:=aag k4;split at hd
 .rename_i la lb lc g1 g2 g3;cases hv:t.ps.RA (oo t.g lc) (la++(lb++lc)) with
  |none=>rw [hv] at hd; cases hd
  |some v'=>
  rw [hv] at hd;simp only [ab7] at hd;cases htk:fD (t.wD v') t.g s.G s'.G with
  |false=>rw [htk] at hd; cases hd
  |true=>
  rw [htk] at hd;cases hd;have lsl:∀ {ts:List Tmp} {l:List AV},Ed s'.ae ts=some l->l.length=ts.length:=by
   intro ts
   induction ts with
   |nil=>intro l hl; simp only [Ed] at hl; cases hl; rfl
   |cons t ts ih=>
    intro l hl;unfold Ed at hl;split at hl
    .split at hl
     .rename_i hr;cases hl;simp [ih hr]
     .cases hl
    .cases hl
  have lbx:∀ {bx:List (Nat×Nat)} {l:List AV},Ee s'.boxes bx=some l->l.length=Is bx:=by
   intro bx
   induction bx with
   |nil=>intro l hl; simp only [Ee] at hl; cases hl; rfl
   |cons x bx ih=>
    obtain ⟨k,m⟩:=x;intro l hl;unfold Ee at hl;split at hl
    .split at hl
     .rename_i cs _ _ r hr;cases hm:aaJ cs.length m with
      |false=>rw [hm] at hl; cases hl
      |true=>
       rw [hm] at hl;cases hl;simp only [Is,aaR,ih hr,aag hm]
     .cases hl
    .cases hl
  obtain ⟨hw,hex⟩:=t.ps.YB _ hv;have acs:t.wD v=t.ps.pD (oo t.g lc) v:=by
   unfold dh.wD;congr 1;funext i;have hl:=hex.ajY.trans (t.ps.uQ (oo t.g lc) (λ _=>0) v);have Yw:=(hl.drop t.sl.length).drop (Is t.bx);rw [<- lsl g1,aba,<- lbx g2,aba,lsl g1,lbx g2] at Yw;exact (eN t.g i Yw).symm
  have hu:aY s.G.length (t.wD v)=true:=by
   rw [acs,t.ps.RB _ hv];exact t.ps.NK _ k5 _
  rw [<- acs] at hw hex;have hvs:∃ xa xb xc,t.wD v=xa++(xb++xc)/\eD la xa/\eD lb xb/\eD lc xc/\xa.length=la.length/\xb.length=lb.length/\Th lc xc:=by
   obtain ⟨xa,r,h1,h2,h3,h4⟩:=hw.split;obtain ⟨xb,xc,rfl,h6,h7,h8⟩:=h3.split;rw [h1] at hex;obtain ⟨ya,yr,g1,_,g3,g4⟩:=hex.split;obtain ⟨_,rfl⟩:=acd g1 (by rw [h4,g4]);obtain ⟨yb,yc,k1,_,k3,k4⟩:=g3.split;obtain ⟨_,rfl⟩:=acd k1 (by rw [h8,k4]);exact ⟨xa,xb,xc,h1,h2,h6,h7,h4,h8,k3⟩
  obtain ⟨xa,xb,xc,hx,wa,wb,wc,la1,lb1,exc⟩:=hvs;have hu':aY s.G.length xa=true/\aY s.G.length xb=true/\aY s.G.length xc=true:=by
   rw [hx,gX,gX] at hu;simp only [aad] at hu;exact ⟨hu.1,hu.2.1,hu.2.2⟩
  have e1:(t.wD v).drop t.sl.length=xb++xc:=by rw [hx,<- lsl g1,<- la1,aba]
  have e2:(xb++xc).drop (Is t.bx)=xc:=by rw [<- lbx g2,<- lb1,aba]
  have yh:Cl s.G.length t.g xc:=by
   have hf:=((a6.KR s.G.length _ t.ps v).drop t.sl.length).drop (Is t.bx) (l:=(t.wD v).drop t.sl.length);rw [e1,e2] at hf;exact iU t.g k7 hf
  have old:∀ {l:List AV} {cs:List Value},bj R w l cs->aY s.G.length l=true:=λ hr=>hr.under (by omega)
  have mv:=th R' s.G.length;have hbx:∀ k cs,fm s'.boxes k=some cs->Ei R' w' β' k cs:=λ k cs hk=>h.b.box k cs hk
  have bok:∀ k cs,fm (BL t.bx (xb++xc) s.boxes) k=some cs->Ei (R'.cut s.G.length) w' β' k cs/\∃ iO,fm s'.boxes k=some iO:=λ k cs hk=>by
   refine KQ (K:=λ _=>False) hbx g2 wb hu'.2.1 (λ k cs _ h1 h2=>?_) k cs (λ h=>h) hk;refine ⟨by rw [acr]; exact KN h1 h2 k2,?_⟩;obtain ⟨⟨vs,el,_,h4,_⟩,_⟩:=h0.b.box k cs h2;exact old h4
  have stG:(t.st s v).G=fH (t.wD v) t.g s.G xc:=by simp only [dh.st,e1,e2]
  have UJ:(t.st s v).boxes=BL t.bx (xb++xc) s.boxes:=by simp only [dh.st,e1]
  have stS:(t.st s v).ae=uS t.lps (uR t.sl (xa++(xb++xc)) (Ef t.W s.ae)):=by simp only [dh.st,hx]
  have ext:Ext R w (R'.cut s.G.length) w':=⟨st.I,st.cell,λ id ro hi=>by
   obtain ⟨oN,h1,h2⟩:=st.obj id ro hi;exact ⟨oN,oE.2 ⟨by have:=bX hi; omega,h1⟩,h2⟩,st.lp⟩
  refine ⟨⟨⟨?_,λ id go ro h1 h2=>?_,λ i j ri rj b h1 h2=>h.g.inj i j ri rj b (oE.1 h1).2 (oE.1 h2).2,h.g.wf,λ g cs hg=>(h.g.fU g cs hg).move mv (dO _ (E.HN g cs hg)),h.g.lo⟩,?_,?_,?_,?_⟩,ext,λ k cs hk=>?_⟩
  .rw [stG,eM,k4];have:=h.g.len;have h3:s.G.length<=R'.obj.length:=by
    rcases ab9 R'.obj.length s.G.length with du|FR
    .exfalso;have hx:R'.obj.length < R.obj.length:=by omega
     obtain ⟨oN,h1,_⟩:=st.obj R'.obj.length R.obj[R'.obj.length] (by rw [bk]; exact abC hx);have:=bX h1;omega
    .exact FR
   simp [ak.cut];omega
  .rw [stG] at h1;obtain ⟨go',h3,h4⟩:=j6 g3 wc exc ⟨yh,k8⟩ hu'.2.2 htk id go h1;rcases h4 with h4|⟨Te,h5,h4⟩
   .exact (h.g.obj id go' ro h3 (oE.1 h2).2).gok h4
   .have du:=bX h5;rw [<- hlen] at du;obtain ⟨ro0,h6⟩:∃ ro0,nth R.obj id=some ro0:=⟨R.obj[id],by rw [bk]; exact abC du⟩;obtain ⟨oN,h7,h8⟩:=ext.obj id ro0 h6;have:oN=ro:=acf (h7.symm.trans h2);subst this;exact ku.lok ext (h0.g.obj id Te ro0 h5 h6) h8 (h.g.obj id go' oN h3 (oE.1 h2).2) h4
  .rw [UJ];refine ⟨λ k cs hk=>(bok k cs hk).1,λ k k' cs iO hk mr he=>?_⟩;obtain ⟨_,c1,JC⟩:=bok k cs hk;obtain ⟨_,c2,Nq⟩:=bok k' iO mr;exact h.b.inj k k' c1 c2 JC Nq he
  .rw [stS];have hT:Eg (R'.cut s.G.length) w' β' (λ _=>False) (uR t.sl (xa++(xb++xc)) (Ef t.W s.ae)) a'.tmps:=by
    refine BM mv h.t g1 (l':=xa) (r:=lb++lc) (r':=xb++xc) (wa.append (wb.append wc)) la1.symm hu'.1 (Eh λ i hi hn=>?_);have hi1:inK t.sl t.W i=false:=by
     simp only [inK,Bool.or_eq_false_iff];refine ⟨?_,?_⟩
     .cases hc:XF t.sl i with
      |false=>rfl
      |true=>exact absurd (.inr (.inl (It.1 hc))) hi
     .cases hc:XF t.W i with
      |false=>rfl
      |true=>exact absurd (.inl (It.1 hc)) hi
    have hk:=Iv hi1 k1;rw [<- Ky] at hk;obtain ⟨c,h1,h2⟩:=h.t i (by rw [hk]; exact hn);rw [hk] at h2;refine ⟨c,h1,?_⟩;obtain ⟨c0,_,h4⟩:=h0.t i hn;revert h2 h4;cases lk s.ae i with
    |none=>exact λ _ _=>trivial
    |lp k off=>exact λ h2 _=>h2
    |v x=>exact λ h2 h4=>Rel.move mv (Rel.under (by omega) h4) h2
   exact BN h.t k6 (λ i hi=>hT i (λ h=>h) hi)
  .show a'.tmps.size=s.n;rw [h.n,hs.n]
  .show wB _ s.marks a'.defers;have:=h.d;rw [k3] at this;exact this.cut λ id cG=>by have:=h0.d.ids id cG; omega
  .rw [UJ] at hk;exact (bok k cs hk).2
 .cases hd
def dh.JD {t:dh} {v:t.ps.T} (hs:ba s s') (h0:bG E R w β s a) (h:bG E R' w' β' s' a') (st:Step R w β s.boxes R' w' β' s'.boxes) (hd:t.dec s s'=some v) :
  bG E (R'.cut s.G.length) w' β' (t.st s v) a'/\Step R w β s.boxes (R'.cut s.G.length) w' β' (t.st s v).boxes:=by
 obtain ⟨h1,h2,h3⟩:=dh.aeI hs h0 h st.ext hd;refine ⟨h1,h2,st.os,st.tape,st.output,st.size,st.keep,λ b hb ho=>st.own b hb ?_,st.im⟩;rcases ho with ho|⟨k,cs,hk,rfl⟩
 .exact .inl (KP ho)
 .obtain ⟨c1,JC⟩:=h3 k cs hk;exact .inr ⟨k,c1,JC,rfl⟩
end JD
abbrev GL.kp : GL := .keep
abbrev GL.rw : GL := .row 1
def iV:bT->bT
 |[]=>[]
 |.put d (.lp _ _)::l=>.put d .none::iV l
 |.put d x::l=>.put d x::iV l
 |.kill _::l=>iV l
def SV.Ga:SV->SV
 |.lp _ _=>.none
 |x=>x
theorem vO (t:Nat):∀ l:bT,lk (iV l) t=(lk l t).Ga
 |[]=>rfl
 |.put d x::l=>by
  cases x <;> simp only [iV] <;> by_cases e:d=t <;> first | (subst e; rw [aS,aS]; rfl) | (rw [bq e,bq e]; exact vO t l)
 |.kill d::l=>by
  simp only [iV,lk];rw [vO t l];cases lk l t with
  |lp k off=>
   by_cases e:k=d
   .subst e; simp [SV.Ga]
   .simp [sS e,SV.Ga]
  |_=>rfl
def oF:∀ l:bT,O3 (iV l)=true
 |[]=>rfl
 |.put d x::l=>by
  cases x <;> simp only [iV,O3] <;> exact oF l
 |.kill d::l=>by simp only [iV]; exact oF l
def rfQ (E:Env) (Q:Exit->St->Prop) (s:St) (G':List GO):Prop:=
 match nth G' (s.G.length+1) with
 |some (.loop busy pending _ _ _ _ _ _ _ done)=>(busy=false\/done=true) /\
  match pending with
  |none=>Q .normal ⟨s.ae,s.boxes,aC G' (s.G.length+1) .dead,s.G.length::s.marks,s.ro,s.n⟩
  |some c=>iT E c Q ⟨s.ae,s.boxes,aC G' (s.G.length+1) .dead,s.G.length::s.marks,s.ro,s.n⟩
 |_=>False
def Em (h:busy=false\/done=true):(if done=true then LoopState.done else if busy=true then adf else LoopState.ready)≠adf:=by
 rcases h with rfl|rfl
 .cases done <;> simp
 .simp
def iT.rangeFunc {E:Env} {Q:Exit->St->Prop} {s:St} (fp:Nat) {g:Operand} {ps:Array Tmp} {assign body:Code} (ck:s.ro=none) {f:FuncId} {first cap:List AV} (hg:cK E s.ae g=.v (.fn f first cap))
  (h:eI E f (first++[.yield (s.G.length+1)]++cap) (s.G++[.defers true]++[.loop false none fp (iV s.ae) s.n ps.toList assign body s.G.length false]) (λ _ G'=>rfQ E Q s G')) :
  iT E (.rangeFunc g ps assign body) Q s:=λ R w β a F hr hf=>by
 rw [ck] at hf;have hf':F=aa5:=hf;subst hf';refine wpIn_rangeFunc λ fn _=>?_
 have rg:=bi hr g;rw [hg] at rg;have rg':Rel R w (.fn f first cap) (a.eval g):=rg
 have hd1:ku (R.add (.cN w.heap.size)) (w.alloc (.deferred (some []))) (.defers true) (.cN w.heap.size):=heap_alloc_new w _;have h1:=hr.qT (.deferred (some [])) (.defers true) (.cN w.heap.size) (by exact λ _ h=>h) hd1;have s1:=fI hr (.deferred (some [])) (.cN w.heap.size) (by exact λ _ h=>h);have iJ:(w.alloc (.deferred (some []))).heap.size=w.heap.size+1:=by simp
 generalize hw1:w.alloc (.deferred (some []))=w1 at *;generalize hR1:R.add (.cN w.heap.size)=R1 at *
 let oa:Loop:={ state:=.ready,pending:=none,fn:=fn,tmps:=a.tmps,params:=ps,assign:=assign,body:=body,defers:=w.heap.size }
 have aj4:nth R1.obj s.G.length=some (.cN w.heap.size):=by rw [<- hR1]; exact kJ hr _
 have e2:Ext R1 w1 (R1.add (.cN w1.heap.size)) (w1.alloc (.loop oa)):=kI h1.g.wf _ _;have Un:ku (R1.add (.cN w1.heap.size)) (w1.alloc (.loop oa)) (.loop false none fp (iV s.ae) s.n ps.toList assign body s.G.length false) (.cN w1.heap.size):=by
  refine ⟨⟨oa,w.heap.size,heap_alloc_new w1 _,rfl,rfl,λ i hi=>?_,hr.n,by simp [oa],rfl,rfl,rfl,e2.cN aj4⟩,oF _⟩;rw [vO] at hi ⊢;have de:lk s.ae i≠.none:=λ e=>hi (by rw [e]; rfl)
  obtain ⟨c,k1,k2⟩:=hr.t i de;refine ⟨c,k1,?_⟩;cases hx:lk s.ae i with
  |none=>exact absurd hx de
  |lp k off=>rw [hx] at hi; exact absurd rfl hi
  |v x=>
   rw [hx] at k2;exact Rel.mono (s1.ext.trans e2) (show Rel R w x c from k2)
 have h2:=h1.qT (.loop oa) (.loop false none fp (iV s.ae) s.n ps.toList assign body s.G.length false) (.cN w1.heap.size) (by exact λ _ h=>h) Un;have s2:=fI h1 (.loop oa) (.cN w1.heap.size) (by exact λ _ h=>h);have UK:nth (R1.add (.cN w1.heap.size)).obj (s.G.length+1)=some (.cN w1.heap.size):=by
  have:=kJ h1 (.cN w1.heap.size);simpa [St.gj] using this
 have st:=s1.trans s2;generalize hR2:R1.add (.cN w1.heap.size)=R2 at *;generalize hfv:a.eval g=fv at rg';cases rg' with
 | @fn _ _ _ vs us q1 q2=>
 refine ⟨w.heap.size+1,[{ target:=.collected w.heap.size,args:=#[] }],w1.alloc (.loop oa),{ target:=.fn (.func f) ⟨us⟩,args:=⟨vs⟩++#[.func (.yield (w.heap.size+1)) #[] #[]] },w1.alloc (.loop oa),f,
  ⟨vs++[.func (.yield (w.heap.size+1)) #[] #[]]++us⟩,w1.alloc (.loop oa),?_,?_,?_,?_,?_,?_⟩
 .have:aa5.round=none:=rfl;rw [this,run_enterLoop_outer,hw1]
 .simp only [resolve,hfv,acM,Sem.run_pure];simp [Act.eval]
 .intro f' _;exact trivial
 .have:=s5 (P:=E.P) h.1 (⟨vs++[.func (.yield (w.heap.size+1)) #[] #[]]++us⟩) (w1.alloc (.loop oa));simpa [invoke] using this
 .intro hc; cases hc
 .have hG:(s.gj (.defers true)).gj (.loop false none fp (iV s.ae) s.n ps.toList assign body s.G.length false)=s.cM (s.G++[.defers true]++[.loop false none fp (iV s.ae) s.n ps.toList assign body s.G.length false]):=rfl;have hyl:Rel R2 (w1.alloc (.loop oa)) (.yield (s.G.length+1)) (.func (.yield (w.heap.size+1)) #[] #[]):=by
   rw [<- iJ];exact .yield UK
  refine (h.2 R2 (w1.alloc (.loop oa)) _ h2.g ((((q1.mono st.ext).append (.one hyl)).append (q2.mono st.ext)))).mono ?_;intro e w3 he;cases e with
  |panicked c=>exact he.elim
  |outgrown=>exact he.elim
  |returned c=>
   obtain ⟨r,G',R3,hQ,iR,hg3,st3⟩:=he;obtain ⟨p1,p2⟩:=h2.vF hg3 st3;unfold rfQ at hQ;split at hQ
   .rename_i busy pending ff sl nn pp xz bd dd done En;obtain ⟨hbd,hQ⟩:=hQ;have UL:nth R3.obj (s.G.length+1)=some (.cN w1.heap.size):=st3.ext.cN UK;obtain ⟨⟨r3,db,l1,l2,l3,_,_,_,_,_,_,_⟩,_⟩:=p1.g.obj _ _ _ En UL;have NL:r3.state≠.busy:=by rw [l2]; exact Em hbd
    have l1':w3.heap[w.heap.size+1]?=some (.loop r3):=by rw [<- iJ]; exact l1
    refine ⟨r3.pending,_,run_endLoop l1' NL,?_⟩;rw [l3]
    have aj5:nth R3.obj s.G.length=some (.cN w.heap.size):=st3.ext.cN (by rw [<- hR2] at e2 ⊢; exact e2.cN aj4);have key:∀ x:Obj,sX x->(∀ r,Obj.loop r3=.loop r->∃ r',x=.loop r'/\uv r r')->bG E R3 (World.put w3 w1.heap.size x) β ⟨s.ae,s.boxes,aC G' (s.G.length+1) .dead,s.G.length::s.marks,s.ro,s.n⟩ { a with defers:=[{ target:=.collected w.heap.size,args:=#[] }]++a.defers }/\Step R w β s.boxes R3 (World.put w3 w1.heap.size x) β s.boxes:=λ x hx hlx=>by
     obtain ⟨z1,z2⟩:=p1.setObj (x':=x) (go':=.dead) UL l1 trivial hx hlx (show w1.heap.size < _ by simp [World.put]; exact cu l1);exact ⟨⟨z1.g,z1.b,z1.t,z1.n,⟨⟨w.heap.size,aj5,rfl⟩,z1.d⟩⟩,(st.trans p2).trans z2⟩
    obtain ⟨z1,z2⟩:=key (.loop { r3 with state:=.exhausted,pending:=pending }) trivial (λ r e=>⟨_,rfl,by cases e; exact ⟨rfl,rfl,rfl,rfl,rfl⟩⟩);rw [iJ] at z1 z2;cases pending with
    |none=>exact ⟨_,R3,β,hQ,z1,z2,rfl⟩
    |some c=>
     refine wpIn_mono (hQ R3 _ β _ aa5 z1 (by show cQ R3 s.ro aa5; rw [ck]; rfl)) ?_;rintro e a'' X3 ⟨JB,TD,β'',Uo,DI,wO,BG⟩;exact ⟨JB,TD,β'',Uo,DI,z2.trans wO,BG⟩
   .exact hQ.elim
def aeK (E:Env) (Q:Exit->St->Prop) (s:St) (G':List GO):Prop:=
 match nth G' s.G.length with
 |some (.loop busy pending _ _ _ _ _ _ _ done)=>(busy=false\/done=true) /\
  match pending with
  |none=>Q .normal ⟨s.ae,s.boxes,aC G' s.G.length .dead,s.marks,s.ro,s.n⟩
  |some c=>iT E c Q ⟨s.ae,s.boxes,aC G' s.G.length .dead,s.marks,s.ro,s.n⟩
 |_=>False
def iT.NM {s:St} (fp:Nat) {g:Operand} {id:Nat} (ck:s.ro=some id)
  {n0:Nat} {d0:Nat} (cG:nth s.G id=some (.loop bu0 p0 fn0 sl0 n0 ps0 as0 bd0 d0 dn0))
  {f:FuncId} (hg:cK E s.ae g=.v (.fn f first cap))
  (h:eI E f (first++[.yield s.G.length]++cap) (s.G++[.loop false none fp (iV s.ae) s.n ps.toList assign body d0 false]) (λ _ G'=>aeK E Q s G')) :
  iT E (.rangeFunc g ps assign body) Q s:=λ R w β a F hr hf=>by
 rw [ck] at hf;obtain ⟨b0,hb0,hF⟩:=hf;subst hF;obtain ⟨⟨r0,db0,x1,x2,x3,x4,x5,x6,x7,x8,x9,NN⟩,KT⟩:=hr.g.obj _ _ _ cG hb0;refine wpIn_rangeFunc λ fn _=>?_
 have rg:=bi hr g;rw [hg] at rg;have rg':Rel R w (.fn f first cap) (a.eval g):=rg
 let oa:Loop:={ state:=.ready,pending:=none,fn:=fn,tmps:=a.tmps,params:=ps,assign:=assign,body:=body,defers:=r0.defers }
 have e2:Ext R w (R.add (.cN w.heap.size)) (w.alloc (.loop oa)):=kI hr.g.wf _ _;have Un:ku (R.add (.cN w.heap.size)) (w.alloc (.loop oa)) (.loop false none fp (iV s.ae) s.n ps.toList assign body d0 false) (.cN w.heap.size):=by
  refine ⟨⟨oa,db0,heap_alloc_new w _,rfl,rfl,λ i hi=>?_,hr.n,by simp [oa],rfl,rfl,x9,e2.cN NN⟩,oF _⟩;rw [vO] at hi ⊢;have de:lk s.ae i≠.none:=λ e=>hi (by rw [e]; rfl)
  obtain ⟨c,k1,k2⟩:=hr.t i de;refine ⟨c,k1,?_⟩;cases hx:lk s.ae i with
  |none=>exact absurd hx de
  |lp k off=>rw [hx] at hi; exact absurd rfl hi
  |v x=>
   rw [hx] at k2;exact Rel.mono e2 (show Rel R w x c from k2)
 have h2:=hr.qT (.loop oa) (.loop false none fp (iV s.ae) s.n ps.toList assign body d0 false) (.cN w.heap.size) (by exact λ _ h=>h) Un;have st:=fI hr (.loop oa) (.cN w.heap.size) (by exact λ _ h=>h);have UK:nth (R.add (.cN w.heap.size)).obj s.G.length=some (.cN w.heap.size):=kJ hr _;generalize hR2:R.add (.cN w.heap.size)=R2 at *;generalize hfv:a.eval g=fv at rg';cases rg' with
 | @fn _ _ _ vs us q1 q2=>
 refine ⟨w.heap.size,[],w.alloc (.loop oa),{ target:=.fn (.func f) ⟨us⟩,args:=⟨vs⟩++#[.func (.yield w.heap.size) #[] #[]] },w.alloc (.loop oa),f,
  ⟨vs++[.func (.yield w.heap.size) #[] #[]]++us⟩,w.alloc (.loop oa),?_,?_,?_,?_,?_,?_⟩
 .have:(aa5.inRound b0).round=some b0:=rfl;rw [this];exact run_enterLoop_inner x1 _ _ _ _ _
 .simp only [resolve,hfv,acM,Sem.run_pure];simp [Act.eval]
 .intro f' _;exact trivial
 .have:=s5 (P:=E.P) h.1 (⟨vs++[.func (.yield w.heap.size) #[] #[]]++us⟩) (w.alloc (.loop oa));simpa [invoke] using this
 .intro hc; cases hc
 .have hyl:Rel R2 (w.alloc (.loop oa)) (.yield s.G.length) (.func (.yield w.heap.size) #[] #[]):=.yield UK;have G4:=(h.2 R2 (w.alloc (.loop oa)) _ h2.g ((((q1.mono st.ext).append (.one hyl)).append (q2.mono st.ext))));refine CallsIn.mono (F:=aa5.inRound b0) G4 ?_;intro e w3 he;cases e with
  |panicked c=>exact he.elim
  |outgrown=>exact he.elim
  |returned c=>
   obtain ⟨r,G',R3,hQ,iR,hg3,st3⟩:=he;obtain ⟨p1,p2⟩:=h2.vF hg3 st3;unfold aeK at hQ;split at hQ
   .rename_i busy pending ff sl nn pp xz bd dd done En;obtain ⟨hbd,hQ⟩:=hQ;have UL:nth R3.obj s.G.length=some (.cN w.heap.size):=st3.ext.cN UK;obtain ⟨⟨r3,db,l1,l2,l3,_,_,_,_,_,_,_⟩,_⟩:=p1.g.obj _ _ _ En UL;have NL:r3.state≠.busy:=by rw [l2]; exact Em hbd
    refine ⟨r3.pending,_,run_endLoop l1 NL,?_⟩;rw [l3];have key:∀ x:Obj,sX x->(∀ r,Obj.loop r3=.loop r->∃ r',x=.loop r'/\uv r r')->bG E R3 (World.put w3 w.heap.size x) β ⟨s.ae,s.boxes,aC G' s.G.length .dead,s.marks,s.ro,s.n⟩ { a with defers:=[]++a.defers }/\Step R w β s.boxes R3 (World.put w3 w.heap.size x) β s.boxes:=λ x hx hlx=>by
     obtain ⟨z1,z2⟩:=p1.setObj (x':=x) (go':=.dead) UL l1 trivial hx hlx (show w.heap.size < _ by simp [World.put]; exact cu l1);exact ⟨⟨z1.g,z1.b,z1.t,z1.n,z1.d⟩,(st.trans p2).trans z2⟩
    obtain ⟨z1,z2⟩:=key (.loop { r3 with state:=.exhausted,pending:=pending }) trivial (λ r e=>⟨_,rfl,by cases e; exact ⟨rfl,rfl,rfl,rfl,rfl⟩⟩);cases pending with
    |none=>exact ⟨_,R3,β,hQ,z1,z2,rfl⟩
    |some c=>
     refine wpIn_mono (hQ R3 _ β _ (aa5.inRound b0) z1 (by show cQ R3 s.ro _; rw [ck]; exact ⟨b0,st3.ext.cN (e2.cN hb0),rfl⟩)) ?_;rintro e a'' X3 ⟨JB,TD,β'',Uo,DI,wO,BG⟩;exact ⟨JB,TD,β'',Uo,DI,z2.trans wO,BG⟩
   .exact hQ.elim
def NO (id:Nat) (Q:Bool->List GO->Prop):Exit->St->Prop:=λ e s=>match nth s.G id with
 |some (.loop _ _ fn sl n ps xz bd d _)=>match e with
  |.normal=>Q true (aC s.G id (.loop false none fn sl n ps xz bd d false))
  |.ret=>Q false (aC s.G id (.loop false (some .ret) fn sl n ps xz bd d true))
  |.exit i=>Q false (aC s.G id (.loop false (some (.exit i)) fn sl n ps xz bd d true))
  |_=>False
 |_=>False
def Iw (E:Env) (id:Nat) (body:Code) (Q:Bool->List GO->Prop):Exit->St->Prop:=λ e s=>match e with
 |.normal=>match nth s.G id with
  |some (.loop false p fn sl n ps xz bd d false)=>iT E body (NO id Q) (s.cM (aC s.G id (.loop true p fn sl n ps xz bd d false)))
  |_=>False
 |_=>False
def Eo:List Tmp->List AV->bT->bT
 |t::ts,a::l,r=>Eo ts l (.put t (.v a)::r)
 |_,_,r=>r
def St.round (id:Nat) (ae:bT) (n:Nat) (G:List GO):St:=⟨ae,[],G,[],some id,n⟩
def Ep {R:ak} {w:World} {β:Nat->Nat}:∀ {ts:List Tmp} {l:List AV} {cs:List Value} {r:bT} {tmps:Array Value},uw R w β r tmps->bj R w l cs->l.length=ts.length->(∀ t∈ts,t < tmps.size) ->
  uw R w β (Eo ts l r) ((ts.zip cs).foldl (λ tmps (t,a)=>tmps.setIfInBounds t a) tmps)
 |[],[],_,_,_,h,.nil,_,_=>h
 |t::ts,a::l,c::cs,r,tmps,h,.cons hx hl,hlen,ht=>by
  have iJ:t < tmps.size:=ht t (by simp);simp only [Eo,List.zip_cons_cons,List.foldl_cons];refine Ep ?_ hl (by simpa using hlen) (λ t' h'=>by simpa using ht t' (by simp [h']));have:=uw.put (a:={ tmps:=tmps,defers:=[] }) h (d:=t) (x:=.v a) (c:=c) iJ hx;simpa [Act.put] using this
 |[],_::_,_,_,_,_,_,hlen,_=>by simp at hlen
 |_::_,[],_,_,_,_,_,hlen,_=>by simp at hlen
def NP (l:List (Tmp×Value)):∀ tmps:Array Value,(l.foldl (λ (tmps:Array Value) (x:Tmp×Value)=>tmps.setIfInBounds x.1 x.2) tmps).size=tmps.size:=by
 induction l with
 |nil=>intro _; rfl
 |cons x l ih=>intro tmps; rw [List.foldl_cons,ih]; simp
def px.intro {args:List AV} {Q:Bool->List GO->Prop} {fn:FuncId} {n:Nat} {ps:List Tmp} {d:Nat} {p:Option Code}
  (hG:nth G id=some (.loop false p fn ae n ps assign body d false)) (hl:args.length=ps.length) (Td:∀ t∈ps,t < n)
  (h:iT E assign (Iw E id body Q) (St.round id (Eo ps args ae) n G)):px E id args G Q:=λ R w cs b hg hr hb=>by
 obtain ⟨⟨r,db,l1,l2,l3,l4,l5,l6,l7,l8,l9,cW⟩,cX⟩:=hg.obj id _ _ hG hb;have hlen:=hr.length;refine ⟨r,l1,by rw [l6]; simp; omega,?_⟩;have aox:Step R w (λ _=>0) kg R w (λ _=>0) kg:=Step.refl _ _ _ _;have aoy:bG E R w (λ _=>0) (St.round id (Eo ps args ae) n G) { tmps:=(r.params.zip ⟨cs⟩).foldl (λ tmps (t,a)=>tmps.setIfInBounds t a) r.tmps,defers:=[] }:=by
  have aj6:(r.params.zip ⟨cs⟩).foldl (λ (tmps:Array Value) (x:Tmp×Value)=>tmps.setIfInBounds x.1 x.2) r.tmps=(ps.zip cs).foldl (λ (tmps:Array Value) (x:Tmp×Value)=>tmps.setIfInBounds x.1 x.2) r.tmps:=by
   rw [<- Array.foldl_toList];simp [l6]
  refine ⟨hg,⟨λ k cs hk=>?_,λ k k' c c' hk=>?_⟩,?_,?_,trivial⟩
  .simp [St.round,fm] at hk
  .simp [St.round,fm] at hk
  .show uw _ _ _ _ _;have:=Ep (ts:=ps) (l:=args) (cs:=cs) l4 hr hl (λ t ht=>by rw [l5]; exact Td t ht);rw [<- aj6] at this;exact this
  .show _=n;have:=NP (ps.zip cs) r.tmps;rw [<- aj6] at this;exact this.trans l5
 have Yn:∀ (k:Nat) (cs:List AV),fm (St.round id (Eo ps args ae) n G).boxes k≠some cs:=λ k cs hk=>by simp [St.round,fm] at hk
 rw [l7,l8];refine roundIn_of_wpIn trivial (wpIn_mono (h R w (λ _=>0) _ (aa5.inRound b) aoy ⟨b,hb,rfl⟩) ?_);rintro e a1 w1 ⟨s1,R1,β1,hq,Mm,st1,aoz⟩;unfold Iw at hq;cases e with
 |normal=>
  simp only at hq;split at hq
  .rename_i p' fn' sl' n' ps' YE bd' d' hG1;have Kz:nth R1.obj id=some (.cN b):=st1.ext.cN hb;obtain ⟨⟨r1,db1,m1,m2,m3,m4,m5,m6,m7,m8,m9,m10⟩,m11⟩:=Mm.g.obj id _ _ hG1 Kz;refine ⟨_,run_beginRound m1 m2,?_⟩;obtain ⟨z1,z2⟩:=Mm.setObj (x':=.loop { r1 with state:=.busy }) (go':=.loop true p' fn' sl' n' ps' YE bd' d' false) Kz m1 trivial trivial (λ r e=>⟨_,rfl,by cases e; exact ⟨rfl,rfl,rfl,rfl,rfl⟩⟩)
    ⟨⟨{ r1 with state:=.busy },db1,kA _ _ _ (cu m1),rfl,m3,m4.mono (sY (x':=.loop { r1 with state:=.busy }) m1 trivial trivial (λ r e=>⟨_,rfl,by cases e; exact ⟨rfl,rfl,rfl,rfl,rfl⟩⟩)),m5,m6,m7,m8,m9,m10⟩,m11⟩
   refine wpIn_mono (hq R1 _ β1 a1 (aa5.inRound b) z1 (by show cQ R1 s1.ro _; rw [aoz]; exact ⟨b,Kz,rfl⟩)) ?_;rintro e2 a2 w2 ⟨s2,R2,β2,Ix,Kk,Ti,KU⟩;unfold NO at Ix;split at Ix
   .rename_i bu2 p2 fn2 sl2 n2 ps2 as2 bd2 d2 dn2 hG2;have aj8:=(st1.trans z2).trans Ti;have Tg:nth R2.obj id=some (.cN b):=aj8.ext.cN hb;obtain ⟨⟨r2,db2,o1,o2,o3,o4,o5,o6,o7,o8,o9,XG⟩,UM⟩:=Kk.g.obj id _ _ hG2 Tg;have fin:∀ (j:Option Code),Ie E R w (λ b' G'=>G'=aC s2.G id (.loop false j fn2 sl2 n2 ps2 as2 bd2 d2 (!j.isNone))/\b'=j.isNone) (.returned (.bool j.isNone)) (w2.putObj b (.loop { r2 with state:=if j.isNone then .ready else .done,pending:=j })):=λ j=>by
     obtain ⟨y1,y2⟩:=Kk.setObj (x':=.loop { r2 with state:=if j.isNone then .ready else .done,pending:=j }) (go':=.loop false j fn2 sl2 n2 ps2 as2 bd2 d2 (!j.isNone)) Tg o1 trivial trivial (λ r e=>⟨_,rfl,by cases e; exact ⟨rfl,rfl,rfl,rfl,rfl⟩⟩)
      ⟨⟨{ r2 with state:=if j.isNone then .ready else .done,pending:=j },db2,kA _ _ _ (cu o1),by cases j <;> rfl,rfl,o4.mono (sY (x':=.loop { r2 with state:=if j.isNone then .ready else .done,pending:=j }) o1 trivial trivial (λ r e=>⟨_,rfl,by cases e; exact ⟨rfl,rfl,rfl,rfl,rfl⟩⟩)),o5,o6,o7,o8,o9,XG⟩,UM⟩
     exact ⟨_,_,R2,⟨rfl,rfl⟩,rfl,y1.g,DM (aj8.trans y2) Yn⟩
    have mk:∀ (j:Option Code),Q j.isNone (aC s2.G id (.loop false j fn2 sl2 n2 ps2 as2 bd2 d2 (!j.isNone)))->∃ v w',(Instr.endRound b j).run E.P w2=.ok v w'/\Ie E R w Q (.returned v) w':=λ j hQ=>by
     refine ⟨_,_,run_endRound j o1,?_⟩;obtain ⟨r',G',R',⟨h1,h2⟩,h3⟩:=fin j;subst h1; subst h2;exact ⟨_,_,R',hQ,h3⟩
    cases e2 with
    |normal=>exact mk none Ix
    |ret=>exact mk (some .ret) Ix
    |exit i=>exact mk (some (.exit i)) Ix
    |_=>exact Ix.elim
   .exact Ix.elim
  .exact hq.elim
 |_=>exact hq.elim
section
def cw (E:Env) (g:FuncId) (args:List AV) (Q:AV->Prop):Prop:=∀ G,eI E g args G (λ r G'=>G'=G/\Q r)
def cw.mono {g:FuncId} {args:List AV} {Q Q':AV->Prop} (h:cw E g args Q) (hq:∀ r,Q r->Q' r):cw E g args Q':=
 λ G=>(h G).mono λ r _ hh=>⟨hh.1,hq r hh.2⟩
def cw.of {g:FuncId} {args:List AV} {p:aF} {Q:p.T->Prop} (hc:aY 0 args=true) (hp:p.under 0=true)
  (h:eI E g args [] (λ r _=>∃ y,p.dec r=some y/\Q y)):cw E g args (λ r=>∃ y,r=p.enc y/\Q y):=λ G=>by
 refine ⟨h.1,λ R w cs hg hl=>?_⟩
 let R0:ak:=⟨R.I,[]⟩
 have m0:Mv R R0 0:=⟨λ _ _ h=>h,λ _ _ h=>absurd h (ab5 _)⟩;have hg0:ij E R0 w []:=⟨rfl,λ id go ro h1 _=>by simp [nth] at h1,λ i j ri rj b h1=>by simp [R0,nth] at h1,hg.wf,λ g cs Dn=>(hg.fU g cs Dn).move m0 (dO _ (E.HN g cs Dn)),hg.lo⟩;have CL:bj R0 w args cs:=hl.move m0 hc;refine (h.2 R0 w cs hg0 CL).mono λ e w' he=>?_
 cases e with
 |panicked c=>exact he.elim
 |outgrown=>exact he.elim
 |returned c=>
  obtain ⟨r,G',R1,⟨y,hy,hQ⟩,iR,Tj,st⟩:=he;have pj:∀ b,¬ Own R0 (λ _=>0) kg b:=λ b ho=>by
   obtain ⟨id,ro,h1,_⟩:=jo ho;simp [R0,nth] at h1
  let R2:ak:=⟨R1.I,R.obj⟩
  have e:Ext R w R2 w':=⟨st.ext.I,st.ext.cell,λ id ro h=>⟨ro,h,dy.refl ro⟩,st.ext.lp⟩;have keep:∀ b,b < w.heap.size->w'.heap[b]?=w.heap[b]?:=λ b hb=>st.keep b hb (pj b)
  have im:∀ b o,b < w.heap.size->R1.I b o->R.I b o:=λ b o hb hi=>st.im b o hi hb (pj b)
  have hd:=p.xj hy;have m:Mv R1 R2 0:=⟨λ _ _ h=>h,λ _ _ h=>absurd h (ab5 _)⟩;refine ⟨p.enc y,G,R2,⟨rfl,y,rfl,hQ⟩,Rel.move m (p.fQ y hp) (hd.kj _ _ _ iR),⟨hg.len,λ id go ro h1 h2=>?_,hg.inj,Tj.wf,λ g cs Dn=>(hg.fU g cs Dn).mono e,Tj.lo⟩,⟨e,st.os,st.tape,st.output,st.size,λ b hb _=>keep b hb,λ b _ ho=>?_,λ b o hi hb _=>im b o hb hi⟩⟩
  .refine (hg.obj id go ro h1 h2).mono e (λ b hb=>keep b ?_) (λ b o hb hi=>im b o ?_ hi)
   .exact (hg.obj id go ro h1 h2).lt hb
   .exact (hg.obj id go ro h1 h2).lt hb
  .exact ho
def iT.aoE {c:Code} (h:iT E c (λ e s'=>ba s s'/\Q' e s') s)
  (hq:∀ e s',Q' e s'->∃ (t:dh) (v:t.ps.T),t.dec s s'=some v/\Q e (t.st s v)):iT E c Q s:=λ R w β a F hr hf=>by
 refine wpIn_mono (h R w β a F hr hf) ?_;rintro e a' w' ⟨s',R',β',⟨hx,hq'⟩,nu,mh,ck⟩;obtain ⟨t,v,hd,hQ⟩:=hq e s' hq';obtain ⟨h1,h2⟩:=dh.JD hx hr nu mh hd;exact ⟨_,_,β',hQ,h1,h2,rfl⟩
def iT.jQ {c:Code} {Q:Exit->St->Prop} {l:List (Loc×Nat×TypeId)} (hs:Am.jQ l s=some s') (h:iT E c Q s'):iT E c Q s:=λ R w β a F hr hf=>by
 obtain ⟨R1,k1,k2,k3,_⟩:=mD hr hs;refine wpIn_mono (h R1 w β a F k1 (by rw [k3]; exact hf.mono k2.ext)) ?_;rintro e a' w' ⟨s2,R2,β2,hq,Kk,Ti,KU⟩;exact ⟨s2,R2,β2,hq,Kk,k2.trans Ti,KU.trans k3⟩
end
def UN (s:St) (dst:Option Tmp) (x:SV):Option (Bool×St×St):=match x with
 |.v (.ptr id 0)=>match nth s.G id with
  |some (.ke l pos)=>some (aaN pos l.length,(s.cM (aC s.G id (.ke l (pos+(iQ l pos).2)))).put dst (.v (.cD [.bool true,.int .i64 pos,.int .i32 (iQ l pos).1])),s.put dst (.v (.cD [.bool false])))
  |_=>none
 |_=>none
def NQ {s:St} {b:Bool} {s1 s2:St} (h:UN s dst x=some (b,s1,s2)):qA s dst x=some (bif b then s1 else s2):=by
 unfold UN at h;split at h
 .split at h
  .rename_i l pos hg;cases h;simp only [qA,hg];cases aaN pos l.length <;> rfl
  .cases h
 .cases h
def PB {e:EK} {k:AV}:∀ {es:List (AV×AV)},bL e k es=true->om e k es=some (gO e k es)
 |[],_=>rfl
 |(k',v)::l,h=>by
  simp only [bL,aad] at h;obtain ⟨b,hb⟩:=aca.1 h.1;simp only [om,gO,AD,hb];cases b
  .simp only [cond_false]; exact PB h.2
  .rfl
def UO {e:EK} {k v:AV}:∀ {es:List (AV×AV)},bL e k es=true->AA e k v es=some (eL e k v es)
 |[],_=>rfl
 |(k',v')::l,h=>by
  simp only [bL,aad] at h;obtain ⟨b,hb⟩:=aca.1 h.1;simp only [AA,eL,AD,hb];cases b
  .simp only [cond_false,UO h.2]
  .rfl
mutual
def aF.flat:aF->Bool
 |.int _=>true
 |.bool=>true
 |.str=>true
 |.agg ps=>ps.flat
 |.bC _ _ p=>p.flat
 |_=>false
def a6.flat:a6->Bool
 |.nil=>true
 |.cons p ps=>p.flat&&ps.flat
end
def Er {α:Type} {f:AV->Bool} {d:AV->α} {g:α->AV} (h:∀ a,f a=true->g (d a)=a):∀ {es:List AV},allFit f es=true->(es.map d).map g=es
 |[],_=>rfl
 |a::l,hl=>by
  simp only [allFit,aad] at hl;rw [abN,abN,h a hl.1,Er h hl.2]
mutual
theorem aF.nE:∀ {p:aF},p.flat=true->∀ {a:AV},p.fits a=true->p.enc (p.bW a)=a
 |.int k,_,a,h=>by
  cases a <;> first | (cases h; done) | skip
  have hk:kEq _ _=true:=h;rw [MG hk]; rfl
 |.bool,_,a,h=>by cases a <;> first | (cases h; done) | rfl
 |.str,_,a,h=>by cases a <;> first | (cases h; done) | rfl
 |.agg ps,hp,a,h=>by
  cases a <;> first | (cases h; done) | skip
  exact congrArg AV.agg (a6.nE (ps:=ps) hp h)
 |.cD _,hp,_,_=>by cases hp
 |.list _ _,hp,_,_=>by cases hp
 |.own _ _ _,hp,_,_=>by cases hp
 |.bC id sz p,hp,a,h=>by
  cases a <;> first | (cases h; done) | skip
  rename_i k cr es;cases k <;> first | (cases h; done) | skip
  rename_i nV j;simp only [aF.fits,aad] at h;have e1:=aag h.1.1;have e2:=aag h.1.2;subst e1 e2;have hp:p.flat=true:=hp;show AV.list (.bC id j) sz ((es.map p.bW).map p.enc)=_;rw [Er (λ a ha=>aF.nE hp ha) h.2]
 |.bD _,hp,_,_=>by cases hp
 |.two _ _,hp,_,_=>by cases hp
theorem a6.nE:∀ {ps:a6},ps.flat=true->∀ {l:List AV},ps.fits l=true->ps.enc (ps.bW l)=l
 |.nil,_,l,h=>by
  cases l with
  |nil=>rfl
  |cons _ _=>cases h
 |.cons p .nil,hp,l,h=>by
  simp only [a6.flat,aad] at hp;cases l with
  |nil=>cases h
  |cons a l=>
   simp only [a6.fits,aad] at h;cases l with
   |nil=>exact congrArg (λ x=>[x]) (aF.nE hp.1 h.1)
   |cons _ _=>cases h.2
 |.cons p (.cons q ps),hp,l,h=>by
  rw [a6.flat,aad] at hp;cases l with
  |nil=>cases h
  |cons a l=>
   rw [a6.fits,aad] at h;have h1:=aF.nE hp.1 h.1;have h2:=a6.nE (ps:=.cons q ps) hp.2 h.2;show p.enc (p.bW a)::(a6.cons q ps).enc ((a6.cons q ps).bW l)=a::l;rw [h1,h2]
end
def aF.acv:aF->Bool
 |.list _ q=>q.flat
 |p=>p.flat
def aF.RD {p:aF} (hp:p.acv=true) (h:p.fits v=true):p.enc (p.bW v)=JM (some p) v:=by
 cases p with
 |list sz q=>
  cases v with
  |list k n es=>
   have hb:((aaJ sz n || es.isEmpty)&&allFit q.fits es)=true:=h;rw [aad] at hb;show AV.list .bV sz ((es.map q.bW).map q.enc)=bif aaJ sz n || es.isEmpty then AV.list .bV sz es else AV.list k n es
   rw [hb.1,cond_true,Er (λ a=>aF.nE hp) hb.2]
  |_=>cases h
 |_=>exact aF.nE hp h
def CS (E:Env) (s:St) (t:TypeId) (m k:SV):Option (Bool×AV×Bool):=match JK E s.G t,E.ti t,mapOf s m,k with
 |some p,some i,some es,.v k=>match i.k with
  |.map kt _ (some z)=>match E.ti kt with
   |some j=>if j.ek.plain&&mX j.ek k&&p.acv then
     some (bL j.ek k es&&p.fits (bu j.ek k z es),p.enc (p.bW (bu j.ek k z es)),(gO j.ek k es).isSome)
    else none
   |none=>none
  |_=>none
 |_,_,_,_=>none
def zi {s:St} {b:Bool} (h:CS E s t m k=some (true,v,b)):qz E s t m k=some (v,b):=by
 unfold CS at h;split at h
 .rename_i p i es k h1 h2 h3;split at h
  .rename_i kt et z hk;split at h
   .rename_i j hj;split at h
    .rename_i hc;simp only [aad] at hc;injection h with h;injection h with h4 h;injection h with h5 h6;rw [aad] at h4;rw [aF.RD hc.2 h4.2] at h5;have e:om j.ek k es=some (gO j.ek k es):=PB h4.1;have yA:(j.ek.plain&&mX j.ek k)=true:=by rw [hc.1.1,hc.1.2]; rfl
     have e0:rI E s t m (.v k)=some ((gO j.ek k es).getD z,(gO j.ek k es).isSome):=by
      simp only [rI,h2,h3,hk,hj,yA,if_true,e];cases gO j.ek k es <;> rfl
     unfold qz;rw [e0,h1];unfold bu at h5;cases hg:gO j.ek k es with
     |none=>
      rw [hg] at h5 h6;subst h5 h6;rfl
     |some v'=>
      rw [hg] at h5 h6;subst h5 h6;rfl
    .cases h
   .cases h
  .cases h
 .cases h
def Iy (E:Env) (s:St) (t:TypeId) (m k x:SV):Option (Bool×St):=match E.ti t,m,k,x with
 |some i,.v (.map id),.v k,.v x=>match i.k,nth s.G id with
  |.map kt _ _,some (.map es)=>match E.ti kt with
   |some j=>if j.ek.plain&&mX j.ek k then some (bL j.ek k es,s.cM (aC s.G id (.map (eL j.ek k x es)))) else none
   |none=>none
  |_,_=>none
 |_,_,_,_=>none
def Iz (h:Iy E s t m k x=some (true,s')):gN E s t m k x=some s':=by
 unfold Iy at h;split at h
 .rename_i i id k x h1;split at h
  .rename_i kt _ _ es hk hg;split at h
   .rename_i j hj;split at h
    .rename_i hc;injection h with h;injection h with h4 h5;simp only [gN,h1,hk,hg,hj,hc,if_true,UO h4,h5]
    .cases h
   .cases h
  .cases h
 .cases h
def Es (E:Env) (s:St) (t:TypeId) (m k x:SV):Option (Bool×St):=match Iy E (s.cM (xi s x).2.2) t m k (xi s x).2.1 with
 |some (c,s')=>some ((xi s x).1&&c,s')
 |none=>none
def Gb (h:Es E s t m k x=some (true,s')):jA E s t m k x=some (true,s'):=by
 unfold Es at h;split at h
 .rename_i c s1 hs;obtain ⟨h1,rfl⟩:=cL h;rw [aad] at h1;obtain ⟨h1,rfl⟩:=h1;unfold jA;rw [Iz hs,h1]
 .cases h
def IA (s:St) (dst:Option Tmp) (elem esz cS:Nat) (k:LK) (sz:Nat) (es ys:List AV):Option (Bool×St×Bool×St):=
 match k with
 |.nil=>some (ys.isEmpty,s.put dst (.v (.list .nil sz es)),decide ((es.length+ys.length)*cS<=140737488355328),
   (s.cM (s.G++[.tok (es.length+ys.length) esz elem])).put dst (.v (.list (.own s.G.length) esz (es++ys))))
 |.full=>if aaJ sz esz then some (ys.isEmpty,s.put dst (.v (.list .full sz es)),decide ((es.length+ys.length)*cS<=140737488355328),
   (s.cM (s.G++[.tok (es.length+ys.length) esz elem])).put dst (.v (.list (.own s.G.length) esz (es++ys)))) else none
 |.own id=>match nth s.G id with
  |some (.tok f cr e')=>if aaJ cr esz&&aaJ e' elem&&aaJ sz esz then
    some (false,s,decide (f=es.length)&&decide ((es.length+ys.length)*cS<=140737488355328),
     (s.cM (Ty s.G id ys.length f esz elem)).put dst (.v (.list (.own id) esz (es++ys)))) else none
  |_=>none
 |.bC id j=>match nth s.G id with
  |some (.bC fs cr e')=>if aaJ cr esz&&aaJ e' elem&&aaJ sz esz then
    some (ys.isEmpty,s.put dst (.v (.list (.bC id j) sz es)),MC fs j es.length&&decide ((es.length+ys.length)*cS<=140737488355328),
     (s.cM (aC s.G id (.bC (FQ fs j (es.length+ys.length)) esz elem))).put dst (.v (.list (.bC id j) esz (es++ys)))) else none
  |_=>none
 |.bV=>none
def IB (s:St) (dst:Option Tmp) (elem esz cS id f off sz len:Nat) (ys:List AV):Option (Bool×St×Bool×St):=match nth s.G id with
 |some (.bO es cr e')=>if aaJ cr esz&&aaJ e' elem&&aaJ sz esz then
   some (false,s,decide (f=es.length)&&decide (off=0)&&decide (len=f)&&decide ((es.length+ys.length)*cS<=140737488355328),
    (s.cM (aC s.G id (.bO (es++ys) esz elem))).put dst (.v (.eK id (es.length+ys.length) 0 esz (es.length+ys.length)))) else none
 |_=>none
def IC (E:Env) (s:St) (dst:Option Tmp) (l:List AV) (tys:List TypeId):Option (Bool×St×Bool×St):=match l,tys with
 |[.list k sz es,.list _ cr ys],[t,u]=>match E.ti t with
  |some i=>match i.k with
   |.sl elem esz _ cS (some z)=>
    if aaJ cr esz&&aaJ t u&&ab6 1 esz&&ab6 1 cS&&aaJ z.cells.length esz&&z.bN then
     IA s dst elem esz cS k sz es ys
    else none
   |_=>none
  |none=>none
 |[.eK id f off sz len,.list _ cr ys],[t,u]=>match E.ti t with
  |some i=>match i.k with
   |.sl elem esz _ cS (some z)=>
    if aaJ cr esz&&aaJ t u&&ab6 1 esz&&ab6 1 cS&&aaJ z.cells.length esz&&z.bN then IB s dst elem esz cS id f off sz len ys else none
   |_=>none
  |none=>none
 |_,_=>none
def ID {s s1 s2:St} {k:LK} {b c:Bool} (h:IA s dst elem esz cS k sz es ys=some (b,s1,c,s2)) (hc:b=false->c=true) :
  ∃ v G',jz s.G elem esz cS (.list k sz es) ys=some (true,v,G')/\(s.cM G').put dst (.v v)=bif b then s1 else s2:=by
 unfold IA at h;cases k with
 |nil=>
  cases h;cases ys with
  |nil=>exact ⟨_,_,rfl,rfl⟩
  |cons y ys=>
   have hc:=hc rfl;exact ⟨_,_,by simp only [jz,hc],rfl⟩
 |full=>
  simp only at h;cases hs:aaJ sz esz with
  |false=>rw [hs] at h; cases h
  |true=>
   rw [hs] at h;cases h;cases ys with
   |nil=>exact ⟨_,_,rfl,rfl⟩
   |cons y ys=>
    have hc:=hc rfl;exact ⟨_,_,by simp only [jz,hs,if_true,hc],rfl⟩
 |own id=>
  simp only at h;split at h
  .rename_i f cr e' hg;split at h
   .rename_i fP;cases h;have hc:=hc rfl;cases ys with
    |nil=>
     simp only [aad] at fP;have e1:=aag fP.1.1;have e2:=aag fP.1.2;have e3:=aag fP.2;subst e1; subst e2; subst e3;refine ⟨_,_,rfl,?_⟩;simp only [cond_false,Ty,List.length_nil,Nat.add_zero,Da hg,List.append_nil]
    |cons y ys=>exact ⟨_,_,by simp only [jz,hg,fP,if_true,hc],rfl⟩
   .cases h
  .cases h
 |bC id j=>
  simp only at h;split at h
  .rename_i fs cr e' hg;split at h
   .rename_i fP;cases h;cases ys with
    |nil=>exact ⟨_,_,rfl,rfl⟩
    |cons y ys=>
     have hc:=hc rfl;exact ⟨_,_,by simp only [jz,hg,fP,if_true,hc],rfl⟩
   .cases h
  .cases h
 |bV=>cases h
def IE {s s1 s2:St} {id f off sz len:Nat} {b c:Bool} (h:IB s dst elem esz cS id f off sz len ys=some (b,s1,c,s2)) (hc:b=false->c=true) :
  ∃ v G',jz s.G elem esz cS (.eK id f off sz len) ys=some (true,v,G')/\(s.cM G').put dst (.v v)=bif b then s1 else s2:=by
 unfold IB at h;split at h
 .rename_i es cr e' hg;split at h
  .rename_i fP;cases h;have hc:=hc rfl;cases ys with
   |nil=>
    simp only [aad,decide_eq_true_eq] at hc fP;have e1:=aag fP.1.1;have e2:=aag fP.1.2;have e3:=aag fP.2;obtain ⟨⟨⟨h1,h2⟩,h3⟩,_⟩:=hc;subst e1; subst e2; subst e3; subst h1; subst h2; subst h3;refine ⟨_,_,rfl,?_⟩;simp only [cond_false,List.length_nil,Nat.add_zero,Da hg,List.append_nil]
   |cons y ys=>exact ⟨_,_,by simp only [jz,hg,fP,if_true,hc],rfl⟩
  .cases h
 .cases h
def IF {s s1 s2:St} {b c:Bool} (h:IC E s dst l tys=some (b,s1,c,s2)) (hcc:b=false->c=true):eX E s dst .append l tys=some (true,bif b then s1 else s2):=by
 unfold IC at h;split at h
 .rename_i k sz es k' cr ys t u;split at h
  .rename_i i hi;split at h
   .rename_i elem esz a1 cS z hk;split at h
    .rename_i hc;have yA:((aaJ cr esz || ys.isEmpty)&&aaJ t u&&ab6 1 esz&&ab6 1 cS&&aaJ z.cells.length esz&&z.bN)=true:=by
      simp only [aad] at hc ⊢;obtain ⟨⟨⟨⟨⟨c1,c2⟩,c3⟩,c4⟩,c5⟩,c6⟩:=hc;exact ⟨⟨⟨⟨⟨by rw [c1]; rfl,c2⟩,c3⟩,c4⟩,c5⟩,c6⟩
     obtain ⟨v,G',h1,h2⟩:=ID h hcc;simp only [eX,hi,hk,yA,if_true,h1,h2]
    .cases h
   .cases h
  .cases h
 .rename_i id f off sz len k' cr ys t u;split at h
  .rename_i i hi;split at h
   .rename_i elem esz a1 cS z hk;split at h
    .rename_i hc;have yA:((aaJ cr esz || ys.isEmpty)&&aaJ t u&&ab6 1 esz&&ab6 1 cS&&aaJ z.cells.length esz&&z.bN)=true:=by
      simp only [aad] at hc ⊢;obtain ⟨⟨⟨⟨⟨c1,c2⟩,c3⟩,c4⟩,c5⟩,c6⟩:=hc;exact ⟨⟨⟨⟨⟨by rw [c1]; rfl,c2⟩,c3⟩,c4⟩,c5⟩,c6⟩
     obtain ⟨v,G',h1,h2⟩:=IE h hcc;simp only [eX,hi,hk,yA,if_true,h1,h2]
    .cases h
   .cases h
  .cases h
 .cases h
def aeL (E:Env) (cut wk:Bool) (t:TypeId) (r:AV) (G:List GO):Option (Bool×AV×List GO):=match r with
 |.eK id f 0 sz len=>match nth G id,E.ti t with
  |some (.bO es cr _),some i=>match i.k with
   |.sl _ esz _ _ _=>if aaJ esz sz&&aaJ cr sz then
     bif cut then some (decide (f=es.length)&&decide (len<=es.length)&&aZ (Jx wk es),.list .bV sz (Jx wk (es.take len)),aC G id .dead)
     else some (decide (f=es.length)&&decide (len=es.length)&&aZ (Jx wk es),.list .bV sz (Jx wk es),aC G id .dead)
    else none
   |_=>none
  |_,_=>none
 |.ptr id 0=>match nth G id with
  |some (.row cs _)=>some (aZ cs,.ep cs,aC G id .dead)
  |_=>none
 |_=>none
def Et (E:Env) (cut wk:Bool):List TypeId->List AV->List GO->Bool×List AV×List GO
 |t::ts,r::rs,G=>match aeL E cut wk t r G with
  |some (c,r',G')=>match Et E cut wk ts rs G' with
   |(c',UP,FM)=>(c&&c',r'::UP,FM)
  |none=>match Et E cut wk ts rs G with
   |(c',UP,FM)=>(c',r::UP,FM)
 |_,rs,G=>(true,rs,G)
def aeM {X:Type} (E:Env) (cut wk:Bool) (ts:List TypeId) (K:AV->List GO->Option X) (r:AV) (G:List GO):Option X:=match r with
 |.cD rs=>match Et E cut wk ts rs G with
  |(c,UP,G')=>bif c then K (.cD UP) G' else none
 |r=>match Et E cut wk ts [r] G with
  |(c,[r'],G')=>bif c then K r' G' else none
  |_=>none
section
def YF {cut wk:Bool} {r r':AV} (hg:ij E R w G) (hr:Rel R w r c) (h:aeL E cut wk t r G=some (true,r',G')) :
  ∃ R',ij E R' w G'/\Rel R' w r' c/\Ext R w R' w/\R'.obj=R.obj/\∀ b o,R'.I b o->R.I b o\/Live R b:=by
 unfold aeL at h;split at h
 .rename_i id f sz len;obtain ⟨ro,ck⟩:∃ ro,nth R.obj id=some ro:=by
   cases hr with
   |pf q _=>exact ⟨_,q⟩
   |eK q _ _=>exact ⟨_,q⟩
  split at h
  .rename_i es cr el i cG hi;split at h
   .split at h
    .rename_i hc;rw [aad] at hc;have q1:=aag hc.2;subst q1;cases cut with
     |true=>
      simp only [cond_true] at h;injection h with h; injection h with h1 h; injection h with h2 h3;subst h2 h3;rw [aad,aad,decide_eq_true_eq,decide_eq_true_eq] at h1;obtain ⟨h1,nW⟩:=h1;obtain ⟨R',r1,r2,r3,r4,r5⟩:=pu (wk:=wk) hg cG h1.1 h1.2 nW ck;exact ⟨R',r1,r5 c hr,r2,r3,λ b o hi=>(r4 b o hi).imp_right λ hb=>⟨id,ro,ck,hb⟩⟩
     |false=>
      simp only [cond_false] at h;injection h with h; injection h with h1 h; injection h with h2 h3;subst h2 h3;rw [aad,aad,decide_eq_true_eq,decide_eq_true_eq] at h1;obtain ⟨h1,nW⟩:=h1;obtain ⟨R',r1,r2,r3,r4,r5⟩:=pu (wk:=wk) hg cG h1.1 (Nat.le_of_eq h1.2) nW ck;have r6:=r5 c hr;rw [h1.2,List.take_length] at r6;exact ⟨R',r1,r6,r2,r3,λ b o hi=>(r4 b o hi).imp_right λ hb=>⟨id,ro,ck,hb⟩⟩
    .cases h
   .cases h
  .cases h
 .rename_i id;split at h
  .rename_i cs el cG;injection h with h; injection h with h1 h; injection h with h2 h3;subst h2 h3;cases hr with
   | @ptr _ _ b ck=>
   obtain ⟨vs,b1,b2,b3,b4⟩:=hg.obj id _ _ cG ck;have r2:=Ib R w b;have r1:=hg.freeze ck rfl (show ku (R.all b) w .dead (.cN b) from cu b1);refine ⟨R.all b,r1,Rel.ep (jG.make (b2.mono r2) b3 (λ j v hv=>?_) (λ j _=>.inr rfl)),r2,rfl,λ b' o hi=>?_⟩
   .rw [uy b1,Nat.zero_add];exact hv
   .rcases hi with hi|rfl
    .exact .inl hi
    .exact .inr ⟨id,_,ck,rfl⟩
  .cases h
 .cases h
def CT {cut wk:Bool}:∀ {ts:List TypeId} {rs UP:List AV} {G G':List GO} {cs:List Value} {R:ak},ij E R w G->bj R w rs cs->Et E cut wk ts rs G=(true,UP,G') ->
  ∃ R',ij E R' w G'/\bj R' w UP cs/\Ext R w R' w/\R'.obj=R.obj/\∀ b o,R'.I b o->R.I b o\/Live R b
 |[],rs,UP,G,G',cs,R,hg,hr,h=>by
  cases rs <;> (simp only [Et] at h; cases h; exact ⟨R,hg,hr,Ext.refl R w,rfl,λ _ _ h=>.inl h⟩)
 |_::_,[],UP,G,G',cs,R,hg,hr,h=>by
  simp only [Et] at h; cases h; exact ⟨R,hg,hr,Ext.refl R w,rfl,λ _ _ h=>.inl h⟩
 |t::ts,r::rs,UP,G,G',cs,R,hg,hr,h=>by
  cases hr with
  |cons h0 hr=>
  unfold Et at h;split at h
  .rename_i c r' G1 h1;cases h2:Et E cut wk ts rs G1 with
   |mk c' q=>
   obtain ⟨rs2,G2⟩:=q;rw [h2] at h;simp only [Prod.mk.injEq,aad] at h;obtain ⟨⟨rfl,rfl⟩,rfl,rfl⟩:=h;obtain ⟨R1,a1,a2,a3,a4,a5⟩:=YF hg h0 h1;obtain ⟨R2,b1,b2,b3,b4,b5⟩:=CT a1 (hr.mono a3) h2;refine ⟨R2,b1,.cons (a2.mono b3) b2,a3.trans b3,b4.trans a4,λ b o ho=>?_⟩;rcases b5 b o ho with ho|ho
   .exact a5 b o ho
   .obtain ⟨id,ro,q1,q2⟩:=ho;rw [a4] at q1;exact .inr ⟨id,ro,q1,q2⟩
  .cases h2:Et E cut wk ts rs G with
   |mk c' q=>
   obtain ⟨rs2,G2⟩:=q;rw [h2] at h;simp only [Prod.mk.injEq] at h;obtain ⟨rfl,rfl,rfl⟩:=h;obtain ⟨R2,b1,b2,b3,b4,b5⟩:=CT hg hr h2;exact ⟨R2,b1,.cons (h0.mono b3) b2,b3,b4,b5⟩
def eI.frz {g:FuncId} {args:List AV} {cut wk:Bool} {x:X} (h:eI E g args G (λ r G'=>aeM E cut wk ts K r G'=some x)):eI E g args G (λ r G'=>K r G'=some x):=
 ⟨h.1,λ R w cs hg hl=>(h.2 R w cs hg hl).mono λ e w' he=>by
  cases e with
  |panicked c=>exact he.elim
  |outgrown=>exact he.elim
  |returned c=>
   obtain ⟨r,G',R1,hq,iR,Tj,st⟩:=he;have fin:∀ (r':AV) (G2:List GO) (R2:ak),K r' G2=some x->ij E R2 w' G2->Rel R2 w' r' c->Ext R1 w' R2 w'->R2.obj=R1.obj->(∀ b o,R2.I b o->R1.I b o\/Live R1 b)->yW E R w (λ r G'=>K r G'=some x) (.returned c) w':=by
    intro r' G2 R2 k1 k2 k3 k4 k5 k6;have live:∀ b,Live R2 b->Live R1 b:=λ b ⟨id,ro,q1,q2⟩=>⟨id,ro,by rw [<- k5]; exact q1,q2⟩
    refine ⟨r',G2,R2,k1,k3,k2,⟨st.ext.trans k4,st.os,st.tape,st.output,st.size,st.keep,λ b hb ho=>?_,λ b o hi hb hn=>?_⟩⟩
    .rcases ho with ho|⟨k,cs,hk,rfl⟩
     .exact st.own b hb (.inl (live b ho))
     .simp [kg,fm] at hk
    .rcases k6 b o hi with hi|hi
     .exact st.im b o hi hb hn
     .exact absurd (st.own b hb (.inl hi)) hn
   unfold aeM at hq;split at hq
   .rename_i rs;cases iR with
    |cD iR=>
    cases h2:Et E cut wk ts rs G' with
    |mk c' q=>
    obtain ⟨rs2,G2⟩:=q;rw [h2] at hq;cases c' with
    |false=>cases hq
    |true=>
     obtain ⟨R2,b1,b2,b3,b4,b5⟩:=CT Tj iR h2;exact fin (.cD rs2) G2 R2 hq b1 (.cD b2) b3 b4 b5
   .split at hq
    .rename_i c' r' G2 h2;cases c' with
     |false=>cases hq
     |true=>
      obtain ⟨R2,b1,b2,b3,b4,b5⟩:=CT Tj (.cons iR .nil) h2;cases b2 with
      |cons b2 _=>exact fin r' G2 R2 hq b1 b2 b3 b4 b5
    .cases hq⟩
end
inductive RP
 |RE (p:aF)
 |map (pe:aF)
 |ep (ps:a6)
def RP.T:RP->Type
 |.RE p=>p.T
 |.map pe=>List pe.T
 |.ep ps=>ps.T
variable {y:List pe.T}
def RP.enc (n:Nat):(p:RP)->p.T->AV
 |.RE p,x=>p.enc x
 |.map _,_=>.map n
 |.ep ps,x=>.ep (ps.enc x)
def RP.NR:(p:RP)->p.T->List GO
 |.RE _,_=>[]
 |.map pe,(x:List pe.T)=>[.map (ax (x.map pe.enc))]
 |.ep _,_=>[]
def RP.no:RP->Nat
 |.map _=>1
 |_=>0
def AZ:List RP->Type
 |[]=>Unit
 |[p]=>p.T
 |p::q::l=>p.T×AZ (q::l)
def uU:(n:Nat)->(l:List RP)->AZ l->List AV
 |_,[],_=>[]
 |n,[p],x=>[p.enc n x]
 |n,p::q::l,x=>p.enc n x.1::uU (n+p.no) (q::l) x.2
def kL:(l:List RP)->AZ l->List GO
 |[],_=>[]
 |[p],x=>p.NR x
 |p::q::l,x=>p.NR x.1++kL (q::l) x.2
structure RF where
 cD:Bool
 l:List RP
variable {outs:List RF}
def RF.val (f:RF) (n:Nat) (x:AZ f.l):AV:=bif f.cD then .cD (uU n f.l x) else hH (uU n f.l x)
def RP.is:RP->AV->Bool
 |.RE p,v=>match p with
  |.bD u=>eC v u
  |_=>true
 |.map _,v=>match v with
  |.map _=>true
  |_=>false
 |.ep _,v=>match v with
  |.ep _=>true
  |_=>false
def UQ:List RP->List AV->Bool
 |[],[]=>true
 |p::l,v::vs=>p.is v&&UQ l vs
 |_,_=>false
def RF.args (f:RF) (r:AV):List AV:=bif f.cD then r.adD else [r]
def RF.G5 (f:RF):AV->Bool
 |.cD _=>f.cD
 |_=>!f.cD
def IG (G:List GO) (used:List Nat) (pe:aF) (v:AV):Option (List pe.T):=match v with
 |.map id=>match nth G id with
  |some (.map es)=>bif XF used id then none else (bif allFit pe.fits (ab es) then some ((ab es).map pe.bW) else none)
  |_=>none
 |_=>none
def PC (ps:a6) (v:AV):Option ps.T:=match v with
 |.ep cs=>ps.dec cs
 |_=>none
def RP.dec (G:List GO) (used:List Nat):(p:RP)->AV->Option p.T
 |.RE p,v=>p.dec v
 |.map pe,v=>IG G used pe v
 |.ep ps,v=>PC ps v
def A0 (used:List Nat):AV->List Nat
 |.map id=>id::used
 |_=>used
def A1 (G:List GO):(used:List Nat)->(l:List RP)->List AV->Option (AZ l)
 |_,[],vs=>match vs with
  |[]=>some ()
  |_=>none
 |u,[p],vs=>match vs with
  |[v]=>p.dec G u v
  |_=>none
 |u,p::q::l,vs=>match vs with
  |v::vs=>(p.dec G u v).bind λ x=>(A1 G (A0 u v) (q::l) vs).bind λ y=>some (x,y)
  |[]=>none
def RF.dec (f:RF) (G:List GO) (r:AV):Option (AZ f.l):=bif f.G5 r then A1 G [] f.l (f.args r) else none
def RP.under:RP->Bool
 |.RE p=>p.under 0
 |.map pe=>pe.under 0
 |.ep ps=>ps.under 0
def RF.under (f:RF):Bool:=f.l.all RP.under&&(f.cD || aaJ f.l.length 1)
def XT:List RF->Type
 |[]=>Empty
 |[f]=>AZ f.l
 |f::g::l=>AZ f.l⊕XT (g::l)
def RG (G:List GO) (r:AV):(l:List RF)->Option (XT l)
 |[]=>none
 |[f]=>f.dec G r
 |f::g::l=>bif f.G5 r&&UQ f.l (f.args r) then (f.dec G r).bind λ x=>some (.inl x) else (RG G r (g::l)).bind λ x=>some (.inr x)
def goX {α:Type} (G:List GO) (K:AV->List GO->α):(l:List RF)->XT l->α
 |[],o=>Empty.rec (λ _=>α) o
 |[f],o=>K (f.val G.length o) (G++kL f.l o)
 |f::g::l,o=>Sum.elim (λ v=>K (f.val G.length v) (G++kL f.l v)) (λ o=>goX G K (g::l) o) o
def KV {α:Type} {G:List GO} {K:AV->List GO->α} {r:AV} {G':List GO}:∀ (l:List RF) (o:XT l),goX G (λ r0 G0=>r=r0/\G'=G0) l o->K r G'=goX G K l o
 |[],o,_=>nomatch o
 |[f],o,h=>by
  have h:r=f.val G.length o/\G'=G++kL f.l o:=h;rw [h.1,h.2]; rfl
 |f::g::l,.inl v,h=>by
  have h:r=f.val G.length v/\G'=G++kL f.l v:=h;rw [h.1,h.2]; rfl
 |f::g::l,.inr o,h=>KV (g::l) o h
def tj (E:Env) (g:FuncId) (args:List AV) (outs:List RF) (Q:XT outs->Prop):Prop:=
 ∀ G,eI E g args G (λ r G'=>∃ y,Q y/\goX G (λ r0 G0=>r=r0/\G'=G0) outs y)
section
def fO.acw (m:Mv R R2 0):∀ {es:List (AV×AV)} {l:List AV} {aQ:List MapEntry},n8 (ab es) l->aY 0 l=true->fO R w es aQ->fO R2 w (ax l) aQ
 |[],[],[],_,_,_=>trivial
 |[],[],_::_,_,_,h=>h.elim
 |[],_::_,_,h,_,_=>h.elim
 |(_,_)::_,[],_,h,_,_=>h.elim
 |(_,_)::_,_::_,[],_,_,h=>h.elim
 |(k,v)::es,a::l,en::aQ,hd,hu,h=>by
  obtain ⟨d1,d2⟩:=hd;simp only [aY,aad] at hu;have hc:=d1.cells rfl;have hl:[k,v].length=a.cells.length:=hc.length;cases a with
  |agg cs=>
   match cs,hc,hl with
   |[k',v'],hc,_=>
    have hua:aY 0 [k',v']=true:=hu.1;simp only [aY,aaL,aad] at hua;exact ⟨(hc.1 _ _ _ h.1).move m hua.1,(hc.2.1 _ _ _ h.2.1).move m hua.2,fO.acw m d2 hu.2 h.2.2⟩
   |[],_,hl=>simp [AV.cells] at hl
   |[_],_,hl=>simp [AV.cells] at hl
   |_::_::_::_,_,hl=>simp [AV.cells] at hl
  |_=>simp [AV.cells] at hl
def aF.Eu {p:aF} (h:p.under 0=true):∀ l:List p.T,aY 0 (l.map p.enc)=true
 |[]=>rfl
 |x::l=>by
  show ((p.enc x).under 0&&aY 0 (l.map p.enc))=true;rw [p.fQ x h,aF.Eu h l];rfl
def Ev (R:ak) (n:Nat) (bs:List Nat):Prop:=∀ k b,nth bs k=some b->nth R.obj (n+k)=some (.cN b)
def PD (R:ak) (w:World) (gs:List GO) (bs:List Nat):Prop:=∀ k go b,nth gs k=some go->nth bs k=some b->ku R w go (.cN b)
def RP.acx (p:RP) (x:p.T):(p.NR x).length=p.no:=by cases p <;> rfl
def UR {ps:a6} {y:ps.T} (h:PC ps v=some y):∃ cs,v=.ep cs/\ps.dec cs=some y:=by
 unfold PC at h;split at h
 .exact ⟨_,rfl,h⟩
 .cases h
def RH (h:IG G used pe v=some y):∃ id es,v=.map id/\nth G id=some (.map es)/\id∉used/\n8 (ab es) (y.map pe.enc):=by
 unfold IG at h;split at h
 .rename_i id;split at h
  .rename_i es FK;cases hu:XF used id with
   |true=>rw [hu] at h; cases h
   |false=>
    rw [hu,cond_false] at h;cases hf:allFit pe.fits (ab es) with
    |false=>rw [hf] at h; cases h
    |true=>
     rw [hf,cond_true] at h;have hy:=acf h;refine ⟨id,es,rfl,FK,λ hm=>?_,?_⟩
     .rw [It.2 hm] at hu; cases hu
     .rw [<- hy]; exact n8.of (λ v hv=>pe.fF hv) hf
  .cases h
 .cases h
def NS (h:id∈used):id∈A0 used v:=by
 unfold A0;split
 .exact ab3 _ h
 .exact h
def IH (R1:ak) (w:World) (used:List Nat) (v:AV) (c:Value) (p:RP) (y:p.T):Prop:=
 ∃ bs:List Nat,bs.length=p.no/\(∀ b∈bs,∃ id,id∉used/\id∈A0 used v/\nth R1.obj id=some (.cN b)) /\
   ∀ (R2:ak) (n:Nat),(∀ b o,R1.I b o->R2.I b o)->Ev R2 n bs->Rel R2 w (p.enc n y) c/\PD R2 w (p.NR y) bs
def mvI {R2:ak} (hI:∀ b o,R1.I b o->R2.I b o):Mv R1 R2 0:=⟨hI,λ _ _ h=>absurd h (ab5 _)⟩
def RP.aeN {p:aF} {y:p.T} (hp:p.under 0=true) (hv:Rel R1 w v c) (hd:p.dec v=some y):IH R1 w used v c (.RE p) y:=
 ⟨[],rfl,(λ b hb=>by cases hb),λ R2 n hI _=>⟨Rel.move (mvI hI) (p.fQ y hp) ((p.xj hd).kj _ _ _ hv),λ k go b h=>by cases k <;> cases h⟩⟩
def RP.aj9 {ps:a6} {y:ps.T} (hp:ps.under 0=true) (hv:Rel R1 w v c) (hd:PC ps v=some y):IH R1 w used v c (.ep ps) y:=by
 obtain ⟨cs,rfl,hd⟩:=UR hd;cases hv with
 |ep hc=>
 exact ⟨[],rfl,(λ b hb=>by cases hb),λ R2 n hI _=>⟨.ep (jG.move (mvI hI) ((ps.xj hd).1.X6 hc) (ps.fQ y hp)),λ k go b h=>by cases k <;> cases h⟩⟩
def RP.aeO (hg:ij E R1 w G1) (hp:pe.under 0=true) (hv:Rel R1 w v c) (hd:IG G1 used pe v=some y):IH R1 w used v c (.map pe) y:=by
 obtain ⟨id,es,rfl,FK,hu,RI⟩:=RH hd;cases hv with
 |map hb=>
 rename_i b;refine ⟨[b],rfl,λ b' nt=>?_,λ R2 n hI uo=>⟨.map (by have:=uo 0 b rfl; simpa using this),λ k go b' h1 h2=>?_⟩⟩
 .rw [List.mem_singleton] at nt;subst nt;exact ⟨id,hu,List.mem_cons_self,hb⟩
 .cases k with
  |succ k=>cases h2
  |zero=>
   cases h1; cases h2;obtain ⟨aQ,clock,e1,e2,e3⟩:=hg.obj id _ _ FK hb;exact ⟨aQ,clock,e1,fO.acw (mvI hI) RI (aF.Eu hp y) e2,e3⟩
def RP.ok (hg:ij E R1 w G1) {p:RP} {c:Value} {y:p.T} (hp:p.under=true) (hv:Rel R1 w v c) (hd:p.dec G1 used v=some y):IH R1 w used v c p y:=by
 cases p with
 |RE p=>exact RP.aeN hp hv hd
 |ep ps=>exact RP.aj9 hp hv hd
 |map pe=>exact RP.aeO hg hp hv hd
def j7 {l r:List α} (h:i < l.length):nth (l++r) i=nth l i:=by
 rw [bk,bk,List.getElem?_append_left h]
def jr {l r:List α} (i:Nat):nth (l++r) (l.length+i)=nth r i:=by
 rw [bk,bk,List.getElem?_append_right (Nat.le_add_right _ _),Nat.add_sub_cancel_left]
def vP {l:List α} {x:α} (h:nth l i=some x):i < l.length:=by
 rw [bk] at h;exact (List.getElem?_eq_some_iff.1 h).1
def RPs.ok {G1:List GO} (hg:ij E R1 w G1):∀ {l:List RP} {used:List Nat} {vs:List AV} {cs:List Value} {y:AZ l},l.all RP.under=true->bj R1 w vs cs->A1 G1 used l vs=some y ->
  ∃ bs:List Nat,bs.length=(kL l y).length/\bs.Nodup/\(∀ b∈bs,∃ id,id∉used/\nth R1.obj id=some (.cN b)) /\
   ∀ (R2:ak) (n:Nat),(∀ b o,R1.I b o->R2.I b o)->Ev R2 n bs->bj R2 w (uU n l y) cs/\PD R2 w (kL l y) bs
 |[],used,vs,cs,y,_,hv,hd=>by
  cases vs with
  |cons _ _=>cases hd
  |nil=>
  cases hv;exact ⟨[],rfl,aci,(λ b hb=>by cases hb),λ R2 n _ _=>⟨.nil,λ k go b h=>by simp [kL,nth] at h⟩⟩
 |[p],used,vs,cs,y,hu,hv,hd=>by
  match vs,hv,hd with
  |[],_,hd=>cases hd
  |_::_::_,_,hd=>cases hd
  |[v],.cons hv .nil,hd=>
  have hu:p.under=true:=by simpa using hu
  obtain ⟨bs,h1,h2,h4⟩:=RP.ok hg hu hv hd;refine ⟨bs,h1.trans (p.acx y).symm,?_,λ b hb=>let ⟨id,q1,_,q2⟩:=h2 b hb; ⟨id,q1,q2⟩,λ R2 n hI uo=>?_⟩
  .have:bs.length<=1:=by rw [h1]; cases p <;> simp [RP.no]
   match bs,this with
   |[],_=>exact aci
   |[b],_=>simp
   |_::_::_,h=>simp at h
  .obtain ⟨k1,k2⟩:=h4 R2 n hI uo;exact ⟨.cons k1 .nil,k2⟩
 |p::q::l,used,vs,cs,y,hu,hv,hd=>by
  match vs,hv,hd with
  |[],_,hd=>cases hd
  |v::vs,.cons (c:=c) (cs:=cs) hv hvs,hd=>
  simp only [List.all_cons,aad] at hu;obtain ⟨hu1,hu2⟩:=hu;have hu2:(q::l).all RP.under=true:=by simpa using hu2
  have hd:((p.dec G1 used v).bind λ x=>(A1 G1 (A0 used v) (q::l) vs).bind λ y=>some (x,y))=some y:=hd;cases hx:p.dec G1 used v with
  |none=>rw [hx] at hd; cases hd
  |some x=>
  rw [hx] at hd;simp only [ab7] at hd;cases hz:A1 G1 (A0 used v) (q::l) vs with
  |none=>rw [hz] at hd; cases hd
  |some z=>
  rw [hz] at hd;simp only [ab7] at hd;cases hd;obtain ⟨bs,h1,h2,h4⟩:=RP.ok hg hu1 hv hx;obtain ⟨bs',k1,k0,k2,k4⟩:=RPs.ok hg hu2 hvs hz;have XC:bs.length=(p.NR x).length:=h1.trans (p.acx x).symm;refine ⟨bs++bs',?_,?_,λ b hb=>?_,λ R2 n hI uo=>?_⟩
  .show _=(p.NR x++kL (q::l) z).length;rw [aaR,aaR,XC,k1]
  .have Q7:bs.Nodup:=by
    have:bs.length<=1:=by rw [h1]; cases p <;> simp [RP.no]
    match bs,this with
    |[],_=>exact aci
    |[b],_=>simp
    |_::_::_,h=>simp at h
   rw [List.nodup_append];refine ⟨Q7,k0,λ a ha b hb e=>?_⟩;subst e;obtain ⟨id,_,q2,q3⟩:=h2 a ha;obtain ⟨nV,r1,r2⟩:=k2 a hb;have:id=nV:=hg.inj id nV _ _ a q3 r2 rfl rfl;subst this;exact r1 q2
  .rcases List.mem_append.1 hb with hb|hb
   .obtain ⟨id,q1,_,q2⟩:=h2 b hb;exact ⟨id,q1,q2⟩
   .obtain ⟨id,q1,q2⟩:=k2 b hb;exact ⟨id,λ hm=>q1 (NS hm),q2⟩
  .have at1:Ev R2 n bs:=λ k b hk=>uo k b (by rw [j7 (vP hk)]; exact hk)
   have at2:Ev R2 (n+p.no) bs':=λ k b hk=>by
    have:=uo (bs.length+k) b (by rw [jr]; exact hk);rw [h1] at this;rw [Nat.add_assoc]; exact this
   obtain ⟨a1,a2⟩:=h4 R2 n hI at1;obtain ⟨b1,b2⟩:=k4 R2 (n+p.no) hI at2;refine ⟨.cons a1 b1,λ k go b kx hb=>?_⟩;change nth (p.NR x++kL (q::l) z) k=some go at kx;rcases ab9 k bs.length with hk|hk
   .rw [j7 (by rw [<- XC]; exact hk)] at kx;rw [j7 hk] at hb;exact a2 k go b kx hb
   .obtain ⟨j,rfl⟩:∃ j,k=bs.length+j:=⟨k - bs.length,by omega⟩;rw [jr] at hb;rw [XC,jr] at kx;exact b2 j go b kx hb
def Ew:∀ (l:List RP) (n:Nat) (y:AZ l),(uU n l y).length=l.length
 |[],_,_=>rfl
 |[_],_,_=>rfl
 |p::q::l,n,y=>by
  show (uU (n+p.no) (q::l) y.2).length+1=(q::l).length+1;rw [Ew (q::l)]
def tj.of1 {f:RF} {r:AV} {y:AZ f.l} (hf:f.under=true) (hG:ij E R0 w0 G) (st:Step ⟨R0.I,[]⟩ w0 (λ _=>0) kg R1 w (λ _=>0) kg) (hg:ij E R1 w G1) (iR:Rel R1 w r c) (hd:f.dec G1 r=some y) :
  ∃ R2,Rel R2 w (f.val G.length y) c/\ij E R2 w (G++kL f.l y)/\Step R0 w0 (λ _=>0) kg R2 w (λ _=>0) kg:=by
 unfold RF.under at hf;rw [aad] at hf;unfold RF.dec at hd;obtain ⟨ht,hd⟩:f.G5 r=true/\A1 G1 [] f.l (f.args r)=some y:=by
  cases ht:f.G5 r with
  |true=>rw [ht] at hd; exact ⟨rfl,hd⟩
  |false=>rw [ht] at hd; cases hd
 obtain ⟨cs,xm,aka⟩:∃ cs,bj R1 w (f.args r) cs/\∀ R2 (x:AZ f.l) n,bj R2 w (uU n f.l x) cs->Rel R2 w (f.val n x) c:=by
  unfold RF.args RF.val;cases aoI:f.cD with
  |true=>
   have:∃ vs,r=.cD vs:=by
    cases r <;> first | exact ⟨_,rfl⟩ | (simp [RF.G5,aoI] at ht)
   obtain ⟨vs,rfl⟩:=this;cases iR with
   |cD h=>exact ⟨_,h,λ R2 x n h=>.cD h⟩
  |false=>
   refine ⟨[c],.cons iR .nil,λ R2 x n h=>?_⟩;simp only [cond_false];have hlen:=Ew f.l n x;revert h hlen;generalize uU n f.l x=l;intro h hlen;cases h with
   |cons h _=>exact h
 obtain ⟨bs,h1,h2,h3,h4⟩:=RPs.ok hg hf.1 xm hd;have pj:∀ b,¬ Own (⟨R0.I,[]⟩:ak) (λ _=>0) kg b:=λ b ho=>by
  obtain ⟨id,ro,q1,_⟩:=jo ho;simp [nth] at q1
 have xo:∀ b∈bs,w0.heap.size<=b:=λ b hb=>by
  obtain ⟨id,_,cG⟩:=h3 b hb;rcases ab9 b w0.heap.size with du|FR
  .exact absurd (st.own b du (.inl ⟨id,_,cG,rfl⟩)) (pj b)
  .exact FR
 let R2:ak:=⟨R1.I,R0.obj++bs.map RO.cN⟩
 have e:Ext R0 w0 R2 w:=⟨st.ext.I,st.ext.cell,λ id ro h=>⟨ro,by rw [j7 (vP h)]; exact h,dy.refl ro⟩,st.ext.lp⟩;have keep:∀ b,b < w0.heap.size->w.heap[b]?=w0.heap[b]?:=λ b hb=>st.keep b hb (pj b)
 have im:∀ b o,b < w0.heap.size->R1.I b o->R0.I b o:=λ b o hb hi=>st.im b o hi hb (pj b)
 have aoJ:∀ {k ro},nth (bs.map RO.cN) k=some ro->∃ b,nth bs k=some b/\ro=.cN b:=λ {k ro} h=>by
  rw [bk,List.getElem?_map] at h;cases hb:bs[k]? with
  |none=>rw [hb] at h; cases h
  |some b=>rw [hb] at h; exact ⟨b,by rw [bk]; exact hb,(acf h).symm⟩
 have uo:Ev R2 R0.obj.length bs:=λ k b hk=>by
  show nth (R0.obj++bs.map RO.cN) (R0.obj.length+k)=_;rw [jr,bk,List.getElem?_map];rw [bk] at hk;rw [hk]; rfl
 obtain ⟨k1,k2⟩:=h4 R2 R0.obj.length (λ _ _ h=>h) uo;rw [hG.len] at k1;have hold:∀ id ro,nth R2.obj id=some ro->nth R0.obj id=some ro\/∃ k b,id=R0.obj.length+k/\nth bs k=some b/\ro=.cN b:=λ id ro h=>by
  rcases ab9 id R0.obj.length with du|FR
  .exact .inl (by rw [<- j7 (r:=bs.map RO.cN) du]; exact h)
  .obtain ⟨k,rfl⟩:∃ k,id=R0.obj.length+k:=⟨id - R0.obj.length,by omega⟩;have h:nth (R0.obj++bs.map RO.cN) (R0.obj.length+k)=some ro:=h;rw [jr] at h;obtain ⟨b,q1,q2⟩:=aoJ h;exact .inr ⟨k,b,rfl,q1,q2⟩
 have acy:∀ id ro b,nth R0.obj id=some ro->ro.has b->b < w0.heap.size:=λ id ro b h hb=>by
  have hl:=vP h;rw [hG.len] at hl;have kx:nth G id=some G[id]:=by rw [bk]; exact abC hl
  exact (hG.obj id _ _ kx h).lt hb
 have aeP:∀ {k b},nth bs k=some b->b∈bs:=λ {k b} h=>by
  rw [bk] at h;exact List.mem_of_getElem? h
 refine ⟨R2,aka R2 y _ k1,⟨?_,λ id go ro q1 q2=>?_,λ i j ri rj b q1 q2 b1 b2=>?_,hg.wf,λ g cs Dn=>(hG.fU g cs Dn).mono e,hg.lo⟩,⟨e,st.os,st.tape,st.output,st.size,λ b hb _=>keep b hb,λ b hb ho=>?_,λ b o hi hb _=>im b o hb hi⟩⟩
 .show (R0.obj++bs.map RO.cN).length=_;rw [aaR,List.length_map,aaR,hG.len,h1]
 .rcases hold id ro q2 with q2|⟨k,b,rfl,q3,rfl⟩
  .have hl:=vP q2;rw [hG.len] at hl;rw [j7 hl] at q1;refine (hG.obj id go ro q1 q2).mono e (λ b hb=>keep b ?_) (λ b o hb hi=>im b o ?_ hi)
   .exact (hG.obj id go ro q1 q2).lt hb
   .exact (hG.obj id go ro q1 q2).lt hb
  .rw [hG.len,jr] at q1;exact k2 k go b q1 q3
 .rcases hold i ri q1 with q1|⟨k,a,rfl,q3,rfl⟩
  .rcases hold j rj q2 with q2|⟨k',a',rfl,q4,rfl⟩
   .exact hG.inj i j ri rj b q1 q2 b1 b2
   .have:b=a':=b2;subst this;have:=xo _ (aeP q4);have:=acy i ri b q1 b1;omega
  .have hba:b=a:=b1;subst hba;rcases hold j rj q2 with q2|⟨k',a',rfl,q4,rfl⟩
   .have:=xo _ (aeP q3);have:=acy j rj b q2 b2;omega
   .have:b=a':=b2;subst this;have l1:=vP q3;have l2:=vP q4;rw [bk] at q3 q4;have:=(List.getElem?_inj l1 h2).1 (q3.trans q4.symm);omega
 .rcases jo ho with ⟨id,ro,q1,q2⟩;rcases hold id ro q1 with q1|⟨k,a,rfl,q3,rfl⟩
  .exact .inl ⟨id,ro,q1,q2⟩
  .have:b=a:=q2;subst this;have:=xo _ (aeP q3);omega
def PE {G1:List GO} {r:AV}:∀ {outs:List RF} {y:XT outs},RG G1 r outs=some y->(∀ f∈outs,f.under=true) ->
  ∃ (f:RF) (z:AZ f.l),f.under=true/\f.dec G1 r=some z/\∀ {α:Type} (G:List GO) (K:AV->List GO->α),goX G K outs y=K (f.val G.length z) (G++kL f.l z)
 |[],_,h,_=>by cases h
 |[f],y,h,hu=>⟨f,y,hu f (by simp),h,λ _ _=>rfl⟩
 |f::g::l,y,h,hu=>by
  simp only [RG] at h;cases hb:(f.G5 r&&UQ f.l (f.args r)) with
  |true=>
   rw [hb] at h;simp only [cond_true] at h;cases hx:f.dec G1 r with
   |none=>rw [hx] at h; cases h
   |some x=>
    rw [hx] at h;cases h;exact ⟨f,x,hu f (by simp),hx,λ _ _=>rfl⟩
  |false=>
   rw [hb] at h;simp only [cond_false] at h;cases hx:RG G1 r (g::l) with
   |none=>rw [hx] at h; cases h
   |some x=>
    rw [hx] at h;cases h;obtain ⟨f',z,k0,k1,k2⟩:=PE hx (λ f hf=>hu f (ab3 _ hf));exact ⟨f',z,k0,k1,λ G K=>k2 G K⟩
def tj.of {g:FuncId} {args:List AV} {Q:XT outs->Prop} (hc:aY 0 args=true) (hp:∀ f∈outs,f.under=true)
  (h:eI E g args [] (λ r G'=>∃ y,RG G' r outs=some y/\Q y)):tj E g args outs Q:=λ G=>by
 refine ⟨h.1,λ R w cs hg hl=>?_⟩
 let R0:ak:=⟨R.I,[]⟩
 have m0:Mv R R0 0:=⟨λ _ _ h=>h,λ _ _ h=>absurd h (ab5 _)⟩;have hg0:ij E R0 w []:=⟨rfl,λ id go ro h1 _=>by simp [nth] at h1,λ i j ri rj b h1=>by simp [R0,nth] at h1,hg.wf,λ g cs Dn=>(hg.fU g cs Dn).move m0 (dO _ (E.HN g cs Dn)),hg.lo⟩;have CL:bj R0 w args cs:=hl.move m0 hc;refine (h.2 R0 w cs hg0 CL).mono λ e w' he=>?_
 cases e with
 |panicked c=>exact he.elim
 |outgrown=>exact he.elim
 |returned c=>
  obtain ⟨r,G',R1,⟨y,hy,hQ⟩,iR,Tj,st⟩:=he;obtain ⟨f,z,hf,hz,kx⟩:=PE hy hp;obtain ⟨R2,k1,k2,k3⟩:=tj.of1 hf hg st Tj iR hz;refine ⟨_,_,R2,⟨y,hQ,?_⟩,k1,k2,k3⟩;rw [kx];exact ⟨rfl,rfl⟩
end
def akb (s:St) (t:Tmp) (sz:Nat) (e:TypeId):Option (Bool×St):=match lk s.ae t with
 |.v (.list (.own id) cr es)=>match nth s.G id with
  |some (.tok f Mk e2)=>if aaJ cr sz&&(aaJ Mk sz&&aaJ e2 e) then
    some (decide (f=es.length),⟨.put t (.v (.list .bV sz es))::s.ae,s.boxes,aC s.G id .dead,s.marks,s.ro,s.n⟩) else none
  |_=>none
 |_=>none
section
def NT (R:ak) (w:World) (β:Nat->Nat) (bx:ew) (c:Value) (n sz:Nat) (e:TypeId) (ro:RO):Prop:=
 ku R w (.tok n sz e) ro/\(∀ b,ro.has b->¬ Live R b/\∀ k cs,fm bx k=some cs->β k≠b) /\
  ((c=.slice none 0 0/\ro=.bK)\/∃ b o len cap,c=.slice (some ⟨b,o,none⟩) len cap/\len=n/\Tz b o len cap ro)
def NT.mono {R R':ak} (h:NT R w β bx c n sz e ro) (hI:R'.I=R.I) (hl:∀ b,Live R' b->Live R b) (hb:∀ k cs,fm QZ k=some cs->∃ iO,fm bx k=some iO):NT R' w β QZ c n sz e ro:=by
 obtain ⟨h1,h2,h3⟩:=h;refine ⟨?_,λ b TG=>⟨λ q=>(h2 b TG).1 (hl b q),λ k cs hk=>let ⟨iO,mr⟩:=hb k cs hk; (h2 b TG).2 k iO mr⟩,h3⟩;cases ro with
 |tok f g c k=>
  obtain ⟨q1,cur,q2,q3,q4,q5,q6⟩:=h1;exact ⟨q1,cur,q2,q3,q4,q5,λ o ho=>by rw [hI]; exact q6 o ho⟩
 |bK=>exact h1
 |none=>exact h1.elim
 |cN _=>exact h1.elim
 |bC _=>exact h1.elim
end
end Go.Am
