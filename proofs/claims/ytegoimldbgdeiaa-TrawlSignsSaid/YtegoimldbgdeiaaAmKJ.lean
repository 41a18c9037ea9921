/- The abstract machine: what is asked of bodies; values are brought to a short form. -/
import Derived.Test.YtegoimldbgdeiaaAmKI
import Derived.RangeFuncIn
import Derived.RangeFuncRecord
import Derived.RangeFuncNested
set_option linter.all false
namespace Go.Am
open Go
def bF (dt:Nat→Option az):Code→Bool
 |.region id ops true=>match dt id with
  |some p=>Gv ops p
  |none=>false
 |.seq x y=>bF dt x&&bF dt y
 |.cond _ x y=>bF dt x&&bF dt y
 |.block _ c=>bF dt c
 |.loop c=>bF dt c
 |.scope c=>bF dt c
 |.rangeFunc _ _ a b=>bF dt a&&bF dt b
 |_=>true
structure SH extends Env where
 dt:FuncId→Nat→Option az
 okF:FuncId→Bool
 QI:∀ f fn c,okF f=true→P.funcs[f]?=some fn→fn.body=some c→bF (dt f) c=true
def ki {α:Type} (n:Nat) (K:Nat→α):α:=match n with
 |0=>K 0
 |m+1=>K (Nat.succ m)
def yU {α:Type} (n:Int) (K:Int→α):α:=match n with
 |.ofNat m=>ki m fun m=>K (.ofNat m)
 |.negSucc m=>ki m fun m=>K (.negSucc m)
def ql {α β:Type}:List β→(List β→α)→α
 |[],K=>K []
 |a :: l,K=>ql l fun l=>K (a :: l)
def CC {α:Type} (v:AV) (K:AV→α):α:=match v with
 |.int k n=>yU n fun n=>K (.int k n)
 |.bool true=>K (.bool true)
 |.bool false=>K (.bool false)
 |.list k sz es=>ql es fun es=>K (.list k sz es)
 |.str l=>ql l fun l=>K (.str l)
 |.jB id off sz len cap=>ki off fun off=>ki len fun len=>ki cap fun cap=>K (.jB id off sz len cap)
 |.ptr id off=>ki off fun off=>K (.ptr id off)
 |.agg cs=>ql cs fun cs=>K (.agg cs)
 |v=>K v
def CD {α:Type} (l:ba) (K:ba→α):α:=match l with
 |.put d (.v a) :: l=>CC a fun a=>K (.put d (.v a) :: l)
 |.put d (.lp k off) :: l=>ki off fun off=>K (.put d (.lp k off) :: l)
 |l=>K l
def CE {α:Type} (l:cD) (K:cD→α):α:=match l with
 |(d,cs) :: l=>ql cs fun cs=>K ((d,cs) :: l)
 |[]=>K []
def Gw {α:Type} (s:St) (K:St→α):α:=match s with
 |⟨sl,bx,G,m,ro,n⟩=>CD sl fun sl=>CE bx fun bx=>ql G fun G=>K ⟨sl,bx,G,m,ro,n⟩
theorem qm {α:Type} (n:Nat) (K:Nat→α):ki n K=K n:=by cases n <;> rfl
theorem Ei {α:Type} (n:Int) (K:Int→α):yU n K=K n:=by cases n <;> simp [yU,qm]
theorem qV {α β:Type}:∀ (l:List β) (K:List β→α),ql l K=K l
 |[],_=>rfl
 |a :: l,K=>by simp only [ql]; rw [qV]
theorem Gx {α:Type} (v:AV) (K:AV→α):CC v K=K v:=by
 unfold CC;split <;> simp [qm,Ei,qV]
theorem Gy {α:Type} (l:ba) (K:ba→α):CD l K=K l:=by
 unfold CD;split <;> simp [qm,Gx]
theorem Gz {α:Type} (l:cD) (K:cD→α):CE l K=K l:=by
 unfold CE;split <;> simp [qV]
theorem Jw {α:Type} (s:St) (K:St→α):Gw s K=K s:=by
 obtain ⟨sl,bx,G,m,ro,n⟩:=s;simp [Gw,Gy,Gz,qV]
def CF:SV→SV→Bool
 |.v a,.v b=>dv a b
 |.lp k o,.lp k' o'=>Nat.beq k k'&&Nat.beq o o'
 |_,_=>false
def ZK (E:Env) (f:FuncId) (ops:List Oper) (o:Oper) (s:St):Bool:=match Dn ops s o with
 |some true=>match o.dst,ak E f s o with
  |some d,some (c,s')=>c&&CF (lk s'.ae d) (lk s.ae d)
  |_,_=>false
 |some false=>true
 |none=>false
section
variable {E:Env} {f:FuncId} {s:St}
theorem BB {a b:SV} (h:CF a b=true):a=b:=by
 unfold CF at h;split at h
 ·rw [ka h]
 ·simp only [Bool.and_eq_true,Nat.beq_eq] at h; rw [h.1,h.2]
 ·cases h
theorem BC {ops:List Oper} {o:Oper} (h:ZK E f ops o s=true):Gk E f ops o s:=by
 unfold ZK at h;unfold Gk;split at h
 ·rename_i hg;rw [hg];simp only;split at h
  ·rename_i d c s' hd hs;rw [Bool.and_eq_true] at h;obtain ⟨rfl,h⟩:=h;rw [hd,hs];exact ⟨rfl,BB h⟩
  ·cases h
 ·rename_i hg;rw [hg];trivial
 ·cases h
end
end Go.Am
namespace Go.Am
open Go
mutual
def AV.under (n:Nat):AV→Bool
 |.agg cs=>aI n cs
 |.bD cs=>aI n cs
 |.ep cs=>aI n cs
 |.list (.own id) _ _=>Nat.blt id n
 |.list (.bc id _) _ _=>Nat.blt id n
 |.fn _ x y=>aI n x&&aI n y
 |.iface _ v=>v.under n
 |.ptr id _=>Nat.blt id n
 |.jB id _ _ _ _=>Nat.blt id n
 |.cZ id _ _ _ _=>Nat.blt id n
 |.gp id _ _ _ _ _=>Nat.blt id n
 |.map id=>Nat.blt id n
 |.yield id=>Nat.blt id n
 |_=>true
def aI (n:Nat):List AV→Bool
 |[]=>true
 |a :: l=>a.under n&&aI n l
end
mutual
theorem jo (n:Nat):∀ {a:AV},a.closed=true→a.under n=true:=fun {a} h=>by
 cases a with
 |agg cs=>simp only [AV.closed,AV.under] at *; exact cU n h
 |bD cs=>simp only [AV.closed,AV.under] at *; exact cU n h
 |ep cs=>simp only [AV.closed,AV.under] at *; exact cU n h
 |list k sz es=>cases k <;> simp_all [AV.closed,AV.under,LK.closed]
 |fn f x y=>
  simp only [AV.closed,AV.under,Bool.and_eq_true] at *;exact ⟨cU n h.1,cU n h.2⟩
 |iface t v=>simp only [AV.closed,AV.under] at *; exact jo n h
 |_=>simp_all [AV.closed,AV.under]
theorem cU (n:Nat):∀ {l:List AV},aF l=true→aI n l=true
 |[],_=>rfl
 |a :: l,h=>by
  simp only [aF,aI,Bool.and_eq_true] at *;exact ⟨jo n h.1,cU n h.2⟩
end
theorem qW {a b:Nat} (h:Nat.blt a b=true):a < b:=Nat.le_of_ble_eq_true h
mutual
theorem ny:∀ {a:AV},a.under 0=true→a.closed=true:=fun {a} h=>by
 cases a with
 |agg cs=>simp only [AV.closed,AV.under] at *; exact ft h
 |bD cs=>simp only [AV.closed,AV.under] at *; exact ft h
 |ep cs=>simp only [AV.closed,AV.under] at *; exact ft h
 |list k sz es=>cases k <;> first | rfl | (simp [AV.under] at h)
 |fn f x y=>
  simp only [AV.closed,AV.under,Bool.and_eq_true] at *;exact ⟨ft h.1,ft h.2⟩
 |iface t v=>simp only [AV.closed,AV.under] at *; exact ny h
 |ptr id off=>simp only [AV.under] at h; exact absurd (qW h) (Nat.not_lt_zero _)
 |jB id off sz len cap=>simp only [AV.under] at h; exact absurd (qW h) (Nat.not_lt_zero _)
 |cZ id f off sz len=>simp only [AV.under] at h; exact absurd (qW h) (Nat.not_lt_zero _)
 |gp id f i off sz t=>simp only [AV.under] at h; exact absurd (qW h) (Nat.not_lt_zero _)
 |map id=>simp only [AV.under] at h; exact absurd (qW h) (Nat.not_lt_zero _)
 |yield id=>simp only [AV.under] at h; exact absurd (qW h) (Nat.not_lt_zero _)
 |_=>rfl
theorem ft:∀ {l:List AV},aI 0 l=true→aF l=true
 |[],_=>rfl
 |a :: l,h=>by
  simp only [aI,aF,Bool.and_eq_true] at *;exact ⟨ny h.1,ft h.2⟩
end
section move
variable {R R2:ai} {w:World} {n:Nat}
structure Mv (R R2:ai) (n:Nat):Prop where
 I:∀ b o,R.I b o→R2.I b o
 obj:∀ id ro,id < n→nth R.obj id=some ro→nth R2.obj id=some ro
theorem kw {a b:Nat} (h:Nat.blt a b=true):a < b:=Nat.le_of_ble_eq_true h
theorem lP {a b:Nat} (h:a < b):Nat.blt a b=true:=Nat.ble_eq_true_of_le h
theorem Cd.move (m:Mv R R2 n) {k:LK} {b o len cap:Nat} (h:Cd R k b o len cap) (hk:∀ id,(k=.own id∨∃ j,k=.bc id j)→id < n):Cd R2 k b o len cap:=by
 cases k with
 |nil=>exact h
 |full=>exact h
 |ea=>trivial
 |own id=>obtain ⟨ro,h1,h2⟩:=h; exact ⟨ro,m.obj id ro (hk id (.inl rfl)) h1,h2⟩
 |bc id j=>obtain ⟨ro,h1,h2⟩:=h; exact ⟨ro,m.obj id ro (hk id (.inr ⟨j,rfl⟩)) h1,h2⟩
mutual
theorem Rel.move (m:Mv R R2 n):∀ {a:AV} {c:Value},a.under n=true→Rel R w a c→Rel R2 w a c
 |_,_,_,.bool b=>.bool b
 |_,_,_,.int k i=>.int k i
 |_,_,_,.str l=>.str l
 |_,_,hb,.agg h h1=>.agg (h.move m (by simpa [AV.under] using hb)) h1
 |_,_,hb,.bD h=>.bD (h.move m (by simpa [AV.under] using hb))
 |_,_,_,.na=>.na
 |_,_,hb,.ptr h=>.ptr (m.obj _ _ (kw (by simpa [AV.under] using hb)) h)
 |_,_,hb,.ep h=>.ep (h.move m (by simpa [AV.under] using hb))
 |_,_,_,.jD=>.jD
 |_,_,_,.jl=>.jl
 |_,_,_,.nj=>.nj
 |_,_,hb,.kL h ho=>.kL (m.obj _ _ (kw (by simpa [AV.under] using hb)) h) ho
 |_,_,hb,.mD h ho=>.mD (m.obj _ _ (kw (by simpa [AV.under] using hb)) h) ho
 |.list k sz es,_,hb,.list h hl hc hk=>.list (h.move m) hl hc (hk.move m fun id e=>by rcases e with e | ⟨j,e⟩ <;> subst e <;> exact kw (by simpa [AV.under] using hb))
 |_,_,hb,.jB h hc=>.jB (m.obj _ _ (kw (by simpa [AV.under] using hb)) h) hc
 |_,_,hb,.jE h ho=>.jE (m.obj _ _ (kw (by simpa [AV.under] using hb)) h) ho
 |_,_,hb,.cZ h ho hc=>.cZ (m.obj _ _ (kw (by simpa [AV.under] using hb)) h) ho hc
 |_,_,hb,.gp h ho=>.gp (m.obj _ _ (kw (by simpa [AV.under] using hb)) h) ho
 |_,_,_,.kJ=>.kJ
 |_,_,hb,.map h=>.map (m.obj _ _ (kw (by simpa [AV.under] using hb)) h)
 |_,_,_,.ee=>.ee
 |_,_,hb,.fn h h'=>.fn (h.move m (by simp only [AV.under,Bool.and_eq_true] at hb; exact hb.1)) (h'.move m (by simp only [AV.under,Bool.and_eq_true] at hb; exact hb.2))
 |_,_,hb,.yield h=>.yield (m.obj _ _ (kw (by simpa [AV.under] using hb)) h)
 |_,_,_,.rE=>.rE
 |_,_,hb,.iface h=>.iface (h.move m (by simpa [AV.under] using hb))
theorem aL.move (m:Mv R R2 n):∀ {l:List AV} {cs:List Value},aL R w l cs→aI n l=true→aL R2 w l cs
 |_,_,.nil,_=>.nil
 |_,_,.cons h t,hb=>by
  simp only [aI,Bool.and_eq_true] at hb;exact .cons (h.move m hb.1) (t.move m hb.2)
theorem iA.move (m:Mv R R2 n):∀ {b o sz:Nat} {l:List AV},iA R w b o sz l→iA R2 w b o sz l
 |_,_,_,_,.nil=>.nil
 |_,_,_,_,@iA.cons _ _ _ _ _ e _ hl ht hk h t=>.cons hl ht hk (h.move m (by
   cases e with
   |agg cs=>exact cU n (show aF cs=true by simpa [AV.closed] using hk)
   |bD cs=>simp [AV.aS] at ht
   |_=>simp only [AV.cells,aI,Bool.and_true]; exact jo n hk)) (t.move m)
theorem fg.move (m:Mv R R2 n):∀ {b o:Nat} {l:List AV},fg R w b o l→aI n l=true→fg R2 w b o l
 |_,_,_,.nil,_=>.nil
 |_,_,_,.cons hc h1 hi h t,hb=>by
  simp only [aI,Bool.and_eq_true] at hb;exact .cons hc h1 (m.I _ _ hi) (h.move m hb.1) (t.move m hb.2)
end
theorem nq.move {E:Env} (m:Mv R R2 n) {g:Nat} {cs:List AV} (h:nq E R w g cs) (hu:aI n cs=true):nq E R2 w g cs:=
 ⟨h.1.move m hu,fun hx=>⟨m.I _ _ (h.2 hx).1,(h.2 hx).2⟩⟩
mutual
theorem Rel.under (hn:R.obj.length≤n):∀ {a:AV} {c:Value},Rel R w a c→a.under n=true
 |_,_,.bool _ | _,_,.int _ _ | _,_,.str _ | _,_,.na | _,_,.jD | _,_,.jl | _,_,.nj | _,_,.kJ | _,_,.ee | _,_,.rE=>by simp [AV.under]
 |_,_,.agg h _=>by simp only [AV.under]; exact h.under hn
 |_,_,.bD h=>by simp only [AV.under]; exact h.under hn
 |_,_,.ptr h=>by simp only [AV.under]; exact lP (Nat.lt_of_lt_of_le (bi h) hn)
 |_,_,.ep h=>by simp only [AV.under]; exact h.under hn
 |_,_,.kL h _=>by simp only [AV.under]; exact lP (Nat.lt_of_lt_of_le (bi h) hn)
 |_,_,.mD h _=>by simp only [AV.under]; exact lP (Nat.lt_of_lt_of_le (bi h) hn)
 |_,_,@Rel.list _ _ k _ _ _ _ _ _ _ _ _ hk=>by
  cases k with
  |own id=>obtain ⟨ro,h1,_⟩:=hk; simp only [AV.under]; exact lP (Nat.lt_of_lt_of_le (bi h1) hn)
  |bc id j=>obtain ⟨ro,h1,_⟩:=hk; simp only [AV.under]; exact lP (Nat.lt_of_lt_of_le (bi h1) hn)
  |_=>simp [AV.under]
 |_,_,.jB h _=>by simp only [AV.under]; exact lP (Nat.lt_of_lt_of_le (bi h) hn)
 |_,_,.jE h _=>by simp only [AV.under]; exact lP (Nat.lt_of_lt_of_le (bi h) hn)
 |_,_,.cZ h _ _=>by simp only [AV.under]; exact lP (Nat.lt_of_lt_of_le (bi h) hn)
 |_,_,.gp h _=>by simp only [AV.under]; exact lP (Nat.lt_of_lt_of_le (bi h) hn)
 |_,_,.map h=>by simp only [AV.under]; exact lP (Nat.lt_of_lt_of_le (bi h) hn)
 |_,_,.fn h h'=>by simp only [AV.under,Bool.and_eq_true]; exact ⟨h.under hn,h'.under hn⟩
 |_,_,.yield h=>by simp only [AV.under]; exact lP (Nat.lt_of_lt_of_le (bi h) hn)
 |_,_,.iface h=>by simp only [AV.under]; exact h.under hn
theorem aL.under (hn:R.obj.length≤n):∀ {l:List AV} {cs:List Value},aL R w l cs→aI n l=true
 |_,_,.nil=>rfl
 |_,_,.cons h t=>by simp only [aI,Bool.and_eq_true]; exact ⟨h.under hn,t.under hn⟩
theorem fg.under (hn:R.obj.length≤n):∀ {b o:Nat} {l:List AV},fg R w b o l→aI n l=true
 |_,_,_,.nil=>rfl
 |_,_,_,.cons _ _ _ h t=>by simp only [aI,Bool.and_eq_true]; exact ⟨h.under hn,t.under hn⟩
end
end move
end Go.Am
namespace Go.Am
open Go
mutual
def aM.under (n:Nat):aM→Bool
 |.agg ps=>ps.under n
 |.bD ps=>ps.under n
 |.own id _ _=>Nat.blt id n
 |.bc id _ _=>Nat.blt id n
 |.j6 v=>v.under n
 |.two u v=>u.under n&&v.under n
 |_=>true
def aK.under (n:Nat):aK→Bool
 |.nil=>true
 |.cons p ps=>p.under n&&ps.under n
end
mutual
theorem aM.du {n:Nat}:∀ (p:aM) (x:p.T),p.under n=true→(p.enc x).under n=true
 |.int k,x,_=>by simp [aM.enc,AV.under]
 |.bool,x,_=>by simp [aM.enc,AV.under]
 |.str,x,_=>by simp [aM.enc,AV.under]
 |.agg ps,x,h=>by
  simp only [aM.enc,AV.under];exact ps.du x h
 |.bD ps,x,h=>by
  simp only [aM.enc,AV.under];exact ps.du x h
 |.list sz p,x,_=>by simp [aM.enc,AV.under]
 |.own id sz p,x,h=>by
  simp only [aM.enc,AV.under];exact h
 |.bc id sz p,x,h=>by
  simp only [aM.enc,AV.under];exact h
 |.j6 v,x,h=>by
  simp only [aM.enc];exact h
 |.two u v,(x:Bool),h=>by
  simp only [aM.under,Bool.and_eq_true] at h;change AV.under n (bif x then v else u)=true;cases x
  ·exact h.1
  ·exact h.2
theorem aK.du {n:Nat}:∀ (ps:aK) (x:ps.T),ps.under n=true→aI n (ps.enc x)=true
 |.nil,x,_=>rfl
 |.cons p .nil,x,h=>by
  simp only [aK.under,Bool.and_true] at h;simp only [aK.enc,aI,Bool.and_true];exact p.du _ h
 |.cons p (.cons q ps),x,h=>by
  rw [aK.under,Bool.and_eq_true] at h;simp only [aK.enc,aI,Bool.and_eq_true];exact ⟨p.du _ h.1,(aK.cons q ps).du _ h.2⟩
end
mutual
def AV.exact:AV→Bool
 |.bool _=>true
 |.int _ _=>true
 |.str _=>true
 |.agg cs=>gP cs
 |_=>false
def gP:List AV→Bool
 |[]=>true
 |a :: l=>a.exact&&gP l
end
mutual
theorem aM.kj:∀ (p:aM) {a:AV},p.fits a=true→a.exact=true→p.enc (p.bp a)=a
 |.int k,a,h,e=>by
  cases a with
  |int k' n=>have hk:RB k k'=true:=h; rw [Ft hk]; rfl
  |_=>cases h
 |.bool,a,h,e=>by
  cases a with
  |bool b=>rfl
  |_=>cases h
 |.str,a,h,e=>by
  cases a with
  |str b=>rfl
  |_=>cases h
 |.agg ps,a,h,e=>by
  cases a with
  |agg cs=>
   have e':gP cs=true:=by simpa [AV.exact] using e
   show AV.agg (ps.enc (ps.bp cs))=_;rw [ps.kj (show ps.fits cs=true from h) e']
  |_=>cases h
 |.bD ps,a,h,e=>by cases a <;> first | (cases h; done) | simp [AV.exact] at e
 |.list sz p,a,h,e=>by cases a <;> first | (cases h; done) | simp [AV.exact] at e
 |.own id sz p,a,h,e=>by cases a <;> first | (cases h; done) | simp [AV.exact] at e
 |.bc id sz p,a,h,e=>by cases a <;> first | (cases h; done) | simp [AV.exact] at e
 |.j6 u,a,h,e=>(ka (show dv a u=true from h)).symm
 |.two u v,a,h,_=>xg h
theorem aK.kj:∀ (ps:aK) {l:List AV},ps.fits l=true→gP l=true→ps.enc (ps.bp l)=l
 |.nil,l,h,_=>by
  cases l with
  |nil=>rfl
  |cons _ _=>cases h
 |.cons p .nil,l,h,e=>by
  cases l with
  |nil=>cases h
  |cons a l=>
   have h':(p.fits a&&l.isEmpty)=true:=h;simp only [Bool.and_eq_true,List.isEmpty_iff] at h';obtain ⟨h1,rfl⟩:=h';simp only [gP,Bool.and_true] at e;show [p.enc (p.bp a)]=_;rw [p.kj h1 e]
 |.cons p (.cons q ps),l,h,e=>by
  cases l with
  |nil=>cases h
  |cons a l=>
   have h':(p.fits a&&(aK.cons q ps).fits l)=true:=h;rw [Bool.and_eq_true] at h';simp only [gP,Bool.and_eq_true] at e;show p.enc (p.bp a) :: (aK.cons q ps).enc ((aK.cons q ps).bp l)=_;rw [p.kj h'.1 e.1,(aK.cons q ps).kj h'.2 e.2]
end
mutual
theorem o0:∀ {a:AV},a.exact=true→a.closed=true:=fun {a} h=>by
 cases a with
 |agg cs=>simp only [AV.exact,AV.closed] at *; exact rS h
 |_=>simp_all [AV.exact,AV.closed]
theorem rS:∀ {l:List AV},gP l=true→aF l=true
 |[],_=>rfl
 |a :: l,h=>by
  simp only [gP,aF,Bool.and_eq_true] at *;exact ⟨o0 h.1,rS h.2⟩
end
def af:List (AV × AV)→List AV
 |[]=>[]
 |(k,v) :: l=>.agg [k,v] :: af l
def XC:AV→AV × AV
 |.agg [k,v]=>(k,v)
 |_=>(gG,gG)
def aC:List AV→List (AV × AV)
 |[]=>[]
 |a :: l=>XC a :: aC l
def AV.entries:AV→List (AV × AV)
 |.list _ _ es=>aC es
 |_=>[]
theorem pA:∀ l:List (AV × AV),aC (af l)=l
 |[]=>rfl
 |(k,v) :: l=>by simp only [af,aC,pA l]; rfl
def AV.LB:AV→Bool
 |.list .ea _ es=>gP es
 |_=>false
def ky:List AV→List AV→Prop
 |[],[]=>True
 |a :: l,b :: r=>jA a b∧ky l r
 |_,_=>False
theorem ky.refl:∀ l:List AV,ky l l
 |[]=>trivial
 |a :: l=>⟨jA.refl a,ky.refl l⟩
theorem ky.length:∀ {l r:List AV},ky l r→l.length=r.length
 |[],[],_=>rfl
 |_ :: _,_ :: _,h=>by simp [ky.length h.2]
 |[],_ :: _,h=>h.elim
 |_ :: _,[],h=>h.elim
theorem ky.of {α:Type} {f:AV→Bool} {d:AV→α} {g:α→AV} (Hw:∀ v,f v=true→jA v (g (d v))):∀ {es:List AV},allFit f es=true→ky es ((es.map d).map g)
 |[],_=>trivial
 |e :: es,h=>by
  simp only [allFit,Bool.and_eq_true] at h;exact ⟨Hw e h.1,ky.of Hw h.2⟩
theorem aM.Ej (p:aM) {a:AV} (h:p.fits a=true):ky a.eE (p.enc (p.bp a)).eE:=by
 cases p with
 |list sz p=>
  cases a with
  |list k bu es=>
   have hb:((Nat.beq sz bu || es.isEmpty)&&allFit p.fits es)=true:=h;rw [Bool.and_eq_true] at hb;exact ky.of (fun v hv=>p.cV hv) hb.2
  |_=>cases h
 |own id sz p=>
  cases a with
  |list k bu es=>
   cases k with
   |own j7=>
    have hb:((Nat.beq id j7&&Nat.beq sz bu)&&allFit p.fits es)=true:=h;rw [Bool.and_eq_true] at hb;exact ky.of (fun v hv=>p.cV hv) hb.2
   |_=>cases h
  |_=>cases h
 |bc id sz p=>
  cases a with
  |list k bu es=>
   cases k with
   |bc j7 j=>
    have hb:((Nat.beq id j7&&Nat.beq sz bu)&&allFit p.fits es)=true:=h;rw [Bool.and_eq_true] at hb;exact ky.of (fun v hv=>p.cV hv) hb.2
   |_=>cases h
  |_=>cases h
 |j6 u=>rw [show a=u from ka (show dv a u=true from h)]; exact ky.refl _
 |two u v=>rw [xg h]; exact ky.refl _
 |_=>cases a <;> first | (cases h; done) | exact ky.refl _
def Kz:List AV→List AV→Prop
 |[],[]=>True
 |a :: l,b :: r=>(a.exact=true→b=a)∧(a.LB=true→b.eE=a.eE)∧ky a.eE b.eE∧Kz l r
 |_,_=>False
theorem yV {f:AV→Bool} {α:Type} {d:AV→α} {g:α→AV} (Hw:∀ a,f a=true→a.exact=true→g (d a)=a):∀ {es:List AV},allFit f es=true→gP es=true→(es.map d).map g=es
 |[],_,_=>rfl
 |a :: l,h,e=>by
  simp only [allFit,gP,Bool.and_eq_true] at *;simp only [List.map_cons,Hw a h.1 e.1,yV Hw h.2 e.2]
theorem aM.Ek (p:aM) {a:AV} (h:p.fits a=true) (e:a.LB=true):(p.enc (p.bp a)).eE=a.eE:=by
 cases a with
 |list k bu es=>
  cases k with
  |ea=>
   have e':gP es=true:=e;cases p with
   |list sz p=>
    have hb:((Nat.beq sz bu || es.isEmpty)&&allFit p.fits es)=true:=h;rw [Bool.and_eq_true] at hb;show (es.map p.bp).map p.enc=_;rw [yV (fun a=>p.kj) hb.2 e'];rfl
   |j6 u=>rw [show AV.list .ea bu es=u from ka (show dv _ u=true from h)]; rfl
   |two u v=>rw [xg h]
   |_=>cases h
  |_=>cases e
 |_=>cases e
theorem aK.LC:∀ (ps:aK) {l:List AV},ps.fits l=true→Kz l (ps.enc (ps.bp l))
 |.nil,l,h=>by
  cases l with
  |nil=>trivial
  |cons _ _=>cases h
 |.cons p .nil,l,h=>by
  cases l with
  |nil=>cases h
  |cons a l=>
   have h':(p.fits a&&l.isEmpty)=true:=h;simp only [Bool.and_eq_true,List.isEmpty_iff] at h';obtain ⟨h1,rfl⟩:=h';exact ⟨p.kj h1,p.Ek h1,p.Ej h1,trivial⟩
 |.cons p (.cons q ps),l,h=>by
  cases l with
  |nil=>cases h
  |cons a l=>
   have h':(p.fits a&&(aK.cons q ps).fits l)=true:=h;rw [Bool.and_eq_true] at h';exact ⟨p.kj h'.1,p.Ek h'.1,p.Ej h'.1,(aK.cons q ps).LC h'.2⟩
theorem Kz.split:∀ {l r l':List AV},Kz (l++r) l'→∃ a b,l'=a++b∧Kz l a∧Kz r b∧a.length=l.length
 |[],r,l',h=>⟨[],l',rfl,trivial,h,rfl⟩
 |x :: l,r,[],h=>h.elim
 |x :: l,r,y :: l',h=>by
  obtain ⟨a,b,rfl,h2,h3,h4⟩:=Kz.split (l:=l) (r:=r) (l':=l') h.2.2.2;exact ⟨y :: a,b,rfl,⟨h.1,h.2.1,h.2.2.1,h2⟩,h3,by simp [h4]⟩
mutual
def AV.yW (L:Nat→Nat):AV→AV
 |.cZ id 0 0 sz 0=>.cZ id (L id) 0 sz (L id)
 |.fn f x y=>.fn f (LD L x) (LD L y)
 |v=>v
def LD (L:Nat→Nat):List AV→List AV
 |[]=>[]
 |a :: l=>a.yW L :: LD L l
end
mutual
def aM.inst (L:Nat→Nat):aM→aM
 |.agg ps=>.agg (ps.inst L)
 |.bD ps=>.bD (ps.inst L)
 |.j6 v=>.j6 (v.yW L)
 |p=>p
def aK.inst (L:Nat→Nat):aK→aK
 |.nil=>.nil
 |.cons p ps=>.cons (p.inst L) (ps.inst L)
end
mutual
def aM.lQ (L:Nat→Nat):(p:aM)→p.T→AV
 |.int k,(n:Int)=>.int k n
 |.bool,(b:Bool)=>.bool b
 |.str,(s:List UInt8)=>.str s
 |.agg ps,x=>.agg (ps.lQ L x)
 |.bD ps,x=>.bD (ps.lQ L x)
 |.list sz p,(xs:List p.T)=>.list .ea sz (xs.map p.enc)
 |.own id sz p,(xs:List p.T)=>.list (.own id) sz (xs.map p.enc)
 |.bc id sz p,(x:Nat × List p.T)=>.list (.bc id x.1) sz (x.2.map p.enc)
 |.j6 v,_=>v.yW L
 |.two u v,(b:Bool)=>bif b then v else u
def aK.lQ (L:Nat→Nat):(ps:aK)→ps.T→List AV
 |.nil,_=>[]
 |.cons p .nil,x=>[p.lQ L x]
 |.cons p (.cons q ps),x=>p.lQ L x.1 :: (aK.cons q ps).lQ L x.2
end
mutual
def aM.nV (L:Nat→Nat):aM→AV→Bool
 |.int k,v=>aM.fits (.int k) v
 |.bool,v=>aM.fits .bool v
 |.str,v=>aM.fits .str v
 |.agg ps,v=>match v with
  |.agg cs=>ps.nV L cs
  |_=>false
 |.bD ps,v=>match v with
  |.bD cs=>ps.nV L cs
  |_=>false
 |.list sz p,v=>aM.fits (.list sz p) v
 |.own id sz p,v=>aM.fits (.own id sz p) v
 |.bc id sz p,v=>aM.fits (.bc id sz p) v
 |.j6 v,u=>dv u (v.yW L)
 |.two u v,a=>aM.fits (.two u v) a
def aK.nV (L:Nat→Nat):aK→List AV→Bool
 |.nil,l=>l.isEmpty
 |.cons p ps,l=>match l with
  |a :: l=>p.nV L a&&ps.nV L l
  |[]=>false
end
def aK.Jx (L:Nat→Nat) (ps:aK) (l:List AV):Option ps.T:=bif ps.nV L l then some (ps.bp l) else none
mutual
theorem aM.jO (L:Nat→Nat):∀ (p:aM) (a:AV),p.nV L a=(p.inst L).fits a
 |.int _,_=>rfl
 |.bool,_=>rfl
 |.str,_=>rfl
 |.agg ps,a=>by
  simp only [aM.nV,aM.inst,aM.fits];cases a <;> first | rfl | exact ps.jO L _
 |.bD ps,a=>by
  simp only [aM.nV,aM.inst,aM.fits];cases a <;> first | rfl | exact ps.jO L _
 |.list _ _,_=>rfl
 |.own _ _ _,_=>rfl
 |.bc _ _ _,_=>rfl
 |.j6 _,_=>rfl
 |.two _ _,_=>rfl
theorem aK.jO (L:Nat→Nat):∀ (ps:aK) (l:List AV),ps.nV L l=(ps.inst L).fits l
 |.nil,_=>rfl
 |.cons p ps,l=>by
  cases l with
  |nil=>rfl
  |cons a l=>
   simp only [aK.nV,aK.inst,aK.fits];rw [p.jO L a,ps.jO L l]
end
mutual
theorem aM.iY (L:Nat→Nat):∀ (p:aM) (a:AV),p.lQ L (p.bp a)=(p.inst L).enc ((p.inst L).bp a)
 |.int _,_=>rfl
 |.bool,_=>rfl
 |.str,_=>rfl
 |.agg ps,a=>congrArg AV.agg (ps.iY L a.kp)
 |.bD ps,a=>congrArg AV.bD (ps.iY L a.RC)
 |.list _ _,_=>rfl
 |.own _ _ _,_=>rfl
 |.bc _ _ _,_=>rfl
 |.j6 _,_=>rfl
 |.two _ _,_=>rfl
theorem aK.iY (L:Nat→Nat):∀ (ps:aK) (l:List AV),ps.lQ L (ps.bp l)=(ps.inst L).enc ((ps.inst L).bp l)
 |.nil,_=>rfl
 |.cons p .nil,l=>by
  show [p.lQ L (p.bp (eQ l))]=[(p.inst L).enc ((p.inst L).bp (eQ l))];rw [p.iY L]
 |.cons p (.cons q ps),l=>by
  show p.lQ L (p.bp (eQ l)) :: (aK.cons q ps).lQ L ((aK.cons q ps).bp (KJ l))=(p.inst L).enc ((p.inst L).bp (eQ l)) :: ((aK.cons q ps).inst L).enc (((aK.cons q ps).inst L).bp (KJ l));rw [p.iY L,(aK.cons q ps).iY L]
end
mutual
theorem AV.yX {n:Nat} (L:Nat→Nat):∀ {a:AV},a.under n=true→(a.yW L).under n=true:=fun {a} h=>by
 cases a with
 |cZ id f off sz len=>
  unfold AV.yW;split
  ·rename_i h1;cases h1;exact h
  ·rename_i h1;cases h1
  ·exact h
 |fn f x y=>
  simp only [AV.yW,AV.under,Bool.and_eq_true] at *;exact ⟨sx L h.1,sx L h.2⟩
 |_=>exact h
theorem sx {n:Nat} (L:Nat→Nat):∀ {l:List AV},aI n l=true→aI n (LD L l)=true
 |[],_=>rfl
 |a :: l,h=>by
  simp only [LD,aI,Bool.and_eq_true] at *;exact ⟨AV.yX L h.1,sx L h.2⟩
end
mutual
theorem aM.jP {n:Nat} (L:Nat→Nat):∀ {p:aM},p.under n=true→(p.inst L).under n=true
 |.int _,_=>rfl
 |.bool,_=>rfl
 |.str,_=>rfl
 |.agg ps,h=>aK.jP L (ps:=ps) h
 |.bD ps,h=>aK.jP L (ps:=ps) h
 |.list _ _,_=>rfl
 |.own _ _ _,h=>h
 |.bc _ _ _,h=>h
 |.j6 v,h=>AV.yX L (a:=v) h
 |.two _ _,h=>h
theorem aK.jP {n:Nat} (L:Nat→Nat):∀ {ps:aK},ps.under n=true→(ps.inst L).under n=true
 |.nil,_=>rfl
 |.cons p ps,h=>by
  simp only [aK.inst,aK.under,Bool.and_eq_true] at *;exact ⟨aM.jP L h.1,aK.jP L h.2⟩
end
theorem AV.BD (L:Nat→Nat) (v:AV):(v.yW L).eE=v.eE:=by
 unfold AV.yW;split <;> rfl
def pG:List AV→List AV→Prop
 |[],[]=>True
 |a :: l,b :: r=>a.eE.length=b.eE.length∧pG l r
 |_,_=>False
theorem aM.qn (L L':Nat→Nat) (p:aM) (x:p.T):(p.lQ L x).eE=(p.lQ L' x).eE:=by
 cases p with
 |j6 v=>
  show (v.yW L).eE=(v.yW L').eE;rw [AV.BD,AV.BD]
 |_=>rfl
theorem aK.qn (L L':Nat→Nat):∀ (ps:aK) (x:ps.T),pG (ps.lQ L x) (ps.lQ L' x)
 |.nil,_=>trivial
 |.cons p .nil,x=>⟨congrArg List.length (p.qn L L' x),trivial⟩
 |.cons p (.cons q ps),x=>⟨congrArg List.length (p.qn L L' x.1),(aK.cons q ps).qn L L' x.2⟩
theorem Kz.XD:∀ {l r:List AV},Kz l r→pG l r
 |[],[],_=>trivial
 |_ :: _,_ :: _,h=>⟨h.2.2.1.length,h.2.2.2.XD⟩
 |[],_ :: _,h=>h.elim
 |_ :: _,[],h=>h.elim
theorem pG.trans:∀ {l r u:List AV},pG l r→pG r u→pG l u
 |[],[],[],_,_=>trivial
 |_ :: _,_ :: _,_ :: _,h,k=>⟨h.1.trans k.1,h.2.trans k.2⟩
 |[],_ :: _,_,h,_=>h.elim
 |_ :: _,[],_,h,_=>h.elim
 |[],[],_ :: _,_,k=>k.elim
 |_ :: _,_ :: _,[],_,k=>k.elim
theorem pG.drop:∀ {l r:List AV} (n:Nat),pG l r→pG (l.drop n) (r.drop n)
 |l,r,0,h=>by simpa using h
 |[],[],_+1,_=>by simp [pG]
 |_ :: _,_ :: _,n+1,h=>by simpa using pG.drop n h.2
 |[],_ :: _,_+1,h=>h.elim
 |_ :: _,[],_+1,h=>h.elim
theorem aK.OB (L:Nat→Nat) (ps:aK) {l:List AV} {x:ps.T} (h:ps.Jx L l=some x):cM l (ps.lQ L x)∧Kz l (ps.lQ L x):=by
 unfold aK.Jx at h;cases hf:ps.nV L l with
 |true=>
  rw [hf] at h;cases h;rw [ps.iY L];rw [ps.jO L] at hf;have hd:(ps.inst L).dec l=some ((ps.inst L).bp l):=by unfold aK.dec; rw [hf]; rfl
  exact ⟨((ps.inst L).sa hd).1,(ps.inst L).LC hf⟩
 |false=>rw [hf] at h; cases h
theorem aK.GA {n:Nat} (L:Nat→Nat) (ps:aK) (hp:ps.under n=true) (l:List AV):aI n (ps.lQ L (ps.bp l))=true:=by
 rw [ps.iY L];exact (ps.inst L).du _ (aK.jP L hp)
theorem aK.Jy (L:Nat→Nat) (ps:aK) {l:List AV} {x:ps.T} (h:ps.Jx L l=some x):x=ps.bp l:=by
 unfold aK.Jx at h;cases hf:ps.nV L l with
 |true=>rw [hf] at h; cases h; rfl
 |false=>rw [hf] at h; cases h
end Go.Am
namespace Go.Am
open Go
inductive E9
 |open_
 |busy
 |ret
 |ex (i:Nat)
def E9.is:E9→Bool→Option Code→Bool→Bool
 |.open_,false,none,false=>true
 |.busy,true,none,false=>true
 |.ret,false,some .ret,true=>true
 |.ex i,false,some (.exit j),true=>Nat.beq i j
 |_,_,_,_=>false
def E9.b:E9→Bool
 |.busy=>true
 |_=>false
def E9.p:E9→Option Code
 |.ret=>some .ret
 |.ex i=>some (.exit i)
 |_=>none
def E9.d:E9→Bool
 |.ret=>true
 |.ex _=>true
 |_=>false
theorem E9.HT {k:E9} {b:Bool} {p:Option Code} {d:Bool} (h:k.is b p d=true):b=k.b∧p=k.p∧d=k.d:=by
 unfold E9.is at h;split at h <;> first | exact ⟨rfl,rfl,rfl⟩ | (cases h; done) | skip
 rw [Nat.eq_of_beq_eq_true h];exact ⟨rfl,rfl,rfl⟩
inductive GL
 |row (n:Nat)
 |tok (loc sz:Nat) (e:TypeId)
 |dead
 |lp (k:E9)
 |aZ
 |map
 |Fa
 |bo (sz:Nat) (e:TypeId)
 |bc (sz:Nat) (e:TypeId)
 |tN
 |jh (rF:Nat)
def a7 (fs:List Nat):List AV:=fs.map fun n:Nat=>.int .i64 n
def au (l:List AV):List Nat:=l.map fun a=>a.ox.toNat
theorem vX (fs:List Nat):au (a7 fs)=fs:=by
 induction fs with
 |nil=>rfl
 |cons n fs ih=>
  show (AV.int .i64 n).ox.toNat :: au (a7 fs)=n :: fs;rw [ih];simp [AV.ox]
theorem yY (fs:List Nat):gP (a7 fs)=true:=by
 induction fs with
 |nil=>rfl
 |cons n fs ih=>exact ih
def SI (k:E9):GO→GO→Bool
 |.loop _ _ _ _ _ _ _ _ _ _,.loop b p _ _ _ _ _ _ _ d=>k.is b p d
 |_,_=>false
def QJ (k:E9):GO→GO
 |.loop _ _ fn sl n ps ss bd d _=>.loop k.b k.p fn sl n ps ss bd d k.d
 |_=>.dead
def jd (es:List (AV × AV)):Bool:=gP (af es)
def CG:GO→GO→Bool
 |.tok f sz e,.tok f' bu e'=>decide (f'=f)&&(Nat.beq bu sz&&Nat.beq e' e)
 |.defers a,.defers b=>match a,b with
  |true,true=>true
  |false,false=>true
  |_,_=>false
 |.dead,_=>true
 |_,_=>false
structure bI where
 ps:aK
 sl:List Tmp
 W:List Tmp
 bx:List (Nat × Nat)
 g:List GL
 Wd:List (Tmp × Nat × Nat)
def yZ (ae:ba):List Tmp→Option (List AV)
 |[]=>some []
 |t :: l=>match lk ae t with
  |.v a=>match yZ ae l with
   |some r=>some (a :: r)
   |none=>none
  |_=>none
def y7 (bx:cD):List (Nat × Nat)→Option (List AV)
 |[]=>some []
 |(k,n) :: l=>match di bx k with
  |some cs=>match y7 bx l with
   |some r=>bif Nat.beq cs.length n then some (cs++r) else none
   |none=>none
  |none=>none
def kT:List GL→List GO→Option (List AV)
 |[],_=>some []
 |.row n :: l,.row cs _ :: G=>match kT l G with
  |some r=>bif Nat.beq cs.length n then some (cs++r) else none
  |none=>none
 |.tok _ sz e :: l,.tok _ bu e' :: G=>bif Nat.beq sz bu&&Nat.beq e e' then kT l G else none
 |.dead :: l,_ :: G=>kT l G
 |.lp _ :: l,_ :: G=>kT l G
 |.aZ :: l,_ :: G=>kT l G
 |.map :: l,.map es :: G=>match kT l G with
  |some r=>some (.list .ea 2 (af es) :: r)
  |none=>none
 |.Fa :: l,.ic s pos :: G=>match kT l G with
  |some r=>some (.str s :: .int .i64 pos :: r)
  |none=>none
 |.bo sz e :: l,.bo es bu e' :: G=>match kT l G with
  |some r=>bif Nat.beq sz bu&&Nat.beq e e' then some (.list .ea bu es :: r) else none
  |none=>none
 |.bc sz e :: l,.bc fs bu e' :: G=>match kT l G with
  |some r=>bif Nat.beq sz bu&&Nat.beq e e' then some (.list .ea 1 (a7 fs) :: r) else none
  |none=>none
 |.tN :: l,.map es :: G=>match kT l G with
  |some r=>some (.list .ea 2 (af es) :: r)
  |none=>none
 |.jh rF :: l,.jh mid' n left _ _ :: G=>match kT l G with
  |some r=>bif Nat.beq rF mid' then some (.int .i64 n :: .list .ea 1 (a7 left) :: r) else none
  |none=>none
 |_,_=>none
def LF (vs:List AV) (loc:Nat):Nat:=match nth vs loc with
 |some (.list _ _ es)=>es.length
 |_=>0
def QK:GO→GO→Bool
 |.row _ e,.row _ e'=>Nat.beq e e'
 |_,_=>false
def QL:GO→GO→Bool
 |.jh _ _ _ _ t,.jh _ _ _ _ t'=>Nat.beq t t'
 |_,_=>false
def XE:GO→TypeId
 |.jh _ _ _ _ t=>t
 |_=>0
def XF:GO→TypeId
 |.row _ e=>e
 |_=>0
def dY (vs:List AV):List GL→List GO→List GO→Bool
 |[],_,_=>true
 |.tok loc _ _ :: l,_ :: B,.tok f _ _ :: G=>decide (f=LF vs loc)&&dY vs l B G
 |.tok _ _ _ :: _,_,_=>false
 |.lp k :: l,o :: B,o' :: G=>SI k o o'&&dY vs l B G
 |.aZ :: l,o :: B,o' :: G=>CG o o'&&dY vs l B G
 |.row _ :: l,b :: B,g :: G=>QK b g&&dY vs l B G
 |.map :: l,_ :: B,.map es :: G=>jd es&&dY vs l B G
 |.map :: _,_,_=>false
 |.Fa :: l,_ :: B,_ :: G=>dY vs l B G
 |.bo _ _ :: l,_ :: B,_ :: G=>dY vs l B G
 |.bc _ _ :: l,_ :: B,_ :: G=>dY vs l B G
 |.tN :: l,_ :: B,_ :: G=>dY vs l B G
 |.jh _ :: l,b :: B,g :: G=>QL b g&&dY vs l B G
 |.dead :: l,_ :: B,_ :: G=>dY vs l B G
 |_,_,_=>false
def qo:List Tmp→List AV→ba→ba
 |t :: ts,a :: l,r=>.put t (.v a) :: qo ts l r
 |_,_,r=>r
def qp:List (Tmp × Nat × Nat)→ba→ba
 |(t,k,o) :: l,r=>.put t (.lp k o) :: qp l r
 |[],r=>r
def HU (ae:ba):List (Tmp × Nat × Nat)→Bool
 |[]=>true
 |(t,k,o) :: l=>(match lk ae t with
  |.lp k' o'=>Nat.beq k' k&&Nat.beq o' o
  |_=>false)&&HU ae l
def za:List Tmp→ba→ba
 |t :: ts,r=>.put t .none :: za ts r
 |[],r=>r
def vY:List (Nat × Nat)→List AV→cD→cD
 |(k,n) :: r,l,b=>(k,l.take n) :: vY r (l.drop n) b
 |[],_,b=>b
def dP (vs:List AV):List GL→List GO→List AV→List GO
 |.row n :: r,B,l=>.row (l.take n) (XF (B.headD .dead)) :: dP vs r B.tail (l.drop n)
 |.tok loc sz e :: r,B,l=>.tok (LF vs loc) sz e :: dP vs r B.tail l
 |.dead :: r,B,l=>.dead :: dP vs r B.tail l
 |.lp k :: r,B,l=>QJ k (B.headD .dead) :: dP vs r B.tail l
 |.aZ :: r,B,l=>B.headD .dead :: dP vs r B.tail l
 |.map :: r,B,l=>.map (AV.entries (eQ l)) :: dP vs r B.tail l.tail
 |.Fa :: r,B,l=>.ic (AV.RD (eQ l)) (AV.ox (eQ l.tail)).toNat :: dP vs r B.tail l.tail.tail
 |.bo sz e :: r,B,l=>.bo (AV.eE (eQ l)) sz e :: dP vs r B.tail l.tail
 |.bc sz e :: r,B,l=>.bc (au (AV.eE (eQ l))) sz e :: dP vs r B.tail l.tail
 |.tN :: r,B,l=>.map (AV.entries (eQ l)) :: dP vs r B.tail l.tail
 |.jh rF :: r,B,l=>.jh rF (AV.ox (eQ l)).toNat (au (AV.eE (eQ l.tail))) none (XE (B.headD .dead)) :: dP vs r B.tail l.tail.tail
 |[],_,_=>[]
def CH:List (Nat × Nat)→Nat
 |[]=>0
 |(_,n) :: l=>n+CH l
def lS:List GL→List AV→Nat→Nat
 |[],_,_=>0
 |.bo _ _ :: r,l,i=>match i with
  |0=>(AV.eE (eQ l)).length
  |i+1=>lS r l.tail i
 |.row n :: r,l,i=>match i with
  |0=>0
  |i+1=>lS r (l.drop n) i
 |.map :: r,l,i=>match i with
  |0=>0
  |i+1=>lS r l.tail i
 |.Fa :: r,l,i=>match i with
  |0=>0
  |i+1=>lS r l.tail.tail i
 |.bc _ _ :: r,l,i=>match i with
  |0=>0
  |i+1=>lS r l.tail i
 |.tN :: r,l,i=>match i with
  |0=>0
  |i+1=>lS r l.tail i
 |.jh _ :: r,l,i=>match i with
  |0=>0
  |i+1=>lS r l.tail.tail i
 |_ :: r,l,i=>match i with
  |0=>0
  |i+1=>lS r l i
def bI.rJ (t:bI) (v:t.ps.T):List AV:=t.ps.lQ (lS t.g (((t.ps.lQ (fun _=>0) v).drop t.sl.length).drop (CH t.bx))) v
def bI.st (t:bI) (s:St) (v:t.ps.T):St:=
 ⟨qp t.Wd (qo t.sl (t.rJ v) (za t.W s.ae)),vY t.bx ((t.rJ v).drop t.sl.length) s.boxes,dP (t.rJ v) t.g s.G (((t.rJ v).drop t.sl.length).drop (CH t.bx)),s.marks,s.ro,s.n⟩
def ND:List Nat→Nat→Bool
 |[],_=>false
 |a :: l,n=>Nat.beq a n || ND l n
def We (l:List Tmp) (W:List Tmp) (n:Nat):Bool:=ND l n || ND W n
def AM (d:Nat) (l W:List Tmp):ba→Bool
 |[]=>true
 |.put t (.lp k _) :: r=>(!(Nat.beq k d) || We l W t)&&AM d l W r
 |_ :: r=>AM d l W r
def vk (l W:List Tmp) (base:ba):ba→Bool
 |[]=>true
 |.put d _ :: r=>We l W d&&vk l W base r
 |.kill d :: r=>AM d l W base&&vk l W base r
def vD:List (Nat × Nat)→Nat→Bool
 |[],_=>false
 |(a,_) :: l,n=>Nat.beq a n || vD l n
def xo (l:List (Nat × Nat)) (base:cD):cD→Bool
 |[]=>true
 |(k,_) :: r=>(vD l k || (di base k).isNone)&&xo l base r
def OC:List Nat→List Nat→Bool
 |[],[]=>true
 |a :: l,b :: r=>Nat.beq a b&&OC l r
 |_,_=>false
def aM.lcl (n:Nat):aM→Bool
 |.list _ p=>p.under n
 |_=>false
def aK.flags (n:Nat):aK→List Bool
 |.nil=>[]
 |.cons p ps=>p.lcl n :: ps.flags n
def lT:List GL→List Bool→Bool
 |[],_=>true
 |.bo _ _ :: r,f :: l=>f&&lT r l
 |.bo _ _ :: _,[]=>false
 |.row n :: r,l=>lT r (gn n l)
 |.map :: r,l=>lT r (gn 1 l)
 |.Fa :: r,l=>lT r (gn 2 l)
 |.bc _ _ :: r,l=>lT r (gn 1 l)
 |.tN :: r,f :: l=>f&&lT r l
 |.tN :: _,[]=>false
 |.jh _ :: r,l=>lT r (gn 2 l)
 |_ :: r,l=>lT r l
def LG (n:Nat):List GL→Bool
 |[]=>true
 |.jh rF :: r=>Nat.blt rF n&&LG n r
 |_ :: r=>LG n r
def bI.ok (t:bI) (s s':St):Bool:=
 vk t.sl t.W s.ae (s'.ae.take (s'.ae.length - s.ae.length))&&xo t.bx s.boxes (s'.boxes.take (s'.boxes.length - s.boxes.length)) &&
  OC s'.marks s.marks&&Nat.beq t.g.length s.G.length&&(t.ps.under s.G.length&&(lT t.g (gn (CH t.bx) (gn t.sl.length (t.ps.flags s.G.length)))&&LG s.G.length t.g))&&HU s'.ae t.Wd
def bI.dec (t:bI) (s s':St):Option t.ps.T:=
 bif t.ok s s' then
  match yZ s'.ae t.sl,y7 s'.boxes t.bx,kT t.g s'.G with
  |some a,some b,some c=>(t.ps.Jx (lS t.g c) (a++(b++c))).bind fun v=>bif dY (t.rJ v) t.g s.G s'.G then some v else none
  |_,_,_=>none
 else none
theorem CI {l:List Nat} {n:Nat}:ND l n=true↔n∈l:=by
 induction l with
 |nil=>simp [ND]
 |cons a l ih=>
  simp only [ND,Bool.or_eq_true,Nat.beq_eq,ih,List.mem_cons];constructor
  ·rintro (h|h)
   ·exact .inl h.symm
   ·exact .inr h
  ·rintro (h|h)
   ·exact .inl h.symm
   ·exact .inr h
theorem HV:∀ {a b:List Nat},OC a b=true→a=b
 |[],[],_=>rfl
 |a :: l,b :: r,h=>by
  simp only [OC,Bool.and_eq_true,Nat.beq_eq] at h;rw [h.1,HV h.2]
 |[],_ :: _,h=>by cases h
 |_ :: _,[],h=>by cases h
theorem CJ {d:Nat} {l W:List Tmp} {t off:Nat}:∀ {base:ba},AM d l W base=true→lk base t=.lp d off→We l W t=true
 |[],_,h=>by simp [lk] at h
 |.put t' x :: r,hn,h=>by
  by_cases e:t'=t
  ·subst e;rw [aA] at h;subst h;simp only [AM,Nat.beq_refl,Bool.not_true,Bool.false_or,Bool.and_eq_true] at hn;exact hn.1
  ·rw [aN e] at h;refine CJ (base:=r) ?_ h;cases x <;> simp only [AM,Bool.and_eq_true] at hn
   ·exact hn
   ·exact hn
   ·exact hn.2
 |.kill d' :: r,hn,h=>by
  rcases Hv (l:=r) (d:=d') (t:=t) with ⟨h1,_⟩|h1
  ·rw [h1] at h;exact CJ (base:=r) hn h
  ·rw [h1] at h;cases h
theorem CK {l W:List Tmp} {base:ba} {t:Nat} (ht:We l W t=false):∀ {pre:ba},vk l W base pre=true→lk (pre++base) t=lk base t
 |[],_=>rfl
 |.put d x :: r,h=>by
  simp only [vk,Bool.and_eq_true] at h;have cz:d≠t:=fun e=>by rw [e,ht] at h; exact absurd h.1 (by simp)
  rw [List.cons_append,aN cz];exact CK ht h.2
 |.kill d :: r,h=>by
  simp only [vk,Bool.and_eq_true] at h;have ih:=CK ht h.2;simp only [List.cons_append,lk,ih];cases hb:lk base t with
  |lp k off=>
   by_cases e:k=d
   ·subst e;have:=CJ h.1 hb;rw [ht] at this;cases this
   ·simp [oE e]
  |_=>rfl
theorem El {l:List (Nat × Nat)} {base:cD} {k:Nat} {cs:List AV} (hk:vD l k=false) (hb:di base k=some cs):∀ {pre:cD},xo l base pre=true→di (pre++base) k=some cs
 |[],_=>hb
 |(d,x) :: r,h=>by
  simp only [xo,Bool.and_eq_true] at h;have cz:d≠k:=fun e=>by
   rw [e,hk,hb] at h;exact absurd h.1 (by simp)
  rw [List.cons_append,di,oE cz];exact El hk hb h.2
theorem Em {α:Type} (pre base:List α):(pre++base).take ((pre++base).length - base.length)=pre:=by
 rw [List.length_append,Nat.add_sub_cancel,List.take_left]
def ai.cut (R:ai) (n:Nat):ai:=⟨R.I,R.obj.take n⟩
theorem jq {R:ai} {n id:Nat} {ro:RO}:nth (R.cut n).obj id=some ro↔id < n∧nth R.obj id=some ro:=by
 simp only [ai.cut,aV,List.getElem?_take];split
 ·simp_all
 ·simp_all;omega
theorem qq (R:ai) (n:Nat):Mv R (R.cut n) n:=⟨fun _ _ h=>h,fun _ _ hl h=>jq.2 ⟨hl,h⟩⟩
section Dm
variable {E:Env} {R R':ai} {w w':World} {β β':Nat→Nat} {s s':St} {a a':Act}
def zb (R:ai) (w:World) (β:Nat→Nat) (K:Nat→Prop) (ae:ba) (tmps:Array Value):Prop:=
 ∀ i,¬ K i→lk ae i≠.none→∃ c,tmps[i]?=some c∧pQ R w β (lk ae i) c
theorem zd {tmps:Array Value} {base:ba}:∀ {W:List Tmp} {K:Nat→Prop},zb R w β (fun i=>i∈W∨K i) base tmps→zb R w β K (za W base) tmps
 |[],K,h=>fun i hi hn=>h i (by simpa using hi) hn
 |t :: W,K,h=>fun i hi hn=>by
  have ih:zb R w β (fun i=>i=t∨K i) (za W base) tmps:=zd (W:=W) (fun j hj=>h j (fun hc=>hj (by
   rcases hc with hc|hc
   ·rcases List.mem_cons.1 hc with hc|hc
    ·exact .inr (.inl hc)
    ·exact .inl hc
   ·exact .inr (.inr hc))))
  simp only [za] at hn ⊢;by_cases e:t=i
  ·subst e;rw [aA] at hn;exact absurd rfl hn
  ·rw [aN e] at hn ⊢;exact ih i (by simp; exact ⟨fun e'=>e e'.symm,hi⟩) hn
theorem vZ {n:Nat} (m:Mv R' R n) {tmps:Array Value} {ae:ba} (hT:pR R' w β ae tmps) {base:ba}:∀ {ts:List Tmp} {K:Nat→Prop} {l l' r r':List AV},yZ ae ts=some l→cM (l++r) (l'++r')→l.length=l'.length→aI n l'=true →
  zb R w β (fun i=>i∈ts∨K i) base tmps→zb R w β K (qo ts (l'++r') base) tmps
 |[],K,l,l',r,r',_,_,_,_,h=>fun i hi hn=>by
  have e:qo [] (l'++r') base=base:=rfl;rw [e] at hn ⊢;exact h i (by simpa using hi) hn
 |t :: ts,K,l,l',r,r',hg,hw,hl,hu,h=>by
  unfold yZ at hg;split at hg
  ·rename_i a ha;split at hg
   ·rename_i l0 wI;cases hg;cases l' with
    |nil=>simp at hl
    |cons b l'=>
     simp only [List.cons_append,cM] at hw;simp only [aI,Bool.and_eq_true] at hu;have ih:zb R w β (fun i=>i=t∨K i) (qo ts (l'++r') base) tmps:=vZ m hT wI hw.2 (by simpa using hl) hu.2 (fun j hj=>h j (fun hc=>hj (by
      rcases hc with hc|hc
      ·rcases List.mem_cons.1 hc with hc|hc
       ·exact .inr (.inl hc)
       ·exact .inl hc
      ·exact .inr (.inr hc))))
     intro i hi hn;simp only [qo,List.cons_append] at hn ⊢;by_cases e:t=i
     ·subst e;rw [aA] at hn ⊢;obtain ⟨c,h1,h2⟩:=hT t (by rw [ha]; simp);rw [ha] at h2;exact ⟨c,h1,Rel.move m hu.1 (hw.1 _ _ _ h2)⟩
     ·rw [aN e] at hn ⊢;exact ih i (by simp; exact ⟨fun e'=>e e'.symm,hi⟩) hn
   ·cases hg
  ·cases hg
def ze (R:ai) (w:World) (β:Nat→Nat) (k:Nat) (cs:List AV):Prop:=
 (∃ vs el,w.heap[β k]?=some (.cells ⟨vs⟩ el (0,0))∧aL R w cs vs∧(∀ v∈vs,v.oneCell'=true))∧(∀ o,¬ R.I (β k) o)∧¬ Live R (β k)
theorem qt {R:ai} {n b:Nat} (h:Live (R.cut n) b):Live R b:=by
 obtain ⟨id,ro,h1,h2⟩:=h;exact ⟨id,ro,(jq.1 h1).2,h2⟩
theorem ze.cut {n k:Nat} {cs eP:List AV} (h:ze R w β k cs) (hw:cM cs eP) (hu:aI n eP=true):ze (R.cut n) w β k eP:=by
 obtain ⟨⟨vs,el,h1,h2,h3⟩,h4,h5⟩:=h;exact ⟨⟨vs,el,h1,(hw.rel h2).move (qq R n) hu,h3⟩,h4,fun hl=>h5 (qt hl)⟩
theorem gd {n:Nat}:∀ {l r:List AV},aI n (l++r)=(aI n l&&aI n r)
 |[],r=>by simp [aI]
 |a :: l,r=>by simp [aI,gd (l:=l),Bool.and_assoc]
theorem cM.split:∀ {l r l':List AV},cM (l++r) l'→∃ a b,l'=a++b∧cM l a∧cM r b∧a.length=l.length
 |[],r,l',h=>⟨[],l',rfl,trivial,h,rfl⟩
 |x :: l,r,[],h=>h.elim
 |x :: l,r,y :: l',h=>by
  obtain ⟨a,b,rfl,h2,h3,h4⟩:=cM.split (l:=l) (r:=r) (l':=l') h.2;exact ⟨y :: a,b,rfl,⟨h.1,h2⟩,h3,by simp [h4]⟩
theorem En {n:Nat} {ZL:cD} (hb:∀ k cs,di ZL k=some cs→ze R w β k cs) {base:cD}:∀ {bx:List (Nat × Nat)} {K:Nat→Prop} {l l' r:List AV},y7 ZL bx=some l→cM l l'→aI n l'=true →
  (∀ k cs,¬ K k→vD bx k=false→di base k=some cs→di ZL k=some cs∧aI n cs=true) →
  ∀ k cs,¬ K k→di (vY bx (l'++r) base) k=some cs→ze (R.cut n) w β k cs∧∃ eP,di ZL k=some eP
 |[],K,l,l',r,_,_,_,h,k,cs,hK,hk=>by
  obtain ⟨h1,h2⟩:=h k cs hK rfl hk;exact ⟨(hb k cs h1).cut (cM.refl _) h2,cs,h1⟩
 |(d,m) :: bx,K,l,l',r,hg,hw,hu,h,k,cs,hK,hk=>by
  unfold y7 at hg;split at hg
  ·rename_i Xq hd;split at hg
   ·rename_i l0 wI;cases hm:Nat.beq Xq.length m with
    |false=>rw [hm] at hg; cases hg
    |true=>
     rw [hm] at hg;cases hg;have hm:=Nat.eq_of_beq_eq_true hm;obtain ⟨x,y,rfl,k1,k2,k3⟩:=hw.split;rw [gd,Bool.and_eq_true] at hu;have e1:((x++y)++r).take m=x:=by rw [List.append_assoc,← hm,← k3,List.take_left]
     have e2:((x++y)++r).drop m=y++r:=by rw [List.append_assoc,← hm,← k3,List.drop_left]
     simp only [vY,e1,e2] at hk;rcases fk hk with ⟨rfl,rfl⟩|⟨cz,hk⟩
     ·exact ⟨(hb d Xq hd).cut k1 hu.1,Xq,hd⟩
     ·refine En hb (K:=fun k=>k=d∨K k) (r:=r) wI k2 hu.2 (fun k' eP hK' h1 h2=>?_) k cs (fun hc=>?_) hk
      ·exact h k' eP (fun hc=>hK' (.inr hc)) (by simp only [vD,h1,Bool.or_false]; exact oE (fun e=>hK' (.inl e.symm))) h2
      ·rcases hc with hc|hc
       ·exact cz hc.symm
       ·exact hK hc
   ·cases hg
  ·cases hg
def zf (n:Nat):List GL→List AV→Prop
 |[],_=>True
 |.bo _ _ :: r,l=>aI n (AV.eE (eQ l))=true∧zf n r l.tail
 |.row m :: r,l=>zf n r (l.drop m)
 |.map :: r,l=>zf n r l.tail
 |.Fa :: r,l=>zf n r l.tail.tail
 |.bc _ _ :: r,l=>zf n r l.tail
 |.tN :: r,l=>aI n (AV.eE (eQ l))=true∧zf n r l.tail
 |.jh _ :: r,l=>zf n r l.tail.tail
 |_ :: r,l=>zf n r l
def qv (n:Nat):List Bool→List AV→Prop
 |[],_=>True
 |_ :: _,[]=>True
 |f :: fl,a :: l=>(f=true→aI n a.eE=true)∧qv n fl l
theorem qv.drop {m:Nat}:∀ {fl:List Bool} {l:List AV} (n:Nat),qv m fl l→qv m (gn n fl) (l.drop n)
 |_,_,0,h=>by simpa [gn] using h
 |[],_,_+1,_=>by simp [gn,qv]
 |_ :: fl,[],n+1,_=>by
  rw [List.drop_nil];cases gn (n+1) (_ :: fl) <;> trivial
 |_ :: fl,_ :: l,n+1,h=>by simpa [gn] using qv.drop n h.2
theorem gw {m:Nat}:∀ (g:List GL) {fl:List Bool} {l:List AV},lT g fl=true→qv m fl l→zf m g l
 |[],_,_,_,_=>trivial
 |.bo _ _ :: g,[],_,h,_=>by cases h
 |.bo _ _ :: g,f :: fl,[],h,_=>by
  simp only [lT,Bool.and_eq_true] at h;refine ⟨rfl,gw g (fl:=fl) h.2 ?_⟩;cases fl <;> trivial
 |.bo _ _ :: g,f :: fl,a :: l,h,k=>by
  simp only [lT,Bool.and_eq_true] at h;exact ⟨k.1 h.1,gw g h.2 k.2⟩
 |.row n :: g,fl,l,h,k=>gw g (show lT g (gn n fl)=true from h) (k.drop n)
 |.map :: g,fl,l,h,k=>by
  have:=gw g (show lT g (gn 1 fl)=true from h) (k.drop 1);rw [List.drop_one] at this;exact this
 |.Fa :: g,fl,l,h,k=>by
  have:=gw g (show lT g (gn 2 fl)=true from h) (k.drop 2);have e:l.drop 2=l.tail.tail:=by cases l with
   |nil=>rfl
   |cons a l=>cases l <;> rfl
  rw [e] at this;exact this
 |.bc _ _ :: g,fl,l,h,k=>by
  have:=gw g (show lT g (gn 1 fl)=true from h) (k.drop 1);rw [List.drop_one] at this;exact this
 |.jh _ :: g,fl,l,h,k=>by
  have:=gw g (show lT g (gn 2 fl)=true from h) (k.drop 2);have e:l.drop 2=l.tail.tail:=by cases l with
   |nil=>rfl
   |cons a l=>cases l <;> rfl
  rw [e] at this;exact this
 |.tN :: g,[],_,h,_=>by cases h
 |.tN :: g,f :: fl,[],h,_=>by
  simp only [lT,Bool.and_eq_true] at h;refine ⟨rfl,gw g (fl:=fl) h.2 ?_⟩;cases fl <;> trivial
 |.tN :: g,f :: fl,a :: l,h,k=>by
  simp only [lT,Bool.and_eq_true] at h;exact ⟨k.1 h.1,gw g h.2 k.2⟩
 |.tok _ _ _ :: g,fl,l,h,k=>gw g (show lT g fl=true from h) k
 |.dead :: g,fl,l,h,k=>gw g (show lT g fl=true from h) k
 |.lp _ :: g,fl,l,h,k=>gw g (show lT g fl=true from h) k
 |.aZ :: g,fl,l,h,k=>gw g (show lT g fl=true from h) k
theorem zg {n:Nat} {α:Type} {g:α→AV} (hg:∀ x,(g x).under n=true):∀ xs:List α,aI n (xs.map g)=true
 |[]=>rfl
 |x :: xs=>by simp only [List.map_cons,aI,hg x,zg hg xs,Bool.and_self]
theorem aK.Eo (n:Nat) (L:Nat→Nat):∀ (ps:aK) (x:ps.T),qv n (ps.flags n) (ps.lQ L x)
 |.nil,_=>trivial
 |.cons p .nil,x=>⟨fun h=>QM L p x h,trivial⟩
 |.cons p (.cons q ps),x=>⟨fun h=>QM L p x.1 h,(aK.cons q ps).Eo n L x.2⟩
where
 QM (L:Nat→Nat):∀ (p:aM) (x:p.T),p.lcl n=true→aI n (p.lQ L x).eE=true
  |.list _ p,x,h=>zg (fun y=>p.du y h) _
  |.int _,_,h=>by cases h
  |.bool,_,h=>by cases h
  |.str,_,h=>by cases h
  |.agg _,_,h=>by cases h
  |.bD _,_,h=>by cases h
  |.own _ _ _,_,h=>by cases h
  |.bc _ _ _,_,h=>by cases h
  |.j6 _,_,h=>by cases h
  |.two _ _,_,h=>by cases h
def GOk (n:Nat):GO→GO→Prop
 |.row cs el,.row eP Zt=>Zt=el∧cM cs eP∧aI n eP=true
 |.tok f sz e,.tok f' bu e'=>f=f'∧sz=bu∧e=e'
 |.defers a,.defers b=>a=b
 |.map es,.map es'=>(es'=es∧jd es=true)∨∃ l,es'=aC l∧ky (af es) l∧aI n l=true
 |.bc fs sz e,.bc Cc bu e'=>fs=Cc∧sz=bu∧e=e'
 |.jh rF m left _ t,.jh mid' m' Bn cur t'=>rF=mid'∧m=m'∧left=Bn∧t=t'∧rF < n∧cur=none
 |.ic l p,.ic l' p'=>l'=l∧p'=p
 |.bo es sz e,.bo es' bu e'=>bu=sz∧e'=e∧ky es es'∧aI n es'=true
 |_,.dead=>True
 |_,_=>False
def LOk:GO→GO→GO→Prop
 |.loop _ _ fn sl n ps ss bd d _,.loop b p _ _ _ _ _ _ _ dn,go=>go=.loop b p fn sl n ps ss bd d dn
 |_,_,_=>False
theorem Jz {n:Nat} {o o':GO} (h:CG o o'=true):GOk n o' o:=by
 cases o with
 |tok f sz e=>
  cases o' with
  |tok f' bu e'=>
   simp only [CG,Bool.and_eq_true] at h;exact ⟨of_decide_eq_true h.1,Nat.eq_of_beq_eq_true h.2.1,Nat.eq_of_beq_eq_true h.2.2⟩
  |_=>cases h
 |defers a=>
  cases o' with
  |defers b=>cases a <;> cases b <;> first | rfl | cases h
  |_=>cases h
 |dead=>cases o' <;> trivial
 |_=>cases h
theorem OD {k:E9} {o o':GO} (h:SI k o o'=true):LOk o o' (QJ k o):=by
 cases o with
 |loop b p fn sl n ps ss bd d dn=>
  cases o' with
  |loop b' p' fn' Wb n' XG OE Wf d' dn'=>
   obtain ⟨rfl,rfl,rfl⟩:=E9.HT (show k.is b' p' dn'=true from h);rfl
  |_=>cases h
 |_=>cases h
theorem rT (a:AV):a.entries=aC a.eE:=by cases a <;> rfl
theorem iJ {n:Nat} {vs:List AV}:∀ {g:List GL} {B G:List GO} {l l':List AV},kT g G=some l→cM l l'→Kz l l'→zf n g l'∧LG n g=true→aI n l'=true→dY vs g B G=true →
  ∀ id go,nth (dP vs g B l') id=some go→∃ go',nth G id=some go'∧(GOk n go' go∨∃ Kv,nth B id=some Kv∧LOk Kv go' go)
 |[],B,G,l,l',_,_,_,_,_,_,id,go,h=>by simp [dP,nth] at h
 |x :: g,[],G,l,l',_,_,_,_,_,ht,_,_,_=>by cases x <;> cases G <;> cases ht
 |x :: g,_ :: _,[],l,l',_,_,_,_,_,ht,_,_,_=>by cases x <;> cases ht
 |.row m :: g,b :: B,o :: G,l,l',hg,hw,hx,uK,hu,ht,id,go,h=>by
   obtain ⟨Jd,AL⟩:QK b o=true∧dY vs g B G=true:=by
    rw [← Bool.and_eq_true];cases o <;> exact ht
   cases o with
   |row cs el=>
    have nJ:XF b=el:=by
     cases b <;> first | (cases Jd; done) | exact Nat.eq_of_beq_eq_true Jd
    change (match kT g G with
     |some r=>bif Nat.beq cs.length m then some (cs++r) else none
     |none=>none)=some l at hg
    split at hg
    ·rename_i r hr;cases hm:Nat.beq cs.length m with
     |false=>rw [hm] at hg; cases hg
     |true=>
      rw [hm] at hg;cases hg;have hm:=Nat.eq_of_beq_eq_true hm;obtain ⟨x,y,rfl,k1,k2,k3⟩:=hw.split;rw [gd,Bool.and_eq_true] at hu;have e1:(x++y).take m=x:=by rw [← hm,← k3,List.take_left]
      have e2:(x++y).drop m=y:=by rw [← hm,← k3,List.drop_left]
      simp only [dP,e1,e2] at h;cases id with
      |zero=>simp only [nth] at h; cases h; exact ⟨.row cs el,rfl,.inl ⟨nJ,k1,hu.1⟩⟩
      |succ id=>exact iJ hr k2 (by obtain ⟨x',y',ZA,k1',Nz,k3'⟩:=hx.split; have:=List.append_inj ZA (by rw [k3,k3']); rw [this.2]; exact Nz) (by rw [← e2]; exact uK) hu.2 AL id go h
    ·cases hg
   |_=>cases hg
 |.tok loc sz e :: g,b :: B,o :: G,l,l',hg,hw,hx,uK,hu,ht,id,go,h=>by
   cases o with
   |tok f bu e'=>
    change (bif Nat.beq sz bu&&Nat.beq e e' then kT g G else none)=some l at hg;change (decide (f=LF vs loc)&&dY vs g B G)=true at ht;rw [Bool.and_eq_true] at ht;cases hm:(Nat.beq sz bu&&Nat.beq e e') with
    |false=>rw [hm] at hg; cases hg
    |true=>
     rw [hm] at hg;rw [Bool.and_eq_true] at hm;have q1:=Nat.eq_of_beq_eq_true hm.1;have q2:=Nat.eq_of_beq_eq_true hm.2;simp only [dP] at h;cases id with
     |zero=>
      simp only [nth] at h;cases h;exact ⟨.tok f bu e',rfl,.inl ⟨of_decide_eq_true ht.1,q1.symm,q2.symm⟩⟩
     |succ id=>exact iJ hg hw hx uK hu ht.2 id go h
   |_=>cases hg
 |.dead :: g,b :: B,o :: G,l,l',hg,hw,hx,uK,hu,ht,id,go,h=>by
   simp only [dP] at h;have Dg:kT g G=some l:=by cases o <;> exact hg
   have AL:dY vs g B G=true:=by cases o <;> exact ht
   cases id with
   |zero=>
    simp only [nth] at h;cases h;exact ⟨o,rfl,.inl (by cases o <;> trivial)⟩
   |succ id=>exact iJ Dg hw hx uK hu AL id go h
 |.lp k :: g,b :: B,o :: G,l,l',hg,hw,hx,uK,hu,ht,id,go,h=>by
   simp only [dP] at h;have Dg:kT g G=some l:=by cases o <;> exact hg
   change (SI k b o&&dY vs g B G)=true at ht;rw [Bool.and_eq_true] at ht;cases id with
   |zero=>
    simp only [nth] at h;cases h;exact ⟨o,rfl,.inr ⟨b,rfl,OD ht.1⟩⟩
   |succ id=>exact iJ Dg hw hx uK hu ht.2 id go h
 |.aZ :: g,b :: B,o :: G,l,l',hg,hw,hx,uK,hu,ht,id,go,h=>by
   simp only [dP] at h;have Dg:kT g G=some l:=by cases o <;> exact hg
   change (CG b o&&dY vs g B G)=true at ht;rw [Bool.and_eq_true] at ht;cases id with
   |zero=>
    simp only [nth] at h;cases h;exact ⟨o,rfl,.inl (Jz ht.1)⟩
   |succ id=>exact iJ Dg hw hx uK hu ht.2 id go h
 |.map :: g,b :: B,o :: G,l,l',hg,hw,hx,uK,hu,ht,id,go,h=>by
   cases o with
   |map es=>
    change (match kT g G with
     |some r=>some (AV.list .ea 2 (af es) :: r)
     |none=>none)=some l at hg
    change (jd es&&dY vs g B G)=true at ht;rw [Bool.and_eq_true] at ht;split at hg
    ·rename_i r hr;cases hg;cases l' with
     |nil=>exact hw.elim
     |cons a l'=>
      simp only [aI,Bool.and_eq_true] at hu;simp only [dP,eQ,List.tail_cons] at h;cases id with
      |zero=>
       simp only [nth] at h;cases h;refine ⟨.map es,rfl,.inl (.inl ⟨?_,ht.1⟩)⟩;rw [rT,hx.2.1 ht.1];exact pA es
      |succ id=>exact iJ hr hw.2 hx.2.2.2 uK hu.2 ht.2 id go h
    ·cases hg
   |_=>cases hg
 |.Fa :: g,b :: B,o :: G,l,l',hg,hw,hx,uK,hu,ht,id,go,h=>by
   have AL:dY vs g B G=true:=by cases o <;> exact ht
   cases o with
   |ic s pos=>
    change (match kT g G with
     |some r=>some (AV.str s :: AV.int .i64 pos :: r)
     |none=>none)=some l at hg
    split at hg
    ·rename_i r hr;cases hg
     match l',hw,hx,hu,h with
     |[],hw,_,_,_=>exact hw.elim
     |[_],hw,_,_,_=>exact hw.2.elim
     |a :: a' :: l',hw,hx,hu,h=>
      simp only [aI,Bool.and_eq_true] at hu;simp only [dP,eQ,List.tail_cons] at h;have e1:=hx.1 (by simp [AV.exact]);have e2:=hx.2.2.2.1 (by simp [AV.exact]);subst e1 e2;cases id with
      |zero=>
       simp only [nth] at h;cases h;exact ⟨.ic s pos,rfl,.inl ⟨rfl,by simp [AV.ox]⟩⟩
      |succ id=>exact iJ hr hw.2.2 hx.2.2.2.2.2.2 uK hu.2.2 AL id go h
    ·cases hg
   |_=>cases hg
 |.bo sz e :: g,b :: B,o :: G,l,l',hg,hw,hx,uK,hu,ht,id,go,h=>by
   have AL:dY vs g B G=true:=by cases o <;> exact ht
   cases o with
   |bo es bu e'=>
    change (match kT g G with
     |some r=>bif Nat.beq sz bu&&Nat.beq e e' then some (AV.list .ea bu es :: r) else none
     |none=>none)=some l at hg
    split at hg
    ·rename_i r hr;cases hm:(Nat.beq sz bu&&Nat.beq e e') with
     |false=>rw [hm] at hg; cases hg
     |true=>
     rw [hm] at hg;rw [Bool.and_eq_true] at hm;have q1:=Nat.eq_of_beq_eq_true hm.1;have q2:=Nat.eq_of_beq_eq_true hm.2;cases hg;cases l' with
     |nil=>exact hw.elim
     |cons a l'=>
      simp only [aI,Bool.and_eq_true] at hu;simp only [dP,eQ,List.tail_cons] at h;cases id with
      |zero=>
       simp only [nth] at h;cases h;exact ⟨.bo es bu e',rfl,.inl ⟨q1,q2,hx.2.2.1,uK.1.1⟩⟩
      |succ id=>exact iJ hr hw.2 hx.2.2.2 ⟨uK.1.2,uK.2⟩ hu.2 AL id go h
    ·cases hg
   |_=>cases hg
 |.bc sz e :: g,b :: B,o :: G,l,l',hg,hw,hx,uK,hu,ht,id,go,h=>by
   have AL:dY vs g B G=true:=by cases o <;> exact ht
   cases o with
   |bc fs bu e'=>
    change (match kT g G with
     |some r=>bif Nat.beq sz bu&&Nat.beq e e' then some (AV.list .ea 1 (a7 fs) :: r) else none
     |none=>none)=some l at hg
    split at hg
    ·rename_i r hr;cases hm:(Nat.beq sz bu&&Nat.beq e e') with
     |false=>rw [hm] at hg; cases hg
     |true=>
     rw [hm] at hg;rw [Bool.and_eq_true] at hm;have q1:=Nat.eq_of_beq_eq_true hm.1;have q2:=Nat.eq_of_beq_eq_true hm.2;cases hg;cases l' with
     |nil=>exact hw.elim
     |cons a l'=>
      simp only [aI,Bool.and_eq_true] at hu;simp only [dP,eQ,List.tail_cons] at h;cases id with
      |zero=>
       simp only [nth] at h;cases h;refine ⟨.bc fs bu e',rfl,.inl ⟨?_,q1.symm,q2.symm⟩⟩;rw [hx.2.1 (yY fs)];exact (vX fs).symm
      |succ id=>exact iJ hr hw.2 hx.2.2.2 uK hu.2 AL id go h
    ·cases hg
   |_=>cases hg
 |.tN :: g,b :: B,o :: G,l,l',hg,hw,hx,uK,hu,ht,id,go,h=>by
   have AL:dY vs g B G=true:=by cases o <;> exact ht
   cases o with
   |map es=>
    change (match kT g G with
     |some r=>some (AV.list .ea 2 (af es) :: r)
     |none=>none)=some l at hg
    split at hg
    ·rename_i r hr;cases hg;cases l' with
     |nil=>exact hw.elim
     |cons a l'=>
      simp only [aI,Bool.and_eq_true] at hu;simp only [dP,eQ,List.tail_cons] at h;cases id with
      |zero=>
       simp only [nth] at h;cases h;exact ⟨.map es,rfl,.inl (.inr ⟨a.eE,rT a,hx.2.2.1,uK.1.1⟩)⟩
      |succ id=>exact iJ hr hw.2 hx.2.2.2 ⟨uK.1.2,uK.2⟩ hu.2 AL id go h
    ·cases hg
   |_=>cases hg
 |.jh rF :: g,b :: B,o :: G,l,l',hg,hw,hx,uK,hu,ht,id,go,h=>by
   obtain ⟨Jd,AL⟩:QL b o=true∧dY vs g B G=true:=by
    rw [← Bool.and_eq_true];cases o <;> exact ht
   cases o with
   |jh mid' k left cur t=>
    have nJ:XE b=t:=by
     cases b <;> first | (cases Jd; done) | exact Nat.eq_of_beq_eq_true Jd
    change (match kT g G with
     |some r=>bif Nat.beq rF mid' then some (AV.int .i64 k :: AV.list .ea 1 (a7 left) :: r) else none
     |none=>none)=some l at hg
    split at hg
    ·rename_i r hr;cases hm:Nat.beq rF mid' with
     |false=>rw [hm] at hg; cases hg
     |true=>
     rw [hm] at hg;have q1:=Nat.eq_of_beq_eq_true hm;subst q1;cases hg;have hmp:=uK.2;simp only [LG,Bool.and_eq_true] at hmp
     match l',hw,hx,hu,h with
     |[],hw,_,_,_=>exact hw.elim
     |[_],hw,_,_,_=>exact hw.2.elim
     |a :: a' :: l',hw,hx,hu,h=>
      simp only [aI,Bool.and_eq_true] at hu;simp only [dP,eQ,List.tail_cons] at h;have e1:=hx.1 (by simp [AV.exact]);have e2:=hx.2.2.2.2.1 (yY left);subst e1;cases id with
      |zero=>
       simp only [nth] at h;cases h;refine ⟨.jh rF k left cur t,rfl,.inl ⟨rfl,by simp [AV.ox],?_,nJ.symm,kw hmp.1,rfl⟩⟩;rw [e2];exact (vX left).symm
      |succ id=>exact iJ hr hw.2.2 hx.2.2.2.2.2.2 ⟨uK.1,hmp.2⟩ hu.2.2 AL id go h
    ·cases hg
   |_=>cases hg
theorem dc {vs:List AV}:∀ {g:List GL} {B:List GO} {l:List AV},(dP vs g B l).length=g.length
 |[],_,_=>rfl
 |.row m :: g,B,l=>by simp [dP,dc (g:=g)]
 |.tok _ _ _ :: g,B,l=>by simp [dP,dc (g:=g)]
 |.dead :: g,B,l=>by simp [dP,dc (g:=g)]
 |.lp _ :: g,B,l=>by simp [dP,dc (g:=g)]
 |.aZ :: g,B,l=>by simp [dP,dc (g:=g)]
 |.map :: g,B,l=>by simp [dP,dc (g:=g)]
 |.bo _ _ :: g,B,l=>by simp [dP,dc (g:=g)]
 |.Fa :: g,B,l=>by simp [dP,dc (g:=g)]
 |.bc _ _ :: g,B,l=>by simp [dP,dc (g:=g)]
 |.tN :: g,B,l=>by simp [dP,dc (g:=g)]
 |.jh _ :: g,B,l=>by simp [dP,dc (g:=g)]
theorem gX.lok {R0:ai} {w0:World} {QN:RO} {Kv go' go:GO} {ro:RO} (e:Ext R0 w0 R w) (h0:gX R0 w0 Kv QN) (hle:cp QN ro) (h:gX R' w go' ro) (k:LOk Kv go' go):gX R w go ro:=by
 cases Kv with
 |loop b p fn sl n ps ss bd d dn=>
  cases go' with
  |loop b' p' fn' Wb n' XG OE Wf d' dn'=>
   change go=_ at k;subst k;cases QN with
   |bK bb=>
    simp only [cp] at hle;subst hle;obtain ⟨⟨r0,db0,l1,l2,l3,l4,l5,l6,l7,l8,l9,l10⟩,l11⟩:=h0;obtain ⟨⟨r,db,m1,m2,m3,m4,m5,m6,m7,m8,m9,m10⟩,m11⟩:=h;obtain ⟨r1,q1,q2,q3,q4,q5,q6⟩:=e.lp bb r0 l1;have hr:r1=r:=by
     have:=q1.symm.trans m1;injection this with this;injection this with this
    subst hr;exact ⟨⟨r1,db0,q1,m2,m3,by rw [q2]; exact pR.mono e l4,by rw [q2]; exact l5,by rw [q3]; exact l6,by rw [q4]; exact l7,by rw [q5]; exact l8,by rw [q6]; exact l9,e.bK l10⟩,l11⟩
   |none=>exact h0.elim
   |bz=>exact h0.elim
   |tok _ _ _=>exact h0.elim
   |bc _=>exact h0.elim
  |_=>exact k.elim
 |_=>exact k.elim
theorem dO.cut {n:Nat}:∀ {es:List (AV × AV)} {aD:List MapEntry},gP (af es)=true→dO R w es aD→dO (R.cut n) w es aD
 |[],[],_,_=>trivial
 |[],_ :: _,_,h=>h.elim
 |_ :: _,[],_,h=>h.elim
 |(k,v) :: es,en :: aD,he,h=>by
  simp only [af,gP,AV.exact,Bool.and_true,Bool.and_eq_true] at he;exact ⟨h.1.move (qq R n) (jo n (o0 he.1.1)),h.2.1.move (qq R n) (jo n (o0 he.1.2)),dO.cut he.2 h.2.2⟩
theorem Ep {n:Nat} {v:AV} (h:v.under n=true) (k:v.aS=true):aI n v.cells=true:=by
 cases v <;> first | exact h | (simp [AV.aS] at k; done) | (simp only [AV.cells,aI,Bool.and_true]; exact h)
theorem zh {n sz:Nat}:∀ {es es':List AV},ky es es'→dw sz es→aI n es'=true→dw sz es'∧cM (aw es) (aw es')∧aI n (aw es')=true
 |[],[],_,_,_=>⟨(fun e he=>by simp at he),trivial,rfl⟩
 |e :: es,e' :: es',h,k,s7=>by
  obtain ⟨h1,h2⟩:=h;simp only [aI,Bool.and_eq_true] at s7;obtain ⟨q1,q2⟩:=k e (by simp);obtain ⟨i1,i2,i3⟩:=zh h2 (fun x hx=>k x (by simp [hx])) s7.2;have hc:=h1.cells q2;have ht:e'.aS=true:=by rw [h1.bD,q2]
  refine ⟨fun x hx=>?_,hc.append i2,by show aI n (e'.cells++aw es')=true; rw [gd,Ep s7.1 ht,i3]; rfl⟩;rcases List.mem_cons.1 hx with rfl|hx
  ·exact ⟨by rw [← hc.length,q1],ht⟩
  ·exact i1 x hx
 |[],_ :: _,h,_,_=>h.elim
 |_ :: _,[],h,_,_=>h.elim
theorem pG.head {l r:List AV} (h:pG l r):(AV.eE (eQ l)).length=(AV.eE (eQ r)).length:=by
 cases l <;> cases r <;> first | rfl | exact h.1 | exact h.elim
theorem pG.tail {l r:List AV} (h:pG l r):pG l.tail r.tail:=by
 cases l <;> cases r <;> first | exact h | exact h.2 | exact h.elim
theorem de:∀ (g:List GL) {l r:List AV} (i:Nat),pG l r→lS g l i=lS g r i
 |[],_,_,_,_=>rfl
 |.bo _ _ :: g,l,r,0,h=>h.head
 |.bo _ _ :: g,l,r,i+1,h=>de g i h.tail
 |.row _ :: g,l,r,0,h=>rfl
 |.row n :: g,l,r,i+1,h=>de g i (h.drop n)
 |.map :: g,l,r,0,h=>rfl
 |.map :: g,l,r,i+1,h=>de g i h.tail
 |.Fa :: g,l,r,0,h=>rfl
 |.Fa :: g,l,r,i+1,h=>de g i h.tail.tail
 |.bc _ _ :: g,l,r,0,h=>rfl
 |.bc _ _ :: g,l,r,i+1,h=>de g i h.tail
 |.tN :: g,l,r,0,h=>rfl
 |.tN :: g,l,r,i+1,h=>de g i h.tail
 |.jh _ :: g,l,r,0,h=>rfl
 |.jh _ :: g,l,r,i+1,h=>de g i h.tail.tail
 |.tok _ _ _ :: g,l,r,0,h=>rfl
 |.tok _ _ _ :: g,l,r,i+1,h=>de g i h
 |.dead :: g,l,r,0,h=>rfl
 |.dead :: g,l,r,i+1,h=>de g i h
 |.lp _ :: g,l,r,0,h=>rfl
 |.lp _ :: g,l,r,i+1,h=>de g i h
 |.aZ :: g,l,r,0,h=>rfl
 |.aZ :: g,l,r,i+1,h=>de g i h
theorem dO.XH {n:Nat}:∀ {es:List (AV × AV)} {l:List AV} {aD:List MapEntry},ky (af es) l→aI n l=true→dO R w es aD→dO (R.cut n) w (aC l) aD
 |[],[],[],_,_,_=>trivial
 |[],[],_ :: _,_,_,h=>h.elim
 |[],_ :: _,_,h,_,_=>h.elim
 |(_,_) :: _,[],_,h,_,_=>h.elim
 |(_,_) :: _,_ :: _,[],_,_,h=>h.elim
 |(k,v) :: es,a :: l,en :: aD,hd,hu,h=>by
  obtain ⟨d1,d2⟩:=hd;simp only [aI,Bool.and_eq_true] at hu;have hc:=d1.cells rfl;have hl:[k,v].length=a.cells.length:=hc.length;cases a with
  |agg cs=>
   match cs,hc,hl with
   |[k',v'],hc,_=>
    have SJ:aI n [k',v']=true:=hu.1;simp only [aI,Bool.and_true,Bool.and_eq_true] at SJ;exact ⟨(hc.1 _ _ _ h.1).move (qq R n) SJ.1,(hc.2.1 _ _ _ h.2.1).move (qq R n) SJ.2,dO.XH d2 hu.2 h.2.2⟩
   |[],_,hl=>simp [AV.cells] at hl
   |[_],_,hl=>simp [AV.cells] at hl
   |_ :: _ :: _ :: _,_,hl=>simp [AV.cells] at hl
  |_=>simp [AV.cells] at hl
theorem gX.gok {n:Nat} {go go':GO} {ro:RO} (h:gX R w go' ro) (k:GOk n go' go):gX (R.cut n) w go ro:=by
 cases go with
 |dead=>
  cases ro with
  |none=>trivial
  |bz=>trivial
  |bK b=>exact h.lt rfl
  |tok f b c=>exact h.lt rfl
  |bc ts=>exact fun j f b c hj=>h.lt ⟨j,f,c,hj⟩
 |row cs el=>
  cases go' with
  |row eP Zt=>
   cases ro with
   |bK b=>
    obtain ⟨vs,h1,h2,h3,h4⟩:=h;obtain ⟨rfl,k⟩:=k;exact ⟨vs,h1,(k.1.rel h2).move (qq R n) k.2,h3,h4⟩
   |none=>exact h.elim
   |bz=>exact h.elim
   |tok _ _ _=>exact h.elim
   |bc _=>exact h.elim
  |_=>exact k.elim
 |tok f sz e=>
  cases go' with
  |tok f' bu e'=>
   obtain ⟨rfl,rfl,rfl⟩:=k;cases ro with
   |bK b=>exact h.elim
   |none=>exact h.elim
   |bz=>exact h
   |tok _ _ _=>exact h
   |bc _=>exact h.elim
  |_=>exact k.elim
 |defers a=>
  cases go' with
  |defers b=>
   change b=a at k;subst k;cases ro <;> exact h
  |_=>exact k.elim
 |map es=>
  cases go' with
  |map es'=>
   cases ro with
   |bK b=>
    obtain ⟨aD,clock,h1,h2,h3⟩:=h;rcases k with ⟨rfl,k2⟩|⟨l,rfl,k2,k3⟩
    ·exact ⟨aD,clock,h1,dO.cut k2 h2,h3⟩
    ·exact ⟨aD,clock,h1,dO.XH k2 k3 h2,h3⟩
   |none=>exact h.elim
   |bz=>exact h.elim
   |tok _ _ _=>exact h.elim
   |bc _=>exact h.elim
  |_=>exact k.elim
 |bc fs sz e=>
  cases go' with
  |bc Cc bu e'=>
   obtain ⟨rfl,rfl,rfl⟩:=k;cases ro <;> exact h
  |_=>exact k.elim
 |jh rF m left cur t=>
  cases go' with
  |jh mid' m' Bn Dz t'=>
   obtain ⟨rfl,rfl,rfl,rfl,k,rfl⟩:=k;cases ro with
   |bK b=>obtain ⟨bm,seen,c0,h1,h2,h3,h4,h5,h6,_⟩:=h; exact ⟨bm,seen,c0,jq.2 ⟨k,h1⟩,h2,h3,h4,h5,h6,fun i hi=>by cases hi⟩
   |none=>exact h.elim
   |bz=>exact h.elim
   |tok _ _ _=>exact h.elim
   |bc _=>exact h.elim
  |_=>exact k.elim
 |ic l p=>
  cases go' with
  |ic l' p'=>
   obtain ⟨rfl,rfl⟩:=k;cases ro <;> exact h
  |_=>exact k.elim
 |bo es sz e=>
  cases go' with
  |bo es' bu e'=>
   obtain ⟨rfl,rfl,k,kc⟩:=k;cases ro with
   |bK b=>exact h.elim
   |none=>exact h.elim
   |bc _=>exact h.elim
   |bz=>
    have he:es'=[]:=h;subst he;exact List.eq_nil_of_length_eq_zero k.length.symm
   |tok f b c=>
    obtain ⟨Nv,h0,h1,cur,vs,h2,h3,h4,h5,h6,h7,h8,h9⟩:=h;obtain ⟨k1,k2,k3⟩:=zh k h1 kc;exact ⟨Nv,h0.trans k.length,k1,cur,vs,h2,h3,h4,h5,h6,(k2.rel h7).move (qq R n) k3,h8,h9⟩
  |_=>exact k.elim
 |_=>cases go' <;> exact k.elim
theorem rI.ids:∀ {l:List Nat} {ds:List Deferred},rI R l ds→∀ id∈l,id < R.obj.length
 |[],[],_,id,hi=>by simp at hi
 |x :: l,d :: ds,h,id,hi=>by
  obtain ⟨⟨b,h1,_⟩,h2⟩:=h;rcases List.mem_cons.1 hi with rfl|hi
  ·exact bi h1
  ·exact rI.ids h2 id hi
 |[],_ :: _,h,_,_=>h.elim
 |_ :: _,[],h,_,_=>h.elim
theorem rI.cut {n:Nat}:∀ {l:List Nat} {ds:List Deferred},rI R l ds→(∀ id∈l,id < n)→rI (R.cut n) l ds
 |[],[],_,_=>trivial
 |x :: l,d :: ds,h,hi=>by
  obtain ⟨⟨b,h1,h3⟩,h2⟩:=h;exact ⟨⟨b,jq.2 ⟨hi x (by simp),h1⟩,h3⟩,rI.cut h2 fun id hm=>hi id (by simp [hm])⟩
 |[],_ :: _,h,_=>h.elim
 |_ :: _,[],h,_=>h.elim
theorem we {n:Nat} {tmps:Array Value} {ae base:ba} (hT:pR R w β ae tmps):∀ {l:List (Tmp × Nat × Nat)},HU ae l=true→pR (R.cut n) w β base tmps→pR (R.cut n) w β (qp l base) tmps
 |[],_,h=>h
 |(t,k,o) :: l,hl,h=>fun i hi=>by
  simp only [HU,Bool.and_eq_true] at hl;simp only [qp] at hi ⊢;by_cases e:t=i
  ·subst e;rw [aA];have h1:=hl.1;split at h1
   ·rename_i k' o' hk;rw [Bool.and_eq_true] at h1;have e1:=Nat.eq_of_beq_eq_true h1.1;have e2:=Nat.eq_of_beq_eq_true h1.2;subst e1 e2;obtain ⟨c,q1,q2⟩:=hT t (by rw [hk]; simp);rw [hk] at q2;exact ⟨c,q1,q2⟩
   ·cases h1
  ·rw [aN e] at hi ⊢;exact we hT hl.2 h i hi
theorem bI.SK {t:bI} {v:t.ps.T} (hs:aG s s') (h0:aX E R w β s a) (h:aX E R' w' β' s' a') (st:Ext R w R' w') (hd:t.dec s s'=some v) :
  aX E (R'.cut s.G.length) w' β' (t.st s v) a'∧Ext R w (R'.cut s.G.length) w'∧∀ k cs,di (t.st s v).boxes k=some cs→∃ eP,di s'.boxes k=some eP:=by
 have hlen:=h0.g.len;unfold bI.dec at hd;cases fa:t.ok s s' with
 |false=>rw [fa] at hd; cases hd
 |true=>
 rw [fa] at hd;simp only [cond_true] at hd;unfold bI.ok at fa;simp only [Bool.and_eq_true] at fa;obtain ⟨⟨⟨⟨⟨k1,k2⟩,k3⟩,k4⟩,k5,k7,k8⟩,k6⟩:=fa;obtain ⟨pre,Eb⟩:=hs.sl;obtain ⟨preB,QO⟩:=hs.bx;rw [Eb,Em] at k1;rw [QO,Em] at k2;have k3:=HV k3;have k4:=Nat.eq_of_beq_eq_true k4;split at hd
 ·rename_i la lb lc g1 g2 g3;cases hv:t.ps.Jx (lS t.g lc) (la++(lb++lc)) with
  |none=>rw [hv] at hd; cases hd
  |some v'=>
  rw [hv] at hd;simp only [Option.bind_some] at hd;cases Kw:dY (t.rJ v') t.g s.G s'.G with
  |false=>rw [Kw] at hd; cases hd
  |true=>
  rw [Kw] at hd;cases hd;have lsl:∀ {ts:List Tmp} {l:List AV},yZ s'.ae ts=some l→l.length=ts.length:=by
   intro ts
   induction ts with
   |nil=>intro l hl; simp only [yZ] at hl; cases hl; rfl
   |cons t ts ih=>
    intro l hl;unfold yZ at hl;split at hl
    ·split at hl
     ·rename_i hr;cases hl;simp [ih hr]
     ·cases hl
    ·cases hl
  have lbx:∀ {bx:List (Nat × Nat)} {l:List AV},y7 s'.boxes bx=some l→l.length=CH bx:=by
   intro bx
   induction bx with
   |nil=>intro l hl; simp only [y7] at hl; cases hl; rfl
   |cons x bx ih=>
    obtain ⟨k,m⟩:=x;intro l hl;unfold y7 at hl;split at hl
    ·split at hl
     ·rename_i cs _ _ r hr;cases hm:Nat.beq cs.length m with
      |false=>rw [hm] at hl; cases hl
      |true=>
       rw [hm] at hl;cases hl;simp only [CH,List.length_append,ih hr,Nat.eq_of_beq_eq_true hm]
     ·cases hl
    ·cases hl
  obtain ⟨hw,hex⟩:=t.ps.OB _ hv;have QP:t.rJ v=t.ps.lQ (lS t.g lc) v:=by
   unfold bI.rJ;congr 1;funext i;have hl:=hex.XD.trans (t.ps.qn (lS t.g lc) (fun _=>0) v);have Ov:=(hl.drop t.sl.length).drop (CH t.bx);rw [← lsl g1,List.drop_left,← lbx g2,List.drop_left,lsl g1,lbx g2] at Ov;exact (de t.g i Ov).symm
  have hu:aI s.G.length (t.rJ v)=true:=by
   rw [QP,t.ps.Jy _ hv];exact t.ps.GA _ k5 _
  rw [← QP] at hw hex;have hvs:∃ xa xb xc,t.rJ v=xa++(xb++xc)∧cM la xa∧cM lb xb∧cM lc xc∧xa.length=la.length∧xb.length=lb.length∧Kz lc xc:=by
   obtain ⟨xa,r,h1,h2,h3,h4⟩:=hw.split;obtain ⟨xb,xc,rfl,h6,h7,h8⟩:=h3.split;rw [h1] at hex;obtain ⟨ya,yr,g1,_,g3,g4⟩:=hex.split;obtain ⟨_,rfl⟩:=List.append_inj g1 (by rw [h4,g4]);obtain ⟨yb,yc,k1,_,k3,k4⟩:=g3.split;obtain ⟨_,rfl⟩:=List.append_inj k1 (by rw [h8,k4]);exact ⟨xa,xb,xc,h1,h2,h6,h7,h4,h8,k3⟩
  obtain ⟨xa,xb,xc,hx,wa,wb,wc,la1,lb1,exc⟩:=hvs;have hu':aI s.G.length xa=true∧aI s.G.length xb=true∧aI s.G.length xc=true:=by
   rw [hx,gd,gd] at hu;simp only [Bool.and_eq_true] at hu;exact ⟨hu.1,hu.2.1,hu.2.2⟩
  have e1:(t.rJ v).drop t.sl.length=xb++xc:=by rw [hx,← lsl g1,← la1,List.drop_left]
  have e2:(xb++xc).drop (CH t.bx)=xc:=by rw [← lbx g2,← lb1,List.drop_left]
  have uK:zf s.G.length t.g xc:=by
   have hf:=((aK.Eo s.G.length _ t.ps v).drop t.sl.length).drop (CH t.bx) (l:=(t.rJ v).drop t.sl.length);rw [e1,e2] at hf;exact gw t.g k7 hf
  have old:∀ {l:List AV} {cs:List Value},aL R w l cs→aI s.G.length l=true:=fun hr=>hr.under (by omega)
  have mv:=qq R' s.G.length;have Zu:∀ k cs,di s'.boxes k=some cs→ze R' w' β' k cs:=fun k cs hk=>h.b.box k cs hk
  have ZM:∀ k cs,di (vY t.bx (xb++xc) s.boxes) k=some cs→ze (R'.cut s.G.length) w' β' k cs∧∃ eP,di s'.boxes k=some eP:=fun k cs hk=>by
   refine En (K:=fun _=>False) Zu g2 wb hu'.2.1 (fun k cs _ h1 h2=>?_) k cs (fun h=>h) hk;refine ⟨by rw [QO]; exact El h1 h2 k2,?_⟩;obtain ⟨⟨vs,el,_,h4,_⟩,_⟩:=h0.b.box k cs h2;exact old h4
  have stG:(t.st s v).G=dP (t.rJ v) t.g s.G xc:=by simp only [bI.st,e1,e2]
  have stB:(t.st s v).boxes=vY t.bx (xb++xc) s.boxes:=by simp only [bI.st,e1]
  have stS:(t.st s v).ae=qp t.Wd (qo t.sl (xa++(xb++xc)) (za t.W s.ae)):=by simp only [bI.st,hx]
  have ext:Ext R w (R'.cut s.G.length) w':=⟨st.I,st.cell,fun id ro hi=>by
   obtain ⟨nF,h1,h2⟩:=st.obj id ro hi;exact ⟨nF,jq.2 ⟨by have:=bi hi; omega,h1⟩,h2⟩,st.lp⟩
  refine ⟨⟨⟨?_,fun id go ro h1 h2=>?_,fun i j ri rj b h1 h2=>h.g.inj i j ri rj b (jq.1 h1).2 (jq.1 h2).2,h.g.wf,fun g cs hg=>(h.g.dV g cs hg).move mv (cU _ (E.B8 g cs hg)),h.g.lo⟩,?_,?_,?_,?_⟩,ext,fun k cs hk=>?_⟩
  ·rw [stG,dc,k4];have:=h.g.len;have h3:s.G.length≤R'.obj.length:=by
    rcases Nat.lt_or_ge R'.obj.length s.G.length with bO|A9
    ·exfalso;have hx:R'.obj.length < R.obj.length:=by omega
     obtain ⟨nF,h1,_⟩:=st.obj R'.obj.length R.obj[R'.obj.length] (by rw [aV]; exact List.getElem?_eq_getElem hx);have:=bi h1;omega
    ·exact A9
   simp [ai.cut];omega
  ·rw [stG] at h1;obtain ⟨go',h3,h4⟩:=iJ g3 wc exc ⟨uK,k8⟩ hu'.2.2 Kw id go h1;rcases h4 with h4|⟨Kv,h5,h4⟩
   ·exact (h.g.obj id go' ro h3 (jq.1 h2).2).gok h4
   ·have bO:=bi h5;rw [← hlen] at bO;obtain ⟨QN,h6⟩:∃ QN,nth R.obj id=some QN:=⟨R.obj[id],by rw [aV]; exact List.getElem?_eq_getElem bO⟩;obtain ⟨nF,h7,h8⟩:=ext.obj id QN h6;have:nF=ro:=Option.some.inj (h7.symm.trans h2);subst this;exact gX.lok ext (h0.g.obj id Kv QN h5 h6) h8 (h.g.obj id go' nF h3 (jq.1 h2).2) h4
  ·rw [stB];refine ⟨fun k cs hk=>(ZM k cs hk).1,fun k k' cs eP hk jy he=>?_⟩;obtain ⟨_,c1,Oj⟩:=ZM k cs hk;obtain ⟨_,c2,Jn⟩:=ZM k' eP jy;exact h.b.inj k k' c1 c2 Oj Jn he
  ·rw [stS];have hT:zb (R'.cut s.G.length) w' β' (fun _=>False) (qo t.sl (xa++(xb++xc)) (za t.W s.ae)) a'.tmps:=by
    refine vZ mv h.t g1 (l':=xa) (r:=lb++lc) (r':=xb++xc) (wa.append (wb.append wc)) la1.symm hu'.1 (zd fun i hi hn=>?_);have hi1:We t.sl t.W i=false:=by
     simp only [We,Bool.or_eq_false_iff];refine ⟨?_,?_⟩
     ·cases hc:ND t.sl i with
      |false=>rfl
      |true=>exact absurd (.inr (.inl (CI.1 hc))) hi
     ·cases hc:ND t.W i with
      |false=>rfl
      |true=>exact absurd (.inl (CI.1 hc)) hi
    have hk:=CK hi1 k1;rw [← Eb] at hk;obtain ⟨c,h1,h2⟩:=h.t i (by rw [hk]; exact hn);rw [hk] at h2;refine ⟨c,h1,?_⟩;obtain ⟨c0,_,h4⟩:=h0.t i hn;revert h2 h4;cases lk s.ae i with
    |none=>exact fun _ _=>trivial
    |lp k off=>exact fun h2 _=>h2
    |v x=>exact fun h2 h4=>Rel.move mv (Rel.under (by omega) h4) h2
   exact we h.t k6 (fun i hi=>hT i (fun h=>h) hi)
  ·show a'.tmps.size=s.n;rw [h.n,hs.n]
  ·show rI _ s.marks a'.defers;have:=h.d;rw [k3] at this;exact this.cut fun id hid=>by have:=h0.d.ids id hid; omega
  ·rw [stB] at hk;exact (ZM k cs hk).2
 ·cases hd
theorem bI.Dm {t:bI} {v:t.ps.T} (hs:aG s s') (h0:aX E R w β s a) (h:aX E R' w' β' s' a') (st:Step R w β s.boxes R' w' β' s'.boxes) (hd:t.dec s s'=some v) :
  aX E (R'.cut s.G.length) w' β' (t.st s v) a'∧Step R w β s.boxes (R'.cut s.G.length) w' β' (t.st s v).boxes:=by
 obtain ⟨h1,h2,h3⟩:=bI.SK hs h0 h st.ext hd;refine ⟨h1,h2,st.os,st.tape,st.output,st.size,st.aZ,fun b hb ho=>st.own b hb ?_,st.im⟩;rcases ho with ho|⟨k,cs,hk,rfl⟩
 ·exact .inl (qt ho)
 ·obtain ⟨c1,Oj⟩:=h3 k cs hk;exact .inr ⟨k,c1,Oj,rfl⟩
end Dm
end Go.Am
namespace Go.Am
open Go
def fO:ba→ba
 |[]=>[]
 |.put d (.lp _ _) :: l=>.put d .none :: fO l
 |.put d x :: l=>.put d x :: fO l
 |.kill _ :: l=>fO l
def SV.AM:SV→SV
 |.lp _ _=>.none
 |x=>x
theorem qX (t:Nat):∀ l:ba,lk (fO l) t=(lk l t).AM
 |[]=>rfl
 |.put d x :: l=>by
  cases x <;> simp only [fO] <;> by_cases e:d=t <;> first | (subst e; rw [aA,aA]; rfl) | (rw [aN e,aN e]; exact qX t l)
 |.kill d :: l=>by
  simp only [fO,lk];rw [qX t l];cases lk l t with
  |lp k off=>
   by_cases e:k=d
   ·subst e; simp [SV.AM]
   ·simp [oE e,SV.AM]
  |_=>rfl
theorem kU:∀ l:ba,Ht (fO l)=true
 |[]=>rfl
 |.put d x :: l=>by
  cases x <;> simp only [fO,Ht] <;> exact kU l
 |.kill d :: l=>by simp only [fO]; exact kU l
def rfQ (E:Env) (Q:Exit→St→Prop) (s:St) (G':List GO):Prop:=
 match nth G' (s.G.length+1) with
 |some (.loop busy pending _ _ _ _ _ _ _ done)=>(busy=false∨done=true) ∧
  match pending with
  |none=>Q .normal ⟨s.ae,s.boxes,aq G' (s.G.length+1) .dead,s.G.length :: s.marks,s.ro,s.n⟩
  |some c=>fE E c Q ⟨s.ae,s.boxes,aq G' (s.G.length+1) .dead,s.G.length :: s.marks,s.ro,s.n⟩
 |_=>False
theorem zi {busy done:Bool} (h:busy=false∨done=true):(if done=true then LoopState.done else if busy=true then LoopState.busy else LoopState.ready)≠LoopState.busy:=by
 rcases h with rfl|rfl
 ·cases done <;> simp
 ·simp
theorem fE.rangeFunc {E:Env} {Q:Exit→St→Prop} {s:St} (fp:Nat) {g:Operand} {ps:Array Tmp} {assign body:Code} (bn:s.ro=none) {f:FuncId} {first cap:List AV} (hg:bw E s.ae g=.v (.fn f first cap))
  (h:cR E f (first++[.yield (s.G.length+1)]++cap) (s.G++[.defers true]++[.loop false none fp (fO s.ae) s.n ps.toList assign body s.G.length false]) (fun _ G'=>rfQ E Q s G')) :
  fE E (.rangeFunc g ps assign body) Q s:=fun R w β a F hr hf=>by
 rw [bn] at hf;have Xn:F=Fence.wide:=hf;subst Xn;refine wpIn_rangeFunc fun fn _=>?_
 have rg:=aQ hr g;rw [hg] at rg;have XI:Rel R w (.fn f first cap) (a.eval g):=rg
 -- the block for the deferred calls
 have Xr:gX (R.add (.bK w.heap.size)) (w.alloc (.deferred (some []))) (.defers true) (.bK w.heap.size):=heap_alloc_new w _;have h1:=hr.lD (.deferred (some [])) (.defers true) (.bK w.heap.size) (by exact fun _ h=>h) Xr;have s1:=cQ hr (.deferred (some [])) (.bK w.heap.size) (by exact fun _ h=>h);have fb:(w.alloc (.deferred (some []))).heap.size=w.heap.size+1:=by simp
 generalize hw1:w.alloc (.deferred (some []))=w1 at *;generalize hR1:R.add (.bK w.heap.size)=R1 at *
 -- the loop's record
 let kz:Loop:={ state:=.ready,pending:=none,fn:=fn,tmps:=a.tmps,params:=ps,assign:=assign,body:=body,defers:=w.heap.size }
 have K7:nth R1.obj s.G.length=some (.bK w.heap.size):=by rw [← hR1]; exact gr hr _
 have e2:Ext R1 w1 (R1.add (.bK w1.heap.size)) (w1.alloc (.loop kz)):=gZ h1.g.wf _ _;have Sl:gX (R1.add (.bK w1.heap.size)) (w1.alloc (.loop kz)) (.loop false none fp (fO s.ae) s.n ps.toList assign body s.G.length false) (.bK w1.heap.size):=by
  refine ⟨⟨kz,w.heap.size,heap_alloc_new w1 _,rfl,rfl,fun i hi=>?_,hr.n,by simp [kz],rfl,rfl,rfl,e2.bK K7⟩,kU _⟩;rw [qX] at hi ⊢;have cz:lk s.ae i≠.none:=fun e=>hi (by rw [e]; rfl)
  obtain ⟨c,k1,k2⟩:=hr.t i cz;refine ⟨c,k1,?_⟩;cases hx:lk s.ae i with
  |none=>exact absurd hx cz
  |lp k off=>rw [hx] at hi; exact absurd rfl hi
  |v x=>
   rw [hx] at k2;exact Rel.mono (s1.ext.trans e2) (show Rel R w x c from k2)
 have h2:=h1.lD (.loop kz) (.loop false none fp (fO s.ae) s.n ps.toList assign body s.G.length false) (.bK w1.heap.size) (by exact fun _ h=>h) Sl;have s2:=cQ h1 (.loop kz) (.bK w1.heap.size) (by exact fun _ h=>h);have LH:nth (R1.add (.bK w1.heap.size)).obj (s.G.length+1)=some (.bK w1.heap.size):=by
  have:=gr h1 (.bK w1.heap.size);simpa [St.dW] using this
 have st:=s1.trans s2;generalize hR2:R1.add (.bK w1.heap.size)=R2 at *;generalize Su:a.eval g=fv at XI;cases XI with
 | @fn _ _ _ vs us q1 q2=>
 refine ⟨w.heap.size+1,[{ target:=.collected w.heap.size,args:=#[] }],w1.alloc (.loop kz),{ target:=.fn (.func f) ⟨us⟩,args:=⟨vs⟩++#[.func (.yield (w.heap.size+1)) #[] #[]] },w1.alloc (.loop kz),f,
  ⟨vs++[.func (.yield (w.heap.size+1)) #[] #[]]++us⟩,w1.alloc (.loop kz),?_,?_,?_,?_,?_,?_⟩
 ·have:Fence.wide.round=none:=rfl;rw [this,run_enterLoop_outer,hw1]
 ·simp only [resolve,Su,Deferred.ofValue,Sem.run_pure];simp [Act.eval]
 ·intro f' _;exact trivial
 ·have:=oR (P:=E.P) h.1 (⟨vs++[.func (.yield (w.heap.size+1)) #[] #[]]++us⟩) (w1.alloc (.loop kz));simpa [invoke] using this
 ·intro hc; cases hc
 ·have hG:(s.dW (.defers true)).dW (.loop false none fp (fO s.ae) s.n ps.toList assign body s.G.length false)=s.bG (s.G++[.defers true]++[.loop false none fp (fO s.ae) s.n ps.toList assign body s.G.length false]):=rfl;have hyl:Rel R2 (w1.alloc (.loop kz)) (.yield (s.G.length+1)) (.func (.yield (w.heap.size+1)) #[] #[]):=by
   rw [← fb];exact .yield LH
  refine (h.2 R2 (w1.alloc (.loop kz)) _ h2.g ((((q1.mono st.ext).append (.one hyl)).append (q2.mono st.ext)))).mono ?_;intro e w3 he;cases e with
  |panicked c=>exact he.elim
  |outgrown=>exact he.elim
  |returned c=>
   obtain ⟨r,G',R3,hQ,dm,XJ,OF⟩:=he;obtain ⟨p1,p2⟩:=h2.qO XJ OF;unfold rfQ at hQ;split at hQ
   ·rename_i busy pending ff sl nn pp ss bd dd done CL;obtain ⟨hbd,hQ⟩:=hQ;have LI:nth R3.obj (s.G.length+1)=some (.bK w1.heap.size):=OF.ext.bK LH;obtain ⟨⟨r3,db,l1,l2,l3,_,_,_,_,_,_,_⟩,_⟩:=p1.g.obj _ _ _ CL LI;have GB:r3.state≠.busy:=by rw [l2]; exact zi hbd
    have l1':w3.heap[w.heap.size+1]?=some (.loop r3):=by rw [← fb]; exact l1
    refine ⟨r3.pending,_,run_endLoop l1' GB,?_⟩;rw [l3]
    -- the record is dead
    have XL:nth R3.obj s.G.length=some (.bK w.heap.size):=OF.ext.bK (by rw [← hR2] at e2 ⊢; exact e2.bK K7);have key:∀ x:Obj,oN x→(∀ r,Obj.loop r3=.loop r→∃ r',x=.loop r'∧pO r r')→aX E R3 (World.put w3 w1.heap.size x) β ⟨s.ae,s.boxes,aq G' (s.G.length+1) .dead,s.G.length :: s.marks,s.ro,s.n⟩ { a with defers:=[{ target:=.collected w.heap.size,args:=#[] }]++a.defers }∧Step R w β s.boxes R3 (World.put w3 w1.heap.size x) β s.boxes:=fun x hx hlx=>by
     obtain ⟨z1,z2⟩:=p1.setObj (x':=x) (go':=.dead) LI l1 trivial hx hlx (show w1.heap.size < _ by simp [World.put]; exact bt l1);exact ⟨⟨z1.g,z1.b,z1.t,z1.n,⟨⟨w.heap.size,XL,rfl⟩,z1.d⟩⟩,(st.trans p2).trans z2⟩
    obtain ⟨z1,z2⟩:=key (.loop { r3 with state:=.exhausted,pending:=pending }) trivial (fun r e=>⟨_,rfl,by cases e; exact ⟨rfl,rfl,rfl,rfl,rfl⟩⟩);rw [fb] at z1 z2;cases pending with
    |none=>exact ⟨_,R3,β,hQ,z1,z2,rfl⟩
    |some c=>
     refine wpIn_mono (hQ R3 _ β _ Fence.wide z1 (by show bL R3 s.ro Fence.wide; rw [bn]; rfl)) ?_;rintro e a'' NZ ⟨Cn,KN,QE,Lk,yx,rQ,vR⟩;exact ⟨Cn,KN,QE,Lk,yx,z2.trans rQ,vR⟩
   ·exact hQ.elim
def SL (E:Env) (Q:Exit→St→Prop) (s:St) (G':List GO):Prop:=
 match nth G' s.G.length with
 |some (.loop busy pending _ _ _ _ _ _ _ done)=>(busy=false∨done=true) ∧
  match pending with
  |none=>Q .normal ⟨s.ae,s.boxes,aq G' s.G.length .dead,s.marks,s.ro,s.n⟩
  |some c=>fE E c Q ⟨s.ae,s.boxes,aq G' s.G.length .dead,s.marks,s.ro,s.n⟩
 |_=>False
theorem fE.GC {E:Env} {Q:Exit→St→Prop} {s:St} (fp:Nat) {g:Operand} {ps:Array Tmp} {assign body:Code} {id:Nat} (bn:s.ro=some id)
  {bu0:Bool} {p0:Option Code} {fn0:FuncId} {sl0:ba} {n0:Nat} {ps0:List Tmp} {as0 bd0:Code} {d0:Nat} {dn0:Bool} (hid:nth s.G id=some (.loop bu0 p0 fn0 sl0 n0 ps0 as0 bd0 d0 dn0))
  {f:FuncId} {first cap:List AV} (hg:bw E s.ae g=.v (.fn f first cap))
  (h:cR E f (first++[.yield s.G.length]++cap) (s.G++[.loop false none fp (fO s.ae) s.n ps.toList assign body d0 false]) (fun _ G'=>SL E Q s G')) :
  fE E (.rangeFunc g ps assign body) Q s:=fun R w β a F hr hf=>by
 rw [bn] at hf;obtain ⟨b0,hb0,hF⟩:=hf;subst hF;obtain ⟨⟨r0,db0,x1,x2,x3,x4,x5,x6,x7,x8,x9,XM⟩,ZN⟩:=hr.g.obj _ _ _ hid hb0;refine wpIn_rangeFunc fun fn _=>?_
 have rg:=aQ hr g;rw [hg] at rg;have XI:Rel R w (.fn f first cap) (a.eval g):=rg
 -- the loop's record
 let kz:Loop:={ state:=.ready,pending:=none,fn:=fn,tmps:=a.tmps,params:=ps,assign:=assign,body:=body,defers:=r0.defers }
 have e2:Ext R w (R.add (.bK w.heap.size)) (w.alloc (.loop kz)):=gZ hr.g.wf _ _;have Sl:gX (R.add (.bK w.heap.size)) (w.alloc (.loop kz)) (.loop false none fp (fO s.ae) s.n ps.toList assign body d0 false) (.bK w.heap.size):=by
  refine ⟨⟨kz,db0,heap_alloc_new w _,rfl,rfl,fun i hi=>?_,hr.n,by simp [kz],rfl,rfl,x9,e2.bK XM⟩,kU _⟩;rw [qX] at hi ⊢;have cz:lk s.ae i≠.none:=fun e=>hi (by rw [e]; rfl)
  obtain ⟨c,k1,k2⟩:=hr.t i cz;refine ⟨c,k1,?_⟩;cases hx:lk s.ae i with
  |none=>exact absurd hx cz
  |lp k off=>rw [hx] at hi; exact absurd rfl hi
  |v x=>
   rw [hx] at k2;exact Rel.mono e2 (show Rel R w x c from k2)
 have h2:=hr.lD (.loop kz) (.loop false none fp (fO s.ae) s.n ps.toList assign body d0 false) (.bK w.heap.size) (by exact fun _ h=>h) Sl;have st:=cQ hr (.loop kz) (.bK w.heap.size) (by exact fun _ h=>h);have LH:nth (R.add (.bK w.heap.size)).obj s.G.length=some (.bK w.heap.size):=gr hr _;generalize hR2:R.add (.bK w.heap.size)=R2 at *;generalize Su:a.eval g=fv at XI;cases XI with
 | @fn _ _ _ vs us q1 q2=>
 refine ⟨w.heap.size,[],w.alloc (.loop kz),{ target:=.fn (.func f) ⟨us⟩,args:=⟨vs⟩++#[.func (.yield w.heap.size) #[] #[]] },w.alloc (.loop kz),f,
  ⟨vs++[.func (.yield w.heap.size) #[] #[]]++us⟩,w.alloc (.loop kz),?_,?_,?_,?_,?_,?_⟩
 ·have:(Fence.wide.inRound b0).round=some b0:=rfl;rw [this];exact run_enterLoop_inner x1 _ _ _ _ _
 ·simp only [resolve,Su,Deferred.ofValue,Sem.run_pure];simp [Act.eval]
 ·intro f' _;exact trivial
 ·have:=oR (P:=E.P) h.1 (⟨vs++[.func (.yield w.heap.size) #[] #[]]++us⟩) (w.alloc (.loop kz));simpa [invoke] using this
 ·intro hc; cases hc
 ·have hyl:Rel R2 (w.alloc (.loop kz)) (.yield s.G.length) (.func (.yield w.heap.size) #[] #[]):=.yield LH;have BE:=(h.2 R2 (w.alloc (.loop kz)) _ h2.g ((((q1.mono st.ext).append (.one hyl)).append (q2.mono st.ext))));refine CallsIn.mono (F:=Fence.wide.inRound b0) BE ?_;intro e w3 he;cases e with
  |panicked c=>exact he.elim
  |outgrown=>exact he.elim
  |returned c=>
   obtain ⟨r,G',R3,hQ,dm,XJ,OF⟩:=he;obtain ⟨p1,p2⟩:=h2.qO XJ OF;unfold SL at hQ;split at hQ
   ·rename_i busy pending ff sl nn pp ss bd dd done CL;obtain ⟨hbd,hQ⟩:=hQ;have LI:nth R3.obj s.G.length=some (.bK w.heap.size):=OF.ext.bK LH;obtain ⟨⟨r3,db,l1,l2,l3,_,_,_,_,_,_,_⟩,_⟩:=p1.g.obj _ _ _ CL LI;have GB:r3.state≠.busy:=by rw [l2]; exact zi hbd
    refine ⟨r3.pending,_,run_endLoop l1 GB,?_⟩;rw [l3];have key:∀ x:Obj,oN x→(∀ r,Obj.loop r3=.loop r→∃ r',x=.loop r'∧pO r r')→aX E R3 (World.put w3 w.heap.size x) β ⟨s.ae,s.boxes,aq G' s.G.length .dead,s.marks,s.ro,s.n⟩ { a with defers:=[]++a.defers }∧Step R w β s.boxes R3 (World.put w3 w.heap.size x) β s.boxes:=fun x hx hlx=>by
     obtain ⟨z1,z2⟩:=p1.setObj (x':=x) (go':=.dead) LI l1 trivial hx hlx (show w.heap.size < _ by simp [World.put]; exact bt l1);exact ⟨⟨z1.g,z1.b,z1.t,z1.n,z1.d⟩,(st.trans p2).trans z2⟩
    obtain ⟨z1,z2⟩:=key (.loop { r3 with state:=.exhausted,pending:=pending }) trivial (fun r e=>⟨_,rfl,by cases e; exact ⟨rfl,rfl,rfl,rfl,rfl⟩⟩);cases pending with
    |none=>exact ⟨_,R3,β,hQ,z1,z2,rfl⟩
    |some c=>
     refine wpIn_mono (hQ R3 _ β _ (Fence.wide.inRound b0) z1 (by show bL R3 s.ro _; rw [bn]; exact ⟨b0,OF.ext.bK (e2.bK hb0),rfl⟩)) ?_;rintro e a'' NZ ⟨Cn,KN,QE,Lk,yx,rQ,vR⟩;exact ⟨Cn,KN,QE,Lk,yx,z2.trans rQ,vR⟩
   ·exact hQ.elim
def GD (id:Nat) (Q:Bool→List GO→Prop):Exit→St→Prop:=fun e s=>match nth s.G id with
 |some (.loop _ _ fn sl n ps ss bd d _)=>match e with
  |.normal=>Q true (aq s.G id (.loop false none fn sl n ps ss bd d false))
  |.ret=>Q false (aq s.G id (.loop false (some .ret) fn sl n ps ss bd d true))
  |.exit i=>Q false (aq s.G id (.loop false (some (.exit i)) fn sl n ps ss bd d true))
  |_=>False
 |_=>False
def CM (E:Env) (id:Nat) (body:Code) (Q:Bool→List GO→Prop):Exit→St→Prop:=fun e s=>match e with
 |.normal=>match nth s.G id with
  |some (.loop false p fn sl n ps ss bd d false)=>fE E body (GD id Q) (s.bG (aq s.G id (.loop true p fn sl n ps ss bd d false)))
  |_=>False
 |_=>False
def zj:List Tmp→List AV→ba→ba
 |t :: ts,a :: l,r=>zj ts l (.put t (.v a) :: r)
 |_,_,r=>r
def St.round (id:Nat) (ae:ba) (n:Nat) (G:List GO):St:=⟨ae,[],G,[],some id,n⟩
theorem zk {R:ai} {w:World} {β:Nat→Nat}:∀ {ts:List Tmp} {l:List AV} {cs:List Value} {r:ba} {tmps:Array Value},pR R w β r tmps→aL R w l cs→l.length=ts.length→(∀ t∈ts,t < tmps.size) →
  pR R w β (zj ts l r) ((ts.zip cs).foldl (fun tmps (t,a)=>tmps.setIfInBounds t a) tmps)
 |[],[],_,_,_,h,.nil,_,_=>h
 |t :: ts,a :: l,c :: cs,r,tmps,h,.cons hx hl,hlen,ht=>by
  have fb:t < tmps.size:=ht t (by simp);simp only [zj,List.zip_cons_cons,List.foldl_cons];refine zk ?_ hl (by simpa using hlen) (fun t' h'=>by simpa using ht t' (by simp [h']));have:=pR.put (a:={ tmps:=tmps,defers:=[] }) h (d:=t) (x:=.v a) (c:=c) fb hx;simpa [Act.put] using this
 |[],_ :: _,_,_,_,_,_,hlen,_=>by simp at hlen
 |_ :: _,[],_,_,_,_,_,hlen,_=>by simp at hlen
theorem GF (l:List (Tmp × Value)):∀ tmps:Array Value,(l.foldl (fun (tmps:Array Value) (x:Tmp × Value)=>tmps.setIfInBounds x.1 x.2) tmps).size=tmps.size:=by
 induction l with
 |nil=>intro _; rfl
 |cons x l ih=>intro tmps; rw [List.foldl_cons,ih]; simp
theorem lK.intro {E:Env} {id:Nat} {args:List AV} {G:List GO} {Q:Bool→List GO→Prop} {fn:FuncId} {ae:ba} {n:Nat} {ps:List Tmp} {assign body:Code} {d:Nat} {p:Option Code}
  (hG:nth G id=some (.loop false p fn ae n ps assign body d false)) (hl:args.length=ps.length) (Ku:∀ t∈ps,t < n)
  (h:fE E assign (CM E id body Q) (St.round id (zj ps args ae) n G)):lK E id args G Q:=fun R w cs b hg hr hb=>by
 obtain ⟨⟨r,db,l1,l2,l3,l4,l5,l6,l7,l8,l9,l10⟩,l11⟩:=hg.obj id _ _ hG hb;have hlen:=hr.length;refine ⟨r,l1,by rw [l6]; simp; omega,?_⟩;have aa7:Step R w (fun _=>0) ig R w (fun _=>0) ig:=Step.refl _ _ _ _;have aa8:aX E R w (fun _=>0) (St.round id (zj ps args ae) n G) { tmps:=(r.params.zip ⟨cs⟩).foldl (fun tmps (t,a)=>tmps.setIfInBounds t a) r.tmps,defers:=[] }:=by
  have XN:(r.params.zip ⟨cs⟩).foldl (fun (tmps:Array Value) (x:Tmp × Value)=>tmps.setIfInBounds x.1 x.2) r.tmps=(ps.zip cs).foldl (fun (tmps:Array Value) (x:Tmp × Value)=>tmps.setIfInBounds x.1 x.2) r.tmps:=by
   rw [← Array.foldl_toList];simp [l6]
  refine ⟨hg,⟨fun k cs hk=>?_,fun k k' c c' hk=>?_⟩,?_,?_,trivial⟩
  ·simp [St.round,di] at hk
  ·simp [St.round,di] at hk
  ·show pR _ _ _ _ _;have:=zk (ts:=ps) (l:=args) (cs:=cs) l4 hr hl (fun t ht=>by rw [l5]; exact Ku t ht);rw [← XN] at this;exact this
  ·show _=n;have:=GF (ps.zip cs) r.tmps;rw [← XN] at this;exact this.trans l5
 have Ol:∀ (k:Nat) (cs:List AV),di (St.round id (zj ps args ae) n G).boxes k≠some cs:=fun k cs hk=>by simp [St.round,di] at hk
 rw [l7,l8];refine roundIn_of_wpIn trivial (wpIn_mono (h R w (fun _=>0) _ (Fence.wide.inRound b) aa8 ⟨b,hb,rfl⟩) ?_);rintro e a1 w1 ⟨s1,R1,β1,hq,E8,st1,aa9⟩;unfold CM at hq;cases e with
 |normal=>
  simp only at hq;split at hq
  ·rename_i p' fn' Wb n' XG OE Wf d' hG1;have Xy:nth R1.obj id=some (.bK b):=st1.ext.bK hb;obtain ⟨⟨r1,db1,m1,m2,m3,m4,m5,m6,m7,m8,m9,m10⟩,m11⟩:=E8.g.obj id _ _ hG1 Xy;refine ⟨_,run_beginRound m1 m2,?_⟩;obtain ⟨z1,z2⟩:=E8.setObj (x':=.loop { r1 with state:=.busy }) (go':=.loop true p' fn' Wb n' XG OE Wf d' false) Xy m1 trivial trivial (fun r e=>⟨_,rfl,by cases e; exact ⟨rfl,rfl,rfl,rfl,rfl⟩⟩)
    ⟨⟨{ r1 with state:=.busy },db1,iD _ _ _ (bt m1),rfl,m3,m4.mono (oO (x':=.loop { r1 with state:=.busy }) m1 trivial trivial (fun r e=>⟨_,rfl,by cases e; exact ⟨rfl,rfl,rfl,rfl,rfl⟩⟩)),m5,m6,m7,m8,m9,m10⟩,m11⟩
   refine wpIn_mono (hq R1 _ β1 a1 (Fence.wide.inRound b) z1 (by show bL R1 s1.ro _; rw [aa9]; exact ⟨b,Xy,rfl⟩)) ?_;rintro e2 a2 w2 ⟨s2,R2,β2,kO,yp,st2,CN⟩;unfold GD at kO;split at kO
   ·rename_i bu2 p2 ZO XO n2 ps2 as2 bd2 d2 dn2 Xw;have XP:=(st1.trans z2).trans st2;have Gl:nth R2.obj id=some (.bK b):=XP.ext.bK hb;obtain ⟨⟨r2,db2,o1,o2,o3,o4,o5,o6,o7,o8,o9,eY⟩,sL⟩:=yp.g.obj id _ _ Xw Gl;have fin:∀ (j:Option Code),Cw E R w (fun b' G'=>G'=aq s2.G id (.loop false j ZO XO n2 ps2 as2 bd2 d2 (!j.isNone))∧b'=j.isNone) (.returned (.bool j.isNone)) (w2.putObj b (.loop { r2 with state:=if j.isNone then .ready else .done,pending:=j })):=fun j=>by
     obtain ⟨y1,y2⟩:=yp.setObj (x':=.loop { r2 with state:=if j.isNone then .ready else .done,pending:=j }) (go':=.loop false j ZO XO n2 ps2 as2 bd2 d2 (!j.isNone)) Gl o1 trivial trivial (fun r e=>⟨_,rfl,by cases e; exact ⟨rfl,rfl,rfl,rfl,rfl⟩⟩)
      ⟨⟨{ r2 with state:=if j.isNone then .ready else .done,pending:=j },db2,iD _ _ _ (bt o1),by cases j <;> rfl,rfl,o4.mono (oO (x':=.loop { r2 with state:=if j.isNone then .ready else .done,pending:=j }) o1 trivial trivial (fun r e=>⟨_,rfl,by cases e; exact ⟨rfl,rfl,rfl,rfl,rfl⟩⟩)),o5,o6,o7,o8,o9,eY⟩,sL⟩
     exact ⟨_,_,R2,⟨rfl,rfl⟩,rfl,y1.g,yB (XP.trans y2) Ol⟩
    have mk:∀ (j:Option Code),Q j.isNone (aq s2.G id (.loop false j ZO XO n2 ps2 as2 bd2 d2 (!j.isNone)))→∃ v w',(Instr.endRound b j).run E.P w2=.ok v w'∧Cw E R w Q (.returned v) w':=fun j hQ=>by
     refine ⟨_,_,run_endRound j o1,?_⟩;obtain ⟨r',G',R',⟨h1,h2⟩,h3⟩:=fin j;subst h1; subst h2;exact ⟨_,_,R',hQ,h3⟩
    cases e2 with
    |normal=>exact mk none kO
    |ret=>exact mk (some .ret) kO
    |exit i=>exact mk (some (.exit i)) kO
    |_=>exact kO.elim
   ·exact kO.elim
  ·exact hq.elim
 |_=>exact hq.elim
end Go.Am
