/- The abstract machine: what is asked of bodies; values are brought to a short form. -/
import Derived.Test.YtegoimldbgdeiaaAmKH
import Derived.RangeFuncIn
import Derived.RangeFuncRecord
import Derived.RangeFuncNested
set_option linter.all false
namespace Go.Am
open Go
def bl (dt:Nat→Option ax):Code→Bool
 | .region id ops true=>match dt id with
  | some p=>CA ops p
  | none=>false
 | .seq x y=>bl dt x&&bl dt y
 | .cond _ x y=>bl dt x&&bl dt y
 | .block _ c=>bl dt c
 | .loop c=>bl dt c
 | .scope c=>bl dt c
 | .rangeFunc _ _ a b=>bl dt a&&bl dt b
 | _=>true
structure MY extends Env where
 dt:FuncId→Nat→Option ax
 okF:FuncId→Bool
 K9:∀ f fn c,okF f=true→P.funcs[f]?=some fn→fn.body=some c→bl (dt f) c=true
def iM {α:Type} (n:Nat) (K:Nat→α):α:=match n with
 | 0=>K 0
 | m+1=>K (Nat.succ m)
def uX {α:Type} (n:Int) (K:Int→α):α:=match n with
 | .ofNat m=>iM m fun m=>K (.ofNat m)
 | .negSucc m=>iM m fun m=>K (.negSucc m)
def nG {α β:Type}:List β→(List β→α)→α
 | [],K=>K []
 | a :: l,K=>nG l fun l=>K (a :: l)
def yR {α:Type} (v:AV) (K:AV→α):α:=match v with
 | .int k n=>uX n fun n=>K (.int k n)
 | .bool true=>K (.bool true)
 | .bool false=>K (.bool false)
 | .list k sz es=>nG es fun es=>K (.list k sz es)
 | .str l=>nG l fun l=>K (.str l)
 | .iR id off sz len cap=>iM off fun off=>iM len fun len=>iM cap fun cap=>K (.iR id off sz len cap)
 | .ptr id off=>iM off fun off=>K (.ptr id off)
 | .agg cs=>nG cs fun cs=>K (.agg cs)
 | v=>K v
def yS {α:Type} (l:aW) (K:aW→α):α:=match l with
 | .put d (.v a) :: l=>yR a fun a=>K (.put d (.v a) :: l)
 | .put d (.lp k off) :: l=>iM off fun off=>K (.put d (.lp k off) :: l)
 | l=>K l
def yT {α:Type} (l:cA) (K:cA→α):α:=match l with
 | (d,cs) :: l=>nG cs fun cs=>K ((d,cs) :: l)
 | []=>K []
def CB {α:Type} (s:St) (K:St→α):α:=match s with
 | ⟨sl,bx,G,m,ro,n⟩=>yS sl fun sl=>yT bx fun bx=>nG G fun G=>K ⟨sl,bx,G,m,ro,n⟩
theorem nH {α:Type} (n:Nat) (K:Nat→α):iM n K=K n:=by cases n <;> rfl
theorem AI {α:Type} (n:Int) (K:Int→α):uX n K=K n:=by cases n <;> simp [uX,nH]
theorem om {α β:Type}:∀ (l:List β) (K:List β→α),nG l K=K l
 | [],_=>rfl
 | a :: l,K=>by simp only [nG]; rw [om]
theorem CC {α:Type} (v:AV) (K:AV→α):yR v K=K v:=by
 unfold yR
 split <;> simp [nH,AI,om]
theorem CD {α:Type} (l:aW) (K:aW→α):yS l K=K l:=by
 unfold yS
 split <;> simp [nH,CC]
theorem CE {α:Type} (l:cA) (K:cA→α):yT l K=K l:=by
 unfold yT
 split <;> simp [om]
theorem Fe {α:Type} (s:St) (K:St→α):CB s K=K s:=by
 obtain ⟨sl,bx,G,m,ro,n⟩:=s
 simp [CB,CD,CE,om]
def yU:SV→SV→Bool
 | .v a,.v b=>cX a b
 | .lp k o,.lp k' o'=>Nat.beq k k'&&Nat.beq o o'
 | _,_=>false
def S8 (E:Env) (f:FuncId) (ops:List Oper) (o:Oper) (s:St):Bool:=match zH ops s o with
 | some true=>match o.dst,an E f s o with
  | some d,some (c,s')=>c&&yU (lk s'.ae d) (lk s.ae d)
  | _,_=>false
 | some false=>true
 | none=>false
section
variable {E:Env} {f:FuncId} {s:St}
theorem xM {a b:SV} (h:yU a b=true):a=b:=by
 unfold yU at h
 split at h
 ·rw [iG h]
 ·simp only [Bool.and_eq_true,Nat.beq_eq] at h; rw [h.1,h.2]
 ·cases h
theorem xN {ops:List Oper} {o:Oper} (h:S8 E f ops o s=true):Cs E f ops o s:=by
 unfold S8 at h
 unfold Cs
 split at h
 ·rename_i hg
  rw [hg]
  simp only
  split at h
  ·rename_i d c s' hd hs
   rw [Bool.and_eq_true] at h
   obtain ⟨rfl,h⟩:=h
   rw [hd,hs]
   exact ⟨rfl,xM h⟩
  ·cases h
 ·rename_i hg
  rw [hg]
  trivial
 ·cases h
end
end Go.Am
namespace Go.Am
open Go
mutual
def AV.under (n:Nat):AV→Bool
 | .agg cs=>aE n cs
 | .bh cs=>aE n cs
 | .ep cs=>aE n cs
 | .list (.own id) _ _=>Nat.blt id n
 | .list (.aX id _) _ _=>Nat.blt id n
 | .fn _ x y=>aE n x&&aE n y
 | .iface _ v=>v.under n
 | .ptr id _=>Nat.blt id n
 | .iR id _ _ _ _=>Nat.blt id n
 | .dT id _ _ _ _=>Nat.blt id n
 | .gp id _ _ _ _ _=>Nat.blt id n
 | .map id=>Nat.blt id n
 | .yield id=>Nat.blt id n
 | _=>true
def aE (n:Nat):List AV→Bool
 | []=>true
 | a :: l=>a.under n&&aE n l
end
mutual
theorem gY (n:Nat):∀ {a:AV},a.closed=true→a.under n=true:=fun {a} h=>by
 cases a with
 | agg cs=>simp only [AV.closed,AV.under] at *; exact cF n h
 | bh cs=>simp only [AV.closed,AV.under] at *; exact cF n h
 | ep cs=>simp only [AV.closed,AV.under] at *; exact cF n h
 | list k sz es=>cases k <;> simp_all [AV.closed,AV.under,LK.closed]
 | fn f x y=>
  simp only [AV.closed,AV.under,Bool.and_eq_true] at *
  exact ⟨cF n h.1,cF n h.2⟩
 | iface t v=>simp only [AV.closed,AV.under] at *; exact gY n h
 | _=>simp_all [AV.closed,AV.under]
theorem cF (n:Nat):∀ {l:List AV},aR l=true→aE n l=true
 | [],_=>rfl
 | a :: l,h=>by
  simp only [aR,aE,Bool.and_eq_true] at *
  exact ⟨gY n h.1,cF n h.2⟩
end
theorem oo {a b:Nat} (h:Nat.blt a b=true):a < b:=Nat.le_of_ble_eq_true h
mutual
theorem k9:∀ {a:AV},a.under 0=true→a.closed=true:=fun {a} h=>by
 cases a with
 | agg cs=>simp only [AV.closed,AV.under] at *; exact eE h
 | bh cs=>simp only [AV.closed,AV.under] at *; exact eE h
 | ep cs=>simp only [AV.closed,AV.under] at *; exact eE h
 | list k sz es=>cases k <;> first | rfl | (simp [AV.under] at h)
 | fn f x y=>
  simp only [AV.closed,AV.under,Bool.and_eq_true] at *
  exact ⟨eE h.1,eE h.2⟩
 | iface t v=>simp only [AV.closed,AV.under] at *; exact k9 h
 | ptr id off=>simp only [AV.under] at h; exact absurd (oo h) (Nat.not_lt_zero _)
 | iR id off sz len cap=>simp only [AV.under] at h; exact absurd (oo h) (Nat.not_lt_zero _)
 | dT id f off sz len=>simp only [AV.under] at h; exact absurd (oo h) (Nat.not_lt_zero _)
 | gp id f i off sz t=>simp only [AV.under] at h; exact absurd (oo h) (Nat.not_lt_zero _)
 | map id=>simp only [AV.under] at h; exact absurd (oo h) (Nat.not_lt_zero _)
 | yield id=>simp only [AV.under] at h; exact absurd (oo h) (Nat.not_lt_zero _)
 | _=>rfl
theorem eE:∀ {l:List AV},aE 0 l=true→aR l=true
 | [],_=>rfl
 | a :: l,h=>by
  simp only [aE,aR,Bool.and_eq_true] at *
  exact ⟨k9 h.1,eE h.2⟩
end
section move
variable {R R2:ak} {w:World} {n:Nat}
structure Mv (R R2:ak) (n:Nat):Prop where
 I:∀ b o,R.I b o→R2.I b o
 obj:∀ id ro,id < n→nth R.obj id=some ro→nth R2.obj id=some ro
theorem jh {a b:Nat} (h:Nat.blt a b=true):a < b:=Nat.le_of_ble_eq_true h
theorem ka {a b:Nat} (h:a < b):Nat.blt a b=true:=Nat.ble_eq_true_of_le h
theorem yn.move (m:Mv R R2 n) {k:LK} {b o len cap:Nat} (h:yn R k b o len cap) (hk:∀ id,(k=.own id∨∃ j,k=.aX id j)→id < n):yn R2 k b o len cap:=by
 cases k with
 | nil=>exact h
 | full=>exact h
 | iU=>trivial
 | own id=>obtain ⟨ro,h1,h2⟩:=h; exact ⟨ro,m.obj id ro (hk id (.inl rfl)) h1,h2⟩
 | aX id j=>obtain ⟨ro,h1,h2⟩:=h; exact ⟨ro,m.obj id ro (hk id (.inr ⟨j,rfl⟩)) h1,h2⟩
mutual
theorem Rel.move (m:Mv R R2 n):∀ {a:AV} {c:Value},a.under n=true→Rel R w a c→Rel R2 w a c
 | _,_,_,.bool b=>.bool b
 | _,_,_,.int k i=>.int k i
 | _,_,_,.str l=>.str l
 | _,_,hb,.agg h h1=>.agg (h.move m (by simpa [AV.under] using hb)) h1
 | _,_,hb,.bh h=>.bh (h.move m (by simpa [AV.under] using hb))
 | _,_,_,.lj=>.lj
 | _,_,hb,.ptr h=>.ptr (m.obj _ _ (jh (by simpa [AV.under] using hb)) h)
 | _,_,hb,.ep h=>.ep (h.move m (by simpa [AV.under] using hb))
 | _,_,_,.iF=>.iF
 | _,_,_,.ia=>.ia
 | _,_,_,.lY=>.lY
 | _,_,hb,.lZ h ho=>.lZ (m.obj _ _ (jh (by simpa [AV.under] using hb)) h) ho
 | _,_,hb,.kV h ho=>.kV (m.obj _ _ (jh (by simpa [AV.under] using hb)) h) ho
 | .list k sz es,_,hb,.list h hl hc hk=>.list (h.move m) hl hc (hk.move m fun id e=>by rcases e with e | ⟨j,e⟩ <;> subst e <;> exact jh (by simpa [AV.under] using hb))
 | _,_,hb,.iR h hc=>.iR (m.obj _ _ (jh (by simpa [AV.under] using hb)) h) hc
 | _,_,hb,.iY h ho=>.iY (m.obj _ _ (jh (by simpa [AV.under] using hb)) h) ho
 | _,_,hb,.dT h ho hc=>.dT (m.obj _ _ (jh (by simpa [AV.under] using hb)) h) ho hc
 | _,_,hb,.gp h ho=>.gp (m.obj _ _ (jh (by simpa [AV.under] using hb)) h) ho
 | _,_,_,.jt=>.jt
 | _,_,hb,.map h=>.map (m.obj _ _ (jh (by simpa [AV.under] using hb)) h)
 | _,_,_,.dD=>.dD
 | _,_,hb,.fn h h'=>.fn (h.move m (by simp only [AV.under,Bool.and_eq_true] at hb; exact hb.1)) (h'.move m (by simp only [AV.under,Bool.and_eq_true] at hb; exact hb.2))
 | _,_,hb,.yield h=>.yield (m.obj _ _ (jh (by simpa [AV.under] using hb)) h)
 | _,_,_,.oB=>.oB
 | _,_,hb,.iface h=>.iface (h.move m (by simpa [AV.under] using hb))
theorem aI.move (m:Mv R R2 n):∀ {l:List AV} {cs:List Value},aI R w l cs→aE n l=true→aI R2 w l cs
 | _,_,.nil,_=>.nil
 | _,_,.cons h t,hb=>by
  simp only [aE,Bool.and_eq_true] at hb
  exact .cons (h.move m hb.1) (t.move m hb.2)
theorem gl.move (m:Mv R R2 n):∀ {b o sz:Nat} {l:List AV},gl R w b o sz l→gl R2 w b o sz l
 | _,_,_,_,.nil=>.nil
 | _,_,_,_,@gl.cons _ _ _ _ _ e _ hl ht hk h t=>.cons hl ht hk (h.move m (by
   cases e with
   | agg cs=>exact cF n (show aR cs=true by simpa [AV.closed] using hk)
   | bh cs=>simp [AV.aP] at ht
   | _=>simp only [AV.cells,aE,Bool.and_true]; exact gY n hk)) (t.move m)
theorem ew.move (m:Mv R R2 n):∀ {b o:Nat} {l:List AV},ew R w b o l→aE n l=true→ew R2 w b o l
 | _,_,_,.nil,_=>.nil
 | _,_,_,.cons hc h1 hi h t,hb=>by
  simp only [aE,Bool.and_eq_true] at hb
  exact .cons hc h1 (m.I _ _ hi) (h.move m hb.1) (t.move m hb.2)
end
theorem kX.move {E:Env} (m:Mv R R2 n) {g:Nat} {cs:List AV} (h:kX E R w g cs) (hu:aE n cs=true):kX E R2 w g cs:=
 ⟨h.1.move m hu,fun hx=>⟨m.I _ _ (h.2 hx).1,(h.2 hx).2⟩⟩
mutual
theorem Rel.under (hn:R.obj.length≤n):∀ {a:AV} {c:Value},Rel R w a c→a.under n=true
 | _,_,.bool _ | _,_,.int _ _ | _,_,.str _ | _,_,.lj | _,_,.iF | _,_,.ia | _,_,.lY | _,_,.jt | _,_,.dD | _,_,.oB=>by simp [AV.under]
 | _,_,.agg h _=>by simp only [AV.under]; exact h.under hn
 | _,_,.bh h=>by simp only [AV.under]; exact h.under hn
 | _,_,.ptr h=>by simp only [AV.under]; exact ka (Nat.lt_of_lt_of_le (bz h) hn)
 | _,_,.ep h=>by simp only [AV.under]; exact h.under hn
 | _,_,.lZ h _=>by simp only [AV.under]; exact ka (Nat.lt_of_lt_of_le (bz h) hn)
 | _,_,.kV h _=>by simp only [AV.under]; exact ka (Nat.lt_of_lt_of_le (bz h) hn)
 | _,_,@Rel.list _ _ k _ _ _ _ _ _ _ _ _ hk=>by
  cases k with
  | own id=>obtain ⟨ro,h1,_⟩:=hk; simp only [AV.under]; exact ka (Nat.lt_of_lt_of_le (bz h1) hn)
  | aX id j=>obtain ⟨ro,h1,_⟩:=hk; simp only [AV.under]; exact ka (Nat.lt_of_lt_of_le (bz h1) hn)
  | _=>simp [AV.under]
 | _,_,.iR h _=>by simp only [AV.under]; exact ka (Nat.lt_of_lt_of_le (bz h) hn)
 | _,_,.iY h _=>by simp only [AV.under]; exact ka (Nat.lt_of_lt_of_le (bz h) hn)
 | _,_,.dT h _ _=>by simp only [AV.under]; exact ka (Nat.lt_of_lt_of_le (bz h) hn)
 | _,_,.gp h _=>by simp only [AV.under]; exact ka (Nat.lt_of_lt_of_le (bz h) hn)
 | _,_,.map h=>by simp only [AV.under]; exact ka (Nat.lt_of_lt_of_le (bz h) hn)
 | _,_,.fn h h'=>by simp only [AV.under,Bool.and_eq_true]; exact ⟨h.under hn,h'.under hn⟩
 | _,_,.yield h=>by simp only [AV.under]; exact ka (Nat.lt_of_lt_of_le (bz h) hn)
 | _,_,.iface h=>by simp only [AV.under]; exact h.under hn
theorem aI.under (hn:R.obj.length≤n):∀ {l:List AV} {cs:List Value},aI R w l cs→aE n l=true
 | _,_,.nil=>rfl
 | _,_,.cons h t=>by simp only [aE,Bool.and_eq_true]; exact ⟨h.under hn,t.under hn⟩
theorem ew.under (hn:R.obj.length≤n):∀ {b o:Nat} {l:List AV},ew R w b o l→aE n l=true
 | _,_,_,.nil=>rfl
 | _,_,_,.cons _ _ _ h t=>by simp only [aE,Bool.and_eq_true]; exact ⟨h.under hn,t.under hn⟩
end
end move
end Go.Am
namespace Go.Am
open Go
mutual
def ah.under (n:Nat):ah→Bool
 | .agg ps=>ps.under n
 | .bh ps=>ps.under n
 | .own id _ _=>Nat.blt id n
 | .aX id _ _=>Nat.blt id n
 | .oH v=>v.under n
 | .two u v=>u.under n&&v.under n
 | _=>true
def aH.under (n:Nat):aH→Bool
 | .nil=>true
 | .cons p ps=>p.under n&&ps.under n
end
mutual
theorem ah.cQ {n:Nat}:∀ (p:ah) (x:p.T),p.under n=true→(p.enc x).under n=true
 | .int k,x,_=>by simp [ah.enc,AV.under]
 | .bool,x,_=>by simp [ah.enc,AV.under]
 | .str,x,_=>by simp [ah.enc,AV.under]
 | .agg ps,x,h=>by
  simp only [ah.enc,AV.under]
  exact ps.cQ x h
 | .bh ps,x,h=>by
  simp only [ah.enc,AV.under]
  exact ps.cQ x h
 | .list sz p,x,_=>by simp [ah.enc,AV.under]
 | .own id sz p,x,h=>by
  simp only [ah.enc,AV.under]
  exact h
 | .aX id sz p,x,h=>by
  simp only [ah.enc,AV.under]
  exact h
 | .oH v,x,h=>by
  simp only [ah.enc]
  exact h
 | .two u v,(x:Bool),h=>by
  simp only [ah.under,Bool.and_eq_true] at h
  change AV.under n (bif x then v else u)=true
  cases x
  ·exact h.1
  ·exact h.2
theorem aH.cQ {n:Nat}:∀ (ps:aH) (x:ps.T),ps.under n=true→aE n (ps.enc x)=true
 | .nil,x,_=>rfl
 | .cons p .nil,x,h=>by
  simp only [aH.under,Bool.and_true] at h
  simp only [aH.enc,aE,Bool.and_true]
  exact p.cQ _ h
 | .cons p (.cons q ps),x,h=>by
  rw [aH.under,Bool.and_eq_true] at h
  simp only [aH.enc,aE,Bool.and_eq_true]
  exact ⟨p.cQ _ h.1,(aH.cons q ps).cQ _ h.2⟩
end
mutual
def AV.exact:AV→Bool
 | .bool _=>true
 | .int _ _=>true
 | .str _=>true
 | .agg cs=>fQ cs
 | _=>false
def fQ:List AV→Bool
 | []=>true
 | a :: l=>a.exact&&fQ l
end
mutual
theorem ah.iN:∀ (p:ah) {a:AV},p.fits a=true→a.exact=true→p.enc (p.ba a)=a
 | .int k,a,h,e=>by
  cases a with
  | int k' n=>have hk:PJ k k'=true:=h; rw [BI hk]; rfl
  | _=>cases h
 | .bool,a,h,e=>by
  cases a with
  | bool b=>rfl
  | _=>cases h
 | .str,a,h,e=>by
  cases a with
  | str b=>rfl
  | _=>cases h
 | .agg ps,a,h,e=>by
  cases a with
  | agg cs=>
   have e':fQ cs=true:=by simpa [AV.exact] using e
   show AV.agg (ps.enc (ps.ba cs))=_
   rw [ps.iN (show ps.fits cs=true from h) e']
  | _=>cases h
 | .bh ps,a,h,e=>by cases a <;> first | (cases h; done) | simp [AV.exact] at e
 | .list sz p,a,h,e=>by cases a <;> first | (cases h; done) | simp [AV.exact] at e
 | .own id sz p,a,h,e=>by cases a <;> first | (cases h; done) | simp [AV.exact] at e
 | .aX id sz p,a,h,e=>by cases a <;> first | (cases h; done) | simp [AV.exact] at e
 | .oH u,a,h,e=>(iG (show cX a u=true from h)).symm
 | .two u v,a,h,_=>th h
theorem aH.iN:∀ (ps:aH) {l:List AV},ps.fits l=true→fQ l=true→ps.enc (ps.ba l)=l
 | .nil,l,h,_=>by
  cases l with
  | nil=>rfl
  | cons _ _=>cases h
 | .cons p .nil,l,h,e=>by
  cases l with
  | nil=>cases h
  | cons a l=>
   have h':(p.fits a&&l.isEmpty)=true:=h
   simp only [Bool.and_eq_true,List.isEmpty_iff] at h'
   obtain ⟨h1,rfl⟩:=h'
   simp only [fQ,Bool.and_true] at e
   show [p.enc (p.ba a)]=_
   rw [p.iN h1 e]
 | .cons p (.cons q ps),l,h,e=>by
  cases l with
  | nil=>cases h
  | cons a l=>
   have h':(p.fits a&&(aH.cons q ps).fits l)=true:=h
   rw [Bool.and_eq_true] at h'
   simp only [fQ,Bool.and_eq_true] at e
   show p.enc (p.ba a) :: (aH.cons q ps).enc ((aH.cons q ps).ba l)=_
   rw [p.iN h'.1 e.1,(aH.cons q ps).iN h'.2 e.2]
end
mutual
theorem mA:∀ {a:AV},a.exact=true→a.closed=true:=fun {a} h=>by
 cases a with
 | agg cs=>simp only [AV.exact,AV.closed] at *; exact oS h
 | _=>simp_all [AV.exact,AV.closed]
theorem oS:∀ {l:List AV},fQ l=true→aR l=true
 | [],_=>rfl
 | a :: l,h=>by
  simp only [fQ,aR,Bool.and_eq_true] at *
  exact ⟨mA h.1,oS h.2⟩
end
def af:List (AV × AV)→List AV
 | []=>[]
 | (k,v) :: l=>.agg [k,v] :: af l
def Rj:AV→AV × AV
 | .agg [k,v]=>(k,v)
 | _=>(fG,fG)
def ab:List AV→List (AV × AV)
 | []=>[]
 | a :: l=>Rj a :: ab l
def AV.entries:AV→List (AV × AV)
 | .list _ _ es=>ab es
 | _=>[]
theorem mL:∀ l:List (AV × AV),ab (af l)=l
 | []=>rfl
 | (k,v) :: l=>by simp only [af,ab,mL l]; rfl
def AV.G3:AV→Bool
 | .list .iU _ es=>fQ es
 | _=>false
def ji:List AV→List AV→Prop
 | [],[]=>True
 | a :: l,b :: r=>hX a b∧ji l r
 | _,_=>False
theorem ji.refl:∀ l:List AV,ji l l
 | []=>trivial
 | a :: l=>⟨hX.refl a,ji.refl l⟩
theorem ji.length:∀ {l r:List AV},ji l r→l.length=r.length
 | [],[],_=>rfl
 | _ :: _,_ :: _,h=>by simp [ji.length h.2]
 | [],_ :: _,h=>h.elim
 | _ :: _,[],h=>h.elim
theorem ji.of {α:Type} {f:AV→Bool} {d:AV→α} {g:α→AV} (Dr:∀ v,f v=true→hX v (g (d v))):∀ {es:List AV},allFit f es=true→ji es ((es.map d).map g)
 | [],_=>trivial
 | e :: es,h=>by
  simp only [allFit,Bool.and_eq_true] at h
  exact ⟨Dr e h.1,ji.of Dr h.2⟩
theorem ah.AJ (p:ah) {a:AV} (h:p.fits a=true):ji a.dJ (p.enc (p.ba a)).dJ:=by
 cases p with
 | list sz p=>
  cases a with
  | list k bq es=>
   have hb:((Nat.beq sz bq || es.isEmpty)&&allFit p.fits es)=true:=h
   rw [Bool.and_eq_true] at hb
   exact ji.of (fun v hv=>p.cG hv) hb.2
  | _=>cases h
 | own id sz p=>
  cases a with
  | list k bq es=>
   cases k with
   | own iS=>
    have hb:((Nat.beq id iS&&Nat.beq sz bq)&&allFit p.fits es)=true:=h
    rw [Bool.and_eq_true] at hb
    exact ji.of (fun v hv=>p.cG hv) hb.2
   | _=>cases h
  | _=>cases h
 | aX id sz p=>
  cases a with
  | list k bq es=>
   cases k with
   | aX iS j=>
    have hb:((Nat.beq id iS&&Nat.beq sz bq)&&allFit p.fits es)=true:=h
    rw [Bool.and_eq_true] at hb
    exact ji.of (fun v hv=>p.cG hv) hb.2
   | _=>cases h
  | _=>cases h
 | oH u=>rw [show a=u from iG (show cX a u=true from h)]; exact ji.refl _
 | two u v=>rw [th h]; exact ji.refl _
 | _=>cases a <;> first | (cases h; done) | exact ji.refl _
def FW:List AV→List AV→Prop
 | [],[]=>True
 | a :: l,b :: r=>(a.exact=true→b=a)∧(a.G3=true→b.dJ=a.dJ)∧ji a.dJ b.dJ∧FW l r
 | _,_=>False
theorem uY {f:AV→Bool} {α:Type} {d:AV→α} {g:α→AV} (Dr:∀ a,f a=true→a.exact=true→g (d a)=a):∀ {es:List AV},allFit f es=true→fQ es=true→(es.map d).map g=es
 | [],_,_=>rfl
 | a :: l,h,e=>by
  simp only [allFit,fQ,Bool.and_eq_true] at *
  simp only [List.map_cons,Dr a h.1 e.1,uY Dr h.2 e.2]
theorem ah.AK (p:ah) {a:AV} (h:p.fits a=true) (e:a.G3=true):(p.enc (p.ba a)).dJ=a.dJ:=by
 cases a with
 | list k bq es=>
  cases k with
  | iU=>
   have e':fQ es=true:=e
   cases p with
   | list sz p=>
    have hb:((Nat.beq sz bq || es.isEmpty)&&allFit p.fits es)=true:=h
    rw [Bool.and_eq_true] at hb
    show (es.map p.ba).map p.enc=_
    rw [uY (fun a=>p.iN) hb.2 e']
    rfl
   | oH u=>rw [show AV.list .iU bq es=u from iG (show cX _ u=true from h)]; rfl
   | two u v=>rw [th h]
   | _=>cases h
  | _=>cases e
 | _=>cases e
theorem aH.G4:∀ (ps:aH) {l:List AV},ps.fits l=true→FW l (ps.enc (ps.ba l))
 | .nil,l,h=>by
  cases l with
  | nil=>trivial
  | cons _ _=>cases h
 | .cons p .nil,l,h=>by
  cases l with
  | nil=>cases h
  | cons a l=>
   have h':(p.fits a&&l.isEmpty)=true:=h
   simp only [Bool.and_eq_true,List.isEmpty_iff] at h'
   obtain ⟨h1,rfl⟩:=h'
   exact ⟨p.iN h1,p.AK h1,p.AJ h1,trivial⟩
 | .cons p (.cons q ps),l,h=>by
  cases l with
  | nil=>cases h
  | cons a l=>
   have h':(p.fits a&&(aH.cons q ps).fits l)=true:=h
   rw [Bool.and_eq_true] at h'
   exact ⟨p.iN h'.1,p.AK h'.1,p.AJ h'.1,(aH.cons q ps).G4 h'.2⟩
theorem FW.split:∀ {l r l':List AV},FW (l++r) l'→∃ a b,l'=a++b∧FW l a∧FW r b∧a.length=l.length
 | [],r,l',h=>⟨[],l',rfl,trivial,h,rfl⟩
 | x :: l,r,[],h=>h.elim
 | x :: l,r,y :: l',h=>by
  obtain ⟨a,b,rfl,h2,h3,h4⟩:=FW.split (l:=l) (r:=r) (l':=l') h.2.2.2
  exact ⟨y :: a,b,rfl,⟨h.1,h.2.1,h.2.2.1,h2⟩,h3,by simp [h4]⟩
mutual
def AV.uZ (L:Nat→Nat):AV→AV
 | .dT id 0 0 sz 0=>.dT id (L id) 0 sz (L id)
 | .fn f x y=>.fn f (G5 L x) (G5 L y)
 | v=>v
def G5 (L:Nat→Nat):List AV→List AV
 | []=>[]
 | a :: l=>a.uZ L :: G5 L l
end
mutual
def ah.inst (L:Nat→Nat):ah→ah
 | .agg ps=>.agg (ps.inst L)
 | .bh ps=>.bh (ps.inst L)
 | .oH v=>.oH (v.uZ L)
 | p=>p
def aH.inst (L:Nat→Nat):aH→aH
 | .nil=>.nil
 | .cons p ps=>.cons (p.inst L) (ps.inst L)
end
mutual
def ah.kb (L:Nat→Nat):(p:ah)→p.T→AV
 | .int k,(n:Int)=>.int k n
 | .bool,(b:Bool)=>.bool b
 | .str,(s:List UInt8)=>.str s
 | .agg ps,x=>.agg (ps.kb L x)
 | .bh ps,x=>.bh (ps.kb L x)
 | .list sz p,(xs:List p.T)=>.list .iU sz (xs.map p.enc)
 | .own id sz p,(xs:List p.T)=>.list (.own id) sz (xs.map p.enc)
 | .aX id sz p,(x:Nat × List p.T)=>.list (.aX id x.1) sz (x.2.map p.enc)
 | .oH v,_=>v.uZ L
 | .two u v,(b:Bool)=>bif b then v else u
def aH.kb (L:Nat→Nat):(ps:aH)→ps.T→List AV
 | .nil,_=>[]
 | .cons p .nil,x=>[p.kb L x]
 | .cons p (.cons q ps),x=>p.kb L x.1 :: (aH.cons q ps).kb L x.2
end
mutual
def ah.lE (L:Nat→Nat):ah→AV→Bool
 | .int k,v=>ah.fits (.int k) v
 | .bool,v=>ah.fits .bool v
 | .str,v=>ah.fits .str v
 | .agg ps,v=>match v with
  | .agg cs=>ps.lE L cs
  | _=>false
 | .bh ps,v=>match v with
  | .bh cs=>ps.lE L cs
  | _=>false
 | .list sz p,v=>ah.fits (.list sz p) v
 | .own id sz p,v=>ah.fits (.own id sz p) v
 | .aX id sz p,v=>ah.fits (.aX id sz p) v
 | .oH v,u=>cX u (v.uZ L)
 | .two u v,a=>ah.fits (.two u v) a
def aH.lE (L:Nat→Nat):aH→List AV→Bool
 | .nil,l=>l.isEmpty
 | .cons p ps,l=>match l with
  | a :: l=>p.lE L a&&ps.lE L l
  | []=>false
end
def aH.Ff (L:Nat→Nat) (ps:aH) (l:List AV):Option ps.T:=bif ps.lE L l then some (ps.ba l) else none
mutual
theorem ah.ir (L:Nat→Nat):∀ (p:ah) (a:AV),p.lE L a=(p.inst L).fits a
 | .int _,_=>rfl
 | .bool,_=>rfl
 | .str,_=>rfl
 | .agg ps,a=>by
  simp only [ah.lE,ah.inst,ah.fits]
  cases a <;> first | rfl | exact ps.ir L _
 | .bh ps,a=>by
  simp only [ah.lE,ah.inst,ah.fits]
  cases a <;> first | rfl | exact ps.ir L _
 | .list _ _,_=>rfl
 | .own _ _ _,_=>rfl
 | .aX _ _ _,_=>rfl
 | .oH _,_=>rfl
 | .two _ _,_=>rfl
theorem aH.ir (L:Nat→Nat):∀ (ps:aH) (l:List AV),ps.lE L l=(ps.inst L).fits l
 | .nil,_=>rfl
 | .cons p ps,l=>by
  cases l with
  | nil=>rfl
  | cons a l=>
   simp only [aH.lE,aH.inst,aH.fits]
   rw [p.ir L a,ps.ir L l]
end
mutual
theorem ah.gJ (L:Nat→Nat):∀ (p:ah) (a:AV),p.kb L (p.ba a)=(p.inst L).enc ((p.inst L).ba a)
 | .int _,_=>rfl
 | .bool,_=>rfl
 | .str,_=>rfl
 | .agg ps,a=>congrArg AV.agg (ps.gJ L a.iV)
 | .bh ps,a=>congrArg AV.bh (ps.gJ L a.L6)
 | .list _ _,_=>rfl
 | .own _ _ _,_=>rfl
 | .aX _ _ _,_=>rfl
 | .oH _,_=>rfl
 | .two _ _,_=>rfl
theorem aH.gJ (L:Nat→Nat):∀ (ps:aH) (l:List AV),ps.kb L (ps.ba l)=(ps.inst L).enc ((ps.inst L).ba l)
 | .nil,_=>rfl
 | .cons p .nil,l=>by
  show [p.kb L (p.ba (dU l))]=[(p.inst L).enc ((p.inst L).ba (dU l))]
  rw [p.gJ L]
 | .cons p (.cons q ps),l=>by
  show p.kb L (p.ba (dU l)) :: (aH.cons q ps).kb L ((aH.cons q ps).ba (F0 l))=(p.inst L).enc ((p.inst L).ba (dU l)) :: ((aH.cons q ps).inst L).enc (((aH.cons q ps).inst L).ba (F0 l))
  rw [p.gJ L,(aH.cons q ps).gJ L]
end
mutual
theorem AV.va {n:Nat} (L:Nat→Nat):∀ {a:AV},a.under n=true→(a.uZ L).under n=true:=fun {a} h=>by
 cases a with
 | dT id f off sz len=>
  unfold AV.uZ
  split
  ·rename_i h1
   cases h1
   exact h
  ·rename_i h1
   cases h1
  ·exact h
 | fn f x y=>
  simp only [AV.uZ,AV.under,Bool.and_eq_true] at *
  exact ⟨pC L h.1,pC L h.2⟩
 | _=>exact h
theorem pC {n:Nat} (L:Nat→Nat):∀ {l:List AV},aE n l=true→aE n (G5 L l)=true
 | [],_=>rfl
 | a :: l,h=>by
  simp only [G5,aE,Bool.and_eq_true] at *
  exact ⟨AV.va L h.1,pC L h.2⟩
end
mutual
theorem ah.iu {n:Nat} (L:Nat→Nat):∀ {p:ah},p.under n=true→(p.inst L).under n=true
 | .int _,_=>rfl
 | .bool,_=>rfl
 | .str,_=>rfl
 | .agg ps,h=>aH.iu L (ps:=ps) h
 | .bh ps,h=>aH.iu L (ps:=ps) h
 | .list _ _,_=>rfl
 | .own _ _ _,h=>h
 | .aX _ _ _,h=>h
 | .oH v,h=>AV.va L (a:=v) h
 | .two _ _,h=>h
theorem aH.iu {n:Nat} (L:Nat→Nat):∀ {ps:aH},ps.under n=true→(ps.inst L).under n=true
 | .nil,_=>rfl
 | .cons p ps,h=>by
  simp only [aH.inst,aH.under,Bool.and_eq_true] at *
  exact ⟨ah.iu L h.1,aH.iu L h.2⟩
end
theorem AV.xO (L:Nat→Nat) (v:AV):(v.uZ L).dJ=v.dJ:=by
 unfold AV.uZ
 split <;> rfl
def mO:List AV→List AV→Prop
 | [],[]=>True
 | a :: l,b :: r=>a.dJ.length=b.dJ.length∧mO l r
 | _,_=>False
theorem ah.nI (L L':Nat→Nat) (p:ah) (x:p.T):(p.kb L x).dJ=(p.kb L' x).dJ:=by
 cases p with
 | oH v=>
  show (v.uZ L).dJ=(v.uZ L').dJ
  rw [AV.xO,AV.xO]
 | _=>rfl
theorem aH.nI (L L':Nat→Nat):∀ (ps:aH) (x:ps.T),mO (ps.kb L x) (ps.kb L' x)
 | .nil,_=>trivial
 | .cons p .nil,x=>⟨congrArg List.length (p.nI L L' x),trivial⟩
 | .cons p (.cons q ps),x=>⟨congrArg List.length (p.nI L L' x.1),(aH.cons q ps).nI L L' x.2⟩
theorem FW.Rk:∀ {l r:List AV},FW l r→mO l r
 | [],[],_=>trivial
 | _ :: _,_ :: _,h=>⟨h.2.2.1.length,h.2.2.2.Rk⟩
 | [],_ :: _,h=>h.elim
 | _ :: _,[],h=>h.elim
theorem mO.trans:∀ {l r u:List AV},mO l r→mO r u→mO l u
 | [],[],[],_,_=>trivial
 | _ :: _,_ :: _,_ :: _,h,k=>⟨h.1.trans k.1,h.2.trans k.2⟩
 | [],_ :: _,_,h,_=>h.elim
 | _ :: _,[],_,h,_=>h.elim
 | [],[],_ :: _,_,k=>k.elim
 | _ :: _,_ :: _,[],_,k=>k.elim
theorem mO.drop:∀ {l r:List AV} (n:Nat),mO l r→mO (l.drop n) (r.drop n)
 | l,r,0,h=>by simpa using h
 | [],[],_+1,_=>by simp [mO]
 | _ :: _,_ :: _,n+1,h=>by simpa using mO.drop n h.2
 | [],_ :: _,_+1,h=>h.elim
 | _ :: _,[],_+1,h=>h.elim
theorem aH.Jr (L:Nat→Nat) (ps:aH) {l:List AV} {x:ps.T} (h:ps.Ff L l=some x):cu l (ps.kb L x)∧FW l (ps.kb L x):=by
 unfold aH.Ff at h
 cases hf:ps.lE L l with
 | true=>
  rw [hf] at h
  cases h
  rw [ps.gJ L]
  rw [ps.ir L] at hf
  have hd:(ps.inst L).dec l=some ((ps.inst L).ba l):=by unfold aH.dec; rw [hf]; rfl
  exact ⟨((ps.inst L).pj hd).1,(ps.inst L).G4 hf⟩
 | false=>rw [hf] at h; cases h
theorem aH.CF {n:Nat} (L:Nat→Nat) (ps:aH) (hp:ps.under n=true) (l:List AV):aE n (ps.kb L (ps.ba l))=true:=by
 rw [ps.gJ L]
 exact (ps.inst L).cQ _ (aH.iu L hp)
theorem aH.Fg (L:Nat→Nat) (ps:aH) {l:List AV} {x:ps.T} (h:ps.Ff L l=some x):x=ps.ba l:=by
 unfold aH.Ff at h
 cases hf:ps.lE L l with
 | true=>rw [hf] at h; cases h; rfl
 | false=>rw [hf] at h; cases h
end Go.Am
namespace Go.Am
open Go
inductive By
 | open_
 | busy
 | ret
 | ex (i:Nat)
def By.is:By→Bool→Option Code→Bool→Bool
 | .open_,false,none,false=>true
 | .busy,true,none,false=>true
 | .ret,false,some .ret,true=>true
 | .ex i,false,some (.exit j),true=>Nat.beq i j
 | _,_,_,_=>false
def By.b:By→Bool
 | .busy=>true
 | _=>false
def By.p:By→Option Code
 | .ret=>some .ret
 | .ex i=>some (.exit i)
 | _=>none
def By.d:By→Bool
 | .ret=>true
 | .ex _=>true
 | _=>false
theorem By.DS {k:By} {b:Bool} {p:Option Code} {d:Bool} (h:k.is b p d=true):b=k.b∧p=k.p∧d=k.d:=by
 unfold By.is at h
 split at h <;> first | exact ⟨rfl,rfl,rfl⟩ | (cases h; done) | skip
 rw [Nat.eq_of_beq_eq_true h]
 exact ⟨rfl,rfl,rfl⟩
inductive GL
 | row (n:Nat)
 | tok (loc sz:Nat) (e:TypeId)
 | dead
 | lp (k:By)
 | aZ
 | map
 | Bz
 | dE (sz:Nat) (e:TypeId)
 | aX (sz:Nat) (e:TypeId)
 | qy
 | gR (pg:Nat)
def aV (fs:List Nat):List AV:=fs.map fun n:Nat=>.int .i64 n
def aq (l:List AV):List Nat:=l.map fun a=>a.ph.toNat
theorem sA (fs:List Nat):aq (aV fs)=fs:=by
 induction fs with
 | nil=>rfl
 | cons n fs ih=>
  show (AV.int .i64 n).ph.toNat :: aq (aV fs)=n :: fs
  rw [ih]
  simp [AV.ph]
theorem vb (fs:List Nat):fQ (aV fs)=true:=by
 induction fs with
 | nil=>rfl
 | cons n fs ih=>exact ih
def MZ (k:By):GO→GO→Bool
 | .loop _ _ _ _ _ _ _ _ _ _,.loop b p _ _ _ _ _ _ _ d=>k.is b p d
 | _,_=>false
def La (k:By):GO→GO
 | .loop _ _ fn sl n ps py bd d _=>.loop k.b k.p fn sl n ps py bd d k.d
 | _=>.dead
def aM (es:List (AV × AV)):Bool:=fQ (af es)
def yV:GO→GO→Bool
 | .tok f sz e,.tok f' bq e'=>decide (f'=f)&&(Nat.beq bq sz&&Nat.beq e' e)
 | .defers a,.defers b=>match a,b with
  | true,true=>true
  | false,false=>true
  | _,_=>false
 | .dead,_=>true
 | _,_=>false
structure b9 where
 ps:aH
 sl:List Tmp
 W:List Tmp
 bx:List (Nat × Nat)
 g:List GL
 P0:List (Tmp × Nat × Nat)
def vc (ae:aW):List Tmp→Option (List AV)
 | []=>some []
 | t :: l=>match lk ae t with
  | .v a=>match vc ae l with
   | some r=>some (a :: r)
   | none=>none
  | _=>none
def vd (bx:cA):List (Nat × Nat)→Option (List AV)
 | []=>some []
 | (k,n) :: l=>match dy bx k with
  | some cs=>match vd bx l with
   | some r=>bif Nat.beq cs.length n then some (cs++r) else none
   | none=>none
  | none=>none
def jA:List GL→List GO→Option (List AV)
 | [],_=>some []
 | .row n :: l,.row cs _ :: G=>match jA l G with
  | some r=>bif Nat.beq cs.length n then some (cs++r) else none
  | none=>none
 | .tok _ sz e :: l,.tok _ bq e' :: G=>bif Nat.beq sz bq&&Nat.beq e e' then jA l G else none
 | .dead :: l,_ :: G=>jA l G
 | .lp _ :: l,_ :: G=>jA l G
 | .aZ :: l,_ :: G=>jA l G
 | .map :: l,.map es :: G=>match jA l G with
  | some r=>some (.list .iU 2 (af es) :: r)
  | none=>none
 | .Bz :: l,.fZ s pos :: G=>match jA l G with
  | some r=>some (.str s :: .int .i64 pos :: r)
  | none=>none
 | .dE sz e :: l,.dE es bq e' :: G=>match jA l G with
  | some r=>bif Nat.beq sz bq&&Nat.beq e e' then some (.list .iU bq es :: r) else none
  | none=>none
 | .aX sz e :: l,.aX fs bq e' :: G=>match jA l G with
  | some r=>bif Nat.beq sz bq&&Nat.beq e e' then some (.list .iU 1 (aV fs) :: r) else none
  | none=>none
 | .qy :: l,.map es :: G=>match jA l G with
  | some r=>some (.list .iU 2 (af es) :: r)
  | none=>none
 | .gR pg :: l,.gR mid' n left _ _ :: G=>match jA l G with
  | some r=>bif Nat.beq pg mid' then some (.int .i64 n :: .list .iU 1 (aV left) :: r) else none
  | none=>none
 | _,_=>none
def G6 (vs:List AV) (loc:Nat):Nat:=match nth vs loc with
 | some (.list _ _ es)=>es.length
 | _=>0
def Lb:GO→GO→Bool
 | .row _ e,.row _ e'=>Nat.beq e e'
 | _,_=>false
def Lc:GO→GO→Bool
 | .gR _ _ _ _ t,.gR _ _ _ _ t'=>Nat.beq t t'
 | _,_=>false
def Rl:GO→TypeId
 | .gR _ _ _ _ t=>t
 | _=>0
def Rm:GO→TypeId
 | .row _ e=>e
 | _=>0
def dx (vs:List AV):List GL→List GO→List GO→Bool
 | [],_,_=>true
 | .tok loc _ _ :: l,_ :: B,.tok f _ _ :: G=>decide (f=G6 vs loc)&&dx vs l B G
 | .tok _ _ _ :: _,_,_=>false
 | .lp k :: l,o :: B,o' :: G=>MZ k o o'&&dx vs l B G
 | .aZ :: l,o :: B,o' :: G=>yV o o'&&dx vs l B G
 | .row _ :: l,b :: B,g :: G=>Lb b g&&dx vs l B G
 | .map :: l,_ :: B,.map es :: G=>aM es&&dx vs l B G
 | .map :: _,_,_=>false
 | .Bz :: l,_ :: B,_ :: G=>dx vs l B G
 | .dE _ _ :: l,_ :: B,_ :: G=>dx vs l B G
 | .aX _ _ :: l,_ :: B,_ :: G=>dx vs l B G
 | .qy :: l,_ :: B,_ :: G=>dx vs l B G
 | .gR _ :: l,b :: B,g :: G=>Lc b g&&dx vs l B G
 | .dead :: l,_ :: B,_ :: G=>dx vs l B G
 | _,_,_=>false
def nJ:List Tmp→List AV→aW→aW
 | t :: ts,a :: l,r=>.put t (.v a) :: nJ ts l r
 | _,_,r=>r
def nK:List (Tmp × Nat × Nat)→aW→aW
 | (t,k,o) :: l,r=>.put t (.lp k o) :: nK l r
 | [],r=>r
def DU (ae:aW):List (Tmp × Nat × Nat)→Bool
 | []=>true
 | (t,k,o) :: l=>(match lk ae t with
  | .lp k' o'=>Nat.beq k' k&&Nat.beq o' o
  | _=>false)&&DU ae l
def vf:List Tmp→aW→aW
 | t :: ts,r=>.put t .none :: vf ts r
 | [],r=>r
def sB:List (Nat × Nat)→List AV→cA→cA
 | (k,n) :: r,l,b=>(k,l.take n) :: sB r (l.drop n) b
 | [],_,b=>b
def dj (vs:List AV):List GL→List GO→List AV→List GO
 | .row n :: r,B,l=>.row (l.take n) (Rm (B.headD .dead)) :: dj vs r B.tail (l.drop n)
 | .tok loc sz e :: r,B,l=>.tok (G6 vs loc) sz e :: dj vs r B.tail l
 | .dead :: r,B,l=>.dead :: dj vs r B.tail l
 | .lp k :: r,B,l=>La k (B.headD .dead) :: dj vs r B.tail l
 | .aZ :: r,B,l=>B.headD .dead :: dj vs r B.tail l
 | .map :: r,B,l=>.map (AV.entries (dU l)) :: dj vs r B.tail l.tail
 | .Bz :: r,B,l=>.fZ (AV.L7 (dU l)) (AV.ph (dU l.tail)).toNat :: dj vs r B.tail l.tail.tail
 | .dE sz e :: r,B,l=>.dE (AV.dJ (dU l)) sz e :: dj vs r B.tail l.tail
 | .aX sz e :: r,B,l=>.aX (aq (AV.dJ (dU l))) sz e :: dj vs r B.tail l.tail
 | .qy :: r,B,l=>.map (AV.entries (dU l)) :: dj vs r B.tail l.tail
 | .gR pg :: r,B,l=>.gR pg (AV.ph (dU l)).toNat (aq (AV.dJ (dU l.tail))) none (Rl (B.headD .dead)) :: dj vs r B.tail l.tail.tail
 | [],_,_=>[]
def yW:List (Nat × Nat)→Nat
 | []=>0
 | (_,n) :: l=>n+yW l
def kd:List GL→List AV→Nat→Nat
 | [],_,_=>0
 | .dE _ _ :: r,l,i=>match i with
  | 0=>(AV.dJ (dU l)).length
  | i+1=>kd r l.tail i
 | .row n :: r,l,i=>match i with
  | 0=>0
  | i+1=>kd r (l.drop n) i
 | .map :: r,l,i=>match i with
  | 0=>0
  | i+1=>kd r l.tail i
 | .Bz :: r,l,i=>match i with
  | 0=>0
  | i+1=>kd r l.tail.tail i
 | .aX _ _ :: r,l,i=>match i with
  | 0=>0
  | i+1=>kd r l.tail i
 | .qy :: r,l,i=>match i with
  | 0=>0
  | i+1=>kd r l.tail i
 | .gR _ :: r,l,i=>match i with
  | 0=>0
  | i+1=>kd r l.tail.tail i
 | _ :: r,l,i=>match i with
  | 0=>0
  | i+1=>kd r l i
def b9.oG (t:b9) (v:t.ps.T):List AV:=t.ps.kb (kd t.g (((t.ps.kb (fun _=>0) v).drop t.sl.length).drop (yW t.bx))) v
def b9.st (t:b9) (s:St) (v:t.ps.T):St:=
 ⟨nK t.P0 (nJ t.sl (t.oG v) (vf t.W s.ae)),sB t.bx ((t.oG v).drop t.sl.length) s.boxes,dj (t.oG v) t.g s.G (((t.oG v).drop t.sl.length).drop (yW t.bx)),s.marks,s.ro,s.n⟩
def IP:List Nat→Nat→Bool
 | [],_=>false
 | a :: l,n=>Nat.beq a n || IP l n
def P1 (l:List Tmp) (W:List Tmp) (n:Nat):Bool:=IP l n || IP W n
def wU (d:Nat) (l W:List Tmp):aW→Bool
 | []=>true
 | .put t (.lp k _) :: r=>(!(Nat.beq k d) || P1 l W t)&&wU d l W r
 | _ :: r=>wU d l W r
def rR (l W:List Tmp) (base:aW):aW→Bool
 | []=>true
 | .put d _ :: r=>P1 l W d&&rR l W base r
 | .kill d :: r=>wU d l W base&&rR l W base r
def sM:List (Nat × Nat)→Nat→Bool
 | [],_=>false
 | (a,_) :: l,n=>Nat.beq a n || sM l n
def tu (l:List (Nat × Nat)) (base:cA):cA→Bool
 | []=>true
 | (k,_) :: r=>(sM l k || (dy base k).isNone)&&tu l base r
def Js:List Nat→List Nat→Bool
 | [],[]=>true
 | a :: l,b :: r=>Nat.beq a b&&Js l r
 | _,_=>false
def ah.Wz (n:Nat):ah→Bool
 | .list _ p=>p.under n
 | _=>false
def aH.flags (n:Nat):aH→List Bool
 | .nil=>[]
 | .cons p ps=>p.Wz n :: ps.flags n
def ke:List GL→List Bool→Bool
 | [],_=>true
 | .dE _ _ :: r,f :: l=>f&&ke r l
 | .dE _ _ :: _,[]=>false
 | .row n :: r,l=>ke r (fm n l)
 | .map :: r,l=>ke r (fm 1 l)
 | .Bz :: r,l=>ke r (fm 2 l)
 | .aX _ _ :: r,l=>ke r (fm 1 l)
 | .qy :: r,f :: l=>f&&ke r l
 | .qy :: _,[]=>false
 | .gR _ :: r,l=>ke r (fm 2 l)
 | _ :: r,l=>ke r l
def G7 (n:Nat):List GL→Bool
 | []=>true
 | .gR pg :: r=>Nat.blt pg n&&G7 n r
 | _ :: r=>G7 n r
def b9.ok (t:b9) (s s':St):Bool:=
 rR t.sl t.W s.ae (s'.ae.take (s'.ae.length - s.ae.length))&&tu t.bx s.boxes (s'.boxes.take (s'.boxes.length - s.boxes.length)) &&
  Js s'.marks s.marks&&Nat.beq t.g.length s.G.length&&(t.ps.under s.G.length&&(ke t.g (fm (yW t.bx) (fm t.sl.length (t.ps.flags s.G.length)))&&G7 s.G.length t.g))&&DU s'.ae t.P0
def b9.dec (t:b9) (s s':St):Option t.ps.T:=
 bif t.ok s s' then
  match vc s'.ae t.sl,vd s'.boxes t.bx,jA t.g s'.G with
  | some a,some b,some c=>(t.ps.Ff (kd t.g c) (a++(b++c))).bind fun v=>bif dx (t.oG v) t.g s.G s'.G then some v else none
  | _,_,_=>none
 else none
theorem yX {l:List Nat} {n:Nat}:IP l n=true↔n∈l:=by
 induction l with
 | nil=>simp [IP]
 | cons a l ih=>
  simp only [IP,Bool.or_eq_true,Nat.beq_eq,ih,List.mem_cons]
  constructor
  ·rintro (h | h)
   ·exact .inl h.symm
   ·exact .inr h
  ·rintro (h | h)
   ·exact .inl h.symm
   ·exact .inr h
theorem DV:∀ {a b:List Nat},Js a b=true→a=b
 | [],[],_=>rfl
 | a :: l,b :: r,h=>by
  simp only [Js,Bool.and_eq_true,Nat.beq_eq] at h
  rw [h.1,DV h.2]
 | [],_ :: _,h=>by cases h
 | _ :: _,[],h=>by cases h
theorem yY {d:Nat} {l W:List Tmp} {t off:Nat}:∀ {base:aW},wU d l W base=true→lk base t=.lp d off→P1 l W t=true
 | [],_,h=>by simp [lk] at h
 | .put t' x :: r,hn,h=>by
  by_cases e:t'=t
  ·subst e
   rw [ay] at h
   subst h
   simp only [wU,Nat.beq_refl,Bool.not_true,Bool.false_or,Bool.and_eq_true] at hn
   exact hn.1
  ·rw [aL e] at h
   refine yY (base:=r) ?_ h
   cases x <;> simp only [wU,Bool.and_eq_true] at hn
   ·exact hn
   ·exact hn
   ·exact hn.2
 | .kill d' :: r,hn,h=>by
  rcases Dq (l:=r) (d:=d') (t:=t) with ⟨h1,_⟩ | h1
  ·rw [h1] at h
   exact yY (base:=r) hn h
  ·rw [h1] at h
   cases h
theorem yZ {l W:List Tmp} {base:aW} {t:Nat} (ht:P1 l W t=false):∀ {pre:aW},rR l W base pre=true→lk (pre++base) t=lk base t
 | [],_=>rfl
 | .put d x :: r,h=>by
  simp only [rR,Bool.and_eq_true] at h
  have cM:d≠t:=fun e=>by rw [e,ht] at h; exact absurd h.1 (by simp)
  rw [List.cons_append,aL cM]
  exact yZ ht h.2
 | .kill d :: r,h=>by
  simp only [rR,Bool.and_eq_true] at h
  have ih:=yZ ht h.2
  simp only [List.cons_append,lk,ih]
  cases hb:lk base t with
  | lp k off=>
   by_cases e:k=d
   ·subst e
    have:=yY h.1 hb
    rw [ht] at this
    cases this
   ·simp [ma e]
  | _=>rfl
theorem AL {l:List (Nat × Nat)} {base:cA} {k:Nat} {cs:List AV} (hk:sM l k=false) (hb:dy base k=some cs):∀ {pre:cA},tu l base pre=true→dy (pre++base) k=some cs
 | [],_=>hb
 | (d,x) :: r,h=>by
  simp only [tu,Bool.and_eq_true] at h
  have cM:d≠k:=fun e=>by
   rw [e,hk,hb] at h
   exact absurd h.1 (by simp)
  rw [List.cons_append,dy,ma cM]
  exact AL hk hb h.2
theorem AM {α:Type} (pre base:List α):(pre++base).take ((pre++base).length - base.length)=pre:=by
 rw [List.length_append,Nat.add_sub_cancel,List.take_left]
def ak.cut (R:ak) (n:Nat):ak:=⟨R.I,R.obj.take n⟩
theorem jB {R:ak} {n id:Nat} {ro:RO}:nth (R.cut n).obj id=some ro↔id < n∧nth R.obj id=some ro:=by
 simp only [ak.cut,aU,List.getElem?_take]
 split
 ·simp_all
 ·simp_all
  omega
theorem nL (R:ak) (n:Nat):Mv R (R.cut n) n:=⟨fun _ _ h=>h,fun _ _ hl h=>jB.2 ⟨hl,h⟩⟩
section yM
variable {E:Env} {R R':ak} {w w':World} {β β':Nat→Nat} {s s':St} {a a':Act}
def vg (R:ak) (w:World) (β:Nat→Nat) (K:Nat→Prop) (ae:aW) (tmps:Array Value):Prop:=
 ∀ i,¬ K i→lk ae i≠.none→∃ c,tmps[i]?=some c∧oE R w β (lk ae i) c
theorem vh {tmps:Array Value} {base:aW}:∀ {W:List Tmp} {K:Nat→Prop},vg R w β (fun i=>i∈W∨K i) base tmps→vg R w β K (vf W base) tmps
 | [],K,h=>fun i hi hn=>h i (by simpa using hi) hn
 | t :: W,K,h=>fun i hi hn=>by
  have ih:vg R w β (fun i=>i=t∨K i) (vf W base) tmps:=vh (W:=W) (fun j hj=>h j (fun hc=>hj (by
   rcases hc with hc | hc
   ·rcases List.mem_cons.1 hc with hc | hc
    ·exact .inr (.inl hc)
    ·exact .inl hc
   ·exact .inr (.inr hc))))
  simp only [vf] at hn ⊢
  by_cases e:t=i
  ·subst e
   rw [ay] at hn
   exact absurd rfl hn
  ·rw [aL e] at hn ⊢
   exact ih i (by simp; exact ⟨fun e'=>e e'.symm,hi⟩) hn
theorem sC {n:Nat} (m:Mv R' R n) {tmps:Array Value} {ae:aW} (hT:mW R' w β ae tmps) {base:aW}:∀ {ts:List Tmp} {K:Nat→Prop} {l l' r r':List AV},vc ae ts=some l→cu (l++r) (l'++r')→l.length=l'.length→aE n l'=true →
  vg R w β (fun i=>i∈ts∨K i) base tmps→vg R w β K (nJ ts (l'++r') base) tmps
 | [],K,l,l',r,r',_,_,_,_,h=>fun i hi hn=>by
  have e:nJ [] (l'++r') base=base:=rfl
  rw [e] at hn ⊢
  exact h i (by simpa using hi) hn
 | t :: ts,K,l,l',r,r',hg,hw,hl,hu,h=>by
  unfold vc at hg
  split at hg
  ·rename_i a ha
   split at hg
   ·rename_i l0 sQ
    cases hg
    cases l' with
    | nil=>simp at hl
    | cons b l'=>
     simp only [List.cons_append,cu] at hw
     simp only [aE,Bool.and_eq_true] at hu
     have ih:vg R w β (fun i=>i=t∨K i) (nJ ts (l'++r') base) tmps:=sC m hT sQ hw.2 (by simpa using hl) hu.2 (fun j hj=>h j (fun hc=>hj (by
      rcases hc with hc | hc
      ·rcases List.mem_cons.1 hc with hc | hc
       ·exact .inr (.inl hc)
       ·exact .inl hc
      ·exact .inr (.inr hc))))
     intro i hi hn
     simp only [nJ,List.cons_append] at hn ⊢
     by_cases e:t=i
     ·subst e
      rw [ay] at hn ⊢
      obtain ⟨c,h1,h2⟩:=hT t (by rw [ha]; simp)
      rw [ha] at h2
      exact ⟨c,h1,Rel.move m hu.1 (hw.1 _ _ _ h2)⟩
     ·rw [aL e] at hn ⊢
      exact ih i (by simp; exact ⟨fun e'=>e e'.symm,hi⟩) hn
   ·cases hg
  ·cases hg
def vi (R:ak) (w:World) (β:Nat→Nat) (k:Nat) (cs:List AV):Prop:=
 (∃ vs el,w.heap[β k]?=some (.cells ⟨vs⟩ el (0,0))∧aI R w cs vs∧(∀ v∈vs,v.oneCell'=true))∧(∀ o,¬ R.I (β k) o)∧¬ Live R (β k)
theorem AN {R:ak} {n b:Nat} (h:Live (R.cut n) b):Live R b:=by
 obtain ⟨id,ro,h1,h2⟩:=h
 exact ⟨id,ro,(jB.1 h1).2,h2⟩
theorem vi.cut {n k:Nat} {cs eQ:List AV} (h:vi R w β k cs) (hw:cu cs eQ) (hu:aE n eQ=true):vi (R.cut n) w β k eQ:=by
 obtain ⟨⟨vs,el,h1,h2,h3⟩,h4,h5⟩:=h
 exact ⟨⟨vs,el,h1,(hw.rel h2).move (nL R n) hu,h3⟩,h4,fun hl=>h5 (AN hl)⟩
theorem fh {n:Nat}:∀ {l r:List AV},aE n (l++r)=(aE n l&&aE n r)
 | [],r=>by simp [aE]
 | a :: l,r=>by simp [aE,fh (l:=l),Bool.and_assoc]
theorem cu.split:∀ {l r l':List AV},cu (l++r) l'→∃ a b,l'=a++b∧cu l a∧cu r b∧a.length=l.length
 | [],r,l',h=>⟨[],l',rfl,trivial,h,rfl⟩
 | x :: l,r,[],h=>h.elim
 | x :: l,r,y :: l',h=>by
  obtain ⟨a,b,rfl,h2,h3,h4⟩:=cu.split (l:=l) (r:=r) (l':=l') h.2
  exact ⟨y :: a,b,rfl,⟨h.1,h2⟩,h3,by simp [h4]⟩
theorem AO {n:Nat} {S9:cA} (hb:∀ k cs,dy S9 k=some cs→vi R w β k cs) {base:cA}:∀ {bx:List (Nat × Nat)} {K:Nat→Prop} {l l' r:List AV},vd S9 bx=some l→cu l l'→aE n l'=true →
  (∀ k cs,¬ K k→sM bx k=false→dy base k=some cs→dy S9 k=some cs∧aE n cs=true) →
  ∀ k cs,¬ K k→dy (sB bx (l'++r) base) k=some cs→vi (R.cut n) w β k cs∧∃ eQ,dy S9 k=some eQ
 | [],K,l,l',r,_,_,_,h,k,cs,hK,hk=>by
  obtain ⟨h1,h2⟩:=h k cs hK rfl hk
  exact ⟨(hb k cs h1).cut (cu.refl _) h2,cs,h1⟩
 | (d,m) :: bx,K,l,l',r,hg,hw,hu,h,k,cs,hK,hk=>by
  unfold vd at hg
  split at hg
  ·rename_i Q7 hd
   split at hg
   ·rename_i l0 sQ
    cases hm:Nat.beq Q7.length m with
    | false=>rw [hm] at hg; cases hg
    | true=>
     rw [hm] at hg
     cases hg
     have hm:=Nat.eq_of_beq_eq_true hm
     obtain ⟨x,y,rfl,k1,k2,k3⟩:=hw.split
     rw [fh,Bool.and_eq_true] at hu
     have e1:((x++y)++r).take m=x:=by rw [List.append_assoc,← hm,← k3,List.take_left]
     have e2:((x++y)++r).drop m=y++r:=by rw [List.append_assoc,← hm,← k3,List.drop_left]
     simp only [sB,e1,e2] at hk
     rcases eA hk with ⟨rfl,rfl⟩ | ⟨cM,hk⟩
     ·exact ⟨(hb d Q7 hd).cut k1 hu.1,Q7,hd⟩
     ·refine AO hb (K:=fun k=>k=d∨K k) (r:=r) sQ k2 hu.2 (fun k' eQ WA h1 h2=>?_) k cs (fun hc=>?_) hk
      ·exact h k' eQ (fun hc=>WA (.inr hc)) (by simp only [sM,h1,Bool.or_false]; exact ma (fun e=>WA (.inl e.symm))) h2
      ·rcases hc with hc | hc
       ·exact cM hc.symm
       ·exact hK hc
   ·cases hg
  ·cases hg
def vj (n:Nat):List GL→List AV→Prop
 | [],_=>True
 | .dE _ _ :: r,l=>aE n (AV.dJ (dU l))=true∧vj n r l.tail
 | .row m :: r,l=>vj n r (l.drop m)
 | .map :: r,l=>vj n r l.tail
 | .Bz :: r,l=>vj n r l.tail.tail
 | .aX _ _ :: r,l=>vj n r l.tail
 | .qy :: r,l=>aE n (AV.dJ (dU l))=true∧vj n r l.tail
 | .gR _ :: r,l=>vj n r l.tail.tail
 | _ :: r,l=>vj n r l
def nN (n:Nat):List Bool→List AV→Prop
 | [],_=>True
 | _ :: _,[]=>True
 | f :: fl,a :: l=>(f=true→aE n a.dJ=true)∧nN n fl l
theorem nN.drop {m:Nat}:∀ {fl:List Bool} {l:List AV} (n:Nat),nN m fl l→nN m (fm n fl) (l.drop n)
 | _,_,0,h=>by simpa [fm] using h
 | [],_,_+1,_=>by simp [fm,nN]
 | _ :: fl,[],n+1,_=>by
  rw [List.drop_nil]
  cases fm (n+1) (_ :: fl) <;> trivial
 | _ :: fl,_ :: l,n+1,h=>by simpa [fm] using nN.drop n h.2
theorem fy {m:Nat}:∀ (g:List GL) {fl:List Bool} {l:List AV},ke g fl=true→nN m fl l→vj m g l
 | [],_,_,_,_=>trivial
 | .dE _ _ :: g,[],_,h,_=>by cases h
 | .dE _ _ :: g,f :: fl,[],h,_=>by
  simp only [ke,Bool.and_eq_true] at h
  refine ⟨rfl,fy g (fl:=fl) h.2 ?_⟩
  cases fl <;> trivial
 | .dE _ _ :: g,f :: fl,a :: l,h,k=>by
  simp only [ke,Bool.and_eq_true] at h
  exact ⟨k.1 h.1,fy g h.2 k.2⟩
 | .row n :: g,fl,l,h,k=>fy g (show ke g (fm n fl)=true from h) (k.drop n)
 | .map :: g,fl,l,h,k=>by
  have:=fy g (show ke g (fm 1 fl)=true from h) (k.drop 1)
  rw [List.drop_one] at this
  exact this
 | .Bz :: g,fl,l,h,k=>by
  have:=fy g (show ke g (fm 2 fl)=true from h) (k.drop 2)
  have e:l.drop 2=l.tail.tail:=by cases l with
   | nil=>rfl
   | cons a l=>cases l <;> rfl
  rw [e] at this
  exact this
 | .aX _ _ :: g,fl,l,h,k=>by
  have:=fy g (show ke g (fm 1 fl)=true from h) (k.drop 1)
  rw [List.drop_one] at this
  exact this
 | .gR _ :: g,fl,l,h,k=>by
  have:=fy g (show ke g (fm 2 fl)=true from h) (k.drop 2)
  have e:l.drop 2=l.tail.tail:=by cases l with
   | nil=>rfl
   | cons a l=>cases l <;> rfl
  rw [e] at this
  exact this
 | .qy :: g,[],_,h,_=>by cases h
 | .qy :: g,f :: fl,[],h,_=>by
  simp only [ke,Bool.and_eq_true] at h
  refine ⟨rfl,fy g (fl:=fl) h.2 ?_⟩
  cases fl <;> trivial
 | .qy :: g,f :: fl,a :: l,h,k=>by
  simp only [ke,Bool.and_eq_true] at h
  exact ⟨k.1 h.1,fy g h.2 k.2⟩
 | .tok _ _ _ :: g,fl,l,h,k=>fy g (show ke g fl=true from h) k
 | .dead :: g,fl,l,h,k=>fy g (show ke g fl=true from h) k
 | .lp _ :: g,fl,l,h,k=>fy g (show ke g fl=true from h) k
 | .aZ :: g,fl,l,h,k=>fy g (show ke g fl=true from h) k
theorem vk {n:Nat} {α:Type} {g:α→AV} (hg:∀ x,(g x).under n=true):∀ xs:List α,aE n (xs.map g)=true
 | []=>rfl
 | x :: xs=>by simp only [List.map_cons,aE,hg x,vk hg xs,Bool.and_self]
theorem aH.AP (n:Nat) (L:Nat→Nat):∀ (ps:aH) (x:ps.T),nN n (ps.flags n) (ps.kb L x)
 | .nil,_=>trivial
 | .cons p .nil,x=>⟨fun h=>Ld L p x h,trivial⟩
 | .cons p (.cons q ps),x=>⟨fun h=>Ld L p x.1 h,(aH.cons q ps).AP n L x.2⟩
where
 Ld (L:Nat→Nat):∀ (p:ah) (x:p.T),p.Wz n=true→aE n (p.kb L x).dJ=true
  | .list _ p,x,h=>vk (fun y=>p.cQ y h) _
  | .int _,_,h=>by cases h
  | .bool,_,h=>by cases h
  | .str,_,h=>by cases h
  | .agg _,_,h=>by cases h
  | .bh _,_,h=>by cases h
  | .own _ _ _,_,h=>by cases h
  | .aX _ _ _,_,h=>by cases h
  | .oH _,_,h=>by cases h
  | .two _ _,_,h=>by cases h
def Up (n:Nat):GO→GO→Prop
 | .row cs el,.row eQ SU=>SU=el∧cu cs eQ∧aE n eQ=true
 | .tok f sz e,.tok f' bq e'=>f=f'∧sz=bq∧e=e'
 | .defers a,.defers b=>a=b
 | .map es,.map es'=>(es'=es∧aM es=true)∨∃ l,es'=ab l∧ji (af es) l∧aE n l=true
 | .aX fs sz e,.aX ym bq e'=>fs=ym∧sz=bq∧e=e'
 | .gR pg m left _ t,.gR mid' m' xy cur t'=>pg=mid'∧m=m'∧left=xy∧t=t'∧pg < n∧cur=none
 | .fZ l p,.fZ l' p'=>l'=l∧p'=p
 | .dE es sz e,.dE es' bq e'=>bq=sz∧e'=e∧ji es es'∧aE n es'=true
 | _,.dead=>True
 | _,_=>False
def Uq:GO→GO→GO→Prop
 | .loop _ _ fn sl n ps py bd d _,.loop b p _ _ _ _ _ _ _ dn,go=>go=.loop b p fn sl n ps py bd d dn
 | _,_,_=>False
theorem Fh {n:Nat} {o o':GO} (h:yV o o'=true):Up n o' o:=by
 cases o with
 | tok f sz e=>
  cases o' with
  | tok f' bq e'=>
   simp only [yV,Bool.and_eq_true] at h
   exact ⟨of_decide_eq_true h.1,Nat.eq_of_beq_eq_true h.2.1,Nat.eq_of_beq_eq_true h.2.2⟩
  | _=>cases h
 | defers a=>
  cases o' with
  | defers b=>cases a <;> cases b <;> first | rfl | cases h
  | _=>cases h
 | dead=>cases o' <;> trivial
 | _=>cases h
theorem Jt {k:By} {o o':GO} (h:MZ k o o'=true):Uq o o' (La k o):=by
 cases o with
 | loop b p fn sl n ps py bd d dn=>
  cases o' with
  | loop b' p' Ur PY n' Rn Ju P2 d' dn'=>
   obtain ⟨rfl,rfl,rfl⟩:=By.DS (show k.is b' p' dn'=true from h)
   rfl
  | _=>cases h
 | _=>cases h
theorem oU (a:AV):a.entries=ab a.dJ:=by cases a <;> rfl
theorem gz {n:Nat} {vs:List AV}:∀ {g:List GL} {B G:List GO} {l l':List AV},jA g G=some l→cu l l'→FW l l'→vj n g l'∧G7 n g=true→aE n l'=true→dx vs g B G=true →
  ∀ id go,nth (dj vs g B l') id=some go→∃ go',nth G id=some go'∧(Up n go' go∨∃ FU,nth B id=some FU∧Uq FU go' go)
 | [],B,G,l,l',_,_,_,_,_,_,id,go,h=>by simp [dj,nth] at h
 | x :: g,[],G,l,l',_,_,_,_,_,ht,_,_,_=>by cases x <;> cases G <;> cases ht
 | x :: g,_ :: _,[],l,l',_,_,_,_,_,ht,_,_,_=>by cases x <;> cases ht
 | .row m :: g,b :: B,o :: G,l,l',hg,hw,hx,rk,hu,ht,id,go,h=>by
   obtain ⟨EV,uO⟩:Lb b o=true∧dx vs g B G=true:=by
    rw [← Bool.and_eq_true]
    cases o <;> exact ht
   cases o with
   | row cs el=>
    have n7:Rm b=el:=by
     cases b <;> first | (cases EV; done) | exact Nat.eq_of_beq_eq_true EV
    change (match jA g G with
     | some r=>bif Nat.beq cs.length m then some (cs++r) else none
     | none=>none)=some l at hg
    split at hg
    ·rename_i r hr
     cases hm:Nat.beq cs.length m with
     | false=>rw [hm] at hg; cases hg
     | true=>
      rw [hm] at hg
      cases hg
      have hm:=Nat.eq_of_beq_eq_true hm
      obtain ⟨x,y,rfl,k1,k2,k3⟩:=hw.split
      rw [fh,Bool.and_eq_true] at hu
      have e1:(x++y).take m=x:=by rw [← hm,← k3,List.take_left]
      have e2:(x++y).drop m=y:=by rw [← hm,← k3,List.drop_left]
      simp only [dj,e1,e2] at h
      cases id with
      | zero=>simp only [nth] at h; cases h; exact ⟨.row cs el,rfl,.inl ⟨n7,k1,hu.1⟩⟩
      | succ id=>exact gz hr k2 (by obtain ⟨x',y',Wr,k1',IL,Yq⟩:=hx.split; have:=List.append_inj Wr (by rw [k3,Yq]); rw [this.2]; exact IL) (by rw [← e2]; exact rk) hu.2 uO id go h
    ·cases hg
   | _=>cases hg
 | .tok loc sz e :: g,b :: B,o :: G,l,l',hg,hw,hx,rk,hu,ht,id,go,h=>by
   cases o with
   | tok f bq e'=>
    change (bif Nat.beq sz bq&&Nat.beq e e' then jA g G else none)=some l at hg
    change (decide (f=G6 vs loc)&&dx vs g B G)=true at ht
    rw [Bool.and_eq_true] at ht
    cases hm:(Nat.beq sz bq&&Nat.beq e e') with
    | false=>rw [hm] at hg; cases hg
    | true=>
     rw [hm] at hg
     rw [Bool.and_eq_true] at hm
     have q1:=Nat.eq_of_beq_eq_true hm.1
     have q2:=Nat.eq_of_beq_eq_true hm.2
     simp only [dj] at h
     cases id with
     | zero=>
      simp only [nth] at h
      cases h
      exact ⟨.tok f bq e',rfl,.inl ⟨of_decide_eq_true ht.1,q1.symm,q2.symm⟩⟩
     | succ id=>exact gz hg hw hx rk hu ht.2 id go h
   | _=>cases hg
 | .dead :: g,b :: B,o :: G,l,l',hg,hw,hx,rk,hu,ht,id,go,h=>by
   simp only [dj] at h
   have zD:jA g G=some l:=by cases o <;> exact hg
   have uO:dx vs g B G=true:=by cases o <;> exact ht
   cases id with
   | zero=>
    simp only [nth] at h
    cases h
    exact ⟨o,rfl,.inl (by cases o <;> trivial)⟩
   | succ id=>exact gz zD hw hx rk hu uO id go h
 | .lp k :: g,b :: B,o :: G,l,l',hg,hw,hx,rk,hu,ht,id,go,h=>by
   simp only [dj] at h
   have zD:jA g G=some l:=by cases o <;> exact hg
   change (MZ k b o&&dx vs g B G)=true at ht
   rw [Bool.and_eq_true] at ht
   cases id with
   | zero=>
    simp only [nth] at h
    cases h
    exact ⟨o,rfl,.inr ⟨b,rfl,Jt ht.1⟩⟩
   | succ id=>exact gz zD hw hx rk hu ht.2 id go h
 | .aZ :: g,b :: B,o :: G,l,l',hg,hw,hx,rk,hu,ht,id,go,h=>by
   simp only [dj] at h
   have zD:jA g G=some l:=by cases o <;> exact hg
   change (yV b o&&dx vs g B G)=true at ht
   rw [Bool.and_eq_true] at ht
   cases id with
   | zero=>
    simp only [nth] at h
    cases h
    exact ⟨o,rfl,.inl (Fh ht.1)⟩
   | succ id=>exact gz zD hw hx rk hu ht.2 id go h
 | .map :: g,b :: B,o :: G,l,l',hg,hw,hx,rk,hu,ht,id,go,h=>by
   cases o with
   | map es=>
    change (match jA g G with
     | some r=>some (AV.list .iU 2 (af es) :: r)
     | none=>none)=some l at hg
    change (aM es&&dx vs g B G)=true at ht
    rw [Bool.and_eq_true] at ht
    split at hg
    ·rename_i r hr
     cases hg
     cases l' with
     | nil=>exact hw.elim
     | cons a l'=>
      simp only [aE,Bool.and_eq_true] at hu
      simp only [dj,dU,List.tail_cons] at h
      cases id with
      | zero=>
       simp only [nth] at h
       cases h
       refine ⟨.map es,rfl,.inl (.inl ⟨?_,ht.1⟩)⟩
       rw [oU,hx.2.1 ht.1]
       exact mL es
      | succ id=>exact gz hr hw.2 hx.2.2.2 rk hu.2 ht.2 id go h
    ·cases hg
   | _=>cases hg
 | .Bz :: g,b :: B,o :: G,l,l',hg,hw,hx,rk,hu,ht,id,go,h=>by
   have uO:dx vs g B G=true:=by cases o <;> exact ht
   cases o with
   | fZ s pos=>
    change (match jA g G with
     | some r=>some (AV.str s :: AV.int .i64 pos :: r)
     | none=>none)=some l at hg
    split at hg
    ·rename_i r hr
     cases hg
     match l',hw,hx,hu,h with
     | [],hw,_,_,_=>exact hw.elim
     | [_],hw,_,_,_=>exact hw.2.elim
     | a :: a' :: l',hw,hx,hu,h=>
      simp only [aE,Bool.and_eq_true] at hu
      simp only [dj,dU,List.tail_cons] at h
      have e1:=hx.1 (by simp [AV.exact])
      have e2:=hx.2.2.2.1 (by simp [AV.exact])
      subst e1 e2
      cases id with
      | zero=>
       simp only [nth] at h
       cases h
       exact ⟨.fZ s pos,rfl,.inl ⟨rfl,by simp [AV.ph]⟩⟩
      | succ id=>exact gz hr hw.2.2 hx.2.2.2.2.2.2 rk hu.2.2 uO id go h
    ·cases hg
   | _=>cases hg
 | .dE sz e :: g,b :: B,o :: G,l,l',hg,hw,hx,rk,hu,ht,id,go,h=>by
   have uO:dx vs g B G=true:=by cases o <;> exact ht
   cases o with
   | dE es bq e'=>
    change (match jA g G with
     | some r=>bif Nat.beq sz bq&&Nat.beq e e' then some (AV.list .iU bq es :: r) else none
     | none=>none)=some l at hg
    split at hg
    ·rename_i r hr
     cases hm:(Nat.beq sz bq&&Nat.beq e e') with
     | false=>rw [hm] at hg; cases hg
     | true=>
     rw [hm] at hg
     rw [Bool.and_eq_true] at hm
     have q1:=Nat.eq_of_beq_eq_true hm.1
     have q2:=Nat.eq_of_beq_eq_true hm.2
     cases hg
     cases l' with
     | nil=>exact hw.elim
     | cons a l'=>
      simp only [aE,Bool.and_eq_true] at hu
      simp only [dj,dU,List.tail_cons] at h
      cases id with
      | zero=>
       simp only [nth] at h
       cases h
       exact ⟨.dE es bq e',rfl,.inl ⟨q1,q2,hx.2.2.1,rk.1.1⟩⟩
      | succ id=>exact gz hr hw.2 hx.2.2.2 ⟨rk.1.2,rk.2⟩ hu.2 uO id go h
    ·cases hg
   | _=>cases hg
 | .aX sz e :: g,b :: B,o :: G,l,l',hg,hw,hx,rk,hu,ht,id,go,h=>by
   have uO:dx vs g B G=true:=by cases o <;> exact ht
   cases o with
   | aX fs bq e'=>
    change (match jA g G with
     | some r=>bif Nat.beq sz bq&&Nat.beq e e' then some (AV.list .iU 1 (aV fs) :: r) else none
     | none=>none)=some l at hg
    split at hg
    ·rename_i r hr
     cases hm:(Nat.beq sz bq&&Nat.beq e e') with
     | false=>rw [hm] at hg; cases hg
     | true=>
     rw [hm] at hg
     rw [Bool.and_eq_true] at hm
     have q1:=Nat.eq_of_beq_eq_true hm.1
     have q2:=Nat.eq_of_beq_eq_true hm.2
     cases hg
     cases l' with
     | nil=>exact hw.elim
     | cons a l'=>
      simp only [aE,Bool.and_eq_true] at hu
      simp only [dj,dU,List.tail_cons] at h
      cases id with
      | zero=>
       simp only [nth] at h
       cases h
       refine ⟨.aX fs bq e',rfl,.inl ⟨?_,q1.symm,q2.symm⟩⟩
       rw [hx.2.1 (vb fs)]
       exact (sA fs).symm
      | succ id=>exact gz hr hw.2 hx.2.2.2 rk hu.2 uO id go h
    ·cases hg
   | _=>cases hg
 | .qy :: g,b :: B,o :: G,l,l',hg,hw,hx,rk,hu,ht,id,go,h=>by
   have uO:dx vs g B G=true:=by cases o <;> exact ht
   cases o with
   | map es=>
    change (match jA g G with
     | some r=>some (AV.list .iU 2 (af es) :: r)
     | none=>none)=some l at hg
    split at hg
    ·rename_i r hr
     cases hg
     cases l' with
     | nil=>exact hw.elim
     | cons a l'=>
      simp only [aE,Bool.and_eq_true] at hu
      simp only [dj,dU,List.tail_cons] at h
      cases id with
      | zero=>
       simp only [nth] at h
       cases h
       exact ⟨.map es,rfl,.inl (.inr ⟨a.dJ,oU a,hx.2.2.1,rk.1.1⟩)⟩
      | succ id=>exact gz hr hw.2 hx.2.2.2 ⟨rk.1.2,rk.2⟩ hu.2 uO id go h
    ·cases hg
   | _=>cases hg
 | .gR pg :: g,b :: B,o :: G,l,l',hg,hw,hx,rk,hu,ht,id,go,h=>by
   obtain ⟨EV,uO⟩:Lc b o=true∧dx vs g B G=true:=by
    rw [← Bool.and_eq_true]
    cases o <;> exact ht
   cases o with
   | gR mid' k left cur t=>
    have n7:Rl b=t:=by
     cases b <;> first | (cases EV; done) | exact Nat.eq_of_beq_eq_true EV
    change (match jA g G with
     | some r=>bif Nat.beq pg mid' then some (AV.int .i64 k :: AV.list .iU 1 (aV left) :: r) else none
     | none=>none)=some l at hg
    split at hg
    ·rename_i r hr
     cases hm:Nat.beq pg mid' with
     | false=>rw [hm] at hg; cases hg
     | true=>
     rw [hm] at hg
     have q1:=Nat.eq_of_beq_eq_true hm
     subst q1
     cases hg
     have Us:=rk.2
     simp only [G7,Bool.and_eq_true] at Us
     match l',hw,hx,hu,h with
     | [],hw,_,_,_=>exact hw.elim
     | [_],hw,_,_,_=>exact hw.2.elim
     | a :: a' :: l',hw,hx,hu,h=>
      simp only [aE,Bool.and_eq_true] at hu
      simp only [dj,dU,List.tail_cons] at h
      have e1:=hx.1 (by simp [AV.exact])
      have e2:=hx.2.2.2.2.1 (vb left)
      subst e1
      cases id with
      | zero=>
       simp only [nth] at h
       cases h
       refine ⟨.gR pg k left cur t,rfl,.inl ⟨rfl,by simp [AV.ph],?_,n7.symm,jh Us.1,rfl⟩⟩
       rw [e2]
       exact (sA left).symm
      | succ id=>exact gz hr hw.2.2 hx.2.2.2.2.2.2 ⟨rk.1,Us.2⟩ hu.2.2 uO id go h
    ·cases hg
   | _=>cases hg
theorem cO {vs:List AV}:∀ {g:List GL} {B:List GO} {l:List AV},(dj vs g B l).length=g.length
 | [],_,_=>rfl
 | .row m :: g,B,l=>by simp [dj,cO (g:=g)]
 | .tok _ _ _ :: g,B,l=>by simp [dj,cO (g:=g)]
 | .dead :: g,B,l=>by simp [dj,cO (g:=g)]
 | .lp _ :: g,B,l=>by simp [dj,cO (g:=g)]
 | .aZ :: g,B,l=>by simp [dj,cO (g:=g)]
 | .map :: g,B,l=>by simp [dj,cO (g:=g)]
 | .dE _ _ :: g,B,l=>by simp [dj,cO (g:=g)]
 | .Bz :: g,B,l=>by simp [dj,cO (g:=g)]
 | .aX _ _ :: g,B,l=>by simp [dj,cO (g:=g)]
 | .qy :: g,B,l=>by simp [dj,cO (g:=g)]
 | .gR _ :: g,B,l=>by simp [dj,cO (g:=g)]
theorem gd.Yr {R0:ak} {w0:World} {Le:RO} {FU go' go:GO} {ro:RO} (e:Ext R0 w0 R w) (h0:gd R0 w0 FU Le) (hle:cp Le ro) (h:gd R' w go' ro) (k:Uq FU go' go):gd R w go ro:=by
 cases FU with
 | loop b p fn sl n ps py bd d dn=>
  cases go' with
  | loop b' p' Ur PY n' Rn Ju P2 d' dn'=>
   change go=_ at k
   subst k
   cases Le with
   | bB bb=>
    simp only [cp] at hle
    subst hle
    obtain ⟨⟨r0,Ut,l1,l2,l3,l4,l5,l6,l7,l8,l9,WB⟩,l11⟩:=h0
    obtain ⟨⟨r,db,m1,m2,m3,m4,m5,m6,m7,m8,m9,m10⟩,m11⟩:=h
    obtain ⟨r1,q1,q2,q3,q4,q5,q6⟩:=e.lp bb r0 l1
    have hr:r1=r:=by
     have:=q1.symm.trans m1
     injection this with this
     injection this with this
    subst hr
    exact ⟨⟨r1,Ut,q1,m2,m3,by rw [q2]; exact mW.mono e l4,by rw [q2]; exact l5,by rw [q3]; exact l6,by rw [q4]; exact l7,by rw [q5]; exact l8,by rw [q6]; exact l9,e.bB WB⟩,l11⟩
   | none=>exact h0.elim
   | bn=>exact h0.elim
   | tok _ _ _=>exact h0.elim
   | aX _=>exact h0.elim
  | _=>exact k.elim
 | _=>exact k.elim
theorem di.cut {n:Nat}:∀ {es:List (AV × AV)} {aw:List MapEntry},fQ (af es)=true→di R w es aw→di (R.cut n) w es aw
 | [],[],_,_=>trivial
 | [],_ :: _,_,h=>h.elim
 | _ :: _,[],_,h=>h.elim
 | (k,v) :: es,en :: aw,he,h=>by
  simp only [af,fQ,AV.exact,Bool.and_true,Bool.and_eq_true] at he
  exact ⟨h.1.move (nL R n) (gY n (mA he.1.1)),h.2.1.move (nL R n) (gY n (mA he.1.2)),di.cut he.2 h.2.2⟩
theorem AQ {n:Nat} {v:AV} (h:v.under n=true) (k:v.aP=true):aE n v.cells=true:=by
 cases v <;> first | exact h | (simp [AV.aP] at k; done) | (simp only [AV.cells,aE,Bool.and_true]; exact h)
theorem vl {n sz:Nat}:∀ {es es':List AV},ji es es'→dC sz es→aE n es'=true→dC sz es'∧cu (au es) (au es')∧aE n (au es')=true
 | [],[],_,_,_=>⟨(fun e he=>by simp at he),trivial,rfl⟩
 | e :: es,e' :: es',h,k,pY=>by
  obtain ⟨h1,h2⟩:=h
  simp only [aE,Bool.and_eq_true] at pY
  obtain ⟨q1,q2⟩:=k e (by simp)
  obtain ⟨i1,i2,i3⟩:=vl h2 (fun x hx=>k x (by simp [hx])) pY.2
  have hc:=h1.cells q2
  have ht:e'.aP=true:=by rw [h1.bh,q2]
  refine ⟨fun x hx=>?_,hc.append i2,by show aE n (e'.cells++au es')=true; rw [fh,AQ pY.1 ht,i3]; rfl⟩
  rcases List.mem_cons.1 hx with rfl | hx
  ·exact ⟨by rw [← hc.length,q1],ht⟩
  ·exact i1 x hx
 | [],_ :: _,h,_,_=>h.elim
 | _ :: _,[],h,_,_=>h.elim
theorem mO.head {l r:List AV} (h:mO l r):(AV.dJ (dU l)).length=(AV.dJ (dU r)).length:=by
 cases l <;> cases r <;> first | rfl | exact h.1 | exact h.elim
theorem mO.tail {l r:List AV} (h:mO l r):mO l.tail r.tail:=by
 cases l <;> cases r <;> first | exact h | exact h.2 | exact h.elim
theorem cP:∀ (g:List GL) {l r:List AV} (i:Nat),mO l r→kd g l i=kd g r i
 | [],_,_,_,_=>rfl
 | .dE _ _ :: g,l,r,0,h=>h.head
 | .dE _ _ :: g,l,r,i+1,h=>cP g i h.tail
 | .row _ :: g,l,r,0,h=>rfl
 | .row n :: g,l,r,i+1,h=>cP g i (h.drop n)
 | .map :: g,l,r,0,h=>rfl
 | .map :: g,l,r,i+1,h=>cP g i h.tail
 | .Bz :: g,l,r,0,h=>rfl
 | .Bz :: g,l,r,i+1,h=>cP g i h.tail.tail
 | .aX _ _ :: g,l,r,0,h=>rfl
 | .aX _ _ :: g,l,r,i+1,h=>cP g i h.tail
 | .qy :: g,l,r,0,h=>rfl
 | .qy :: g,l,r,i+1,h=>cP g i h.tail
 | .gR _ :: g,l,r,0,h=>rfl
 | .gR _ :: g,l,r,i+1,h=>cP g i h.tail.tail
 | .tok _ _ _ :: g,l,r,0,h=>rfl
 | .tok _ _ _ :: g,l,r,i+1,h=>cP g i h
 | .dead :: g,l,r,0,h=>rfl
 | .dead :: g,l,r,i+1,h=>cP g i h
 | .lp _ :: g,l,r,0,h=>rfl
 | .lp _ :: g,l,r,i+1,h=>cP g i h
 | .aZ :: g,l,r,0,h=>rfl
 | .aZ :: g,l,r,i+1,h=>cP g i h
theorem di.Ro {n:Nat}:∀ {es:List (AV × AV)} {l:List AV} {aw:List MapEntry},ji (af es) l→aE n l=true→di R w es aw→di (R.cut n) w (ab l) aw
 | [],[],[],_,_,_=>trivial
 | [],[],_ :: _,_,_,h=>h.elim
 | [],_ :: _,_,h,_,_=>h.elim
 | (_,_) :: _,[],_,h,_,_=>h.elim
 | (_,_) :: _,_ :: _,[],_,_,h=>h.elim
 | (k,v) :: es,a :: l,en :: aw,hd,hu,h=>by
  obtain ⟨d1,d2⟩:=hd
  simp only [aE,Bool.and_eq_true] at hu
  have hc:=d1.cells rfl
  have hl:[k,v].length=a.cells.length:=hc.length
  cases a with
  | agg cs=>
   match cs,hc,hl with
   | [k',v'],hc,_=>
    have M0:aE n [k',v']=true:=hu.1
    simp only [aE,Bool.and_true,Bool.and_eq_true] at M0
    exact ⟨(hc.1 _ _ _ h.1).move (nL R n) M0.1,(hc.2.1 _ _ _ h.2.1).move (nL R n) M0.2,di.Ro d2 hu.2 h.2.2⟩
   | [],_,hl=>simp [AV.cells] at hl
   | [_],_,hl=>simp [AV.cells] at hl
   | _ :: _ :: _ :: _,_,hl=>simp [AV.cells] at hl
  | _=>simp [AV.cells] at hl
theorem gd.Ys {n:Nat} {go go':GO} {ro:RO} (h:gd R w go' ro) (k:Up n go' go):gd (R.cut n) w go ro:=by
 cases go with
 | dead=>
  cases ro with
  | none=>trivial
  | bn=>trivial
  | bB b=>exact h.lt rfl
  | tok f b c=>exact h.lt rfl
  | aX ts=>exact fun j f b c hj=>h.lt ⟨j,f,c,hj⟩
 | row cs el=>
  cases go' with
  | row eQ SU=>
   cases ro with
   | bB b=>
    obtain ⟨vs,h1,h2,h3,h4⟩:=h
    obtain ⟨rfl,k⟩:=k
    exact ⟨vs,h1,(k.1.rel h2).move (nL R n) k.2,h3,h4⟩
   | none=>exact h.elim
   | bn=>exact h.elim
   | tok _ _ _=>exact h.elim
   | aX _=>exact h.elim
  | _=>exact k.elim
 | tok f sz e=>
  cases go' with
  | tok f' bq e'=>
   obtain ⟨rfl,rfl,rfl⟩:=k
   cases ro with
   | bB b=>exact h.elim
   | none=>exact h.elim
   | bn=>exact h
   | tok _ _ _=>exact h
   | aX _=>exact h.elim
  | _=>exact k.elim
 | defers a=>
  cases go' with
  | defers b=>
   change b=a at k
   subst k
   cases ro <;> exact h
  | _=>exact k.elim
 | map es=>
  cases go' with
  | map es'=>
   cases ro with
   | bB b=>
    obtain ⟨aw,clock,h1,h2,h3⟩:=h
    rcases k with ⟨rfl,k2⟩ | ⟨l,rfl,k2,k3⟩
    ·exact ⟨aw,clock,h1,di.cut k2 h2,h3⟩
    ·exact ⟨aw,clock,h1,di.Ro k2 k3 h2,h3⟩
   | none=>exact h.elim
   | bn=>exact h.elim
   | tok _ _ _=>exact h.elim
   | aX _=>exact h.elim
  | _=>exact k.elim
 | aX fs sz e=>
  cases go' with
  | aX ym bq e'=>
   obtain ⟨rfl,rfl,rfl⟩:=k
   cases ro <;> exact h
  | _=>exact k.elim
 | gR pg m left cur t=>
  cases go' with
  | gR mid' m' xy zV t'=>
   obtain ⟨rfl,rfl,rfl,rfl,k,rfl⟩:=k
   cases ro with
   | bB b=>obtain ⟨bm,seen,c0,h1,h2,h3,h4,h5,h6,_⟩:=h; exact ⟨bm,seen,c0,jB.2 ⟨k,h1⟩,h2,h3,h4,h5,h6,fun i hi=>by cases hi⟩
   | none=>exact h.elim
   | bn=>exact h.elim
   | tok _ _ _=>exact h.elim
   | aX _=>exact h.elim
  | _=>exact k.elim
 | fZ l p=>
  cases go' with
  | fZ l' p'=>
   obtain ⟨rfl,rfl⟩:=k
   cases ro <;> exact h
  | _=>exact k.elim
 | dE es sz e=>
  cases go' with
  | dE es' bq e'=>
   obtain ⟨rfl,rfl,k,kc⟩:=k
   cases ro with
   | bB b=>exact h.elim
   | none=>exact h.elim
   | aX _=>exact h.elim
   | bn=>
    have he:es'=[]:=h
    subst he
    exact List.eq_nil_of_length_eq_zero k.length.symm
   | tok f b c=>
    obtain ⟨h0,h1,cur,vs,h2,h3,h4,h5,h6,h7,h8,h9⟩:=h
    obtain ⟨k1,k2,k3⟩:=vl k h1 kc
    exact ⟨h0.trans k.length,k1,cur,vs,h2,h3,h4,h5,h6,(k2.rel h7).move (nL R n) k3,h8,h9⟩
  | _=>exact k.elim
 | _=>cases go' <;> exact k.elim
theorem oF.ids:∀ {l:List Nat} {ds:List Deferred},oF R l ds→∀ id∈l,id < R.obj.length
 | [],[],_,id,hi=>by simp at hi
 | x :: l,d :: ds,h,id,hi=>by
  obtain ⟨⟨b,h1,_⟩,h2⟩:=h
  rcases List.mem_cons.1 hi with rfl | hi
  ·exact bz h1
  ·exact oF.ids h2 id hi
 | [],_ :: _,h,_,_=>h.elim
 | _ :: _,[],h,_,_=>h.elim
theorem oF.cut {n:Nat}:∀ {l:List Nat} {ds:List Deferred},oF R l ds→(∀ id∈l,id < n)→oF (R.cut n) l ds
 | [],[],_,_=>trivial
 | x :: l,d :: ds,h,hi=>by
  obtain ⟨⟨b,h1,h3⟩,h2⟩:=h
  exact ⟨⟨b,jB.2 ⟨hi x (by simp),h1⟩,h3⟩,oF.cut h2 fun id hm=>hi id (by simp [hm])⟩
 | [],_ :: _,h,_=>h.elim
 | _ :: _,[],h,_=>h.elim
theorem sD {n:Nat} {tmps:Array Value} {ae base:aW} (hT:mW R w β ae tmps):∀ {l:List (Tmp × Nat × Nat)},DU ae l=true→mW (R.cut n) w β base tmps→mW (R.cut n) w β (nK l base) tmps
 | [],_,h=>h
 | (t,k,o) :: l,hl,h=>fun i hi=>by
  simp only [DU,Bool.and_eq_true] at hl
  simp only [nK] at hi ⊢
  by_cases e:t=i
  ·subst e
   rw [ay]
   have h1:=hl.1
   split at h1
   ·rename_i k' o' hk
    rw [Bool.and_eq_true] at h1
    have e1:=Nat.eq_of_beq_eq_true h1.1
    have e2:=Nat.eq_of_beq_eq_true h1.2
    subst e1 e2
    obtain ⟨c,q1,q2⟩:=hT t (by rw [hk]; simp)
    rw [hk] at q2
    exact ⟨c,q1,q2⟩
   ·cases h1
  ·rw [aL e] at hi ⊢
   exact sD hT hl.2 h i hi
theorem b9.yM {t:b9} {v:t.ps.T} (hs:aO s s') (h0:aY E R w β s a) (h:aY E R' w' β' s' a') (st:Step R w β s.boxes R' w' β' s'.boxes) (hd:t.dec s s'=some v) :
  aY E (R'.cut s.G.length) w' β' (t.st s v) a'∧Step R w β s.boxes (R'.cut s.G.length) w' β' (t.st s v).boxes:=by
 have hlen:=h0.g.len
 unfold b9.dec at hd
 cases eY:t.ok s s' with
 | false=>rw [eY] at hd; cases hd
 | true=>
 rw [eY] at hd
 simp only [cond_true] at hd
 unfold b9.ok at eY
 simp only [Bool.and_eq_true] at eY
 obtain ⟨⟨⟨⟨⟨k1,k2⟩,k3⟩,k4⟩,k5,k7,k8⟩,k6⟩:=eY
 obtain ⟨pre,AA⟩:=hs.sl
 obtain ⟨preB,Lf⟩:=hs.bx
 rw [AA,AM] at k1
 rw [Lf,AM] at k2
 have k3:=DV k3
 have k4:=Nat.eq_of_beq_eq_true k4
 split at hd
 ·rename_i la lb lc g1 g2 g3
  cases hv:t.ps.Ff (kd t.g lc) (la++(lb++lc)) with
  | none=>rw [hv] at hd; cases hd
  | some v'=>
  rw [hv] at hd
  simp only [Option.bind_some] at hd
  cases Bu:dx (t.oG v') t.g s.G s'.G with
  | false=>rw [Bu] at hd; cases hd
  | true=>
  rw [Bu] at hd
  cases hd
  have Uu:∀ {ts:List Tmp} {l:List AV},vc s'.ae ts=some l→l.length=ts.length:=by
   intro ts
   induction ts with
   | nil=>intro l hl; simp only [vc] at hl; cases hl; rfl
   | cons t ts ih=>
    intro l hl
    unfold vc at hl
    split at hl
    ·split at hl
     ·rename_i hr
      cases hl
      simp [ih hr]
     ·cases hl
    ·cases hl
  have Uv:∀ {bx:List (Nat × Nat)} {l:List AV},vd s'.boxes bx=some l→l.length=yW bx:=by
   intro bx
   induction bx with
   | nil=>intro l hl; simp only [vd] at hl; cases hl; rfl
   | cons x bx ih=>
    obtain ⟨k,m⟩:=x
    intro l hl
    unfold vd at hl
    split at hl
    ·split at hl
     ·rename_i cs _ _ r hr
      cases hm:Nat.beq cs.length m with
      | false=>rw [hm] at hl; cases hl
      | true=>
       rw [hm] at hl
       cases hl
       simp only [yW,List.length_append,ih hr,Nat.eq_of_beq_eq_true hm]
     ·cases hl
    ·cases hl
  obtain ⟨hw,hex⟩:=t.ps.Jr _ hv
  have Lg:t.oG v=t.ps.kb (kd t.g lc) v:=by
   unfold b9.oG
   congr 1
   funext i
   have hl:=hex.Rk.trans (t.ps.nI (kd t.g lc) (fun _=>0) v)
   have Jl:=(hl.drop t.sl.length).drop (yW t.bx)
   rw [← Uu g1,List.drop_left,← Uv g2,List.drop_left,Uu g1,Uv g2] at Jl
   exact (cP t.g i Jl).symm
  have hu:aE s.G.length (t.oG v)=true:=by
   rw [Lg,t.ps.Fg _ hv]
   exact t.ps.CF _ k5 _
  rw [← Lg] at hw hex
  have Uw:∃ xa xb xc,t.oG v=xa++(xb++xc)∧cu la xa∧cu lb xb∧cu lc xc∧xa.length=la.length∧xb.length=lb.length∧FW lc xc:=by
   obtain ⟨xa,r,h1,h2,h3,h4⟩:=hw.split
   obtain ⟨xb,xc,rfl,h6,h7,h8⟩:=h3.split
   rw [h1] at hex
   obtain ⟨ya,yr,g1,_,g3,g4⟩:=hex.split
   obtain ⟨_,rfl⟩:=List.append_inj g1 (by rw [h4,g4])
   obtain ⟨yb,yc,k1,_,k3,k4⟩:=g3.split
   obtain ⟨_,rfl⟩:=List.append_inj k1 (by rw [h8,k4])
   exact ⟨xa,xb,xc,h1,h2,h6,h7,h4,h8,k3⟩
  obtain ⟨xa,xb,xc,hx,wa,wb,wc,WC,Yt,Yu⟩:=Uw
  have Ux:aE s.G.length xa=true∧aE s.G.length xb=true∧aE s.G.length xc=true:=by
   rw [hx,fh,fh] at hu
   simp only [Bool.and_eq_true] at hu
   exact ⟨hu.1,hu.2.1,hu.2.2⟩
  have e1:(t.oG v).drop t.sl.length=xb++xc:=by rw [hx,← Uu g1,← WC,List.drop_left]
  have e2:(xb++xc).drop (yW t.bx)=xc:=by rw [← Uv g2,← Yt,List.drop_left]
  have rk:vj s.G.length t.g xc:=by
   have hf:=((aH.AP s.G.length _ t.ps v).drop t.sl.length).drop (yW t.bx) (l:=(t.oG v).drop t.sl.length)
   rw [e1,e2] at hf
   exact fy t.g k7 hf
  have old:∀ {l:List AV} {cs:List Value},aI R w l cs→aE s.G.length l=true:=fun hr=>hr.under (by omega)
  have mv:=nL R' s.G.length
  have SW:∀ k cs,dy s'.boxes k=some cs→vi R' w' β' k cs:=fun k cs hk=>h.b.box k cs hk
  have Ta:∀ k cs,dy (sB t.bx (xb++xc) s.boxes) k=some cs→vi (R'.cut s.G.length) w' β' k cs∧∃ eQ,dy s'.boxes k=some eQ:=fun k cs hk=>by
   refine AO (K:=fun _=>False) SW g2 wb Ux.2.1 (fun k cs _ h1 h2=>?_) k cs (fun h=>h) hk
   refine ⟨by rw [Lf]; exact AL h1 h2 k2,?_⟩
   obtain ⟨⟨vs,el,_,h4,_⟩,_⟩:=h0.b.box k cs h2
   exact old h4
  have WD:(t.st s v).G=dj (t.oG v) t.g s.G xc:=by simp only [b9.st,e1,e2]
  have WE:(t.st s v).boxes=sB t.bx (xb++xc) s.boxes:=by simp only [b9.st,e1]
  have Yv:(t.st s v).ae=nK t.P0 (nJ t.sl (xa++(xb++xc)) (vf t.W s.ae)):=by simp only [b9.st,hx]
  have ext:Ext R w (R'.cut s.G.length) w':=⟨st.ext.I,st.ext.cell,fun id ro hi=>by
   obtain ⟨lh,h1,h2⟩:=st.ext.obj id ro hi
   exact ⟨lh,jB.2 ⟨by have:=bz hi; omega,h1⟩,h2⟩,st.ext.lp⟩
  refine ⟨⟨⟨?_,fun id go ro h1 h2=>?_,fun i j ri rj b h1 h2=>h.g.inj i j ri rj b (jB.1 h1).2 (jB.1 h2).2,h.g.wf,fun g cs hg=>(h.g.dK g cs hg).move mv (cF _ (E.yi g cs hg)),h.g.lo⟩,?_,?_,?_,?_⟩,?_⟩
  ·rw [WD,cO,k4]
   have:=h.g.len
   have h3:s.G.length≤R'.obj.length:=by
    rcases Nat.lt_or_ge R'.obj.length s.G.length with bT | zB
    ·exfalso
     have hx:R'.obj.length < R.obj.length:=by omega
     obtain ⟨lh,h1,_⟩:=st.ext.obj R'.obj.length R.obj[R'.obj.length] (by rw [aU]; exact List.getElem?_eq_getElem hx)
     have:=bz h1
     omega
    ·exact zB
   simp [ak.cut]
   omega
  ·rw [WD] at h1
   obtain ⟨go',h3,h4⟩:=gz g3 wc Yu ⟨rk,k8⟩ Ux.2.2 Bu id go h1
   rcases h4 with h4 | ⟨FU,h5,h4⟩
   ·exact (h.g.obj id go' ro h3 (jB.1 h2).2).Ys h4
   ·have bT:=bz h5
    rw [← hlen] at bT
    obtain ⟨Le,h6⟩:∃ Le,nth R.obj id=some Le:=⟨R.obj[id],by rw [aU]; exact List.getElem?_eq_getElem bT⟩
    obtain ⟨lh,h7,h8⟩:=ext.obj id Le h6
    have:lh=ro:=Option.some.inj (h7.symm.trans h2)
    subst this
    exact gd.Yr ext (h0.g.obj id FU Le h5 h6) h8 (h.g.obj id go' lh h3 (jB.1 h2).2) h4
  ·rw [WE]
   refine ⟨fun k cs hk=>(Ta k cs hk).1,fun k k' cs eQ hk ja he=>?_⟩
   obtain ⟨_,c1,Rp⟩:=Ta k cs hk
   obtain ⟨_,c2,E4⟩:=Ta k' eQ ja
   exact h.b.inj k k' c1 c2 Rp E4 he
  ·rw [Yv]
   have hT:vg (R'.cut s.G.length) w' β' (fun _=>False) (nJ t.sl (xa++(xb++xc)) (vf t.W s.ae)) a'.tmps:=by
    refine sC mv h.t g1 (l':=xa) (r:=lb++lc) (r':=xb++xc) (wa.append (wb.append wc)) WC.symm Ux.1 (vh fun i hi hn=>?_)
    have Yw:P1 t.sl t.W i=false:=by
     simp only [P1,Bool.or_eq_false_iff]
     refine ⟨?_,?_⟩
     ·cases hc:IP t.sl i with
      | false=>rfl
      | true=>exact absurd (.inr (.inl (yX.1 hc))) hi
     ·cases hc:IP t.W i with
      | false=>rfl
      | true=>exact absurd (.inl (yX.1 hc)) hi
    have hk:=yZ Yw k1
    rw [← AA] at hk
    obtain ⟨c,h1,h2⟩:=h.t i (by rw [hk]; exact hn)
    rw [hk] at h2
    refine ⟨c,h1,?_⟩
    obtain ⟨c0,_,h4⟩:=h0.t i hn
    revert h2 h4
    cases lk s.ae i with
    | none=>exact fun _ _=>trivial
    | lp k off=>exact fun h2 _=>h2
    | v x=>exact fun h2 h4=>Rel.move mv (Rel.under (by omega) h4) h2
   exact sD h.t k6 (fun i hi=>hT i (fun h=>h) hi)
  ·show a'.tmps.size=s.n
   rw [h.n,hs.n]
  ·show oF _ s.marks a'.defers
   have:=h.d
   rw [k3] at this
   exact this.cut fun id bM=>by have:=h0.d.ids id bM; omega
  ·refine ⟨ext,st.os,st.tape,st.output,st.size,st.aZ,fun b hb ho=>st.own b hb ?_,st.im⟩
   rcases ho with ho | ⟨k,cs,hk,rfl⟩
   ·exact .inl (AN ho)
   ·rw [WE] at hk
    obtain ⟨_,c1,Rp⟩:=Ta k cs hk
    exact .inr ⟨k,c1,Rp,rfl⟩
 ·cases hd
end yM
end Go.Am
namespace Go.Am
open Go
def eW:aW→aW
 | []=>[]
 | .put d (.lp _ _) :: l=>.put d .none :: eW l
 | .put d x :: l=>.put d x :: eW l
 | .kill _ :: l=>eW l
def SV.wU:SV→SV
 | .lp _ _=>.none
 | x=>x
theorem oq (t:Nat):∀ l:aW,lk (eW l) t=(lk l t).wU
 | []=>rfl
 | .put d x :: l=>by
  cases x <;> simp only [eW] <;> by_cases e:d=t <;> first | (subst e; rw [ay,ay]; rfl) | (rw [aL e,aL e]; exact oq t l)
 | .kill d :: l=>by
  simp only [eW,lk]
  rw [oq t l]
  cases lk l t with
  | lp k off=>
   by_cases e:k=d
   ·subst e; simp [SV.wU]
   ·simp [ma e,SV.wU]
  | _=>rfl
theorem jC:∀ l:aW,Dp (eW l)=true
 | []=>rfl
 | .put d x :: l=>by
  cases x <;> simp only [eW,Dp] <;> exact jC l
 | .kill d :: l=>by simp only [eW]; exact jC l
def Uy (E:Env) (Q:Exit→St→Prop) (s:St) (G':List GO):Prop:=
 match nth G' (s.G.length+1) with
 | some (.loop busy pending _ _ _ _ _ _ _ done)=>(busy=false∨done=true) ∧
  match pending with
  | none=>Q .normal ⟨s.ae,s.boxes,az G' (s.G.length+1) .dead,s.G.length :: s.marks,s.ro,s.n⟩
  | some c=>eV E c Q ⟨s.ae,s.boxes,az G' (s.G.length+1) .dead,s.G.length :: s.marks,s.ro,s.n⟩
 | _=>False
theorem vm {busy done:Bool} (h:busy=false∨done=true):(if done=true then LoopState.done else if busy=true then LoopState.busy else LoopState.ready)≠LoopState.busy:=by
 rcases h with rfl | rfl
 ·cases done <;> simp
 ·simp
theorem eV.rangeFunc {E:Env} {Q:Exit→St→Prop} {s:St} (fp:Nat) {g:Operand} {ps:Array Tmp} {assign body:Code} (bI:s.ro=none) {f:FuncId} {first cap:List AV} (hg:bi E s.ae g=.v (.fn f first cap))
  (h:cH E f (first++[.yield (s.G.length+1)]++cap) (s.G++[.defers true]++[.loop false none fp (eW s.ae) s.n ps.toList assign body s.G.length false]) (fun _ G'=>Uy E Q s G')) :
  eV E (.rangeFunc g ps assign body) Q s:=fun R w β a F hr hf=>by
 rw [bI] at hf
 have Q4:F=Fence.wide:=hf
 subst Q4
 refine wpIn_rangeFunc fun fn _=>?_
 have rg:=aN hr g
 rw [hg] at rg
 have Rq:Rel R w (.fn f first cap) (a.eval g):=rg
 -- the block for the deferred calls
 have Q8:gd (R.add (.bB w.heap.size)) (w.alloc (.deferred (some []))) (.defers true) (.bB w.heap.size):=heap_alloc_new w _
 have h1:=hr.jU (.deferred (some [])) (.defers true) (.bB w.heap.size) (by exact fun _ h=>h) Q8
 have s1:=cB hr (.deferred (some [])) (.bB w.heap.size) (by exact fun _ h=>h)
 have eC:(w.alloc (.deferred (some []))).heap.size=w.heap.size+1:=by simp
 generalize T1:w.alloc (.deferred (some []))=w1 at *
 generalize Yx:R.add (.bB w.heap.size)=R1 at *
 -- the loop's record
 let jj:Loop:={ state:=.ready,pending:=none,fn:=fn,tmps:=a.tmps,params:=ps,assign:=assign,body:=body,defers:=w.heap.size }
 have Gp:nth R1.obj s.G.length=some (.bB w.heap.size):=by rw [← Yx]; exact ft hr _
 have e2:Ext R1 w1 (R1.add (.bB w1.heap.size)) (w1.alloc (.loop jj)):=fW h1.g.wf _ _
 have MH:gd (R1.add (.bB w1.heap.size)) (w1.alloc (.loop jj)) (.loop false none fp (eW s.ae) s.n ps.toList assign body s.G.length false) (.bB w1.heap.size):=by
  refine ⟨⟨jj,w.heap.size,heap_alloc_new w1 _,rfl,rfl,fun i hi=>?_,hr.n,by simp [jj],rfl,rfl,rfl,e2.bB Gp⟩,jC _⟩
  rw [oq] at hi ⊢
  have cM:lk s.ae i≠.none:=fun e=>hi (by rw [e]; rfl)
  obtain ⟨c,k1,k2⟩:=hr.t i cM
  refine ⟨c,k1,?_⟩
  cases hx:lk s.ae i with
  | none=>exact absurd hx cM
  | lp k off=>rw [hx] at hi; exact absurd rfl hi
  | v x=>
   rw [hx] at k2
   exact Rel.mono (s1.ext.trans e2) (show Rel R w x c from k2)
 have h2:=h1.jU (.loop jj) (.loop false none fp (eW s.ae) s.n ps.toList assign body s.G.length false) (.bB w1.heap.size) (by exact fun _ h=>h) MH
 have s2:=cB h1 (.loop jj) (.bB w1.heap.size) (by exact fun _ h=>h)
 have G8:nth (R1.add (.bB w1.heap.size)).obj (s.G.length+1)=some (.bB w1.heap.size):=by
  have:=ft h1 (.bB w1.heap.size)
  simpa [St.dH] using this
 have st:=s1.trans s2
 generalize WG:R1.add (.bB w1.heap.size)=R2 at *
 generalize ML:a.eval g=fv at Rq
 cases Rq with
 | @fn _ _ _ vs us q1 q2=>
 refine ⟨w.heap.size+1,[{ target:=.collected w.heap.size,args:=#[] }],w1.alloc (.loop jj),{ target:=.fn (.func f) ⟨us⟩,args:=⟨vs⟩++#[.func (.yield (w.heap.size+1)) #[] #[]] },w1.alloc (.loop jj),f,
  ⟨vs++[.func (.yield (w.heap.size+1)) #[] #[]]++us⟩,w1.alloc (.loop jj),?_,?_,?_,?_,?_,?_⟩
 ·have:Fence.wide.round=none:=rfl
  rw [this,run_enterLoop_outer,T1]
 ·simp only [resolve,ML,Deferred.ofValue,Sem.run_pure]
  simp [Act.eval]
 ·intro f' _
  exact trivial
 ·have:=mo (P:=E.P) h.1 (⟨vs++[.func (.yield (w.heap.size+1)) #[] #[]]++us⟩) (w1.alloc (.loop jj))
  simpa [invoke] using this
 ·intro hc; cases hc
 ·have hG:(s.dH (.defers true)).dH (.loop false none fp (eW s.ae) s.n ps.toList assign body s.G.length false)=s.bO (s.G++[.defers true]++[.loop false none fp (eW s.ae) s.n ps.toList assign body s.G.length false]):=rfl
  have Uz:Rel R2 (w1.alloc (.loop jj)) (.yield (s.G.length+1)) (.func (.yield (w.heap.size+1)) #[] #[]):=by
   rw [← eC]
   exact .yield G8
  refine (h.2 R2 (w1.alloc (.loop jj)) _ h2.g ((((q1.mono st.ext).append (.one Uz)).append (q2.mono st.ext)))).mono ?_
  intro e w3 he
  cases e with
  | panicked c=>exact he.elim
  | outgrown=>exact he.elim
  | returned c=>
   obtain ⟨r,G',R3,hQ,dF,UA,M1⟩:=he
   obtain ⟨p1,p2⟩:=h2.oa UA M1
   unfold Uy at hQ
   split at hQ
   ·rename_i busy pending ff sl nn pp py bd dd done CG
    obtain ⟨UB,hQ⟩:=hQ
    have G9:nth R3.obj (s.G.length+1)=some (.bB w1.heap.size):=M1.ext.bB G8
    obtain ⟨⟨r3,db,l1,l2,l3,_,_,_,_,_,_,_⟩,_⟩:=p1.g.obj _ _ _ CG G9
    have CH:r3.state≠.busy:=by rw [l2]; exact vm UB
    have Yy:w3.heap[w.heap.size+1]?=some (.loop r3):=by rw [← eC]; exact l1
    refine ⟨r3.pending,_,run_endLoop Yy CH,?_⟩
    rw [l3]
    -- the record is dead
    have Rr:nth R3.obj s.G.length=some (.bB w.heap.size):=M1.ext.bB (by rw [← WG] at e2 ⊢; exact e2.bB Gp)
    have key:∀ x:Obj,mi x→(∀ r,Obj.loop r3=.loop r→∃ r',x=.loop r'∧mU r r')→aY E R3 (World.put w3 w1.heap.size x) β ⟨s.ae,s.boxes,az G' (s.G.length+1) .dead,s.G.length :: s.marks,s.ro,s.n⟩ { a with defers:=[{ target:=.collected w.heap.size,args:=#[] }]++a.defers }∧Step R w β s.boxes R3 (World.put w3 w1.heap.size x) β s.boxes:=fun x hx UC=>by
     obtain ⟨z1,z2⟩:=p1.setObj (x':=x) (go':=.dead) G9 l1 trivial hx UC (show w1.heap.size < _ by simp [World.put]; exact a8 l1)
     exact ⟨⟨z1.g,z1.b,z1.t,z1.n,⟨⟨w.heap.size,Rr,rfl⟩,z1.d⟩⟩,(st.trans p2).trans z2⟩
    obtain ⟨z1,z2⟩:=key (.loop { r3 with state:=.exhausted,pending:=pending }) trivial (fun r e=>⟨_,rfl,by cases e; exact ⟨rfl,rfl,rfl,rfl,rfl⟩⟩)
    rw [eC] at z1 z2
    cases pending with
    | none=>exact ⟨_,R3,β,hQ,z1,z2,rfl⟩
    | some c=>
     refine wpIn_mono (hQ R3 _ β _ Fence.wide z1 (by show bw R3 s.ro Fence.wide; rw [bI]; rfl)) ?_
     rintro e Ud I1 ⟨yC,F3,K5,GF,uA,oQ,sr⟩
     exact ⟨yC,F3,K5,GF,uA,z2.trans oQ,sr⟩
   ·exact hQ.elim
def M2 (E:Env) (Q:Exit→St→Prop) (s:St) (G':List GO):Prop:=
 match nth G' s.G.length with
 | some (.loop busy pending _ _ _ _ _ _ _ done)=>(busy=false∨done=true) ∧
  match pending with
  | none=>Q .normal ⟨s.ae,s.boxes,az G' s.G.length .dead,s.marks,s.ro,s.n⟩
  | some c=>eV E c Q ⟨s.ae,s.boxes,az G' s.G.length .dead,s.marks,s.ro,s.n⟩
 | _=>False
theorem eV.CI {E:Env} {Q:Exit→St→Prop} {s:St} (fp:Nat) {g:Operand} {ps:Array Tmp} {assign body:Code} {id:Nat} (bI:s.ro=some id)
  {WH:Bool} {p0:Option Code} {WI:FuncId} {WJ:aW} {n0:Nat} {WK:List Tmp} {WL WM:Code} {d0:Nat} {WN:Bool} (bM:nth s.G id=some (.loop WH p0 WI WJ n0 WK WL WM d0 WN))
  {f:FuncId} {first cap:List AV} (hg:bi E s.ae g=.v (.fn f first cap))
  (h:cH E f (first++[.yield s.G.length]++cap) (s.G++[.loop false none fp (eW s.ae) s.n ps.toList assign body d0 false]) (fun _ G'=>M2 E Q s G')) :
  eV E (.rangeFunc g ps assign body) Q s:=fun R w β a F hr hf=>by
 rw [bI] at hf
 obtain ⟨b0,WO,hF⟩:=hf
 subst hF
 obtain ⟨⟨r0,Ut,x1,x2,x3,x4,x5,x6,x7,x8,x9,UD⟩,Tb⟩:=hr.g.obj _ _ _ bM WO
 refine wpIn_rangeFunc fun fn _=>?_
 have rg:=aN hr g
 rw [hg] at rg
 have Rq:Rel R w (.fn f first cap) (a.eval g):=rg
 -- the loop's record
 let jj:Loop:={ state:=.ready,pending:=none,fn:=fn,tmps:=a.tmps,params:=ps,assign:=assign,body:=body,defers:=r0.defers }
 have e2:Ext R w (R.add (.bB w.heap.size)) (w.alloc (.loop jj)):=fW hr.g.wf _ _
 have MH:gd (R.add (.bB w.heap.size)) (w.alloc (.loop jj)) (.loop false none fp (eW s.ae) s.n ps.toList assign body d0 false) (.bB w.heap.size):=by
  refine ⟨⟨jj,Ut,heap_alloc_new w _,rfl,rfl,fun i hi=>?_,hr.n,by simp [jj],rfl,rfl,x9,e2.bB UD⟩,jC _⟩
  rw [oq] at hi ⊢
  have cM:lk s.ae i≠.none:=fun e=>hi (by rw [e]; rfl)
  obtain ⟨c,k1,k2⟩:=hr.t i cM
  refine ⟨c,k1,?_⟩
  cases hx:lk s.ae i with
  | none=>exact absurd hx cM
  | lp k off=>rw [hx] at hi; exact absurd rfl hi
  | v x=>
   rw [hx] at k2
   exact Rel.mono e2 (show Rel R w x c from k2)
 have h2:=hr.jU (.loop jj) (.loop false none fp (eW s.ae) s.n ps.toList assign body d0 false) (.bB w.heap.size) (by exact fun _ h=>h) MH
 have st:=cB hr (.loop jj) (.bB w.heap.size) (by exact fun _ h=>h)
 have G8:nth (R.add (.bB w.heap.size)).obj s.G.length=some (.bB w.heap.size):=ft hr _
 generalize WG:R.add (.bB w.heap.size)=R2 at *
 generalize ML:a.eval g=fv at Rq
 cases Rq with
 | @fn _ _ _ vs us q1 q2=>
 refine ⟨w.heap.size,[],w.alloc (.loop jj),{ target:=.fn (.func f) ⟨us⟩,args:=⟨vs⟩++#[.func (.yield w.heap.size) #[] #[]] },w.alloc (.loop jj),f,
  ⟨vs++[.func (.yield w.heap.size) #[] #[]]++us⟩,w.alloc (.loop jj),?_,?_,?_,?_,?_,?_⟩
 ·have:(Fence.wide.inRound b0).round=some b0:=rfl
  rw [this]
  exact run_enterLoop_inner x1 _ _ _ _ _
 ·simp only [resolve,ML,Deferred.ofValue,Sem.run_pure]
  simp [Act.eval]
 ·intro f' _
  exact trivial
 ·have:=mo (P:=E.P) h.1 (⟨vs++[.func (.yield w.heap.size) #[] #[]]++us⟩) (w.alloc (.loop jj))
  simpa [invoke] using this
 ·intro hc; cases hc
 ·have Uz:Rel R2 (w.alloc (.loop jj)) (.yield s.G.length) (.func (.yield w.heap.size) #[] #[]):=.yield G8
  have xP:=(h.2 R2 (w.alloc (.loop jj)) _ h2.g ((((q1.mono st.ext).append (.one Uz)).append (q2.mono st.ext))))
  refine CallsIn.mono (F:=Fence.wide.inRound b0) xP ?_
  intro e w3 he
  cases e with
  | panicked c=>exact he.elim
  | outgrown=>exact he.elim
  | returned c=>
   obtain ⟨r,G',R3,hQ,dF,UA,M1⟩:=he
   obtain ⟨p1,p2⟩:=h2.oa UA M1
   unfold M2 at hQ
   split at hQ
   ·rename_i busy pending ff sl nn pp py bd dd done CG
    obtain ⟨UB,hQ⟩:=hQ
    have G9:nth R3.obj s.G.length=some (.bB w.heap.size):=M1.ext.bB G8
    obtain ⟨⟨r3,db,l1,l2,l3,_,_,_,_,_,_,_⟩,_⟩:=p1.g.obj _ _ _ CG G9
    have CH:r3.state≠.busy:=by rw [l2]; exact vm UB
    refine ⟨r3.pending,_,run_endLoop l1 CH,?_⟩
    rw [l3]
    have key:∀ x:Obj,mi x→(∀ r,Obj.loop r3=.loop r→∃ r',x=.loop r'∧mU r r')→aY E R3 (World.put w3 w.heap.size x) β ⟨s.ae,s.boxes,az G' s.G.length .dead,s.marks,s.ro,s.n⟩ { a with defers:=[]++a.defers }∧Step R w β s.boxes R3 (World.put w3 w.heap.size x) β s.boxes:=fun x hx UC=>by
     obtain ⟨z1,z2⟩:=p1.setObj (x':=x) (go':=.dead) G9 l1 trivial hx UC (show w.heap.size < _ by simp [World.put]; exact a8 l1)
     exact ⟨⟨z1.g,z1.b,z1.t,z1.n,z1.d⟩,(st.trans p2).trans z2⟩
    obtain ⟨z1,z2⟩:=key (.loop { r3 with state:=.exhausted,pending:=pending }) trivial (fun r e=>⟨_,rfl,by cases e; exact ⟨rfl,rfl,rfl,rfl,rfl⟩⟩)
    cases pending with
    | none=>exact ⟨_,R3,β,hQ,z1,z2,rfl⟩
    | some c=>
     refine wpIn_mono (hQ R3 _ β _ (Fence.wide.inRound b0) z1 (by show bw R3 s.ro _; rw [bI]; exact ⟨b0,M1.ext.bB (e2.bB WO),rfl⟩)) ?_
     rintro e Ud I1 ⟨yC,F3,K5,GF,uA,oQ,sr⟩
     exact ⟨yC,F3,K5,GF,uA,z2.trans oQ,sr⟩
   ·exact hQ.elim
def CJ (id:Nat) (Q:Bool→List GO→Prop):Exit→St→Prop:=fun e s=>match nth s.G id with
 | some (.loop _ _ fn sl n ps py bd d _)=>match e with
  | .normal=>Q true (az s.G id (.loop false none fn sl n ps py bd d false))
  | .ret=>Q false (az s.G id (.loop false (some .ret) fn sl n ps py bd d true))
  | .exit i=>Q false (az s.G id (.loop false (some (.exit i)) fn sl n ps py bd d true))
  | _=>False
 | _=>False
def y7 (E:Env) (id:Nat) (body:Code) (Q:Bool→List GO→Prop):Exit→St→Prop:=fun e s=>match e with
 | .normal=>match nth s.G id with
  | some (.loop false p fn sl n ps py bd d false)=>eV E body (CJ id Q) (s.bO (az s.G id (.loop true p fn sl n ps py bd d false)))
  | _=>False
 | _=>False
def vn:List Tmp→List AV→aW→aW
 | t :: ts,a :: l,r=>vn ts l (.put t (.v a) :: r)
 | _,_,r=>r
def St.round (id:Nat) (ae:aW) (n:Nat) (G:List GO):St:=⟨ae,[],G,[],some id,n⟩
theorem vo {R:ak} {w:World} {β:Nat→Nat}:∀ {ts:List Tmp} {l:List AV} {cs:List Value} {r:aW} {tmps:Array Value},mW R w β r tmps→aI R w l cs→l.length=ts.length→(∀ t∈ts,t < tmps.size) →
  mW R w β (vn ts l r) ((ts.zip cs).foldl (fun tmps (t,a)=>tmps.setIfInBounds t a) tmps)
 | [],[],_,_,_,h,.nil,_,_=>h
 | t :: ts,a :: l,c :: cs,r,tmps,h,.cons hx hl,hlen,ht=>by
  have eC:t < tmps.size:=ht t (by simp)
  simp only [vn,List.zip_cons_cons,List.foldl_cons]
  refine vo ?_ hl (by simpa using hlen) (fun t' h'=>by simpa using ht t' (by simp [h']))
  have:=mW.put (a:={ tmps:=tmps,defers:=[] }) h (d:=t) (x:=.v a) (c:=c) eC hx
  simpa [Act.put] using this
 | [],_ :: _,_,_,_,_,_,hlen,_=>by simp at hlen
 | _ :: _,[],_,_,_,_,_,hlen,_=>by simp at hlen
theorem CK (l:List (Tmp × Value)):∀ tmps:Array Value,(l.foldl (fun (tmps:Array Value) (x:Tmp × Value)=>tmps.setIfInBounds x.1 x.2) tmps).size=tmps.size:=by
 induction l with
 | nil=>intro _; rfl
 | cons x l ih=>intro tmps; rw [List.foldl_cons,ih]; simp
theorem j4.intro {E:Env} {id:Nat} {args:List AV} {G:List GO} {Q:Bool→List GO→Prop} {fn:FuncId} {ae:aW} {n:Nat} {ps:List Tmp} {assign body:Code} {d:Nat} {p:Option Code}
  (hG:nth G id=some (.loop false p fn ae n ps assign body d false)) (hl:args.length=ps.length) (FR:∀ t∈ps,t < n)
  (h:eV E assign (y7 E id body Q) (St.round id (vn ps args ae) n G)):j4 E id args G Q:=fun R w cs b hg hr hb=>by
 obtain ⟨⟨r,db,l1,l2,l3,l4,l5,l6,l7,l8,l9,WB⟩,l11⟩:=hg.obj id _ _ hG hb
 have hlen:=hr.length
 refine ⟨r,l1,by rw [l6]; simp; omega,?_⟩
 have UE:Step R w (fun _=>0) fw R w (fun _=>0) fw:=Step.refl _ _ _ _
 have UF:aY E R w (fun _=>0) (St.round id (vn ps args ae) n G) { tmps:=(r.params.zip ⟨cs⟩).foldl (fun tmps (t,a)=>tmps.setIfInBounds t a) r.tmps,defers:=[] }:=by
  have Rs:(r.params.zip ⟨cs⟩).foldl (fun (tmps:Array Value) (x:Tmp × Value)=>tmps.setIfInBounds x.1 x.2) r.tmps=(ps.zip cs).foldl (fun (tmps:Array Value) (x:Tmp × Value)=>tmps.setIfInBounds x.1 x.2) r.tmps:=by
   rw [← Array.foldl_toList]
   simp [l6]
  refine ⟨hg,⟨fun k cs hk=>?_,fun k k' c c' hk=>?_⟩,?_,?_,trivial⟩
  ·simp [St.round,dy] at hk
  ·simp [St.round,dy] at hk
  ·show mW _ _ _ _ _
   have:=vo (ts:=ps) (l:=args) (cs:=cs) l4 hr hl (fun t ht=>by rw [l5]; exact FR t ht)
   rw [← Rs] at this
   exact this
  ·show _=n
   have:=CK (ps.zip cs) r.tmps
   rw [← Rs] at this
   exact this.trans l5
 have ME:∀ (k:Nat) (cs:List AV),dy (St.round id (vn ps args ae) n G).boxes k≠some cs:=fun k cs hk=>by simp [St.round,dy] at hk
 rw [l7,l8]
 refine roundIn_of_wpIn trivial (wpIn_mono (h R w (fun _=>0) _ (Fence.wide.inRound b) UF ⟨b,hb,rfl⟩) ?_)
 rintro e a1 w1 ⟨s1,R1,β1,hq,Bx,WQ,UG⟩
 unfold y7 at hq
 cases e with
 | normal=>
  simp only at hq
  split at hq
  ·rename_i p' Ur PY n' Rn Ju P2 d' UH
   have Rf:nth R1.obj id=some (.bB b):=WQ.ext.bB hb
   obtain ⟨⟨r1,Yz,m1,m2,m3,m4,m5,m6,m7,m8,m9,m10⟩,m11⟩:=Bx.g.obj id _ _ UH Rf
   refine ⟨_,run_beginRound m1 m2,?_⟩
   obtain ⟨z1,z2⟩:=Bx.setObj (x':=.loop { r1 with state:=.busy }) (go':=.loop true p' Ur PY n' Rn Ju P2 d' false) Rf m1 trivial trivial (fun r e=>⟨_,rfl,by cases e; exact ⟨rfl,rfl,rfl,rfl,rfl⟩⟩)
    ⟨⟨{ r1 with state:=.busy },Yz,gn _ _ _ (a8 m1),rfl,m3,m4.mono (mj (x':=.loop { r1 with state:=.busy }) m1 trivial trivial (fun r e=>⟨_,rfl,by cases e; exact ⟨rfl,rfl,rfl,rfl,rfl⟩⟩)),m5,m6,m7,m8,m9,m10⟩,m11⟩
   refine wpIn_mono (hq R1 _ β1 a1 (Fence.wide.inRound b) z1 (by show bw R1 s1.ro _; rw [UG]; exact ⟨b,Rf,rfl⟩)) ?_
   rintro e2 a2 w2 ⟨s2,R2,β2,nf,xC,FX,AR⟩
   unfold CJ at nf
   split at nf
   ·rename_i bu2 p2 Tc Rt n2 UI UJ UK d2 YA Rd
    have Ru:=(WQ.trans z2).trans FX
    have DK:nth R2.obj id=some (.bB b):=Ru.ext.bB hb
    obtain ⟨⟨r2,YB,o1,o2,o3,o4,o5,o6,o7,o8,o9,IQ⟩,pL⟩:=xC.g.obj id _ _ Rd DK
    have fin:∀ (j:Option Code),yL E R w (fun b' G'=>G'=az s2.G id (.loop false j Tc Rt n2 UI UJ UK d2 (!j.isNone))∧b'=j.isNone) (.returned (.bool j.isNone)) (w2.putObj b (.loop { r2 with state:=if j.isNone then .ready else .done,pending:=j })):=fun j=>by
     obtain ⟨y1,y2⟩:=xC.setObj (x':=.loop { r2 with state:=if j.isNone then .ready else .done,pending:=j }) (go':=.loop false j Tc Rt n2 UI UJ UK d2 (!j.isNone)) DK o1 trivial trivial (fun r e=>⟨_,rfl,by cases e; exact ⟨rfl,rfl,rfl,rfl,rfl⟩⟩)
      ⟨⟨{ r2 with state:=if j.isNone then .ready else .done,pending:=j },YB,gn _ _ _ (a8 o1),by cases j <;> rfl,rfl,o4.mono (mj (x':=.loop { r2 with state:=if j.isNone then .ready else .done,pending:=j }) o1 trivial trivial (fun r e=>⟨_,rfl,by cases e; exact ⟨rfl,rfl,rfl,rfl,rfl⟩⟩)),o5,o6,o7,o8,o9,IQ⟩,pL⟩
     exact ⟨_,_,R2,⟨rfl,rfl⟩,rfl,y1.g,uE (Ru.trans y2) ME⟩
    have mk:∀ (j:Option Code),Q j.isNone (az s2.G id (.loop false j Tc Rt n2 UI UJ UK d2 (!j.isNone)))→∃ v w',(Instr.endRound b j).run E.P w2=.ok v w'∧yL E R w Q (.returned v) w':=fun j hQ=>by
     refine ⟨_,_,run_endRound j o1,?_⟩
     obtain ⟨r',G',R',⟨h1,h2⟩,h3⟩:=fin j
     subst h1; subst h2
     exact ⟨_,_,R',hQ,h3⟩
    cases e2 with
    | normal=>exact mk none nf
    | ret=>exact mk (some .ret) nf
    | exit i=>exact mk (some (.exit i)) nf
    | _=>exact nf.elim
   ·exact nf.elim
  ·exact hq.elim
 | _=>exact hq.elim
end Go.Am
