/- The abstract machine: what is asked of bodies; values are brought to a short form. -/
import Derived.Test.YtegoimldbgdeiaaAmKH
import Derived.RangeFuncIn
import Derived.RangeFuncRecord
import Derived.RangeFuncNested
set_option linter.all false
namespace Go.Am
open Go
def bi (dt:Nat→Option aD):Code→Bool
 | .region id ops true=>match dt id with
  | some p=>BQ ops p
  | none=>false
 | .seq x y=>bi dt x&&bi dt y
 | .cond _ x y=>bi dt x&&bi dt y
 | .block _ c=>bi dt c
 | .loop c=>bi dt c
 | .scope c=>bi dt c
 | .rangeFunc _ _ a b=>bi dt a&&bi dt b
 | _=>true
structure LC extends Env where
 dt:FuncId→Nat→Option aD
 okF:FuncId→Bool
 JS:∀ f fn c,okF f=true→P.funcs[f]?=some fn→fn.body=some c→bi (dt f) c=true
def iM {α:Type} (n:Nat) (K:Nat→α):α:=match n with
 | 0=>K 0
 | m+1=>K (Nat.succ m)
def uG {α:Type} (n:Int) (K:Int→α):α:=match n with
 | .ofNat m=>iM m fun m=>K (.ofNat m)
 | .negSucc m=>iM m fun m=>K (.negSucc m)
def nB {α β:Type}:List β→(List β→α)→α
 | [],K=>K []
 | a :: l,K=>nB l fun l=>K (a :: l)
def xX {α:Type} (v:AV) (K:AV→α):α:=match v with
 | .int k n=>uG n fun n=>K (.int k n)
 | .bool true=>K (.bool true)
 | .bool false=>K (.bool false)
 | .list k sz es=>nB es fun es=>K (.list k sz es)
 | .str l=>nB l fun l=>K (.str l)
 | .iR id off sz len cap=>iM off fun off=>iM len fun len=>iM cap fun cap=>K (.iR id off sz len cap)
 | .ptr id off=>iM off fun off=>K (.ptr id off)
 | .agg cs=>nB cs fun cs=>K (.agg cs)
 | v=>K v
def xY {α:Type} (l:aT) (K:aT→α):α:=match l with
 | .put d (.v a) :: l=>xX a fun a=>K (.put d (.v a) :: l)
 | .put d (.lp k off) :: l=>iM off fun off=>K (.put d (.lp k off) :: l)
 | l=>K l
def xZ {α:Type} (l:ck) (K:ck→α):α:=match l with
 | (d,cs) :: l=>nB cs fun cs=>K ((d,cs) :: l)
 | []=>K []
def BR {α:Type} (s:St) (K:St→α):α:=match s with
 | ⟨sl,bx,G,m,ro,n⟩=>xY sl fun sl=>xZ bx fun bx=>nB G fun G=>K ⟨sl,bx,G,m,ro,n⟩
theorem nC {α:Type} (n:Nat) (K:Nat→α):iM n K=K n:=by cases n <;> rfl
theorem zT {α:Type} (n:Int) (K:Int→α):uG n K=K n:=by cases n <;> simp [uG,nC]
theorem oa {α β:Type}:∀ (l:List β) (K:List β→α),nB l K=K l
 | [],_=>rfl
 | a :: l,K=>by simp only [nB]; rw [oa]
theorem BS {α:Type} (v:AV) (K:AV→α):xX v K=K v:=by
 unfold xX
 split <;> simp [nC,zT,oa]
theorem BT {α:Type} (l:aT) (K:aT→α):xY l K=K l:=by
 unfold xY
 split <;> simp [nC,BS]
theorem BU {α:Type} (l:ck) (K:ck→α):xZ l K=K l:=by
 unfold xZ
 split <;> simp [oa]
theorem D7 {α:Type} (s:St) (K:St→α):BR s K=K s:=by
 obtain ⟨sl,bx,G,m,ro,n⟩:=s
 simp [BR,BT,BU,oa]
def yd:SV→SV→Bool
 | .v a,.v b=>dx a b
 | .lp k o,.lp k' o'=>Nat.beq k k'&&Nat.beq o o'
 | _,_=>false
def QL (E:Env) (f:FuncId) (ops:List Oper) (o:Oper) (s:St):Bool:=match yR ops s o with
 | some true=>match o.dst,an E f s o with
  | some d,some (c,s')=>c&&yd (lk s'.ae d) (lk s.ae d)
  | _,_=>false
 | some false=>true
 | none=>false
section
variable {E:Env} {f:FuncId} {s:St}
theorem wS {a b:SV} (h:yd a b=true):a=b:=by
 unfold yd at h
 split at h
 ·rw [iG h]
 ·simp only [Bool.and_eq_true,Nat.beq_eq] at h; rw [h.1,h.2]
 ·cases h
theorem wT {ops:List Oper} {o:Oper} (h:QL E f ops o s=true):BH E f ops o s:=by
 unfold QL at h
 unfold BH
 split at h
 ·rename_i hg
  rw [hg]
  simp only
  split at h
  ·rename_i d c s' hd hs
   rw [Bool.and_eq_true] at h
   obtain ⟨rfl,h⟩:=h
   rw [hd,hs]
   exact ⟨rfl,wS h⟩
  ·cases h
 ·rename_i hg
  rw [hg]
  trivial
 ·cases h
end
end Go.Am
namespace Go.Am
open Go
mutual
def AV.under (n:Nat):AV→Bool
 | .agg cs=>aA n cs
 | .bk cs=>aA n cs
 | .ep cs=>aA n cs
 | .list (.own id) _ _=>Nat.blt id n
 | .list (.aU id _) _ _=>Nat.blt id n
 | .fn _ x y=>aA n x&&aA n y
 | .iface _ v=>v.under n
 | .ptr id _=>Nat.blt id n
 | .iR id _ _ _ _=>Nat.blt id n
 | .dM id _ _ _ _=>Nat.blt id n
 | .gp id _ _ _ _ _=>Nat.blt id n
 | .map id=>Nat.blt id n
 | .yield id=>Nat.blt id n
 | _=>true
def aA (n:Nat):List AV→Bool
 | []=>true
 | a :: l=>a.under n&&aA n l
end
mutual
theorem gX (n:Nat):∀ {a:AV},a.closed=true→a.under n=true:=fun {a} h=>by
 cases a with
 | agg cs=>simp only [AV.closed,AV.under] at *; exact cw n h
 | bk cs=>simp only [AV.closed,AV.under] at *; exact cw n h
 | ep cs=>simp only [AV.closed,AV.under] at *; exact cw n h
 | list k sz es=>cases k <;> simp_all [AV.closed,AV.under,LK.closed]
 | fn f x y=>
  simp only [AV.closed,AV.under,Bool.and_eq_true] at *
  exact ⟨cw n h.1,cw n h.2⟩
 | iface t v=>simp only [AV.closed,AV.under] at *; exact gX n h
 | _=>simp_all [AV.closed,AV.under]
theorem cw (n:Nat):∀ {l:List AV},aM l=true→aA n l=true
 | [],_=>rfl
 | a :: l,h=>by
  simp only [aM,aA,Bool.and_eq_true] at *
  exact ⟨gX n h.1,cw n h.2⟩
end
theorem ob {a b:Nat} (h:Nat.blt a b=true):a < b:=Nat.le_of_ble_eq_true h
mutual
theorem kY:∀ {a:AV},a.under 0=true→a.closed=true:=fun {a} h=>by
 cases a with
 | agg cs=>simp only [AV.closed,AV.under] at *; exact eE h
 | bk cs=>simp only [AV.closed,AV.under] at *; exact eE h
 | ep cs=>simp only [AV.closed,AV.under] at *; exact eE h
 | list k sz es=>cases k <;> first | rfl | (simp [AV.under] at h)
 | fn f x y=>
  simp only [AV.closed,AV.under,Bool.and_eq_true] at *
  exact ⟨eE h.1,eE h.2⟩
 | iface t v=>simp only [AV.closed,AV.under] at *; exact kY h
 | ptr id off=>simp only [AV.under] at h; exact absurd (ob h) (Nat.not_lt_zero _)
 | iR id off sz len cap=>simp only [AV.under] at h; exact absurd (ob h) (Nat.not_lt_zero _)
 | dM id f off sz len=>simp only [AV.under] at h; exact absurd (ob h) (Nat.not_lt_zero _)
 | gp id f i off sz t=>simp only [AV.under] at h; exact absurd (ob h) (Nat.not_lt_zero _)
 | map id=>simp only [AV.under] at h; exact absurd (ob h) (Nat.not_lt_zero _)
 | yield id=>simp only [AV.under] at h; exact absurd (ob h) (Nat.not_lt_zero _)
 | _=>rfl
theorem eE:∀ {l:List AV},aA 0 l=true→aM l=true
 | [],_=>rfl
 | a :: l,h=>by
  simp only [aA,aM,Bool.and_eq_true] at *
  exact ⟨kY h.1,eE h.2⟩
end
section move
variable {R R2:aj} {w:World} {n:Nat}
structure Mv (R R2:aj) (n:Nat):Prop where
 I:∀ b o,R.I b o→R2.I b o
 obj:∀ id ro,id < n→nth R.obj id=some ro→nth R2.obj id=some ro
theorem jf {a b:Nat} (h:Nat.blt a b=true):a < b:=Nat.le_of_ble_eq_true h
theorem j4 {a b:Nat} (h:a < b):Nat.blt a b=true:=Nat.ble_eq_true_of_le h
theorem xx.move (m:Mv R R2 n) {k:LK} {b o len cap:Nat} (h:xx R k b o len cap) (hk:∀ id,(k=.own id∨∃ j,k=.aU id j)→id < n):xx R2 k b o len cap:=by
 cases k with
 | nil=>exact h
 | full=>exact h
 | kr=>trivial
 | own id=>obtain ⟨ro,h1,h2⟩:=h; exact ⟨ro,m.obj id ro (hk id (.inl rfl)) h1,h2⟩
 | aU id j=>obtain ⟨ro,h1,h2⟩:=h; exact ⟨ro,m.obj id ro (hk id (.inr ⟨j,rfl⟩)) h1,h2⟩
mutual
theorem Rel.move (m:Mv R R2 n):∀ {a:AV} {c:Value},a.under n=true→Rel R w a c→Rel R2 w a c
 | _,_,_,.bool b=>.bool b
 | _,_,_,.int k i=>.int k i
 | _,_,_,.str l=>.str l
 | _,_,hb,.agg h h1=>.agg (h.move m (by simpa [AV.under] using hb)) h1
 | _,_,hb,.bk h=>.bk (h.move m (by simpa [AV.under] using hb))
 | _,_,_,.li=>.li
 | _,_,hb,.ptr h=>.ptr (m.obj _ _ (jf (by simpa [AV.under] using hb)) h)
 | _,_,hb,.ep h=>.ep (h.move m (by simpa [AV.under] using hb))
 | _,_,_,.iF=>.iF
 | _,_,_,.ib=>.ib
 | _,_,_,.lT=>.lT
 | _,_,hb,.lU h ho=>.lU (m.obj _ _ (jf (by simpa [AV.under] using hb)) h) ho
 | _,_,hb,.kT h ho=>.kT (m.obj _ _ (jf (by simpa [AV.under] using hb)) h) ho
 | .list k sz es,_,hb,.list h hl hc hk=>.list (h.move m) hl hc (hk.move m fun id e=>by rcases e with e | ⟨j,e⟩ <;> subst e <;> exact jf (by simpa [AV.under] using hb))
 | _,_,hb,.iR h hc=>.iR (m.obj _ _ (jf (by simpa [AV.under] using hb)) h) hc
 | _,_,hb,.iW h ho=>.iW (m.obj _ _ (jf (by simpa [AV.under] using hb)) h) ho
 | _,_,hb,.dM h ho hc=>.dM (m.obj _ _ (jf (by simpa [AV.under] using hb)) h) ho hc
 | _,_,hb,.gp h ho=>.gp (m.obj _ _ (jf (by simpa [AV.under] using hb)) h) ho
 | _,_,_,.jq=>.jq
 | _,_,hb,.map h=>.map (m.obj _ _ (jf (by simpa [AV.under] using hb)) h)
 | _,_,_,.dq=>.dq
 | _,_,hb,.fn h h'=>.fn (h.move m (by simp only [AV.under,Bool.and_eq_true] at hb; exact hb.1)) (h'.move m (by simp only [AV.under,Bool.and_eq_true] at hb; exact hb.2))
 | _,_,hb,.yield h=>.yield (m.obj _ _ (jf (by simpa [AV.under] using hb)) h)
 | _,_,_,.ot=>.ot
 | _,_,hb,.iface h=>.iface (h.move m (by simpa [AV.under] using hb))
theorem aE.move (m:Mv R R2 n):∀ {l:List AV} {cs:List Value},aE R w l cs→aA n l=true→aE R2 w l cs
 | _,_,.nil,_=>.nil
 | _,_,.cons h t,hb=>by
  simp only [aA,Bool.and_eq_true] at hb
  exact .cons (h.move m hb.1) (t.move m hb.2)
theorem gj.move (m:Mv R R2 n):∀ {b o sz:Nat} {l:List AV},gj R w b o sz l→gj R2 w b o sz l
 | _,_,_,_,.nil=>.nil
 | _,_,_,_,@gj.cons _ _ _ _ _ e _ hl ht hk h t=>.cons hl ht hk (h.move m (by
   cases e with
   | agg cs=>exact cw n (show aM cs=true by simpa [AV.closed] using hk)
   | bk cs=>simp [AV.aL] at ht
   | _=>simp only [AV.cells,aA,Bool.and_true]; exact gX n hk)) (t.move m)
theorem eu.move (m:Mv R R2 n):∀ {b o:Nat} {l:List AV},eu R w b o l→aA n l=true→eu R2 w b o l
 | _,_,_,.nil,_=>.nil
 | _,_,_,.cons hc h1 hi h t,hb=>by
  simp only [aA,Bool.and_eq_true] at hb
  exact .cons hc h1 (m.I _ _ hi) (h.move m hb.1) (t.move m hb.2)
end
theorem kV.move {E:Env} (m:Mv R R2 n) {g:Nat} {cs:List AV} (h:kV E R w g cs) (hu:aA n cs=true):kV E R2 w g cs:=
 ⟨h.1.move m hu,fun hx=>⟨m.I _ _ (h.2 hx).1,(h.2 hx).2⟩⟩
mutual
theorem Rel.under (hn:R.obj.length≤n):∀ {a:AV} {c:Value},Rel R w a c→a.under n=true
 | _,_,.bool _ | _,_,.int _ _ | _,_,.str _ | _,_,.li | _,_,.iF | _,_,.ib | _,_,.lT | _,_,.jq | _,_,.dq | _,_,.ot=>by simp [AV.under]
 | _,_,.agg h _=>by simp only [AV.under]; exact h.under hn
 | _,_,.bk h=>by simp only [AV.under]; exact h.under hn
 | _,_,.ptr h=>by simp only [AV.under]; exact j4 (Nat.lt_of_lt_of_le (bp h) hn)
 | _,_,.ep h=>by simp only [AV.under]; exact h.under hn
 | _,_,.lU h _=>by simp only [AV.under]; exact j4 (Nat.lt_of_lt_of_le (bp h) hn)
 | _,_,.kT h _=>by simp only [AV.under]; exact j4 (Nat.lt_of_lt_of_le (bp h) hn)
 | _,_,@Rel.list _ _ k _ _ _ _ _ _ _ _ _ hk=>by
  cases k with
  | own id=>obtain ⟨ro,h1,_⟩:=hk; simp only [AV.under]; exact j4 (Nat.lt_of_lt_of_le (bp h1) hn)
  | aU id j=>obtain ⟨ro,h1,_⟩:=hk; simp only [AV.under]; exact j4 (Nat.lt_of_lt_of_le (bp h1) hn)
  | _=>simp [AV.under]
 | _,_,.iR h _=>by simp only [AV.under]; exact j4 (Nat.lt_of_lt_of_le (bp h) hn)
 | _,_,.iW h _=>by simp only [AV.under]; exact j4 (Nat.lt_of_lt_of_le (bp h) hn)
 | _,_,.dM h _ _=>by simp only [AV.under]; exact j4 (Nat.lt_of_lt_of_le (bp h) hn)
 | _,_,.gp h _=>by simp only [AV.under]; exact j4 (Nat.lt_of_lt_of_le (bp h) hn)
 | _,_,.map h=>by simp only [AV.under]; exact j4 (Nat.lt_of_lt_of_le (bp h) hn)
 | _,_,.fn h h'=>by simp only [AV.under,Bool.and_eq_true]; exact ⟨h.under hn,h'.under hn⟩
 | _,_,.yield h=>by simp only [AV.under]; exact j4 (Nat.lt_of_lt_of_le (bp h) hn)
 | _,_,.iface h=>by simp only [AV.under]; exact h.under hn
theorem aE.under (hn:R.obj.length≤n):∀ {l:List AV} {cs:List Value},aE R w l cs→aA n l=true
 | _,_,.nil=>rfl
 | _,_,.cons h t=>by simp only [aA,Bool.and_eq_true]; exact ⟨h.under hn,t.under hn⟩
theorem eu.under (hn:R.obj.length≤n):∀ {b o:Nat} {l:List AV},eu R w b o l→aA n l=true
 | _,_,_,.nil=>rfl
 | _,_,_,.cons _ _ _ h t=>by simp only [aA,Bool.and_eq_true]; exact ⟨h.under hn,t.under hn⟩
end
end move
end Go.Am
namespace Go.Am
open Go
mutual
def ah.under (n:Nat):ah→Bool
 | .agg ps=>ps.under n
 | .bk ps=>ps.under n
 | .own id _ _=>Nat.blt id n
 | .aU id _ _=>Nat.blt id n
 | .py v=>v.under n
 | .two u v=>u.under n&&v.under n
 | _=>true
def aC.under (n:Nat):aC→Bool
 | .nil=>true
 | .cons p ps=>p.under n&&ps.under n
end
mutual
theorem ah.cK {n:Nat}:∀ (p:ah) (x:p.T),p.under n=true→(p.enc x).under n=true
 | .int k,x,_=>by simp [ah.enc,AV.under]
 | .bool,x,_=>by simp [ah.enc,AV.under]
 | .str,x,_=>by simp [ah.enc,AV.under]
 | .agg ps,x,h=>by
  simp only [ah.enc,AV.under]
  exact ps.cK x h
 | .bk ps,x,h=>by
  simp only [ah.enc,AV.under]
  exact ps.cK x h
 | .list sz p,x,_=>by simp [ah.enc,AV.under]
 | .own id sz p,x,h=>by
  simp only [ah.enc,AV.under]
  exact h
 | .aU id sz p,x,h=>by
  simp only [ah.enc,AV.under]
  exact h
 | .py v,x,h=>by
  simp only [ah.enc]
  exact h
 | .two u v,(x:Bool),h=>by
  simp only [ah.under,Bool.and_eq_true] at h
  change AV.under n (bif x then v else u)=true
  cases x
  ·exact h.1
  ·exact h.2
theorem aC.cK {n:Nat}:∀ (ps:aC) (x:ps.T),ps.under n=true→aA n (ps.enc x)=true
 | .nil,x,_=>rfl
 | .cons p .nil,x,h=>by
  simp only [aC.under,Bool.and_true] at h
  simp only [aC.enc,aA,Bool.and_true]
  exact p.cK _ h
 | .cons p (.cons q ps),x,h=>by
  rw [aC.under,Bool.and_eq_true] at h
  simp only [aC.enc,aA,Bool.and_eq_true]
  exact ⟨p.cK _ h.1,(aC.cons q ps).cK _ h.2⟩
end
mutual
def AV.exact:AV→Bool
 | .bool _=>true
 | .int _ _=>true
 | .str _=>true
 | .agg cs=>fN cs
 | _=>false
def fN:List AV→Bool
 | []=>true
 | a :: l=>a.exact&&fN l
end
mutual
theorem ah.iN:∀ (p:ah) {a:AV},p.fits a=true→a.exact=true→p.enc (p.a7 a)=a
 | .int k,a,h,e=>by
  cases a with
  | int k' n=>have hk:NG k k'=true:=h; rw [AX hk]; rfl
  | _=>cases h
 | .bool,a,h,e=>by
  cases a with
  | bool b=>rfl
  | _=>cases h
 | .str,a,h,e=>by
  cases a with
  | str b=>rfl
  | _=>cases h
 | .agg ps,a,h,e=>by
  cases a with
  | agg cs=>
   have e':fN cs=true:=by simpa [AV.exact] using e
   show AV.agg (ps.enc (ps.a7 cs))=_
   rw [ps.iN (show ps.fits cs=true from h) e']
  | _=>cases h
 | .bk ps,a,h,e=>by cases a <;> first | (cases h; done) | simp [AV.exact] at e
 | .list sz p,a,h,e=>by cases a <;> first | (cases h; done) | simp [AV.exact] at e
 | .own id sz p,a,h,e=>by cases a <;> first | (cases h; done) | simp [AV.exact] at e
 | .aU id sz p,a,h,e=>by cases a <;> first | (cases h; done) | simp [AV.exact] at e
 | .py u,a,h,e=>(iG (show dx a u=true from h)).symm
 | .two u v,a,h,_=>sU h
theorem aC.iN:∀ (ps:aC) {l:List AV},ps.fits l=true→fN l=true→ps.enc (ps.a7 l)=l
 | .nil,l,h,_=>by
  cases l with
  | nil=>rfl
  | cons _ _=>cases h
 | .cons p .nil,l,h,e=>by
  cases l with
  | nil=>cases h
  | cons a l=>
   have h':(p.fits a&&l.isEmpty)=true:=h
   simp only [Bool.and_eq_true,List.isEmpty_iff] at h'
   obtain ⟨h1,rfl⟩:=h'
   simp only [fN,Bool.and_true] at e
   show [p.enc (p.a7 a)]=_
   rw [p.iN h1 e]
 | .cons p (.cons q ps),l,h,e=>by
  cases l with
  | nil=>cases h
  | cons a l=>
   have h':(p.fits a&&(aC.cons q ps).fits l)=true:=h
   rw [Bool.and_eq_true] at h'
   simp only [fN,Bool.and_eq_true] at e
   show p.enc (p.a7 a) :: (aC.cons q ps).enc ((aC.cons q ps).a7 l)=_
   rw [p.iN h'.1 e.1,(aC.cons q ps).iN h'.2 e.2]
end
mutual
theorem ms:∀ {a:AV},a.exact=true→a.closed=true:=fun {a} h=>by
 cases a with
 | agg cs=>simp only [AV.exact,AV.closed] at *; exact oL h
 | _=>simp_all [AV.exact,AV.closed]
theorem oL:∀ {l:List AV},fN l=true→aM l=true
 | [],_=>rfl
 | a :: l,h=>by
  simp only [fN,aM,Bool.and_eq_true] at *
  exact ⟨ms h.1,oL h.2⟩
end
def af:List (AV × AV)→List AV
 | []=>[]
 | (k,v) :: l=>.agg [k,v] :: af l
def Pb:AV→AV × AV
 | .agg [k,v]=>(k,v)
 | _=>(fD,fD)
def ab:List AV→List (AV × AV)
 | []=>[]
 | a :: l=>Pb a :: ab l
def AV.entries:AV→List (AV × AV)
 | .list _ _ es=>ab es
 | _=>[]
theorem mG:∀ l:List (AV × AV),ab (af l)=l
 | []=>rfl
 | (k,v) :: l=>by simp only [af,ab,mG l]; rfl
def AV.FO:AV→Bool
 | .list .kr _ es=>fN es
 | _=>false
def jg:List AV→List AV→Prop
 | [],[]=>True
 | a :: l,b :: r=>hY a b∧jg l r
 | _,_=>False
theorem jg.refl:∀ l:List AV,jg l l
 | []=>trivial
 | a :: l=>⟨hY.refl a,jg.refl l⟩
theorem jg.length:∀ {l r:List AV},jg l r→l.length=r.length
 | [],[],_=>rfl
 | _ :: _,_ :: _,h=>by simp [jg.length h.2]
 | [],_ :: _,h=>h.elim
 | _ :: _,[],h=>h.elim
theorem jg.of {α:Type} {f:AV→Bool} {d:AV→α} {g:α→AV} (Cx:∀ v,f v=true→hY v (g (d v))):∀ {es:List AV},allFit f es=true→jg es ((es.map d).map g)
 | [],_=>trivial
 | e :: es,h=>by
  simp only [allFit,Bool.and_eq_true] at h
  exact ⟨Cx e h.1,jg.of Cx h.2⟩
theorem ah.zU (p:ah) {a:AV} (h:p.fits a=true):jg a.dC (p.enc (p.a7 a)).dC:=by
 cases p with
 | list sz p=>
  cases a with
  | list k bl es=>
   have hb:((Nat.beq sz bl || es.isEmpty)&&allFit p.fits es)=true:=h
   rw [Bool.and_eq_true] at hb
   exact jg.of (fun v hv=>p.cz hv) hb.2
  | _=>cases h
 | own id sz p=>
  cases a with
  | list k bl es=>
   cases k with
   | own iS=>
    have hb:((Nat.beq id iS&&Nat.beq sz bl)&&allFit p.fits es)=true:=h
    rw [Bool.and_eq_true] at hb
    exact jg.of (fun v hv=>p.cz hv) hb.2
   | _=>cases h
  | _=>cases h
 | aU id sz p=>
  cases a with
  | list k bl es=>
   cases k with
   | aU iS j=>
    have hb:((Nat.beq id iS&&Nat.beq sz bl)&&allFit p.fits es)=true:=h
    rw [Bool.and_eq_true] at hb
    exact jg.of (fun v hv=>p.cz hv) hb.2
   | _=>cases h
  | _=>cases h
 | py u=>rw [show a=u from iG (show dx a u=true from h)]; exact jg.refl _
 | two u v=>rw [sU h]; exact jg.refl _
 | _=>cases a <;> first | (cases h; done) | exact jg.refl _
def EL:List AV→List AV→Prop
 | [],[]=>True
 | a :: l,b :: r=>(a.exact=true→b=a)∧(a.FO=true→b.dC=a.dC)∧jg a.dC b.dC∧EL l r
 | _,_=>False
theorem uH {f:AV→Bool} {α:Type} {d:AV→α} {g:α→AV} (Cx:∀ a,f a=true→a.exact=true→g (d a)=a):∀ {es:List AV},allFit f es=true→fN es=true→(es.map d).map g=es
 | [],_,_=>rfl
 | a :: l,h,e=>by
  simp only [allFit,fN,Bool.and_eq_true] at *
  simp only [List.map_cons,Cx a h.1 e.1,uH Cx h.2 e.2]
theorem ah.zV (p:ah) {a:AV} (h:p.fits a=true) (e:a.FO=true):(p.enc (p.a7 a)).dC=a.dC:=by
 cases a with
 | list k bl es=>
  cases k with
  | kr=>
   have e':fN es=true:=e
   cases p with
   | list sz p=>
    have hb:((Nat.beq sz bl || es.isEmpty)&&allFit p.fits es)=true:=h
    rw [Bool.and_eq_true] at hb
    show (es.map p.a7).map p.enc=_
    rw [uH (fun a=>p.iN) hb.2 e']
    rfl
   | py u=>rw [show AV.list .kr bl es=u from iG (show dx _ u=true from h)]; rfl
   | two u v=>rw [sU h]
   | _=>cases h
  | _=>cases e
 | _=>cases e
theorem aC.FP:∀ (ps:aC) {l:List AV},ps.fits l=true→EL l (ps.enc (ps.a7 l))
 | .nil,l,h=>by
  cases l with
  | nil=>trivial
  | cons _ _=>cases h
 | .cons p .nil,l,h=>by
  cases l with
  | nil=>cases h
  | cons a l=>
   have h':(p.fits a&&l.isEmpty)=true:=h
   simp only [Bool.and_eq_true,List.isEmpty_iff] at h'
   obtain ⟨h1,rfl⟩:=h'
   exact ⟨p.iN h1,p.zV h1,p.zU h1,trivial⟩
 | .cons p (.cons q ps),l,h=>by
  cases l with
  | nil=>cases h
  | cons a l=>
   have h':(p.fits a&&(aC.cons q ps).fits l)=true:=h
   rw [Bool.and_eq_true] at h'
   exact ⟨p.iN h'.1,p.zV h'.1,p.zU h'.1,(aC.cons q ps).FP h'.2⟩
theorem EL.split:∀ {l r l':List AV},EL (l++r) l'→∃ a b,l'=a++b∧EL l a∧EL r b∧a.length=l.length
 | [],r,l',h=>⟨[],l',rfl,trivial,h,rfl⟩
 | x :: l,r,[],h=>h.elim
 | x :: l,r,y :: l',h=>by
  obtain ⟨a,b,rfl,h2,h3,h4⟩:=EL.split (l:=l) (r:=r) (l':=l') h.2.2.2
  exact ⟨y :: a,b,rfl,⟨h.1,h.2.1,h.2.2.1,h2⟩,h3,by simp [h4]⟩
mutual
def AV.uI (L:Nat→Nat):AV→AV
 | .dM id 0 0 sz 0=>.dM id (L id) 0 sz (L id)
 | .fn f x y=>.fn f (FQ L x) (FQ L y)
 | v=>v
def FQ (L:Nat→Nat):List AV→List AV
 | []=>[]
 | a :: l=>a.uI L :: FQ L l
end
mutual
def ah.inst (L:Nat→Nat):ah→ah
 | .agg ps=>.agg (ps.inst L)
 | .bk ps=>.bk (ps.inst L)
 | .py v=>.py (v.uI L)
 | p=>p
def aC.inst (L:Nat→Nat):aC→aC
 | .nil=>.nil
 | .cons p ps=>.cons (p.inst L) (ps.inst L)
end
mutual
def ah.j5 (L:Nat→Nat):(p:ah)→p.T→AV
 | .int k,(n:Int)=>.int k n
 | .bool,(b:Bool)=>.bool b
 | .str,(s:List UInt8)=>.str s
 | .agg ps,x=>.agg (ps.j5 L x)
 | .bk ps,x=>.bk (ps.j5 L x)
 | .list sz p,(xs:List p.T)=>.list .kr sz (xs.map p.enc)
 | .own id sz p,(xs:List p.T)=>.list (.own id) sz (xs.map p.enc)
 | .aU id sz p,(x:Nat × List p.T)=>.list (.aU id x.1) sz (x.2.map p.enc)
 | .py v,_=>v.uI L
 | .two u v,(b:Bool)=>bif b then v else u
def aC.j5 (L:Nat→Nat):(ps:aC)→ps.T→List AV
 | .nil,_=>[]
 | .cons p .nil,x=>[p.j5 L x]
 | .cons p (.cons q ps),x=>p.j5 L x.1 :: (aC.cons q ps).j5 L x.2
end
mutual
def ah.lD (L:Nat→Nat):ah→AV→Bool
 | .int k,v=>ah.fits (.int k) v
 | .bool,v=>ah.fits .bool v
 | .str,v=>ah.fits .str v
 | .agg ps,v=>match v with
  | .agg cs=>ps.lD L cs
  | _=>false
 | .bk ps,v=>match v with
  | .bk cs=>ps.lD L cs
  | _=>false
 | .list sz p,v=>ah.fits (.list sz p) v
 | .own id sz p,v=>ah.fits (.own id sz p) v
 | .aU id sz p,v=>ah.fits (.aU id sz p) v
 | .py v,u=>dx u (v.uI L)
 | .two u v,a=>ah.fits (.two u v) a
def aC.lD (L:Nat→Nat):aC→List AV→Bool
 | .nil,l=>l.isEmpty
 | .cons p ps,l=>match l with
  | a :: l=>p.lD L a&&ps.lD L l
  | []=>false
end
def aC.D8 (L:Nat→Nat) (ps:aC) (l:List AV):Option ps.T:=bif ps.lD L l then some (ps.a7 l) else none
mutual
theorem ah.iu (L:Nat→Nat):∀ (p:ah) (a:AV),p.lD L a=(p.inst L).fits a
 | .int _,_=>rfl
 | .bool,_=>rfl
 | .str,_=>rfl
 | .agg ps,a=>by
  simp only [ah.lD,ah.inst,ah.fits]
  cases a <;> first | rfl | exact ps.iu L _
 | .bk ps,a=>by
  simp only [ah.lD,ah.inst,ah.fits]
  cases a <;> first | rfl | exact ps.iu L _
 | .list _ _,_=>rfl
 | .own _ _ _,_=>rfl
 | .aU _ _ _,_=>rfl
 | .py _,_=>rfl
 | .two _ _,_=>rfl
theorem aC.iu (L:Nat→Nat):∀ (ps:aC) (l:List AV),ps.lD L l=(ps.inst L).fits l
 | .nil,_=>rfl
 | .cons p ps,l=>by
  cases l with
  | nil=>rfl
  | cons a l=>
   simp only [aC.lD,aC.inst,aC.fits]
   rw [p.iu L a,ps.iu L l]
end
mutual
theorem ah.gI (L:Nat→Nat):∀ (p:ah) (a:AV),p.j5 L (p.a7 a)=(p.inst L).enc ((p.inst L).a7 a)
 | .int _,_=>rfl
 | .bool,_=>rfl
 | .str,_=>rfl
 | .agg ps,a=>congrArg AV.agg (ps.gI L a.iT)
 | .bk ps,a=>congrArg AV.bk (ps.gI L a.KJ)
 | .list _ _,_=>rfl
 | .own _ _ _,_=>rfl
 | .aU _ _ _,_=>rfl
 | .py _,_=>rfl
 | .two _ _,_=>rfl
theorem aC.gI (L:Nat→Nat):∀ (ps:aC) (l:List AV),ps.j5 L (ps.a7 l)=(ps.inst L).enc ((ps.inst L).a7 l)
 | .nil,_=>rfl
 | .cons p .nil,l=>by
  show [p.j5 L (p.a7 (dN l))]=[(p.inst L).enc ((p.inst L).a7 (dN l))]
  rw [p.gI L]
 | .cons p (.cons q ps),l=>by
  show p.j5 L (p.a7 (dN l)) :: (aC.cons q ps).j5 L ((aC.cons q ps).a7 (EQ l))=(p.inst L).enc ((p.inst L).a7 (dN l)) :: ((aC.cons q ps).inst L).enc (((aC.cons q ps).inst L).a7 (EQ l))
  rw [p.gI L,(aC.cons q ps).gI L]
end
mutual
theorem AV.uJ {n:Nat} (L:Nat→Nat):∀ {a:AV},a.under n=true→(a.uI L).under n=true:=fun {a} h=>by
 cases a with
 | dM id f off sz len=>
  unfold AV.uI
  split
  ·rename_i h1
   cases h1
   exact h
  ·rename_i h1
   cases h1
  ·exact h
 | fn f x y=>
  simp only [AV.uI,AV.under,Bool.and_eq_true] at *
  exact ⟨po L h.1,po L h.2⟩
 | _=>exact h
theorem po {n:Nat} (L:Nat→Nat):∀ {l:List AV},aA n l=true→aA n (FQ L l)=true
 | [],_=>rfl
 | a :: l,h=>by
  simp only [FQ,aA,Bool.and_eq_true] at *
  exact ⟨AV.uJ L h.1,po L h.2⟩
end
mutual
theorem ah.iw {n:Nat} (L:Nat→Nat):∀ {p:ah},p.under n=true→(p.inst L).under n=true
 | .int _,_=>rfl
 | .bool,_=>rfl
 | .str,_=>rfl
 | .agg ps,h=>aC.iw L (ps:=ps) h
 | .bk ps,h=>aC.iw L (ps:=ps) h
 | .list _ _,_=>rfl
 | .own _ _ _,h=>h
 | .aU _ _ _,h=>h
 | .py v,h=>AV.uJ L (a:=v) h
 | .two _ _,h=>h
theorem aC.iw {n:Nat} (L:Nat→Nat):∀ {ps:aC},ps.under n=true→(ps.inst L).under n=true
 | .nil,_=>rfl
 | .cons p ps,h=>by
  simp only [aC.inst,aC.under,Bool.and_eq_true] at *
  exact ⟨ah.iw L h.1,aC.iw L h.2⟩
end
theorem AV.wU (L:Nat→Nat) (v:AV):(v.uI L).dC=v.dC:=by
 unfold AV.uI
 split <;> rfl
def mI:List AV→List AV→Prop
 | [],[]=>True
 | a :: l,b :: r=>a.dC.length=b.dC.length∧mI l r
 | _,_=>False
theorem ah.nD (L L':Nat→Nat) (p:ah) (x:p.T):(p.j5 L x).dC=(p.j5 L' x).dC:=by
 cases p with
 | py v=>
  show (v.uI L).dC=(v.uI L').dC
  rw [AV.wU,AV.wU]
 | _=>rfl
theorem aC.nD (L L':Nat→Nat):∀ (ps:aC) (x:ps.T),mI (ps.j5 L x) (ps.j5 L' x)
 | .nil,_=>trivial
 | .cons p .nil,x=>⟨congrArg List.length (p.nD L L' x),trivial⟩
 | .cons p (.cons q ps),x=>⟨congrArg List.length (p.nD L L' x.1),(aC.cons q ps).nD L L' x.2⟩
theorem EL.Pc:∀ {l r:List AV},EL l r→mI l r
 | [],[],_=>trivial
 | _ :: _,_ :: _,h=>⟨h.2.2.1.length,h.2.2.2.Pc⟩
 | [],_ :: _,h=>h.elim
 | _ :: _,[],h=>h.elim
theorem mI.trans:∀ {l r u:List AV},mI l r→mI r u→mI l u
 | [],[],[],_,_=>trivial
 | _ :: _,_ :: _,_ :: _,h,k=>⟨h.1.trans k.1,h.2.trans k.2⟩
 | [],_ :: _,_,h,_=>h.elim
 | _ :: _,[],_,h,_=>h.elim
 | [],[],_ :: _,_,k=>k.elim
 | _ :: _,_ :: _,[],_,k=>k.elim
theorem mI.drop:∀ {l r:List AV} (n:Nat),mI l r→mI (l.drop n) (r.drop n)
 | l,r,0,h=>by simpa using h
 | [],[],_+1,_=>by simp [mI]
 | _ :: _,_ :: _,n+1,h=>by simpa using mI.drop n h.2
 | [],_ :: _,_+1,h=>h.elim
 | _ :: _,[],_+1,h=>h.elim
theorem aC.Ic (L:Nat→Nat) (ps:aC) {l:List AV} {x:ps.T} (h:ps.D8 L l=some x):ca l (ps.j5 L x)∧EL l (ps.j5 L x):=by
 unfold aC.D8 at h
 cases hf:ps.lD L l with
 | true=>
  rw [hf] at h
  cases h
  rw [ps.gI L]
  rw [ps.iu L] at hf
  have hd:(ps.inst L).dec l=some ((ps.inst L).a7 l):=by unfold aC.dec; rw [hf]; rfl
  exact ⟨((ps.inst L).oX hd).1,(ps.inst L).FP hf⟩
 | false=>rw [hf] at h; cases h
theorem aC.BV {n:Nat} (L:Nat→Nat) (ps:aC) (hp:ps.under n=true) (l:List AV):aA n (ps.j5 L (ps.a7 l))=true:=by
 rw [ps.gI L]
 exact (ps.inst L).cK _ (aC.iw L hp)
theorem aC.D9 (L:Nat→Nat) (ps:aC) {l:List AV} {x:ps.T} (h:ps.D8 L l=some x):x=ps.a7 l:=by
 unfold aC.D8 at h
 cases hf:ps.lD L l with
 | true=>rw [hf] at h; cases h; rfl
 | false=>rw [hf] at h; cases h
end Go.Am
namespace Go.Am
open Go
inductive AM
 | open_
 | busy
 | ret
 | ex (i:Nat)
def AM.is:AM→Bool→Option Code→Bool→Bool
 | .open_,false,none,false=>true
 | .busy,true,none,false=>true
 | .ret,false,some .ret,true=>true
 | .ex i,false,some (.exit j),true=>Nat.beq i j
 | _,_,_,_=>false
def AM.b:AM→Bool
 | .busy=>true
 | _=>false
def AM.p:AM→Option Code
 | .ret=>some .ret
 | .ex i=>some (.exit i)
 | _=>none
def AM.d:AM→Bool
 | .ret=>true
 | .ex _=>true
 | _=>false
theorem AM.CW {k:AM} {b:Bool} {p:Option Code} {d:Bool} (h:k.is b p d=true):b=k.b∧p=k.p∧d=k.d:=by
 unfold AM.is at h
 split at h <;> first | exact ⟨rfl,rfl,rfl⟩ | (cases h; done) | skip
 rw [Nat.eq_of_beq_eq_true h]
 exact ⟨rfl,rfl,rfl⟩
inductive GL
 | row (n:Nat)
 | tok (loc sz:Nat) (e:TypeId)
 | dead
 | lp (k:AM)
 | aW
 | map
 | AN
 | du (sz:Nat) (e:TypeId)
 | aU (sz:Nat) (e:TypeId)
 | qk
 | gQ (oS:Nat)
def aS (fs:List Nat):List AV:=fs.map fun n:Nat=>.int .i64 n
def aq (l:List AV):List Nat:=l.map fun a=>a.oU.toNat
theorem sg (fs:List Nat):aq (aS fs)=fs:=by
 induction fs with
 | nil=>rfl
 | cons n fs ih=>
  show (AV.int .i64 n).oU.toNat :: aq (aS fs)=n :: fs
  rw [ih]
  simp [AV.oU]
theorem uK (fs:List Nat):fN (aS fs)=true:=by
 induction fs with
 | nil=>rfl
 | cons n fs ih=>exact ih
def LD (k:AM):GO→GO→Bool
 | .loop _ _ _ _ _ _ _ _ _ _,.loop b p _ _ _ _ _ _ _ d=>k.is b p d
 | _,_=>false
def JU (k:AM):GO→GO
 | .loop _ _ fn sl n ps pi bd d _=>.loop k.b k.p fn sl n ps pi bd d k.d
 | _=>.dead
def aH (es:List (AV × AV)):Bool:=fN (af es)
def ye:GO→GO→Bool
 | .tok f sz e,.tok f' bl e'=>decide (f'=f)&&(Nat.beq bl sz&&Nat.beq e' e)
 | .defers a,.defers b=>match a,b with
  | true,true=>true
  | false,false=>true
  | _,_=>false
 | .dead,_=>true
 | _,_=>false
structure bR where
 ps:aC
 sl:List Tmp
 W:List Tmp
 bx:List (Nat × Nat)
 g:List GL
 NX:List (Tmp × Nat × Nat)
def uL (ae:aT):List Tmp→Option (List AV)
 | []=>some []
 | t :: l=>match lk ae t with
  | .v a=>match uL ae l with
   | some r=>some (a :: r)
   | none=>none
  | _=>none
def uM (bx:ck):List (Nat × Nat)→Option (List AV)
 | []=>some []
 | (k,n) :: l=>match de bx k with
  | some cs=>match uM bx l with
   | some r=>bif Nat.beq cs.length n then some (cs++r) else none
   | none=>none
  | none=>none
def jx:List GL→List GO→Option (List AV)
 | [],_=>some []
 | .row n :: l,.row cs _ :: G=>match jx l G with
  | some r=>bif Nat.beq cs.length n then some (cs++r) else none
  | none=>none
 | .tok _ sz e :: l,.tok _ bl e' :: G=>bif Nat.beq sz bl&&Nat.beq e e' then jx l G else none
 | .dead :: l,_ :: G=>jx l G
 | .lp _ :: l,_ :: G=>jx l G
 | .aW :: l,_ :: G=>jx l G
 | .map :: l,.map es :: G=>match jx l G with
  | some r=>some (.list .kr 2 (af es) :: r)
  | none=>none
 | .AN :: l,.fV s pos :: G=>match jx l G with
  | some r=>some (.str s :: .int .i64 pos :: r)
  | none=>none
 | .du sz e :: l,.du es bl e' :: G=>match jx l G with
  | some r=>bif Nat.beq sz bl&&Nat.beq e e' then some (.list .kr bl es :: r) else none
  | none=>none
 | .aU sz e :: l,.aU fs bl e' :: G=>match jx l G with
  | some r=>bif Nat.beq sz bl&&Nat.beq e e' then some (.list .kr 1 (aS fs) :: r) else none
  | none=>none
 | .qk :: l,.map es :: G=>match jx l G with
  | some r=>some (.list .kr 2 (af es) :: r)
  | none=>none
 | .gQ oS :: l,.gQ mid' n left _ _ :: G=>match jx l G with
  | some r=>bif Nat.beq oS mid' then some (.int .i64 n :: .list .kr 1 (aS left) :: r) else none
  | none=>none
 | _,_=>none
def FR (vs:List AV) (loc:Nat):Nat:=match nth vs loc with
 | some (.list _ _ es)=>es.length
 | _=>0
def JV:GO→GO→Bool
 | .row _ e,.row _ e'=>Nat.beq e e'
 | _,_=>false
def JW:GO→GO→Bool
 | .gQ _ _ _ _ t,.gQ _ _ _ _ t'=>Nat.beq t t'
 | _,_=>false
def Pd:GO→TypeId
 | .gQ _ _ _ _ t=>t
 | _=>0
def Pe:GO→TypeId
 | .row _ e=>e
 | _=>0
def dc (vs:List AV):List GL→List GO→List GO→Bool
 | [],_,_=>true
 | .tok loc _ _ :: l,_ :: B,.tok f _ _ :: G=>decide (f=FR vs loc)&&dc vs l B G
 | .tok _ _ _ :: _,_,_=>false
 | .lp k :: l,o :: B,o' :: G=>LD k o o'&&dc vs l B G
 | .aW :: l,o :: B,o' :: G=>ye o o'&&dc vs l B G
 | .row _ :: l,b :: B,g :: G=>JV b g&&dc vs l B G
 | .map :: l,_ :: B,.map es :: G=>aH es&&dc vs l B G
 | .map :: _,_,_=>false
 | .AN :: l,_ :: B,_ :: G=>dc vs l B G
 | .du _ _ :: l,_ :: B,_ :: G=>dc vs l B G
 | .aU _ _ :: l,_ :: B,_ :: G=>dc vs l B G
 | .qk :: l,_ :: B,_ :: G=>dc vs l B G
 | .gQ _ :: l,b :: B,g :: G=>JW b g&&dc vs l B G
 | .dead :: l,_ :: B,_ :: G=>dc vs l B G
 | _,_,_=>false
def nE:List Tmp→List AV→aT→aT
 | t :: ts,a :: l,r=>.put t (.v a) :: nE ts l r
 | _,_,r=>r
def nF:List (Tmp × Nat × Nat)→aT→aT
 | (t,k,o) :: l,r=>.put t (.lp k o) :: nF l r
 | [],r=>r
def CX (ae:aT):List (Tmp × Nat × Nat)→Bool
 | []=>true
 | (t,k,o) :: l=>(match lk ae t with
  | .lp k' o'=>Nat.beq k' k&&Nat.beq o' o
  | _=>false)&&CX ae l
def uN:List Tmp→aT→aT
 | t :: ts,r=>.put t .none :: uN ts r
 | [],r=>r
def sh:List (Nat × Nat)→List AV→ck→ck
 | (k,n) :: r,l,b=>(k,l.take n) :: sh r (l.drop n) b
 | [],_,b=>b
def cV (vs:List AV):List GL→List GO→List AV→List GO
 | .row n :: r,B,l=>.row (l.take n) (Pe (B.headD .dead)) :: cV vs r B.tail (l.drop n)
 | .tok loc sz e :: r,B,l=>.tok (FR vs loc) sz e :: cV vs r B.tail l
 | .dead :: r,B,l=>.dead :: cV vs r B.tail l
 | .lp k :: r,B,l=>JU k (B.headD .dead) :: cV vs r B.tail l
 | .aW :: r,B,l=>B.headD .dead :: cV vs r B.tail l
 | .map :: r,B,l=>.map (AV.entries (dN l)) :: cV vs r B.tail l.tail
 | .AN :: r,B,l=>.fV (AV.KK (dN l)) (AV.oU (dN l.tail)).toNat :: cV vs r B.tail l.tail.tail
 | .du sz e :: r,B,l=>.du (AV.dC (dN l)) sz e :: cV vs r B.tail l.tail
 | .aU sz e :: r,B,l=>.aU (aq (AV.dC (dN l))) sz e :: cV vs r B.tail l.tail
 | .qk :: r,B,l=>.map (AV.entries (dN l)) :: cV vs r B.tail l.tail
 | .gQ oS :: r,B,l=>.gQ oS (AV.oU (dN l)).toNat (aq (AV.dC (dN l.tail))) none (Pd (B.headD .dead)) :: cV vs r B.tail l.tail.tail
 | [],_,_=>[]
def yf:List (Nat × Nat)→Nat
 | []=>0
 | (_,n) :: l=>n+yf l
def j6:List GL→List AV→Nat→Nat
 | [],_,_=>0
 | .du _ _ :: r,l,i=>match i with
  | 0=>(AV.dC (dN l)).length
  | i+1=>j6 r l.tail i
 | .row n :: r,l,i=>match i with
  | 0=>0
  | i+1=>j6 r (l.drop n) i
 | .map :: r,l,i=>match i with
  | 0=>0
  | i+1=>j6 r l.tail i
 | .AN :: r,l,i=>match i with
  | 0=>0
  | i+1=>j6 r l.tail.tail i
 | .aU _ _ :: r,l,i=>match i with
  | 0=>0
  | i+1=>j6 r l.tail i
 | .qk :: r,l,i=>match i with
  | 0=>0
  | i+1=>j6 r l.tail i
 | .gQ _ :: r,l,i=>match i with
  | 0=>0
  | i+1=>j6 r l.tail.tail i
 | _ :: r,l,i=>match i with
  | 0=>0
  | i+1=>j6 r l i
def bR.oz (t:bR) (v:t.ps.T):List AV:=t.ps.j5 (j6 t.g (((t.ps.j5 (fun _=>0) v).drop t.sl.length).drop (yf t.bx))) v
def bR.st (t:bR) (s:St) (v:t.ps.T):St:=
 ⟨nF t.NX (nE t.sl (t.oz v) (uN t.W s.ae)),sh t.bx ((t.oz v).drop t.sl.length) s.boxes,cV (t.oz v) t.g s.G (((t.oz v).drop t.sl.length).drop (yf t.bx)),s.marks,s.ro,s.n⟩
def Hy:List Nat→Nat→Bool
 | [],_=>false
 | a :: l,n=>Nat.beq a n || Hy l n
def NY (l:List Tmp) (W:List Tmp) (n:Nat):Bool:=Hy l n || Hy W n
def vS (d:Nat) (l W:List Tmp):aT→Bool
 | []=>true
 | .put t (.lp k _) :: r=>(!(Nat.beq k d) || NY l W t)&&vS d l W r
 | _ :: r=>vS d l W r
def rr (l W:List Tmp) (base:aT):aT→Bool
 | []=>true
 | .put d _ :: r=>NY l W d&&rr l W base r
 | .kill d :: r=>vS d l W base&&rr l W base r
def sx:List (Nat × Nat)→Nat→Bool
 | [],_=>false
 | (a,_) :: l,n=>Nat.beq a n || sx l n
def s6 (l:List (Nat × Nat)) (base:ck):ck→Bool
 | []=>true
 | (k,_) :: r=>(sx l k || (de base k).isNone)&&s6 l base r
def Ie:List Nat→List Nat→Bool
 | [],[]=>true
 | a :: l,b :: r=>Nat.beq a b&&Ie l r
 | _,_=>false
def ah.T5 (n:Nat):ah→Bool
 | .list _ p=>p.under n
 | _=>false
def aC.flags (n:Nat):aC→List Bool
 | .nil=>[]
 | .cons p ps=>p.T5 n :: ps.flags n
def j7:List GL→List Bool→Bool
 | [],_=>true
 | .du _ _ :: r,f :: l=>f&&j7 r l
 | .du _ _ :: _,[]=>false
 | .row n :: r,l=>j7 r (fk n l)
 | .map :: r,l=>j7 r (fk 1 l)
 | .AN :: r,l=>j7 r (fk 2 l)
 | .aU _ _ :: r,l=>j7 r (fk 1 l)
 | .qk :: r,f :: l=>f&&j7 r l
 | .qk :: _,[]=>false
 | .gQ _ :: r,l=>j7 r (fk 2 l)
 | _ :: r,l=>j7 r l
def FT (n:Nat):List GL→Bool
 | []=>true
 | .gQ oS :: r=>Nat.blt oS n&&FT n r
 | _ :: r=>FT n r
def bR.ok (t:bR) (s s':St):Bool:=
 rr t.sl t.W s.ae (s'.ae.take (s'.ae.length - s.ae.length))&&s6 t.bx s.boxes (s'.boxes.take (s'.boxes.length - s.boxes.length)) &&
  Ie s'.marks s.marks&&Nat.beq t.g.length s.G.length&&(t.ps.under s.G.length&&(j7 t.g (fk (yf t.bx) (fk t.sl.length (t.ps.flags s.G.length)))&&FT s.G.length t.g))&&CX s'.ae t.NX
def bR.dec (t:bR) (s s':St):Option t.ps.T:=
 bif t.ok s s' then
  match uL s'.ae t.sl,uM s'.boxes t.bx,jx t.g s'.G with
  | some a,some b,some c=>(t.ps.D8 (j6 t.g c) (a++(b++c))).bind fun v=>bif dc (t.oz v) t.g s.G s'.G then some v else none
  | _,_,_=>none
 else none
theorem yg {l:List Nat} {n:Nat}:Hy l n=true↔n∈l:=by
 induction l with
 | nil=>simp [Hy]
 | cons a l ih=>
  simp only [Hy,Bool.or_eq_true,Nat.beq_eq,ih,List.mem_cons]
  constructor
  ·rintro (h | h)
   ·exact .inl h.symm
   ·exact .inr h
  ·rintro (h | h)
   ·exact .inl h.symm
   ·exact .inr h
theorem CY:∀ {a b:List Nat},Ie a b=true→a=b
 | [],[],_=>rfl
 | a :: l,b :: r,h=>by
  simp only [Ie,Bool.and_eq_true,Nat.beq_eq] at h
  rw [h.1,CY h.2]
 | [],_ :: _,h=>by cases h
 | _ :: _,[],h=>by cases h
theorem yh {d:Nat} {l W:List Tmp} {t off:Nat}:∀ {base:aT},vS d l W base=true→lk base t=.lp d off→NY l W t=true
 | [],_,h=>by simp [lk] at h
 | .put t' x :: r,hn,h=>by
  by_cases e:t'=t
  ·subst e
   rw [aw] at h
   subst h
   simp only [vS,Nat.beq_refl,Bool.not_true,Bool.false_or,Bool.and_eq_true] at hn
   exact hn.1
  ·rw [aG e] at h
   refine yh (base:=r) ?_ h
   cases x <;> simp only [vS,Bool.and_eq_true] at hn
   ·exact hn
   ·exact hn
   ·exact hn.2
 | .kill d' :: r,hn,h=>by
  rcases Cw (l:=r) (d:=d') (t:=t) with ⟨h1,_⟩ | h1
  ·rw [h1] at h
   exact yh (base:=r) hn h
  ·rw [h1] at h
   cases h
theorem yi {l W:List Tmp} {base:aT} {t:Nat} (ht:NY l W t=false):∀ {pre:aT},rr l W base pre=true→lk (pre++base) t=lk base t
 | [],_=>rfl
 | .put d x :: r,h=>by
  simp only [rr,Bool.and_eq_true] at h
  have cq:d≠t:=fun e=>by rw [e,ht] at h; exact absurd h.1 (by simp)
  rw [List.cons_append,aG cq]
  exact yi ht h.2
 | .kill d :: r,h=>by
  simp only [rr,Bool.and_eq_true] at h
  have ih:=yi ht h.2
  simp only [List.cons_append,lk,ih]
  cases hb:lk base t with
  | lp k off=>
   by_cases e:k=d
   ·subst e
    have:=yh h.1 hb
    rw [ht] at this
    cases this
   ·simp [lV e]
  | _=>rfl
theorem zW {l:List (Nat × Nat)} {base:ck} {k:Nat} {cs:List AV} (hk:sx l k=false) (hb:de base k=some cs):∀ {pre:ck},s6 l base pre=true→de (pre++base) k=some cs
 | [],_=>hb
 | (d,x) :: r,h=>by
  simp only [s6,Bool.and_eq_true] at h
  have cq:d≠k:=fun e=>by
   rw [e,hk,hb] at h
   exact absurd h.1 (by simp)
  rw [List.cons_append,de,lV cq]
  exact zW hk hb h.2
theorem zX {α:Type} (pre base:List α):(pre++base).take ((pre++base).length - base.length)=pre:=by
 rw [List.length_append,Nat.add_sub_cancel,List.take_left]
def aj.cut (R:aj) (n:Nat):aj:=⟨R.I,R.obj.take n⟩
theorem jy {R:aj} {n id:Nat} {ro:RO}:nth (R.cut n).obj id=some ro↔id < n∧nth R.obj id=some ro:=by
 simp only [aj.cut,aR,List.getElem?_take]
 split
 ·simp_all
 ·simp_all
  omega
theorem nG (R:aj) (n:Nat):Mv R (R.cut n) n:=⟨fun _ _ h=>h,fun _ _ hl h=>jy.2 ⟨hl,h⟩⟩
section xS
variable {E:Env} {R R':aj} {w w':World} {β β':Nat→Nat} {s s':St} {a a':Act}
def uO (R:aj) (w:World) (β:Nat→Nat) (K:Nat→Prop) (ae:aT) (tmps:Array Value):Prop:=
 ∀ i,¬ K i→lk ae i≠.none→∃ c,tmps[i]?=some c∧ow R w β (lk ae i) c
theorem uP {tmps:Array Value} {base:aT}:∀ {W:List Tmp} {K:Nat→Prop},uO R w β (fun i=>i∈W∨K i) base tmps→uO R w β K (uN W base) tmps
 | [],K,h=>fun i hi hn=>h i (by simpa using hi) hn
 | t :: W,K,h=>fun i hi hn=>by
  have ih:uO R w β (fun i=>i=t∨K i) (uN W base) tmps:=uP (W:=W) (fun j hj=>h j (fun hc=>hj (by
   rcases hc with hc | hc
   ·rcases List.mem_cons.1 hc with hc | hc
    ·exact .inr (.inl hc)
    ·exact .inl hc
   ·exact .inr (.inr hc))))
  simp only [uN] at hn ⊢
  by_cases e:t=i
  ·subst e
   rw [aw] at hn
   exact absurd rfl hn
  ·rw [aG e] at hn ⊢
   exact ih i (by simp; exact ⟨fun e'=>e e'.symm,hi⟩) hn
theorem si {n:Nat} (m:Mv R' R n) {tmps:Array Value} {ae:aT} (hT:mQ R' w β ae tmps) {base:aT}:∀ {ts:List Tmp} {K:Nat→Prop} {l l' r r':List AV},uL ae ts=some l→ca (l++r) (l'++r')→l.length=l'.length→aA n l'=true →
  uO R w β (fun i=>i∈ts∨K i) base tmps→uO R w β K (nE ts (l'++r') base) tmps
 | [],K,l,l',r,r',_,_,_,_,h=>fun i hi hn=>by
  have e:nE [] (l'++r') base=base:=rfl
  rw [e] at hn ⊢
  exact h i (by simpa using hi) hn
 | t :: ts,K,l,l',r,r',hg,hw,hl,hu,h=>by
  unfold uL at hg
  split at hg
  ·rename_i a ha
   split at hg
   ·rename_i l0 sB
    cases hg
    cases l' with
    | nil=>simp at hl
    | cons b l'=>
     simp only [List.cons_append,ca] at hw
     simp only [aA,Bool.and_eq_true] at hu
     have ih:uO R w β (fun i=>i=t∨K i) (nE ts (l'++r') base) tmps:=si m hT sB hw.2 (by simpa using hl) hu.2 (fun j hj=>h j (fun hc=>hj (by
      rcases hc with hc | hc
      ·rcases List.mem_cons.1 hc with hc | hc
       ·exact .inr (.inl hc)
       ·exact .inl hc
      ·exact .inr (.inr hc))))
     intro i hi hn
     simp only [nE,List.cons_append] at hn ⊢
     by_cases e:t=i
     ·subst e
      rw [aw] at hn ⊢
      obtain ⟨c,h1,h2⟩:=hT t (by rw [ha]; simp)
      rw [ha] at h2
      exact ⟨c,h1,Rel.move m hu.1 (hw.1 _ _ _ h2)⟩
     ·rw [aG e] at hn ⊢
      exact ih i (by simp; exact ⟨fun e'=>e e'.symm,hi⟩) hn
   ·cases hg
  ·cases hg
def uQ (R:aj) (w:World) (β:Nat→Nat) (k:Nat) (cs:List AV):Prop:=
 (∃ vs el,w.heap[β k]?=some (.cells ⟨vs⟩ el (0,0))∧aE R w cs vs∧(∀ v∈vs,v.oneCell'=true))∧(∀ o,¬ R.I (β k) o)∧¬ Live R (β k)
theorem zY {R:aj} {n b:Nat} (h:Live (R.cut n) b):Live R b:=by
 obtain ⟨id,ro,h1,h2⟩:=h
 exact ⟨id,ro,(jy.1 h1).2,h2⟩
theorem uQ.cut {n k:Nat} {cs eO:List AV} (h:uQ R w β k cs) (hw:ca cs eO) (hu:aA n eO=true):uQ (R.cut n) w β k eO:=by
 obtain ⟨⟨vs,el,h1,h2,h3⟩,h4,h5⟩:=h
 exact ⟨⟨vs,el,h1,(hw.rel h2).move (nG R n) hu,h3⟩,h4,fun hl=>h5 (zY hl)⟩
theorem fg {n:Nat}:∀ {l r:List AV},aA n (l++r)=(aA n l&&aA n r)
 | [],r=>by simp [aA]
 | a :: l,r=>by simp [aA,fg (l:=l),Bool.and_assoc]
theorem ca.split:∀ {l r l':List AV},ca (l++r) l'→∃ a b,l'=a++b∧ca l a∧ca r b∧a.length=l.length
 | [],r,l',h=>⟨[],l',rfl,trivial,h,rfl⟩
 | x :: l,r,[],h=>h.elim
 | x :: l,r,y :: l',h=>by
  obtain ⟨a,b,rfl,h2,h3,h4⟩:=ca.split (l:=l) (r:=r) (l':=l') h.2
  exact ⟨y :: a,b,rfl,⟨h.1,h2⟩,h3,by simp [h4]⟩
theorem zZ {n:Nat} {QM:ck} (hb:∀ k cs,de QM k=some cs→uQ R w β k cs) {base:ck}:∀ {bx:List (Nat × Nat)} {K:Nat→Prop} {l l' r:List AV},uM QM bx=some l→ca l l'→aA n l'=true →
  (∀ k cs,¬ K k→sx bx k=false→de base k=some cs→de QM k=some cs∧aA n cs=true) →
  ∀ k cs,¬ K k→de (sh bx (l'++r) base) k=some cs→uQ (R.cut n) w β k cs∧∃ eO,de QM k=some eO
 | [],K,l,l',r,_,_,_,h,k,cs,hK,hk=>by
  obtain ⟨h1,h2⟩:=h k cs hK rfl hk
  exact ⟨(hb k cs h1).cut (ca.refl _) h2,cs,h1⟩
 | (d,m) :: bx,K,l,l',r,hg,hw,hu,h,k,cs,hK,hk=>by
  unfold uM at hg
  split at hg
  ·rename_i OZ hd
   split at hg
   ·rename_i l0 sB
    cases hm:Nat.beq OZ.length m with
    | false=>rw [hm] at hg; cases hg
    | true=>
     rw [hm] at hg
     cases hg
     have hm:=Nat.eq_of_beq_eq_true hm
     obtain ⟨x,y,rfl,k1,k2,k3⟩:=hw.split
     rw [fg,Bool.and_eq_true] at hu
     have e1:((x++y)++r).take m=x:=by rw [List.append_assoc,← hm,← k3,List.take_left]
     have e2:((x++y)++r).drop m=y++r:=by rw [List.append_assoc,← hm,← k3,List.drop_left]
     simp only [sh,e1,e2] at hk
     rcases eA hk with ⟨rfl,rfl⟩ | ⟨cq,hk⟩
     ·exact ⟨(hb d OZ hd).cut k1 hu.1,OZ,hd⟩
     ·refine zZ hb (K:=fun k=>k=d∨K k) (r:=r) sB k2 hu.2 (fun k' eO T6 h1 h2=>?_) k cs (fun hc=>?_) hk
      ·exact h k' eO (fun hc=>T6 (.inr hc)) (by simp only [sx,h1,Bool.or_false]; exact lV (fun e=>T6 (.inl e.symm))) h2
      ·rcases hc with hc | hc
       ·exact cq hc.symm
       ·exact hK hc
   ·cases hg
  ·cases hg
def uR (n:Nat):List GL→List AV→Prop
 | [],_=>True
 | .du _ _ :: r,l=>aA n (AV.dC (dN l))=true∧uR n r l.tail
 | .row m :: r,l=>uR n r (l.drop m)
 | .map :: r,l=>uR n r l.tail
 | .AN :: r,l=>uR n r l.tail.tail
 | .aU _ _ :: r,l=>uR n r l.tail
 | .qk :: r,l=>aA n (AV.dC (dN l))=true∧uR n r l.tail
 | .gQ _ :: r,l=>uR n r l.tail.tail
 | _ :: r,l=>uR n r l
def nH (n:Nat):List Bool→List AV→Prop
 | [],_=>True
 | _ :: _,[]=>True
 | f :: fl,a :: l=>(f=true→aA n a.dC=true)∧nH n fl l
theorem nH.drop {m:Nat}:∀ {fl:List Bool} {l:List AV} (n:Nat),nH m fl l→nH m (fk n fl) (l.drop n)
 | _,_,0,h=>by simpa [fk] using h
 | [],_,_+1,_=>by simp [fk,nH]
 | _ :: fl,[],n+1,_=>by
  rw [List.drop_nil]
  cases fk (n+1) (_ :: fl) <;> trivial
 | _ :: fl,_ :: l,n+1,h=>by simpa [fk] using nH.drop n h.2
theorem fx {m:Nat}:∀ (g:List GL) {fl:List Bool} {l:List AV},j7 g fl=true→nH m fl l→uR m g l
 | [],_,_,_,_=>trivial
 | .du _ _ :: g,[],_,h,_=>by cases h
 | .du _ _ :: g,f :: fl,[],h,_=>by
  simp only [j7,Bool.and_eq_true] at h
  refine ⟨rfl,fx g (fl:=fl) h.2 ?_⟩
  cases fl <;> trivial
 | .du _ _ :: g,f :: fl,a :: l,h,k=>by
  simp only [j7,Bool.and_eq_true] at h
  exact ⟨k.1 h.1,fx g h.2 k.2⟩
 | .row n :: g,fl,l,h,k=>fx g (show j7 g (fk n fl)=true from h) (k.drop n)
 | .map :: g,fl,l,h,k=>by
  have:=fx g (show j7 g (fk 1 fl)=true from h) (k.drop 1)
  rw [List.drop_one] at this
  exact this
 | .AN :: g,fl,l,h,k=>by
  have:=fx g (show j7 g (fk 2 fl)=true from h) (k.drop 2)
  have e:l.drop 2=l.tail.tail:=by cases l with
   | nil=>rfl
   | cons a l=>cases l <;> rfl
  rw [e] at this
  exact this
 | .aU _ _ :: g,fl,l,h,k=>by
  have:=fx g (show j7 g (fk 1 fl)=true from h) (k.drop 1)
  rw [List.drop_one] at this
  exact this
 | .gQ _ :: g,fl,l,h,k=>by
  have:=fx g (show j7 g (fk 2 fl)=true from h) (k.drop 2)
  have e:l.drop 2=l.tail.tail:=by cases l with
   | nil=>rfl
   | cons a l=>cases l <;> rfl
  rw [e] at this
  exact this
 | .qk :: g,[],_,h,_=>by cases h
 | .qk :: g,f :: fl,[],h,_=>by
  simp only [j7,Bool.and_eq_true] at h
  refine ⟨rfl,fx g (fl:=fl) h.2 ?_⟩
  cases fl <;> trivial
 | .qk :: g,f :: fl,a :: l,h,k=>by
  simp only [j7,Bool.and_eq_true] at h
  exact ⟨k.1 h.1,fx g h.2 k.2⟩
 | .tok _ _ _ :: g,fl,l,h,k=>fx g (show j7 g fl=true from h) k
 | .dead :: g,fl,l,h,k=>fx g (show j7 g fl=true from h) k
 | .lp _ :: g,fl,l,h,k=>fx g (show j7 g fl=true from h) k
 | .aW :: g,fl,l,h,k=>fx g (show j7 g fl=true from h) k
theorem uS {n:Nat} {α:Type} {g:α→AV} (hg:∀ x,(g x).under n=true):∀ xs:List α,aA n (xs.map g)=true
 | []=>rfl
 | x :: xs=>by simp only [List.map_cons,aA,hg x,uS hg xs,Bool.and_self]
theorem aC.z6 (n:Nat) (L:Nat→Nat):∀ (ps:aC) (x:ps.T),nH n (ps.flags n) (ps.j5 L x)
 | .nil,_=>trivial
 | .cons p .nil,x=>⟨fun h=>JX L p x h,trivial⟩
 | .cons p (.cons q ps),x=>⟨fun h=>JX L p x.1 h,(aC.cons q ps).z6 n L x.2⟩
where
 JX (L:Nat→Nat):∀ (p:ah) (x:p.T),p.T5 n=true→aA n (p.j5 L x).dC=true
  | .list _ p,x,h=>uS (fun y=>p.cK y h) _
  | .int _,_,h=>by cases h
  | .bool,_,h=>by cases h
  | .str,_,h=>by cases h
  | .agg _,_,h=>by cases h
  | .bk _,_,h=>by cases h
  | .own _ _ _,_,h=>by cases h
  | .aU _ _ _,_,h=>by cases h
  | .py _,_,h=>by cases h
  | .two _ _,_,h=>by cases h
def RS (n:Nat):GO→GO→Prop
 | .row cs el,.row eO Qx=>Qx=el∧ca cs eO∧aA n eO=true
 | .tok f sz e,.tok f' bl e'=>f=f'∧sz=bl∧e=e'
 | .defers a,.defers b=>a=b
 | .map es,.map es'=>(es'=es∧aH es=true)∨∃ l,es'=ab l∧jg (af es) l∧aA n l=true
 | .aU fs sz e,.aU xw bl e'=>fs=xw∧sz=bl∧e=e'
 | .gQ oS m left _ t,.gQ mid' m' wE cur t'=>oS=mid'∧m=m'∧left=wE∧t=t'∧oS < n∧cur=none
 | .fV l p,.fV l' p'=>l'=l∧p'=p
 | .du es sz e,.du es' bl e'=>bl=sz∧e'=e∧jg es es'∧aA n es'=true
 | _,.dead=>True
 | _,_=>False
def RT:GO→GO→GO→Prop
 | .loop _ _ fn sl n ps pi bd d _,.loop b p _ _ _ _ _ _ _ dn,go=>go=.loop b p fn sl n ps pi bd d dn
 | _,_,_=>False
theorem Ea {n:Nat} {o o':GO} (h:ye o o'=true):RS n o' o:=by
 cases o with
 | tok f sz e=>
  cases o' with
  | tok f' bl e'=>
   simp only [ye,Bool.and_eq_true] at h
   exact ⟨of_decide_eq_true h.1,Nat.eq_of_beq_eq_true h.2.1,Nat.eq_of_beq_eq_true h.2.2⟩
  | _=>cases h
 | defers a=>
  cases o' with
  | defers b=>cases a <;> cases b <;> first | rfl | cases h
  | _=>cases h
 | dead=>cases o' <;> trivial
 | _=>cases h
theorem Ig {k:AM} {o o':GO} (h:LD k o o'=true):RT o o' (JU k o):=by
 cases o with
 | loop b p fn sl n ps pi bd d dn=>
  cases o' with
  | loop b' p' RU NV n' Pf Ih NZ d' dn'=>
   obtain ⟨rfl,rfl,rfl⟩:=AM.CW (show k.is b' p' dn'=true from h)
   rfl
  | _=>cases h
 | _=>cases h
theorem oM (a:AV):a.entries=ab a.dC:=by cases a <;> rfl
theorem gz {n:Nat} {vs:List AV}:∀ {g:List GL} {B G:List GO} {l l':List AV},jx g G=some l→ca l l'→EL l l'→uR n g l'∧FT n g=true→aA n l'=true→dc vs g B G=true →
  ∀ id go,nth (cV vs g B l') id=some go→∃ go',nth G id=some go'∧(RS n go' go∨∃ EH,nth B id=some EH∧RT EH go' go)
 | [],B,G,l,l',_,_,_,_,_,_,id,go,h=>by simp [cV,nth] at h
 | x :: g,[],G,l,l',_,_,_,_,_,ht,_,_,_=>by cases x <;> cases G <;> cases ht
 | x :: g,_ :: _,[],l,l',_,_,_,_,_,ht,_,_,_=>by cases x <;> cases ht
 | .row m :: g,b :: B,o :: G,l,l',hg,hw,hx,qL,hu,ht,id,go,h=>by
   obtain ⟨DP,BO⟩:JV b o=true∧dc vs g B G=true:=by
    rw [← Bool.and_eq_true]
    cases o <;> exact ht
   cases o with
   | row cs el=>
    have nV:Pe b=el:=by
     cases b <;> first | (cases DP; done) | exact Nat.eq_of_beq_eq_true DP
    change (match jx g G with
     | some r=>bif Nat.beq cs.length m then some (cs++r) else none
     | none=>none)=some l at hg
    split at hg
    ·rename_i r hr
     cases hm:Nat.beq cs.length m with
     | false=>rw [hm] at hg; cases hg
     | true=>
      rw [hm] at hg
      cases hg
      have hm:=Nat.eq_of_beq_eq_true hm
      obtain ⟨x,y,rfl,k1,k2,k3⟩:=hw.split
      rw [fg,Bool.and_eq_true] at hu
      have e1:(x++y).take m=x:=by rw [← hm,← k3,List.take_left]
      have e2:(x++y).drop m=y:=by rw [← hm,← k3,List.drop_left]
      simp only [cV,e1,e2] at h
      cases id with
      | zero=>simp only [nth] at h; cases h; exact ⟨.row cs el,rfl,.inl ⟨nV,k1,hu.1⟩⟩
      | succ id=>exact gz hr k2 (by obtain ⟨x',y',TV,XM,Hv,VB⟩:=hx.split; have:=List.append_inj TV (by rw [k3,VB]); rw [this.2]; exact Hv) (by rw [← e2]; exact qL) hu.2 BO id go h
    ·cases hg
   | _=>cases hg
 | .tok loc sz e :: g,b :: B,o :: G,l,l',hg,hw,hx,qL,hu,ht,id,go,h=>by
   cases o with
   | tok f bl e'=>
    change (bif Nat.beq sz bl&&Nat.beq e e' then jx g G else none)=some l at hg
    change (decide (f=FR vs loc)&&dc vs g B G)=true at ht
    rw [Bool.and_eq_true] at ht
    cases hm:(Nat.beq sz bl&&Nat.beq e e') with
    | false=>rw [hm] at hg; cases hg
    | true=>
     rw [hm] at hg
     rw [Bool.and_eq_true] at hm
     have q1:=Nat.eq_of_beq_eq_true hm.1
     have q2:=Nat.eq_of_beq_eq_true hm.2
     simp only [cV] at h
     cases id with
     | zero=>
      simp only [nth] at h
      cases h
      exact ⟨.tok f bl e',rfl,.inl ⟨of_decide_eq_true ht.1,q1.symm,q2.symm⟩⟩
     | succ id=>exact gz hg hw hx qL hu ht.2 id go h
   | _=>cases hg
 | .dead :: g,b :: B,o :: G,l,l',hg,hw,hx,qL,hu,ht,id,go,h=>by
   simp only [cV] at h
   have yN:jx g G=some l:=by cases o <;> exact hg
   have BO:dc vs g B G=true:=by cases o <;> exact ht
   cases id with
   | zero=>
    simp only [nth] at h
    cases h
    exact ⟨o,rfl,.inl (by cases o <;> trivial)⟩
   | succ id=>exact gz yN hw hx qL hu BO id go h
 | .lp k :: g,b :: B,o :: G,l,l',hg,hw,hx,qL,hu,ht,id,go,h=>by
   simp only [cV] at h
   have yN:jx g G=some l:=by cases o <;> exact hg
   change (LD k b o&&dc vs g B G)=true at ht
   rw [Bool.and_eq_true] at ht
   cases id with
   | zero=>
    simp only [nth] at h
    cases h
    exact ⟨o,rfl,.inr ⟨b,rfl,Ig ht.1⟩⟩
   | succ id=>exact gz yN hw hx qL hu ht.2 id go h
 | .aW :: g,b :: B,o :: G,l,l',hg,hw,hx,qL,hu,ht,id,go,h=>by
   simp only [cV] at h
   have yN:jx g G=some l:=by cases o <;> exact hg
   change (ye b o&&dc vs g B G)=true at ht
   rw [Bool.and_eq_true] at ht
   cases id with
   | zero=>
    simp only [nth] at h
    cases h
    exact ⟨o,rfl,.inl (Ea ht.1)⟩
   | succ id=>exact gz yN hw hx qL hu ht.2 id go h
 | .map :: g,b :: B,o :: G,l,l',hg,hw,hx,qL,hu,ht,id,go,h=>by
   cases o with
   | map es=>
    change (match jx g G with
     | some r=>some (AV.list .kr 2 (af es) :: r)
     | none=>none)=some l at hg
    change (aH es&&dc vs g B G)=true at ht
    rw [Bool.and_eq_true] at ht
    split at hg
    ·rename_i r hr
     cases hg
     cases l' with
     | nil=>exact hw.elim
     | cons a l'=>
      simp only [aA,Bool.and_eq_true] at hu
      simp only [cV,dN,List.tail_cons] at h
      cases id with
      | zero=>
       simp only [nth] at h
       cases h
       refine ⟨.map es,rfl,.inl (.inl ⟨?_,ht.1⟩)⟩
       rw [oM,hx.2.1 ht.1]
       exact mG es
      | succ id=>exact gz hr hw.2 hx.2.2.2 qL hu.2 ht.2 id go h
    ·cases hg
   | _=>cases hg
 | .AN :: g,b :: B,o :: G,l,l',hg,hw,hx,qL,hu,ht,id,go,h=>by
   have BO:dc vs g B G=true:=by cases o <;> exact ht
   cases o with
   | fV s pos=>
    change (match jx g G with
     | some r=>some (AV.str s :: AV.int .i64 pos :: r)
     | none=>none)=some l at hg
    split at hg
    ·rename_i r hr
     cases hg
     match l',hw,hx,hu,h with
     | [],hw,_,_,_=>exact hw.elim
     | [_],hw,_,_,_=>exact hw.2.elim
     | a :: a' :: l',hw,hx,hu,h=>
      simp only [aA,Bool.and_eq_true] at hu
      simp only [cV,dN,List.tail_cons] at h
      have e1:=hx.1 (by simp [AV.exact])
      have e2:=hx.2.2.2.1 (by simp [AV.exact])
      subst e1 e2
      cases id with
      | zero=>
       simp only [nth] at h
       cases h
       exact ⟨.fV s pos,rfl,.inl ⟨rfl,by simp [AV.oU]⟩⟩
      | succ id=>exact gz hr hw.2.2 hx.2.2.2.2.2.2 qL hu.2.2 BO id go h
    ·cases hg
   | _=>cases hg
 | .du sz e :: g,b :: B,o :: G,l,l',hg,hw,hx,qL,hu,ht,id,go,h=>by
   have BO:dc vs g B G=true:=by cases o <;> exact ht
   cases o with
   | du es bl e'=>
    change (match jx g G with
     | some r=>bif Nat.beq sz bl&&Nat.beq e e' then some (AV.list .kr bl es :: r) else none
     | none=>none)=some l at hg
    split at hg
    ·rename_i r hr
     cases hm:(Nat.beq sz bl&&Nat.beq e e') with
     | false=>rw [hm] at hg; cases hg
     | true=>
     rw [hm] at hg
     rw [Bool.and_eq_true] at hm
     have q1:=Nat.eq_of_beq_eq_true hm.1
     have q2:=Nat.eq_of_beq_eq_true hm.2
     cases hg
     cases l' with
     | nil=>exact hw.elim
     | cons a l'=>
      simp only [aA,Bool.and_eq_true] at hu
      simp only [cV,dN,List.tail_cons] at h
      cases id with
      | zero=>
       simp only [nth] at h
       cases h
       exact ⟨.du es bl e',rfl,.inl ⟨q1,q2,hx.2.2.1,qL.1.1⟩⟩
      | succ id=>exact gz hr hw.2 hx.2.2.2 ⟨qL.1.2,qL.2⟩ hu.2 BO id go h
    ·cases hg
   | _=>cases hg
 | .aU sz e :: g,b :: B,o :: G,l,l',hg,hw,hx,qL,hu,ht,id,go,h=>by
   have BO:dc vs g B G=true:=by cases o <;> exact ht
   cases o with
   | aU fs bl e'=>
    change (match jx g G with
     | some r=>bif Nat.beq sz bl&&Nat.beq e e' then some (AV.list .kr 1 (aS fs) :: r) else none
     | none=>none)=some l at hg
    split at hg
    ·rename_i r hr
     cases hm:(Nat.beq sz bl&&Nat.beq e e') with
     | false=>rw [hm] at hg; cases hg
     | true=>
     rw [hm] at hg
     rw [Bool.and_eq_true] at hm
     have q1:=Nat.eq_of_beq_eq_true hm.1
     have q2:=Nat.eq_of_beq_eq_true hm.2
     cases hg
     cases l' with
     | nil=>exact hw.elim
     | cons a l'=>
      simp only [aA,Bool.and_eq_true] at hu
      simp only [cV,dN,List.tail_cons] at h
      cases id with
      | zero=>
       simp only [nth] at h
       cases h
       refine ⟨.aU fs bl e',rfl,.inl ⟨?_,q1.symm,q2.symm⟩⟩
       rw [hx.2.1 (uK fs)]
       exact (sg fs).symm
      | succ id=>exact gz hr hw.2 hx.2.2.2 qL hu.2 BO id go h
    ·cases hg
   | _=>cases hg
 | .qk :: g,b :: B,o :: G,l,l',hg,hw,hx,qL,hu,ht,id,go,h=>by
   have BO:dc vs g B G=true:=by cases o <;> exact ht
   cases o with
   | map es=>
    change (match jx g G with
     | some r=>some (AV.list .kr 2 (af es) :: r)
     | none=>none)=some l at hg
    split at hg
    ·rename_i r hr
     cases hg
     cases l' with
     | nil=>exact hw.elim
     | cons a l'=>
      simp only [aA,Bool.and_eq_true] at hu
      simp only [cV,dN,List.tail_cons] at h
      cases id with
      | zero=>
       simp only [nth] at h
       cases h
       exact ⟨.map es,rfl,.inl (.inr ⟨a.dC,oM a,hx.2.2.1,qL.1.1⟩)⟩
      | succ id=>exact gz hr hw.2 hx.2.2.2 ⟨qL.1.2,qL.2⟩ hu.2 BO id go h
    ·cases hg
   | _=>cases hg
 | .gQ oS :: g,b :: B,o :: G,l,l',hg,hw,hx,qL,hu,ht,id,go,h=>by
   obtain ⟨DP,BO⟩:JW b o=true∧dc vs g B G=true:=by
    rw [← Bool.and_eq_true]
    cases o <;> exact ht
   cases o with
   | gQ mid' k left cur t=>
    have nV:Pd b=t:=by
     cases b <;> first | (cases DP; done) | exact Nat.eq_of_beq_eq_true DP
    change (match jx g G with
     | some r=>bif Nat.beq oS mid' then some (AV.int .i64 k :: AV.list .kr 1 (aS left) :: r) else none
     | none=>none)=some l at hg
    split at hg
    ·rename_i r hr
     cases hm:Nat.beq oS mid' with
     | false=>rw [hm] at hg; cases hg
     | true=>
     rw [hm] at hg
     have q1:=Nat.eq_of_beq_eq_true hm
     subst q1
     cases hg
     have RV:=qL.2
     simp only [FT,Bool.and_eq_true] at RV
     match l',hw,hx,hu,h with
     | [],hw,_,_,_=>exact hw.elim
     | [_],hw,_,_,_=>exact hw.2.elim
     | a :: a' :: l',hw,hx,hu,h=>
      simp only [aA,Bool.and_eq_true] at hu
      simp only [cV,dN,List.tail_cons] at h
      have e1:=hx.1 (by simp [AV.exact])
      have e2:=hx.2.2.2.2.1 (uK left)
      subst e1
      cases id with
      | zero=>
       simp only [nth] at h
       cases h
       refine ⟨.gQ oS k left cur t,rfl,.inl ⟨rfl,by simp [AV.oU],?_,nV.symm,jf RV.1,rfl⟩⟩
       rw [e2]
       exact (sg left).symm
      | succ id=>exact gz hr hw.2.2 hx.2.2.2.2.2.2 ⟨qL.1,RV.2⟩ hu.2.2 BO id go h
    ·cases hg
   | _=>cases hg
theorem cF {vs:List AV}:∀ {g:List GL} {B:List GO} {l:List AV},(cV vs g B l).length=g.length
 | [],_,_=>rfl
 | .row m :: g,B,l=>by simp [cV,cF (g:=g)]
 | .tok _ _ _ :: g,B,l=>by simp [cV,cF (g:=g)]
 | .dead :: g,B,l=>by simp [cV,cF (g:=g)]
 | .lp _ :: g,B,l=>by simp [cV,cF (g:=g)]
 | .aW :: g,B,l=>by simp [cV,cF (g:=g)]
 | .map :: g,B,l=>by simp [cV,cF (g:=g)]
 | .du _ _ :: g,B,l=>by simp [cV,cF (g:=g)]
 | .AN :: g,B,l=>by simp [cV,cF (g:=g)]
 | .aU _ _ :: g,B,l=>by simp [cV,cF (g:=g)]
 | .qk :: g,B,l=>by simp [cV,cF (g:=g)]
 | .gQ _ :: g,B,l=>by simp [cV,cF (g:=g)]
theorem fZ.VC {R0:aj} {w0:World} {JY:RO} {EH go' go:GO} {ro:RO} (e:Ext R0 w0 R w) (h0:fZ R0 w0 EH JY) (hle:bZ JY ro) (h:fZ R' w go' ro) (k:RT EH go' go):fZ R w go ro:=by
 cases EH with
 | loop b p fn sl n ps pi bd d dn=>
  cases go' with
  | loop b' p' RU NV n' Pf Ih NZ d' dn'=>
   change go=_ at k
   subst k
   cases JY with
   | bq bb=>
    simp only [bZ] at hle
    subst hle
    obtain ⟨⟨r0,RW,l1,l2,l3,l4,l5,l6,l7,l8,l9,T7⟩,l11⟩:=h0
    obtain ⟨⟨r,db,m1,m2,m3,m4,m5,m6,m7,m8,m9,m10⟩,m11⟩:=h
    obtain ⟨r1,q1,q2,q3,q4,q5,q6⟩:=e.lp bb r0 l1
    have hr:r1=r:=by
     have:=q1.symm.trans m1
     injection this with this
     injection this with this
    subst hr
    exact ⟨⟨r1,RW,q1,m2,m3,by rw [q2]; exact mQ.mono e l4,by rw [q2]; exact l5,by rw [q3]; exact l6,by rw [q4]; exact l7,by rw [q5]; exact l8,by rw [q6]; exact l9,e.bq T7⟩,l11⟩
   | none=>exact h0.elim
   | bj=>exact h0.elim
   | tok _ _ _=>exact h0.elim
   | aU _=>exact h0.elim
  | _=>exact k.elim
 | _=>exact k.elim
theorem cU.cut {n:Nat}:∀ {es:List (AV × AV)} {av:List MapEntry},fN (af es)=true→cU R w es av→cU (R.cut n) w es av
 | [],[],_,_=>trivial
 | [],_ :: _,_,h=>h.elim
 | _ :: _,[],_,h=>h.elim
 | (k,v) :: es,en :: av,he,h=>by
  simp only [af,fN,AV.exact,Bool.and_true,Bool.and_eq_true] at he
  exact ⟨h.1.move (nG R n) (gX n (ms he.1.1)),h.2.1.move (nG R n) (gX n (ms he.1.2)),cU.cut he.2 h.2.2⟩
theorem z7 {n:Nat} {v:AV} (h:v.under n=true) (k:v.aL=true):aA n v.cells=true:=by
 cases v <;> first | exact h | (simp [AV.aL] at k; done) | (simp only [AV.cells,aA,Bool.and_true]; exact h)
theorem uT {n sz:Nat}:∀ {es es':List AV},jg es es'→dg sz es→aA n es'=true→dg sz es'∧ca (ar es) (ar es')∧aA n (ar es')=true
 | [],[],_,_,_=>⟨(fun e he=>by simp at he),trivial,rfl⟩
 | e :: es,e' :: es',h,k,pM=>by
  obtain ⟨h1,h2⟩:=h
  simp only [aA,Bool.and_eq_true] at pM
  obtain ⟨q1,q2⟩:=k e (by simp)
  obtain ⟨i1,i2,i3⟩:=uT h2 (fun x hx=>k x (by simp [hx])) pM.2
  have hc:=h1.cells q2
  have ht:e'.aL=true:=by rw [h1.bk,q2]
  refine ⟨fun x hx=>?_,hc.append i2,by show aA n (e'.cells++ar es')=true; rw [fg,z7 pM.1 ht,i3]; rfl⟩
  rcases List.mem_cons.1 hx with rfl | hx
  ·exact ⟨by rw [← hc.length,q1],ht⟩
  ·exact i1 x hx
 | [],_ :: _,h,_,_=>h.elim
 | _ :: _,[],h,_,_=>h.elim
theorem mI.head {l r:List AV} (h:mI l r):(AV.dC (dN l)).length=(AV.dC (dN r)).length:=by
 cases l <;> cases r <;> first | rfl | exact h.1 | exact h.elim
theorem mI.tail {l r:List AV} (h:mI l r):mI l.tail r.tail:=by
 cases l <;> cases r <;> first | exact h | exact h.2 | exact h.elim
theorem cG:∀ (g:List GL) {l r:List AV} (i:Nat),mI l r→j6 g l i=j6 g r i
 | [],_,_,_,_=>rfl
 | .du _ _ :: g,l,r,0,h=>h.head
 | .du _ _ :: g,l,r,i+1,h=>cG g i h.tail
 | .row _ :: g,l,r,0,h=>rfl
 | .row n :: g,l,r,i+1,h=>cG g i (h.drop n)
 | .map :: g,l,r,0,h=>rfl
 | .map :: g,l,r,i+1,h=>cG g i h.tail
 | .AN :: g,l,r,0,h=>rfl
 | .AN :: g,l,r,i+1,h=>cG g i h.tail.tail
 | .aU _ _ :: g,l,r,0,h=>rfl
 | .aU _ _ :: g,l,r,i+1,h=>cG g i h.tail
 | .qk :: g,l,r,0,h=>rfl
 | .qk :: g,l,r,i+1,h=>cG g i h.tail
 | .gQ _ :: g,l,r,0,h=>rfl
 | .gQ _ :: g,l,r,i+1,h=>cG g i h.tail.tail
 | .tok _ _ _ :: g,l,r,0,h=>rfl
 | .tok _ _ _ :: g,l,r,i+1,h=>cG g i h
 | .dead :: g,l,r,0,h=>rfl
 | .dead :: g,l,r,i+1,h=>cG g i h
 | .lp _ :: g,l,r,0,h=>rfl
 | .lp _ :: g,l,r,i+1,h=>cG g i h
 | .aW :: g,l,r,0,h=>rfl
 | .aW :: g,l,r,i+1,h=>cG g i h
theorem cU.Pg {n:Nat}:∀ {es:List (AV × AV)} {l:List AV} {av:List MapEntry},jg (af es) l→aA n l=true→cU R w es av→cU (R.cut n) w (ab l) av
 | [],[],[],_,_,_=>trivial
 | [],[],_ :: _,_,_,h=>h.elim
 | [],_ :: _,_,h,_,_=>h.elim
 | (_,_) :: _,[],_,h,_,_=>h.elim
 | (_,_) :: _,_ :: _,[],_,_,h=>h.elim
 | (k,v) :: es,a :: l,en :: av,hd,hu,h=>by
  obtain ⟨d1,d2⟩:=hd
  simp only [aA,Bool.and_eq_true] at hu
  have hc:=d1.cells rfl
  have hl:[k,v].length=a.cells.length:=hc.length
  cases a with
  | agg cs=>
   match cs,hc,hl with
   | [k',v'],hc,_=>
    have LF:aA n [k',v']=true:=hu.1
    simp only [aA,Bool.and_true,Bool.and_eq_true] at LF
    exact ⟨(hc.1 _ _ _ h.1).move (nG R n) LF.1,(hc.2.1 _ _ _ h.2.1).move (nG R n) LF.2,cU.Pg d2 hu.2 h.2.2⟩
   | [],_,hl=>simp [AV.cells] at hl
   | [_],_,hl=>simp [AV.cells] at hl
   | _ :: _ :: _ :: _,_,hl=>simp [AV.cells] at hl
  | _=>simp [AV.cells] at hl
theorem fZ.VD {n:Nat} {go go':GO} {ro:RO} (h:fZ R w go' ro) (k:RS n go' go):fZ (R.cut n) w go ro:=by
 cases go with
 | dead=>
  cases ro with
  | none=>trivial
  | bj=>trivial
  | bq b=>exact h.lt rfl
  | tok f b c=>exact h.lt rfl
  | aU ts=>exact fun j f b c hj=>h.lt ⟨j,f,c,hj⟩
 | row cs el=>
  cases go' with
  | row eO Qx=>
   cases ro with
   | bq b=>
    obtain ⟨vs,h1,h2,h3,h4⟩:=h
    obtain ⟨rfl,k⟩:=k
    exact ⟨vs,h1,(k.1.rel h2).move (nG R n) k.2,h3,h4⟩
   | none=>exact h.elim
   | bj=>exact h.elim
   | tok _ _ _=>exact h.elim
   | aU _=>exact h.elim
  | _=>exact k.elim
 | tok f sz e=>
  cases go' with
  | tok f' bl e'=>
   obtain ⟨rfl,rfl,rfl⟩:=k
   cases ro with
   | bq b=>exact h.elim
   | none=>exact h.elim
   | bj=>exact h
   | tok _ _ _=>exact h
   | aU _=>exact h.elim
  | _=>exact k.elim
 | defers a=>
  cases go' with
  | defers b=>
   change b=a at k
   subst k
   cases ro <;> exact h
  | _=>exact k.elim
 | map es=>
  cases go' with
  | map es'=>
   cases ro with
   | bq b=>
    obtain ⟨av,clock,h1,h2,h3⟩:=h
    rcases k with ⟨rfl,k2⟩ | ⟨l,rfl,k2,k3⟩
    ·exact ⟨av,clock,h1,cU.cut k2 h2,h3⟩
    ·exact ⟨av,clock,h1,cU.Pg k2 k3 h2,h3⟩
   | none=>exact h.elim
   | bj=>exact h.elim
   | tok _ _ _=>exact h.elim
   | aU _=>exact h.elim
  | _=>exact k.elim
 | aU fs sz e=>
  cases go' with
  | aU xw bl e'=>
   obtain ⟨rfl,rfl,rfl⟩:=k
   cases ro <;> exact h
  | _=>exact k.elim
 | gQ oS m left cur t=>
  cases go' with
  | gQ mid' m' wE zg t'=>
   obtain ⟨rfl,rfl,rfl,rfl,k,rfl⟩:=k
   cases ro with
   | bq b=>obtain ⟨bm,seen,c0,h1,h2,h3,h4,h5,h6,_⟩:=h; exact ⟨bm,seen,c0,jy.2 ⟨k,h1⟩,h2,h3,h4,h5,h6,fun i hi=>by cases hi⟩
   | none=>exact h.elim
   | bj=>exact h.elim
   | tok _ _ _=>exact h.elim
   | aU _=>exact h.elim
  | _=>exact k.elim
 | fV l p=>
  cases go' with
  | fV l' p'=>
   obtain ⟨rfl,rfl⟩:=k
   cases ro <;> exact h
  | _=>exact k.elim
 | du es sz e=>
  cases go' with
  | du es' bl e'=>
   obtain ⟨rfl,rfl,k,kc⟩:=k
   cases ro with
   | bq b=>exact h.elim
   | none=>exact h.elim
   | aU _=>exact h.elim
   | bj=>
    have he:es'=[]:=h
    subst he
    exact List.eq_nil_of_length_eq_zero k.length.symm
   | tok f b c=>
    obtain ⟨h0,h1,cur,vs,h2,h3,h4,h5,h6,h7,h8,h9⟩:=h
    obtain ⟨k1,k2,k3⟩:=uT k h1 kc
    exact ⟨h0.trans k.length,k1,cur,vs,h2,h3,h4,h5,h6,(k2.rel h7).move (nG R n) k3,h8,h9⟩
  | _=>exact k.elim
 | _=>cases go' <;> exact k.elim
theorem ox.ids:∀ {l:List Nat} {ds:List Deferred},ox R l ds→∀ id∈l,id < R.obj.length
 | [],[],_,id,hi=>by simp at hi
 | x :: l,d :: ds,h,id,hi=>by
  obtain ⟨⟨b,h1,_⟩,h2⟩:=h
  rcases List.mem_cons.1 hi with rfl | hi
  ·exact bp h1
  ·exact ox.ids h2 id hi
 | [],_ :: _,h,_,_=>h.elim
 | _ :: _,[],h,_,_=>h.elim
theorem ox.cut {n:Nat}:∀ {l:List Nat} {ds:List Deferred},ox R l ds→(∀ id∈l,id < n)→ox (R.cut n) l ds
 | [],[],_,_=>trivial
 | x :: l,d :: ds,h,hi=>by
  obtain ⟨⟨b,h1,h3⟩,h2⟩:=h
  exact ⟨⟨b,jy.2 ⟨hi x (by simp),h1⟩,h3⟩,ox.cut h2 fun id hm=>hi id (by simp [hm])⟩
 | [],_ :: _,h,_=>h.elim
 | _ :: _,[],h,_=>h.elim
theorem sj {n:Nat} {tmps:Array Value} {ae base:aT} (hT:mQ R w β ae tmps):∀ {l:List (Tmp × Nat × Nat)},CX ae l=true→mQ (R.cut n) w β base tmps→mQ (R.cut n) w β (nF l base) tmps
 | [],_,h=>h
 | (t,k,o) :: l,hl,h=>fun i hi=>by
  simp only [CX,Bool.and_eq_true] at hl
  simp only [nF] at hi ⊢
  by_cases e:t=i
  ·subst e
   rw [aw]
   have h1:=hl.1
   split at h1
   ·rename_i k' o' hk
    rw [Bool.and_eq_true] at h1
    have e1:=Nat.eq_of_beq_eq_true h1.1
    have e2:=Nat.eq_of_beq_eq_true h1.2
    subst e1 e2
    obtain ⟨c,q1,q2⟩:=hT t (by rw [hk]; simp)
    rw [hk] at q2
    exact ⟨c,q1,q2⟩
   ·cases h1
  ·rw [aG e] at hi ⊢
   exact sj hT hl.2 h i hi
theorem bR.xS {t:bR} {v:t.ps.T} (hs:aJ s s') (h0:aV E R w β s a) (h:aV E R' w' β' s' a') (st:Step R w β s.boxes R' w' β' s'.boxes) (hd:t.dec s s'=some v) :
  aV E (R'.cut s.G.length) w' β' (t.st s v) a'∧Step R w β s.boxes (R'.cut s.G.length) w' β' (t.st s v).boxes:=by
 have hlen:=h0.g.len
 unfold bR.dec at hd
 cases eW:t.ok s s' with
 | false=>rw [eW] at hd; cases hd
 | true=>
 rw [eW] at hd
 simp only [cond_true] at hd
 unfold bR.ok at eW
 simp only [Bool.and_eq_true] at eW
 obtain ⟨⟨⟨⟨⟨k1,k2⟩,k3⟩,k4⟩,k5,k7,k8⟩,k6⟩:=eW
 obtain ⟨pre,zM⟩:=hs.sl
 obtain ⟨preB,JZ⟩:=hs.bx
 rw [zM,zX] at k1
 rw [JZ,zX] at k2
 have k3:=CY k3
 have k4:=Nat.eq_of_beq_eq_true k4
 split at hd
 ·rename_i la lb lc g1 g2 g3
  cases hv:t.ps.D8 (j6 t.g lc) (la++(lb++lc)) with
  | none=>rw [hv] at hd; cases hd
  | some v'=>
  rw [hv] at hd
  simp only [Option.bind_some] at hd
  cases Hs:dc (t.oz v') t.g s.G s'.G with
  | false=>rw [Hs] at hd; cases hd
  | true=>
  rw [Hs] at hd
  cases hd
  have RX:∀ {ts:List Tmp} {l:List AV},uL s'.ae ts=some l→l.length=ts.length:=by
   intro ts
   induction ts with
   | nil=>intro l hl; simp only [uL] at hl; cases hl; rfl
   | cons t ts ih=>
    intro l hl
    unfold uL at hl
    split at hl
    ·split at hl
     ·rename_i hr
      cases hl
      simp [ih hr]
     ·cases hl
    ·cases hl
  have RY:∀ {bx:List (Nat × Nat)} {l:List AV},uM s'.boxes bx=some l→l.length=yf bx:=by
   intro bx
   induction bx with
   | nil=>intro l hl; simp only [uM] at hl; cases hl; rfl
   | cons x bx ih=>
    obtain ⟨k,m⟩:=x
    intro l hl
    unfold uM at hl
    split at hl
    ·split at hl
     ·rename_i cs _ _ r hr
      cases hm:Nat.beq cs.length m with
      | false=>rw [hm] at hl; cases hl
      | true=>
       rw [hm] at hl
       cases hl
       simp only [yf,List.length_append,ih hr,Nat.eq_of_beq_eq_true hm]
     ·cases hl
    ·cases hl
  obtain ⟨hw,hex⟩:=t.ps.Ic _ hv
  have J0:t.oz v=t.ps.j5 (j6 t.g lc) v:=by
   unfold bR.oz
   congr 1
   funext i
   have hl:=hex.Pc.trans (t.ps.nD (j6 t.g lc) (fun _=>0) v)
   have H6:=(hl.drop t.sl.length).drop (yf t.bx)
   rw [← RX g1,List.drop_left,← RY g2,List.drop_left,RX g1,RY g2] at H6
   exact (cG t.g i H6).symm
  have hu:aA s.G.length (t.oz v)=true:=by
   rw [J0,t.ps.D9 _ hv]
   exact t.ps.BV _ k5 _
  rw [← J0] at hw hex
  have RZ:∃ xa xb xc,t.oz v=xa++(xb++xc)∧ca la xa∧ca lb xb∧ca lc xc∧xa.length=la.length∧xb.length=lb.length∧EL lc xc:=by
   obtain ⟨xa,r,h1,h2,h3,h4⟩:=hw.split
   obtain ⟨xb,xc,rfl,h6,h7,h8⟩:=h3.split
   rw [h1] at hex
   obtain ⟨ya,yr,g1,_,g3,g4⟩:=hex.split
   obtain ⟨_,rfl⟩:=List.append_inj g1 (by rw [h4,g4])
   obtain ⟨yb,yc,k1,_,k3,k4⟩:=g3.split
   obtain ⟨_,rfl⟩:=List.append_inj k1 (by rw [h8,k4])
   exact ⟨xa,xb,xc,h1,h2,h6,h7,h4,h8,k3⟩
  obtain ⟨xa,xb,xc,hx,wa,wb,wc,T8,VE,VF⟩:=RZ
  have R4:aA s.G.length xa=true∧aA s.G.length xb=true∧aA s.G.length xc=true:=by
   rw [hx,fg,fg] at hu
   simp only [Bool.and_eq_true] at hu
   exact ⟨hu.1,hu.2.1,hu.2.2⟩
  have e1:(t.oz v).drop t.sl.length=xb++xc:=by rw [hx,← RX g1,← T8,List.drop_left]
  have e2:(xb++xc).drop (yf t.bx)=xc:=by rw [← RY g2,← VE,List.drop_left]
  have qL:uR s.G.length t.g xc:=by
   have hf:=((aC.z6 s.G.length _ t.ps v).drop t.sl.length).drop (yf t.bx) (l:=(t.oz v).drop t.sl.length)
   rw [e1,e2] at hf
   exact fx t.g k7 hf
  have old:∀ {l:List AV} {cs:List Value},aE R w l cs→aA s.G.length l=true:=fun hr=>hr.under (by omega)
  have mv:=nG R' s.G.length
  have Qy:∀ k cs,de s'.boxes k=some cs→uQ R' w' β' k cs:=fun k cs hk=>h.b.box k cs hk
  have QN:∀ k cs,de (sh t.bx (xb++xc) s.boxes) k=some cs→uQ (R'.cut s.G.length) w' β' k cs∧∃ eO,de s'.boxes k=some eO:=fun k cs hk=>by
   refine zZ (K:=fun _=>False) Qy g2 wb R4.2.1 (fun k cs _ h1 h2=>?_) k cs (fun h=>h) hk
   refine ⟨by rw [JZ]; exact zW h1 h2 k2,?_⟩
   obtain ⟨⟨vs,el,_,h4,_⟩,_⟩:=h0.b.box k cs h2
   exact old h4
  have T9:(t.st s v).G=cV (t.oz v) t.g s.G xc:=by simp only [bR.st,e1,e2]
  have Ua:(t.st s v).boxes=sh t.bx (xb++xc) s.boxes:=by simp only [bR.st,e1]
  have VG:(t.st s v).ae=nF t.NX (nE t.sl (xa++(xb++xc)) (uN t.W s.ae)):=by simp only [bR.st,hx]
  have ext:Ext R w (R'.cut s.G.length) w':=⟨st.ext.I,st.ext.cell,fun id ro hi=>by
   obtain ⟨lh,h1,h2⟩:=st.ext.obj id ro hi
   exact ⟨lh,jy.2 ⟨by have:=bp hi; omega,h1⟩,h2⟩,st.ext.lp⟩
  refine ⟨⟨⟨?_,fun id go ro h1 h2=>?_,fun i j ri rj b h1 h2=>h.g.inj i j ri rj b (jy.1 h1).2 (jy.1 h2).2,h.g.wf,fun g cs hg=>(h.g.dD g cs hg).move mv (cw _ (E.xp g cs hg)),h.g.lo⟩,?_,?_,?_,?_⟩,?_⟩
  ·rw [T9,cF,k4]
   have:=h.g.len
   have h3:s.G.length≤R'.obj.length:=by
    rcases Nat.lt_or_ge R'.obj.length s.G.length with bK | yL
    ·exfalso
     have hx:R'.obj.length < R.obj.length:=by omega
     obtain ⟨lh,h1,_⟩:=st.ext.obj R'.obj.length R.obj[R'.obj.length] (by rw [aR]; exact List.getElem?_eq_getElem hx)
     have:=bp h1
     omega
    ·exact yL
   simp [aj.cut]
   omega
  ·rw [T9] at h1
   obtain ⟨go',h3,h4⟩:=gz g3 wc VF ⟨qL,k8⟩ R4.2.2 Hs id go h1
   rcases h4 with h4 | ⟨EH,h5,h4⟩
   ·exact (h.g.obj id go' ro h3 (jy.1 h2).2).VD h4
   ·have bK:=bp h5
    rw [← hlen] at bK
    obtain ⟨JY,h6⟩:∃ JY,nth R.obj id=some JY:=⟨R.obj[id],by rw [aR]; exact List.getElem?_eq_getElem bK⟩
    obtain ⟨lh,h7,h8⟩:=ext.obj id JY h6
    have:lh=ro:=Option.some.inj (h7.symm.trans h2)
    subst this
    exact fZ.VC ext (h0.g.obj id EH JY h5 h6) h8 (h.g.obj id go' lh h3 (jy.1 h2).2) h4
  ·rw [Ua]
   refine ⟨fun k cs hk=>(QN k cs hk).1,fun k k' cs eO hk iY he=>?_⟩
   obtain ⟨_,c1,R5⟩:=QN k cs hk
   obtain ⟨_,c2,HZ⟩:=QN k' eO iY
   exact h.b.inj k k' c1 c2 R5 HZ he
  ·rw [VG]
   have hT:uO (R'.cut s.G.length) w' β' (fun _=>False) (nE t.sl (xa++(xb++xc)) (uN t.W s.ae)) a'.tmps:=by
    refine si mv h.t g1 (l':=xa) (r:=lb++lc) (r':=xb++xc) (wa.append (wb.append wc)) T8.symm R4.1 (uP fun i hi hn=>?_)
    have VH:NY t.sl t.W i=false:=by
     simp only [NY,Bool.or_eq_false_iff]
     refine ⟨?_,?_⟩
     ·cases hc:Hy t.sl i with
      | false=>rfl
      | true=>exact absurd (.inr (.inl (yg.1 hc))) hi
     ·cases hc:Hy t.W i with
      | false=>rfl
      | true=>exact absurd (.inl (yg.1 hc)) hi
    have hk:=yi VH k1
    rw [← zM] at hk
    obtain ⟨c,h1,h2⟩:=h.t i (by rw [hk]; exact hn)
    rw [hk] at h2
    refine ⟨c,h1,?_⟩
    obtain ⟨c0,_,h4⟩:=h0.t i hn
    revert h2 h4
    cases lk s.ae i with
    | none=>exact fun _ _=>trivial
    | lp k off=>exact fun h2 _=>h2
    | v x=>exact fun h2 h4=>Rel.move mv (Rel.under (by omega) h4) h2
   exact sj h.t k6 (fun i hi=>hT i (fun h=>h) hi)
  ·show a'.tmps.size=s.n
   rw [h.n,hs.n]
  ·show ox _ s.marks a'.defers
   have:=h.d
   rw [k3] at this
   exact this.cut fun id bE=>by have:=h0.d.ids id bE; omega
  ·refine ⟨ext,st.os,st.tape,st.output,st.size,st.aW,fun b hb ho=>st.own b hb ?_,st.im⟩
   rcases ho with ho | ⟨k,cs,hk,rfl⟩
   ·exact .inl (zY ho)
   ·rw [Ua] at hk
    obtain ⟨_,c1,R5⟩:=QN k cs hk
    exact .inr ⟨k,c1,R5,rfl⟩
 ·cases hd
end xS
end Go.Am
namespace Go.Am
open Go
def eT:aT→aT
 | []=>[]
 | .put d (.lp _ _) :: l=>.put d .none :: eT l
 | .put d x :: l=>.put d x :: eT l
 | .kill _ :: l=>eT l
def SV.vS:SV→SV
 | .lp _ _=>.none
 | x=>x
theorem od (t:Nat):∀ l:aT,lk (eT l) t=(lk l t).vS
 | []=>rfl
 | .put d x :: l=>by
  cases x <;> simp only [eT] <;> by_cases e:d=t <;> first | (subst e; rw [aw,aw]; rfl) | (rw [aG e,aG e]; exact od t l)
 | .kill d :: l=>by
  simp only [eT,lk]
  rw [od t l]
  cases lk l t with
  | lp k off=>
   by_cases e:k=d
   ·subst e; simp [SV.vS]
   ·simp [lV e,SV.vS]
  | _=>rfl
theorem jz:∀ l:aT,Cv (eT l)=true
 | []=>rfl
 | .put d x :: l=>by
  cases x <;> simp only [eT,Cv] <;> exact jz l
 | .kill d :: l=>by simp only [eT]; exact jz l
def R6 (E:Env) (Q:Exit→St→Prop) (s:St) (G':List GO):Prop:=
 match nth G' (s.G.length+1) with
 | some (.loop busy pending _ _ _ _ _ _ _ done)=>(busy=false∨done=true) ∧
  match pending with
  | none=>Q .normal ⟨s.ae,s.boxes,ax G' (s.G.length+1) .dead,s.G.length :: s.marks,s.ro,s.n⟩
  | some c=>eS E c Q ⟨s.ae,s.boxes,ax G' (s.G.length+1) .dead,s.G.length :: s.marks,s.ro,s.n⟩
 | _=>False
theorem uU {busy done:Bool} (h:busy=false∨done=true):(if done=true then LoopState.done else if busy=true then LoopState.busy else LoopState.ready)≠LoopState.busy:=by
 rcases h with rfl | rfl
 ·cases done <;> simp
 ·simp
theorem eS.rangeFunc {E:Env} {Q:Exit→St→Prop} {s:St} (fp:Nat) {g:Operand} {ps:Array Tmp} {assign body:Code} (bA:s.ro=none) {f:FuncId} {first cap:List AV} (hg:bc E s.ae g=.v (.fn f first cap))
  (h:cA E f (first++[.yield (s.G.length+1)]++cap) (s.G++[.defers true]++[.loop false none fp (eT s.ae) s.n ps.toList assign body s.G.length false]) (fun _ G'=>R6 E Q s G')) :
  eS E (.rangeFunc g ps assign body) Q s:=fun R w β a F hr hf=>by
 rw [bA] at hf
 have OW:F=Fence.wide:=hf
 subst OW
 refine wpIn_rangeFunc fun fn _=>?_
 have rg:=aI hr g
 rw [hg] at rg
 have Ph:Rel R w (.fn f first cap) (a.eval g):=rg
 -- the block for the deferred calls
 have O0:fZ (R.add (.bq w.heap.size)) (w.alloc (.deferred (some []))) (.defers true) (.bq w.heap.size):=heap_alloc_new w _
 have h1:=hr.jO (.deferred (some [])) (.defers true) (.bq w.heap.size) (by exact fun _ h=>h) O0
 have s1:=cm hr (.deferred (some [])) (.bq w.heap.size) (by exact fun _ h=>h)
 have eC:(w.alloc (.deferred (some []))).heap.size=w.heap.size+1:=by simp
 generalize Ru:w.alloc (.deferred (some []))=w1 at *
 generalize VI:R.add (.bq w.heap.size)=R1 at *
 -- the loop's record
 let jh:Loop:={ state:=.ready,pending:=none,fn:=fn,tmps:=a.tmps,params:=ps,assign:=assign,body:=body,defers:=w.heap.size }
 have Ff:nth R1.obj s.G.length=some (.bq w.heap.size):=by rw [← VI]; exact fq hr _
 have e2:Ext R1 w1 (R1.add (.bq w1.heap.size)) (w1.alloc (.loop jh)):=fS h1.g.wf _ _
 have Ll:fZ (R1.add (.bq w1.heap.size)) (w1.alloc (.loop jh)) (.loop false none fp (eT s.ae) s.n ps.toList assign body s.G.length false) (.bq w1.heap.size):=by
  refine ⟨⟨jh,w.heap.size,heap_alloc_new w1 _,rfl,rfl,fun i hi=>?_,hr.n,by simp [jh],rfl,rfl,rfl,e2.bq Ff⟩,jz _⟩
  rw [od] at hi ⊢
  have cq:lk s.ae i≠.none:=fun e=>hi (by rw [e]; rfl)
  obtain ⟨c,k1,k2⟩:=hr.t i cq
  refine ⟨c,k1,?_⟩
  cases hx:lk s.ae i with
  | none=>exact absurd hx cq
  | lp k off=>rw [hx] at hi; exact absurd rfl hi
  | v x=>
   rw [hx] at k2
   exact Rel.mono (s1.ext.trans e2) (show Rel R w x c from k2)
 have h2:=h1.jO (.loop jh) (.loop false none fp (eT s.ae) s.n ps.toList assign body s.G.length false) (.bq w1.heap.size) (by exact fun _ h=>h) Ll
 have s2:=cm h1 (.loop jh) (.bq w1.heap.size) (by exact fun _ h=>h)
 have FU:nth (R1.add (.bq w1.heap.size)).obj (s.G.length+1)=some (.bq w1.heap.size):=by
  have:=fq h1 (.bq w1.heap.size)
  simpa [St.dA] using this
 have st:=s1.trans s2
 generalize Ub:R1.add (.bq w1.heap.size)=R2 at *
 generalize Lp:a.eval g=fv at Ph
 cases Ph with
 | @fn _ _ _ vs us q1 q2=>
 refine ⟨w.heap.size+1,[{ target:=.collected w.heap.size,args:=#[] }],w1.alloc (.loop jh),{ target:=.fn (.func f) ⟨us⟩,args:=⟨vs⟩++#[.func (.yield (w.heap.size+1)) #[] #[]] },w1.alloc (.loop jh),f,
  ⟨vs++[.func (.yield (w.heap.size+1)) #[] #[]]++us⟩,w1.alloc (.loop jh),?_,?_,?_,?_,?_,?_⟩
 ·have:Fence.wide.round=none:=rfl
  rw [this,run_enterLoop_outer,Ru]
 ·simp only [resolve,Lp,Deferred.ofValue,Sem.run_pure]
  simp [Act.eval]
 ·intro f' _
  exact trivial
 ·have:=mi (P:=E.P) h.1 (⟨vs++[.func (.yield (w.heap.size+1)) #[] #[]]++us⟩) (w1.alloc (.loop jh))
  simpa [invoke] using this
 ·intro hc; cases hc
 ·have hG:(s.dA (.defers true)).dA (.loop false none fp (eT s.ae) s.n ps.toList assign body s.G.length false)=s.bF (s.G++[.defers true]++[.loop false none fp (eT s.ae) s.n ps.toList assign body s.G.length false]):=rfl
  have R7:Rel R2 (w1.alloc (.loop jh)) (.yield (s.G.length+1)) (.func (.yield (w.heap.size+1)) #[] #[]):=by
   rw [← eC]
   exact .yield FU
  refine (h.2 R2 (w1.alloc (.loop jh)) _ h2.g ((((q1.mono st.ext).append (.one R7)).append (q2.mono st.ext)))).mono ?_
  intro e w3 he
  cases e with
  | panicked c=>exact he.elim
  | outgrown=>exact he.elim
  | returned c=>
   obtain ⟨r,G',R3,hQ,dv,R8,LG⟩:=he
   obtain ⟨p1,p2⟩:=h2.nY R8 LG
   unfold R6 at hQ
   split at hQ
   ·rename_i busy pending ff sl nn pp pi bd dd done BW
    obtain ⟨R9,hQ⟩:=hQ
    have FV:nth R3.obj (s.G.length+1)=some (.bq w1.heap.size):=LG.ext.bq FU
    obtain ⟨⟨r3,db,l1,l2,l3,_,_,_,_,_,_,_⟩,_⟩:=p1.g.obj _ _ _ BW FV
    have BX:r3.state≠.busy:=by rw [l2]; exact uU R9
    have VJ:w3.heap[w.heap.size+1]?=some (.loop r3):=by rw [← eC]; exact l1
    refine ⟨r3.pending,_,run_endLoop VJ BX,?_⟩
    rw [l3]
    -- the record is dead
    have Pj:nth R3.obj s.G.length=some (.bq w.heap.size):=LG.ext.bq (by rw [← Ub] at e2 ⊢; exact e2.bq Ff)
    have key:∀ x:Obj,mc x→(∀ r,Obj.loop r3=.loop r→∃ r',x=.loop r'∧mO r r')→aV E R3 (World.put w3 w1.heap.size x) β ⟨s.ae,s.boxes,ax G' (s.G.length+1) .dead,s.G.length :: s.marks,s.ro,s.n⟩ { a with defers:=[{ target:=.collected w.heap.size,args:=#[] }]++a.defers }∧Step R w β s.boxes R3 (World.put w3 w1.heap.size x) β s.boxes:=fun x hx Sa=>by
     obtain ⟨z1,z2⟩:=p1.setObj (x':=x) (go':=.dead) FV l1 trivial hx Sa (show w1.heap.size < _ by simp [World.put]; exact aY l1)
     exact ⟨⟨z1.g,z1.b,z1.t,z1.n,⟨⟨w.heap.size,Pj,rfl⟩,z1.d⟩⟩,(st.trans p2).trans z2⟩
    obtain ⟨z1,z2⟩:=key (.loop { r3 with state:=.exhausted,pending:=pending }) trivial (fun r e=>⟨_,rfl,by cases e; exact ⟨rfl,rfl,rfl,rfl,rfl⟩⟩)
    rw [eC] at z1 z2
    cases pending with
    | none=>exact ⟨_,R3,β,hQ,z1,z2,rfl⟩
    | some c=>
     refine wpIn_mono (hQ R3 _ β _ Fence.wide z1 (by show bo R3 s.ro Fence.wide; rw [bA]; rfl)) ?_
     rintro e RD HK ⟨xJ,ET,JO,Fw,uf,oJ,r9⟩
     exact ⟨xJ,ET,JO,Fw,uf,z2.trans oJ,r9⟩
   ·exact hQ.elim
def LH (E:Env) (Q:Exit→St→Prop) (s:St) (G':List GO):Prop:=
 match nth G' s.G.length with
 | some (.loop busy pending _ _ _ _ _ _ _ done)=>(busy=false∨done=true) ∧
  match pending with
  | none=>Q .normal ⟨s.ae,s.boxes,ax G' s.G.length .dead,s.marks,s.ro,s.n⟩
  | some c=>eS E c Q ⟨s.ae,s.boxes,ax G' s.G.length .dead,s.marks,s.ro,s.n⟩
 | _=>False
theorem eS.BY {E:Env} {Q:Exit→St→Prop} {s:St} (fp:Nat) {g:Operand} {ps:Array Tmp} {assign body:Code} {id:Nat} (bA:s.ro=some id)
  {Uc:Bool} {p0:Option Code} {Ud:FuncId} {Ue:aT} {n0:Nat} {Uf:List Tmp} {Ug Uh:Code} {d0:Nat} {Ui:Bool} (bE:nth s.G id=some (.loop Uc p0 Ud Ue n0 Uf Ug Uh d0 Ui))
  {f:FuncId} {first cap:List AV} (hg:bc E s.ae g=.v (.fn f first cap))
  (h:cA E f (first++[.yield s.G.length]++cap) (s.G++[.loop false none fp (eT s.ae) s.n ps.toList assign body d0 false]) (fun _ G'=>LH E Q s G')) :
  eS E (.rangeFunc g ps assign body) Q s:=fun R w β a F hr hf=>by
 rw [bA] at hf
 obtain ⟨b0,Uj,hF⟩:=hf
 subst hF
 obtain ⟨⟨r0,RW,x1,x2,x3,x4,x5,x6,x7,x8,x9,VK⟩,x11⟩:=hr.g.obj _ _ _ bE Uj
 refine wpIn_rangeFunc fun fn _=>?_
 have rg:=aI hr g
 rw [hg] at rg
 have Ph:Rel R w (.fn f first cap) (a.eval g):=rg
 -- the loop's record
 let jh:Loop:={ state:=.ready,pending:=none,fn:=fn,tmps:=a.tmps,params:=ps,assign:=assign,body:=body,defers:=r0.defers }
 have e2:Ext R w (R.add (.bq w.heap.size)) (w.alloc (.loop jh)):=fS hr.g.wf _ _
 have Ll:fZ (R.add (.bq w.heap.size)) (w.alloc (.loop jh)) (.loop false none fp (eT s.ae) s.n ps.toList assign body d0 false) (.bq w.heap.size):=by
  refine ⟨⟨jh,RW,heap_alloc_new w _,rfl,rfl,fun i hi=>?_,hr.n,by simp [jh],rfl,rfl,x9,e2.bq VK⟩,jz _⟩
  rw [od] at hi ⊢
  have cq:lk s.ae i≠.none:=fun e=>hi (by rw [e]; rfl)
  obtain ⟨c,k1,k2⟩:=hr.t i cq
  refine ⟨c,k1,?_⟩
  cases hx:lk s.ae i with
  | none=>exact absurd hx cq
  | lp k off=>rw [hx] at hi; exact absurd rfl hi
  | v x=>
   rw [hx] at k2
   exact Rel.mono e2 (show Rel R w x c from k2)
 have h2:=hr.jO (.loop jh) (.loop false none fp (eT s.ae) s.n ps.toList assign body d0 false) (.bq w.heap.size) (by exact fun _ h=>h) Ll
 have st:=cm hr (.loop jh) (.bq w.heap.size) (by exact fun _ h=>h)
 have FU:nth (R.add (.bq w.heap.size)).obj s.G.length=some (.bq w.heap.size):=fq hr _
 generalize Ub:R.add (.bq w.heap.size)=R2 at *
 generalize Lp:a.eval g=fv at Ph
 cases Ph with
 | @fn _ _ _ vs us q1 q2=>
 refine ⟨w.heap.size,[],w.alloc (.loop jh),{ target:=.fn (.func f) ⟨us⟩,args:=⟨vs⟩++#[.func (.yield w.heap.size) #[] #[]] },w.alloc (.loop jh),f,
  ⟨vs++[.func (.yield w.heap.size) #[] #[]]++us⟩,w.alloc (.loop jh),?_,?_,?_,?_,?_,?_⟩
 ·have:(Fence.wide.inRound b0).round=some b0:=rfl
  rw [this]
  exact run_enterLoop_inner x1 _ _ _ _ _
 ·simp only [resolve,Lp,Deferred.ofValue,Sem.run_pure]
  simp [Act.eval]
 ·intro f' _
  exact trivial
 ·have:=mi (P:=E.P) h.1 (⟨vs++[.func (.yield w.heap.size) #[] #[]]++us⟩) (w.alloc (.loop jh))
  simpa [invoke] using this
 ·intro hc; cases hc
 ·have R7:Rel R2 (w.alloc (.loop jh)) (.yield s.G.length) (.func (.yield w.heap.size) #[] #[]):=.yield FU
  have wV:=(h.2 R2 (w.alloc (.loop jh)) _ h2.g ((((q1.mono st.ext).append (.one R7)).append (q2.mono st.ext))))
  refine CallsIn.mono (F:=Fence.wide.inRound b0) wV ?_
  intro e w3 he
  cases e with
  | panicked c=>exact he.elim
  | outgrown=>exact he.elim
  | returned c=>
   obtain ⟨r,G',R3,hQ,dv,R8,LG⟩:=he
   obtain ⟨p1,p2⟩:=h2.nY R8 LG
   unfold LH at hQ
   split at hQ
   ·rename_i busy pending ff sl nn pp pi bd dd done BW
    obtain ⟨R9,hQ⟩:=hQ
    have FV:nth R3.obj s.G.length=some (.bq w.heap.size):=LG.ext.bq FU
    obtain ⟨⟨r3,db,l1,l2,l3,_,_,_,_,_,_,_⟩,_⟩:=p1.g.obj _ _ _ BW FV
    have BX:r3.state≠.busy:=by rw [l2]; exact uU R9
    refine ⟨r3.pending,_,run_endLoop l1 BX,?_⟩
    rw [l3]
    have key:∀ x:Obj,mc x→(∀ r,Obj.loop r3=.loop r→∃ r',x=.loop r'∧mO r r')→aV E R3 (World.put w3 w.heap.size x) β ⟨s.ae,s.boxes,ax G' s.G.length .dead,s.marks,s.ro,s.n⟩ { a with defers:=[]++a.defers }∧Step R w β s.boxes R3 (World.put w3 w.heap.size x) β s.boxes:=fun x hx Sa=>by
     obtain ⟨z1,z2⟩:=p1.setObj (x':=x) (go':=.dead) FV l1 trivial hx Sa (show w.heap.size < _ by simp [World.put]; exact aY l1)
     exact ⟨⟨z1.g,z1.b,z1.t,z1.n,z1.d⟩,(st.trans p2).trans z2⟩
    obtain ⟨z1,z2⟩:=key (.loop { r3 with state:=.exhausted,pending:=pending }) trivial (fun r e=>⟨_,rfl,by cases e; exact ⟨rfl,rfl,rfl,rfl,rfl⟩⟩)
    cases pending with
    | none=>exact ⟨_,R3,β,hQ,z1,z2,rfl⟩
    | some c=>
     refine wpIn_mono (hQ R3 _ β _ (Fence.wide.inRound b0) z1 (by show bo R3 s.ro _; rw [bA]; exact ⟨b0,LG.ext.bq (e2.bq Uj),rfl⟩)) ?_
     rintro e RD HK ⟨xJ,ET,JO,Fw,uf,oJ,r9⟩
     exact ⟨xJ,ET,JO,Fw,uf,z2.trans oJ,r9⟩
   ·exact hQ.elim
def BZ (id:Nat) (Q:Bool→List GO→Prop):Exit→St→Prop:=fun e s=>match nth s.G id with
 | some (.loop _ _ fn sl n ps pi bd d _)=>match e with
  | .normal=>Q true (ax s.G id (.loop false none fn sl n ps pi bd d false))
  | .ret=>Q false (ax s.G id (.loop false (some .ret) fn sl n ps pi bd d true))
  | .exit i=>Q false (ax s.G id (.loop false (some (.exit i)) fn sl n ps pi bd d true))
  | _=>False
 | _=>False
def yj (E:Env) (id:Nat) (body:Code) (Q:Bool→List GO→Prop):Exit→St→Prop:=fun e s=>match e with
 | .normal=>match nth s.G id with
  | some (.loop false p fn sl n ps pi bd d false)=>eS E body (BZ id Q) (s.bF (ax s.G id (.loop true p fn sl n ps pi bd d false)))
  | _=>False
 | _=>False
def uV:List Tmp→List AV→aT→aT
 | t :: ts,a :: l,r=>uV ts l (.put t (.v a) :: r)
 | _,_,r=>r
def St.round (id:Nat) (ae:aT) (n:Nat) (G:List GO):St:=⟨ae,[],G,[],some id,n⟩
theorem uW {R:aj} {w:World} {β:Nat→Nat}:∀ {ts:List Tmp} {l:List AV} {cs:List Value} {r:aT} {tmps:Array Value},mQ R w β r tmps→aE R w l cs→l.length=ts.length→(∀ t∈ts,t < tmps.size) →
  mQ R w β (uV ts l r) ((ts.zip cs).foldl (fun tmps (t,a)=>tmps.setIfInBounds t a) tmps)
 | [],[],_,_,_,h,.nil,_,_=>h
 | t :: ts,a :: l,c :: cs,r,tmps,h,.cons hx hl,hlen,ht=>by
  have eC:t < tmps.size:=ht t (by simp)
  simp only [uV,List.zip_cons_cons,List.foldl_cons]
  refine uW ?_ hl (by simpa using hlen) (fun t' h'=>by simpa using ht t' (by simp [h']))
  have:=mQ.put (a:={ tmps:=tmps,defers:=[] }) h (d:=t) (x:=.v a) (c:=c) eC hx
  simpa [Act.put] using this
 | [],_ :: _,_,_,_,_,_,hlen,_=>by simp at hlen
 | _ :: _,[],_,_,_,_,_,hlen,_=>by simp at hlen
theorem B0 (l:List (Tmp × Value)):∀ tmps:Array Value,(l.foldl (fun (tmps:Array Value) (x:Tmp × Value)=>tmps.setIfInBounds x.1 x.2) tmps).size=tmps.size:=by
 induction l with
 | nil=>intro _; rfl
 | cons x l ih=>intro tmps; rw [List.foldl_cons,ih]; simp
theorem jV.intro {E:Env} {id:Nat} {args:List AV} {G:List GO} {Q:Bool→List GO→Prop} {fn:FuncId} {ae:aT} {n:Nat} {ps:List Tmp} {assign body:Code} {d:Nat} {p:Option Code}
  (hG:nth G id=some (.loop false p fn ae n ps assign body d false)) (hl:args.length=ps.length) (EF:∀ t∈ps,t < n)
  (h:eS E assign (yj E id body Q) (St.round id (uV ps args ae) n G)):jV E id args G Q:=fun R w cs b hg hr hb=>by
 obtain ⟨⟨r,db,l1,l2,l3,l4,l5,l6,l7,l8,l9,T7⟩,l11⟩:=hg.obj id _ _ hG hb
 have hlen:=hr.length
 refine ⟨r,l1,by rw [l6]; simp; omega,?_⟩
 have Sb:Step R w (fun _=>0) fu R w (fun _=>0) fu:=Step.refl _ _ _ _
 have Sc:aV E R w (fun _=>0) (St.round id (uV ps args ae) n G) { tmps:=(r.params.zip ⟨cs⟩).foldl (fun tmps (t,a)=>tmps.setIfInBounds t a) r.tmps,defers:=[] }:=by
  have Pk:(r.params.zip ⟨cs⟩).foldl (fun (tmps:Array Value) (x:Tmp × Value)=>tmps.setIfInBounds x.1 x.2) r.tmps=(ps.zip cs).foldl (fun (tmps:Array Value) (x:Tmp × Value)=>tmps.setIfInBounds x.1 x.2) r.tmps:=by
   rw [← Array.foldl_toList]
   simp [l6]
  refine ⟨hg,⟨fun k cs hk=>?_,fun k k' c c' hk=>?_⟩,?_,?_,trivial⟩
  ·simp [St.round,de] at hk
  ·simp [St.round,de] at hk
  ·show mQ _ _ _ _ _
   have:=uW (ts:=ps) (l:=args) (cs:=cs) l4 hr hl (fun t ht=>by rw [l5]; exact EF t ht)
   rw [← Pk] at this
   exact this
  ·show _=n
   have:=B0 (ps.zip cs) r.tmps
   rw [← Pk] at this
   exact this.trans l5
 have Li:∀ (k:Nat) (cs:List AV),de (St.round id (uV ps args ae) n G).boxes k≠some cs:=fun k cs hk=>by simp [St.round,de] at hk
 rw [l7,l8]
 refine roundIn_of_wpIn trivial (wpIn_mono (h R w (fun _=>0) _ (Fence.wide.inRound b) Sc ⟨b,hb,rfl⟩) ?_)
 rintro e a1 w1 ⟨s1,R1,β1,hq,AL,Uk,Sd⟩
 unfold yj at hq
 cases e with
 | normal=>
  simp only at hq
  split at hq
  ·rename_i p' RU NV n' Pf Ih NZ d' Se
   have O7:nth R1.obj id=some (.bq b):=Uk.ext.bq hb
   obtain ⟨⟨r1,VL,m1,m2,m3,m4,m5,m6,m7,m8,m9,m10⟩,m11⟩:=AL.g.obj id _ _ Se O7
   refine ⟨_,run_beginRound m1 m2,?_⟩
   obtain ⟨z1,z2⟩:=AL.setObj (x':=.loop { r1 with state:=.busy }) (go':=.loop true p' RU NV n' Pf Ih NZ d' false) O7 m1 trivial trivial (fun r e=>⟨_,rfl,by cases e; exact ⟨rfl,rfl,rfl,rfl,rfl⟩⟩)
    ⟨⟨{ r1 with state:=.busy },VL,gl _ _ _ (aY m1),rfl,m3,m4.mono (me (x':=.loop { r1 with state:=.busy }) m1 trivial trivial (fun r e=>⟨_,rfl,by cases e; exact ⟨rfl,rfl,rfl,rfl,rfl⟩⟩)),m5,m6,m7,m8,m9,m10⟩,m11⟩
   refine wpIn_mono (hq R1 _ β1 a1 (Fence.wide.inRound b) z1 (by show bo R1 s1.ro _; rw [Sd]; exact ⟨b,O7,rfl⟩)) ?_
   rintro e2 a2 w2 ⟨s2,R2,β2,mV,wI,EM,z8⟩
   unfold BZ at mV
   split at mV
   ·rename_i XN p2 QO Pl n2 Sf Sg Sh d2 VM O5
    have Pm:=(Uk.trans z2).trans EM
    have EJ:nth R2.obj id=some (.bq b):=Pm.ext.bq hb
    obtain ⟨⟨r2,VN,o1,o2,o3,o4,o5,o6,o7,o8,o9,QP⟩,pA⟩:=wI.g.obj id _ _ O5 EJ
    have fin:∀ (j:Option Code),xR E R w (fun b' G'=>G'=ax s2.G id (.loop false j QO Pl n2 Sf Sg Sh d2 (!j.isNone))∧b'=j.isNone) (.returned (.bool j.isNone)) (w2.putObj b (.loop { r2 with state:=if j.isNone then .ready else .done,pending:=j })):=fun j=>by
     obtain ⟨y1,y2⟩:=wI.setObj (x':=.loop { r2 with state:=if j.isNone then .ready else .done,pending:=j }) (go':=.loop false j QO Pl n2 Sf Sg Sh d2 (!j.isNone)) EJ o1 trivial trivial (fun r e=>⟨_,rfl,by cases e; exact ⟨rfl,rfl,rfl,rfl,rfl⟩⟩)
      ⟨⟨{ r2 with state:=if j.isNone then .ready else .done,pending:=j },VN,gl _ _ _ (aY o1),by cases j <;> rfl,rfl,o4.mono (me (x':=.loop { r2 with state:=if j.isNone then .ready else .done,pending:=j }) o1 trivial trivial (fun r e=>⟨_,rfl,by cases e; exact ⟨rfl,rfl,rfl,rfl,rfl⟩⟩)),o5,o6,o7,o8,o9,QP⟩,pA⟩
     exact ⟨_,_,R2,⟨rfl,rfl⟩,rfl,y1.g,uj (Pm.trans y2) Li⟩
    have mk:∀ (j:Option Code),Q j.isNone (ax s2.G id (.loop false j QO Pl n2 Sf Sg Sh d2 (!j.isNone)))→∃ v w',(Instr.endRound b j).run E.P w2=.ok v w'∧xR E R w Q (.returned v) w':=fun j hQ=>by
     refine ⟨_,_,run_endRound j o1,?_⟩
     obtain ⟨r',G',R',⟨h1,h2⟩,h3⟩:=fin j
     subst h1; subst h2
     exact ⟨_,_,R',hQ,h3⟩
    cases e2 with
    | normal=>exact mk none mV
    | ret=>exact mk (some .ret) mV
    | exit i=>exact mk (some (.exit i)) mV
    | _=>exact mV.elim
   ·exact mV.elim
  ·exact hq.elim
 | _=>exact hq.elim
end Go.Am
