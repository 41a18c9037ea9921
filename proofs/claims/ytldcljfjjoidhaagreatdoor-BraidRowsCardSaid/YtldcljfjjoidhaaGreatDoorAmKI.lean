/- The abstract machine: what is asked of bodies; values are brought to a short form. -/
import Derived.Test.YtldcljfjjoidhaaGreatDoorAmKH
import Derived.RangeFuncIn
import Derived.RangeFuncRecord
set_option linter.all false
namespace Go.Am
open Go
def bu (dt:Nat→Option ah):Code→Bool
 | .region id ops true=>match dt id with
  | some p=>EG ops p
  | none=>false
 | .seq x y=>bu dt x&&bu dt y
 | .cond _ x y=>bu dt x&&bu dt y
 | .block _ c=>bu dt c
 | .loop c=>bu dt c
 | .scope c=>bu dt c
 | .rangeFunc _ _ a b=>bu dt a&&bu dt b
 | _=>true
structure Hu extends Env where
 dt:FuncId→Nat→Option ah
 okF:FuncId→Bool
 Q3:∀ f fn c,okF f=true→P.funcs[f]?=some fn→fn.body=some c→bu (dt f) c=true
def jr {α:Type} (n:Nat) (K:Nat→α):α:=match n with
 | 0=>K 0
 | m+1=>K (Nat.succ m)
def wL {α:Type} (n:Int) (K:Int→α):α:=match n with
 | .ofNat m=>jr m fun m=>K (.ofNat m)
 | .negSucc m=>jr m fun m=>K (.negSucc m)
def ou {α β:Type}:List β→(List β→α)→α
 | [],K=>K []
 | a :: l,K=>ou l fun l=>K (a :: l)
def AQ {α:Type} (v:AV) (K:AV→α):α:=match v with
 | .int k n=>wL n fun n=>K (.int k n)
 | .bool true=>K (.bool true)
 | .bool false=>K (.bool false)
 | .list k sz es=>ou es fun es=>K (.list k sz es)
 | .str l=>ou l fun l=>K (.str l)
 | .jS id off sz len cap=>jr off fun off=>jr len fun len=>jr cap fun cap=>K (.jS id off sz len cap)
 | .ptr id off=>jr off fun off=>K (.ptr id off)
 | .agg cs=>ou cs fun cs=>K (.agg cs)
 | v=>K v
def AR {α:Type} (l:bc) (K:bc→α):α:=match l with
 | .put d (.v a) :: l=>AQ a fun a=>K (.put d (.v a) :: l)
 | .put d (.lp k off) :: l=>jr off fun off=>K (.put d (.lp k off) :: l)
 | l=>K l
def AS {α:Type} (l:cE) (K:cE→α):α:=match l with
 | (d,cs) :: l=>ou cs fun cs=>K ((d,cs) :: l)
 | []=>K []
def EH {α:Type} (s:St) (K:St→α):α:=match s with
 | ⟨sl,bx,G,m,ro,n⟩=>AR sl fun sl=>AS bx fun bx=>ou G fun G=>K ⟨sl,bx,G,m,ro,n⟩
theorem ov {α:Type} (n:Nat) (K:Nat→α):jr n K=K n:=by cases n <;> rfl
theorem Cz {α:Type} (n:Int) (K:Int→α):wL n K=K n:=by cases n <;> simp [wL,ov]
theorem ph {α β:Type}:∀ (l:List β) (K:List β→α),ou l K=K l
 | [],_=>rfl
 | a :: l,K=>by simp only [ou]; rw [ph]
theorem EI {α:Type} (v:AV) (K:AV→α):AQ v K=K v:=by
 unfold AQ
 split <;> simp [ov,Cz,ph]
theorem EJ {α:Type} (l:bc) (K:bc→α):AR l K=K l:=by
 unfold AR
 split <;> simp [ov,EI]
theorem EL {α:Type} (l:cE) (K:cE→α):AS l K=K l:=by
 unfold AS
 split <;> simp [ph]
theorem Hv {α:Type} (s:St) (K:St→α):EH s K=K s:=by
 obtain ⟨sl,bx,G,m,ro,n⟩:=s
 simp [EH,EJ,EL,ph]
def AT:SV→SV→Bool
 | .v a,.v b=>ej a b
 | .lp k o,.lp k' o'=>Nat.beq k k'&&Nat.beq o o'
 | _,_=>false
def YN (E:Env) (f:FuncId) (ops:List Oper) (o:Oper) (s:St):Bool:=match BG ops s o with
 | some true=>match o.dst,ao E f s o with
  | some d,some (c,s')=>c&&AT (lk s'.af d) (lk s.af d)
  | _,_=>false
 | some false=>true
 | none=>false
section
variable {E:Env} {f:FuncId} {s:St}
theorem zL {a b:SV} (h:AT a b=true):a=b:=by
 unfold AT at h
 split at h
 ·rw [jk h]
 ·simp only [Bool.and_eq_true,Nat.beq_eq] at h; rw [h.1,h.2]
 ·cases h
theorem zM {ops:List Oper} {o:Oper} (h:YN E f ops o s=true):Ex E f ops o s:=by
 unfold YN at h
 unfold Ex
 split at h
 ·rename_i hg
  rw [hg]
  simp only
  split at h
  ·rename_i d c s' hd hs
   rw [Bool.and_eq_true] at h
   obtain ⟨rfl,h⟩:=h
   rw [hd,hs]
   exact ⟨rfl,zL h⟩
  ·cases h
 ·rename_i hg
  rw [hg]
  trivial
 ·cases h
end
end Go.Am
namespace Go.Am
open Go
mutual
def AV.under (n:Nat):AV→Bool
 | .agg cs=>aH n cs
 | .bh cs=>aH n cs
 | .ep cs=>aH n cs
 | .list (.own id) _ _=>Nat.blt id n
 | .list (.bf id _) _ _=>Nat.blt id n
 | .fn _ x y=>aH n x&&aH n y
 | .iface _ v=>v.under n
 | .ptr id _=>Nat.blt id n
 | .jS id _ _ _ _=>Nat.blt id n
 | .dX id _ _ _ _=>Nat.blt id n
 | .gp id _ _ _ _ _=>Nat.blt id n
 | .map id=>Nat.blt id n
 | .yield id=>Nat.blt id n
 | _=>true
def aH (n:Nat):List AV→Bool
 | []=>true
 | a :: l=>a.under n&&aH n l
end
mutual
theorem iG (n:Nat):∀ {a:AV},a.closed=true→a.under n=true:=fun {a} h=>by
 cases a with
 | agg cs=>simp only [AV.closed,AV.under] at *; exact cp n h
 | bh cs=>simp only [AV.closed,AV.under] at *; exact cp n h
 | ep cs=>simp only [AV.closed,AV.under] at *; exact cp n h
 | list k sz es=>cases k <;> simp_all [AV.closed,AV.under,LK.closed]
 | fn f x y=>
  simp only [AV.closed,AV.under,Bool.and_eq_true] at *
  exact ⟨cp n h.1,cp n h.2⟩
 | iface t v=>simp only [AV.closed,AV.under] at *; exact iG n h
 | _=>simp_all [AV.closed,AV.under]
theorem cp (n:Nat):∀ {l:List AV},ba l=true→aH n l=true
 | [],_=>rfl
 | a :: l,h=>by
  simp only [ba,aH,Bool.and_eq_true] at *
  exact ⟨iG n h.1,cp n h.2⟩
end
theorem pj {a b:Nat} (h:Nat.blt a b=true):a < b:=Nat.le_of_ble_eq_true h
mutual
theorem lL:∀ {a:AV},a.under 0=true→a.closed=true:=fun {a} h=>by
 cases a with
 | agg cs=>simp only [AV.closed,AV.under] at *; exact eZ h
 | bh cs=>simp only [AV.closed,AV.under] at *; exact eZ h
 | ep cs=>simp only [AV.closed,AV.under] at *; exact eZ h
 | list k sz es=>cases k <;> first | rfl | (simp [AV.under] at h)
 | fn f x y=>
  simp only [AV.closed,AV.under,Bool.and_eq_true] at *
  exact ⟨eZ h.1,eZ h.2⟩
 | iface t v=>simp only [AV.closed,AV.under] at *; exact lL h
 | ptr id off=>simp only [AV.under] at h; exact absurd (pj h) (Nat.not_lt_zero _)
 | jS id off sz len cap=>simp only [AV.under] at h; exact absurd (pj h) (Nat.not_lt_zero _)
 | dX id f off sz len=>simp only [AV.under] at h; exact absurd (pj h) (Nat.not_lt_zero _)
 | gp id f i off sz t=>simp only [AV.under] at h; exact absurd (pj h) (Nat.not_lt_zero _)
 | map id=>simp only [AV.under] at h; exact absurd (pj h) (Nat.not_lt_zero _)
 | yield id=>simp only [AV.under] at h; exact absurd (pj h) (Nat.not_lt_zero _)
 | _=>rfl
theorem eZ:∀ {l:List AV},aH 0 l=true→ba l=true
 | [],_=>rfl
 | a :: l,h=>by
  simp only [aH,ba,Bool.and_eq_true] at *
  exact ⟨lL h.1,eZ h.2⟩
end
section move
variable {R R2:ai} {w:World} {n:Nat}
structure Mv (R R2:ai) (n:Nat):Prop where
 I:∀ b o,R.I b o→R2.I b o
 obj:∀ id ro,id < n→nth R.obj id=some ro→nth R2.obj id=some ro
theorem jK {a b:Nat} (h:Nat.blt a b=true):a < b:=Nat.le_of_ble_eq_true h
theorem kH {a b:Nat} (h:a < b):Nat.blt a b=true:=Nat.ble_eq_true_of_le h
theorem Aq.move (m:Mv R R2 n) {k:LK} {b o len cap:Nat} (h:Aq R k b o len cap) (hk:∀ id,(k=.own id∨∃ j,k=.bf id j)→id < n):Aq R2 k b o len cap:=by
 cases k with
 | nil=>exact h
 | full=>exact h
 | jP=>trivial
 | own id=>obtain ⟨ro,h1,h2⟩:=h; exact ⟨ro,m.obj id ro (hk id (.inl rfl)) h1,h2⟩
 | bf id j=>obtain ⟨ro,h1,h2⟩:=h; exact ⟨ro,m.obj id ro (hk id (.inr ⟨j,rfl⟩)) h1,h2⟩
mutual
theorem Rel.move (m:Mv R R2 n):∀ {a:AV} {c:Value},a.under n=true→Rel R w a c→Rel R2 w a c
 | _,_,_,.bool b=>.bool b
 | _,_,_,.int k i=>.int k i
 | _,_,_,.str l=>.str l
 | _,_,hb,.agg h h1=>.agg (h.move m (by simpa [AV.under] using hb)) h1
 | _,_,hb,.bh h=>.bh (h.move m (by simpa [AV.under] using hb))
 | _,_,_,.iA=>.iA
 | _,_,hb,.ptr h=>.ptr (m.obj _ _ (jK (by simpa [AV.under] using hb)) h)
 | _,_,hb,.ep h=>.ep (h.move m (by simpa [AV.under] using hb))
 | _,_,_,.jE=>.jE
 | _,_,_,.iR=>.iR
 | _,_,_,.mL=>.mL
 | _,_,hb,.lZ h ho=>.lZ (m.obj _ _ (jK (by simpa [AV.under] using hb)) h) ho
 | _,_,hb,.lE h ho=>.lE (m.obj _ _ (jK (by simpa [AV.under] using hb)) h) ho
 | .list k sz es,_,hb,.list h hl hc hk=>.list (h.move m) hl hc (hk.move m fun id e=>by rcases e with e | ⟨j,e⟩ <;> subst e <;> exact jK (by simpa [AV.under] using hb))
 | _,_,hb,.jS h hc=>.jS (m.obj _ _ (jK (by simpa [AV.under] using hb)) h) hc
 | _,_,hb,.iM h ho=>.iM (m.obj _ _ (jK (by simpa [AV.under] using hb)) h) ho
 | _,_,hb,.dX h ho hc=>.dX (m.obj _ _ (jK (by simpa [AV.under] using hb)) h) ho hc
 | _,_,hb,.gp h ho=>.gp (m.obj _ _ (jK (by simpa [AV.under] using hb)) h) ho
 | _,_,_,.kr=>.kr
 | _,_,hb,.map h=>.map (m.obj _ _ (jK (by simpa [AV.under] using hb)) h)
 | _,_,_,.cz=>.cz
 | _,_,hb,.fn h h'=>.fn (h.move m (by simp only [AV.under,Bool.and_eq_true] at hb; exact hb.1)) (h'.move m (by simp only [AV.under,Bool.and_eq_true] at hb; exact hb.2))
 | _,_,hb,.yield h=>.yield (m.obj _ _ (jK (by simpa [AV.under] using hb)) h)
 | _,_,_,.nG=>.nG
 | _,_,hb,.iface h=>.iface (h.move m (by simpa [AV.under] using hb))
theorem aM.move (m:Mv R R2 n):∀ {l:List AV} {cs:List Value},aM R w l cs→aH n l=true→aM R2 w l cs
 | _,_,.nil,_=>.nil
 | _,_,.cons h t,hb=>by
  simp only [aH,Bool.and_eq_true] at hb
  exact .cons (h.move m hb.1) (t.move m hb.2)
theorem gk.move (m:Mv R R2 n):∀ {b o sz:Nat} {l:List AV},gk R w b o sz l→gk R2 w b o sz l
 | _,_,_,_,.nil=>.nil
 | _,_,_,_,@gk.cons _ _ _ _ _ e _ hl ht hk h t=>.cons hl ht hk (h.move m (by
   cases e with
   | agg cs=>exact cp n (show ba cs=true by simpa [AV.closed] using hk)
   | bh cs=>simp [AV.aV] at ht
   | _=>simp only [AV.cells,aH,Bool.and_true]; exact iG n hk)) (t.move m)
theorem dP.move (m:Mv R R2 n):∀ {b o:Nat} {l:List AV},dP R w b o l→aH n l=true→dP R2 w b o l
 | _,_,_,.nil,_=>.nil
 | _,_,_,.cons hc h1 hi h t,hb=>by
  simp only [aH,Bool.and_eq_true] at hb
  exact .cons hc h1 (m.I _ _ hi) (h.move m hb.1) (t.move m hb.2)
end
theorem jG.move {E:Env} (m:Mv R R2 n) {g:Nat} {cs:List AV} (h:jG E R w g cs) (hu:aH n cs=true):jG E R2 w g cs:=
 ⟨h.1.move m hu,fun hx=>⟨m.I _ _ (h.2 hx).1,(h.2 hx).2⟩⟩
mutual
theorem Rel.under (hn:R.obj.length≤n):∀ {a:AV} {c:Value},Rel R w a c→a.under n=true
 | _,_,.bool _ | _,_,.int _ _ | _,_,.str _ | _,_,.iA | _,_,.jE | _,_,.iR | _,_,.mL | _,_,.kr | _,_,.cz | _,_,.nG=>by simp [AV.under]
 | _,_,.agg h _=>by simp only [AV.under]; exact h.under hn
 | _,_,.bh h=>by simp only [AV.under]; exact h.under hn
 | _,_,.ptr h=>by simp only [AV.under]; exact kH (Nat.lt_of_lt_of_le (bF h) hn)
 | _,_,.ep h=>by simp only [AV.under]; exact h.under hn
 | _,_,.lZ h _=>by simp only [AV.under]; exact kH (Nat.lt_of_lt_of_le (bF h) hn)
 | _,_,.lE h _=>by simp only [AV.under]; exact kH (Nat.lt_of_lt_of_le (bF h) hn)
 | _,_,@Rel.list _ _ k _ _ _ _ _ _ _ _ _ hk=>by
  cases k with
  | own id=>obtain ⟨ro,h1,_⟩:=hk; simp only [AV.under]; exact kH (Nat.lt_of_lt_of_le (bF h1) hn)
  | bf id j=>obtain ⟨ro,h1,_⟩:=hk; simp only [AV.under]; exact kH (Nat.lt_of_lt_of_le (bF h1) hn)
  | _=>simp [AV.under]
 | _,_,.jS h _=>by simp only [AV.under]; exact kH (Nat.lt_of_lt_of_le (bF h) hn)
 | _,_,.iM h _=>by simp only [AV.under]; exact kH (Nat.lt_of_lt_of_le (bF h) hn)
 | _,_,.dX h _ _=>by simp only [AV.under]; exact kH (Nat.lt_of_lt_of_le (bF h) hn)
 | _,_,.gp h _=>by simp only [AV.under]; exact kH (Nat.lt_of_lt_of_le (bF h) hn)
 | _,_,.map h=>by simp only [AV.under]; exact kH (Nat.lt_of_lt_of_le (bF h) hn)
 | _,_,.fn h h'=>by simp only [AV.under,Bool.and_eq_true]; exact ⟨h.under hn,h'.under hn⟩
 | _,_,.yield h=>by simp only [AV.under]; exact kH (Nat.lt_of_lt_of_le (bF h) hn)
 | _,_,.iface h=>by simp only [AV.under]; exact h.under hn
theorem aM.under (hn:R.obj.length≤n):∀ {l:List AV} {cs:List Value},aM R w l cs→aH n l=true
 | _,_,.nil=>rfl
 | _,_,.cons h t=>by simp only [aH,Bool.and_eq_true]; exact ⟨h.under hn,t.under hn⟩
theorem dP.under (hn:R.obj.length≤n):∀ {b o:Nat} {l:List AV},dP R w b o l→aH n l=true
 | _,_,_,.nil=>rfl
 | _,_,_,.cons _ _ _ h t=>by simp only [aH,Bool.and_eq_true]; exact ⟨h.under hn,t.under hn⟩
end
end move
end Go.Am
namespace Go.Am
open Go
mutual
def aO.under (n:Nat):aO→Bool
 | .agg ps=>ps.under n
 | .bh ps=>ps.under n
 | .own id _ _=>Nat.blt id n
 | .bf id _ _=>Nat.blt id n
 | .mF v=>v.under n
 | .two u v=>u.under n&&v.under n
 | _=>true
def aP.under (n:Nat):aP→Bool
 | .nil=>true
 | .cons p ps=>p.under n&&ps.under n
end
mutual
theorem aO.dA {n:Nat}:∀ (p:aO) (x:p.T),p.under n=true→(p.enc x).under n=true
 | .int k,x,_=>by simp [aO.enc,AV.under]
 | .bool,x,_=>by simp [aO.enc,AV.under]
 | .str,x,_=>by simp [aO.enc,AV.under]
 | .agg ps,x,h=>by
  simp only [aO.enc,AV.under]
  exact ps.dA x h
 | .bh ps,x,h=>by
  simp only [aO.enc,AV.under]
  exact ps.dA x h
 | .list sz p,x,_=>by simp [aO.enc,AV.under]
 | .own id sz p,x,h=>by
  simp only [aO.enc,AV.under]
  exact h
 | .bf id sz p,x,h=>by
  simp only [aO.enc,AV.under]
  exact h
 | .mF v,x,h=>by
  simp only [aO.enc]
  exact h
 | .two u v,(x:Bool),h=>by
  simp only [aO.under,Bool.and_eq_true] at h
  change AV.under n (bif x then v else u)=true
  cases x
  ·exact h.1
  ·exact h.2
theorem aP.dA {n:Nat}:∀ (ps:aP) (x:ps.T),ps.under n=true→aH n (ps.enc x)=true
 | .nil,x,_=>rfl
 | .cons p .nil,x,h=>by
  simp only [aP.under,Bool.and_true] at h
  simp only [aP.enc,aH,Bool.and_true]
  exact p.dA _ h
 | .cons p (.cons q ps),x,h=>by
  rw [aP.under,Bool.and_eq_true] at h
  simp only [aP.enc,aH,Bool.and_eq_true]
  exact ⟨p.dA _ h.1,(aP.cons q ps).dA _ h.2⟩
end
mutual
def AV.exact:AV→Bool
 | .bool _=>true
 | .int _ _=>true
 | .str _=>true
 | .agg cs=>fW cs
 | _=>false
def fW:List AV→Bool
 | []=>true
 | a :: l=>a.exact&&fW l
end
mutual
theorem aO.js:∀ (p:aO) {a:AV},p.fits a=true→a.exact=true→p.enc (p.bo a)=a
 | .int k,a,h,e=>by
  cases a with
  | int k' n=>have hk:RW k k'=true:=h; rw [DM hk]; rfl
  | _=>cases h
 | .bool,a,h,e=>by
  cases a with
  | bool b=>rfl
  | _=>cases h
 | .str,a,h,e=>by
  cases a with
  | str b=>rfl
  | _=>cases h
 | .agg ps,a,h,e=>by
  cases a with
  | agg cs=>
   have e':fW cs=true:=by simpa [AV.exact] using e
   show AV.agg (ps.enc (ps.bo cs))=_
   rw [ps.js (show ps.fits cs=true from h) e']
  | _=>cases h
 | .bh ps,a,h,e=>by cases a <;> first | (cases h; done) | simp [AV.exact] at e
 | .list sz p,a,h,e=>by cases a <;> first | (cases h; done) | simp [AV.exact] at e
 | .own id sz p,a,h,e=>by cases a <;> first | (cases h; done) | simp [AV.exact] at e
 | .bf id sz p,a,h,e=>by cases a <;> first | (cases h; done) | simp [AV.exact] at e
 | .mF u,a,h,e=>(jk (show ej a u=true from h)).symm
 | .two u v,a,h,_=>uY h
theorem aP.js:∀ (ps:aP) {l:List AV},ps.fits l=true→fW l=true→ps.enc (ps.bo l)=l
 | .nil,l,h,_=>by
  cases l with
  | nil=>rfl
  | cons _ _=>cases h
 | .cons p .nil,l,h,e=>by
  cases l with
  | nil=>cases h
  | cons a l=>
   have h':(p.fits a&&l.isEmpty)=true:=h
   simp only [Bool.and_eq_true,List.isEmpty_iff] at h'
   obtain ⟨h1,rfl⟩:=h'
   simp only [fW,Bool.and_true] at e
   show [p.enc (p.bo a)]=_
   rw [p.js h1 e]
 | .cons p (.cons q ps),l,h,e=>by
  cases l with
  | nil=>cases h
  | cons a l=>
   have h':(p.fits a&&(aP.cons q ps).fits l)=true:=h
   rw [Bool.and_eq_true] at h'
   simp only [fW,Bool.and_eq_true] at e
   show p.enc (p.bo a) :: (aP.cons q ps).enc ((aP.cons q ps).bo l)=_
   rw [p.js h'.1 e.1,(aP.cons q ps).js h'.2 e.2]
end
mutual
theorem ni:∀ {a:AV},a.exact=true→a.closed=true:=fun {a} h=>by
 cases a with
 | agg cs=>simp only [AV.exact,AV.closed] at *; exact pS h
 | _=>simp_all [AV.exact,AV.closed]
theorem pS:∀ {l:List AV},fW l=true→ba l=true
 | [],_=>rfl
 | a :: l,h=>by
  simp only [fW,ba,Bool.and_eq_true] at *
  exact ⟨ni h.1,pS h.2⟩
end
def an:List (AV × AV)→List AV
 | []=>[]
 | (k,v) :: l=>.agg [k,v] :: an l
def WK:AV→AV × AV
 | .agg [k,v]=>(k,v)
 | _=>(fM,fM)
def ab:List AV→List (AV × AV)
 | []=>[]
 | a :: l=>WK a :: ab l
def AV.entries:AV→List (AV × AV)
 | .list _ _ es=>ab es
 | _=>[]
theorem nE:∀ l:List (AV × AV),ab (an l)=l
 | []=>rfl
 | (k,v) :: l=>by simp only [an,ab,nE l]; rfl
def AV.Jz:AV→Bool
 | .list .jP _ es=>fW es
 | _=>false
def jL:List AV→List AV→Prop
 | [],[]=>True
 | a :: l,b :: r=>iQ a b∧jL l r
 | _,_=>False
theorem jL.refl:∀ l:List AV,jL l l
 | []=>trivial
 | a :: l=>⟨iQ.refl a,jL.refl l⟩
theorem jL.length:∀ {l r:List AV},jL l r→l.length=r.length
 | [],[],_=>rfl
 | _ :: _,_ :: _,h=>by simp [jL.length h.2]
 | [],_ :: _,h=>h.elim
 | _ :: _,[],h=>h.elim
theorem jL.of {α:Type} {f:AV→Bool} {d:AV→α} {g:α→AV} (Fw:∀ v,f v=true→iQ v (g (d v))):∀ {es:List AV},allFit f es=true→jL es ((es.map d).map g)
 | [],_=>trivial
 | e :: es,h=>by
  simp only [allFit,Bool.and_eq_true] at h
  exact ⟨Fw e h.1,jL.of Fw h.2⟩
theorem aO.CA (p:aO) {a:AV} (h:p.fits a=true):jL a.dS (p.enc (p.bo a)).dS:=by
 cases p with
 | list sz p=>
  cases a with
  | list k bE es=>
   have hb:((Nat.beq sz bE || es.isEmpty)&&allFit p.fits es)=true:=h
   rw [Bool.and_eq_true] at hb
   exact jL.of (fun v hv=>p.cL hv) hb.2
  | _=>cases h
 | own id sz p=>
  cases a with
  | list k bE es=>
   cases k with
   | own jz=>
    have hb:((Nat.beq id jz&&Nat.beq sz bE)&&allFit p.fits es)=true:=h
    rw [Bool.and_eq_true] at hb
    exact jL.of (fun v hv=>p.cL hv) hb.2
   | _=>cases h
  | _=>cases h
 | bf id sz p=>
  cases a with
  | list k bE es=>
   cases k with
   | bf jz j=>
    have hb:((Nat.beq id jz&&Nat.beq sz bE)&&allFit p.fits es)=true:=h
    rw [Bool.and_eq_true] at hb
    exact jL.of (fun v hv=>p.cL hv) hb.2
   | _=>cases h
  | _=>cases h
 | mF u=>rw [show a=u from jk (show ej a u=true from h)]; exact jL.refl _
 | two u v=>rw [uY h]; exact jL.refl _
 | _=>cases a <;> first | (cases h; done) | exact jL.refl _
def It:List AV→List AV→Prop
 | [],[]=>True
 | a :: l,b :: r=>(a.exact=true→b=a)∧(a.Jz=true→b.dS=a.dS)∧jL a.dS b.dS∧It l r
 | _,_=>False
theorem wM {f:AV→Bool} {α:Type} {d:AV→α} {g:α→AV} (Fw:∀ a,f a=true→a.exact=true→g (d a)=a):∀ {es:List AV},allFit f es=true→fW es=true→(es.map d).map g=es
 | [],_,_=>rfl
 | a :: l,h,e=>by
  simp only [allFit,fW,Bool.and_eq_true] at *
  simp only [List.map_cons,Fw a h.1 e.1,wM Fw h.2 e.2]
theorem aO.CB (p:aO) {a:AV} (h:p.fits a=true) (e:a.Jz=true):(p.enc (p.bo a)).dS=a.dS:=by
 cases a with
 | list k bE es=>
  cases k with
  | jP=>
   have e':fW es=true:=e
   cases p with
   | list sz p=>
    have hb:((Nat.beq sz bE || es.isEmpty)&&allFit p.fits es)=true:=h
    rw [Bool.and_eq_true] at hb
    show (es.map p.bo).map p.enc=_
    rw [wM (fun a=>p.js) hb.2 e']
    rfl
   | mF u=>rw [show AV.list .jP bE es=u from jk (show ej _ u=true from h)]; rfl
   | two u v=>rw [uY h]
   | _=>cases h
  | _=>cases e
 | _=>cases e
theorem aP.JA:∀ (ps:aP) {l:List AV},ps.fits l=true→It l (ps.enc (ps.bo l))
 | .nil,l,h=>by
  cases l with
  | nil=>trivial
  | cons _ _=>cases h
 | .cons p .nil,l,h=>by
  cases l with
  | nil=>cases h
  | cons a l=>
   have h':(p.fits a&&l.isEmpty)=true:=h
   simp only [Bool.and_eq_true,List.isEmpty_iff] at h'
   obtain ⟨h1,rfl⟩:=h'
   exact ⟨p.js h1,p.CB h1,p.CA h1,trivial⟩
 | .cons p (.cons q ps),l,h=>by
  cases l with
  | nil=>cases h
  | cons a l=>
   have h':(p.fits a&&(aP.cons q ps).fits l)=true:=h
   rw [Bool.and_eq_true] at h'
   exact ⟨p.js h'.1,p.CB h'.1,p.CA h'.1,(aP.cons q ps).JA h'.2⟩
theorem It.split:∀ {l r l':List AV},It (l++r) l'→∃ a b,l'=a++b∧It l a∧It r b∧a.length=l.length
 | [],r,l',h=>⟨[],l',rfl,trivial,h,rfl⟩
 | x :: l,r,[],h=>h.elim
 | x :: l,r,y :: l',h=>by
  obtain ⟨a,b,rfl,h2,h3,h4⟩:=It.split (l:=l) (r:=r) (l':=l') h.2.2.2
  exact ⟨y :: a,b,rfl,⟨h.1,h.2.1,h.2.2.1,h2⟩,h3,by simp [h4]⟩
mutual
def AV.wN (L:Nat→Nat):AV→AV
 | .dX id 0 0 sz 0=>.dX id (L id) 0 sz (L id)
 | .fn f x y=>.fn f (JB L x) (JB L y)
 | v=>v
def JB (L:Nat→Nat):List AV→List AV
 | []=>[]
 | a :: l=>a.wN L :: JB L l
end
mutual
def aO.inst (L:Nat→Nat):aO→aO
 | .agg ps=>.agg (ps.inst L)
 | .bh ps=>.bh (ps.inst L)
 | .mF v=>.mF (v.wN L)
 | p=>p
def aP.inst (L:Nat→Nat):aP→aP
 | .nil=>.nil
 | .cons p ps=>.cons (p.inst L) (ps.inst L)
end
mutual
def aO.kI (L:Nat→Nat):(p:aO)→p.T→AV
 | .int k,(n:Int)=>.int k n
 | .bool,(b:Bool)=>.bool b
 | .str,(s:List UInt8)=>.str s
 | .agg ps,x=>.agg (ps.kI L x)
 | .bh ps,x=>.bh (ps.kI L x)
 | .list sz p,(xs:List p.T)=>.list .jP sz (xs.map p.enc)
 | .own id sz p,(xs:List p.T)=>.list (.own id) sz (xs.map p.enc)
 | .bf id sz p,(x:Nat × List p.T)=>.list (.bf id x.1) sz (x.2.map p.enc)
 | .mF v,_=>v.wN L
 | .two u v,(b:Bool)=>bif b then v else u
def aP.kI (L:Nat→Nat):(ps:aP)→ps.T→List AV
 | .nil,_=>[]
 | .cons p .nil,x=>[p.kI L x]
 | .cons p (.cons q ps),x=>p.kI L x.1 :: (aP.cons q ps).kI L x.2
end
mutual
def aO.mn (L:Nat→Nat):aO→AV→Bool
 | .int k,v=>aO.fits (.int k) v
 | .bool,v=>aO.fits .bool v
 | .str,v=>aO.fits .str v
 | .agg ps,v=>match v with
  | .agg cs=>ps.mn L cs
  | _=>false
 | .bh ps,v=>match v with
  | .bh cs=>ps.mn L cs
  | _=>false
 | .list sz p,v=>aO.fits (.list sz p) v
 | .own id sz p,v=>aO.fits (.own id sz p) v
 | .bf id sz p,v=>aO.fits (.bf id sz p) v
 | .mF v,u=>ej u (v.wN L)
 | .two u v,a=>aO.fits (.two u v) a
def aP.mn (L:Nat→Nat):aP→List AV→Bool
 | .nil,l=>l.isEmpty
 | .cons p ps,l=>match l with
  | a :: l=>p.mn L a&&ps.mn L l
  | []=>false
end
def aP.Hw (L:Nat→Nat) (ps:aP) (l:List AV):Option ps.T:=bif ps.mn L l then some (ps.bo l) else none
mutual
theorem aO.iY (L:Nat→Nat):∀ (p:aO) (a:AV),p.mn L a=(p.inst L).fits a
 | .int _,_=>rfl
 | .bool,_=>rfl
 | .str,_=>rfl
 | .agg ps,a=>by
  simp only [aO.mn,aO.inst,aO.fits]
  cases a <;> first | rfl | exact ps.iY L _
 | .bh ps,a=>by
  simp only [aO.mn,aO.inst,aO.fits]
  cases a <;> first | rfl | exact ps.iY L _
 | .list _ _,_=>rfl
 | .own _ _ _,_=>rfl
 | .bf _ _ _,_=>rfl
 | .mF _,_=>rfl
 | .two _ _,_=>rfl
theorem aP.iY (L:Nat→Nat):∀ (ps:aP) (l:List AV),ps.mn L l=(ps.inst L).fits l
 | .nil,_=>rfl
 | .cons p ps,l=>by
  cases l with
  | nil=>rfl
  | cons a l=>
   simp only [aP.mn,aP.inst,aP.fits]
   rw [p.iY L a,ps.iY L l]
end
mutual
theorem aO.ij (L:Nat→Nat):∀ (p:aO) (a:AV),p.kI L (p.bo a)=(p.inst L).enc ((p.inst L).bo a)
 | .int _,_=>rfl
 | .bool,_=>rfl
 | .str,_=>rfl
 | .agg ps,a=>congrArg AV.agg (ps.ij L a.jA)
 | .bh ps,a=>congrArg AV.bh (ps.ij L a.RX)
 | .list _ _,_=>rfl
 | .own _ _ _,_=>rfl
 | .bf _ _ _,_=>rfl
 | .mF _,_=>rfl
 | .two _ _,_=>rfl
theorem aP.ij (L:Nat→Nat):∀ (ps:aP) (l:List AV),ps.kI L (ps.bo l)=(ps.inst L).enc ((ps.inst L).bo l)
 | .nil,_=>rfl
 | .cons p .nil,l=>by
  show [p.kI L (p.bo (eu l))]=[(p.inst L).enc ((p.inst L).bo (eu l))]
  rw [p.ij L]
 | .cons p (.cons q ps),l=>by
  show p.kI L (p.bo (eu l)) :: (aP.cons q ps).kI L ((aP.cons q ps).bo (ID l))=(p.inst L).enc ((p.inst L).bo (eu l)) :: ((aP.cons q ps).inst L).enc (((aP.cons q ps).inst L).bo (ID l))
  rw [p.ij L,(aP.cons q ps).ij L]
end
mutual
theorem AV.wO {n:Nat} (L:Nat→Nat):∀ {a:AV},a.under n=true→(a.wN L).under n=true:=fun {a} h=>by
 cases a with
 | dX id f off sz len=>
  unfold AV.wN
  split
  ·rename_i h1
   cases h1
   exact h
  ·rename_i h1
   cases h1
  ·exact h
 | fn f x y=>
  simp only [AV.wN,AV.under,Bool.and_eq_true] at *
  exact ⟨qt L h.1,qt L h.2⟩
 | _=>exact h
theorem qt {n:Nat} (L:Nat→Nat):∀ {l:List AV},aH n l=true→aH n (JB L l)=true
 | [],_=>rfl
 | a :: l,h=>by
  simp only [JB,aH,Bool.and_eq_true] at *
  exact ⟨AV.wO L h.1,qt L h.2⟩
end
mutual
theorem aO.iZ {n:Nat} (L:Nat→Nat):∀ {p:aO},p.under n=true→(p.inst L).under n=true
 | .int _,_=>rfl
 | .bool,_=>rfl
 | .str,_=>rfl
 | .agg ps,h=>aP.iZ L (ps:=ps) h
 | .bh ps,h=>aP.iZ L (ps:=ps) h
 | .list _ _,_=>rfl
 | .own _ _ _,h=>h
 | .bf _ _ _,h=>h
 | .mF v,h=>AV.wO L (a:=v) h
 | .two _ _,h=>h
theorem aP.iZ {n:Nat} (L:Nat→Nat):∀ {ps:aP},ps.under n=true→(ps.inst L).under n=true
 | .nil,_=>rfl
 | .cons p ps,h=>by
  simp only [aP.inst,aP.under,Bool.and_eq_true] at *
  exact ⟨aO.iZ L h.1,aP.iZ L h.2⟩
end
theorem AV.zN (L:Nat→Nat) (v:AV):(v.wN L).dS=v.dS:=by
 unfold AV.wN
 split <;> rfl
def nI:List AV→List AV→Prop
 | [],[]=>True
 | a :: l,b :: r=>a.dS.length=b.dS.length∧nI l r
 | _,_=>False
theorem aO.ow (L L':Nat→Nat) (p:aO) (x:p.T):(p.kI L x).dS=(p.kI L' x).dS:=by
 cases p with
 | mF v=>
  show (v.wN L).dS=(v.wN L').dS
  rw [AV.zN,AV.zN]
 | _=>rfl
theorem aP.ow (L L':Nat→Nat):∀ (ps:aP) (x:ps.T),nI (ps.kI L x) (ps.kI L' x)
 | .nil,_=>trivial
 | .cons p .nil,x=>⟨congrArg List.length (p.ow L L' x),trivial⟩
 | .cons p (.cons q ps),x=>⟨congrArg List.length (p.ow L L' x.1),(aP.cons q ps).ow L L' x.2⟩
theorem It.WL:∀ {l r:List AV},It l r→nI l r
 | [],[],_=>trivial
 | _ :: _,_ :: _,h=>⟨h.2.2.1.length,h.2.2.2.WL⟩
 | [],_ :: _,h=>h.elim
 | _ :: _,[],h=>h.elim
theorem nI.trans:∀ {l r u:List AV},nI l r→nI r u→nI l u
 | [],[],[],_,_=>trivial
 | _ :: _,_ :: _,_ :: _,h,k=>⟨h.1.trans k.1,h.2.trans k.2⟩
 | [],_ :: _,_,h,_=>h.elim
 | _ :: _,[],_,h,_=>h.elim
 | [],[],_ :: _,_,k=>k.elim
 | _ :: _,_ :: _,[],_,k=>k.elim
theorem nI.drop:∀ {l r:List AV} (n:Nat),nI l r→nI (l.drop n) (r.drop n)
 | l,r,0,h=>by simpa using h
 | [],[],_+1,_=>by simp [nI]
 | _ :: _,_ :: _,n+1,h=>by simpa using nI.drop n h.2
 | [],_ :: _,_+1,h=>h.elim
 | _ :: _,[],_+1,h=>h.elim
theorem aP.No (L:Nat→Nat) (ps:aP) {l:List AV} {x:ps.T} (h:ps.Hw L l=some x):cF l (ps.kI L x)∧It l (ps.kI L x):=by
 unfold aP.Hw at h
 cases hf:ps.mn L l with
 | true=>
  rw [hf] at h
  cases h
  rw [ps.ij L]
  rw [ps.iY L] at hf
  have hd:(ps.inst L).dec l=some ((ps.inst L).bo l):=by unfold aP.dec; rw [hf]; rfl
  exact ⟨((ps.inst L).qc hd).1,(ps.inst L).JA hf⟩
 | false=>rw [hf] at h; cases h
theorem aP.EM {n:Nat} (L:Nat→Nat) (ps:aP) (hp:ps.under n=true) (l:List AV):aH n (ps.kI L (ps.bo l))=true:=by
 rw [ps.ij L]
 exact (ps.inst L).dA _ (aP.iZ L hp)
theorem aP.Hx (L:Nat→Nat) (ps:aP) {l:List AV} {x:ps.T} (h:ps.Hw L l=some x):x=ps.bo l:=by
 unfold aP.Hw at h
 cases hf:ps.mn L l with
 | true=>rw [hf] at h; cases h; rfl
 | false=>rw [hf] at h; cases h
end Go.Am
namespace Go.Am
open Go
inductive DE
 | open_
 | busy
 | ret
 | ex (i:Nat)
def DE.is:DE→Bool→Option Code→Bool→Bool
 | .open_,false,none,false=>true
 | .busy,true,none,false=>true
 | .ret,false,some .ret,true=>true
 | .ex i,false,some (.exit j),true=>Nat.beq i j
 | _,_,_,_=>false
def DE.b:DE→Bool
 | .busy=>true
 | _=>false
def DE.p:DE→Option Code
 | .ret=>some .ret
 | .ex i=>some (.exit i)
 | _=>none
def DE.d:DE→Bool
 | .ret=>true
 | .ex _=>true
 | _=>false
theorem DE.F1 {k:DE} {b:Bool} {p:Option Code} {d:Bool} (h:k.is b p d=true):b=k.b∧p=k.p∧d=k.d:=by
 unfold DE.is at h
 split at h <;> first | exact ⟨rfl,rfl,rfl⟩ | (cases h; done) | skip
 rw [Nat.eq_of_beq_eq_true h]
 exact ⟨rfl,rfl,rfl⟩
inductive GL
 | row (n:Nat)
 | tok (loc sz:Nat) (e:TypeId)
 | dead
 | lp (k:DE)
 | cq
 | map
 | JC
 | dG (sz:Nat) (e:TypeId)
 | bf (sz:Nat) (e:TypeId)
 | rQ
 | nB (qb:Nat)
def cB (fs:List Nat):List AV:=fs.map fun n:Nat=>.int .i64 n
def aY (l:List AV):List Nat:=l.map fun a=>a.kZ.toNat
theorem uc (fs:List Nat):aY (cB fs)=fs:=by
 induction fs with
 | nil=>rfl
 | cons n fs ih=>
  show (AV.int .i64 n).kZ.toNat :: aY (cB fs)=n :: fs
  rw [ih]
  simp [AV.kZ]
theorem wP (fs:List Nat):fW (cB fs)=true:=by
 induction fs with
 | nil=>rfl
 | cons n fs ih=>exact ih
def SQ (k:DE):GO→GO→Bool
 | .loop _ _ _ _ _ _ _ _ _ _,.loop b p _ _ _ _ _ _ _ d=>k.is b p d
 | _,_=>false
def Q4 (k:DE):GO→GO
 | .loop _ _ fn sl n ps rH bd d _=>.loop k.b k.p fn sl n ps rH bd d k.d
 | _=>.dead
def bA (es:List (AV × AV)):Bool:=fW (an es)
def AU:GO→GO→Bool
 | .tok f sz e,.tok f' bE e'=>decide (f'=f)&&(Nat.beq bE sz&&Nat.beq e' e)
 | .defers a,.defers b=>match a,b with
  | true,true=>true
  | false,false=>true
  | _,_=>false
 | .dead,_=>true
 | _,_=>false
structure cD where
 ps:aP
 sl:List Tmp
 W:List Tmp
 bx:List (Nat × Nat)
 g:List GL
 Vu:List (Tmp × Nat × Nat)
def wQ (af:bc):List Tmp→Option (List AV)
 | []=>some []
 | t :: l=>match lk af t with
  | .v a=>match wQ af l with
   | some r=>some (a :: r)
   | none=>none
  | _=>none
def wR (bx:cE):List (Nat × Nat)→Option (List AV)
 | []=>some []
 | (k,n) :: l=>match dm bx k with
  | some cs=>match wR bx l with
   | some r=>bif Nat.beq cs.length n then some (cs++r) else none
   | none=>none
  | none=>none
def jZ:List GL→List GO→Option (List AV)
 | [],_=>some []
 | .row n :: l,.row cs _ :: G=>match jZ l G with
  | some r=>bif Nat.beq cs.length n then some (cs++r) else none
  | none=>none
 | .tok _ sz e :: l,.tok _ bE e' :: G=>bif Nat.beq sz bE&&Nat.beq e e' then jZ l G else none
 | .dead :: l,_ :: G=>jZ l G
 | .lp _ :: l,_ :: G=>jZ l G
 | .cq :: l,_ :: G=>jZ l G
 | .map :: l,.map es :: G=>match jZ l G with
  | some r=>some (.list .jP 2 (an es) :: r)
  | none=>none
 | .JC :: l,.gB s pos :: G=>match jZ l G with
  | some r=>some (.str s :: .int .i64 pos :: r)
  | none=>none
 | .dG sz e :: l,.dG es bE e' :: G=>match jZ l G with
  | some r=>bif Nat.beq sz bE&&Nat.beq e e' then some (.list .jP bE es :: r) else none
  | none=>none
 | .bf sz e :: l,.bf fs bE e' :: G=>match jZ l G with
  | some r=>bif Nat.beq sz bE&&Nat.beq e e' then some (.list .jP 1 (cB fs) :: r) else none
  | none=>none
 | .rQ :: l,.map es :: G=>match jZ l G with
  | some r=>some (.list .jP 2 (an es) :: r)
  | none=>none
 | .nB qb :: l,.nB mid' n left _ _ :: G=>match jZ l G with
  | some r=>bif Nat.beq qb mid' then some (.int .i64 n :: .list .jP 1 (cB left) :: r) else none
  | none=>none
 | _,_=>none
def JD (vs:List AV) (loc:Nat):Nat:=match nth vs loc with
 | some (.list _ _ es)=>es.length
 | _=>0
def Q5:GO→GO→Bool
 | .row _ e,.row _ e'=>Nat.beq e e'
 | _,_=>false
def Q6:GO→GO→Bool
 | .nB _ _ _ _ t,.nB _ _ _ _ t'=>Nat.beq t t'
 | _,_=>false
def WM:GO→TypeId
 | .nB _ _ _ _ t=>t
 | _=>0
def WN:GO→TypeId
 | .row _ e=>e
 | _=>0
def dC (vs:List AV):List GL→List GO→List GO→Bool
 | [],_,_=>true
 | .tok loc _ _ :: l,_ :: B,.tok f _ _ :: G=>decide (f=JD vs loc)&&dC vs l B G
 | .tok _ _ _ :: _,_,_=>false
 | .lp k :: l,o :: B,o' :: G=>SQ k o o'&&dC vs l B G
 | .cq :: l,o :: B,o' :: G=>AU o o'&&dC vs l B G
 | .row _ :: l,b :: B,g :: G=>Q5 b g&&dC vs l B G
 | .map :: l,_ :: B,.map es :: G=>bA es&&dC vs l B G
 | .map :: _,_,_=>false
 | .JC :: l,_ :: B,_ :: G=>dC vs l B G
 | .dG _ _ :: l,_ :: B,_ :: G=>dC vs l B G
 | .bf _ _ :: l,_ :: B,_ :: G=>dC vs l B G
 | .rQ :: l,_ :: B,_ :: G=>dC vs l B G
 | .nB _ :: l,b :: B,g :: G=>Q6 b g&&dC vs l B G
 | .dead :: l,_ :: B,_ :: G=>dC vs l B G
 | _,_,_=>false
def ox:List Tmp→List AV→bc→bc
 | t :: ts,a :: l,r=>.put t (.v a) :: ox ts l r
 | _,_,r=>r
def oz:List (Tmp × Nat × Nat)→bc→bc
 | (t,k,o) :: l,r=>.put t (.lp k o) :: oz l r
 | [],r=>r
def F2 (af:bc):List (Tmp × Nat × Nat)→Bool
 | []=>true
 | (t,k,o) :: l=>(match lk af t with
  | .lp k' o'=>Nat.beq k' k&&Nat.beq o' o
  | _=>false)&&F2 af l
def wS:List Tmp→bc→bc
 | t :: ts,r=>.put t .none :: wS ts r
 | [],r=>r
def uf:List (Nat × Nat)→List AV→cE→cE
 | (k,n) :: r,l,b=>(k,l.take n) :: uf r (l.drop n) b
 | [],_,b=>b
def du (vs:List AV):List GL→List GO→List AV→List GO
 | .row n :: r,B,l=>.row (l.take n) (WN (B.headD .dead)) :: du vs r B.tail (l.drop n)
 | .tok loc sz e :: r,B,l=>.tok (JD vs loc) sz e :: du vs r B.tail l
 | .dead :: r,B,l=>.dead :: du vs r B.tail l
 | .lp k :: r,B,l=>Q4 k (B.headD .dead) :: du vs r B.tail l
 | .cq :: r,B,l=>B.headD .dead :: du vs r B.tail l
 | .map :: r,B,l=>.map (AV.entries (eu l)) :: du vs r B.tail l.tail
 | .JC :: r,B,l=>.gB (AV.RY (eu l)) (AV.kZ (eu l.tail)).toNat :: du vs r B.tail l.tail.tail
 | .dG sz e :: r,B,l=>.dG (AV.dS (eu l)) sz e :: du vs r B.tail l.tail
 | .bf sz e :: r,B,l=>.bf (aY (AV.dS (eu l))) sz e :: du vs r B.tail l.tail
 | .rQ :: r,B,l=>.map (AV.entries (eu l)) :: du vs r B.tail l.tail
 | .nB qb :: r,B,l=>.nB qb (AV.kZ (eu l)).toNat (aY (AV.dS (eu l.tail))) none (WM (B.headD .dead)) :: du vs r B.tail l.tail.tail
 | [],_,_=>[]
def AW:List (Nat × Nat)→Nat
 | []=>0
 | (_,n) :: l=>n+AW l
def kJ:List GL→List AV→Nat→Nat
 | [],_,_=>0
 | .dG _ _ :: r,l,i=>match i with
  | 0=>(AV.dS (eu l)).length
  | i+1=>kJ r l.tail i
 | .row n :: r,l,i=>match i with
  | 0=>0
  | i+1=>kJ r (l.drop n) i
 | .map :: r,l,i=>match i with
  | 0=>0
  | i+1=>kJ r l.tail i
 | .JC :: r,l,i=>match i with
  | 0=>0
  | i+1=>kJ r l.tail.tail i
 | .bf _ _ :: r,l,i=>match i with
  | 0=>0
  | i+1=>kJ r l.tail i
 | .rQ :: r,l,i=>match i with
  | 0=>0
  | i+1=>kJ r l.tail i
 | .nB _ :: r,l,i=>match i with
  | 0=>0
  | i+1=>kJ r l.tail.tail i
 | _ :: r,l,i=>match i with
  | 0=>0
  | i+1=>kJ r l i
def cD.pG (t:cD) (v:t.ps.T):List AV:=t.ps.kI (kJ t.g (((t.ps.kI (fun _=>0) v).drop t.sl.length).drop (AW t.bx))) v
def cD.st (t:cD) (s:St) (v:t.ps.T):St:=
 ⟨oz t.Vu (ox t.sl (t.pG v) (wS t.W s.af)),uf t.bx ((t.pG v).drop t.sl.length) s.boxes,du (t.pG v) t.g s.G (((t.pG v).drop t.sl.length).drop (AW t.bx)),s.marks,s.ro,s.n⟩
def MO:List Nat→Nat→Bool
 | [],_=>false
 | a :: l,n=>Nat.beq a n || MO l n
def Vv (l:List Tmp) (W:List Tmp) (n:Nat):Bool:=MO l n || MO W n
def yR (d:Nat) (l W:List Tmp):bc→Bool
 | []=>true
 | .put t (.lp k _) :: r=>(!(Nat.beq k d) || Vv l W t)&&yR d l W r
 | _ :: r=>yR d l W r
def s9 (l W:List Tmp) (base:bc):bc→Bool
 | []=>true
 | .put d _ :: r=>Vv l W d&&s9 l W base r
 | .kill d :: r=>yR d l W base&&s9 l W base r
def uz:List (Nat × Nat)→Nat→Bool
 | [],_=>false
 | (a,_) :: l,n=>Nat.beq a n || uz l n
def vd (l:List (Nat × Nat)) (base:cE):cE→Bool
 | []=>true
 | (k,_) :: r=>(uz l k || (dm base k).isNone)&&vd l base r
def Np:List Nat→List Nat→Bool
 | [],[]=>true
 | a :: l,b :: r=>Nat.beq a b&&Np l r
 | _,_=>false
def aO.lcl (n:Nat):aO→Bool
 | .list _ p=>p.under n
 | _=>false
def aP.flags (n:Nat):aP→List Bool
 | .nil=>[]
 | .cons p ps=>p.lcl n :: ps.flags n
def kK:List GL→List Bool→Bool
 | [],_=>true
 | .dG _ _ :: r,f :: l=>f&&kK r l
 | .dG _ _ :: _,[]=>false
 | .row n :: r,l=>kK r (fE n l)
 | .map :: r,l=>kK r (fE 1 l)
 | .JC :: r,l=>kK r (fE 2 l)
 | .bf _ _ :: r,l=>kK r (fE 1 l)
 | .rQ :: r,f :: l=>f&&kK r l
 | .rQ :: _,[]=>false
 | .nB _ :: r,l=>kK r (fE 2 l)
 | _ :: r,l=>kK r l
def JE (n:Nat):List GL→Bool
 | []=>true
 | .nB qb :: r=>Nat.blt qb n&&JE n r
 | _ :: r=>JE n r
def cD.ok (t:cD) (s s':St):Bool:=
 s9 t.sl t.W s.af (s'.af.take (s'.af.length - s.af.length))&&vd t.bx s.boxes (s'.boxes.take (s'.boxes.length - s.boxes.length)) &&
  Np s'.marks s.marks&&Nat.beq t.g.length s.G.length&&(t.ps.under s.G.length&&(kK t.g (fE (AW t.bx) (fE t.sl.length (t.ps.flags s.G.length)))&&JE s.G.length t.g))&&F2 s'.af t.Vu
def cD.dec (t:cD) (s s':St):Option t.ps.T:=
 bif t.ok s s' then
  match wQ s'.af t.sl,wR s'.boxes t.bx,jZ t.g s'.G with
  | some a,some b,some c=>(t.ps.Hw (kJ t.g c) (a++(b++c))).bind fun v=>bif dC (t.pG v) t.g s.G s'.G then some v else none
  | _,_,_=>none
 else none
theorem AX {l:List Nat} {n:Nat}:MO l n=true↔n∈l:=by
 induction l with
 | nil=>simp [MO]
 | cons a l ih=>
  simp only [MO,Bool.or_eq_true,Nat.beq_eq,ih,List.mem_cons]
  constructor
  ·rintro (h | h)
   ·exact .inl h.symm
   ·exact .inr h
  ·rintro (h | h)
   ·exact .inl h.symm
   ·exact .inr h
theorem F3:∀ {a b:List Nat},Np a b=true→a=b
 | [],[],_=>rfl
 | a :: l,b :: r,h=>by
  simp only [Np,Bool.and_eq_true,Nat.beq_eq] at h
  rw [h.1,F3 h.2]
 | [],_ :: _,h=>by cases h
 | _ :: _,[],h=>by cases h
theorem AY {d:Nat} {l W:List Tmp} {t off:Nat}:∀ {base:bc},yR d l W base=true→lk base t=.lp d off→Vv l W t=true
 | [],_,h=>by simp [lk] at h
 | .put t' x :: r,hn,h=>by
  by_cases e:t'=t
  ·subst e
   rw [aA] at h
   subst h
   simp only [yR,Nat.beq_refl,Bool.not_true,Bool.false_or,Bool.and_eq_true] at hn
   exact hn.1
  ·rw [aR e] at h
   refine AY (base:=r) ?_ h
   cases x <;> simp only [yR,Bool.and_eq_true] at hn
   ·exact hn
   ·exact hn
   ·exact hn.2
 | .kill d' :: r,hn,h=>by
  rcases Fv (l:=r) (d:=d') (t:=t) with ⟨h1,_⟩ | h1
  ·rw [h1] at h
   exact AY (base:=r) hn h
  ·rw [h1] at h
   cases h
theorem AZ {l W:List Tmp} {base:bc} {t:Nat} (ht:Vv l W t=false):∀ {pre:bc},s9 l W base pre=true→lk (pre++base) t=lk base t
 | [],_=>rfl
 | .put d x :: r,h=>by
  simp only [s9,Bool.and_eq_true] at h
  have cm:d≠t:=fun e=>by rw [e,ht] at h; exact absurd h.1 (by simp)
  rw [List.cons_append,aR cm]
  exact AZ ht h.2
 | .kill d :: r,h=>by
  simp only [s9,Bool.and_eq_true] at h
  have ih:=AZ ht h.2
  simp only [List.cons_append,lk,ih]
  cases hb:lk base t with
  | lp k off=>
   by_cases e:k=d
   ·subst e
    have:=AY h.1 hb
    rw [ht] at this
    cases this
   ·simp [mM e]
  | _=>rfl
theorem CC {l:List (Nat × Nat)} {base:cE} {k:Nat} {cs:List AV} (hk:uz l k=false) (hb:dm base k=some cs):∀ {pre:cE},vd l base pre=true→dm (pre++base) k=some cs
 | [],_=>hb
 | (d,x) :: r,h=>by
  simp only [vd,Bool.and_eq_true] at h
  have cm:d≠k:=fun e=>by
   rw [e,hk,hb] at h
   exact absurd h.1 (by simp)
  rw [List.cons_append,dm,mM cm]
  exact CC hk hb h.2
theorem CD {α:Type} (pre base:List α):(pre++base).take ((pre++base).length - base.length)=pre:=by
 rw [List.length_append,Nat.add_sub_cancel,List.take_left]
def ai.cut (R:ai) (n:Nat):ai:=⟨R.I,R.obj.take n⟩
theorem j5 {R:ai} {n id:Nat} {ro:RO}:nth (R.cut n).obj id=some ro↔id < n∧nth R.obj id=some ro:=by
 simp only [ai.cut,a8,List.getElem?_take]
 split
 ·simp_all
 ·simp_all
  omega
theorem oA (R:ai) (n:Nat):Mv R (R.cut n) n:=⟨fun _ _ h=>h,fun _ _ hl h=>j5.2 ⟨hl,h⟩⟩
section BF
variable {E:Env} {R R':ai} {w w':World} {β β':Nat→Nat} {s s':St} {a a':Act}
def wT (R:ai) (w:World) (β:Nat→Nat) (K:Nat→Prop) (af:bc) (tmps:Array Value):Prop:=
 ∀ i,¬ K i→lk af i≠.none→∃ c,tmps[i]?=some c∧pC R w β (lk af i) c
theorem wU {tmps:Array Value} {base:bc}:∀ {W:List Tmp} {K:Nat→Prop},wT R w β (fun i=>i∈W∨K i) base tmps→wT R w β K (wS W base) tmps
 | [],K,h=>fun i hi hn=>h i (by simpa using hi) hn
 | t :: W,K,h=>fun i hi hn=>by
  have ih:wT R w β (fun i=>i=t∨K i) (wS W base) tmps:=wU (W:=W) (fun j hj=>h j (fun hc=>hj (by
   rcases hc with hc | hc
   ·rcases List.mem_cons.1 hc with hc | hc
    ·exact .inr (.inl hc)
    ·exact .inl hc
   ·exact .inr (.inr hc))))
  simp only [wS] at hn ⊢
  by_cases e:t=i
  ·subst e
   rw [aA] at hn
   exact absurd rfl hn
  ·rw [aR e] at hn ⊢
   exact ih i (by simp; exact ⟨fun e'=>e e'.symm,hi⟩) hn
theorem ug {n:Nat} (m:Mv R' R n) {tmps:Array Value} {af:bc} (hT:nP R' w β af tmps) {base:bc}:∀ {ts:List Tmp} {K:Nat→Prop} {l l' r r':List AV},wQ af ts=some l→cF (l++r) (l'++r')→l.length=l'.length→aH n l'=true →
  wT R w β (fun i=>i∈ts∨K i) base tmps→wT R w β K (ox ts (l'++r') base) tmps
 | [],K,l,l',r,r',_,_,_,_,h=>fun i hi hn=>by
  have e:ox [] (l'++r') base=base:=rfl
  rw [e] at hn ⊢
  exact h i (by simpa using hi) hn
 | t :: ts,K,l,l',r,r',hg,hw,hl,hu,h=>by
  unfold wQ at hg
  split at hg
  ·rename_i a ha
   split at hg
   ·rename_i l0 vN
    cases hg
    cases l' with
    | nil=>simp at hl
    | cons b l'=>
     simp only [List.cons_append,cF] at hw
     simp only [aH,Bool.and_eq_true] at hu
     have ih:wT R w β (fun i=>i=t∨K i) (ox ts (l'++r') base) tmps:=ug m hT vN hw.2 (by simpa using hl) hu.2 (fun j hj=>h j (fun hc=>hj (by
      rcases hc with hc | hc
      ·rcases List.mem_cons.1 hc with hc | hc
       ·exact .inr (.inl hc)
       ·exact .inl hc
      ·exact .inr (.inr hc))))
     intro i hi hn
     simp only [ox,List.cons_append] at hn ⊢
     by_cases e:t=i
     ·subst e
      rw [aA] at hn ⊢
      obtain ⟨c,h1,h2⟩:=hT t (by rw [ha]; simp)
      rw [ha] at h2
      exact ⟨c,h1,Rel.move m hu.1 (hw.1 _ _ _ h2)⟩
     ·rw [aR e] at hn ⊢
      exact ih i (by simp; exact ⟨fun e'=>e e'.symm,hi⟩) hn
   ·cases hg
  ·cases hg
def wV (R:ai) (w:World) (β:Nat→Nat) (k:Nat) (cs:List AV):Prop:=
 (∃ vs el,w.heap[β k]?=some (.cells ⟨vs⟩ el (0,0))∧aM R w cs vs∧(∀ v∈vs,v.oneCell'=true))∧(∀ o,¬ R.I (β k) o)∧¬ Live R (β k)
theorem CE {R:ai} {n b:Nat} (h:Live (R.cut n) b):Live R b:=by
 obtain ⟨id,ro,h1,h2⟩:=h
 exact ⟨id,ro,(j5.1 h1).2,h2⟩
theorem wV.cut {n k:Nat} {cs cs':List AV} (h:wV R w β k cs) (hw:cF cs cs') (hu:aH n cs'=true):wV (R.cut n) w β k cs':=by
 obtain ⟨⟨vs,el,h1,h2,h3⟩,h4,h5⟩:=h
 exact ⟨⟨vs,el,h1,(hw.rel h2).move (oA R n) hu,h3⟩,h4,fun hl=>h5 (CE hl)⟩
theorem fB {n:Nat}:∀ {l r:List AV},aH n (l++r)=(aH n l&&aH n r)
 | [],r=>by simp [aH]
 | a :: l,r=>by simp [aH,fB (l:=l),Bool.and_assoc]
theorem cF.split:∀ {l r l':List AV},cF (l++r) l'→∃ a b,l'=a++b∧cF l a∧cF r b∧a.length=l.length
 | [],r,l',h=>⟨[],l',rfl,trivial,h,rfl⟩
 | x :: l,r,[],h=>h.elim
 | x :: l,r,y :: l',h=>by
  obtain ⟨a,b,rfl,h2,h3,h4⟩:=cF.split (l:=l) (r:=r) (l':=l') h.2
  exact ⟨y :: a,b,rfl,⟨h.1,h2⟩,h3,by simp [h4]⟩
theorem CF {n:Nat} {YO:cE} (hb:∀ k cs,dm YO k=some cs→wV R w β k cs) {base:cE}:∀ {bx:List (Nat × Nat)} {K:Nat→Prop} {l l' r:List AV},wR YO bx=some l→cF l l'→aH n l'=true →
  (∀ k cs,¬ K k→uz bx k=false→dm base k=some cs→dm YO k=some cs∧aH n cs=true) →
  ∀ k cs,¬ K k→dm (uf bx (l'++r) base) k=some cs→wV (R.cut n) w β k cs∧∃ cs',dm YO k=some cs'
 | [],K,l,l',r,_,_,_,h,k,cs,hK,hk=>by
  obtain ⟨h1,h2⟩:=h k cs hK rfl hk
  exact ⟨(hb k cs h1).cut (cF.refl _) h2,cs,h1⟩
 | (d,m) :: bx,K,l,l',r,hg,hw,hu,h,k,cs,hK,hk=>by
  unfold wR at hg
  split at hg
  ·rename_i Wv hd
   split at hg
   ·rename_i l0 vN
    cases hm:Nat.beq Wv.length m with
    | false=>rw [hm] at hg; cases hg
    | true=>
     rw [hm] at hg
     cases hg
     have hm:=Nat.eq_of_beq_eq_true hm
     obtain ⟨x,y,rfl,k1,k2,k3⟩:=hw.split
     rw [fB,Bool.and_eq_true] at hu
     have e1:((x++y)++r).take m=x:=by rw [List.append_assoc,← hm,← k3,List.take_left]
     have e2:((x++y)++r).drop m=y++r:=by rw [List.append_assoc,← hm,← k3,List.drop_left]
     simp only [uf,e1,e2] at hk
     rcases eT hk with ⟨rfl,rfl⟩ | ⟨cm,hk⟩
     ·exact ⟨(hb d Wv hd).cut k1 hu.1,Wv,hd⟩
     ·refine CF hb (K:=fun k=>k=d∨K k) (r:=r) vN k2 hu.2 (fun k' cs' hK' h1 h2=>?_) k cs (fun hc=>?_) hk
      ·exact h k' cs' (fun hc=>hK' (.inr hc)) (by simp only [uz,h1,Bool.or_false]; exact mM (fun e=>hK' (.inl e.symm))) h2
      ·rcases hc with hc | hc
       ·exact cm hc.symm
       ·exact hK hc
   ·cases hg
  ·cases hg
def wW (n:Nat):List GL→List AV→Prop
 | [],_=>True
 | .dG _ _ :: r,l=>aH n (AV.dS (eu l))=true∧wW n r l.tail
 | .row m :: r,l=>wW n r (l.drop m)
 | .map :: r,l=>wW n r l.tail
 | .JC :: r,l=>wW n r l.tail.tail
 | .bf _ _ :: r,l=>wW n r l.tail
 | .rQ :: r,l=>aH n (AV.dS (eu l))=true∧wW n r l.tail
 | .nB _ :: r,l=>wW n r l.tail.tail
 | _ :: r,l=>wW n r l
def oB (n:Nat):List Bool→List AV→Prop
 | [],_=>True
 | _ :: _,[]=>True
 | f :: fl,a :: l=>(f=true→aH n a.dS=true)∧oB n fl l
theorem oB.drop {m:Nat}:∀ {fl:List Bool} {l:List AV} (n:Nat),oB m fl l→oB m (fE n fl) (l.drop n)
 | _,_,0,h=>by simpa [fE] using h
 | [],_,_+1,_=>by simp [fE,oB]
 | _ :: fl,[],n+1,_=>by
  rw [List.drop_nil]
  cases fE (n+1) (_ :: fl) <;> trivial
 | _ :: fl,_ :: l,n+1,h=>by simpa [fE] using oB.drop n h.2
theorem fH {m:Nat}:∀ (g:List GL) {fl:List Bool} {l:List AV},kK g fl=true→oB m fl l→wW m g l
 | [],_,_,_,_=>trivial
 | .dG _ _ :: g,[],_,h,_=>by cases h
 | .dG _ _ :: g,f :: fl,[],h,_=>by
  simp only [kK,Bool.and_eq_true] at h
  refine ⟨rfl,fH g (fl:=fl) h.2 ?_⟩
  cases fl <;> trivial
 | .dG _ _ :: g,f :: fl,a :: l,h,k=>by
  simp only [kK,Bool.and_eq_true] at h
  exact ⟨k.1 h.1,fH g h.2 k.2⟩
 | .row n :: g,fl,l,h,k=>fH g (show kK g (fE n fl)=true from h) (k.drop n)
 | .map :: g,fl,l,h,k=>by
  have:=fH g (show kK g (fE 1 fl)=true from h) (k.drop 1)
  rw [List.drop_one] at this
  exact this
 | .JC :: g,fl,l,h,k=>by
  have:=fH g (show kK g (fE 2 fl)=true from h) (k.drop 2)
  have e:l.drop 2=l.tail.tail:=by cases l with
   | nil=>rfl
   | cons a l=>cases l <;> rfl
  rw [e] at this
  exact this
 | .bf _ _ :: g,fl,l,h,k=>by
  have:=fH g (show kK g (fE 1 fl)=true from h) (k.drop 1)
  rw [List.drop_one] at this
  exact this
 | .nB _ :: g,fl,l,h,k=>by
  have:=fH g (show kK g (fE 2 fl)=true from h) (k.drop 2)
  have e:l.drop 2=l.tail.tail:=by cases l with
   | nil=>rfl
   | cons a l=>cases l <;> rfl
  rw [e] at this
  exact this
 | .rQ :: g,[],_,h,_=>by cases h
 | .rQ :: g,f :: fl,[],h,_=>by
  simp only [kK,Bool.and_eq_true] at h
  refine ⟨rfl,fH g (fl:=fl) h.2 ?_⟩
  cases fl <;> trivial
 | .rQ :: g,f :: fl,a :: l,h,k=>by
  simp only [kK,Bool.and_eq_true] at h
  exact ⟨k.1 h.1,fH g h.2 k.2⟩
 | .tok _ _ _ :: g,fl,l,h,k=>fH g (show kK g fl=true from h) k
 | .dead :: g,fl,l,h,k=>fH g (show kK g fl=true from h) k
 | .lp _ :: g,fl,l,h,k=>fH g (show kK g fl=true from h) k
 | .cq :: g,fl,l,h,k=>fH g (show kK g fl=true from h) k
theorem wX {n:Nat} {α:Type} {g:α→AV} (hg:∀ x,(g x).under n=true):∀ xs:List α,aH n (xs.map g)=true
 | []=>rfl
 | x :: xs=>by simp only [List.map_cons,aH,hg x,wX hg xs,Bool.and_self]
theorem aP.CG (n:Nat) (L:Nat→Nat):∀ (ps:aP) (x:ps.T),oB n (ps.flags n) (ps.kI L x)
 | .nil,_=>trivial
 | .cons p .nil,x=>⟨fun h=>Q7 L p x h,trivial⟩
 | .cons p (.cons q ps),x=>⟨fun h=>Q7 L p x.1 h,(aP.cons q ps).CG n L x.2⟩
where
 Q7 (L:Nat→Nat):∀ (p:aO) (x:p.T),p.lcl n=true→aH n (p.kI L x).dS=true
  | .list _ p,x,h=>wX (fun y=>p.dA y h) _
  | .int _,_,h=>by cases h
  | .bool,_,h=>by cases h
  | .str,_,h=>by cases h
  | .agg _,_,h=>by cases h
  | .bh _,_,h=>by cases h
  | .own _ _ _,_,h=>by cases h
  | .bf _ _ _,_,h=>by cases h
  | .mF _,_,h=>by cases h
  | .two _ _,_,h=>by cases h
def Z7 (n:Nat):GO→GO→Prop
 | .row cs el,.row cs' Yy=>Yy=el∧cF cs cs'∧aH n cs'=true
 | .tok f sz e,.tok f' bE e'=>f=f'∧sz=bE∧e=e'
 | .defers a,.defers b=>a=b
 | .map es,.map es'=>(es'=es∧bA es=true)∨∃ l,es'=ab l∧jL (an es) l∧aH n l=true
 | .bf fs sz e,.bf Ap bE e'=>fs=Ap∧sz=bE∧e=e'
 | .nB qb m left _ t,.nB mid' m' zw cur t'=>qb=mid'∧m=m'∧left=zw∧t=t'∧qb < n∧cur=none
 | .gB l p,.gB l' p'=>l'=l∧p'=p
 | .dG es sz e,.dG es' bE e'=>bE=sz∧e'=e∧jL es es'∧aH n es'=true
 | _,.dead=>True
 | _,_=>False
def Z8:GO→GO→GO→Prop
 | .loop _ _ fn sl n ps rH bd d _,.loop b p _ _ _ _ _ _ _ dn,go=>go=.loop b p fn sl n ps rH bd d dn
 | _,_,_=>False
theorem Hy {n:Nat} {o o':GO} (h:AU o o'=true):Z7 n o' o:=by
 cases o with
 | tok f sz e=>
  cases o' with
  | tok f' bE e'=>
   simp only [AU,Bool.and_eq_true] at h
   exact ⟨of_decide_eq_true h.1,Nat.eq_of_beq_eq_true h.2.1,Nat.eq_of_beq_eq_true h.2.2⟩
  | _=>cases h
 | defers a=>
  cases o' with
  | defers b=>cases a <;> cases b <;> first | rfl | cases h
  | _=>cases h
 | dead=>cases o' <;> trivial
 | _=>cases h
theorem Nq {k:DE} {o o':GO} (h:SQ k o o'=true):Z8 o o' (Q4 k o):=by
 cases o with
 | loop b p fn sl n ps rH bd d dn=>
  cases o' with
  | loop b' p' WO Vs n' WQ Nr Vw d' dn'=>
   obtain ⟨rfl,rfl,rfl⟩:=DE.F1 (show k.is b' p' dn'=true from h)
   rfl
  | _=>cases h
 | _=>cases h
theorem pT (a:AV):a.entries=ab a.dS:=by cases a <;> rfl
theorem gS {n:Nat} {vs:List AV}:∀ {g:List GL} {B G:List GO} {l l':List AV},jZ g G=some l→cF l l'→It l l'→wW n g l'∧JE n g=true→aH n l'=true→dC vs g B G=true →
  ∀ id go,nth (du vs g B l') id=some go→∃ go',nth G id=some go'∧(Z7 n go' go∨∃ Is,nth B id=some Is∧Z8 Is go' go)
 | [],B,G,l,l',_,_,_,_,_,_,id,go,h=>by simp [du,nth] at h
 | x :: g,[],G,l,l',_,_,_,_,_,ht,_,_,_=>by cases x <;> cases G <;> cases ht
 | x :: g,_ :: _,[],l,l',_,_,_,_,_,ht,_,_,_=>by cases x <;> cases ht
 | .row m :: g,b :: B,o :: G,l,l',hg,hw,hx,sE,hu,ht,id,go,h=>by
   obtain ⟨yx,EE⟩:Q5 b o=true∧dC vs g B G=true:=by
    rw [← Bool.and_eq_true]
    cases o <;> exact ht
   cases o with
   | row cs el=>
    have oS:WN b=el:=by
     cases b <;> first | (cases yx; done) | exact Nat.eq_of_beq_eq_true yx
    change (match jZ g G with
     | some r=>bif Nat.beq cs.length m then some (cs++r) else none
     | none=>none)=some l at hg
    split at hg
    ·rename_i r hr
     cases hm:Nat.beq cs.length m with
     | false=>rw [hm] at hg; cases hg
     | true=>
      rw [hm] at hg
      cases hg
      have hm:=Nat.eq_of_beq_eq_true hm
      obtain ⟨x,y,rfl,k1,k2,k3⟩:=hw.split
      rw [fB,Bool.and_eq_true] at hu
      have e1:(x++y).take m=x:=by rw [← hm,← k3,List.take_left]
      have e2:(x++y).drop m=y:=by rw [← hm,← k3,List.drop_left]
      simp only [du,e1,e2] at h
      cases id with
      | zero=>simp only [nth] at h; cases h; exact ⟨.row cs el,rfl,.inl ⟨oS,k1,hu.1⟩⟩
      | succ id=>exact gS hr k2 (by obtain ⟨x',y',e1',k1',MM,k3'⟩:=hx.split; have:=List.append_inj e1' (by rw [k3,k3']); rw [this.2]; exact MM) (by rw [← e2]; exact sE) hu.2 EE id go h
    ·cases hg
   | _=>cases hg
 | .tok loc sz e :: g,b :: B,o :: G,l,l',hg,hw,hx,sE,hu,ht,id,go,h=>by
   cases o with
   | tok f bE e'=>
    change (bif Nat.beq sz bE&&Nat.beq e e' then jZ g G else none)=some l at hg
    change (decide (f=JD vs loc)&&dC vs g B G)=true at ht
    rw [Bool.and_eq_true] at ht
    cases hm:(Nat.beq sz bE&&Nat.beq e e') with
    | false=>rw [hm] at hg; cases hg
    | true=>
     rw [hm] at hg
     rw [Bool.and_eq_true] at hm
     have q1:=Nat.eq_of_beq_eq_true hm.1
     have q2:=Nat.eq_of_beq_eq_true hm.2
     simp only [du] at h
     cases id with
     | zero=>
      simp only [nth] at h
      cases h
      exact ⟨.tok f bE e',rfl,.inl ⟨of_decide_eq_true ht.1,q1.symm,q2.symm⟩⟩
     | succ id=>exact gS hg hw hx sE hu ht.2 id go h
   | _=>cases hg
 | .dead :: g,b :: B,o :: G,l,l',hg,hw,hx,sE,hu,ht,id,go,h=>by
   simp only [du] at h
   have qd:jZ g G=some l:=by cases o <;> exact hg
   have EE:dC vs g B G=true:=by cases o <;> exact ht
   cases id with
   | zero=>
    simp only [nth] at h
    cases h
    exact ⟨o,rfl,.inl (by cases o <;> trivial)⟩
   | succ id=>exact gS qd hw hx sE hu EE id go h
 | .lp k :: g,b :: B,o :: G,l,l',hg,hw,hx,sE,hu,ht,id,go,h=>by
   simp only [du] at h
   have qd:jZ g G=some l:=by cases o <;> exact hg
   change (SQ k b o&&dC vs g B G)=true at ht
   rw [Bool.and_eq_true] at ht
   cases id with
   | zero=>
    simp only [nth] at h
    cases h
    exact ⟨o,rfl,.inr ⟨b,rfl,Nq ht.1⟩⟩
   | succ id=>exact gS qd hw hx sE hu ht.2 id go h
 | .cq :: g,b :: B,o :: G,l,l',hg,hw,hx,sE,hu,ht,id,go,h=>by
   simp only [du] at h
   have qd:jZ g G=some l:=by cases o <;> exact hg
   change (AU b o&&dC vs g B G)=true at ht
   rw [Bool.and_eq_true] at ht
   cases id with
   | zero=>
    simp only [nth] at h
    cases h
    exact ⟨o,rfl,.inl (Hy ht.1)⟩
   | succ id=>exact gS qd hw hx sE hu ht.2 id go h
 | .map :: g,b :: B,o :: G,l,l',hg,hw,hx,sE,hu,ht,id,go,h=>by
   cases o with
   | map es=>
    change (match jZ g G with
     | some r=>some (AV.list .jP 2 (an es) :: r)
     | none=>none)=some l at hg
    change (bA es&&dC vs g B G)=true at ht
    rw [Bool.and_eq_true] at ht
    split at hg
    ·rename_i r hr
     cases hg
     cases l' with
     | nil=>exact hw.elim
     | cons a l'=>
      simp only [aH,Bool.and_eq_true] at hu
      simp only [du,eu,List.tail_cons] at h
      cases id with
      | zero=>
       simp only [nth] at h
       cases h
       refine ⟨.map es,rfl,.inl (.inl ⟨?_,ht.1⟩)⟩
       rw [pT,hx.2.1 ht.1]
       exact nE es
      | succ id=>exact gS hr hw.2 hx.2.2.2 sE hu.2 ht.2 id go h
    ·cases hg
   | _=>cases hg
 | .JC :: g,b :: B,o :: G,l,l',hg,hw,hx,sE,hu,ht,id,go,h=>by
   have EE:dC vs g B G=true:=by cases o <;> exact ht
   cases o with
   | gB s pos=>
    change (match jZ g G with
     | some r=>some (AV.str s :: AV.int .i64 pos :: r)
     | none=>none)=some l at hg
    split at hg
    ·rename_i r hr
     cases hg
     match l',hw,hx,hu,h with
     | [],hw,_,_,_=>exact hw.elim
     | [_],hw,_,_,_=>exact hw.2.elim
     | a :: a' :: l',hw,hx,hu,h=>
      simp only [aH,Bool.and_eq_true] at hu
      simp only [du,eu,List.tail_cons] at h
      have e1:=hx.1 (by simp [AV.exact])
      have e2:=hx.2.2.2.1 (by simp [AV.exact])
      subst e1 e2
      cases id with
      | zero=>
       simp only [nth] at h
       cases h
       exact ⟨.gB s pos,rfl,.inl ⟨rfl,by simp [AV.kZ]⟩⟩
      | succ id=>exact gS hr hw.2.2 hx.2.2.2.2.2.2 sE hu.2.2 EE id go h
    ·cases hg
   | _=>cases hg
 | .dG sz e :: g,b :: B,o :: G,l,l',hg,hw,hx,sE,hu,ht,id,go,h=>by
   have EE:dC vs g B G=true:=by cases o <;> exact ht
   cases o with
   | dG es bE e'=>
    change (match jZ g G with
     | some r=>bif Nat.beq sz bE&&Nat.beq e e' then some (AV.list .jP bE es :: r) else none
     | none=>none)=some l at hg
    split at hg
    ·rename_i r hr
     cases hm:(Nat.beq sz bE&&Nat.beq e e') with
     | false=>rw [hm] at hg; cases hg
     | true=>
     rw [hm] at hg
     rw [Bool.and_eq_true] at hm
     have q1:=Nat.eq_of_beq_eq_true hm.1
     have q2:=Nat.eq_of_beq_eq_true hm.2
     cases hg
     cases l' with
     | nil=>exact hw.elim
     | cons a l'=>
      simp only [aH,Bool.and_eq_true] at hu
      simp only [du,eu,List.tail_cons] at h
      cases id with
      | zero=>
       simp only [nth] at h
       cases h
       exact ⟨.dG es bE e',rfl,.inl ⟨q1,q2,hx.2.2.1,sE.1.1⟩⟩
      | succ id=>exact gS hr hw.2 hx.2.2.2 ⟨sE.1.2,sE.2⟩ hu.2 EE id go h
    ·cases hg
   | _=>cases hg
 | .bf sz e :: g,b :: B,o :: G,l,l',hg,hw,hx,sE,hu,ht,id,go,h=>by
   have EE:dC vs g B G=true:=by cases o <;> exact ht
   cases o with
   | bf fs bE e'=>
    change (match jZ g G with
     | some r=>bif Nat.beq sz bE&&Nat.beq e e' then some (AV.list .jP 1 (cB fs) :: r) else none
     | none=>none)=some l at hg
    split at hg
    ·rename_i r hr
     cases hm:(Nat.beq sz bE&&Nat.beq e e') with
     | false=>rw [hm] at hg; cases hg
     | true=>
     rw [hm] at hg
     rw [Bool.and_eq_true] at hm
     have q1:=Nat.eq_of_beq_eq_true hm.1
     have q2:=Nat.eq_of_beq_eq_true hm.2
     cases hg
     cases l' with
     | nil=>exact hw.elim
     | cons a l'=>
      simp only [aH,Bool.and_eq_true] at hu
      simp only [du,eu,List.tail_cons] at h
      cases id with
      | zero=>
       simp only [nth] at h
       cases h
       refine ⟨.bf fs bE e',rfl,.inl ⟨?_,q1.symm,q2.symm⟩⟩
       rw [hx.2.1 (wP fs)]
       exact (uc fs).symm
      | succ id=>exact gS hr hw.2 hx.2.2.2 sE hu.2 EE id go h
    ·cases hg
   | _=>cases hg
 | .rQ :: g,b :: B,o :: G,l,l',hg,hw,hx,sE,hu,ht,id,go,h=>by
   have EE:dC vs g B G=true:=by cases o <;> exact ht
   cases o with
   | map es=>
    change (match jZ g G with
     | some r=>some (AV.list .jP 2 (an es) :: r)
     | none=>none)=some l at hg
    split at hg
    ·rename_i r hr
     cases hg
     cases l' with
     | nil=>exact hw.elim
     | cons a l'=>
      simp only [aH,Bool.and_eq_true] at hu
      simp only [du,eu,List.tail_cons] at h
      cases id with
      | zero=>
       simp only [nth] at h
       cases h
       exact ⟨.map es,rfl,.inl (.inr ⟨a.dS,pT a,hx.2.2.1,sE.1.1⟩)⟩
      | succ id=>exact gS hr hw.2 hx.2.2.2 ⟨sE.1.2,sE.2⟩ hu.2 EE id go h
    ·cases hg
   | _=>cases hg
 | .nB qb :: g,b :: B,o :: G,l,l',hg,hw,hx,sE,hu,ht,id,go,h=>by
   obtain ⟨yx,EE⟩:Q6 b o=true∧dC vs g B G=true:=by
    rw [← Bool.and_eq_true]
    cases o <;> exact ht
   cases o with
   | nB mid' k left cur t=>
    have oS:WM b=t:=by
     cases b <;> first | (cases yx; done) | exact Nat.eq_of_beq_eq_true yx
    change (match jZ g G with
     | some r=>bif Nat.beq qb mid' then some (AV.int .i64 k :: AV.list .jP 1 (cB left) :: r) else none
     | none=>none)=some l at hg
    split at hg
    ·rename_i r hr
     cases hm:Nat.beq qb mid' with
     | false=>rw [hm] at hg; cases hg
     | true=>
     rw [hm] at hg
     have q1:=Nat.eq_of_beq_eq_true hm
     subst q1
     cases hg
     have Z9:=sE.2
     simp only [JE,Bool.and_eq_true] at Z9
     match l',hw,hx,hu,h with
     | [],hw,_,_,_=>exact hw.elim
     | [_],hw,_,_,_=>exact hw.2.elim
     | a :: a' :: l',hw,hx,hu,h=>
      simp only [aH,Bool.and_eq_true] at hu
      simp only [du,eu,List.tail_cons] at h
      have e1:=hx.1 (by simp [AV.exact])
      have e2:=hx.2.2.2.2.1 (wP left)
      subst e1
      cases id with
      | zero=>
       simp only [nth] at h
       cases h
       refine ⟨.nB qb k left cur t,rfl,.inl ⟨rfl,by simp [AV.kZ],?_,oS.symm,jK Z9.1,rfl⟩⟩
       rw [e2]
       exact (uc left).symm
      | succ id=>exact gS hr hw.2.2 hx.2.2.2.2.2.2 ⟨sE.1,Z9.2⟩ hu.2.2 EE id go h
    ·cases hg
   | _=>cases hg
theorem cO {vs:List AV}:∀ {g:List GL} {B:List GO} {l:List AV},(du vs g B l).length=g.length
 | [],_,_=>rfl
 | .row m :: g,B,l=>by simp [du,cO (g:=g)]
 | .tok _ _ _ :: g,B,l=>by simp [du,cO (g:=g)]
 | .dead :: g,B,l=>by simp [du,cO (g:=g)]
 | .lp _ :: g,B,l=>by simp [du,cO (g:=g)]
 | .cq :: g,B,l=>by simp [du,cO (g:=g)]
 | .map :: g,B,l=>by simp [du,cO (g:=g)]
 | .dG _ _ :: g,B,l=>by simp [du,cO (g:=g)]
 | .JC :: g,B,l=>by simp [du,cO (g:=g)]
 | .bf _ _ :: g,B,l=>by simp [du,cO (g:=g)]
 | .rQ :: g,B,l=>by simp [du,cO (g:=g)]
 | .nB _ :: g,B,l=>by simp [du,cO (g:=g)]
theorem gF.lok {R0:ai} {w0:World} {Q8:RO} {Is go' go:GO} {ro:RO} (e:Ext R0 w0 R w) (h0:gF R0 w0 Is Q8) (hle:cw Q8 ro) (h:gF R' w go' ro) (k:Z8 Is go' go):gF R w go ro:=by
 cases Is with
 | loop b p fn sl n ps rH bd d dn=>
  cases go' with
  | loop b' p' WO Vs n' WQ Nr Vw d' dn'=>
   change go=_ at k
   subst k
   cases Q8 with
   | bU bb=>
    simp only [cw] at hle
    subst hle
    obtain ⟨⟨r0,db0,l1,l2,l3,l4,l5,l6,l7,l8,l9,l10⟩,l11⟩:=h0
    obtain ⟨⟨r,db,m1,m2,m3,m4,m5,m6,m7,m8,m9,m10⟩,m11⟩:=h
    obtain ⟨r1,q1,q2,q3,q4,q5,q6⟩:=e.lp bb r0 l1
    have hr:r1=r:=by
     have:=q1.symm.trans m1
     injection this with this
     injection this with this
    subst hr
    exact ⟨⟨r1,db0,q1,m2,m3,by rw [q2]; exact nP.mono e l4,by rw [q2]; exact l5,by rw [q3]; exact l6,by rw [q4]; exact l7,by rw [q5]; exact l8,by rw [q6]; exact l9,e.bU l10⟩,l11⟩
   | none=>exact h0.elim
   | bz=>exact h0.elim
   | tok _ _ _=>exact h0.elim
   | bf _=>exact h0.elim
  | _=>exact k.elim
 | _=>exact k.elim
theorem dp.cut {n:Nat}:∀ {es:List (AV × AV)} {az:List MapEntry},fW (an es)=true→dp R w es az→dp (R.cut n) w es az
 | [],[],_,_=>trivial
 | [],_ :: _,_,h=>h.elim
 | _ :: _,[],_,h=>h.elim
 | (k,v) :: es,en :: az,he,h=>by
  simp only [an,fW,AV.exact,Bool.and_true,Bool.and_eq_true] at he
  exact ⟨h.1.move (oA R n) (iG n (ni he.1.1)),h.2.1.move (oA R n) (iG n (ni he.1.2)),dp.cut he.2 h.2.2⟩
theorem CH {n:Nat} {v:AV} (h:v.under n=true) (k:v.aV=true):aH n v.cells=true:=by
 cases v <;> first | exact h | (simp [AV.aV] at k; done) | (simp only [AV.cells,aH,Bool.and_true]; exact h)
theorem wY {n sz:Nat}:∀ {es es':List AV},jL es es'→dw sz es→aH n es'=true→dw sz es'∧cF (av es) (av es')∧aH n (av es')=true
 | [],[],_,_,_=>⟨(fun e he=>by simp at he),trivial,rfl⟩
 | e :: es,e' :: es',h,k,q9=>by
  obtain ⟨h1,h2⟩:=h
  simp only [aH,Bool.and_eq_true] at q9
  obtain ⟨q1,q2⟩:=k e (by simp)
  obtain ⟨i1,i2,i3⟩:=wY h2 (fun x hx=>k x (by simp [hx])) q9.2
  have hc:=h1.cells q2
  have ht:e'.aV=true:=by rw [h1.bh,q2]
  refine ⟨fun x hx=>?_,hc.append i2,by show aH n (e'.cells++av es')=true; rw [fB,CH q9.1 ht,i3]; rfl⟩
  rcases List.mem_cons.1 hx with rfl | hx
  ·exact ⟨by rw [← hc.length,q1],ht⟩
  ·exact i1 x hx
 | [],_ :: _,h,_,_=>h.elim
 | _ :: _,[],h,_,_=>h.elim
theorem nI.head {l r:List AV} (h:nI l r):(AV.dS (eu l)).length=(AV.dS (eu r)).length:=by
 cases l <;> cases r <;> first | rfl | exact h.1 | exact h.elim
theorem nI.tail {l r:List AV} (h:nI l r):nI l.tail r.tail:=by
 cases l <;> cases r <;> first | exact h | exact h.2 | exact h.elim
theorem cP:∀ (g:List GL) {l r:List AV} (i:Nat),nI l r→kJ g l i=kJ g r i
 | [],_,_,_,_=>rfl
 | .dG _ _ :: g,l,r,0,h=>h.head
 | .dG _ _ :: g,l,r,i+1,h=>cP g i h.tail
 | .row _ :: g,l,r,0,h=>rfl
 | .row n :: g,l,r,i+1,h=>cP g i (h.drop n)
 | .map :: g,l,r,0,h=>rfl
 | .map :: g,l,r,i+1,h=>cP g i h.tail
 | .JC :: g,l,r,0,h=>rfl
 | .JC :: g,l,r,i+1,h=>cP g i h.tail.tail
 | .bf _ _ :: g,l,r,0,h=>rfl
 | .bf _ _ :: g,l,r,i+1,h=>cP g i h.tail
 | .rQ :: g,l,r,0,h=>rfl
 | .rQ :: g,l,r,i+1,h=>cP g i h.tail
 | .nB _ :: g,l,r,0,h=>rfl
 | .nB _ :: g,l,r,i+1,h=>cP g i h.tail.tail
 | .tok _ _ _ :: g,l,r,0,h=>rfl
 | .tok _ _ _ :: g,l,r,i+1,h=>cP g i h
 | .dead :: g,l,r,0,h=>rfl
 | .dead :: g,l,r,i+1,h=>cP g i h
 | .lp _ :: g,l,r,0,h=>rfl
 | .lp _ :: g,l,r,i+1,h=>cP g i h
 | .cq :: g,l,r,0,h=>rfl
 | .cq :: g,l,r,i+1,h=>cP g i h
theorem dp.WR {n:Nat}:∀ {es:List (AV × AV)} {l:List AV} {az:List MapEntry},jL (an es) l→aH n l=true→dp R w es az→dp (R.cut n) w (ab l) az
 | [],[],[],_,_,_=>trivial
 | [],[],_ :: _,_,_,h=>h.elim
 | [],_ :: _,_,h,_,_=>h.elim
 | (_,_) :: _,[],_,h,_,_=>h.elim
 | (_,_) :: _,_ :: _,[],_,_,h=>h.elim
 | (k,v) :: es,a :: l,en :: az,hd,hu,h=>by
  obtain ⟨d1,d2⟩:=hd
  simp only [aH,Bool.and_eq_true] at hu
  have hc:=d1.cells rfl
  have hl:[k,v].length=a.cells.length:=hc.length
  cases a with
  | agg cs=>
   match cs,hc,hl with
   | [k',v'],hc,_=>
    have SR:aH n [k',v']=true:=hu.1
    simp only [aH,Bool.and_true,Bool.and_eq_true] at SR
    exact ⟨(hc.1 _ _ _ h.1).move (oA R n) SR.1,(hc.2.1 _ _ _ h.2.1).move (oA R n) SR.2,dp.WR d2 hu.2 h.2.2⟩
   | [],_,hl=>simp [AV.cells] at hl
   | [_],_,hl=>simp [AV.cells] at hl
   | _ :: _ :: _ :: _,_,hl=>simp [AV.cells] at hl
  | _=>simp [AV.cells] at hl
theorem gF.gok {n:Nat} {go go':GO} {ro:RO} (h:gF R w go' ro) (k:Z7 n go' go):gF (R.cut n) w go ro:=by
 cases go with
 | dead=>
  cases ro with
  | none=>trivial
  | bz=>trivial
  | bU b=>exact h.lt rfl
  | tok f b c=>exact h.lt rfl
  | bf ts=>exact fun j f b c hj=>h.lt ⟨j,f,c,hj⟩
 | row cs el=>
  cases go' with
  | row cs' Yy=>
   cases ro with
   | bU b=>
    obtain ⟨vs,h1,h2,h3,h4⟩:=h
    obtain ⟨rfl,k⟩:=k
    exact ⟨vs,h1,(k.1.rel h2).move (oA R n) k.2,h3,h4⟩
   | none=>exact h.elim
   | bz=>exact h.elim
   | tok _ _ _=>exact h.elim
   | bf _=>exact h.elim
  | _=>exact k.elim
 | tok f sz e=>
  cases go' with
  | tok f' bE e'=>
   obtain ⟨rfl,rfl,rfl⟩:=k
   cases ro with
   | bU b=>exact h.elim
   | none=>exact h.elim
   | bz=>exact h
   | tok _ _ _=>exact h
   | bf _=>exact h.elim
  | _=>exact k.elim
 | defers a=>
  cases go' with
  | defers b=>
   change b=a at k
   subst k
   cases ro <;> exact h
  | _=>exact k.elim
 | map es=>
  cases go' with
  | map es'=>
   cases ro with
   | bU b=>
    obtain ⟨az,clock,h1,h2,h3⟩:=h
    rcases k with ⟨rfl,k2⟩ | ⟨l,rfl,k2,k3⟩
    ·exact ⟨az,clock,h1,dp.cut k2 h2,h3⟩
    ·exact ⟨az,clock,h1,dp.WR k2 k3 h2,h3⟩
   | none=>exact h.elim
   | bz=>exact h.elim
   | tok _ _ _=>exact h.elim
   | bf _=>exact h.elim
  | _=>exact k.elim
 | bf fs sz e=>
  cases go' with
  | bf Ap bE e'=>
   obtain ⟨rfl,rfl,rfl⟩:=k
   cases ro <;> exact h
  | _=>exact k.elim
 | nB qb m left cur t=>
  cases go' with
  | nB mid' m' zw BW t'=>
   obtain ⟨rfl,rfl,rfl,rfl,k,rfl⟩:=k
   cases ro with
   | bU b=>obtain ⟨bm,seen,c0,h1,h2,h3,h4,h5,h6,_⟩:=h; exact ⟨bm,seen,c0,j5.2 ⟨k,h1⟩,h2,h3,h4,h5,h6,fun i hi=>by cases hi⟩
   | none=>exact h.elim
   | bz=>exact h.elim
   | tok _ _ _=>exact h.elim
   | bf _=>exact h.elim
  | _=>exact k.elim
 | gB l p=>
  cases go' with
  | gB l' p'=>
   obtain ⟨rfl,rfl⟩:=k
   cases ro <;> exact h
  | _=>exact k.elim
 | dG es sz e=>
  cases go' with
  | dG es' bE e'=>
   obtain ⟨rfl,rfl,k,kc⟩:=k
   cases ro with
   | bU b=>exact h.elim
   | none=>exact h.elim
   | bf _=>exact h.elim
   | bz=>
    have he:es'=[]:=h
    subst he
    exact List.eq_nil_of_length_eq_zero k.length.symm
   | tok f b c=>
    obtain ⟨h0,h1,cur,vs,h2,h3,h4,h5,h6,h7,h8,h9⟩:=h
    obtain ⟨k1,k2,k3⟩:=wY k h1 kc
    exact ⟨h0.trans k.length,k1,cur,vs,h2,h3,h4,h5,h6,(k2.rel h7).move (oA R n) k3,h8,h9⟩
  | _=>exact k.elim
 | _=>cases go' <;> exact k.elim
theorem pD.ids:∀ {l:List Nat} {ds:List Deferred},pD R l ds→∀ id∈l,id < R.obj.length
 | [],[],_,id,hi=>by simp at hi
 | x :: l,d :: ds,h,id,hi=>by
  obtain ⟨⟨b,h1,_⟩,h2⟩:=h
  rcases List.mem_cons.1 hi with rfl | hi
  ·exact bF h1
  ·exact pD.ids h2 id hi
 | [],_ :: _,h,_,_=>h.elim
 | _ :: _,[],h,_,_=>h.elim
theorem pD.cut {n:Nat}:∀ {l:List Nat} {ds:List Deferred},pD R l ds→(∀ id∈l,id < n)→pD (R.cut n) l ds
 | [],[],_,_=>trivial
 | x :: l,d :: ds,h,hi=>by
  obtain ⟨⟨b,h1,h3⟩,h2⟩:=h
  exact ⟨⟨b,j5.2 ⟨hi x (by simp),h1⟩,h3⟩,pD.cut h2 fun id hm=>hi id (by simp [hm])⟩
 | [],_ :: _,h,_=>h.elim
 | _ :: _,[],h,_=>h.elim
theorem uh {n:Nat} {tmps:Array Value} {af base:bc} (hT:nP R w β af tmps):∀ {l:List (Tmp × Nat × Nat)},F2 af l=true→nP (R.cut n) w β base tmps→nP (R.cut n) w β (oz l base) tmps
 | [],_,h=>h
 | (t,k,o) :: l,hl,h=>fun i hi=>by
  simp only [F2,Bool.and_eq_true] at hl
  simp only [oz] at hi ⊢
  by_cases e:t=i
  ·subst e
   rw [aA]
   have h1:=hl.1
   split at h1
   ·rename_i k' o' hk
    rw [Bool.and_eq_true] at h1
    have e1:=Nat.eq_of_beq_eq_true h1.1
    have e2:=Nat.eq_of_beq_eq_true h1.2
    subst e1 e2
    obtain ⟨c,q1,q2⟩:=hT t (by rw [hk]; simp)
    rw [hk] at q2
    exact ⟨c,q1,q2⟩
   ·cases h1
  ·rw [aR e] at hi ⊢
   exact uh hT hl.2 h i hi
theorem cD.BF {t:cD} {v:t.ps.T} (hs:aU s s') (h0:bi E R w β s a) (h:bi E R' w' β' s' a') (st:Step R w β s.boxes R' w' β' s'.boxes) (hd:t.dec s s'=some v) :
  bi E (R'.cut s.G.length) w' β' (t.st s v) a'∧Step R w β s.boxes (R'.cut s.G.length) w' β' (t.st s v).boxes:=by
 have hlen:=h0.g.len
 unfold cD.dec at hd
 cases dE:t.ok s s' with
 | false=>rw [dE] at hd; cases hd
 | true=>
 rw [dE] at hd
 simp only [cond_true] at hd
 unfold cD.ok at dE
 simp only [Bool.and_eq_true] at dE
 obtain ⟨⟨⟨⟨⟨k1,k2⟩,k3⟩,k4⟩,k5,k7,k8⟩,k6⟩:=dE
 obtain ⟨pre,yO⟩:=hs.sl
 obtain ⟨preB,Q9⟩:=hs.bx
 rw [yO,CD] at k1
 rw [Q9,CD] at k2
 have k3:=F3 k3
 have k4:=Nat.eq_of_beq_eq_true k4
 split at hd
 ·rename_i la lb lc g1 g2 g3
  cases hv:t.ps.Hw (kJ t.g lc) (la++(lb++lc)) with
  | none=>rw [hv] at hd; cases hd
  | some v'=>
  rw [hv] at hd
  simp only [Option.bind_some] at hd
  cases DC:dC (t.pG v') t.g s.G s'.G with
  | false=>rw [DC] at hd; cases hd
  | true=>
  rw [DC] at hd
  cases hd
  have lsl:∀ {ts:List Tmp} {l:List AV},wQ s'.af ts=some l→l.length=ts.length:=by
   intro ts
   induction ts with
   | nil=>intro l hl; simp only [wQ] at hl; cases hl; rfl
   | cons t ts ih=>
    intro l hl
    unfold wQ at hl
    split at hl
    ·split at hl
     ·rename_i hr
      cases hl
      simp [ih hr]
     ·cases hl
    ·cases hl
  have lbx:∀ {bx:List (Nat × Nat)} {l:List AV},wR s'.boxes bx=some l→l.length=AW bx:=by
   intro bx
   induction bx with
   | nil=>intro l hl; simp only [wR] at hl; cases hl; rfl
   | cons x bx ih=>
    obtain ⟨k,m⟩:=x
    intro l hl
    unfold wR at hl
    split at hl
    ·split at hl
     ·rename_i cs _ _ r hr
      cases hm:Nat.beq cs.length m with
      | false=>rw [hm] at hl; cases hl
      | true=>
       rw [hm] at hl
       cases hl
       simp only [AW,List.length_append,ih hr,Nat.eq_of_beq_eq_true hm]
     ·cases hl
    ·cases hl
  obtain ⟨hw,hex⟩:=t.ps.No _ hv
  have Ra:t.pG v=t.ps.kI (kJ t.g lc) v:=by
   unfold cD.pG
   congr 1
   funext i
   have hl:=hex.WL.trans (t.ps.ow (kJ t.g lc) (fun _=>0) v)
   have Jt:=(hl.drop t.sl.length).drop (AW t.bx)
   rw [← lsl g1,List.drop_left,← lbx g2,List.drop_left,lsl g1,lbx g2] at Jt
   exact (cP t.g i Jt).symm
  have hu:aH s.G.length (t.pG v)=true:=by
   rw [Ra,t.ps.Hx _ hv]
   exact t.ps.EM _ k5 _
  rw [← Ra] at hw hex
  have SS:∃ xa xb xc,t.pG v=xa++(xb++xc)∧cF la xa∧cF lb xb∧cF lc xc∧xa.length=la.length∧xb.length=lb.length∧It lc xc:=by
   obtain ⟨xa,r,h1,h2,h3,h4⟩:=hw.split
   obtain ⟨xb,xc,rfl,h6,h7,h8⟩:=h3.split
   rw [h1] at hex
   obtain ⟨ya,yr,g1,_,g3,g4⟩:=hex.split
   obtain ⟨_,rfl⟩:=List.append_inj g1 (by rw [h4,g4])
   obtain ⟨yb,yc,k1,_,k3,k4⟩:=g3.split
   obtain ⟨_,rfl⟩:=List.append_inj k1 (by rw [h8,k4])
   exact ⟨xa,xb,xc,h1,h2,h6,h7,h4,h8,k3⟩
  obtain ⟨xa,xb,xc,hx,wa,wb,wc,la1,lb1,exc⟩:=SS
  have hu':aH s.G.length xa=true∧aH s.G.length xb=true∧aH s.G.length xc=true:=by
   rw [hx,fB,fB] at hu
   simp only [Bool.and_eq_true] at hu
   exact ⟨hu.1,hu.2.1,hu.2.2⟩
  have e1:(t.pG v).drop t.sl.length=xb++xc:=by rw [hx,← lsl g1,← la1,List.drop_left]
  have e2:(xb++xc).drop (AW t.bx)=xc:=by rw [← lbx g2,← lb1,List.drop_left]
  have sE:wW s.G.length t.g xc:=by
   have hf:=((aP.CG s.G.length _ t.ps v).drop t.sl.length).drop (AW t.bx) (l:=(t.pG v).drop t.sl.length)
   rw [e1,e2] at hf
   exact fH t.g k7 hf
  have old:∀ {l:List AV} {cs:List Value},aM R w l cs→aH s.G.length l=true:=fun hr=>hr.under (by omega)
  have mv:=oA R' s.G.length
  have Yz:∀ k cs,dm s'.boxes k=some cs→wV R' w' β' k cs:=fun k cs hk=>h.b.box k cs hk
  have YP:∀ k cs,dm (uf t.bx (xb++xc) s.boxes) k=some cs→wV (R'.cut s.G.length) w' β' k cs∧∃ cs',dm s'.boxes k=some cs':=fun k cs hk=>by
   refine CF (K:=fun _=>False) Yz g2 wb hu'.2.1 (fun k cs _ h1 h2=>?_) k cs (fun h=>h) hk
   refine ⟨by rw [Q9]; exact CC h1 h2 k2,?_⟩
   obtain ⟨⟨vs,el,_,h4,_⟩,_⟩:=h0.b.box k cs h2
   exact old h4
  have stG:(t.st s v).G=du (t.pG v) t.g s.G xc:=by simp only [cD.st,e1,e2]
  have stB:(t.st s v).boxes=uf t.bx (xb++xc) s.boxes:=by simp only [cD.st,e1]
  have stS:(t.st s v).af=oz t.Vu (ox t.sl (xa++(xb++xc)) (wS t.W s.af)):=by simp only [cD.st,hx]
  have ext:Ext R w (R'.cut s.G.length) w':=⟨st.ext.I,st.ext.cell,fun id ro hi=>by
   obtain ⟨lT,h1,h2⟩:=st.ext.obj id ro hi
   exact ⟨lT,j5.2 ⟨by have:=bF hi; omega,h1⟩,h2⟩,st.ext.lp⟩
  refine ⟨⟨⟨?_,fun id go ro h1 h2=>?_,fun i j ri rj b h1 h2=>h.g.inj i j ri rj b (j5.1 h1).2 (j5.1 h2).2,h.g.wf,fun g cs hg=>(h.g.b6 g cs hg).move mv (cp _ (E.nN g cs hg)),h.g.lo⟩,?_,?_,?_,?_⟩,?_⟩
  ·rw [stG,cO,k4]
   have:=h.g.len
   have h3:s.G.length≤R'.obj.length:=by
    rcases Nat.lt_or_ge R'.obj.length s.G.length with cg | sA
    ·exfalso
     have hx:R'.obj.length < R.obj.length:=by omega
     obtain ⟨lT,h1,_⟩:=st.ext.obj R'.obj.length R.obj[R'.obj.length] (by rw [a8]; exact List.getElem?_eq_getElem hx)
     have:=bF h1
     omega
    ·exact sA
   simp [ai.cut]
   omega
  ·rw [stG] at h1
   obtain ⟨go',h3,h4⟩:=gS g3 wc exc ⟨sE,k8⟩ hu'.2.2 DC id go h1
   rcases h4 with h4 | ⟨Is,h5,h4⟩
   ·exact (h.g.obj id go' ro h3 (j5.1 h2).2).gok h4
   ·have cg:=bF h5
    rw [← hlen] at cg
    obtain ⟨Q8,h6⟩:∃ Q8,nth R.obj id=some Q8:=⟨R.obj[id],by rw [a8]; exact List.getElem?_eq_getElem cg⟩
    obtain ⟨lT,h7,h8⟩:=ext.obj id Q8 h6
    have:lT=ro:=Option.some.inj (h7.symm.trans h2)
    subst this
    exact gF.lok ext (h0.g.obj id Is Q8 h5 h6) h8 (h.g.obj id go' lT h3 (j5.1 h2).2) h4
  ·rw [stB]
   refine ⟨fun k cs hk=>(YP k cs hk).1,fun k k' cs cs' hk iK he=>?_⟩
   obtain ⟨_,c1,hc1⟩:=YP k cs hk
   obtain ⟨_,c2,Nd⟩:=YP k' cs' iK
   exact h.b.inj k k' c1 c2 hc1 Nd he
  ·rw [stS]
   have hT:wT (R'.cut s.G.length) w' β' (fun _=>False) (ox t.sl (xa++(xb++xc)) (wS t.W s.af)) a'.tmps:=by
    refine ug mv h.t g1 (l':=xa) (r:=lb++lc) (r':=xb++xc) (wa.append (wb.append wc)) la1.symm hu'.1 (wU fun i hi hn=>?_)
    have hi1:Vv t.sl t.W i=false:=by
     simp only [Vv,Bool.or_eq_false_iff]
     refine ⟨?_,?_⟩
     ·cases hc:MO t.sl i with
      | false=>rfl
      | true=>exact absurd (.inr (.inl (AX.1 hc))) hi
     ·cases hc:MO t.W i with
      | false=>rfl
      | true=>exact absurd (.inl (AX.1 hc)) hi
    have hk:=AZ hi1 k1
    rw [← yO] at hk
    obtain ⟨c,h1,h2⟩:=h.t i (by rw [hk]; exact hn)
    rw [hk] at h2
    refine ⟨c,h1,?_⟩
    obtain ⟨c0,_,h4⟩:=h0.t i hn
    revert h2 h4
    cases lk s.af i with
    | none=>exact fun _ _=>trivial
    | lp k off=>exact fun h2 _=>h2
    | v x=>exact fun h2 h4=>Rel.move mv (Rel.under (by omega) h4) h2
   exact uh h.t k6 (fun i hi=>hT i (fun h=>h) hi)
  ·show a'.tmps.size=s.n
   rw [h.n,hs.n]
  ·show pD _ s.marks a'.defers
   have:=h.d
   rw [k3] at this
   exact this.cut fun id hid=>by have:=h0.d.ids id hid; omega
  ·refine ⟨ext,st.os,st.tape,st.output,st.size,st.cq,fun b hb ho=>st.own b hb ?_,st.im⟩
   rcases ho with ho | ⟨k,cs,hk,rfl⟩
   ·exact .inl (CE ho)
   ·rw [stB] at hk
    obtain ⟨_,c1,hc1⟩:=YP k cs hk
    exact .inr ⟨k,c1,hc1,rfl⟩
 ·cases hd
end BF
end Go.Am
namespace Go.Am
open Go
def hJ:bc→bc
 | []=>[]
 | .put d (.lp _ _) :: l=>.put d .none :: hJ l
 | .put d x :: l=>.put d x :: hJ l
 | .kill _ :: l=>hJ l
def SV.yR:SV→SV
 | .lp _ _=>.none
 | x=>x
theorem ta (t:Nat):∀ l:bc,lk (hJ l) t=(lk l t).yR
 | []=>rfl
 | .put d x :: l=>by
  cases x <;> simp only [hJ] <;> by_cases e:d=t <;> first | (subst e; rw [aA,aA]; rfl) | (rw [aR e,aR e]; exact ta t l)
 | .kill d :: l=>by
  simp only [hJ,lk]
  rw [ta t l]
  cases lk l t with
  | lp k off=>
   by_cases e:k=d
   ·subst e; simp [SV.yR]
   ·simp [mM e,SV.yR]
  | _=>rfl
theorem nj:∀ l:bc,Fu (hJ l)=true
 | []=>rfl
 | .put d x :: l=>by
  cases x <;> simp only [hJ,Fu] <;> exact nj l
 | .kill d :: l=>by simp only [hJ]; exact nj l
def rfQ (E:Env) (Q:Exit→St→Prop) (s:St) (G':List GO):Prop:=
 match nth G' (s.G.length+1) with
 | some (.loop busy pending _ _ _ _ _ _ _ done)=>(busy=false∨done=true) ∧
  match pending with
  | none=>Q .normal ⟨s.af,s.boxes,aD G' (s.G.length+1) .dead,s.G.length :: s.marks,s.ro,s.n⟩
  | some c=>fS E c Q ⟨s.af,s.boxes,aD G' (s.G.length+1) .dead,s.G.length :: s.marks,s.ro,s.n⟩
 | _=>False
theorem EN {busy done:Bool} (h:busy=false∨done=true):(if done=true then LoopState.done else if busy=true then LoopState.busy else LoopState.ready)≠LoopState.busy:=by
 rcases h with rfl | rfl
 ·cases done <;> simp
 ·simp
theorem fS.rangeFunc {E:Env} {Q:Exit→St→Prop} {s:St} (fp:Nat) {g:Operand} {ps:Array Tmp} {assign body:Code} (bH:s.ro=none) {f:FuncId} {first cap:List AV} (hg:bw E s.af g=.v (.fn f first cap))
  (h:cu E f (first++[.yield (s.G.length+1)]++cap) (s.G++[.defers true]++[.loop false none fp (hJ s.af) s.n ps.toList assign body s.G.length false]) (fun _ G'=>rfQ E Q s G')) :
  fS E (.rangeFunc g ps assign body) Q s:=fun R w β a F hr hf=>by
 rw [bH] at hf
 have Ws:F=Fence.wide:=hf
 subst Ws
 refine wpIn_rangeFunc fun fn _=>?_
 have rg:=aT hr g
 rw [hg] at rg
 have rg':Rel R w (.fn f first cap) (a.eval g):=rg
 -- the block for the deferred calls
 have Ww:gF (R.add (.bU w.heap.size)) (w.alloc (.deferred (some []))) (.defers true) (.bU w.heap.size):=heap_alloc_new w _
 have h1:=hr.lG (.deferred (some [])) (.defers true) (.bU w.heap.size) (by exact fun _ h=>h) Ww
 have s1:=cN hr (.deferred (some [])) (.bU w.heap.size) (by exact fun _ h=>h)
 have eO:(w.alloc (.deferred (some []))).heap.size=w.heap.size+1:=by simp
 generalize ZO:w.alloc (.deferred (some []))=w1 at *
 generalize hR1:R.add (.bU w.heap.size)=R1 at *
 -- the loop's record
 let uL:Loop:={ state:=.ready,pending:=none,fn:=fn,tmps:=a.tmps,params:=ps,assign:=assign,body:=body,defers:=w.heap.size }
 have I0:nth R1.obj s.G.length=some (.bU w.heap.size):=by rw [← hR1]; exact gn hr _
 have e2:Ext R1 w1 (R1.add (.bU w1.heap.size)) (w1.alloc (.loop uL)):=gQ h1.g.wf _ _
 have Wx:gF (R1.add (.bU w1.heap.size)) (w1.alloc (.loop uL)) (.loop false none fp (hJ s.af) s.n ps.toList assign body s.G.length false) (.bU w1.heap.size):=by
  refine ⟨⟨uL,w.heap.size,heap_alloc_new w1 _,rfl,rfl,fun i hi=>?_,hr.n,by simp [uL],rfl,rfl,rfl,e2.bU I0⟩,nj _⟩
  rw [ta] at hi ⊢
  have cm:lk s.af i≠.none:=fun e=>hi (by rw [e]; rfl)
  obtain ⟨c,k1,k2⟩:=hr.t i cm
  refine ⟨c,k1,?_⟩
  cases hx:lk s.af i with
  | none=>exact absurd hx cm
  | lp k off=>rw [hx] at hi; exact absurd rfl hi
  | v x=>
   rw [hx] at k2
   exact Rel.mono (s1.ext.trans e2) (show Rel R w x c from k2)
 have h2:=h1.lG (.loop uL) (.loop false none fp (hJ s.af) s.n ps.toList assign body s.G.length false) (.bU w1.heap.size) (by exact fun _ h=>h) Wx
 have s2:=cN h1 (.loop uL) (.bU w1.heap.size) (by exact fun _ h=>h)
 have WS:nth (R1.add (.bU w1.heap.size)).obj (s.G.length+1)=some (.bU w1.heap.size):=by
  have:=gn h1 (.bU w1.heap.size)
  simpa [St.dO] using this
 have st:=s1.trans s2
 generalize hR2:R1.add (.bU w1.heap.size)=R2 at *
 generalize WB:a.eval g=fv at rg'
 cases rg' with
 | @fn _ _ _ vs us q1 q2=>
 refine ⟨w.heap.size+1,[{ target:=.collected w.heap.size,args:=#[] }],w1.alloc (.loop uL),{ target:=.fn (.func f) ⟨us⟩,args:=⟨vs⟩++#[.func (.yield (w.heap.size+1)) #[] #[]] },w1.alloc (.loop uL),f,
  ⟨vs++[.func (.yield (w.heap.size+1)) #[] #[]]++us⟩,w1.alloc (.loop uL),?_,?_,?_,?_,?_,?_⟩
 ·have:Fence.wide.round=none:=rfl
  rw [this,run_enterLoop_outer,ZO]
 ·simp only [resolve,WB,Deferred.ofValue,Sem.run_pure]
  simp [Act.eval]
 ·intro f' _
  exact trivial
 ·have:=mX (P:=E.P) h.1 (⟨vs++[.func (.yield (w.heap.size+1)) #[] #[]]++us⟩) (w1.alloc (.loop uL))
  simpa [invoke] using this
 ·intro hc; cases hc
 ·have hG:(s.dO (.defers true)).dO (.loop false none fp (hJ s.af) s.n ps.toList assign body s.G.length false)=s.bW (s.G++[.defers true]++[.loop false none fp (hJ s.af) s.n ps.toList assign body s.G.length false]):=rfl
  have Vx:Rel R2 (w1.alloc (.loop uL)) (.yield (s.G.length+1)) (.func (.yield (w.heap.size+1)) #[] #[]):=by
   rw [← eO]
   exact .yield WS
  refine (h.2 R2 (w1.alloc (.loop uL)) _ h2.g ((((q1.mono st.ext).append (.one Vx)).append (q2.mono st.ext)))).mono ?_
  intro e w3 he
  cases e with
  | panicked c=>exact he.elim
  | outgrown=>exact he.elim
  | returned c=>
   obtain ⟨r,G',R3,hQ,eh,hg3,st3⟩:=he
   obtain ⟨p1,p2⟩:=h2.sZ hg3 st3
   unfold rfQ at hQ
   split at hQ
   ·rename_i busy pending ff sl nn pp rH bd dd done SU
    obtain ⟨hbd,hQ⟩:=hQ
    have WT:nth R3.obj (s.G.length+1)=some (.bU w1.heap.size):=st3.ext.bU WS
    obtain ⟨⟨r3,db,l1,l2,l3,_,_,_,_,_,_,_⟩,_⟩:=p1.g.obj _ _ _ SU WT
    have SX:r3.state≠.busy:=by rw [l2]; exact EN hbd
    have l1':w3.heap[w.heap.size+1]?=some (.loop r3):=by rw [← eO]; exact l1
    refine ⟨r3.pending,_,run_endLoop l1' SX,?_⟩
    rw [l3]
    -- the record is dead
    have WU:nth R3.obj s.G.length=some (.bU w.heap.size):=st3.ext.bU (by rw [← hR2] at e2 ⊢; exact e2.bU I0)
    have key:∀ x:Obj,oW x→(∀ r,Obj.loop r3=.loop r→∃ r',x=.loop r'∧qX r r')→bi E R3 (World.put w3 w1.heap.size x) β ⟨s.af,s.boxes,aD G' (s.G.length+1) .dead,s.G.length :: s.marks,s.ro,s.n⟩ { a with defers:=[{ target:=.collected w.heap.size,args:=#[] }]++a.defers }∧Step R w β s.boxes R3 (World.put w3 w1.heap.size x) β s.boxes:=fun x hx hlx=>by
     obtain ⟨z1,z2⟩:=p1.setObj (x':=x) (go':=.dead) WT l1 trivial hx hlx (show w1.heap.size < _ by simp [World.put]; exact bg l1)
     exact ⟨⟨z1.g,z1.b,z1.t,z1.n,⟨⟨w.heap.size,WU,rfl⟩,z1.d⟩⟩,(st.trans p2).trans z2⟩
    obtain ⟨z1,z2⟩:=key (.loop { r3 with state:=.exhausted,pending:=pending }) trivial (fun r e=>⟨_,rfl,by cases e; exact ⟨rfl,rfl,rfl,rfl,rfl⟩⟩)
    rw [eO] at z1 z2
    cases pending with
    | none=>exact ⟨_,R3,β,hQ,z1,z2,rfl⟩
    | some c=>
     refine wpIn_mono (hQ R3 _ β _ Fence.wide z1 (by show bL R3 s.ro Fence.wide; rw [bH]; rfl)) ?_
     rintro e a'' QS ⟨BZ,MX,Vp,SB,AK,tW,zC⟩
     exact ⟨BZ,MX,Vp,SB,AK,z2.trans tW,zC⟩
   ·exact hQ.elim
def EO (id:Nat) (Q:Bool→List GO→Prop):Exit→St→Prop:=fun e s=>match nth s.G id with
 | some (.loop _ _ fn sl n ps rH bd d _)=>match e with
  | .normal=>Q true (aD s.G id (.loop false none fn sl n ps rH bd d false))
  | .ret=>Q false (aD s.G id (.loop false (some .ret) fn sl n ps rH bd d true))
  | .exit i=>Q false (aD s.G id (.loop false (some (.exit i)) fn sl n ps rH bd d true))
  | _=>False
 | _=>False
def A0 (E:Env) (id:Nat) (body:Code) (Q:Bool→List GO→Prop):Exit→St→Prop:=fun e s=>match e with
 | .normal=>match nth s.G id with
  | some (.loop false p fn sl n ps rH bd d false)=>fS E body (EO id Q) (s.bW (aD s.G id (.loop true p fn sl n ps rH bd d false)))
  | _=>False
 | _=>False
def wZ:List Tmp→List AV→bc→bc
 | t :: ts,a :: l,r=>wZ ts l (.put t (.v a) :: r)
 | _,_,r=>r
def St.round (id:Nat) (af:bc) (n:Nat) (G:List GO):St:=⟨af,[],G,[],some id,n⟩
theorem xd {R:ai} {w:World} {β:Nat→Nat}:∀ {ts:List Tmp} {l:List AV} {cs:List Value} {r:bc} {tmps:Array Value},nP R w β r tmps→aM R w l cs→l.length=ts.length→(∀ t∈ts,t < tmps.size) →
  nP R w β (wZ ts l r) ((ts.zip cs).foldl (fun tmps (t,a)=>tmps.setIfInBounds t a) tmps)
 | [],[],_,_,_,h,.nil,_,_=>h
 | t :: ts,a :: l,c :: cs,r,tmps,h,.cons hx hl,hlen,ht=>by
  have eO:t < tmps.size:=ht t (by simp)
  simp only [wZ,List.zip_cons_cons,List.foldl_cons]
  refine xd ?_ hl (by simpa using hlen) (fun t' h'=>by simpa using ht t' (by simp [h']))
  have:=nP.put (a:={ tmps:=tmps,defers:=[] }) h (d:=t) (x:=.v a) (c:=c) eO hx
  simpa [Act.put] using this
 | [],_ :: _,_,_,_,_,_,hlen,_=>by simp at hlen
 | _ :: _,[],_,_,_,_,_,hlen,_=>by simp at hlen
theorem EP (l:List (Tmp × Value)):∀ tmps:Array Value,(l.foldl (fun (tmps:Array Value) (x:Tmp × Value)=>tmps.setIfInBounds x.1 x.2) tmps).size=tmps.size:=by
 induction l with
 | nil=>intro _; rfl
 | cons x l ih=>intro tmps; rw [List.foldl_cons,ih]; simp
theorem kB.intro {E:Env} {id:Nat} {args:List AV} {G:List GO} {Q:Bool→List GO→Prop} {fn:FuncId} {af:bc} {n:Nat} {ps:List Tmp} {assign body:Code} {d:Nat} {p:Option Code}
  (hG:nth G id=some (.loop false p fn af n ps assign body d false)) (hl:args.length=ps.length) (Iq:∀ t∈ps,t < n)
  (h:fS E assign (A0 E id body Q) (St.round id (wZ ps args af) n G)):kB E id args G Q:=fun R w cs b hg hr hb=>by
 obtain ⟨⟨r,db,l1,l2,l3,l4,l5,l6,l7,l8,l9,l10⟩,l11⟩:=hg.obj id _ _ hG hb
 have hlen:=hr.length
 refine ⟨r,l1,by rw [l6]; simp; omega,?_⟩
 have aag:Step R w (fun _=>0) fk R w (fun _=>0) fk:=Step.refl _ _ _ _
 have aah:bi E R w (fun _=>0) (St.round id (wZ ps args af) n G) { tmps:=(r.params.zip ⟨cs⟩).foldl (fun tmps (t,a)=>tmps.setIfInBounds t a) r.tmps,defers:=[] }:=by
  have WV:(r.params.zip ⟨cs⟩).foldl (fun (tmps:Array Value) (x:Tmp × Value)=>tmps.setIfInBounds x.1 x.2) r.tmps=(ps.zip cs).foldl (fun (tmps:Array Value) (x:Tmp × Value)=>tmps.setIfInBounds x.1 x.2) r.tmps:=by
   rw [← Array.foldl_toList]
   simp [l6]
  refine ⟨hg,⟨fun k cs hk=>?_,fun k k' c c' hk=>?_⟩,?_,?_,trivial⟩
  ·simp [St.round,dm] at hk
  ·simp [St.round,dm] at hk
  ·show nP _ _ _ _ _
   have:=xd (ts:=ps) (l:=args) (cs:=cs) l4 hr hl (fun t ht=>by rw [l5]; exact Iq t ht)
   rw [← WV] at this
   exact this
  ·show _=n
   have:=EP (ps.zip cs) r.tmps
   rw [← WV] at this
   exact this.trans l5
 have Sx:∀ (k:Nat) (cs:List AV),dm (St.round id (wZ ps args af) n G).boxes k≠some cs:=fun k cs hk=>by simp [St.round,dm] at hk
 rw [l7,l8]
 refine roundIn_of_wpIn trivial (wpIn_mono (h R w (fun _=>0) _ (Fence.wide.inRound b) aah ⟨b,hb,rfl⟩) ?_)
 rintro e a1 w1 ⟨s1,R1,β1,hq,zx,st1,aai⟩
 unfold A0 at hq
 cases e with
 | normal=>
  simp only at hq
  split at hq
  ·rename_i p' WO Vs n' WQ Nr Vw d' hG1
   have SF:nth R1.obj id=some (.bU b):=st1.ext.bU hb
   obtain ⟨⟨r1,db1,m1,m2,m3,m4,m5,m6,m7,m8,m9,m10⟩,m11⟩:=zx.g.obj id _ _ hG1 SF
   refine ⟨_,run_beginRound m1 m2,?_⟩
   obtain ⟨z1,z2⟩:=zx.setObj (x':=.loop { r1 with state:=.busy }) (go':=.loop true p' WO Vs n' WQ Nr Vw d' false) SF m1 trivial trivial (fun r e=>⟨_,rfl,by cases e; exact ⟨rfl,rfl,rfl,rfl,rfl⟩⟩)
    ⟨⟨{ r1 with state:=.busy },db1,gJ _ _ _ (bg m1),rfl,m3,m4.mono (mS (x':=.loop { r1 with state:=.busy }) m1 trivial trivial (fun r e=>⟨_,rfl,by cases e; exact ⟨rfl,rfl,rfl,rfl,rfl⟩⟩)),m5,m6,m7,m8,m9,m10⟩,m11⟩
   refine wpIn_mono (hq R1 _ β1 a1 (Fence.wide.inRound b) z1 (by show bL R1 s1.ro _; rw [aai]; exact ⟨b,SF,rfl⟩)) ?_
   rintro e2 a2 w2 ⟨s2,R2,β2,nU,Cc,st2,Hz⟩
   unfold EO at nU
   split at nU
   ·rename_i bu2 p2 YQ sl2 n2 ps2 as2 bd2 d2 dn2 WD
    have WW:=(st1.trans z2).trans st2
    have vb:nth R2.obj id=some (.bU b):=WW.ext.bU hb
    obtain ⟨⟨r2,db2,o1,o2,o3,o4,o5,o6,o7,o8,o9,Iu⟩,Iv⟩:=Cc.g.obj id _ _ WD vb
    have fin:∀ (j:Option Code),AL E R w (fun b' G'=>G'=aD s2.G id (.loop false j YQ sl2 n2 ps2 as2 bd2 d2 (!j.isNone))∧b'=j.isNone) (.returned (.bool j.isNone)) (w2.putObj b (.loop { r2 with state:=if j.isNone then .ready else .done,pending:=j })):=fun j=>by
     obtain ⟨y1,y2⟩:=Cc.setObj (x':=.loop { r2 with state:=if j.isNone then .ready else .done,pending:=j }) (go':=.loop false j YQ sl2 n2 ps2 as2 bd2 d2 (!j.isNone)) vb o1 trivial trivial (fun r e=>⟨_,rfl,by cases e; exact ⟨rfl,rfl,rfl,rfl,rfl⟩⟩)
      ⟨⟨{ r2 with state:=if j.isNone then .ready else .done,pending:=j },db2,gJ _ _ _ (bg o1),by cases j <;> rfl,rfl,o4.mono (mS (x':=.loop { r2 with state:=if j.isNone then .ready else .done,pending:=j }) o1 trivial trivial (fun r e=>⟨_,rfl,by cases e; exact ⟨rfl,rfl,rfl,rfl,rfl⟩⟩)),o5,o6,o7,o8,o9,Iu⟩,Iv⟩
     exact ⟨_,_,R2,⟨rfl,rfl⟩,rfl,y1.g,wo (WW.trans y2) Sx⟩
    have mk:∀ (j:Option Code),Q j.isNone (aD s2.G id (.loop false j YQ sl2 n2 ps2 as2 bd2 d2 (!j.isNone)))→∃ v w',(Instr.endRound b j).run E.P w2=.ok v w'∧AL E R w Q (.returned v) w':=fun j hQ=>by
     refine ⟨_,_,run_endRound j o1,?_⟩
     obtain ⟨r',G',R',⟨h1,h2⟩,h3⟩:=fin j
     subst h1; subst h2
     exact ⟨_,_,R',hQ,h3⟩
    cases e2 with
    | normal=>exact mk none nU
    | ret=>exact mk (some .ret) nU
    | exit i=>exact mk (some (.exit i)) nU
    | _=>exact nU.elim
   ·exact nU.elim
  ·exact hq.elim
 | _=>exact hq.elim
end Go.Am
namespace Go.Am
open Go
section
variable {E:Env} {R R':ai} {w w':World} {β β':Nat→Nat} {s s':St} {a a':Act}
def aW (E:Env) (g:FuncId) (args:List AV) (Q:AV→Prop):Prop:=∀ G,cu E g args G (fun r G'=>G'=G∧Q r)
theorem aW.mono {g:FuncId} {args:List AV} {Q Q':AV→Prop} (h:aW E g args Q) (hq:∀ r,Q r→Q' r):aW E g args Q':=
 fun G=>(h G).mono fun r _ hh=>⟨hh.1,hq r hh.2⟩
theorem aW.of {g:FuncId} {args:List AV} {p:aO} {Q:p.T→Prop} (hc:aH 0 args=true) (hp:p.under 0=true)
  (h:cu E g args [] (fun r _=>∃ y,p.dec r=some y∧Q y)):aW E g args (fun r=>∃ y,r=p.enc y∧Q y):=fun G=>by
 refine ⟨h.1,fun R w cs hg hl=>?_⟩
 let R0:ai:=⟨R.I,[]⟩
 have m0:Mv R R0 0:=⟨fun _ _ h=>h,fun _ _ h=>absurd h (Nat.not_lt_zero _)⟩
 have MH:dq E R0 w []:=⟨rfl,fun id go ro h1 _=>by simp [nth] at h1,fun i j ri rj b h1=>by simp [R0,nth] at h1,hg.wf,fun g cs qf=>(hg.b6 g cs qf).move m0 (cp _ (E.nN g cs qf)),hg.lo⟩
 have vN:aM R0 w args cs:=hl.move m0 hc
 refine (h.2 R0 w cs MH vN).mono fun e w' he=>?_
 cases e with
 | panicked c=>exact he.elim
 | outgrown=>exact he.elim
 | returned c=>
  obtain ⟨r,G',R1,⟨y,hy,hQ⟩,eh,Ns,st⟩:=he
  have jm:∀ b,¬ Own R0 (fun _=>0) fk b:=fun b ho=>by
   obtain ⟨id,ro,h1,_⟩:=eV ho
   simp [R0,nth] at h1
  let R2:ai:=⟨R1.I,R.obj⟩
  have e:Ext R w R2 w':=⟨st.ext.I,st.ext.cell,fun id ro h=>⟨ro,h,cw.refl ro⟩,st.ext.lp⟩
  have cq:∀ b,b < w.heap.size→w'.heap[b]?=w.heap[b]?:=fun b hb=>st.cq b hb (jm b)
  have im:∀ b o,b < w.heap.size→R1.I b o→R.I b o:=fun b o hb hi=>st.im b o hi hb (jm b)
  have hd:=p.qc hy
  have m:Mv R1 R2 0:=⟨fun _ _ h=>h,fun _ _ h=>absurd h (Nat.not_lt_zero _)⟩
  refine ⟨p.enc y,G,R2,⟨rfl,y,rfl,hQ⟩,Rel.move m (p.dA y hp) (hd.gD _ _ _ eh),⟨hg.len,fun id go ro h1 h2=>?_,hg.inj,Ns.wf,fun g cs qf=>(hg.b6 g cs qf).mono e,Ns.lo⟩,⟨e,st.os,st.tape,st.output,st.size,fun b hb _=>cq b hb,fun b _ ho=>?_,fun b o hi hb _=>im b o hb hi⟩⟩
  ·refine (hg.obj id go ro h1 h2).mono e (fun b hb=>cq b ?_) (fun b o hb hi=>im b o ?_ hi)
   ·exact (hg.obj id go ro h1 h2).lt hb
   ·exact (hg.obj id go ro h1 h2).lt hb
  ·exact ho
theorem fS.aao {c:Code} {Q Q':Exit→St→Prop} (h:fS E c (fun e s'=>aU s s'∧Q' e s') s)
  (hq:∀ e s',Q' e s'→∃ (t:cD) (v:t.ps.T),t.dec s s'=some v∧Q e (t.st s v)):fS E c Q s:=fun R w β a F hr hf=>by
 refine wpIn_mono (h R w β a F hr hf) ?_
 rintro e a' w' ⟨s',R',β',⟨hx,ZV⟩,lH,lf,bH⟩
 obtain ⟨t,v,hd,hQ⟩:=hq e s' ZV
 obtain ⟨h1,h2⟩:=cD.BF hx hr lH lf hd
 exact ⟨_,_,β',hQ,h1,h2,rfl⟩
theorem fS.gZ {c:Code} {Q:Exit→St→Prop} {l:List (Loc × Nat × TypeId)} (hs:Am.gZ l s=some s') (h:fS E c Q s'):fS E c Q s:=fun R w β a F hr hf=>by
 obtain ⟨R1,k1,k2,k3,_⟩:=kA hr hs
 refine wpIn_mono (h R1 w β a F k1 (by rw [k3]; exact hf.mono k2.ext)) ?_
 rintro e a' w' ⟨s2,R2,β2,hq,Cc,st2,Hz⟩
 exact ⟨s2,R2,β2,hq,Cc,k2.trans st2,Hz.trans k3⟩
end
end Go.Am
