/- The abstract machine: what is asked of bodies; values are brought to a short form. -/
import Derived.Test.YtldcljfjjoidhaaGreatDoorAmKH
import Derived.RangeFuncIn
import Derived.RangeFuncRecord
set_option linter.all false
namespace Go.Am
open Go
def bH (dt:Nat→Option aj):Code→Bool
 | .region id ops true=>match dt id with
  | some p=>ES ops p
  | none=>false
 | .seq x y=>bH dt x&&bH dt y
 | .cond _ x y=>bH dt x&&bH dt y
 | .block _ c=>bH dt c
 | .loop c=>bH dt c
 | .scope c=>bH dt c
 | .rangeFunc _ _ a b=>bH dt a&&bH dt b
 | _=>true
structure HR extends Env where
 dt:FuncId→Nat→Option aj
 okF:FuncId→Bool
 R5:∀ f fn c,okF f=true→P.funcs[f]?=some fn→fn.body=some c→bH (dt f) c=true
def jr {α:Type} (n:Nat) (K:Nat→α):α:=match n with
 | 0=>K 0
 | m+1=>K (Nat.succ m)
def wH {α:Type} (n:Int) (K:Int→α):α:=match n with
 | .ofNat m=>jr m fun m=>K (.ofNat m)
 | .negSucc m=>jr m fun m=>K (.negSucc m)
def oG {α β:Type}:List β→(List β→α)→α
 | [],K=>K []
 | a :: l,K=>oG l fun l=>K (a :: l)
def AS {α:Type} (v:AV) (K:AV→α):α:=match v with
 | .int k n=>wH n fun n=>K (.int k n)
 | .bool true=>K (.bool true)
 | .bool false=>K (.bool false)
 | .list k sz es=>oG es fun es=>K (.list k sz es)
 | .str l=>oG l fun l=>K (.str l)
 | .jO id off sz len cap=>jr off fun off=>jr len fun len=>jr cap fun cap=>K (.jO id off sz len cap)
 | .ptr id off=>jr off fun off=>K (.ptr id off)
 | .agg cs=>oG cs fun cs=>K (.agg cs)
 | v=>K v
def AT {α:Type} (l:bj) (K:bj→α):α:=match l with
 | .put d (.v a) :: l=>AS a fun a=>K (.put d (.v a) :: l)
 | .put d (.lp k off) :: l=>jr off fun off=>K (.put d (.lp k off) :: l)
 | l=>K l
def AU {α:Type} (l:cJ) (K:cJ→α):α:=match l with
 | (d,cs) :: l=>oG cs fun cs=>K ((d,cs) :: l)
 | []=>K []
def ET {α:Type} (s:St) (K:St→α):α:=match s with
 | ⟨sl,bx,G,m,ro,n⟩=>AT sl fun sl=>AU bx fun bx=>oG G fun G=>K ⟨sl,bx,G,m,ro,n⟩
theorem oH {α:Type} (n:Nat) (K:Nat→α):jr n K=K n:=by cases n <;> rfl
theorem CG {α:Type} (n:Int) (K:Int→α):wH n K=K n:=by cases n <;> simp [wH,oH]
theorem pD {α β:Type}:∀ (l:List β) (K:List β→α),oG l K=K l
 | [],_=>rfl
 | a :: l,K=>by simp only [oG]; rw [pD]
theorem EU {α:Type} (v:AV) (K:AV→α):AS v K=K v:=by
 unfold AS
 split <;> simp [oH,CG,pD]
theorem EV {α:Type} (l:bj) (K:bj→α):AT l K=K l:=by
 unfold AT
 split <;> simp [oH,EU]
theorem EW {α:Type} (l:cJ) (K:cJ→α):AU l K=K l:=by
 unfold AU
 split <;> simp [pD]
theorem HS {α:Type} (s:St) (K:St→α):ET s K=K s:=by
 obtain ⟨sl,bx,G,m,ro,n⟩:=s
 simp [ET,EV,EW,pD]
def AW:SV→SV→Bool
 | .v a,.v b=>dX a b
 | .lp k o,.lp k' o'=>Nat.beq k k'&&Nat.beq o o'
 | _,_=>false
def bRe (E:Env) (f:FuncId) (ops:List Oper) (o:Oper) (s:St):Bool:=match BM ops s o with
 | some true=>match o.dst,au E f s o with
  | some d,some (c,s')=>c&&AW (lk s'.ah d) (lk s.ah d)
  | _,_=>false
 | some false=>true
 | none=>false
section
variable {E:Env} {f:FuncId} {s:St}
theorem zI {a b:SV} (h:AW a b=true):a=b:=by
 unfold AW at h
 split at h
 ·rw [jk h]
 ·simp only [Bool.and_eq_true,Nat.beq_eq] at h; rw [h.1,h.2]
 ·cases h
theorem zJ {ops:List Oper} {o:Oper} (h:bRe E f ops o s=true):EJ E f ops o s:=by
 unfold bRe at h
 unfold EJ
 split at h
 ·rename_i hg
  rw [hg]
  simp only
  split at h
  ·rename_i d c s' hd hs
   rw [Bool.and_eq_true] at h
   obtain ⟨rfl,h⟩:=h
   rw [hd,hs]
   exact ⟨rfl,zI h⟩
  ·cases h
 ·rename_i hg
  rw [hg]
  trivial
 ·cases h
end
end Go.Am
namespace Go.Am
open Go
mutual
def AV.under (n:Nat):AV→Bool
 | .agg cs=>aI n cs
 | .bi cs=>aI n cs
 | .ep cs=>aI n cs
 | .list (.own id) _ _=>Nat.blt id n
 | .list (.bk id _) _ _=>Nat.blt id n
 | .fn _ x y=>aI n x&&aI n y
 | .iface _ v=>v.under n
 | .ptr id _=>Nat.blt id n
 | .jO id _ _ _ _=>Nat.blt id n
 | .dH id _ _ _ _=>Nat.blt id n
 | .gp id _ _ _ _ _=>Nat.blt id n
 | .map id=>Nat.blt id n
 | .yield id=>Nat.blt id n
 | _=>true
def aI (n:Nat):List AV→Bool
 | []=>true
 | a :: l=>a.under n&&aI n l
end
mutual
theorem iC (n:Nat):∀ {a:AV},a.closed=true→a.under n=true:=fun {a} h=>by
 cases a with
 | agg cs=>simp only [AV.closed,AV.under] at *; exact cr n h
 | bi cs=>simp only [AV.closed,AV.under] at *; exact cr n h
 | ep cs=>simp only [AV.closed,AV.under] at *; exact cr n h
 | list k sz es=>cases k <;> simp_all [AV.closed,AV.under,LK.closed]
 | fn f x y=>
  simp only [AV.closed,AV.under,Bool.and_eq_true] at *
  exact ⟨cr n h.1,cr n h.2⟩
 | iface t v=>simp only [AV.closed,AV.under] at *; exact iC n h
 | _=>simp_all [AV.closed,AV.under]
theorem cr (n:Nat):∀ {l:List AV},aH l=true→aI n l=true
 | [],_=>rfl
 | a :: l,h=>by
  simp only [aH,aI,Bool.and_eq_true] at *
  exact ⟨iC n h.1,cr n h.2⟩
end
theorem pE {a b:Nat} (h:Nat.blt a b=true):a < b:=Nat.le_of_ble_eq_true h
mutual
theorem lH:∀ {a:AV},a.under 0=true→a.closed=true:=fun {a} h=>by
 cases a with
 | agg cs=>simp only [AV.closed,AV.under] at *; exact eL h
 | bi cs=>simp only [AV.closed,AV.under] at *; exact eL h
 | ep cs=>simp only [AV.closed,AV.under] at *; exact eL h
 | list k sz es=>cases k <;> first | rfl | (simp [AV.under] at h)
 | fn f x y=>
  simp only [AV.closed,AV.under,Bool.and_eq_true] at *
  exact ⟨eL h.1,eL h.2⟩
 | iface t v=>simp only [AV.closed,AV.under] at *; exact lH h
 | ptr id off=>simp only [AV.under] at h; exact absurd (pE h) (Nat.not_lt_zero _)
 | jO id off sz len cap=>simp only [AV.under] at h; exact absurd (pE h) (Nat.not_lt_zero _)
 | dH id f off sz len=>simp only [AV.under] at h; exact absurd (pE h) (Nat.not_lt_zero _)
 | gp id f i off sz t=>simp only [AV.under] at h; exact absurd (pE h) (Nat.not_lt_zero _)
 | map id=>simp only [AV.under] at h; exact absurd (pE h) (Nat.not_lt_zero _)
 | yield id=>simp only [AV.under] at h; exact absurd (pE h) (Nat.not_lt_zero _)
 | _=>rfl
theorem eL:∀ {l:List AV},aI 0 l=true→aH l=true
 | [],_=>rfl
 | a :: l,h=>by
  simp only [aI,aH,Bool.and_eq_true] at *
  exact ⟨lH h.1,eL h.2⟩
end
section move
variable {R R2:ao} {w:World} {n:Nat}
structure Mv (R R2:ao) (n:Nat):Prop where
 I:∀ b o,R.I b o→R2.I b o
 obj:∀ id ro,id < n→nth R.obj id=some ro→nth R2.obj id=some ro
theorem jG {a b:Nat} (h:Nat.blt a b=true):a < b:=Nat.le_of_ble_eq_true h
theorem kv {a b:Nat} (h:a < b):Nat.blt a b=true:=Nat.ble_eq_true_of_le h
theorem As.move (m:Mv R R2 n) {k:LK} {b o len cap:Nat} (h:As R k b o len cap) (hk:∀ id,(k=.own id∨∃ j,k=.bk id j)→id < n):As R2 k b o len cap:=by
 cases k with
 | nil=>exact h
 | full=>exact h
 | eU=>trivial
 | own id=>obtain ⟨ro,h1,h2⟩:=h; exact ⟨ro,m.obj id ro (hk id (.inl rfl)) h1,h2⟩
 | bk id j=>obtain ⟨ro,h1,h2⟩:=h; exact ⟨ro,m.obj id ro (hk id (.inr ⟨j,rfl⟩)) h1,h2⟩
mutual
theorem Rel.move (m:Mv R R2 n):∀ {a:AV} {c:Value},a.under n=true→Rel R w a c→Rel R2 w a c
 | _,_,_,.bool b=>.bool b
 | _,_,_,.int k i=>.int k i
 | _,_,_,.str l=>.str l
 | _,_,hb,.agg h h1=>.agg (h.move m (by simpa [AV.under] using hb)) h1
 | _,_,hb,.bi h=>.bi (h.move m (by simpa [AV.under] using hb))
 | _,_,_,.ir=>.ir
 | _,_,hb,.ptr h=>.ptr (m.obj _ _ (jG (by simpa [AV.under] using hb)) h)
 | _,_,hb,.ep h=>.ep (h.move m (by simpa [AV.under] using hb))
 | _,_,_,.jA=>.jA
 | _,_,_,.iU=>.iU
 | _,_,_,.mN=>.mN
 | _,_,hb,.lZ h ho=>.lZ (m.obj _ _ (jG (by simpa [AV.under] using hb)) h) ho
 | _,_,hb,.lA h ho=>.lA (m.obj _ _ (jG (by simpa [AV.under] using hb)) h) ho
 | .list k sz es,_,hb,.list h hl hc hk=>.list (h.move m) hl hc (hk.move m fun id e=>by rcases e with e | ⟨j,e⟩ <;> subst e <;> exact jG (by simpa [AV.under] using hb))
 | _,_,hb,.jO h hc=>.jO (m.obj _ _ (jG (by simpa [AV.under] using hb)) h) hc
 | _,_,hb,.iN h ho=>.iN (m.obj _ _ (jG (by simpa [AV.under] using hb)) h) ho
 | _,_,hb,.dH h ho hc=>.dH (m.obj _ _ (jG (by simpa [AV.under] using hb)) h) ho hc
 | _,_,hb,.gp h ho=>.gp (m.obj _ _ (jG (by simpa [AV.under] using hb)) h) ho
 | _,_,_,.j9=>.j9
 | _,_,hb,.map h=>.map (m.obj _ _ (jG (by simpa [AV.under] using hb)) h)
 | _,_,_,.cE=>.cE
 | _,_,hb,.fn h h'=>.fn (h.move m (by simp only [AV.under,Bool.and_eq_true] at hb; exact hb.1)) (h'.move m (by simp only [AV.under,Bool.and_eq_true] at hb; exact hb.2))
 | _,_,hb,.yield h=>.yield (m.obj _ _ (jG (by simpa [AV.under] using hb)) h)
 | _,_,_,.nQ=>.nQ
 | _,_,hb,.iface h=>.iface (h.move m (by simpa [AV.under] using hb))
theorem aM.move (m:Mv R R2 n):∀ {l:List AV} {cs:List Value},aM R w l cs→aI n l=true→aM R2 w l cs
 | _,_,.nil,_=>.nil
 | _,_,.cons h t,hb=>by
  simp only [aI,Bool.and_eq_true] at hb
  exact .cons (h.move m hb.1) (t.move m hb.2)
theorem fY.move (m:Mv R R2 n):∀ {b o sz:Nat} {l:List AV},fY R w b o sz l→fY R2 w b o sz l
 | _,_,_,_,.nil=>.nil
 | _,_,_,_,@fY.cons _ _ _ _ _ e _ hl ht hk h t=>.cons hl ht hk (h.move m (by
   cases e with
   | agg cs=>exact cr n (show aH cs=true by simpa [AV.closed] using hk)
   | bi cs=>simp [AV.aX] at ht
   | _=>simp only [AV.cells,aI,Bool.and_true]; exact iC n hk)) (t.move m)
theorem dO.move (m:Mv R R2 n):∀ {b o:Nat} {l:List AV},dO R w b o l→aI n l=true→dO R2 w b o l
 | _,_,_,.nil,_=>.nil
 | _,_,_,.cons hc h1 hi h t,hb=>by
  simp only [aI,Bool.and_eq_true] at hb
  exact .cons hc h1 (m.I _ _ hi) (h.move m hb.1) (t.move m hb.2)
end
theorem jC.move {E:Env} (m:Mv R R2 n) {g:Nat} {cs:List AV} (h:jC E R w g cs) (hu:aI n cs=true):jC E R2 w g cs:=
 ⟨h.1.move m hu,fun hx=>⟨m.I _ _ (h.2 hx).1,(h.2 hx).2⟩⟩
mutual
theorem Rel.under (hn:R.obj.length≤n):∀ {a:AV} {c:Value},Rel R w a c→a.under n=true
 | _,_,.bool _ | _,_,.int _ _ | _,_,.str _ | _,_,.ir | _,_,.jA | _,_,.iU | _,_,.mN | _,_,.j9 | _,_,.cE | _,_,.nQ=>by simp [AV.under]
 | _,_,.agg h _=>by simp only [AV.under]; exact h.under hn
 | _,_,.bi h=>by simp only [AV.under]; exact h.under hn
 | _,_,.ptr h=>by simp only [AV.under]; exact kv (Nat.lt_of_lt_of_le (bP h) hn)
 | _,_,.ep h=>by simp only [AV.under]; exact h.under hn
 | _,_,.lZ h _=>by simp only [AV.under]; exact kv (Nat.lt_of_lt_of_le (bP h) hn)
 | _,_,.lA h _=>by simp only [AV.under]; exact kv (Nat.lt_of_lt_of_le (bP h) hn)
 | _,_,@Rel.list _ _ k _ _ _ _ _ _ _ _ _ hk=>by
  cases k with
  | own id=>obtain ⟨ro,h1,_⟩:=hk; simp only [AV.under]; exact kv (Nat.lt_of_lt_of_le (bP h1) hn)
  | bk id j=>obtain ⟨ro,h1,_⟩:=hk; simp only [AV.under]; exact kv (Nat.lt_of_lt_of_le (bP h1) hn)
  | _=>simp [AV.under]
 | _,_,.jO h _=>by simp only [AV.under]; exact kv (Nat.lt_of_lt_of_le (bP h) hn)
 | _,_,.iN h _=>by simp only [AV.under]; exact kv (Nat.lt_of_lt_of_le (bP h) hn)
 | _,_,.dH h _ _=>by simp only [AV.under]; exact kv (Nat.lt_of_lt_of_le (bP h) hn)
 | _,_,.gp h _=>by simp only [AV.under]; exact kv (Nat.lt_of_lt_of_le (bP h) hn)
 | _,_,.map h=>by simp only [AV.under]; exact kv (Nat.lt_of_lt_of_le (bP h) hn)
 | _,_,.fn h h'=>by simp only [AV.under,Bool.and_eq_true]; exact ⟨h.under hn,h'.under hn⟩
 | _,_,.yield h=>by simp only [AV.under]; exact kv (Nat.lt_of_lt_of_le (bP h) hn)
 | _,_,.iface h=>by simp only [AV.under]; exact h.under hn
theorem aM.under (hn:R.obj.length≤n):∀ {l:List AV} {cs:List Value},aM R w l cs→aI n l=true
 | _,_,.nil=>rfl
 | _,_,.cons h t=>by simp only [aI,Bool.and_eq_true]; exact ⟨h.under hn,t.under hn⟩
theorem dO.under (hn:R.obj.length≤n):∀ {b o:Nat} {l:List AV},dO R w b o l→aI n l=true
 | _,_,_,.nil=>rfl
 | _,_,_,.cons _ _ _ h t=>by simp only [aI,Bool.and_eq_true]; exact ⟨h.under hn,t.under hn⟩
end
end move
end Go.Am
namespace Go.Am
open Go
mutual
def aT.under (n:Nat):aT→Bool
 | .agg ps=>ps.under n
 | .bi ps=>ps.under n
 | .own id _ _=>Nat.blt id n
 | .bk id _ _=>Nat.blt id n
 | .gC v=>v.under n
 | .two u v=>u.under n&&v.under n
 | _=>true
def aP.under (n:Nat):aP→Bool
 | .nil=>true
 | .cons p ps=>p.under n&&ps.under n
end
mutual
theorem aT.dD {n:Nat}:∀ (p:aT) (x:p.T),p.under n=true→(p.enc x).under n=true
 | .int k,x,_=>by simp [aT.enc,AV.under]
 | .bool,x,_=>by simp [aT.enc,AV.under]
 | .str,x,_=>by simp [aT.enc,AV.under]
 | .agg ps,x,h=>by
  simp only [aT.enc,AV.under]
  exact ps.dD x h
 | .bi ps,x,h=>by
  simp only [aT.enc,AV.under]
  exact ps.dD x h
 | .list sz p,x,_=>by simp [aT.enc,AV.under]
 | .own id sz p,x,h=>by
  simp only [aT.enc,AV.under]
  exact h
 | .bk id sz p,x,h=>by
  simp only [aT.enc,AV.under]
  exact h
 | .gC v,x,h=>by
  simp only [aT.enc]
  exact h
 | .two u v,(x:Bool),h=>by
  simp only [aT.under,Bool.and_eq_true] at h
  change AV.under n (bif x then v else u)=true
  cases x
  ·exact h.1
  ·exact h.2
theorem aP.dD {n:Nat}:∀ (ps:aP) (x:ps.T),ps.under n=true→aI n (ps.enc x)=true
 | .nil,x,_=>rfl
 | .cons p .nil,x,h=>by
  simp only [aP.under,Bool.and_true] at h
  simp only [aP.enc,aI,Bool.and_true]
  exact p.dD _ h
 | .cons p (.cons q ps),x,h=>by
  rw [aP.under,Bool.and_eq_true] at h
  simp only [aP.enc,aI,Bool.and_eq_true]
  exact ⟨p.dD _ h.1,(aP.cons q ps).dD _ h.2⟩
end
mutual
def AV.exact:AV→Bool
 | .bool _=>true
 | .int _ _=>true
 | .str _=>true
 | .agg cs=>fO cs
 | _=>false
def fO:List AV→Bool
 | []=>true
 | a :: l=>a.exact&&fO l
end
mutual
theorem aT.js:∀ (p:aT) {a:AV},p.fits a=true→a.exact=true→p.enc (p.bw a)=a
 | .int k,a,h,e=>by
  cases a with
  | int k' n=>have hk:S3 k k'=true:=h; rw [DY hk]; rfl
  | _=>cases h
 | .bool,a,h,e=>by
  cases a with
  | bool b=>rfl
  | _=>cases h
 | .str,a,h,e=>by
  cases a with
  | str b=>rfl
  | _=>cases h
 | .agg ps,a,h,e=>by
  cases a with
  | agg cs=>
   have e':fO cs=true:=by simpa [AV.exact] using e
   show AV.agg (ps.enc (ps.bw cs))=_
   rw [ps.js (show ps.fits cs=true from h) e']
  | _=>cases h
 | .bi ps,a,h,e=>by cases a <;> first | (cases h; done) | simp [AV.exact] at e
 | .list sz p,a,h,e=>by cases a <;> first | (cases h; done) | simp [AV.exact] at e
 | .own id sz p,a,h,e=>by cases a <;> first | (cases h; done) | simp [AV.exact] at e
 | .bk id sz p,a,h,e=>by cases a <;> first | (cases h; done) | simp [AV.exact] at e
 | .gC u,a,h,e=>(jk (show dX a u=true from h)).symm
 | .two u v,a,h,_=>uU h
theorem aP.js:∀ (ps:aP) {l:List AV},ps.fits l=true→fO l=true→ps.enc (ps.bw l)=l
 | .nil,l,h,_=>by
  cases l with
  | nil=>rfl
  | cons _ _=>cases h
 | .cons p .nil,l,h,e=>by
  cases l with
  | nil=>cases h
  | cons a l=>
   have h':(p.fits a&&l.isEmpty)=true:=h
   simp only [Bool.and_eq_true,List.isEmpty_iff] at h'
   obtain ⟨h1,rfl⟩:=h'
   simp only [fO,Bool.and_true] at e
   show [p.enc (p.bw a)]=_
   rw [p.js h1 e]
 | .cons p (.cons q ps),l,h,e=>by
  cases l with
  | nil=>cases h
  | cons a l=>
   have h':(p.fits a&&(aP.cons q ps).fits l)=true:=h
   rw [Bool.and_eq_true] at h'
   simp only [fO,Bool.and_eq_true] at e
   show p.enc (p.bw a) :: (aP.cons q ps).enc ((aP.cons q ps).bw l)=_
   rw [p.js h'.1 e.1,(aP.cons q ps).js h'.2 e.2]
end
mutual
theorem nj:∀ {a:AV},a.exact=true→a.closed=true:=fun {a} h=>by
 cases a with
 | agg cs=>simp only [AV.exact,AV.closed] at *; exact qf h
 | _=>simp_all [AV.exact,AV.closed]
theorem qf:∀ {l:List AV},fO l=true→aH l=true
 | [],_=>rfl
 | a :: l,h=>by
  simp only [fO,aH,Bool.and_eq_true] at *
  exact ⟨nj h.1,qf h.2⟩
end
def an:List (AV × AV)→List AV
 | []=>[]
 | (k,v) :: l=>.agg [k,v] :: an l
def Yd:AV→AV × AV
 | .agg [k,v]=>(k,v)
 | _=>(fE,fE)
def ab:List AV→List (AV × AV)
 | []=>[]
 | a :: l=>Yd a :: ab l
def AV.entries:AV→List (AV × AV)
 | .list _ _ es=>ab es
 | _=>[]
theorem nP:∀ l:List (AV × AV),ab (an l)=l
 | []=>rfl
 | (k,v) :: l=>by simp only [an,ab,nP l]; rfl
def AV.JS:AV→Bool
 | .list .eU _ es=>fO es
 | _=>false
def jH:List AV→List AV→Prop
 | [],[]=>True
 | a :: l,b :: r=>iQ a b∧jH l r
 | _,_=>False
theorem jH.refl:∀ l:List AV,jH l l
 | []=>trivial
 | a :: l=>⟨iQ.refl a,jH.refl l⟩
theorem jH.length:∀ {l r:List AV},jH l r→l.length=r.length
 | [],[],_=>rfl
 | _ :: _,_ :: _,h=>by simp [jH.length h.2]
 | [],_ :: _,h=>h.elim
 | _ :: _,[],h=>h.elim
theorem jH.of {α:Type} {f:AV→Bool} {d:AV→α} {g:α→AV} (FU:∀ v,f v=true→iQ v (g (d v))):∀ {es:List AV},allFit f es=true→jH es ((es.map d).map g)
 | [],_=>trivial
 | e :: es,h=>by
  simp only [allFit,Bool.and_eq_true] at h
  exact ⟨FU e h.1,jH.of FU h.2⟩
theorem aT.CH (p:aT) {a:AV} (h:p.fits a=true):jH a.dR (p.enc (p.bw a)).dR:=by
 cases p with
 | list sz p=>
  cases a with
  | list k bN es=>
   have hb:((Nat.beq sz bN || es.isEmpty)&&allFit p.fits es)=true:=h
   rw [Bool.and_eq_true] at hb
   exact jH.of (fun v hv=>p.cT hv) hb.2
  | _=>cases h
 | own id sz p=>
  cases a with
  | list k bN es=>
   cases k with
   | own jw=>
    have hb:((Nat.beq id jw&&Nat.beq sz bN)&&allFit p.fits es)=true:=h
    rw [Bool.and_eq_true] at hb
    exact jH.of (fun v hv=>p.cT hv) hb.2
   | _=>cases h
  | _=>cases h
 | bk id sz p=>
  cases a with
  | list k bN es=>
   cases k with
   | bk jw j=>
    have hb:((Nat.beq id jw&&Nat.beq sz bN)&&allFit p.fits es)=true:=h
    rw [Bool.and_eq_true] at hb
    exact jH.of (fun v hv=>p.cT hv) hb.2
   | _=>cases h
  | _=>cases h
 | gC u=>rw [show a=u from jk (show dX a u=true from h)]; exact jH.refl _
 | two u v=>rw [uU h]; exact jH.refl _
 | _=>cases a <;> first | (cases h; done) | exact jH.refl _
def IW:List AV→List AV→Prop
 | [],[]=>True
 | a :: l,b :: r=>(a.exact=true→b=a)∧(a.JS=true→b.dR=a.dR)∧jH a.dR b.dR∧IW l r
 | _,_=>False
theorem wI {f:AV→Bool} {α:Type} {d:AV→α} {g:α→AV} (FU:∀ a,f a=true→a.exact=true→g (d a)=a):∀ {es:List AV},allFit f es=true→fO es=true→(es.map d).map g=es
 | [],_,_=>rfl
 | a :: l,h,e=>by
  simp only [allFit,fO,Bool.and_eq_true] at *
  simp only [List.map_cons,FU a h.1 e.1,wI FU h.2 e.2]
theorem aT.CI (p:aT) {a:AV} (h:p.fits a=true) (e:a.JS=true):(p.enc (p.bw a)).dR=a.dR:=by
 cases a with
 | list k bN es=>
  cases k with
  | eU=>
   have e':fO es=true:=e
   cases p with
   | list sz p=>
    have hb:((Nat.beq sz bN || es.isEmpty)&&allFit p.fits es)=true:=h
    rw [Bool.and_eq_true] at hb
    show (es.map p.bw).map p.enc=_
    rw [wI (fun a=>p.js) hb.2 e']
    rfl
   | gC u=>rw [show AV.list .eU bN es=u from jk (show dX _ u=true from h)]; rfl
   | two u v=>rw [uU h]
   | _=>cases h
  | _=>cases e
 | _=>cases e
theorem aP.JU:∀ (ps:aP) {l:List AV},ps.fits l=true→IW l (ps.enc (ps.bw l))
 | .nil,l,h=>by
  cases l with
  | nil=>trivial
  | cons _ _=>cases h
 | .cons p .nil,l,h=>by
  cases l with
  | nil=>cases h
  | cons a l=>
   have h':(p.fits a&&l.isEmpty)=true:=h
   simp only [Bool.and_eq_true,List.isEmpty_iff] at h'
   obtain ⟨h1,rfl⟩:=h'
   exact ⟨p.js h1,p.CI h1,p.CH h1,trivial⟩
 | .cons p (.cons q ps),l,h=>by
  cases l with
  | nil=>cases h
  | cons a l=>
   have h':(p.fits a&&(aP.cons q ps).fits l)=true:=h
   rw [Bool.and_eq_true] at h'
   exact ⟨p.js h'.1,p.CI h'.1,p.CH h'.1,(aP.cons q ps).JU h'.2⟩
theorem IW.split:∀ {l r l':List AV},IW (l++r) l'→∃ a b,l'=a++b∧IW l a∧IW r b∧a.length=l.length
 | [],r,l',h=>⟨[],l',rfl,trivial,h,rfl⟩
 | x :: l,r,[],h=>h.elim
 | x :: l,r,y :: l',h=>by
  obtain ⟨a,b,rfl,h2,h3,h4⟩:=IW.split (l:=l) (r:=r) (l':=l') h.2.2.2
  exact ⟨y :: a,b,rfl,⟨h.1,h.2.1,h.2.2.1,h2⟩,h3,by simp [h4]⟩
mutual
def AV.wJ (L:Nat→Nat):AV→AV
 | .dH id 0 0 sz 0=>.dH id (L id) 0 sz (L id)
 | .fn f x y=>.fn f (JV L x) (JV L y)
 | v=>v
def JV (L:Nat→Nat):List AV→List AV
 | []=>[]
 | a :: l=>a.wJ L :: JV L l
end
mutual
def aT.inst (L:Nat→Nat):aT→aT
 | .agg ps=>.agg (ps.inst L)
 | .bi ps=>.bi (ps.inst L)
 | .gC v=>.gC (v.wJ L)
 | p=>p
def aP.inst (L:Nat→Nat):aP→aP
 | .nil=>.nil
 | .cons p ps=>.cons (p.inst L) (ps.inst L)
end
mutual
def aT.kw (L:Nat→Nat):(p:aT)→p.T→AV
 | .int k,(n:Int)=>.int k n
 | .bool,(b:Bool)=>.bool b
 | .str,(s:List UInt8)=>.str s
 | .agg ps,x=>.agg (ps.kw L x)
 | .bi ps,x=>.bi (ps.kw L x)
 | .list sz p,(xs:List p.T)=>.list .eU sz (xs.map p.enc)
 | .own id sz p,(xs:List p.T)=>.list (.own id) sz (xs.map p.enc)
 | .bk id sz p,(x:Nat × List p.T)=>.list (.bk id x.1) sz (x.2.map p.enc)
 | .gC v,_=>v.wJ L
 | .two u v,(b:Bool)=>bif b then v else u
def aP.kw (L:Nat→Nat):(ps:aP)→ps.T→List AV
 | .nil,_=>[]
 | .cons p .nil,x=>[p.kw L x]
 | .cons p (.cons q ps),x=>p.kw L x.1 :: (aP.cons q ps).kw L x.2
end
mutual
def aT.mo (L:Nat→Nat):aT→AV→Bool
 | .int k,v=>aT.fits (.int k) v
 | .bool,v=>aT.fits .bool v
 | .str,v=>aT.fits .str v
 | .agg ps,v=>match v with
  | .agg cs=>ps.mo L cs
  | _=>false
 | .bi ps,v=>match v with
  | .bi cs=>ps.mo L cs
  | _=>false
 | .list sz p,v=>aT.fits (.list sz p) v
 | .own id sz p,v=>aT.fits (.own id sz p) v
 | .bk id sz p,v=>aT.fits (.bk id sz p) v
 | .gC v,u=>dX u (v.wJ L)
 | .two u v,a=>aT.fits (.two u v) a
def aP.mo (L:Nat→Nat):aP→List AV→Bool
 | .nil,l=>l.isEmpty
 | .cons p ps,l=>match l with
  | a :: l=>p.mo L a&&ps.mo L l
  | []=>false
end
def aP.HT (L:Nat→Nat) (ps:aP) (l:List AV):Option ps.T:=bif ps.mo L l then some (ps.bw l) else none
mutual
theorem aT.ja (L:Nat→Nat):∀ (p:aT) (a:AV),p.mo L a=(p.inst L).fits a
 | .int _,_=>rfl
 | .bool,_=>rfl
 | .str,_=>rfl
 | .agg ps,a=>by
  simp only [aT.mo,aT.inst,aT.fits]
  cases a <;> first | rfl | exact ps.ja L _
 | .bi ps,a=>by
  simp only [aT.mo,aT.inst,aT.fits]
  cases a <;> first | rfl | exact ps.ja L _
 | .list _ _,_=>rfl
 | .own _ _ _,_=>rfl
 | .bk _ _ _,_=>rfl
 | .gC _,_=>rfl
 | .two _ _,_=>rfl
theorem aP.ja (L:Nat→Nat):∀ (ps:aP) (l:List AV),ps.mo L l=(ps.inst L).fits l
 | .nil,_=>rfl
 | .cons p ps,l=>by
  cases l with
  | nil=>rfl
  | cons a l=>
   simp only [aP.mo,aP.inst,aP.fits]
   rw [p.ja L a,ps.ja L l]
end
mutual
theorem aT.ig (L:Nat→Nat):∀ (p:aT) (a:AV),p.kw L (p.bw a)=(p.inst L).enc ((p.inst L).bw a)
 | .int _,_=>rfl
 | .bool,_=>rfl
 | .str,_=>rfl
 | .agg ps,a=>congrArg AV.agg (ps.ig L a.jx)
 | .bi ps,a=>congrArg AV.bi (ps.ig L a.S4)
 | .list _ _,_=>rfl
 | .own _ _ _,_=>rfl
 | .bk _ _ _,_=>rfl
 | .gC _,_=>rfl
 | .two _ _,_=>rfl
theorem aP.ig (L:Nat→Nat):∀ (ps:aP) (l:List AV),ps.kw L (ps.bw l)=(ps.inst L).enc ((ps.inst L).bw l)
 | .nil,_=>rfl
 | .cons p .nil,l=>by
  show [p.kw L (p.bw (ee l))]=[(p.inst L).enc ((p.inst L).bw (ee l))]
  rw [p.ig L]
 | .cons p (.cons q ps),l=>by
  show p.kw L (p.bw (ee l)) :: (aP.cons q ps).kw L ((aP.cons q ps).bw (IY l))=(p.inst L).enc ((p.inst L).bw (ee l)) :: ((aP.cons q ps).inst L).enc (((aP.cons q ps).inst L).bw (IY l))
  rw [p.ig L,(aP.cons q ps).ig L]
end
mutual
theorem AV.wK {n:Nat} (L:Nat→Nat):∀ {a:AV},a.under n=true→(a.wJ L).under n=true:=fun {a} h=>by
 cases a with
 | dH id f off sz len=>
  unfold AV.wJ
  split
  ·rename_i h1
   cases h1
   exact h
  ·rename_i h1
   cases h1
  ·exact h
 | fn f x y=>
  simp only [AV.wJ,AV.under,Bool.and_eq_true] at *
  exact ⟨qH L h.1,qH L h.2⟩
 | _=>exact h
theorem qH {n:Nat} (L:Nat→Nat):∀ {l:List AV},aI n l=true→aI n (JV L l)=true
 | [],_=>rfl
 | a :: l,h=>by
  simp only [JV,aI,Bool.and_eq_true] at *
  exact ⟨AV.wK L h.1,qH L h.2⟩
end
mutual
theorem aT.jb {n:Nat} (L:Nat→Nat):∀ {p:aT},p.under n=true→(p.inst L).under n=true
 | .int _,_=>rfl
 | .bool,_=>rfl
 | .str,_=>rfl
 | .agg ps,h=>aP.jb L (ps:=ps) h
 | .bi ps,h=>aP.jb L (ps:=ps) h
 | .list _ _,_=>rfl
 | .own _ _ _,h=>h
 | .bk _ _ _,h=>h
 | .gC v,h=>AV.wK L (a:=v) h
 | .two _ _,h=>h
theorem aP.jb {n:Nat} (L:Nat→Nat):∀ {ps:aP},ps.under n=true→(ps.inst L).under n=true
 | .nil,_=>rfl
 | .cons p ps,h=>by
  simp only [aP.inst,aP.under,Bool.and_eq_true] at *
  exact ⟨aT.jb L h.1,aP.jb L h.2⟩
end
theorem AV.zK (L:Nat→Nat) (v:AV):(v.wJ L).dR=v.dR:=by
 unfold AV.wJ
 split <;> rfl
def nS:List AV→List AV→Prop
 | [],[]=>True
 | a :: l,b :: r=>a.dR.length=b.dR.length∧nS l r
 | _,_=>False
theorem aT.oI (L L':Nat→Nat) (p:aT) (x:p.T):(p.kw L x).dR=(p.kw L' x).dR:=by
 cases p with
 | gC v=>
  show (v.wJ L).dR=(v.wJ L').dR
  rw [AV.zK,AV.zK]
 | _=>rfl
theorem aP.oI (L L':Nat→Nat):∀ (ps:aP) (x:ps.T),nS (ps.kw L x) (ps.kw L' x)
 | .nil,_=>trivial
 | .cons p .nil,x=>⟨congrArg List.length (p.oI L L' x),trivial⟩
 | .cons p (.cons q ps),x=>⟨congrArg List.length (p.oI L L' x.1),(aP.cons q ps).oI L L' x.2⟩
theorem IW.Ye:∀ {l r:List AV},IW l r→nS l r
 | [],[],_=>trivial
 | _ :: _,_ :: _,h=>⟨h.2.2.1.length,h.2.2.2.Ye⟩
 | [],_ :: _,h=>h.elim
 | _ :: _,[],h=>h.elim
theorem nS.trans:∀ {l r u:List AV},nS l r→nS r u→nS l u
 | [],[],[],_,_=>trivial
 | _ :: _,_ :: _,_ :: _,h,k=>⟨h.1.trans k.1,h.2.trans k.2⟩
 | [],_ :: _,_,h,_=>h.elim
 | _ :: _,[],_,h,_=>h.elim
 | [],[],_ :: _,_,k=>k.elim
 | _ :: _,_ :: _,[],_,k=>k.elim
theorem nS.drop:∀ {l r:List AV} (n:Nat),nS l r→nS (l.drop n) (r.drop n)
 | l,r,0,h=>by simpa using h
 | [],[],_+1,_=>by simp [nS]
 | _ :: _,_ :: _,n+1,h=>by simpa using nS.drop n h.2
 | [],_ :: _,_+1,h=>h.elim
 | _ :: _,[],_+1,h=>h.elim
theorem aP.NO (L:Nat→Nat) (ps:aP) {l:List AV} {x:ps.T} (h:ps.HT L l=some x):cK l (ps.kw L x)∧IW l (ps.kw L x):=by
 unfold aP.HT at h
 cases hf:ps.mo L l with
 | true=>
  rw [hf] at h
  cases h
  rw [ps.ig L]
  rw [ps.ja L] at hf
  have hd:(ps.inst L).dec l=some ((ps.inst L).bw l):=by unfold aP.dec; rw [hf]; rfl
  exact ⟨((ps.inst L).qu hd).1,(ps.inst L).JU hf⟩
 | false=>rw [hf] at h; cases h
theorem aP.EX {n:Nat} (L:Nat→Nat) (ps:aP) (hp:ps.under n=true) (l:List AV):aI n (ps.kw L (ps.bw l))=true:=by
 rw [ps.ig L]
 exact (ps.inst L).dD _ (aP.jb L hp)
theorem aP.HU (L:Nat→Nat) (ps:aP) {l:List AV} {x:ps.T} (h:ps.HT L l=some x):x=ps.bw l:=by
 unfold aP.HT at h
 cases hf:ps.mo L l with
 | true=>rw [hf] at h; cases h; rfl
 | false=>rw [hf] at h; cases h
end Go.Am
namespace Go.Am
open Go
inductive DO
 | open_
 | busy
 | ret
 | ex (i:Nat)
def DO.is:DO→Bool→Option Code→Bool→Bool
 | .open_,false,none,false=>true
 | .busy,true,none,false=>true
 | .ret,false,some .ret,true=>true
 | .ex i,false,some (.exit j),true=>Nat.beq i j
 | _,_,_,_=>false
def DO.b:DO→Bool
 | .busy=>true
 | _=>false
def DO.p:DO→Option Code
 | .ret=>some .ret
 | .ex i=>some (.exit i)
 | _=>none
def DO.d:DO→Bool
 | .ret=>true
 | .ex _=>true
 | _=>false
theorem DO.Gn {k:DO} {b:Bool} {p:Option Code} {d:Bool} (h:k.is b p d=true):b=k.b∧p=k.p∧d=k.d:=by
 unfold DO.is at h
 split at h <;> first | exact ⟨rfl,rfl,rfl⟩ | (cases h; done) | skip
 rw [Nat.eq_of_beq_eq_true h]
 exact ⟨rfl,rfl,rfl⟩
inductive GL
 | row (n:Nat)
 | tok (loc sz:Nat) (e:TypeId)
 | dead
 | lp (k:DO)
 | bE
 | map
 | JW
 | dc (sz:Nat) (e:TypeId)
 | bk (sz:Nat) (e:TypeId)
 | rY
 | nK (qt:Nat)
def cG (fs:List Nat):List AV:=fs.map fun n:Nat=>.int .i64 n
def a6 (l:List AV):List Nat:=l.map fun a=>a.kR.toNat
theorem ug (fs:List Nat):a6 (cG fs)=fs:=by
 induction fs with
 | nil=>rfl
 | cons n fs ih=>
  show (AV.int .i64 n).kR.toNat :: a6 (cG fs)=n :: fs
  rw [ih]
  simp [AV.kR]
theorem wL (fs:List Nat):fO (cG fs)=true:=by
 induction fs with
 | nil=>rfl
 | cons n fs ih=>exact ih
def TT (k:DO):GO→GO→Bool
 | .loop _ _ _ _ _ _ _ _ _ _,.loop b p _ _ _ _ _ _ _ d=>k.is b p d
 | _,_=>false
def R6 (k:DO):GO→GO
 | .loop _ _ fn sl n ps rQ bd d _=>.loop k.b k.p fn sl n ps rQ bd d k.d
 | _=>.dead
def a7 (es:List (AV × AV)):Bool:=fO (an es)
def AX:GO→GO→Bool
 | .tok f sz e,.tok f' bN e'=>decide (f'=f)&&(Nat.beq bN sz&&Nat.beq e' e)
 | .defers a,.defers b=>match a,b with
  | true,true=>true
  | false,false=>true
  | _,_=>false
 | .dead,_=>true
 | _,_=>false
structure cI where
 ps:aP
 sl:List Tmp
 W:List Tmp
 bx:List (Nat × Nat)
 g:List GL
 WV:List (Tmp × Nat × Nat)
def wM (ah:bj):List Tmp→Option (List AV)
 | []=>some []
 | t :: l=>match lk ah t with
  | .v a=>match wM ah l with
   | some r=>some (a :: r)
   | none=>none
  | _=>none
def wN (bx:cJ):List (Nat × Nat)→Option (List AV)
 | []=>some []
 | (k,n) :: l=>match dv bx k with
  | some cs=>match wN bx l with
   | some r=>bif Nat.beq cs.length n then some (cs++r) else none
   | none=>none
  | none=>none
def jV:List GL→List GO→Option (List AV)
 | [],_=>some []
 | .row n :: l,.row cs _ :: G=>match jV l G with
  | some r=>bif Nat.beq cs.length n then some (cs++r) else none
  | none=>none
 | .tok _ sz e :: l,.tok _ bN e' :: G=>bif Nat.beq sz bN&&Nat.beq e e' then jV l G else none
 | .dead :: l,_ :: G=>jV l G
 | .lp _ :: l,_ :: G=>jV l G
 | .bE :: l,_ :: G=>jV l G
 | .map :: l,.map es :: G=>match jV l G with
  | some r=>some (.list .eU 2 (an es) :: r)
  | none=>none
 | .JW :: l,.gu s pos :: G=>match jV l G with
  | some r=>some (.str s :: .int .i64 pos :: r)
  | none=>none
 | .dc sz e :: l,.dc es bN e' :: G=>match jV l G with
  | some r=>bif Nat.beq sz bN&&Nat.beq e e' then some (.list .eU bN es :: r) else none
  | none=>none
 | .bk sz e :: l,.bk fs bN e' :: G=>match jV l G with
  | some r=>bif Nat.beq sz bN&&Nat.beq e e' then some (.list .eU 1 (cG fs) :: r) else none
  | none=>none
 | .rY :: l,.map es :: G=>match jV l G with
  | some r=>some (.list .eU 2 (an es) :: r)
  | none=>none
 | .nK qt :: l,.nK mid' n left _ _ :: G=>match jV l G with
  | some r=>bif Nat.beq qt mid' then some (.int .i64 n :: .list .eU 1 (cG left) :: r) else none
  | none=>none
 | _,_=>none
def JX (vs:List AV) (loc:Nat):Nat:=match nth vs loc with
 | some (.list _ _ es)=>es.length
 | _=>0
def R7:GO→GO→Bool
 | .row _ e,.row _ e'=>Nat.beq e e'
 | _,_=>false
def R8:GO→GO→Bool
 | .nK _ _ _ _ t,.nK _ _ _ _ t'=>Nat.beq t t'
 | _,_=>false
def Yf:GO→TypeId
 | .nK _ _ _ _ t=>t
 | _=>0
def Yg:GO→TypeId
 | .row _ e=>e
 | _=>0
def dE (vs:List AV):List GL→List GO→List GO→Bool
 | [],_,_=>true
 | .tok loc _ _ :: l,_ :: B,.tok f _ _ :: G=>decide (f=JX vs loc)&&dE vs l B G
 | .tok _ _ _ :: _,_,_=>false
 | .lp k :: l,o :: B,o' :: G=>TT k o o'&&dE vs l B G
 | .bE :: l,o :: B,o' :: G=>AX o o'&&dE vs l B G
 | .row _ :: l,b :: B,g :: G=>R7 b g&&dE vs l B G
 | .map :: l,_ :: B,.map es :: G=>a7 es&&dE vs l B G
 | .map :: _,_,_=>false
 | .JW :: l,_ :: B,_ :: G=>dE vs l B G
 | .dc _ _ :: l,_ :: B,_ :: G=>dE vs l B G
 | .bk _ _ :: l,_ :: B,_ :: G=>dE vs l B G
 | .rY :: l,_ :: B,_ :: G=>dE vs l B G
 | .nK _ :: l,b :: B,g :: G=>R8 b g&&dE vs l B G
 | .dead :: l,_ :: B,_ :: G=>dE vs l B G
 | _,_,_=>false
def oJ:List Tmp→List AV→bj→bj
 | t :: ts,a :: l,r=>.put t (.v a) :: oJ ts l r
 | _,_,r=>r
def oK:List (Tmp × Nat × Nat)→bj→bj
 | (t,k,o) :: l,r=>.put t (.lp k o) :: oK l r
 | [],r=>r
def Gp (ah:bj):List (Tmp × Nat × Nat)→Bool
 | []=>true
 | (t,k,o) :: l=>(match lk ah t with
  | .lp k' o'=>Nat.beq k' k&&Nat.beq o' o
  | _=>false)&&Gp ah l
def wO:List Tmp→bj→bj
 | t :: ts,r=>.put t .none :: wO ts r
 | [],r=>r
def uh:List (Nat × Nat)→List AV→cJ→cJ
 | (k,n) :: r,l,b=>(k,l.take n) :: uh r (l.drop n) b
 | [],_,b=>b
def dA (vs:List AV):List GL→List GO→List AV→List GO
 | .row n :: r,B,l=>.row (l.take n) (Yg (B.headD .dead)) :: dA vs r B.tail (l.drop n)
 | .tok loc sz e :: r,B,l=>.tok (JX vs loc) sz e :: dA vs r B.tail l
 | .dead :: r,B,l=>.dead :: dA vs r B.tail l
 | .lp k :: r,B,l=>R6 k (B.headD .dead) :: dA vs r B.tail l
 | .bE :: r,B,l=>B.headD .dead :: dA vs r B.tail l
 | .map :: r,B,l=>.map (AV.entries (ee l)) :: dA vs r B.tail l.tail
 | .JW :: r,B,l=>.gu (AV.S5 (ee l)) (AV.kR (ee l.tail)).toNat :: dA vs r B.tail l.tail.tail
 | .dc sz e :: r,B,l=>.dc (AV.dR (ee l)) sz e :: dA vs r B.tail l.tail
 | .bk sz e :: r,B,l=>.bk (a6 (AV.dR (ee l))) sz e :: dA vs r B.tail l.tail
 | .rY :: r,B,l=>.map (AV.entries (ee l)) :: dA vs r B.tail l.tail
 | .nK qt :: r,B,l=>.nK qt (AV.kR (ee l)).toNat (a6 (AV.dR (ee l.tail))) none (Yf (B.headD .dead)) :: dA vs r B.tail l.tail.tail
 | [],_,_=>[]
def AY:List (Nat × Nat)→Nat
 | []=>0
 | (_,n) :: l=>n+AY l
def ky:List GL→List AV→Nat→Nat
 | [],_,_=>0
 | .dc _ _ :: r,l,i=>match i with
  | 0=>(AV.dR (ee l)).length
  | i+1=>ky r l.tail i
 | .row n :: r,l,i=>match i with
  | 0=>0
  | i+1=>ky r (l.drop n) i
 | .map :: r,l,i=>match i with
  | 0=>0
  | i+1=>ky r l.tail i
 | .JW :: r,l,i=>match i with
  | 0=>0
  | i+1=>ky r l.tail.tail i
 | .bk _ _ :: r,l,i=>match i with
  | 0=>0
  | i+1=>ky r l.tail i
 | .rY :: r,l,i=>match i with
  | 0=>0
  | i+1=>ky r l.tail i
 | .nK _ :: r,l,i=>match i with
  | 0=>0
  | i+1=>ky r l.tail.tail i
 | _ :: r,l,i=>match i with
  | 0=>0
  | i+1=>ky r l i
def cI.pV (t:cI) (v:t.ps.T):List AV:=t.ps.kw (ky t.g (((t.ps.kw (fun _=>0) v).drop t.sl.length).drop (AY t.bx))) v
def cI.st (t:cI) (s:St) (v:t.ps.T):St:=
 ⟨oK t.WV (oJ t.sl (t.pV v) (wO t.W s.ah)),uh t.bx ((t.pV v).drop t.sl.length) s.boxes,dA (t.pV v) t.g s.G (((t.pV v).drop t.sl.length).drop (AY t.bx)),s.marks,s.ro,s.n⟩
def Nc:List Nat→Nat→Bool
 | [],_=>false
 | a :: l,n=>Nat.beq a n || Nc l n
def WW (l:List Tmp) (W:List Tmp) (n:Nat):Bool:=Nc l n || Nc W n
def yP (d:Nat) (l W:List Tmp):bj→Bool
 | []=>true
 | .put t (.lp k _) :: r=>(!(Nat.beq k d) || WW l W t)&&yP d l W r
 | _ :: r=>yP d l W r
def te (l W:List Tmp) (base:bj):bj→Bool
 | []=>true
 | .put d _ :: r=>WW l W d&&te l W base r
 | .kill d :: r=>yP d l W base&&te l W base r
def uD:List (Nat × Nat)→Nat→Bool
 | [],_=>false
 | (a,_) :: l,n=>Nat.beq a n || uD l n
def u0 (l:List (Nat × Nat)) (base:cJ):cJ→Bool
 | []=>true
 | (k,_) :: r=>(uD l k || (dv base k).isNone)&&u0 l base r
def NP:List Nat→List Nat→Bool
 | [],[]=>true
 | a :: l,b :: r=>Nat.beq a b&&NP l r
 | _,_=>false
def aT.lcl (n:Nat):aT→Bool
 | .list _ p=>p.under n
 | _=>false
def aP.flags (n:Nat):aP→List Bool
 | .nil=>[]
 | .cons p ps=>p.lcl n :: ps.flags n
def kz:List GL→List Bool→Bool
 | [],_=>true
 | .dc _ _ :: r,f :: l=>f&&kz r l
 | .dc _ _ :: _,[]=>false
 | .row n :: r,l=>kz r (ft n l)
 | .map :: r,l=>kz r (ft 1 l)
 | .JW :: r,l=>kz r (ft 2 l)
 | .bk _ _ :: r,l=>kz r (ft 1 l)
 | .rY :: r,f :: l=>f&&kz r l
 | .rY :: _,[]=>false
 | .nK _ :: r,l=>kz r (ft 2 l)
 | _ :: r,l=>kz r l
def JY (n:Nat):List GL→Bool
 | []=>true
 | .nK qt :: r=>Nat.blt qt n&&JY n r
 | _ :: r=>JY n r
def cI.ok (t:cI) (s s':St):Bool:=
 te t.sl t.W s.ah (s'.ah.take (s'.ah.length - s.ah.length))&&u0 t.bx s.boxes (s'.boxes.take (s'.boxes.length - s.boxes.length)) &&
  NP s'.marks s.marks&&Nat.beq t.g.length s.G.length&&(t.ps.under s.G.length&&(kz t.g (ft (AY t.bx) (ft t.sl.length (t.ps.flags s.G.length)))&&JY s.G.length t.g))&&Gp s'.ah t.WV
def cI.dec (t:cI) (s s':St):Option t.ps.T:=
 bif t.ok s s' then
  match wM s'.ah t.sl,wN s'.boxes t.bx,jV t.g s'.G with
  | some a,some b,some c=>(t.ps.HT (ky t.g c) (a++(b++c))).bind fun v=>bif dE (t.pV v) t.g s.G s'.G then some v else none
  | _,_,_=>none
 else none
theorem AZ {l:List Nat} {n:Nat}:Nc l n=true↔n∈l:=by
 induction l with
 | nil=>simp [Nc]
 | cons a l ih=>
  simp only [Nc,Bool.or_eq_true,Nat.beq_eq,ih,List.mem_cons]
  constructor
  ·rintro (h | h)
   ·exact .inl h.symm
   ·exact .inr h
  ·rintro (h | h)
   ·exact .inl h.symm
   ·exact .inr h
theorem Gq:∀ {a b:List Nat},NP a b=true→a=b
 | [],[],_=>rfl
 | a :: l,b :: r,h=>by
  simp only [NP,Bool.and_eq_true,Nat.beq_eq] at h
  rw [h.1,Gq h.2]
 | [],_ :: _,h=>by cases h
 | _ :: _,[],h=>by cases h
theorem A0 {d:Nat} {l W:List Tmp} {t off:Nat}:∀ {base:bj},yP d l W base=true→lk base t=.lp d off→WW l W t=true
 | [],_,h=>by simp [lk] at h
 | .put t' x :: r,hn,h=>by
  by_cases e:t'=t
  ·subst e
   rw [aD] at h
   subst h
   simp only [yP,Nat.beq_refl,Bool.not_true,Bool.false_or,Bool.and_eq_true] at hn
   exact hn.1
  ·rw [aR e] at h
   refine A0 (base:=r) ?_ h
   cases x <;> simp only [yP,Bool.and_eq_true] at hn
   ·exact hn
   ·exact hn
   ·exact hn.2
 | .kill d' :: r,hn,h=>by
  rcases FT (l:=r) (d:=d') (t:=t) with ⟨h1,_⟩ | h1
  ·rw [h1] at h
   exact A0 (base:=r) hn h
  ·rw [h1] at h
   cases h
theorem A1 {l W:List Tmp} {base:bj} {t:Nat} (ht:WW l W t=false):∀ {pre:bj},te l W base pre=true→lk (pre++base) t=lk base t
 | [],_=>rfl
 | .put d x :: r,h=>by
  simp only [te,Bool.and_eq_true] at h
  have cP:d≠t:=fun e=>by rw [e,ht] at h; exact absurd h.1 (by simp)
  rw [List.cons_append,aR cP]
  exact A1 ht h.2
 | .kill d :: r,h=>by
  simp only [te,Bool.and_eq_true] at h
  have ih:=A1 ht h.2
  simp only [List.cons_append,lk,ih]
  cases hb:lk base t with
  | lp k off=>
   by_cases e:k=d
   ·subst e
    have:=A0 h.1 hb
    rw [ht] at this
    cases this
   ·simp [mO e]
  | _=>rfl
theorem CJ {l:List (Nat × Nat)} {base:cJ} {k:Nat} {cs:List AV} (hk:uD l k=false) (hb:dv base k=some cs):∀ {pre:cJ},u0 l base pre=true→dv (pre++base) k=some cs
 | [],_=>hb
 | (d,x) :: r,h=>by
  simp only [u0,Bool.and_eq_true] at h
  have cP:d≠k:=fun e=>by
   rw [e,hk,hb] at h
   exact absurd h.1 (by simp)
  rw [List.cons_append,dv,mO cP]
  exact CJ hk hb h.2
theorem CK {α:Type} (pre base:List α):(pre++base).take ((pre++base).length - base.length)=pre:=by
 rw [List.length_append,Nat.add_sub_cancel,List.take_left]
def ao.cut (R:ao) (n:Nat):ao:=⟨R.I,R.obj.take n⟩
theorem jW {R:ao} {n id:Nat} {ro:RO}:nth (R.cut n).obj id=some ro↔id < n∧nth R.obj id=some ro:=by
 simp only [ao.cut,bc,List.getElem?_take]
 split
 ·simp_all
 ·simp_all
  omega
theorem oL (R:ao) (n:Nat):Mv R (R.cut n) n:=⟨fun _ _ h=>h,fun _ _ hl h=>jW.2 ⟨hl,h⟩⟩
section BL
variable {E:Env} {R R':ao} {w w':World} {β β':Nat→Nat} {s s':St} {a a':Act}
def wP (R:ao) (w:World) (β:Nat→Nat) (K:Nat→Prop) (ah:bj) (tmps:Array Value):Prop:=
 ∀ i,¬ K i→lk ah i≠.none→∃ c,tmps[i]?=some c∧pS R w β (lk ah i) c
theorem wQ {tmps:Array Value} {base:bj}:∀ {W:List Tmp} {K:Nat→Prop},wP R w β (fun i=>i∈W∨K i) base tmps→wP R w β K (wO W base) tmps
 | [],K,h=>fun i hi hn=>h i (by simpa using hi) hn
 | t :: W,K,h=>fun i hi hn=>by
  have ih:wP R w β (fun i=>i=t∨K i) (wO W base) tmps:=wQ (W:=W) (fun j hj=>h j (fun hc=>hj (by
   rcases hc with hc | hc
   ·rcases List.mem_cons.1 hc with hc | hc
    ·exact .inr (.inl hc)
    ·exact .inl hc
   ·exact .inr (.inr hc))))
  simp only [wO] at hn ⊢
  by_cases e:t=i
  ·subst e
   rw [aD] at hn
   exact absurd rfl hn
  ·rw [aR e] at hn ⊢
   exact ih i (by simp; exact ⟨fun e'=>e e'.symm,hi⟩) hn
theorem ui {n:Nat} (m:Mv R' R n) {tmps:Array Value} {ah:bj} (hT:nZ R' w β ah tmps) {base:bj}:∀ {ts:List Tmp} {K:Nat→Prop} {l l' r r':List AV},wM ah ts=some l→cK (l++r) (l'++r')→l.length=l'.length→aI n l'=true →
  wP R w β (fun i=>i∈ts∨K i) base tmps→wP R w β K (oJ ts (l'++r') base) tmps
 | [],K,l,l',r,r',_,_,_,_,h=>fun i hi hn=>by
  have e:oJ [] (l'++r') base=base:=rfl
  rw [e] at hn ⊢
  exact h i (by simpa using hi) hn
 | t :: ts,K,l,l',r,r',hg,hw,hl,hu,h=>by
  unfold wM at hg
  split at hg
  ·rename_i a ha
   split at hg
   ·rename_i l0 sV
    cases hg
    cases l' with
    | nil=>simp at hl
    | cons b l'=>
     simp only [List.cons_append,cK] at hw
     simp only [aI,Bool.and_eq_true] at hu
     have ih:wP R w β (fun i=>i=t∨K i) (oJ ts (l'++r') base) tmps:=ui m hT sV hw.2 (by simpa using hl) hu.2 (fun j hj=>h j (fun hc=>hj (by
      rcases hc with hc | hc
      ·rcases List.mem_cons.1 hc with hc | hc
       ·exact .inr (.inl hc)
       ·exact .inl hc
      ·exact .inr (.inr hc))))
     intro i hi hn
     simp only [oJ,List.cons_append] at hn ⊢
     by_cases e:t=i
     ·subst e
      rw [aD] at hn ⊢
      obtain ⟨c,h1,h2⟩:=hT t (by rw [ha]; simp)
      rw [ha] at h2
      exact ⟨c,h1,Rel.move m hu.1 (hw.1 _ _ _ h2)⟩
     ·rw [aR e] at hn ⊢
      exact ih i (by simp; exact ⟨fun e'=>e e'.symm,hi⟩) hn
   ·cases hg
  ·cases hg
def wR (R:ao) (w:World) (β:Nat→Nat) (k:Nat) (cs:List AV):Prop:=
 (∃ vs el,w.heap[β k]?=some (.cells ⟨vs⟩ el (0,0))∧aM R w cs vs∧(∀ v∈vs,v.oneCell'=true))∧(∀ o,¬ R.I (β k) o)∧¬ Live R (β k)
theorem CL {R:ao} {n b:Nat} (h:Live (R.cut n) b):Live R b:=by
 obtain ⟨id,ro,h1,h2⟩:=h
 exact ⟨id,ro,(jW.1 h1).2,h2⟩
theorem wR.cut {n k:Nat} {cs cs':List AV} (h:wR R w β k cs) (hw:cK cs cs') (hu:aI n cs'=true):wR (R.cut n) w β k cs':=by
 obtain ⟨⟨vs,el,h1,h2,h3⟩,h4,h5⟩:=h
 exact ⟨⟨vs,el,h1,(hw.rel h2).move (oL R n) hu,h3⟩,h4,fun hl=>h5 (CL hl)⟩
theorem fm {n:Nat}:∀ {l r:List AV},aI n (l++r)=(aI n l&&aI n r)
 | [],r=>by simp [aI]
 | a :: l,r=>by simp [aI,fm (l:=l),Bool.and_assoc]
theorem cK.split:∀ {l r l':List AV},cK (l++r) l'→∃ a b,l'=a++b∧cK l a∧cK r b∧a.length=l.length
 | [],r,l',h=>⟨[],l',rfl,trivial,h,rfl⟩
 | x :: l,r,[],h=>h.elim
 | x :: l,r,y :: l',h=>by
  obtain ⟨a,b,rfl,h2,h3,h4⟩:=cK.split (l:=l) (r:=r) (l':=l') h.2
  exact ⟨y :: a,b,rfl,⟨h.1,h2⟩,h3,by simp [h4]⟩
theorem CM {n:Nat} {bxs:cJ} (hb:∀ k cs,dv bxs k=some cs→wR R w β k cs) {base:cJ}:∀ {bx:List (Nat × Nat)} {K:Nat→Prop} {l l' r:List AV},wN bxs bx=some l→cK l l'→aI n l'=true →
  (∀ k cs,¬ K k→uD bx k=false→dv base k=some cs→dv bxs k=some cs∧aI n cs=true) →
  ∀ k cs,¬ K k→dv (uh bx (l'++r) base) k=some cs→wR (R.cut n) w β k cs∧∃ cs',dv bxs k=some cs'
 | [],K,l,l',r,_,_,_,h,k,cs,hK,hk=>by
  obtain ⟨h1,h2⟩:=h k cs hK rfl hk
  exact ⟨(hb k cs h1).cut (cK.refl _) h2,cs,h1⟩
 | (d,m) :: bx,K,l,l',r,hg,hw,hu,h,k,cs,hK,hk=>by
  unfold wN at hg
  split at hg
  ·rename_i X0 hd
   split at hg
   ·rename_i l0 sV
    cases hm:Nat.beq X0.length m with
    | false=>rw [hm] at hg; cases hg
    | true=>
     rw [hm] at hg
     cases hg
     have hm:=Nat.eq_of_beq_eq_true hm
     obtain ⟨x,y,rfl,k1,k2,k3⟩:=hw.split
     rw [fm,Bool.and_eq_true] at hu
     have e1:((x++y)++r).take m=x:=by rw [List.append_assoc,← hm,← k3,List.take_left]
     have e2:((x++y)++r).drop m=y++r:=by rw [List.append_assoc,← hm,← k3,List.drop_left]
     simp only [uh,e1,e2] at hk
     rcases eI hk with ⟨rfl,rfl⟩ | ⟨cP,hk⟩
     ·exact ⟨(hb d X0 hd).cut k1 hu.1,X0,hd⟩
     ·refine CM hb (K:=fun k=>k=d∨K k) (r:=r) sV k2 hu.2 (fun k' cs' hK' h1 h2=>?_) k cs (fun hc=>?_) hk
      ·exact h k' cs' (fun hc=>hK' (.inr hc)) (by simp only [uD,h1,Bool.or_false]; exact mO (fun e=>hK' (.inl e.symm))) h2
      ·rcases hc with hc | hc
       ·exact cP hc.symm
       ·exact hK hc
   ·cases hg
  ·cases hg
def wS (n:Nat):List GL→List AV→Prop
 | [],_=>True
 | .dc _ _ :: r,l=>aI n (AV.dR (ee l))=true∧wS n r l.tail
 | .row m :: r,l=>wS n r (l.drop m)
 | .map :: r,l=>wS n r l.tail
 | .JW :: r,l=>wS n r l.tail.tail
 | .bk _ _ :: r,l=>wS n r l.tail
 | .rY :: r,l=>aI n (AV.dR (ee l))=true∧wS n r l.tail
 | .nK _ :: r,l=>wS n r l.tail.tail
 | _ :: r,l=>wS n r l
def oM (n:Nat):List Bool→List AV→Prop
 | [],_=>True
 | _ :: _,[]=>True
 | f :: fl,a :: l=>(f=true→aI n a.dR=true)∧oM n fl l
theorem oM.drop {m:Nat}:∀ {fl:List Bool} {l:List AV} (n:Nat),oM m fl l→oM m (ft n fl) (l.drop n)
 | _,_,0,h=>by simpa [ft] using h
 | [],_,_+1,_=>by simp [ft,oM]
 | _ :: fl,[],n+1,_=>by
  rw [List.drop_nil]
  cases ft (n+1) (_ :: fl) <;> trivial
 | _ :: fl,_ :: l,n+1,h=>by simpa [ft] using oM.drop n h.2
theorem fy {m:Nat}:∀ (g:List GL) {fl:List Bool} {l:List AV},kz g fl=true→oM m fl l→wS m g l
 | [],_,_,_,_=>trivial
 | .dc _ _ :: g,[],_,h,_=>by cases h
 | .dc _ _ :: g,f :: fl,[],h,_=>by
  simp only [kz,Bool.and_eq_true] at h
  refine ⟨rfl,fy g (fl:=fl) h.2 ?_⟩
  cases fl <;> trivial
 | .dc _ _ :: g,f :: fl,a :: l,h,k=>by
  simp only [kz,Bool.and_eq_true] at h
  exact ⟨k.1 h.1,fy g h.2 k.2⟩
 | .row n :: g,fl,l,h,k=>fy g (show kz g (ft n fl)=true from h) (k.drop n)
 | .map :: g,fl,l,h,k=>by
  have:=fy g (show kz g (ft 1 fl)=true from h) (k.drop 1)
  rw [List.drop_one] at this
  exact this
 | .JW :: g,fl,l,h,k=>by
  have:=fy g (show kz g (ft 2 fl)=true from h) (k.drop 2)
  have e:l.drop 2=l.tail.tail:=by cases l with
   | nil=>rfl
   | cons a l=>cases l <;> rfl
  rw [e] at this
  exact this
 | .bk _ _ :: g,fl,l,h,k=>by
  have:=fy g (show kz g (ft 1 fl)=true from h) (k.drop 1)
  rw [List.drop_one] at this
  exact this
 | .nK _ :: g,fl,l,h,k=>by
  have:=fy g (show kz g (ft 2 fl)=true from h) (k.drop 2)
  have e:l.drop 2=l.tail.tail:=by cases l with
   | nil=>rfl
   | cons a l=>cases l <;> rfl
  rw [e] at this
  exact this
 | .rY :: g,[],_,h,_=>by cases h
 | .rY :: g,f :: fl,[],h,_=>by
  simp only [kz,Bool.and_eq_true] at h
  refine ⟨rfl,fy g (fl:=fl) h.2 ?_⟩
  cases fl <;> trivial
 | .rY :: g,f :: fl,a :: l,h,k=>by
  simp only [kz,Bool.and_eq_true] at h
  exact ⟨k.1 h.1,fy g h.2 k.2⟩
 | .tok _ _ _ :: g,fl,l,h,k=>fy g (show kz g fl=true from h) k
 | .dead :: g,fl,l,h,k=>fy g (show kz g fl=true from h) k
 | .lp _ :: g,fl,l,h,k=>fy g (show kz g fl=true from h) k
 | .bE :: g,fl,l,h,k=>fy g (show kz g fl=true from h) k
theorem wT {n:Nat} {α:Type} {g:α→AV} (hg:∀ x,(g x).under n=true):∀ xs:List α,aI n (xs.map g)=true
 | []=>rfl
 | x :: xs=>by simp only [List.map_cons,aI,hg x,wT hg xs,Bool.and_self]
theorem uj {α:Type} {g:α→AV} (hg:∀ x,(g x).closed=true):∀ xs:List α,aH (xs.map g)=true
 | []=>rfl
 | x :: xs=>by simp only [List.map_cons,aH,hg x,uj hg xs,Bool.and_self]
theorem aP.CN (n:Nat) (L:Nat→Nat):∀ (ps:aP) (x:ps.T),oM n (ps.flags n) (ps.kw L x)
 | .nil,_=>trivial
 | .cons p .nil,x=>⟨fun h=>R9 L p x h,trivial⟩
 | .cons p (.cons q ps),x=>⟨fun h=>R9 L p x.1 h,(aP.cons q ps).CN n L x.2⟩
where
 R9 (L:Nat→Nat):∀ (p:aT) (x:p.T),p.lcl n=true→aI n (p.kw L x).dR=true
  | .list _ p,x,h=>wT (fun y=>p.dD y h) _
  | .int _,_,h=>by cases h
  | .bool,_,h=>by cases h
  | .str,_,h=>by cases h
  | .agg _,_,h=>by cases h
  | .bi _,_,h=>by cases h
  | .own _ _ _,_,h=>by cases h
  | .bk _ _ _,_,h=>by cases h
  | .gC _,_,h=>by cases h
  | .two _ _,_,h=>by cases h
def GOk (n:Nat):GO→GO→Prop
 | .row cs el,.row cs' el'=>el'=el∧cK cs cs'∧aI n cs'=true
 | .tok f sz e,.tok f' bN e'=>f=f'∧sz=bN∧e=e'
 | .defers a,.defers b=>a=b
 | .map es,.map es'=>(es'=es∧a7 es=true)∨∃ l,es'=ab l∧jH (an es) l∧aI n l=true
 | .bk fs sz e,.bk Ar bN e'=>fs=Ar∧sz=bN∧e=e'
 | .nK qt m left _ t,.nK mid' m' zu cur t'=>qt=mid'∧m=m'∧left=zu∧t=t'∧qt < n∧cur=none
 | .gu l p,.gu l' p'=>l'=l∧p'=p
 | .dc es sz e,.dc es' bN e'=>bN=sz∧e'=e∧jH es es'∧aI n es'=true
 | _,.dead=>True
 | _,_=>False
def LOk:GO→GO→GO→Prop
 | .loop _ _ fn sl n ps rQ bd d _,.loop b p _ _ _ _ _ _ _ dn,go=>go=.loop b p fn sl n ps rQ bd d dn
 | _,_,_=>False
theorem HV {n:Nat} {o o':GO} (h:AX o o'=true):GOk n o' o:=by
 cases o with
 | tok f sz e=>
  cases o' with
  | tok f' bN e'=>
   simp only [AX,Bool.and_eq_true] at h
   exact ⟨of_decide_eq_true h.1,Nat.eq_of_beq_eq_true h.2.1,Nat.eq_of_beq_eq_true h.2.2⟩
  | _=>cases h
 | defers a=>
  cases o' with
  | defers b=>cases a <;> cases b <;> first | rfl | cases h
  | _=>cases h
 | dead=>cases o' <;> trivial
 | _=>cases h
theorem NQ {k:DO} {o o':GO} (h:TT k o o'=true):LOk o o' (R6 k o):=by
 cases o with
 | loop b p fn sl n ps rQ bd d dn=>
  cases o' with
  | loop b' p' Yh WT n' Yi NR WX d' dn'=>
   obtain ⟨rfl,rfl,rfl⟩:=DO.Gn (show k.is b' p' dn'=true from h)
   rfl
  | _=>cases h
 | _=>cases h
theorem qg (a:AV):a.entries=ab a.dR:=by cases a <;> rfl
theorem gS {n:Nat} {vs:List AV}:∀ {g:List GL} {B G:List GO} {l l':List AV},jV g G=some l→cK l l'→IW l l'→wS n g l'∧JY n g=true→aI n l'=true→dE vs g B G=true →
  ∀ id go,nth (dA vs g B l') id=some go→∃ go',nth G id=some go'∧(GOk n go' go∨∃ IU,nth B id=some IU∧LOk IU go' go)
 | [],B,G,l,l',_,_,_,_,_,_,id,go,h=>by simp [dA,nth] at h
 | x :: g,[],G,l,l',_,_,_,_,_,ht,_,_,_=>by cases x <;> cases G <;> cases ht
 | x :: g,_ :: _,[],l,l',_,_,_,_,_,ht,_,_,_=>by cases x <;> cases ht
 | .row m :: g,b :: B,o :: G,l,l',hg,hw,hx,sI,hu,ht,id,go,h=>by
   obtain ⟨Er,CA⟩:R7 b o=true∧dE vs g B G=true:=by
    rw [← Bool.and_eq_true]
    cases o <;> exact ht
   cases o with
   | row cs el=>
    have pn:Yg b=el:=by
     cases b <;> first | (cases Er; done) | exact Nat.eq_of_beq_eq_true Er
    change (match jV g G with
     | some r=>bif Nat.beq cs.length m then some (cs++r) else none
     | none=>none)=some l at hg
    split at hg
    ·rename_i r hr
     cases hm:Nat.beq cs.length m with
     | false=>rw [hm] at hg; cases hg
     | true=>
      rw [hm] at hg
      cases hg
      have hm:=Nat.eq_of_beq_eq_true hm
      obtain ⟨x,y,rfl,k1,k2,k3⟩:=hw.split
      rw [fm,Bool.and_eq_true] at hu
      have e1:(x++y).take m=x:=by rw [← hm,← k3,List.take_left]
      have e2:(x++y).drop m=y:=by rw [← hm,← k3,List.drop_left]
      simp only [dA,e1,e2] at h
      cases id with
      | zero=>simp only [nth] at h; cases h; exact ⟨.row cs el,rfl,.inl ⟨pn,k1,hu.1⟩⟩
      | succ id=>exact gS hr k2 (by obtain ⟨x',y',e1',k1',Na,k3'⟩:=hx.split; have:=List.append_inj e1' (by rw [k3,k3']); rw [this.2]; exact Na) (by rw [← e2]; exact sI) hu.2 CA id go h
    ·cases hg
   | _=>cases hg
 | .tok loc sz e :: g,b :: B,o :: G,l,l',hg,hw,hx,sI,hu,ht,id,go,h=>by
   cases o with
   | tok f bN e'=>
    change (bif Nat.beq sz bN&&Nat.beq e e' then jV g G else none)=some l at hg
    change (decide (f=JX vs loc)&&dE vs g B G)=true at ht
    rw [Bool.and_eq_true] at ht
    cases hm:(Nat.beq sz bN&&Nat.beq e e') with
    | false=>rw [hm] at hg; cases hg
    | true=>
     rw [hm] at hg
     rw [Bool.and_eq_true] at hm
     have q1:=Nat.eq_of_beq_eq_true hm.1
     have q2:=Nat.eq_of_beq_eq_true hm.2
     simp only [dA] at h
     cases id with
     | zero=>
      simp only [nth] at h
      cases h
      exact ⟨.tok f bN e',rfl,.inl ⟨of_decide_eq_true ht.1,q1.symm,q2.symm⟩⟩
     | succ id=>exact gS hg hw hx sI hu ht.2 id go h
   | _=>cases hg
 | .dead :: g,b :: B,o :: G,l,l',hg,hw,hx,sI,hu,ht,id,go,h=>by
   simp only [dA] at h
   have qv:jV g G=some l:=by cases o <;> exact hg
   have CA:dE vs g B G=true:=by cases o <;> exact ht
   cases id with
   | zero=>
    simp only [nth] at h
    cases h
    exact ⟨o,rfl,.inl (by cases o <;> trivial)⟩
   | succ id=>exact gS qv hw hx sI hu CA id go h
 | .lp k :: g,b :: B,o :: G,l,l',hg,hw,hx,sI,hu,ht,id,go,h=>by
   simp only [dA] at h
   have qv:jV g G=some l:=by cases o <;> exact hg
   change (TT k b o&&dE vs g B G)=true at ht
   rw [Bool.and_eq_true] at ht
   cases id with
   | zero=>
    simp only [nth] at h
    cases h
    exact ⟨o,rfl,.inr ⟨b,rfl,NQ ht.1⟩⟩
   | succ id=>exact gS qv hw hx sI hu ht.2 id go h
 | .bE :: g,b :: B,o :: G,l,l',hg,hw,hx,sI,hu,ht,id,go,h=>by
   simp only [dA] at h
   have qv:jV g G=some l:=by cases o <;> exact hg
   change (AX b o&&dE vs g B G)=true at ht
   rw [Bool.and_eq_true] at ht
   cases id with
   | zero=>
    simp only [nth] at h
    cases h
    exact ⟨o,rfl,.inl (HV ht.1)⟩
   | succ id=>exact gS qv hw hx sI hu ht.2 id go h
 | .map :: g,b :: B,o :: G,l,l',hg,hw,hx,sI,hu,ht,id,go,h=>by
   cases o with
   | map es=>
    change (match jV g G with
     | some r=>some (AV.list .eU 2 (an es) :: r)
     | none=>none)=some l at hg
    change (a7 es&&dE vs g B G)=true at ht
    rw [Bool.and_eq_true] at ht
    split at hg
    ·rename_i r hr
     cases hg
     cases l' with
     | nil=>exact hw.elim
     | cons a l'=>
      simp only [aI,Bool.and_eq_true] at hu
      simp only [dA,ee,List.tail_cons] at h
      cases id with
      | zero=>
       simp only [nth] at h
       cases h
       refine ⟨.map es,rfl,.inl (.inl ⟨?_,ht.1⟩)⟩
       rw [qg,hx.2.1 ht.1]
       exact nP es
      | succ id=>exact gS hr hw.2 hx.2.2.2 sI hu.2 ht.2 id go h
    ·cases hg
   | _=>cases hg
 | .JW :: g,b :: B,o :: G,l,l',hg,hw,hx,sI,hu,ht,id,go,h=>by
   have CA:dE vs g B G=true:=by cases o <;> exact ht
   cases o with
   | gu s pos=>
    change (match jV g G with
     | some r=>some (AV.str s :: AV.int .i64 pos :: r)
     | none=>none)=some l at hg
    split at hg
    ·rename_i r hr
     cases hg
     match l',hw,hx,hu,h with
     | [],hw,_,_,_=>exact hw.elim
     | [_],hw,_,_,_=>exact hw.2.elim
     | a :: a' :: l',hw,hx,hu,h=>
      simp only [aI,Bool.and_eq_true] at hu
      simp only [dA,ee,List.tail_cons] at h
      have e1:=hx.1 (by simp [AV.exact])
      have e2:=hx.2.2.2.1 (by simp [AV.exact])
      subst e1 e2
      cases id with
      | zero=>
       simp only [nth] at h
       cases h
       exact ⟨.gu s pos,rfl,.inl ⟨rfl,by simp [AV.kR]⟩⟩
      | succ id=>exact gS hr hw.2.2 hx.2.2.2.2.2.2 sI hu.2.2 CA id go h
    ·cases hg
   | _=>cases hg
 | .dc sz e :: g,b :: B,o :: G,l,l',hg,hw,hx,sI,hu,ht,id,go,h=>by
   have CA:dE vs g B G=true:=by cases o <;> exact ht
   cases o with
   | dc es bN e'=>
    change (match jV g G with
     | some r=>bif Nat.beq sz bN&&Nat.beq e e' then some (AV.list .eU bN es :: r) else none
     | none=>none)=some l at hg
    split at hg
    ·rename_i r hr
     cases hm:(Nat.beq sz bN&&Nat.beq e e') with
     | false=>rw [hm] at hg; cases hg
     | true=>
     rw [hm] at hg
     rw [Bool.and_eq_true] at hm
     have q1:=Nat.eq_of_beq_eq_true hm.1
     have q2:=Nat.eq_of_beq_eq_true hm.2
     cases hg
     cases l' with
     | nil=>exact hw.elim
     | cons a l'=>
      simp only [aI,Bool.and_eq_true] at hu
      simp only [dA,ee,List.tail_cons] at h
      cases id with
      | zero=>
       simp only [nth] at h
       cases h
       exact ⟨.dc es bN e',rfl,.inl ⟨q1,q2,hx.2.2.1,sI.1.1⟩⟩
      | succ id=>exact gS hr hw.2 hx.2.2.2 ⟨sI.1.2,sI.2⟩ hu.2 CA id go h
    ·cases hg
   | _=>cases hg
 | .bk sz e :: g,b :: B,o :: G,l,l',hg,hw,hx,sI,hu,ht,id,go,h=>by
   have CA:dE vs g B G=true:=by cases o <;> exact ht
   cases o with
   | bk fs bN e'=>
    change (match jV g G with
     | some r=>bif Nat.beq sz bN&&Nat.beq e e' then some (AV.list .eU 1 (cG fs) :: r) else none
     | none=>none)=some l at hg
    split at hg
    ·rename_i r hr
     cases hm:(Nat.beq sz bN&&Nat.beq e e') with
     | false=>rw [hm] at hg; cases hg
     | true=>
     rw [hm] at hg
     rw [Bool.and_eq_true] at hm
     have q1:=Nat.eq_of_beq_eq_true hm.1
     have q2:=Nat.eq_of_beq_eq_true hm.2
     cases hg
     cases l' with
     | nil=>exact hw.elim
     | cons a l'=>
      simp only [aI,Bool.and_eq_true] at hu
      simp only [dA,ee,List.tail_cons] at h
      cases id with
      | zero=>
       simp only [nth] at h
       cases h
       refine ⟨.bk fs bN e',rfl,.inl ⟨?_,q1.symm,q2.symm⟩⟩
       rw [hx.2.1 (wL fs)]
       exact (ug fs).symm
      | succ id=>exact gS hr hw.2 hx.2.2.2 sI hu.2 CA id go h
    ·cases hg
   | _=>cases hg
 | .rY :: g,b :: B,o :: G,l,l',hg,hw,hx,sI,hu,ht,id,go,h=>by
   have CA:dE vs g B G=true:=by cases o <;> exact ht
   cases o with
   | map es=>
    change (match jV g G with
     | some r=>some (AV.list .eU 2 (an es) :: r)
     | none=>none)=some l at hg
    split at hg
    ·rename_i r hr
     cases hg
     cases l' with
     | nil=>exact hw.elim
     | cons a l'=>
      simp only [aI,Bool.and_eq_true] at hu
      simp only [dA,ee,List.tail_cons] at h
      cases id with
      | zero=>
       simp only [nth] at h
       cases h
       exact ⟨.map es,rfl,.inl (.inr ⟨a.dR,qg a,hx.2.2.1,sI.1.1⟩)⟩
      | succ id=>exact gS hr hw.2 hx.2.2.2 ⟨sI.1.2,sI.2⟩ hu.2 CA id go h
    ·cases hg
   | _=>cases hg
 | .nK qt :: g,b :: B,o :: G,l,l',hg,hw,hx,sI,hu,ht,id,go,h=>by
   obtain ⟨Er,CA⟩:R8 b o=true∧dE vs g B G=true:=by
    rw [← Bool.and_eq_true]
    cases o <;> exact ht
   cases o with
   | nK mid' k left cur t=>
    have pn:Yf b=t:=by
     cases b <;> first | (cases Er; done) | exact Nat.eq_of_beq_eq_true Er
    change (match jV g G with
     | some r=>bif Nat.beq qt mid' then some (AV.int .i64 k :: AV.list .eU 1 (cG left) :: r) else none
     | none=>none)=some l at hg
    split at hg
    ·rename_i r hr
     cases hm:Nat.beq qt mid' with
     | false=>rw [hm] at hg; cases hg
     | true=>
     rw [hm] at hg
     have q1:=Nat.eq_of_beq_eq_true hm
     subst q1
     cases hg
     have hmp:=sI.2
     simp only [JY,Bool.and_eq_true] at hmp
     match l',hw,hx,hu,h with
     | [],hw,_,_,_=>exact hw.elim
     | [_],hw,_,_,_=>exact hw.2.elim
     | a :: a' :: l',hw,hx,hu,h=>
      simp only [aI,Bool.and_eq_true] at hu
      simp only [dA,ee,List.tail_cons] at h
      have e1:=hx.1 (by simp [AV.exact])
      have e2:=hx.2.2.2.2.1 (wL left)
      subst e1
      cases id with
      | zero=>
       simp only [nth] at h
       cases h
       refine ⟨.nK qt k left cur t,rfl,.inl ⟨rfl,by simp [AV.kR],?_,pn.symm,jG hmp.1,rfl⟩⟩
       rw [e2]
       exact (ug left).symm
      | succ id=>exact gS hr hw.2.2 hx.2.2.2.2.2.2 ⟨sI.1,hmp.2⟩ hu.2.2 CA id go h
    ·cases hg
   | _=>cases hg
theorem cW {vs:List AV}:∀ {g:List GL} {B:List GO} {l:List AV},(dA vs g B l).length=g.length
 | [],_,_=>rfl
 | .row m :: g,B,l=>by simp [dA,cW (g:=g)]
 | .tok _ _ _ :: g,B,l=>by simp [dA,cW (g:=g)]
 | .dead :: g,B,l=>by simp [dA,cW (g:=g)]
 | .lp _ :: g,B,l=>by simp [dA,cW (g:=g)]
 | .bE :: g,B,l=>by simp [dA,cW (g:=g)]
 | .map :: g,B,l=>by simp [dA,cW (g:=g)]
 | .dc _ _ :: g,B,l=>by simp [dA,cW (g:=g)]
 | .JW :: g,B,l=>by simp [dA,cW (g:=g)]
 | .bk _ _ :: g,B,l=>by simp [dA,cW (g:=g)]
 | .rY :: g,B,l=>by simp [dA,cW (g:=g)]
 | .nK _ :: g,B,l=>by simp [dA,cW (g:=g)]
theorem gG.lok {R0:ao} {w0:World} {Sa:RO} {IU go' go:GO} {ro:RO} (e:Ext R0 w0 R w) (h0:gG R0 w0 IU Sa) (hle:cD Sa ro) (h:gG R' w go' ro) (k:LOk IU go' go):gG R w go ro:=by
 cases IU with
 | loop b p fn sl n ps rQ bd d dn=>
  cases go' with
  | loop b' p' Yh WT n' Yi NR WX d' dn'=>
   change go=_ at k
   subst k
   cases Sa with
   | b7 bb=>
    simp only [cD] at hle
    subst hle
    obtain ⟨⟨r0,db0,l1,l2,l3,l4,l5,l6,l7,l8,l9,l10⟩,l11⟩:=h0
    obtain ⟨⟨r,db,m1,m2,m3,m4,m5,m6,m7,m8,m9,m10⟩,m11⟩:=h
    obtain ⟨r1,q1,q2,q3,q4,q5,q6⟩:=e.lp bb r0 l1
    have hr:r1=r:=by
     have:=q1.symm.trans m1
     injection this with this
     injection this with this
    subst hr
    exact ⟨⟨r1,db0,q1,m2,m3,by rw [q2]; exact nZ.mono e l4,by rw [q2]; exact l5,by rw [q3]; exact l6,by rw [q4]; exact l7,by rw [q5]; exact l8,by rw [q6]; exact l9,e.b7 l10⟩,l11⟩
   | none=>exact h0.elim
   | bJ=>exact h0.elim
   | tok _ _ _=>exact h0.elim
   | bk _=>exact h0.elim
  | _=>exact k.elim
 | _=>exact k.elim
theorem dw.cut {n:Nat}:∀ {es:List (AV × AV)} {aC:List MapEntry},fO (an es)=true→dw R w es aC→dw (R.cut n) w es aC
 | [],[],_,_=>trivial
 | [],_ :: _,_,h=>h.elim
 | _ :: _,[],_,h=>h.elim
 | (k,v) :: es,en :: aC,he,h=>by
  simp only [an,fO,AV.exact,Bool.and_true,Bool.and_eq_true] at he
  exact ⟨h.1.move (oL R n) (iC n (nj he.1.1)),h.2.1.move (oL R n) (iC n (nj he.1.2)),dw.cut he.2 h.2.2⟩
theorem CO {n:Nat} {v:AV} (h:v.under n=true) (k:v.aX=true):aI n v.cells=true:=by
 cases v <;> first | exact h | (simp [AV.aX] at k; done) | (simp only [AV.cells,aI,Bool.and_true]; exact h)
theorem wU {n sz:Nat}:∀ {es es':List AV},jH es es'→dB sz es→aI n es'=true→dB sz es'∧cK (ay es) (ay es')∧aI n (ay es')=true
 | [],[],_,_,_=>⟨(fun e he=>by simp at he),trivial,rfl⟩
 | e :: es,e' :: es',h,k,uE=>by
  obtain ⟨h1,h2⟩:=h
  simp only [aI,Bool.and_eq_true] at uE
  obtain ⟨q1,q2⟩:=k e (by simp)
  obtain ⟨i1,i2,i3⟩:=wU h2 (fun x hx=>k x (by simp [hx])) uE.2
  have hc:=h1.cells q2
  have ht:e'.aX=true:=by rw [h1.bi,q2]
  refine ⟨fun x hx=>?_,hc.append i2,by show aI n (e'.cells++ay es')=true; rw [fm,CO uE.1 ht,i3]; rfl⟩
  rcases List.mem_cons.1 hx with rfl | hx
  ·exact ⟨by rw [← hc.length,q1],ht⟩
  ·exact i1 x hx
 | [],_ :: _,h,_,_=>h.elim
 | _ :: _,[],h,_,_=>h.elim
theorem nS.head {l r:List AV} (h:nS l r):(AV.dR (ee l)).length=(AV.dR (ee r)).length:=by
 cases l <;> cases r <;> first | rfl | exact h.1 | exact h.elim
theorem nS.tail {l r:List AV} (h:nS l r):nS l.tail r.tail:=by
 cases l <;> cases r <;> first | exact h | exact h.2 | exact h.elim
theorem cX:∀ (g:List GL) {l r:List AV} (i:Nat),nS l r→ky g l i=ky g r i
 | [],_,_,_,_=>rfl
 | .dc _ _ :: g,l,r,0,h=>h.head
 | .dc _ _ :: g,l,r,i+1,h=>cX g i h.tail
 | .row _ :: g,l,r,0,h=>rfl
 | .row n :: g,l,r,i+1,h=>cX g i (h.drop n)
 | .map :: g,l,r,0,h=>rfl
 | .map :: g,l,r,i+1,h=>cX g i h.tail
 | .JW :: g,l,r,0,h=>rfl
 | .JW :: g,l,r,i+1,h=>cX g i h.tail.tail
 | .bk _ _ :: g,l,r,0,h=>rfl
 | .bk _ _ :: g,l,r,i+1,h=>cX g i h.tail
 | .rY :: g,l,r,0,h=>rfl
 | .rY :: g,l,r,i+1,h=>cX g i h.tail
 | .nK _ :: g,l,r,0,h=>rfl
 | .nK _ :: g,l,r,i+1,h=>cX g i h.tail.tail
 | .tok _ _ _ :: g,l,r,0,h=>rfl
 | .tok _ _ _ :: g,l,r,i+1,h=>cX g i h
 | .dead :: g,l,r,0,h=>rfl
 | .dead :: g,l,r,i+1,h=>cX g i h
 | .lp _ :: g,l,r,0,h=>rfl
 | .lp _ :: g,l,r,i+1,h=>cX g i h
 | .bE :: g,l,r,0,h=>rfl
 | .bE :: g,l,r,i+1,h=>cX g i h
theorem dw.Yj {n:Nat}:∀ {es:List (AV × AV)} {l:List AV} {aC:List MapEntry},jH (an es) l→aI n l=true→dw R w es aC→dw (R.cut n) w (ab l) aC
 | [],[],[],_,_,_=>trivial
 | [],[],_ :: _,_,_,h=>h.elim
 | [],_ :: _,_,h,_,_=>h.elim
 | (_,_) :: _,[],_,h,_,_=>h.elim
 | (_,_) :: _,_ :: _,[],_,_,h=>h.elim
 | (k,v) :: es,a :: l,en :: aC,hd,hu,h=>by
  obtain ⟨d1,d2⟩:=hd
  simp only [aI,Bool.and_eq_true] at hu
  have hc:=d1.cells rfl
  have hl:[k,v].length=a.cells.length:=hc.length
  cases a with
  | agg cs=>
   match cs,hc,hl with
   | [k',v'],hc,_=>
    have TU:aI n [k',v']=true:=hu.1
    simp only [aI,Bool.and_true,Bool.and_eq_true] at TU
    exact ⟨(hc.1 _ _ _ h.1).move (oL R n) TU.1,(hc.2.1 _ _ _ h.2.1).move (oL R n) TU.2,dw.Yj d2 hu.2 h.2.2⟩
   | [],_,hl=>simp [AV.cells] at hl
   | [_],_,hl=>simp [AV.cells] at hl
   | _ :: _ :: _ :: _,_,hl=>simp [AV.cells] at hl
  | _=>simp [AV.cells] at hl
theorem gG.gok {n:Nat} {go go':GO} {ro:RO} (h:gG R w go' ro) (k:GOk n go' go):gG (R.cut n) w go ro:=by
 cases go with
 | dead=>
  cases ro with
  | none=>trivial
  | bJ=>trivial
  | b7 b=>exact h.lt rfl
  | tok f b c=>exact h.lt rfl
  | bk ts=>exact fun j f b c hj=>h.lt ⟨j,f,c,hj⟩
 | row cs el=>
  cases go' with
  | row cs' el'=>
   cases ro with
   | b7 b=>
    obtain ⟨vs,h1,h2,h3,h4⟩:=h
    obtain ⟨rfl,k⟩:=k
    exact ⟨vs,h1,(k.1.rel h2).move (oL R n) k.2,h3,h4⟩
   | none=>exact h.elim
   | bJ=>exact h.elim
   | tok _ _ _=>exact h.elim
   | bk _=>exact h.elim
  | _=>exact k.elim
 | tok f sz e=>
  cases go' with
  | tok f' bN e'=>
   obtain ⟨rfl,rfl,rfl⟩:=k
   cases ro with
   | b7 b=>exact h.elim
   | none=>exact h.elim
   | bJ=>exact h
   | tok _ _ _=>exact h
   | bk _=>exact h.elim
  | _=>exact k.elim
 | defers a=>
  cases go' with
  | defers b=>
   change b=a at k
   subst k
   cases ro <;> exact h
  | _=>exact k.elim
 | map es=>
  cases go' with
  | map es'=>
   cases ro with
   | b7 b=>
    obtain ⟨aC,clock,h1,h2,h3⟩:=h
    rcases k with ⟨rfl,k2⟩ | ⟨l,rfl,k2,k3⟩
    ·exact ⟨aC,clock,h1,dw.cut k2 h2,h3⟩
    ·exact ⟨aC,clock,h1,dw.Yj k2 k3 h2,h3⟩
   | none=>exact h.elim
   | bJ=>exact h.elim
   | tok _ _ _=>exact h.elim
   | bk _=>exact h.elim
  | _=>exact k.elim
 | bk fs sz e=>
  cases go' with
  | bk Ar bN e'=>
   obtain ⟨rfl,rfl,rfl⟩:=k
   cases ro <;> exact h
  | _=>exact k.elim
 | nK qt m left cur t=>
  cases go' with
  | nK mid' m' zu B1 t'=>
   obtain ⟨rfl,rfl,rfl,rfl,k,rfl⟩:=k
   cases ro with
   | b7 b=>obtain ⟨bm,seen,c0,h1,h2,h3,h4,h5,h6,_⟩:=h; exact ⟨bm,seen,c0,jW.2 ⟨k,h1⟩,h2,h3,h4,h5,h6,fun i hi=>by cases hi⟩
   | none=>exact h.elim
   | bJ=>exact h.elim
   | tok _ _ _=>exact h.elim
   | bk _=>exact h.elim
  | _=>exact k.elim
 | gu l p=>
  cases go' with
  | gu l' p'=>
   obtain ⟨rfl,rfl⟩:=k
   cases ro <;> exact h
  | _=>exact k.elim
 | dc es sz e=>
  cases go' with
  | dc es' bN e'=>
   obtain ⟨rfl,rfl,k,kc⟩:=k
   cases ro with
   | b7 b=>exact h.elim
   | none=>exact h.elim
   | bk _=>exact h.elim
   | bJ=>
    have he:es'=[]:=h
    subst he
    exact List.eq_nil_of_length_eq_zero k.length.symm
   | tok f b c=>
    obtain ⟨h0,h1,cur,vs,h2,h3,h4,h5,h6,h7,h8,h9⟩:=h
    obtain ⟨k1,k2,k3⟩:=wU k h1 kc
    exact ⟨h0.trans k.length,k1,cur,vs,h2,h3,h4,h5,h6,(k2.rel h7).move (oL R n) k3,h8,h9⟩
  | _=>exact k.elim
 | _=>cases go' <;> exact k.elim
theorem pT.ids:∀ {l:List Nat} {ds:List Deferred},pT R l ds→∀ id∈l,id < R.obj.length
 | [],[],_,id,hi=>by simp at hi
 | x :: l,d :: ds,h,id,hi=>by
  obtain ⟨⟨b,h1,_⟩,h2⟩:=h
  rcases List.mem_cons.1 hi with rfl | hi
  ·exact bP h1
  ·exact pT.ids h2 id hi
 | [],_ :: _,h,_,_=>h.elim
 | _ :: _,[],h,_,_=>h.elim
theorem pT.cut {n:Nat}:∀ {l:List Nat} {ds:List Deferred},pT R l ds→(∀ id∈l,id < n)→pT (R.cut n) l ds
 | [],[],_,_=>trivial
 | x :: l,d :: ds,h,hi=>by
  obtain ⟨⟨b,h1,h3⟩,h2⟩:=h
  exact ⟨⟨b,jW.2 ⟨hi x (by simp),h1⟩,h3⟩,pT.cut h2 fun id hm=>hi id (by simp [hm])⟩
 | [],_ :: _,h,_=>h.elim
 | _ :: _,[],h,_=>h.elim
theorem uk {n:Nat} {tmps:Array Value} {ah base:bj} (hT:nZ R w β ah tmps):∀ {l:List (Tmp × Nat × Nat)},Gp ah l=true→nZ (R.cut n) w β base tmps→nZ (R.cut n) w β (oK l base) tmps
 | [],_,h=>h
 | (t,k,o) :: l,hl,h=>fun i hi=>by
  simp only [Gp,Bool.and_eq_true] at hl
  simp only [oK] at hi ⊢
  by_cases e:t=i
  ·subst e
   rw [aD]
   have h1:=hl.1
   split at h1
   ·rename_i k' o' hk
    rw [Bool.and_eq_true] at h1
    have e1:=Nat.eq_of_beq_eq_true h1.1
    have e2:=Nat.eq_of_beq_eq_true h1.2
    subst e1 e2
    obtain ⟨c,q1,q2⟩:=hT t (by rw [hk]; simp)
    rw [hk] at q2
    exact ⟨c,q1,q2⟩
   ·cases h1
  ·rw [aR e] at hi ⊢
   exact uk hT hl.2 h i hi
theorem cI.BL {t:cI} {v:t.ps.T} (hs:aV s s') (h0:bn E R w β s a) (h:bn E R' w' β' s' a') (st:Step R w β s.boxes R' w' β' s'.boxes) (hd:t.dec s s'=some v) :
  bn E (R'.cut s.G.length) w' β' (t.st s v) a'∧Step R w β s.boxes (R'.cut s.G.length) w' β' (t.st s v).boxes:=by
 have hlen:=h0.g.len
 unfold cI.dec at hd
 cases eB:t.ok s s' with
 | false=>rw [eB] at hd; cases hd
 | true=>
 rw [eB] at hd
 simp only [cond_true] at hd
 unfold cI.ok at eB
 simp only [Bool.and_eq_true] at eB
 obtain ⟨⟨⟨⟨⟨k1,k2⟩,k3⟩,k4⟩,k5,k7,k8⟩,k6⟩:=eB
 obtain ⟨pre,yL⟩:=hs.sl
 obtain ⟨preB,Sb⟩:=hs.bx
 rw [yL,CK] at k1
 rw [Sb,CK] at k2
 have k3:=Gq k3
 have k4:=Nat.eq_of_beq_eq_true k4
 split at hd
 ·rename_i la lb lc g1 g2 g3
  cases hv:t.ps.HT (ky t.g lc) (la++(lb++lc)) with
  | none=>rw [hv] at hd; cases hd
  | some v'=>
  rw [hv] at hd
  simp only [Option.bind_some] at hd
  cases BJ:dE (t.pV v') t.g s.G s'.G with
  | false=>rw [BJ] at hd; cases hd
  | true=>
  rw [BJ] at hd
  cases hd
  have lsl:∀ {ts:List Tmp} {l:List AV},wM s'.ah ts=some l→l.length=ts.length:=by
   intro ts
   induction ts with
   | nil=>intro l hl; simp only [wM] at hl; cases hl; rfl
   | cons t ts ih=>
    intro l hl
    unfold wM at hl
    split at hl
    ·split at hl
     ·rename_i hr
      cases hl
      simp [ih hr]
     ·cases hl
    ·cases hl
  have lbx:∀ {bx:List (Nat × Nat)} {l:List AV},wN s'.boxes bx=some l→l.length=AY bx:=by
   intro bx
   induction bx with
   | nil=>intro l hl; simp only [wN] at hl; cases hl; rfl
   | cons x bx ih=>
    obtain ⟨k,m⟩:=x
    intro l hl
    unfold wN at hl
    split at hl
    ·split at hl
     ·rename_i cs _ _ r hr
      cases hm:Nat.beq cs.length m with
      | false=>rw [hm] at hl; cases hl
      | true=>
       rw [hm] at hl
       cases hl
       simp only [AY,List.length_append,ih hr,Nat.eq_of_beq_eq_true hm]
     ·cases hl
    ·cases hl
  obtain ⟨hw,hex⟩:=t.ps.NO _ hv
  have Sc:t.pV v=t.ps.kw (ky t.g lc) v:=by
   unfold cI.pV
   congr 1
   funext i
   have hl:=hex.Ye.trans (t.ps.oI (ky t.g lc) (fun _=>0) v)
   have JN:=(hl.drop t.sl.length).drop (AY t.bx)
   rw [← lsl g1,List.drop_left,← lbx g2,List.drop_left,lsl g1,lbx g2] at JN
   exact (cX t.g i JN).symm
  have hu:aI s.G.length (t.pV v)=true:=by
   rw [Sc,t.ps.HU _ hv]
   exact t.ps.EX _ k5 _
  rw [← Sc] at hw hex
  have TV:∃ xa xb xc,t.pV v=xa++(xb++xc)∧cK la xa∧cK lb xb∧cK lc xc∧xa.length=la.length∧xb.length=lb.length∧IW lc xc:=by
   obtain ⟨xa,r,h1,h2,h3,h4⟩:=hw.split
   obtain ⟨xb,xc,rfl,h6,h7,h8⟩:=h3.split
   rw [h1] at hex
   obtain ⟨ya,yr,g1,_,g3,g4⟩:=hex.split
   obtain ⟨_,rfl⟩:=List.append_inj g1 (by rw [h4,g4])
   obtain ⟨yb,yc,k1,_,k3,k4⟩:=g3.split
   obtain ⟨_,rfl⟩:=List.append_inj k1 (by rw [h8,k4])
   exact ⟨xa,xb,xc,h1,h2,h6,h7,h4,h8,k3⟩
  obtain ⟨xa,xb,xc,hx,wa,wb,wc,la1,lb1,exc⟩:=TV
  have hu':aI s.G.length xa=true∧aI s.G.length xb=true∧aI s.G.length xc=true:=by
   rw [hx,fm,fm] at hu
   simp only [Bool.and_eq_true] at hu
   exact ⟨hu.1,hu.2.1,hu.2.2⟩
  have e1:(t.pV v).drop t.sl.length=xb++xc:=by rw [hx,← lsl g1,← la1,List.drop_left]
  have e2:(xb++xc).drop (AY t.bx)=xc:=by rw [← lbx g2,← lb1,List.drop_left]
  have sI:wS s.G.length t.g xc:=by
   have hf:=((aP.CN s.G.length _ t.ps v).drop t.sl.length).drop (AY t.bx) (l:=(t.pV v).drop t.sl.length)
   rw [e1,e2] at hf
   exact fy t.g k7 hf
  have old:∀ {l:List AV} {cs:List Value},aM R w l cs→aI s.G.length l=true:=fun hr=>hr.under (by omega)
  have mv:=oL R' s.G.length
  have hbx:∀ k cs,dv s'.boxes k=some cs→wR R' w' β' k cs:=fun k cs hk=>h.b.box k cs hk
  have bok:∀ k cs,dv (uh t.bx (xb++xc) s.boxes) k=some cs→wR (R'.cut s.G.length) w' β' k cs∧∃ cs',dv s'.boxes k=some cs':=fun k cs hk=>by
   refine CM (K:=fun _=>False) hbx g2 wb hu'.2.1 (fun k cs _ h1 h2=>?_) k cs (fun h=>h) hk
   refine ⟨by rw [Sb]; exact CJ h1 h2 k2,?_⟩
   obtain ⟨⟨vs,el,_,h4,_⟩,_⟩:=h0.b.box k cs h2
   exact old h4
  have stG:(t.st s v).G=dA (t.pV v) t.g s.G xc:=by simp only [cI.st,e1,e2]
  have stB:(t.st s v).boxes=uh t.bx (xb++xc) s.boxes:=by simp only [cI.st,e1]
  have stS:(t.st s v).ah=oK t.WV (oJ t.sl (xa++(xb++xc)) (wO t.W s.ah)):=by simp only [cI.st,hx]
  have ext:Ext R w (R'.cut s.G.length) w':=⟨st.ext.I,st.ext.cell,fun id ro hi=>by
   obtain ⟨lT,h1,h2⟩:=st.ext.obj id ro hi
   exact ⟨lT,jW.2 ⟨by have:=bP hi; omega,h1⟩,h2⟩,st.ext.lp⟩
  refine ⟨⟨⟨?_,fun id go ro h1 h2=>?_,fun i j ri rj b h1 h2=>h.g.inj i j ri rj b (jW.1 h1).2 (jW.1 h2).2,h.g.wf,fun g cs hg=>(h.g.cb g cs hg).move mv (cr _ (E.nX g cs hg)),h.g.lo⟩,?_,?_,?_,?_⟩,?_⟩
  ·rw [stG,cW,k4]
   have:=h.g.len
   have h3:s.G.length≤R'.obj.length:=by
    rcases Nat.lt_or_ge R'.obj.length s.G.length with bV | mF
    ·exfalso
     have hx:R'.obj.length < R.obj.length:=by omega
     obtain ⟨lT,h1,_⟩:=st.ext.obj R'.obj.length R.obj[R'.obj.length] (by rw [bc]; exact List.getElem?_eq_getElem hx)
     have:=bP h1
     omega
    ·exact mF
   simp [ao.cut]
   omega
  ·rw [stG] at h1
   obtain ⟨go',h3,h4⟩:=gS g3 wc exc ⟨sI,k8⟩ hu'.2.2 BJ id go h1
   rcases h4 with h4 | ⟨IU,h5,h4⟩
   ·exact (h.g.obj id go' ro h3 (jW.1 h2).2).gok h4
   ·have bV:=bP h5
    rw [← hlen] at bV
    obtain ⟨Sa,h6⟩:∃ Sa,nth R.obj id=some Sa:=⟨R.obj[id],by rw [bc]; exact List.getElem?_eq_getElem bV⟩
    obtain ⟨lT,h7,h8⟩:=ext.obj id Sa h6
    have:lT=ro:=Option.some.inj (h7.symm.trans h2)
    subst this
    exact gG.lok ext (h0.g.obj id IU Sa h5 h6) h8 (h.g.obj id go' lT h3 (jW.1 h2).2) h4
  ·rw [stB]
   refine ⟨fun k cs hk=>(bok k cs hk).1,fun k k' cs cs' hk iR he=>?_⟩
   obtain ⟨_,c1,zL⟩:=bok k cs hk
   obtain ⟨_,c2,NF⟩:=bok k' cs' iR
   exact h.b.inj k k' c1 c2 zL NF he
  ·rw [stS]
   have hT:wP (R'.cut s.G.length) w' β' (fun _=>False) (oJ t.sl (xa++(xb++xc)) (wO t.W s.ah)) a'.tmps:=by
    refine ui mv h.t g1 (l':=xa) (r:=lb++lc) (r':=xb++xc) (wa.append (wb.append wc)) la1.symm hu'.1 (wQ fun i hi hn=>?_)
    have hi1:WW t.sl t.W i=false:=by
     simp only [WW,Bool.or_eq_false_iff]
     refine ⟨?_,?_⟩
     ·cases hc:Nc t.sl i with
      | false=>rfl
      | true=>exact absurd (.inr (.inl (AZ.1 hc))) hi
     ·cases hc:Nc t.W i with
      | false=>rfl
      | true=>exact absurd (.inl (AZ.1 hc)) hi
    have hk:=A1 hi1 k1
    rw [← yL] at hk
    obtain ⟨c,h1,h2⟩:=h.t i (by rw [hk]; exact hn)
    rw [hk] at h2
    refine ⟨c,h1,?_⟩
    obtain ⟨c0,_,h4⟩:=h0.t i hn
    revert h2 h4
    cases lk s.ah i with
    | none=>exact fun _ _=>trivial
    | lp k off=>exact fun h2 _=>h2
    | v x=>exact fun h2 h4=>Rel.move mv (Rel.under (by omega) h4) h2
   exact uk h.t k6 (fun i hi=>hT i (fun h=>h) hi)
  ·show a'.tmps.size=s.n
   rw [h.n,hs.n]
  ·show pT _ s.marks a'.defers
   have:=h.d
   rw [k3] at this
   exact this.cut fun id hid=>by have:=h0.d.ids id hid; omega
  ·refine ⟨ext,st.os,st.tape,st.output,st.size,st.bE,fun b hb ho=>st.own b hb ?_,st.im⟩
   rcases ho with ho | ⟨k,cs,hk,rfl⟩
   ·exact .inl (CL ho)
   ·rw [stB] at hk
    obtain ⟨_,c1,zL⟩:=bok k cs hk
    exact .inr ⟨k,c1,zL,rfl⟩
 ·cases hd
end BL
end Go.Am
namespace Go.Am
open Go
def gZ:bj→bj
 | []=>[]
 | .put d (.lp _ _) :: l=>.put d .none :: gZ l
 | .put d x :: l=>.put d x :: gZ l
 | .kill _ :: l=>gZ l
def SV.yP:SV→SV
 | .lp _ _=>.none
 | x=>x
theorem tf (t:Nat):∀ l:bj,lk (gZ l) t=(lk l t).yP
 | []=>rfl
 | .put d x :: l=>by
  cases x <;> simp only [gZ] <;> by_cases e:d=t <;> first | (subst e; rw [aD,aD]; rfl) | (rw [aR e,aR e]; exact tf t l)
 | .kill d :: l=>by
  simp only [gZ,lk]
  rw [tf t l]
  cases lk l t with
  | lp k off=>
   by_cases e:k=d
   ·subst e; simp [SV.yP]
   ·simp [mO e,SV.yP]
  | _=>rfl
theorem np:∀ l:bj,FR (gZ l)=true
 | []=>rfl
 | .put d x :: l=>by
  cases x <;> simp only [gZ,FR] <;> exact np l
 | .kill d :: l=>by simp only [gZ]; exact np l
def rfQ (E:Env) (Q:Exit→St→Prop) (s:St) (G':List GO):Prop:=
 match nth G' (s.G.length+1) with
 | some (.loop busy pending _ _ _ _ _ _ _ done)=>(busy=false∨done=true) ∧
  match pending with
  | none=>Q .normal ⟨s.ah,s.boxes,aB G' (s.G.length+1) .dead,s.G.length :: s.marks,s.ro,s.n⟩
  | some c=>fK E c Q ⟨s.ah,s.boxes,aB G' (s.G.length+1) .dead,s.G.length :: s.marks,s.ro,s.n⟩
 | _=>False
theorem EY {busy done:Bool} (h:busy=false∨done=true):(if done=true then LoopState.done else if busy=true then LoopState.busy else LoopState.ready)≠LoopState.busy:=by
 rcases h with rfl | rfl
 ·cases done <;> simp
 ·simp
theorem fK.rangeFunc {E:Env} {Q:Exit→St→Prop} {s:St} (fp:Nat) {g:Operand} {ps:Array Tmp} {assign body:Code} (bR:s.ro=none) {f:FuncId} {first cap:List AV} (hg:bI E s.ah g=.v (.fn f first cap))
  (h:cw E f (first++[.yield (s.G.length+1)]++cap) (s.G++[.defers true]++[.loop false none fp (gZ s.ah) s.n ps.toList assign body s.G.length false]) (fun _ G'=>rfQ E Q s G')) :
  fK E (.rangeFunc g ps assign body) Q s:=fun R w β a F hr hf=>by
 rw [bR] at hf
 have XX:F=Fence.wide:=hf
 subst XX
 refine wpIn_rangeFunc fun fn _=>?_
 have rg:=aU hr g
 rw [hg] at rg
 have rg':Rel R w (.fn f first cap) (a.eval g):=rg
 -- the block for the deferred calls
 have Jz:gG (R.add (.b7 w.heap.size)) (w.alloc (.deferred (some []))) (.defers true) (.b7 w.heap.size):=heap_alloc_new w _
 have h1:=hr.lC (.deferred (some [])) (.defers true) (.b7 w.heap.size) (by exact fun _ h=>h) Jz
 have s1:=cV hr (.deferred (some [])) (.b7 w.heap.size) (by exact fun _ h=>h)
 have eC:(w.alloc (.deferred (some []))).heap.size=w.heap.size+1:=by simp
 generalize hw1:w.alloc (.deferred (some []))=w1 at *
 generalize hR1:R.add (.b7 w.heap.size)=R1 at *
 -- the loop's record
 let uP:Loop:={ state:=.ready,pending:=none,fn:=fn,tmps:=a.tmps,params:=ps,assign:=assign,body:=body,defers:=w.heap.size }
 have Jk:nth R1.obj s.G.length=some (.b7 w.heap.size):=by rw [← hR1]; exact fZ hr _
 have e2:Ext R1 w1 (R1.add (.b7 w1.heap.size)) (w1.alloc (.loop uP)):=gQ h1.g.wf _ _
 have X1:gG (R1.add (.b7 w1.heap.size)) (w1.alloc (.loop uP)) (.loop false none fp (gZ s.ah) s.n ps.toList assign body s.G.length false) (.b7 w1.heap.size):=by
  refine ⟨⟨uP,w.heap.size,heap_alloc_new w1 _,rfl,rfl,fun i hi=>?_,hr.n,by simp [uP],rfl,rfl,rfl,e2.b7 Jk⟩,np _⟩
  rw [tf] at hi ⊢
  have cP:lk s.ah i≠.none:=fun e=>hi (by rw [e]; rfl)
  obtain ⟨c,k1,k2⟩:=hr.t i cP
  refine ⟨c,k1,?_⟩
  cases hx:lk s.ah i with
  | none=>exact absurd hx cP
  | lp k off=>rw [hx] at hi; exact absurd rfl hi
  | v x=>
   rw [hx] at k2
   exact Rel.mono (s1.ext.trans e2) (show Rel R w x c from k2)
 have h2:=h1.lC (.loop uP) (.loop false none fp (gZ s.ah) s.n ps.toList assign body s.G.length false) (.b7 w1.heap.size) (by exact fun _ h=>h) X1
 have s2:=cV h1 (.loop uP) (.b7 w1.heap.size) (by exact fun _ h=>h)
 have Yk:nth (R1.add (.b7 w1.heap.size)).obj (s.G.length+1)=some (.b7 w1.heap.size):=by
  have:=fZ h1 (.b7 w1.heap.size)
  simpa [St.dN] using this
 have st:=s1.trans s2
 generalize hR2:R1.add (.b7 w1.heap.size)=R2 at *
 generalize X5:a.eval g=fv at rg'
 cases rg' with
 | @fn _ _ _ vs us q1 q2=>
 refine ⟨w.heap.size+1,[{ target:=.collected w.heap.size,args:=#[] }],w1.alloc (.loop uP),{ target:=.fn (.func f) ⟨us⟩,args:=⟨vs⟩++#[.func (.yield (w.heap.size+1)) #[] #[]] },w1.alloc (.loop uP),f,
  ⟨vs++[.func (.yield (w.heap.size+1)) #[] #[]]++us⟩,w1.alloc (.loop uP),?_,?_,?_,?_,?_,?_⟩
 ·have:Fence.wide.round=none:=rfl
  rw [this,run_enterLoop_outer,hw1]
 ·simp only [resolve,X5,Deferred.ofValue,Sem.run_pure]
  simp [Act.eval]
 ·intro f' _
  exact trivial
 ·have:=mY (P:=E.P) h.1 (⟨vs++[.func (.yield (w.heap.size+1)) #[] #[]]++us⟩) (w1.alloc (.loop uP))
  simpa [invoke] using this
 ·intro hc; cases hc
 ·have hG:(s.dN (.defers true)).dN (.loop false none fp (gZ s.ah) s.n ps.toList assign body s.G.length false)=s.b9 (s.G++[.defers true]++[.loop false none fp (gZ s.ah) s.n ps.toList assign body s.G.length false]):=rfl
  have WY:Rel R2 (w1.alloc (.loop uP)) (.yield (s.G.length+1)) (.func (.yield (w.heap.size+1)) #[] #[]):=by
   rw [← eC]
   exact .yield Yk
  refine (h.2 R2 (w1.alloc (.loop uP)) _ h2.g ((((q1.mono st.ext).append (.one WY)).append (q2.mono st.ext)))).mono ?_
  intro e w3 he
  cases e with
  | panicked c=>exact he.elim
  | outgrown=>exact he.elim
  | returned c=>
   obtain ⟨r,G',R3,hQ,dZ,hg3,st3⟩:=he
   obtain ⟨p1,p2⟩:=h2.s8 hg3 st3
   unfold rfQ at hQ
   split at hQ
   ·rename_i busy pending ff sl nn pp rQ bd dd done TW
    obtain ⟨hbd,hQ⟩:=hQ
    have Yl:nth R3.obj (s.G.length+1)=some (.b7 w1.heap.size):=st3.ext.b7 Yk
    obtain ⟨⟨r3,db,l1,l2,l3,_,_,_,_,_,_,_⟩,_⟩:=p1.g.obj _ _ _ TW Yl
    have TX:r3.state≠.busy:=by rw [l2]; exact EY hbd
    have l1':w3.heap[w.heap.size+1]?=some (.loop r3):=by rw [← eC]; exact l1
    refine ⟨r3.pending,_,run_endLoop l1' TX,?_⟩
    rw [l3]
    -- the record is dead
    have Ym:nth R3.obj s.G.length=some (.b7 w.heap.size):=st3.ext.b7 (by rw [← hR2] at e2 ⊢; exact e2.b7 Jk)
    have key:∀ x:Obj,pt x→(∀ r,Obj.loop r3=.loop r→∃ r',x=.loop r'∧rq r r')→bn E R3 (World.put w3 w1.heap.size x) β ⟨s.ah,s.boxes,aB G' (s.G.length+1) .dead,s.G.length :: s.marks,s.ro,s.n⟩ { a with defers:=[{ target:=.collected w.heap.size,args:=#[] }]++a.defers }∧Step R w β s.boxes R3 (World.put w3 w1.heap.size x) β s.boxes:=fun x hx hlx=>by
     obtain ⟨z1,z2⟩:=p1.setObj (x':=x) (go':=.dead) Yl l1 trivial hx hlx (show w1.heap.size < _ by simp [World.put]; exact bl l1)
     exact ⟨⟨z1.g,z1.b,z1.t,z1.n,⟨⟨w.heap.size,Ym,rfl⟩,z1.d⟩⟩,(st.trans p2).trans z2⟩
    obtain ⟨z1,z2⟩:=key (.loop { r3 with state:=.exhausted,pending:=pending }) trivial (fun r e=>⟨_,rfl,by cases e; exact ⟨rfl,rfl,rfl,rfl,rfl⟩⟩)
    rw [eC] at z1 z2
    cases pending with
    | none=>exact ⟨_,R3,β,hQ,z1,z2,rfl⟩
    | some c=>
     refine wpIn_mono (hQ R3 _ β _ Fence.wide z1 (by show bT R3 s.ro Fence.wide; rw [bR]; rfl)) ?_
     rintro e a'' RR ⟨B4,No,WQ,TB,AM,tY,zz⟩
     exact ⟨B4,No,WQ,TB,AM,z2.trans tY,zz⟩
   ·exact hQ.elim
def EZ (id:Nat) (Q:Bool→List GO→Prop):Exit→St→Prop:=fun e s=>match nth s.G id with
 | some (.loop _ _ fn sl n ps rQ bd d _)=>match e with
  | .normal=>Q true (aB s.G id (.loop false none fn sl n ps rQ bd d false))
  | .ret=>Q false (aB s.G id (.loop false (some .ret) fn sl n ps rQ bd d true))
  | .exit i=>Q false (aB s.G id (.loop false (some (.exit i)) fn sl n ps rQ bd d true))
  | _=>False
 | _=>False
def A2 (E:Env) (id:Nat) (body:Code) (Q:Bool→List GO→Prop):Exit→St→Prop:=fun e s=>match e with
 | .normal=>match nth s.G id with
  | some (.loop false p fn sl n ps rQ bd d false)=>fK E body (EZ id Q) (s.b9 (aB s.G id (.loop true p fn sl n ps rQ bd d false)))
  | _=>False
 | _=>False
def wV:List Tmp→List AV→bj→bj
 | t :: ts,a :: l,r=>wV ts l (.put t (.v a) :: r)
 | _,_,r=>r
def St.round (id:Nat) (ah:bj) (n:Nat) (G:List GO):St:=⟨ah,[],G,[],some id,n⟩
theorem wW {R:ao} {w:World} {β:Nat→Nat}:∀ {ts:List Tmp} {l:List AV} {cs:List Value} {r:bj} {tmps:Array Value},nZ R w β r tmps→aM R w l cs→l.length=ts.length→(∀ t∈ts,t < tmps.size) →
  nZ R w β (wV ts l r) ((ts.zip cs).foldl (fun tmps (t,a)=>tmps.setIfInBounds t a) tmps)
 | [],[],_,_,_,h,.nil,_,_=>h
 | t :: ts,a :: l,c :: cs,r,tmps,h,.cons hx hl,hlen,ht=>by
  have eC:t < tmps.size:=ht t (by simp)
  simp only [wV,List.zip_cons_cons,List.foldl_cons]
  refine wW ?_ hl (by simpa using hlen) (fun t' h'=>by simpa using ht t' (by simp [h']))
  have:=nZ.put (a:={ tmps:=tmps,defers:=[] }) h (d:=t) (x:=.v a) (c:=c) eC hx
  simpa [Act.put] using this
 | [],_ :: _,_,_,_,_,_,hlen,_=>by simp at hlen
 | _ :: _,[],_,_,_,_,_,hlen,_=>by simp at hlen
theorem E0 (l:List (Tmp × Value)):∀ tmps:Array Value,(l.foldl (fun (tmps:Array Value) (x:Tmp × Value)=>tmps.setIfInBounds x.1 x.2) tmps).size=tmps.size:=by
 induction l with
 | nil=>intro _; rfl
 | cons x l ih=>intro tmps; rw [List.foldl_cons,ih]; simp
theorem kj.intro {E:Env} {id:Nat} {args:List AV} {G:List GO} {Q:Bool→List GO→Prop} {fn:FuncId} {ah:bj} {n:Nat} {ps:List Tmp} {assign body:Code} {d:Nat} {p:Option Code}
  (hG:nth G id=some (.loop false p fn ah n ps assign body d false)) (hl:args.length=ps.length) (IS:∀ t∈ps,t < n)
  (h:fK E assign (A2 E id body Q) (St.round id (wV ps args ah) n G)):kj E id args G Q:=fun R w cs b hg hr hb=>by
 obtain ⟨⟨r,db,l1,l2,l3,l4,l5,l6,l7,l8,l9,l10⟩,l11⟩:=hg.obj id _ _ hG hb
 have hlen:=hr.length
 refine ⟨r,l1,by rw [l6]; simp; omega,?_⟩
 have abP:Step R w (fun _=>0) fa R w (fun _=>0) fa:=Step.refl _ _ _ _
 have abQ:bn E R w (fun _=>0) (St.round id (wV ps args ah) n G) { tmps:=(r.params.zip ⟨cs⟩).foldl (fun tmps (t,a)=>tmps.setIfInBounds t a) r.tmps,defers:=[] }:=by
  have Yn:(r.params.zip ⟨cs⟩).foldl (fun (tmps:Array Value) (x:Tmp × Value)=>tmps.setIfInBounds x.1 x.2) r.tmps=(ps.zip cs).foldl (fun (tmps:Array Value) (x:Tmp × Value)=>tmps.setIfInBounds x.1 x.2) r.tmps:=by
   rw [← Array.foldl_toList]
   simp [l6]
  refine ⟨hg,⟨fun k cs hk=>?_,fun k k' c c' hk=>?_⟩,?_,?_,trivial⟩
  ·simp [St.round,dv] at hk
  ·simp [St.round,dv] at hk
  ·show nZ _ _ _ _ _
   have:=wW (ts:=ps) (l:=args) (cs:=cs) l4 hr hl (fun t ht=>by rw [l5]; exact IS t ht)
   rw [← Yn] at this
   exact this
  ·show _=n
   have:=E0 (ps.zip cs) r.tmps
   rw [← Yn] at this
   exact this.trans l5
 have Tx:∀ (k:Nat) (cs:List AV),dv (St.round id (wV ps args ah) n G).boxes k≠some cs:=fun k cs hk=>by simp [St.round,dv] at hk
 rw [l7,l8]
 refine roundIn_of_wpIn trivial (wpIn_mono (h R w (fun _=>0) _ (Fence.wide.inRound b) abQ ⟨b,hb,rfl⟩) ?_)
 rintro e a1 w1 ⟨s1,R1,β1,hq,vT,st1,abR⟩
 unfold A2 at hq
 cases e with
 | normal=>
  simp only at hq
  split at hq
  ·rename_i p' Yh WT n' Yi NR WX d' hG1
   have HL:nth R1.obj id=some (.b7 b):=st1.ext.b7 hb
   obtain ⟨⟨r1,db1,m1,m2,m3,m4,m5,m6,m7,m8,m9,m10⟩,m11⟩:=vT.g.obj id _ _ hG1 HL
   refine ⟨_,run_beginRound m1 m2,?_⟩
   obtain ⟨z1,z2⟩:=vT.setObj (x':=.loop { r1 with state:=.busy }) (go':=.loop true p' Yh WT n' Yi NR WX d' false) HL m1 trivial trivial (fun r e=>⟨_,rfl,by cases e; exact ⟨rfl,rfl,rfl,rfl,rfl⟩⟩)
    ⟨⟨{ r1 with state:=.busy },db1,gK _ _ _ (bl m1),rfl,m3,m4.mono (mT (x':=.loop { r1 with state:=.busy }) m1 trivial trivial (fun r e=>⟨_,rfl,by cases e; exact ⟨rfl,rfl,rfl,rfl,rfl⟩⟩)),m5,m6,m7,m8,m9,m10⟩,m11⟩
   refine wpIn_mono (hq R1 _ β1 a1 (Fence.wide.inRound b) z1 (by show bT R1 s1.ro _; rw [abR]; exact ⟨b,HL,rfl⟩)) ?_
   rintro e2 a2 w2 ⟨s2,R2,β2,od,Ci,st2,HW⟩
   unfold EZ at od
   split at od
   ·rename_i bu2 p2 fn2 sl2 n2 ps2 as2 bd2 d2 dn2 X7
    have Yo:=(st1.trans z2).trans st2
    have IV:nth R2.obj id=some (.b7 b):=Yo.ext.b7 hb
    obtain ⟨⟨r2,db2,o1,o2,o3,o4,o5,o6,o7,o8,o9,CP⟩,nT⟩:=Ci.g.obj id _ _ X7 IV
    have fin:∀ (j:Option Code),AN E R w (fun b' G'=>G'=aB s2.G id (.loop false j fn2 sl2 n2 ps2 as2 bd2 d2 (!j.isNone))∧b'=j.isNone) (.returned (.bool j.isNone)) (w2.putObj b (.loop { r2 with state:=if j.isNone then .ready else .done,pending:=j })):=fun j=>by
     obtain ⟨y1,y2⟩:=Ci.setObj (x':=.loop { r2 with state:=if j.isNone then .ready else .done,pending:=j }) (go':=.loop false j fn2 sl2 n2 ps2 as2 bd2 d2 (!j.isNone)) IV o1 trivial trivial (fun r e=>⟨_,rfl,by cases e; exact ⟨rfl,rfl,rfl,rfl,rfl⟩⟩)
      ⟨⟨{ r2 with state:=if j.isNone then .ready else .done,pending:=j },db2,gK _ _ _ (bl o1),by cases j <;> rfl,rfl,o4.mono (mT (x':=.loop { r2 with state:=if j.isNone then .ready else .done,pending:=j }) o1 trivial trivial (fun r e=>⟨_,rfl,by cases e; exact ⟨rfl,rfl,rfl,rfl,rfl⟩⟩)),o5,o6,o7,o8,o9,CP⟩,nT⟩
     exact ⟨_,_,R2,⟨rfl,rfl⟩,rfl,y1.g,we (Yo.trans y2) Tx⟩
    have mk:∀ (j:Option Code),Q j.isNone (aB s2.G id (.loop false j fn2 sl2 n2 ps2 as2 bd2 d2 (!j.isNone)))→∃ v w',(Instr.endRound b j).run E.P w2=.ok v w'∧AN E R w Q (.returned v) w':=fun j hQ=>by
     refine ⟨_,_,run_endRound j o1,?_⟩
     obtain ⟨r',G',R',⟨h1,h2⟩,h3⟩:=fin j
     subst h1; subst h2
     exact ⟨_,_,R',hQ,h3⟩
    cases e2 with
    | normal=>exact mk none od
    | ret=>exact mk (some .ret) od
    | exit i=>exact mk (some (.exit i)) od
    | _=>exact od.elim
   ·exact od.elim
  ·exact hq.elim
 | _=>exact hq.elim
end Go.Am
namespace Go.Am
open Go
section
variable {E:Env} {R R':ao} {w w':World} {β β':Nat→Nat} {s s':St} {a a':Act}
def aY (E:Env) (g:FuncId) (args:List AV) (Q:AV→Prop):Prop:=∀ G,cw E g args G (fun r G'=>G'=G∧Q r)
theorem aY.mono {g:FuncId} {args:List AV} {Q Q':AV→Prop} (h:aY E g args Q) (hq:∀ r,Q r→Q' r):aY E g args Q':=
 fun G=>(h G).mono fun r _ hh=>⟨hh.1,hq r hh.2⟩
theorem aY.of {g:FuncId} {args:List AV} {p:aT} {Q:p.T→Prop} (hc:aI 0 args=true) (hp:p.under 0=true)
  (h:cw E g args [] (fun r _=>∃ y,p.dec r=some y∧Q y)):aY E g args (fun r=>∃ y,r=p.enc y∧Q y):=fun G=>by
 refine ⟨h.1,fun R w cs hg hl=>?_⟩
 let R0:ao:=⟨R.I,[]⟩
 have m0:Mv R R0 0:=⟨fun _ _ h=>h,fun _ _ h=>absurd h (Nat.not_lt_zero _)⟩
 have M4:dz E R0 w []:=⟨rfl,fun id go ro h1 _=>by simp [nth] at h1,fun i j ri rj b h1=>by simp [R0,nth] at h1,hg.wf,fun g cs qx=>(hg.cb g cs qx).move m0 (cr _ (E.nX g cs qx)),hg.lo⟩
 have sV:aM R0 w args cs:=hl.move m0 hc
 refine (h.2 R0 w cs M4 sV).mono fun e w' he=>?_
 cases e with
 | panicked c=>exact he.elim
 | outgrown=>exact he.elim
 | returned c=>
  obtain ⟨r,G',R1,⟨y,hy,hQ⟩,dZ,NS,st⟩:=he
  have jm:∀ b,¬ Own R0 (fun _=>0) fa b:=fun b ho=>by
   obtain ⟨id,ro,h1,_⟩:=eJ ho
   simp [R0,nth] at h1
  let R2:ao:=⟨R1.I,R.obj⟩
  have e:Ext R w R2 w':=⟨st.ext.I,st.ext.cell,fun id ro h=>⟨ro,h,cD.refl ro⟩,st.ext.lp⟩
  have bE:∀ b,b < w.heap.size→w'.heap[b]?=w.heap[b]?:=fun b hb=>st.bE b hb (jm b)
  have im:∀ b o,b < w.heap.size→R1.I b o→R.I b o:=fun b o hb hi=>st.im b o hi hb (jm b)
  have hd:=p.qu hy
  have m:Mv R1 R2 0:=⟨fun _ _ h=>h,fun _ _ h=>absurd h (Nat.not_lt_zero _)⟩
  refine ⟨p.enc y,G,R2,⟨rfl,y,rfl,hQ⟩,Rel.move m (p.dD y hp) (hd.gD _ _ _ dZ),⟨hg.len,fun id go ro h1 h2=>?_,hg.inj,NS.wf,fun g cs qx=>(hg.cb g cs qx).mono e,NS.lo⟩,⟨e,st.os,st.tape,st.output,st.size,fun b hb _=>bE b hb,fun b _ ho=>?_,fun b o hi hb _=>im b o hb hi⟩⟩
  ·refine (hg.obj id go ro h1 h2).mono e (fun b hb=>bE b ?_) (fun b o hb hi=>im b o ?_ hi)
   ·exact (hg.obj id go ro h1 h2).lt hb
   ·exact (hg.obj id go ro h1 h2).lt hb
  ·exact ho
theorem fK.abX {c:Code} {Q Q':Exit→St→Prop} (h:fK E c (fun e s'=>aV s s'∧Q' e s') s)
  (hq:∀ e s',Q' e s'→∃ (t:cI) (v:t.ps.T),t.dec s s'=some v∧Q e (t.st s v)):fK E c Q s:=fun R w β a F hr hf=>by
 refine wpIn_mono (h R w β a F hr hf) ?_
 rintro e a' w' ⟨s',R',β',⟨hx,hq'⟩,lD,kT,bR⟩
 obtain ⟨t,v,hd,hQ⟩:=hq e s' hq'
 obtain ⟨h1,h2⟩:=cI.BL hx hr lD kT hd
 exact ⟨_,_,β',hQ,h1,h2,rfl⟩
theorem fK.gY {c:Code} {Q:Exit→St→Prop} {l:List (Loc × Nat × TypeId)} (hs:Am.gY l s=some s') (h:fK E c Q s'):fK E c Q s:=fun R w β a F hr hf=>by
 obtain ⟨R1,k1,k2,k3,_⟩:=ki hr hs
 refine wpIn_mono (h R1 w β a F k1 (by rw [k3]; exact hf.mono k2.ext)) ?_
 rintro e a' w' ⟨s2,R2,β2,hq,Ci,st2,HW⟩
 exact ⟨s2,R2,β2,hq,Ci,k2.trans st2,HW.trans k3⟩
end
end Go.Am
