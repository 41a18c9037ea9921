/- The abstract machine: what is asked of bodies; values are brought to a short form. -/
import Derived.Test.YtldcljfjjoidhaaGreatDoorAmKH
import Derived.RangeFuncIn
import Derived.RangeFuncRecord
set_option linter.all false
namespace Go.Am
open Go
def bj (dt:Nat→Option af):Code→Bool
 | .region id ops true=>match dt id with
  | some p=>Cl ops p
  | none=>false
 | .seq x y=>bj dt x&&bj dt y
 | .cond _ x y=>bj dt x&&bj dt y
 | .block _ c=>bj dt c
 | .loop c=>bj dt c
 | .scope c=>bj dt c
 | .rangeFunc _ _ a b=>bj dt a&&bj dt b
 | _=>true
structure EI extends Env where
 dt:FuncId→Nat→Option af
 okF:FuncId→Bool
 Nk:∀ f fn c,okF f=true→P.funcs[f]?=some fn→fn.body=some c→bj (dt f) c=true
def hY {α:Type} (n:Nat) (K:Nat→α):α:=match n with
 | 0=>K 0
 | m+1=>K (Nat.succ m)
def uu {α:Type} (n:Int) (K:Int→α):α:=match n with
 | .ofNat m=>hY m fun m=>K (.ofNat m)
 | .negSucc m=>hY m fun m=>K (.negSucc m)
def mL {α β:Type}:List β→(List β→α)→α
 | [],K=>K []
 | a :: l,K=>mL l fun l=>K (a :: l)
def yh {α:Type} (v:AV) (K:AV→α):α:=match v with
 | .int k n=>uu n fun n=>K (.int k n)
 | .bool true=>K (.bool true)
 | .bool false=>K (.bool false)
 | .list k sz es=>mL es fun es=>K (.list k sz es)
 | .str l=>mL l fun l=>K (.str l)
 | .iL id off sz len cap=>hY off fun off=>hY len fun len=>hY cap fun cap=>K (.iL id off sz len cap)
 | .ptr id off=>hY off fun off=>K (.ptr id off)
 | .agg cs=>mL cs fun cs=>K (.agg cs)
 | v=>K v
def yi {α:Type} (l:aT) (K:aT→α):α:=match l with
 | .put d (.v a) :: l=>yh a fun a=>K (.put d (.v a) :: l)
 | .put d (.lp k off) :: l=>hY off fun off=>K (.put d (.lp k off) :: l)
 | l=>K l
def yj {α:Type} (l:b8) (K:b8→α):α:=match l with
 | (d,cs) :: l=>mL cs fun cs=>K ((d,cs) :: l)
 | []=>K []
def Cm {α:Type} (s:St) (K:St→α):α:=match s with
 | ⟨sl,bx,G,m,ro,n⟩=>yi sl fun sl=>yj bx fun bx=>mL G fun G=>K ⟨sl,bx,G,m,ro,n⟩
theorem mM {α:Type} (n:Nat) (K:Nat→α):hY n K=K n:=by cases n <;> rfl
theorem Al {α:Type} (n:Int) (K:Int→α):uu n K=K n:=by cases n <;> simp [uu,mM]
theorem nB {α β:Type}:∀ (l:List β) (K:List β→α),mL l K=K l
 | [],_=>rfl
 | a :: l,K=>by simp only [mL]; rw [nB]
theorem Cn {α:Type} (v:AV) (K:AV→α):yh v K=K v:=by
 unfold yh
 split <;> simp [mM,Al,nB]
theorem Co {α:Type} (l:aT) (K:aT→α):yi l K=K l:=by
 unfold yi
 split <;> simp [mM,Cn]
theorem Cp {α:Type} (l:b8) (K:b8→α):yj l K=K l:=by
 unfold yj
 split <;> simp [nB]
theorem EJ {α:Type} (s:St) (K:St→α):Cm s K=K s:=by
 obtain ⟨sl,bx,G,m,ro,n⟩:=s
 simp [Cm,Co,Cp,nB]
def yk:SV→SV→Bool
 | .v a,.v b=>dp a b
 | .lp k o,.lp k' o'=>Nat.beq k k'&&Nat.beq o o'
 | _,_=>false
def UN (E:Env) (f:FuncId) (ops:List Oper) (o:Oper) (s:St):Bool:=match zl ops s o with
 | some true=>match o.dst,ap E f s o with
  | some d,some (c,s')=>c&&yk (lk s'.ae d) (lk s.ae d)
  | _,_=>false
 | some false=>true
 | none=>false
section
variable {E:Env} {f:FuncId} {s:St}
theorem wV {a b:SV} (h:yk a b=true):a=b:=by
 unfold yk at h
 split at h
 ·rw [gW h]
 ·simp only [Bool.and_eq_true,Nat.beq_eq] at h; rw [h.1,h.2]
 ·cases h
theorem wW {ops:List Oper} {o:Oper} (h:UN E f ops o s=true):Cc E f ops o s:=by
 unfold UN at h
 unfold Cc
 split at h
 ·rename_i hg
  rw [hg]
  simp only
  split at h
  ·rename_i d c s' hd hs
   rw [Bool.and_eq_true] at h
   obtain ⟨rfl,h⟩:=h
   rw [hd,hs]
   exact ⟨rfl,wV h⟩
  ·cases h
 ·rename_i hg
  rw [hg]
  trivial
 ·cases h
end
end Go.Am
namespace Go.Am
open Go
mutual
def AV.under (n:Nat):AV→Bool
 | .agg cs=>aA n cs
 | .aX cs=>aA n cs
 | .ep cs=>aA n cs
 | .list (.own id) _ _=>Nat.blt id n
 | .list (.aU id _) _ _=>Nat.blt id n
 | .fn _ x y=>aA n x&&aA n y
 | .iface _ v=>v.under n
 | .ptr id _=>Nat.blt id n
 | .iL id _ _ _ _=>Nat.blt id n
 | .dC id _ _ _ _=>Nat.blt id n
 | .gp id _ _ _ _ _=>Nat.blt id n
 | .map id=>Nat.blt id n
 | .yield id=>Nat.blt id n
 | _=>true
def aA (n:Nat):List AV→Bool
 | []=>true
 | a :: l=>a.under n&&aA n l
end
mutual
theorem gu (n:Nat):∀ {a:AV},a.closed=true→a.under n=true:=fun {a} h=>by
 cases a with
 | agg cs=>simp only [AV.closed,AV.under] at *; exact bS n h
 | aX cs=>simp only [AV.closed,AV.under] at *; exact bS n h
 | ep cs=>simp only [AV.closed,AV.under] at *; exact bS n h
 | list k sz es=>cases k <;> simp_all [AV.closed,AV.under,LK.closed]
 | fn f x y=>
  simp only [AV.closed,AV.under,Bool.and_eq_true] at *
  exact ⟨bS n h.1,bS n h.2⟩
 | iface t v=>simp only [AV.closed,AV.under] at *; exact gu n h
 | _=>simp_all [AV.closed,AV.under]
theorem bS (n:Nat):∀ {l:List AV},aS l=true→aA n l=true
 | [],_=>rfl
 | a :: l,h=>by
  simp only [aS,aA,Bool.and_eq_true] at *
  exact ⟨gu n h.1,bS n h.2⟩
end
theorem nC {a b:Nat} (h:Nat.blt a b=true):a < b:=Nat.le_of_ble_eq_true h
mutual
theorem kl:∀ {a:AV},a.under 0=true→a.closed=true:=fun {a} h=>by
 cases a with
 | agg cs=>simp only [AV.closed,AV.under] at *; exact dL h
 | aX cs=>simp only [AV.closed,AV.under] at *; exact dL h
 | ep cs=>simp only [AV.closed,AV.under] at *; exact dL h
 | list k sz es=>cases k <;> first | rfl | (simp [AV.under] at h)
 | fn f x y=>
  simp only [AV.closed,AV.under,Bool.and_eq_true] at *
  exact ⟨dL h.1,dL h.2⟩
 | iface t v=>simp only [AV.closed,AV.under] at *; exact kl h
 | ptr id off=>simp only [AV.under] at h; exact absurd (nC h) (Nat.not_lt_zero _)
 | iL id off sz len cap=>simp only [AV.under] at h; exact absurd (nC h) (Nat.not_lt_zero _)
 | dC id f off sz len=>simp only [AV.under] at h; exact absurd (nC h) (Nat.not_lt_zero _)
 | gp id f i off sz t=>simp only [AV.under] at h; exact absurd (nC h) (Nat.not_lt_zero _)
 | map id=>simp only [AV.under] at h; exact absurd (nC h) (Nat.not_lt_zero _)
 | yield id=>simp only [AV.under] at h; exact absurd (nC h) (Nat.not_lt_zero _)
 | _=>rfl
theorem dL:∀ {l:List AV},aA 0 l=true→aS l=true
 | [],_=>rfl
 | a :: l,h=>by
  simp only [aA,aS,Bool.and_eq_true] at *
  exact ⟨kl h.1,dL h.2⟩
end
section move
variable {R R2:ai} {w:World} {n:Nat}
structure Mv (R R2:ai) (n:Nat):Prop where
 I:∀ b o,R.I b o→R2.I b o
 obj:∀ id ro,id < n→nth R.obj id=some ro→nth R2.obj id=some ro
theorem iI {a b:Nat} (h:Nat.blt a b=true):a < b:=Nat.le_of_ble_eq_true h
theorem jq {a b:Nat} (h:a < b):Nat.blt a b=true:=Nat.ble_eq_true_of_le h
theorem xG.move (m:Mv R R2 n) {k:LK} {b o len cap:Nat} (h:xG R k b o len cap) (hk:∀ id,(k=.own id∨∃ j,k=.aU id j)→id < n):xG R2 k b o len cap:=by
 cases k with
 | nil=>exact h
 | full=>exact h
 | dP=>trivial
 | own id=>obtain ⟨ro,h1,h2⟩:=h; exact ⟨ro,m.obj id ro (hk id (.inl rfl)) h1,h2⟩
 | aU id j=>obtain ⟨ro,h1,h2⟩:=h; exact ⟨ro,m.obj id ro (hk id (.inr ⟨j,rfl⟩)) h1,h2⟩
mutual
theorem Rel.move (m:Mv R R2 n):∀ {a:AV} {c:Value},a.under n=true→Rel R w a c→Rel R2 w a c
 | _,_,_,.bool b=>.bool b
 | _,_,_,.int k i=>.int k i
 | _,_,_,.str l=>.str l
 | _,_,hb,.agg h h1=>.agg (h.move m (by simpa [AV.under] using hb)) h1
 | _,_,hb,.aX h=>.aX (h.move m (by simpa [AV.under] using hb))
 | _,_,_,.gi=>.gi
 | _,_,hb,.ptr h=>.ptr (m.obj _ _ (iI (by simpa [AV.under] using hb)) h)
 | _,_,hb,.ep h=>.ep (h.move m (by simpa [AV.under] using hb))
 | _,_,_,.iB=>.iB
 | _,_,_,.gF=>.gF
 | _,_,_,.kX=>.kX
 | _,_,hb,.kA h ho=>.kA (m.obj _ _ (iI (by simpa [AV.under] using hb)) h) ho
 | _,_,hb,.ka h ho=>.ka (m.obj _ _ (iI (by simpa [AV.under] using hb)) h) ho
 | .list k sz es,_,hb,.list h hl hc hk=>.list (h.move m) hl hc (hk.move m fun id e=>by rcases e with e | ⟨j,e⟩ <;> subst e <;> exact iI (by simpa [AV.under] using hb))
 | _,_,hb,.iL h hc=>.iL (m.obj _ _ (iI (by simpa [AV.under] using hb)) h) hc
 | _,_,hb,.gA h ho=>.gA (m.obj _ _ (iI (by simpa [AV.under] using hb)) h) ho
 | _,_,hb,.dC h ho hc=>.dC (m.obj _ _ (iI (by simpa [AV.under] using hb)) h) ho hc
 | _,_,hb,.gp h ho=>.gp (m.obj _ _ (iI (by simpa [AV.under] using hb)) h) ho
 | _,_,_,.jc=>.jc
 | _,_,hb,.map h=>.map (m.obj _ _ (iI (by simpa [AV.under] using hb)) h)
 | _,_,_,.bX=>.bX
 | _,_,hb,.fn h h'=>.fn (h.move m (by simp only [AV.under,Bool.and_eq_true] at hb; exact hb.1)) (h'.move m (by simp only [AV.under,Bool.and_eq_true] at hb; exact hb.2))
 | _,_,hb,.yield h=>.yield (m.obj _ _ (iI (by simpa [AV.under] using hb)) h)
 | _,_,_,.lY=>.lY
 | _,_,hb,.iface h=>.iface (h.move m (by simpa [AV.under] using hb))
theorem aD.move (m:Mv R R2 n):∀ {l:List AV} {cs:List Value},aD R w l cs→aA n l=true→aD R2 w l cs
 | _,_,.nil,_=>.nil
 | _,_,.cons h t,hb=>by
  simp only [aA,Bool.and_eq_true] at hb
  exact .cons (h.move m hb.1) (t.move m hb.2)
theorem e7.move (m:Mv R R2 n):∀ {b o sz:Nat} {l:List AV},e7 R w b o sz l→e7 R2 w b o sz l
 | _,_,_,_,.nil=>.nil
 | _,_,_,_,@e7.cons _ _ _ _ _ e _ hl ht hk h t=>.cons hl ht hk (h.move m (by
   cases e with
   | agg cs=>exact bS n (show aS cs=true by simpa [AV.closed] using hk)
   | aX cs=>simp [AV.aL] at ht
   | _=>simp only [AV.cells,aA,Bool.and_true]; exact gu n hk)) (t.move m)
theorem cW.move (m:Mv R R2 n):∀ {b o:Nat} {l:List AV},cW R w b o l→aA n l=true→cW R2 w b o l
 | _,_,_,.nil,_=>.nil
 | _,_,_,.cons hc h1 hi h t,hb=>by
  simp only [aA,Bool.and_eq_true] at hb
  exact .cons hc h1 (m.I _ _ hi) (h.move m hb.1) (t.move m hb.2)
end
theorem iD.move {E:Env} (m:Mv R R2 n) {g:Nat} {cs:List AV} (h:iD E R w g cs) (hu:aA n cs=true):iD E R2 w g cs:=
 ⟨h.1.move m hu,fun hx=>⟨m.I _ _ (h.2 hx).1,(h.2 hx).2⟩⟩
mutual
theorem Rel.under (hn:R.obj.length≤n):∀ {a:AV} {c:Value},Rel R w a c→a.under n=true
 | _,_,.bool _ | _,_,.int _ _ | _,_,.str _ | _,_,.gi | _,_,.iB | _,_,.gF | _,_,.kX | _,_,.jc | _,_,.bX | _,_,.lY=>by simp [AV.under]
 | _,_,.agg h _=>by simp only [AV.under]; exact h.under hn
 | _,_,.aX h=>by simp only [AV.under]; exact h.under hn
 | _,_,.ptr h=>by simp only [AV.under]; exact jq (Nat.lt_of_lt_of_le (bu h) hn)
 | _,_,.ep h=>by simp only [AV.under]; exact h.under hn
 | _,_,.kA h _=>by simp only [AV.under]; exact jq (Nat.lt_of_lt_of_le (bu h) hn)
 | _,_,.ka h _=>by simp only [AV.under]; exact jq (Nat.lt_of_lt_of_le (bu h) hn)
 | _,_,@Rel.list _ _ k _ _ _ _ _ _ _ _ _ hk=>by
  cases k with
  | own id=>obtain ⟨ro,h1,_⟩:=hk; simp only [AV.under]; exact jq (Nat.lt_of_lt_of_le (bu h1) hn)
  | aU id j=>obtain ⟨ro,h1,_⟩:=hk; simp only [AV.under]; exact jq (Nat.lt_of_lt_of_le (bu h1) hn)
  | _=>simp [AV.under]
 | _,_,.iL h _=>by simp only [AV.under]; exact jq (Nat.lt_of_lt_of_le (bu h) hn)
 | _,_,.gA h _=>by simp only [AV.under]; exact jq (Nat.lt_of_lt_of_le (bu h) hn)
 | _,_,.dC h _ _=>by simp only [AV.under]; exact jq (Nat.lt_of_lt_of_le (bu h) hn)
 | _,_,.gp h _=>by simp only [AV.under]; exact jq (Nat.lt_of_lt_of_le (bu h) hn)
 | _,_,.map h=>by simp only [AV.under]; exact jq (Nat.lt_of_lt_of_le (bu h) hn)
 | _,_,.fn h h'=>by simp only [AV.under,Bool.and_eq_true]; exact ⟨h.under hn,h'.under hn⟩
 | _,_,.yield h=>by simp only [AV.under]; exact jq (Nat.lt_of_lt_of_le (bu h) hn)
 | _,_,.iface h=>by simp only [AV.under]; exact h.under hn
theorem aD.under (hn:R.obj.length≤n):∀ {l:List AV} {cs:List Value},aD R w l cs→aA n l=true
 | _,_,.nil=>rfl
 | _,_,.cons h t=>by simp only [aA,Bool.and_eq_true]; exact ⟨h.under hn,t.under hn⟩
theorem cW.under (hn:R.obj.length≤n):∀ {b o:Nat} {l:List AV},cW R w b o l→aA n l=true
 | _,_,_,.nil=>rfl
 | _,_,_,.cons _ _ _ h t=>by simp only [aA,Bool.and_eq_true]; exact ⟨h.under hn,t.under hn⟩
end
end move
end Go.Am
namespace Go.Am
open Go
mutual
def an.under (n:Nat):an→Bool
 | .agg ps=>ps.under n
 | .aX ps=>ps.under n
 | .own id _ _=>Nat.blt id n
 | .aU id _ _=>Nat.blt id n
 | .iq v=>v.under n
 | .two u v=>u.under n&&v.under n
 | _=>true
def aF.under (n:Nat):aF→Bool
 | .nil=>true
 | .cons p ps=>p.under n&&ps.under n
end
mutual
theorem an.cM {n:Nat}:∀ (p:an) (x:p.T),p.under n=true→(p.enc x).under n=true
 | .int k,x,_=>by simp [an.enc,AV.under]
 | .bool,x,_=>by simp [an.enc,AV.under]
 | .str,x,_=>by simp [an.enc,AV.under]
 | .agg ps,x,h=>by
  simp only [an.enc,AV.under]
  exact ps.cM x h
 | .aX ps,x,h=>by
  simp only [an.enc,AV.under]
  exact ps.cM x h
 | .list sz p,x,_=>by simp [an.enc,AV.under]
 | .own id sz p,x,h=>by
  simp only [an.enc,AV.under]
  exact h
 | .aU id sz p,x,h=>by
  simp only [an.enc,AV.under]
  exact h
 | .iq v,x,h=>by
  simp only [an.enc]
  exact h
 | .two u v,(x:Bool),h=>by
  simp only [an.under,Bool.and_eq_true] at h
  change AV.under n (bif x then v else u)=true
  cases x
  ·exact h.1
  ·exact h.2
theorem aF.cM {n:Nat}:∀ (ps:aF) (x:ps.T),ps.under n=true→aA n (ps.enc x)=true
 | .nil,x,_=>rfl
 | .cons p .nil,x,h=>by
  simp only [aF.under,Bool.and_true] at h
  simp only [aF.enc,aA,Bool.and_true]
  exact p.cM _ h
 | .cons p (.cons q ps),x,h=>by
  rw [aF.under,Bool.and_eq_true] at h
  simp only [aF.enc,aA,Bool.and_eq_true]
  exact ⟨p.cM _ h.1,(aF.cons q ps).cM _ h.2⟩
end
mutual
def AV.exact:AV→Bool
 | .bool _=>true
 | .int _ _=>true
 | .str _=>true
 | .agg cs=>eQ cs
 | _=>false
def eQ:List AV→Bool
 | []=>true
 | a :: l=>a.exact&&eQ l
end
mutual
theorem an.hZ:∀ (p:an) {a:AV},p.fits a=true→a.exact=true→p.enc (p.bf a)=a
 | .int k,a,h,e=>by
  cases a with
  | int k' n=>have hk:N5 k k'=true:=h; rw [Br hk]; rfl
  | _=>cases h
 | .bool,a,h,e=>by
  cases a with
  | bool b=>rfl
  | _=>cases h
 | .str,a,h,e=>by
  cases a with
  | str b=>rfl
  | _=>cases h
 | .agg ps,a,h,e=>by
  cases a with
  | agg cs=>
   have e':eQ cs=true:=by simpa [AV.exact] using e
   show AV.agg (ps.enc (ps.bf cs))=_
   rw [ps.hZ (show ps.fits cs=true from h) e']
  | _=>cases h
 | .aX ps,a,h,e=>by cases a <;> first | (cases h; done) | simp [AV.exact] at e
 | .list sz p,a,h,e=>by cases a <;> first | (cases h; done) | simp [AV.exact] at e
 | .own id sz p,a,h,e=>by cases a <;> first | (cases h; done) | simp [AV.exact] at e
 | .aU id sz p,a,h,e=>by cases a <;> first | (cases h; done) | simp [AV.exact] at e
 | .iq u,a,h,e=>(gW (show dp a u=true from h)).symm
 | .two u v,a,h,_=>sJ h
theorem aF.hZ:∀ (ps:aF) {l:List AV},ps.fits l=true→eQ l=true→ps.enc (ps.bf l)=l
 | .nil,l,h,_=>by
  cases l with
  | nil=>rfl
  | cons _ _=>cases h
 | .cons p .nil,l,h,e=>by
  cases l with
  | nil=>cases h
  | cons a l=>
   have h':(p.fits a&&l.isEmpty)=true:=h
   simp only [Bool.and_eq_true,List.isEmpty_iff] at h'
   obtain ⟨h1,rfl⟩:=h'
   simp only [eQ,Bool.and_true] at e
   show [p.enc (p.bf a)]=_
   rw [p.hZ h1 e]
 | .cons p (.cons q ps),l,h,e=>by
  cases l with
  | nil=>cases h
  | cons a l=>
   have h':(p.fits a&&(aF.cons q ps).fits l)=true:=h
   rw [Bool.and_eq_true] at h'
   simp only [eQ,Bool.and_eq_true] at e
   show p.enc (p.bf a) :: (aF.cons q ps).enc ((aF.cons q ps).bf l)=_
   rw [p.hZ h'.1 e.1,(aF.cons q ps).hZ h'.2 e.2]
end
mutual
theorem lB:∀ {a:AV},a.exact=true→a.closed=true:=fun {a} h=>by
 cases a with
 | agg cs=>simp only [AV.exact,AV.closed] at *; exact oa h
 | _=>simp_all [AV.exact,AV.closed]
theorem oa:∀ {l:List AV},eQ l=true→aS l=true
 | [],_=>rfl
 | a :: l,h=>by
  simp only [eQ,aS,Bool.and_eq_true] at *
  exact ⟨lB h.1,oa h.2⟩
end
def aj:List (AV × AV)→List AV
 | []=>[]
 | (k,v) :: l=>.agg [k,v] :: aj l
def SL:AV→AV × AV
 | .agg [k,v]=>(k,v)
 | _=>(eE,eE)
def ab:List AV→List (AV × AV)
 | []=>[]
 | a :: l=>SL a :: ab l
def AV.entries:AV→List (AV × AV)
 | .list _ _ es=>ab es
 | _=>[]
theorem lV:∀ l:List (AV × AV),ab (aj l)=l
 | []=>rfl
 | (k,v) :: l=>by simp only [aj,ab,lV l]; rfl
def AV.Gn:AV→Bool
 | .list .dP _ es=>eQ es
 | _=>false
def iJ:List AV→List AV→Prop
 | [],[]=>True
 | a :: l,b :: r=>gE a b∧iJ l r
 | _,_=>False
theorem iJ.refl:∀ l:List AV,iJ l l
 | []=>trivial
 | a :: l=>⟨gE.refl a,iJ.refl l⟩
theorem iJ.length:∀ {l r:List AV},iJ l r→l.length=r.length
 | [],[],_=>rfl
 | _ :: _,_ :: _,h=>by simp [iJ.length h.2]
 | [],_ :: _,h=>h.elim
 | _ :: _,[],h=>h.elim
theorem iJ.of {α:Type} {f:AV→Bool} {d:AV→α} {g:α→AV} (C4:∀ v,f v=true→gE v (g (d v))):∀ {es:List AV},allFit f es=true→iJ es ((es.map d).map g)
 | [],_=>trivial
 | e :: es,h=>by
  simp only [allFit,Bool.and_eq_true] at h
  exact ⟨C4 e h.1,iJ.of C4 h.2⟩
theorem an.An (p:an) {a:AV} (h:p.fits a=true):iJ a.cY (p.enc (p.bf a)).cY:=by
 cases p with
 | list sz p=>
  cases a with
  | list k bp es=>
   have hb:((Nat.beq sz bp || es.isEmpty)&&allFit p.fits es)=true:=h
   rw [Bool.and_eq_true] at hb
   exact iJ.of (fun v hv=>p.cm hv) hb.2
  | _=>cases h
 | own id sz p=>
  cases a with
  | list k bp es=>
   cases k with
   | own iu=>
    have hb:((Nat.beq id iu&&Nat.beq sz bp)&&allFit p.fits es)=true:=h
    rw [Bool.and_eq_true] at hb
    exact iJ.of (fun v hv=>p.cm hv) hb.2
   | _=>cases h
  | _=>cases h
 | aU id sz p=>
  cases a with
  | list k bp es=>
   cases k with
   | aU iu j=>
    have hb:((Nat.beq id iu&&Nat.beq sz bp)&&allFit p.fits es)=true:=h
    rw [Bool.and_eq_true] at hb
    exact iJ.of (fun v hv=>p.cm hv) hb.2
   | _=>cases h
  | _=>cases h
 | iq u=>rw [show a=u from gW (show dp a u=true from h)]; exact iJ.refl _
 | two u v=>rw [sJ h]; exact iJ.refl _
 | _=>cases a <;> first | (cases h; done) | exact iJ.refl _
def Fq:List AV→List AV→Prop
 | [],[]=>True
 | a :: l,b :: r=>(a.exact=true→b=a)∧(a.Gn=true→b.cY=a.cY)∧iJ a.cY b.cY∧Fq l r
 | _,_=>False
theorem uv {f:AV→Bool} {α:Type} {d:AV→α} {g:α→AV} (C4:∀ a,f a=true→a.exact=true→g (d a)=a):∀ {es:List AV},allFit f es=true→eQ es=true→(es.map d).map g=es
 | [],_,_=>rfl
 | a :: l,h,e=>by
  simp only [allFit,eQ,Bool.and_eq_true] at *
  simp only [List.map_cons,C4 a h.1 e.1,uv C4 h.2 e.2]
theorem an.Ao (p:an) {a:AV} (h:p.fits a=true) (e:a.Gn=true):(p.enc (p.bf a)).cY=a.cY:=by
 cases a with
 | list k bp es=>
  cases k with
  | dP=>
   have e':eQ es=true:=e
   cases p with
   | list sz p=>
    have hb:((Nat.beq sz bp || es.isEmpty)&&allFit p.fits es)=true:=h
    rw [Bool.and_eq_true] at hb
    show (es.map p.bf).map p.enc=_
    rw [uv (fun a=>p.hZ) hb.2 e']
    rfl
   | iq u=>rw [show AV.list .dP bp es=u from gW (show dp _ u=true from h)]; rfl
   | two u v=>rw [sJ h]
   | _=>cases h
  | _=>cases e
 | _=>cases e
theorem aF.Gp:∀ (ps:aF) {l:List AV},ps.fits l=true→Fq l (ps.enc (ps.bf l))
 | .nil,l,h=>by
  cases l with
  | nil=>trivial
  | cons _ _=>cases h
 | .cons p .nil,l,h=>by
  cases l with
  | nil=>cases h
  | cons a l=>
   have h':(p.fits a&&l.isEmpty)=true:=h
   simp only [Bool.and_eq_true,List.isEmpty_iff] at h'
   obtain ⟨h1,rfl⟩:=h'
   exact ⟨p.hZ h1,p.Ao h1,p.An h1,trivial⟩
 | .cons p (.cons q ps),l,h=>by
  cases l with
  | nil=>cases h
  | cons a l=>
   have h':(p.fits a&&(aF.cons q ps).fits l)=true:=h
   rw [Bool.and_eq_true] at h'
   exact ⟨p.hZ h'.1,p.Ao h'.1,p.An h'.1,(aF.cons q ps).Gp h'.2⟩
theorem Fq.split:∀ {l r l':List AV},Fq (l++r) l'→∃ a b,l'=a++b∧Fq l a∧Fq r b∧a.length=l.length
 | [],r,l',h=>⟨[],l',rfl,trivial,h,rfl⟩
 | x :: l,r,[],h=>h.elim
 | x :: l,r,y :: l',h=>by
  obtain ⟨a,b,rfl,h2,h3,h4⟩:=Fq.split (l:=l) (r:=r) (l':=l') h.2.2.2
  exact ⟨y :: a,b,rfl,⟨h.1,h.2.1,h.2.2.1,h2⟩,h3,by simp [h4]⟩
mutual
def AV.uw (L:Nat→Nat):AV→AV
 | .dC id 0 0 sz 0=>.dC id (L id) 0 sz (L id)
 | .fn f x y=>.fn f (Gq L x) (Gq L y)
 | v=>v
def Gq (L:Nat→Nat):List AV→List AV
 | []=>[]
 | a :: l=>a.uw L :: Gq L l
end
mutual
def an.inst (L:Nat→Nat):an→an
 | .agg ps=>.agg (ps.inst L)
 | .aX ps=>.aX (ps.inst L)
 | .iq v=>.iq (v.uw L)
 | p=>p
def aF.inst (L:Nat→Nat):aF→aF
 | .nil=>.nil
 | .cons p ps=>.cons (p.inst L) (ps.inst L)
end
mutual
def an.jr (L:Nat→Nat):(p:an)→p.T→AV
 | .int k,(n:Int)=>.int k n
 | .bool,(b:Bool)=>.bool b
 | .str,(s:List UInt8)=>.str s
 | .agg ps,x=>.agg (ps.jr L x)
 | .aX ps,x=>.aX (ps.jr L x)
 | .list sz p,(xs:List p.T)=>.list .dP sz (xs.map p.enc)
 | .own id sz p,(xs:List p.T)=>.list (.own id) sz (xs.map p.enc)
 | .aU id sz p,(x:Nat × List p.T)=>.list (.aU id x.1) sz (x.2.map p.enc)
 | .iq v,_=>v.uw L
 | .two u v,(b:Bool)=>bif b then v else u
def aF.jr (L:Nat→Nat):(ps:aF)→ps.T→List AV
 | .nil,_=>[]
 | .cons p .nil,x=>[p.jr L x]
 | .cons p (.cons q ps),x=>p.jr L x.1 :: (aF.cons q ps).jr L x.2
end
mutual
def an.kM (L:Nat→Nat):an→AV→Bool
 | .int k,v=>an.fits (.int k) v
 | .bool,v=>an.fits .bool v
 | .str,v=>an.fits .str v
 | .agg ps,v=>match v with
  | .agg cs=>ps.kM L cs
  | _=>false
 | .aX ps,v=>match v with
  | .aX cs=>ps.kM L cs
  | _=>false
 | .list sz p,v=>an.fits (.list sz p) v
 | .own id sz p,v=>an.fits (.own id sz p) v
 | .aU id sz p,v=>an.fits (.aU id sz p) v
 | .iq v,u=>dp u (v.uw L)
 | .two u v,a=>an.fits (.two u v) a
def aF.kM (L:Nat→Nat):aF→List AV→Bool
 | .nil,l=>l.isEmpty
 | .cons p ps,l=>match l with
  | a :: l=>p.kM L a&&ps.kM L l
  | []=>false
end
def aF.EL (L:Nat→Nat) (ps:aF) (l:List AV):Option ps.T:=bif ps.kM L l then some (ps.bf l) else none
mutual
theorem an.gL (L:Nat→Nat):∀ (p:an) (a:AV),p.kM L a=(p.inst L).fits a
 | .int _,_=>rfl
 | .bool,_=>rfl
 | .str,_=>rfl
 | .agg ps,a=>by
  simp only [an.kM,an.inst,an.fits]
  cases a <;> first | rfl | exact ps.gL L _
 | .aX ps,a=>by
  simp only [an.kM,an.inst,an.fits]
  cases a <;> first | rfl | exact ps.gL L _
 | .list _ _,_=>rfl
 | .own _ _ _,_=>rfl
 | .aU _ _ _,_=>rfl
 | .iq _,_=>rfl
 | .two _ _,_=>rfl
theorem aF.gL (L:Nat→Nat):∀ (ps:aF) (l:List AV),ps.kM L l=(ps.inst L).fits l
 | .nil,_=>rfl
 | .cons p ps,l=>by
  cases l with
  | nil=>rfl
  | cons a l=>
   simp only [aF.kM,aF.inst,aF.fits]
   rw [p.gL L a,ps.gL L l]
end
mutual
theorem an.fZ (L:Nat→Nat):∀ (p:an) (a:AV),p.jr L (p.bf a)=(p.inst L).enc ((p.inst L).bf a)
 | .int _,_=>rfl
 | .bool,_=>rfl
 | .str,_=>rfl
 | .agg ps,a=>congrArg AV.agg (ps.fZ L a.iy)
 | .aX ps,a=>congrArg AV.aX (ps.fZ L a.N6)
 | .list _ _,_=>rfl
 | .own _ _ _,_=>rfl
 | .aU _ _ _,_=>rfl
 | .iq _,_=>rfl
 | .two _ _,_=>rfl
theorem aF.fZ (L:Nat→Nat):∀ (ps:aF) (l:List AV),ps.jr L (ps.bf l)=(ps.inst L).enc ((ps.inst L).bf l)
 | .nil,_=>rfl
 | .cons p .nil,l=>by
  show [p.jr L (p.bf (dq l))]=[(p.inst L).enc ((p.inst L).bf (dq l))]
  rw [p.fZ L]
 | .cons p (.cons q ps),l=>by
  show p.jr L (p.bf (dq l)) :: (aF.cons q ps).jr L ((aF.cons q ps).bf (Fu l))=(p.inst L).enc ((p.inst L).bf (dq l)) :: ((aF.cons q ps).inst L).enc (((aF.cons q ps).inst L).bf (Fu l))
  rw [p.fZ L,(aF.cons q ps).fZ L]
end
mutual
theorem AV.ux {n:Nat} (L:Nat→Nat):∀ {a:AV},a.under n=true→(a.uw L).under n=true:=fun {a} h=>by
 cases a with
 | dC id f off sz len=>
  unfold AV.uw
  split
  ·rename_i h1
   cases h1
   exact h
  ·rename_i h1
   cases h1
  ·exact h
 | fn f x y=>
  simp only [AV.uw,AV.under,Bool.and_eq_true] at *
  exact ⟨oI L h.1,oI L h.2⟩
 | _=>exact h
theorem oI {n:Nat} (L:Nat→Nat):∀ {l:List AV},aA n l=true→aA n (Gq L l)=true
 | [],_=>rfl
 | a :: l,h=>by
  simp only [Gq,aA,Bool.and_eq_true] at *
  exact ⟨AV.ux L h.1,oI L h.2⟩
end
mutual
theorem an.gM {n:Nat} (L:Nat→Nat):∀ {p:an},p.under n=true→(p.inst L).under n=true
 | .int _,_=>rfl
 | .bool,_=>rfl
 | .str,_=>rfl
 | .agg ps,h=>aF.gM L (ps:=ps) h
 | .aX ps,h=>aF.gM L (ps:=ps) h
 | .list _ _,_=>rfl
 | .own _ _ _,h=>h
 | .aU _ _ _,h=>h
 | .iq v,h=>AV.ux L (a:=v) h
 | .two _ _,h=>h
theorem aF.gM {n:Nat} (L:Nat→Nat):∀ {ps:aF},ps.under n=true→(ps.inst L).under n=true
 | .nil,_=>rfl
 | .cons p ps,h=>by
  simp only [aF.inst,aF.under,Bool.and_eq_true] at *
  exact ⟨an.gM L h.1,aF.gM L h.2⟩
end
theorem AV.wX (L:Nat→Nat) (v:AV):(v.uw L).cY=v.cY:=by
 unfold AV.uw
 split <;> rfl
def lZ:List AV→List AV→Prop
 | [],[]=>True
 | a :: l,b :: r=>a.cY.length=b.cY.length∧lZ l r
 | _,_=>False
theorem an.mN (L L':Nat→Nat) (p:an) (x:p.T):(p.jr L x).cY=(p.jr L' x).cY:=by
 cases p with
 | iq v=>
  show (v.uw L).cY=(v.uw L').cY
  rw [AV.wX,AV.wX]
 | _=>rfl
theorem aF.mN (L L':Nat→Nat):∀ (ps:aF) (x:ps.T),lZ (ps.jr L x) (ps.jr L' x)
 | .nil,_=>trivial
 | .cons p .nil,x=>⟨congrArg List.length (p.mN L L' x),trivial⟩
 | .cons p (.cons q ps),x=>⟨congrArg List.length (p.mN L L' x.1),(aF.cons q ps).mN L L' x.2⟩
theorem Fq.SM:∀ {l r:List AV},Fq l r→lZ l r
 | [],[],_=>trivial
 | _ :: _,_ :: _,h=>⟨h.2.2.1.length,h.2.2.2.SM⟩
 | [],_ :: _,h=>h.elim
 | _ :: _,[],h=>h.elim
theorem lZ.trans:∀ {l r u:List AV},lZ l r→lZ r u→lZ l u
 | [],[],[],_,_=>trivial
 | _ :: _,_ :: _,_ :: _,h,k=>⟨h.1.trans k.1,h.2.trans k.2⟩
 | [],_ :: _,_,h,_=>h.elim
 | _ :: _,[],_,h,_=>h.elim
 | [],[],_ :: _,_,k=>k.elim
 | _ :: _,_ :: _,[],_,k=>k.elim
theorem lZ.drop:∀ {l r:List AV} (n:Nat),lZ l r→lZ (l.drop n) (r.drop n)
 | l,r,0,h=>by simpa using h
 | [],[],_+1,_=>by simp [lZ]
 | _ :: _,_ :: _,n+1,h=>by simpa using lZ.drop n h.2
 | [],_ :: _,_+1,h=>h.elim
 | _ :: _,[],_+1,h=>h.elim
theorem aF.JV (L:Nat→Nat) (ps:aF) {l:List AV} {x:ps.T} (h:ps.EL L l=some x):ca l (ps.jr L x)∧Fq l (ps.jr L x):=by
 unfold aF.EL at h
 cases hf:ps.kM L l with
 | true=>
  rw [hf] at h
  cases h
  rw [ps.fZ L]
  rw [ps.gL L] at hf
  have hd:(ps.inst L).dec l=some ((ps.inst L).bf l):=by unfold aF.dec; rw [hf]; rfl
  exact ⟨((ps.inst L).ou hd).1,(ps.inst L).Gp hf⟩
 | false=>rw [hf] at h; cases h
theorem aF.Cq {n:Nat} (L:Nat→Nat) (ps:aF) (hp:ps.under n=true) (l:List AV):aA n (ps.jr L (ps.bf l))=true:=by
 rw [ps.fZ L]
 exact (ps.inst L).cM _ (aF.gM L hp)
theorem aF.EM (L:Nat→Nat) (ps:aF) {l:List AV} {x:ps.T} (h:ps.EL L l=some x):x=ps.bf l:=by
 unfold aF.EL at h
 cases hf:ps.kM L l with
 | true=>rw [hf] at h; cases h; rfl
 | false=>rw [hf] at h; cases h
end Go.Am
namespace Go.Am
open Go
inductive Bg
 | open_
 | busy
 | ret
 | ex (i:Nat)
def Bg.is:Bg→Bool→Option Code→Bool→Bool
 | .open_,false,none,false=>true
 | .busy,true,none,false=>true
 | .ret,false,some .ret,true=>true
 | .ex i,false,some (.exit j),true=>Nat.beq i j
 | _,_,_,_=>false
def Bg.b:Bg→Bool
 | .busy=>true
 | _=>false
def Bg.p:Bg→Option Code
 | .ret=>some .ret
 | .ex i=>some (.exit i)
 | _=>none
def Bg.d:Bg→Bool
 | .ret=>true
 | .ex _=>true
 | _=>false
theorem Bg.Dx {k:Bg} {b:Bool} {p:Option Code} {d:Bool} (h:k.is b p d=true):b=k.b∧p=k.p∧d=k.d:=by
 unfold Bg.is at h
 split at h <;> first | exact ⟨rfl,rfl,rfl⟩ | (cases h; done) | skip
 rw [Nat.eq_of_beq_eq_true h]
 exact ⟨rfl,rfl,rfl⟩
inductive GL
 | row (n:Nat)
 | tok (loc sz:Nat) (e:TypeId)
 | dead
 | lp (k:Bg)
 | bq
 | map
 | Gr
 | dm (sz:Nat) (e:TypeId)
 | aU (sz:Nat) (e:TypeId)
 | pX
 | lS (ot:Nat)
def bZ (fs:List Nat):List AV:=fs.map fun n:Nat=>.int .i64 n
def aO (l:List AV):List Nat:=l.map fun a=>a.jL.toNat
theorem rP (fs:List Nat):aO (bZ fs)=fs:=by
 induction fs with
 | nil=>rfl
 | cons n fs ih=>
  show (AV.int .i64 n).jL.toNat :: aO (bZ fs)=n :: fs
  rw [ih]
  simp [AV.jL]
theorem uy (fs:List Nat):eQ (bZ fs)=true:=by
 induction fs with
 | nil=>rfl
 | cons n fs ih=>exact ih
def OW (k:Bg):GO→GO→Bool
 | .loop _ _ _ _ _ _ _ _ _ _,.loop b p _ _ _ _ _ _ _ d=>k.is b p d
 | _,_=>false
def Nl (k:Bg):GO→GO
 | .loop _ _ fn sl n ps pP bd d _=>.loop k.b k.p fn sl n ps pP bd d k.d
 | _=>.dead
def bt (es:List (AV × AV)):Bool:=eQ (aj es)
def yl:GO→GO→Bool
 | .tok f sz e,.tok f' bp e'=>decide (f'=f)&&(Nat.beq bp sz&&Nat.beq e' e)
 | .defers a,.defers b=>match a,b with
  | true,true=>true
  | false,false=>true
  | _,_=>false
 | .dead,_=>true
 | _,_=>false
structure b7 where
 ps:aF
 sl:List Tmp
 W:List Tmp
 bx:List (Nat × Nat)
 g:List GL
 Rq:List (Tmp × Nat × Nat)
def uz (ae:aT):List Tmp→Option (List AV)
 | []=>some []
 | t :: l=>match lk ae t with
  | .v a=>match uz ae l with
   | some r=>some (a :: r)
   | none=>none
  | _=>none
def uA (bx:b8):List (Nat × Nat)→Option (List AV)
 | []=>some []
 | (k,n) :: l=>match cG bx k with
  | some cs=>match uA bx l with
   | some r=>bif Nat.beq cs.length n then some (cs++r) else none
   | none=>none
  | none=>none
def iS:List GL→List GO→Option (List AV)
 | [],_=>some []
 | .row n :: l,.row cs _ :: G=>match iS l G with
  | some r=>bif Nat.beq cs.length n then some (cs++r) else none
  | none=>none
 | .tok _ sz e :: l,.tok _ bp e' :: G=>bif Nat.beq sz bp&&Nat.beq e e' then iS l G else none
 | .dead :: l,_ :: G=>iS l G
 | .lp _ :: l,_ :: G=>iS l G
 | .bq :: l,_ :: G=>iS l G
 | .map :: l,.map es :: G=>match iS l G with
  | some r=>some (.list .dP 2 (aj es) :: r)
  | none=>none
 | .Gr :: l,.fk s pos :: G=>match iS l G with
  | some r=>some (.str s :: .int .i64 pos :: r)
  | none=>none
 | .dm sz e :: l,.dm es bp e' :: G=>match iS l G with
  | some r=>bif Nat.beq sz bp&&Nat.beq e e' then some (.list .dP bp es :: r) else none
  | none=>none
 | .aU sz e :: l,.aU fs bp e' :: G=>match iS l G with
  | some r=>bif Nat.beq sz bp&&Nat.beq e e' then some (.list .dP 1 (bZ fs) :: r) else none
  | none=>none
 | .pX :: l,.map es :: G=>match iS l G with
  | some r=>some (.list .dP 2 (aj es) :: r)
  | none=>none
 | .lS ot :: l,.lS mid' n left _ _ :: G=>match iS l G with
  | some r=>bif Nat.beq ot mid' then some (.int .i64 n :: .list .dP 1 (bZ left) :: r) else none
  | none=>none
 | _,_=>none
def Gs (vs:List AV) (loc:Nat):Nat:=match nth vs loc with
 | some (.list _ _ es)=>es.length
 | _=>0
def Nn:GO→GO→Bool
 | .row _ e,.row _ e'=>Nat.beq e e'
 | _,_=>false
def No:GO→GO→Bool
 | .lS _ _ _ _ t,.lS _ _ _ _ t'=>Nat.beq t t'
 | _,_=>false
def SN:GO→TypeId
 | .lS _ _ _ _ t=>t
 | _=>0
def SO:GO→TypeId
 | .row _ e=>e
 | _=>0
def cN (vs:List AV):List GL→List GO→List GO→Bool
 | [],_,_=>true
 | .tok loc _ _ :: l,_ :: B,.tok f _ _ :: G=>decide (f=Gs vs loc)&&cN vs l B G
 | .tok _ _ _ :: _,_,_=>false
 | .lp k :: l,o :: B,o' :: G=>OW k o o'&&cN vs l B G
 | .bq :: l,o :: B,o' :: G=>yl o o'&&cN vs l B G
 | .row _ :: l,b :: B,g :: G=>Nn b g&&cN vs l B G
 | .map :: l,_ :: B,.map es :: G=>bt es&&cN vs l B G
 | .map :: _,_,_=>false
 | .Gr :: l,_ :: B,_ :: G=>cN vs l B G
 | .dm _ _ :: l,_ :: B,_ :: G=>cN vs l B G
 | .aU _ _ :: l,_ :: B,_ :: G=>cN vs l B G
 | .pX :: l,_ :: B,_ :: G=>cN vs l B G
 | .lS _ :: l,b :: B,g :: G=>No b g&&cN vs l B G
 | .dead :: l,_ :: B,_ :: G=>cN vs l B G
 | _,_,_=>false
def mO:List Tmp→List AV→aT→aT
 | t :: ts,a :: l,r=>.put t (.v a) :: mO ts l r
 | _,_,r=>r
def mP:List (Tmp × Nat × Nat)→aT→aT
 | (t,k,o) :: l,r=>.put t (.lp k o) :: mP l r
 | [],r=>r
def Dy (ae:aT):List (Tmp × Nat × Nat)→Bool
 | []=>true
 | (t,k,o) :: l=>(match lk ae t with
  | .lp k' o'=>Nat.beq k' k&&Nat.beq o' o
  | _=>false)&&Dy ae l
def uB:List Tmp→aT→aT
 | t :: ts,r=>.put t .none :: uB ts r
 | [],r=>r
def rQ:List (Nat × Nat)→List AV→b8→b8
 | (k,n) :: r,l,b=>(k,l.take n) :: rQ r (l.drop n) b
 | [],_,b=>b
def cJ (vs:List AV):List GL→List GO→List AV→List GO
 | .row n :: r,B,l=>.row (l.take n) (SO (B.headD .dead)) :: cJ vs r B.tail (l.drop n)
 | .tok loc sz e :: r,B,l=>.tok (Gs vs loc) sz e :: cJ vs r B.tail l
 | .dead :: r,B,l=>.dead :: cJ vs r B.tail l
 | .lp k :: r,B,l=>Nl k (B.headD .dead) :: cJ vs r B.tail l
 | .bq :: r,B,l=>B.headD .dead :: cJ vs r B.tail l
 | .map :: r,B,l=>.map (AV.entries (dq l)) :: cJ vs r B.tail l.tail
 | .Gr :: r,B,l=>.fk (AV.N7 (dq l)) (AV.jL (dq l.tail)).toNat :: cJ vs r B.tail l.tail.tail
 | .dm sz e :: r,B,l=>.dm (AV.cY (dq l)) sz e :: cJ vs r B.tail l.tail
 | .aU sz e :: r,B,l=>.aU (aO (AV.cY (dq l))) sz e :: cJ vs r B.tail l.tail
 | .pX :: r,B,l=>.map (AV.entries (dq l)) :: cJ vs r B.tail l.tail
 | .lS ot :: r,B,l=>.lS ot (AV.jL (dq l)).toNat (aO (AV.cY (dq l.tail))) none (SN (B.headD .dead)) :: cJ vs r B.tail l.tail.tail
 | [],_,_=>[]
def ym:List (Nat × Nat)→Nat
 | []=>0
 | (_,n) :: l=>n+ym l
def js:List GL→List AV→Nat→Nat
 | [],_,_=>0
 | .dm _ _ :: r,l,i=>match i with
  | 0=>(AV.cY (dq l)).length
  | i+1=>js r l.tail i
 | .row n :: r,l,i=>match i with
  | 0=>0
  | i+1=>js r (l.drop n) i
 | .map :: r,l,i=>match i with
  | 0=>0
  | i+1=>js r l.tail i
 | .Gr :: r,l,i=>match i with
  | 0=>0
  | i+1=>js r l.tail.tail i
 | .aU _ _ :: r,l,i=>match i with
  | 0=>0
  | i+1=>js r l.tail i
 | .pX :: r,l,i=>match i with
  | 0=>0
  | i+1=>js r l.tail i
 | .lS _ :: r,l,i=>match i with
  | 0=>0
  | i+1=>js r l.tail.tail i
 | _ :: r,l,i=>match i with
  | 0=>0
  | i+1=>js r l i
def b7.nS (t:b7) (v:t.ps.T):List AV:=t.ps.jr (js t.g (((t.ps.jr (fun _=>0) v).drop t.sl.length).drop (ym t.bx))) v
def b7.st (t:b7) (s:St) (v:t.ps.T):St:=
 ⟨mP t.Rq (mO t.sl (t.nS v) (uB t.W s.ae)),rQ t.bx ((t.nS v).drop t.sl.length) s.boxes,cJ (t.nS v) t.g s.G (((t.nS v).drop t.sl.length).drop (ym t.bx)),s.marks,s.ro,s.n⟩
def Jm:List Nat→Nat→Bool
 | [],_=>false
 | a :: l,n=>Nat.beq a n || Jm l n
def Rr (l:List Tmp) (W:List Tmp) (n:Nat):Bool:=Jm l n || Jm W n
def vX (d:Nat) (l W:List Tmp):aT→Bool
 | []=>true
 | .put t (.lp k _) :: r=>(!(Nat.beq k d) || Rr l W t)&&vX d l W r
 | _ :: r=>vX d l W r
def qR (l W:List Tmp) (base:aT):aT→Bool
 | []=>true
 | .put d _ :: r=>Rr l W d&&qR l W base r
 | .kill d :: r=>vX d l W base&&qR l W base r
def se:List (Nat × Nat)→Nat→Bool
 | [],_=>false
 | (a,_) :: l,n=>Nat.beq a n || se l n
def sQ (l:List (Nat × Nat)) (base:b8):b8→Bool
 | []=>true
 | (k,_) :: r=>(se l k || (cG base k).isNone)&&sQ l base r
def JW:List Nat→List Nat→Bool
 | [],[]=>true
 | a :: l,b :: r=>Nat.beq a b&&JW l r
 | _,_=>false
def an.Yo (n:Nat):an→Bool
 | .list _ p=>p.under n
 | _=>false
def aF.flags (n:Nat):aF→List Bool
 | .nil=>[]
 | .cons p ps=>p.Yo n :: ps.flags n
def jt:List GL→List Bool→Bool
 | [],_=>true
 | .dm _ _ :: r,f :: l=>f&&jt r l
 | .dm _ _ :: _,[]=>false
 | .row n :: r,l=>jt r (er n l)
 | .map :: r,l=>jt r (er 1 l)
 | .Gr :: r,l=>jt r (er 2 l)
 | .aU _ _ :: r,l=>jt r (er 1 l)
 | .pX :: r,f :: l=>f&&jt r l
 | .pX :: _,[]=>false
 | .lS _ :: r,l=>jt r (er 2 l)
 | _ :: r,l=>jt r l
def Gt (n:Nat):List GL→Bool
 | []=>true
 | .lS ot :: r=>Nat.blt ot n&&Gt n r
 | _ :: r=>Gt n r
def b7.ok (t:b7) (s s':St):Bool:=
 qR t.sl t.W s.ae (s'.ae.take (s'.ae.length - s.ae.length))&&sQ t.bx s.boxes (s'.boxes.take (s'.boxes.length - s.boxes.length)) &&
  JW s'.marks s.marks&&Nat.beq t.g.length s.G.length&&(t.ps.under s.G.length&&(jt t.g (er (ym t.bx) (er t.sl.length (t.ps.flags s.G.length)))&&Gt s.G.length t.g))&&Dy s'.ae t.Rq
def b7.dec (t:b7) (s s':St):Option t.ps.T:=
 bif t.ok s s' then
  match uz s'.ae t.sl,uA s'.boxes t.bx,iS t.g s'.G with
  | some a,some b,some c=>(t.ps.EL (js t.g c) (a++(b++c))).bind fun v=>bif cN (t.nS v) t.g s.G s'.G then some v else none
  | _,_,_=>none
 else none
theorem yn {l:List Nat} {n:Nat}:Jm l n=true↔n∈l:=by
 induction l with
 | nil=>simp [Jm]
 | cons a l ih=>
  simp only [Jm,Bool.or_eq_true,Nat.beq_eq,ih,List.mem_cons]
  constructor
  ·rintro (h | h)
   ·exact .inl h.symm
   ·exact .inr h
  ·rintro (h | h)
   ·exact .inl h.symm
   ·exact .inr h
theorem Dz:∀ {a b:List Nat},JW a b=true→a=b
 | [],[],_=>rfl
 | a :: l,b :: r,h=>by
  simp only [JW,Bool.and_eq_true,Nat.beq_eq] at h
  rw [h.1,Dz h.2]
 | [],_ :: _,h=>by cases h
 | _ :: _,[],h=>by cases h
theorem yo {d:Nat} {l W:List Tmp} {t off:Nat}:∀ {base:aT},vX d l W base=true→lk base t=.lp d off→Rr l W t=true
 | [],_,h=>by simp [lk] at h
 | .put t' x :: r,hn,h=>by
  by_cases e:t'=t
  ·subst e
   rw [ay] at h
   subst h
   simp only [vX,Nat.beq_refl,Bool.not_true,Bool.false_or,Bool.and_eq_true] at hn
   exact hn.1
  ·rw [aH e] at h
   refine yo (base:=r) ?_ h
   cases x <;> simp only [vX,Bool.and_eq_true] at hn
   ·exact hn
   ·exact hn
   ·exact hn.2
 | .kill d' :: r,hn,h=>by
  rcases C3 (l:=r) (d:=d') (t:=t) with ⟨h1,_⟩ | h1
  ·rw [h1] at h
   exact yo (base:=r) hn h
  ·rw [h1] at h
   cases h
theorem yp {l W:List Tmp} {base:aT} {t:Nat} (ht:Rr l W t=false):∀ {pre:aT},qR l W base pre=true→lk (pre++base) t=lk base t
 | [],_=>rfl
 | .put d x :: r,h=>by
  simp only [qR,Bool.and_eq_true] at h
  have cj:d≠t:=fun e=>by rw [e,ht] at h; exact absurd h.1 (by simp)
  rw [List.cons_append,aH cj]
  exact yp ht h.2
 | .kill d :: r,h=>by
  simp only [qR,Bool.and_eq_true] at h
  have ih:=yp ht h.2
  simp only [List.cons_append,lk,ih]
  cases hb:lk base t with
  | lp k off=>
   by_cases e:k=d
   ·subst e
    have:=yo h.1 hb
    rw [ht] at this
    cases this
   ·simp [kY e]
  | _=>rfl
theorem Ap {l:List (Nat × Nat)} {base:b8} {k:Nat} {cs:List AV} (hk:se l k=false) (hb:cG base k=some cs):∀ {pre:b8},sQ l base pre=true→cG (pre++base) k=some cs
 | [],_=>hb
 | (d,x) :: r,h=>by
  simp only [sQ,Bool.and_eq_true] at h
  have cj:d≠k:=fun e=>by
   rw [e,hk,hb] at h
   exact absurd h.1 (by simp)
  rw [List.cons_append,cG,kY cj]
  exact Ap hk hb h.2
theorem Aq {α:Type} (pre base:List α):(pre++base).take ((pre++base).length - base.length)=pre:=by
 rw [List.length_append,Nat.add_sub_cancel,List.take_left]
def ai.cut (R:ai) (n:Nat):ai:=⟨R.I,R.obj.take n⟩
theorem iT {R:ai} {n id:Nat} {ro:RO}:nth (R.cut n).obj id=some ro↔id < n∧nth R.obj id=some ro:=by
 simp only [ai.cut,aR,List.getElem?_take]
 split
 ·simp_all
 ·simp_all
  omega
theorem mQ (R:ai) (n:Nat):Mv R (R.cut n) n:=⟨fun _ _ h=>h,fun _ _ hl h=>iT.2 ⟨hl,h⟩⟩
section zk
variable {E:Env} {R R':ai} {w w':World} {β β':Nat→Nat} {s s':St} {a a':Act}
def uC (R:ai) (w:World) (β:Nat→Nat) (K:Nat→Prop) (ae:aT) (tmps:Array Value):Prop:=
 ∀ i,¬ K i→lk ae i≠.none→∃ c,tmps[i]?=some c∧nO R w β (lk ae i) c
theorem uD {tmps:Array Value} {base:aT}:∀ {W:List Tmp} {K:Nat→Prop},uC R w β (fun i=>i∈W∨K i) base tmps→uC R w β K (uB W base) tmps
 | [],K,h=>fun i hi hn=>h i (by simpa using hi) hn
 | t :: W,K,h=>fun i hi hn=>by
  have ih:uC R w β (fun i=>i=t∨K i) (uB W base) tmps:=uD (W:=W) (fun j hj=>h j (fun hc=>hj (by
   rcases hc with hc | hc
   ·rcases List.mem_cons.1 hc with hc | hc
    ·exact .inr (.inl hc)
    ·exact .inl hc
   ·exact .inr (.inr hc))))
  simp only [uB] at hn ⊢
  by_cases e:t=i
  ·subst e
   rw [ay] at hn
   exact absurd rfl hn
  ·rw [aH e] at hn ⊢
   exact ih i (by simp; exact ⟨fun e'=>e e'.symm,hi⟩) hn
theorem rR {n:Nat} (m:Mv R' R n) {tmps:Array Value} {ae:aT} (hT:mg R' w β ae tmps) {base:aT}:∀ {ts:List Tmp} {K:Nat→Prop} {l l' r r':List AV},uz ae ts=some l→ca (l++r) (l'++r')→l.length=l'.length→aA n l'=true →
  uC R w β (fun i=>i∈ts∨K i) base tmps→uC R w β K (mO ts (l'++r') base) tmps
 | [],K,l,l',r,r',_,_,_,_,h=>fun i hi hn=>by
  have e:mO [] (l'++r') base=base:=rfl
  rw [e] at hn ⊢
  exact h i (by simpa using hi) hn
 | t :: ts,K,l,l',r,r',hg,hw,hl,hu,h=>by
  unfold uz at hg
  split at hg
  ·rename_i a ha
   split at hg
   ·rename_i l0 tB
    cases hg
    cases l' with
    | nil=>simp at hl
    | cons b l'=>
     simp only [List.cons_append,ca] at hw
     simp only [aA,Bool.and_eq_true] at hu
     have ih:uC R w β (fun i=>i=t∨K i) (mO ts (l'++r') base) tmps:=rR m hT tB hw.2 (by simpa using hl) hu.2 (fun j hj=>h j (fun hc=>hj (by
      rcases hc with hc | hc
      ·rcases List.mem_cons.1 hc with hc | hc
       ·exact .inr (.inl hc)
       ·exact .inl hc
      ·exact .inr (.inr hc))))
     intro i hi hn
     simp only [mO,List.cons_append] at hn ⊢
     by_cases e:t=i
     ·subst e
      rw [ay] at hn ⊢
      obtain ⟨c,h1,h2⟩:=hT t (by rw [ha]; simp)
      rw [ha] at h2
      exact ⟨c,h1,Rel.move m hu.1 (hw.1 _ _ _ h2)⟩
     ·rw [aH e] at hn ⊢
      exact ih i (by simp; exact ⟨fun e'=>e e'.symm,hi⟩) hn
   ·cases hg
  ·cases hg
def uE (R:ai) (w:World) (β:Nat→Nat) (k:Nat) (cs:List AV):Prop:=
 (∃ vs el,w.heap[β k]?=some (.cells ⟨vs⟩ el (0,0))∧aD R w cs vs∧(∀ v∈vs,v.oneCell'=true))∧(∀ o,¬ R.I (β k) o)∧¬ Live R (β k)
theorem Ar {R:ai} {n b:Nat} (h:Live (R.cut n) b):Live R b:=by
 obtain ⟨id,ro,h1,h2⟩:=h
 exact ⟨id,ro,(iT.1 h1).2,h2⟩
theorem uE.cut {n k:Nat} {cs cs':List AV} (h:uE R w β k cs) (hw:ca cs cs') (hu:aA n cs'=true):uE (R.cut n) w β k cs':=by
 obtain ⟨⟨vs,el,h1,h2,h3⟩,h4,h5⟩:=h
 exact ⟨⟨vs,el,h1,(hw.rel h2).move (mQ R n) hu,h3⟩,h4,fun hl=>h5 (Ar hl)⟩
theorem ef {n:Nat}:∀ {l r:List AV},aA n (l++r)=(aA n l&&aA n r)
 | [],r=>by simp [aA]
 | a :: l,r=>by simp [aA,ef (l:=l),Bool.and_assoc]
theorem ca.split:∀ {l r l':List AV},ca (l++r) l'→∃ a b,l'=a++b∧ca l a∧ca r b∧a.length=l.length
 | [],r,l',h=>⟨[],l',rfl,trivial,h,rfl⟩
 | x :: l,r,[],h=>h.elim
 | x :: l,r,y :: l',h=>by
  obtain ⟨a,b,rfl,h2,h3,h4⟩:=ca.split (l:=l) (r:=r) (l':=l') h.2
  exact ⟨y :: a,b,rfl,⟨h.1,h2⟩,h3,by simp [h4]⟩
theorem As {n:Nat} {UO:b8} (hb:∀ k cs,cG UO k=some cs→uE R w β k cs) {base:b8}:∀ {bx:List (Nat × Nat)} {K:Nat→Prop} {l l' r:List AV},uA UO bx=some l→ca l l'→aA n l'=true →
  (∀ k cs,¬ K k→se bx k=false→cG base k=some cs→cG UO k=some cs∧aA n cs=true) →
  ∀ k cs,¬ K k→cG (rQ bx (l'++r) base) k=some cs→uE (R.cut n) w β k cs∧∃ cs',cG UO k=some cs'
 | [],K,l,l',r,_,_,_,h,k,cs,hK,hk=>by
  obtain ⟨h1,h2⟩:=h k cs hK rfl hk
  exact ⟨(hb k cs h1).cut (ca.refl _) h2,cs,h1⟩
 | (d,m) :: bx,K,l,l',r,hg,hw,hu,h,k,cs,hK,hk=>by
  unfold uA at hg
  split at hg
  ·rename_i Sx hd
   split at hg
   ·rename_i l0 tB
    cases hm:Nat.beq Sx.length m with
    | false=>rw [hm] at hg; cases hg
    | true=>
     rw [hm] at hg
     cases hg
     have hm:=Nat.eq_of_beq_eq_true hm
     obtain ⟨x,y,rfl,k1,k2,k3⟩:=hw.split
     rw [ef,Bool.and_eq_true] at hu
     have e1:((x++y)++r).take m=x:=by rw [List.append_assoc,← hm,← k3,List.take_left]
     have e2:((x++y)++r).drop m=y++r:=by rw [List.append_assoc,← hm,← k3,List.drop_left]
     simp only [rQ,e1,e2] at hk
     rcases dI hk with ⟨rfl,rfl⟩ | ⟨cj,hk⟩
     ·exact ⟨(hb d Sx hd).cut k1 hu.1,Sx,hd⟩
     ·refine As hb (K:=fun k=>k=d∨K k) (r:=r) tB k2 hu.2 (fun k' cs' Yp h1 h2=>?_) k cs (fun hc=>?_) hk
      ·exact h k' cs' (fun hc=>Yp (.inr hc)) (by simp only [se,h1,Bool.or_false]; exact kY (fun e=>Yp (.inl e.symm))) h2
      ·rcases hc with hc | hc
       ·exact cj hc.symm
       ·exact hK hc
   ·cases hg
  ·cases hg
def uF (n:Nat):List GL→List AV→Prop
 | [],_=>True
 | .dm _ _ :: r,l=>aA n (AV.cY (dq l))=true∧uF n r l.tail
 | .row m :: r,l=>uF n r (l.drop m)
 | .map :: r,l=>uF n r l.tail
 | .Gr :: r,l=>uF n r l.tail.tail
 | .aU _ _ :: r,l=>uF n r l.tail
 | .pX :: r,l=>aA n (AV.cY (dq l))=true∧uF n r l.tail
 | .lS _ :: r,l=>uF n r l.tail.tail
 | _ :: r,l=>uF n r l
def mR (n:Nat):List Bool→List AV→Prop
 | [],_=>True
 | _ :: _,[]=>True
 | f :: fl,a :: l=>(f=true→aA n a.cY=true)∧mR n fl l
theorem mR.drop {m:Nat}:∀ {fl:List Bool} {l:List AV} (n:Nat),mR m fl l→mR m (er n fl) (l.drop n)
 | _,_,0,h=>by simpa [er] using h
 | [],_,_+1,_=>by simp [er,mR]
 | _ :: fl,[],n+1,_=>by
  rw [List.drop_nil]
  cases er (n+1) (_ :: fl) <;> trivial
 | _ :: fl,_ :: l,n+1,h=>by simpa [er] using mR.drop n h.2
theorem ey {m:Nat}:∀ (g:List GL) {fl:List Bool} {l:List AV},jt g fl=true→mR m fl l→uF m g l
 | [],_,_,_,_=>trivial
 | .dm _ _ :: g,[],_,h,_=>by cases h
 | .dm _ _ :: g,f :: fl,[],h,_=>by
  simp only [jt,Bool.and_eq_true] at h
  refine ⟨rfl,ey g (fl:=fl) h.2 ?_⟩
  cases fl <;> trivial
 | .dm _ _ :: g,f :: fl,a :: l,h,k=>by
  simp only [jt,Bool.and_eq_true] at h
  exact ⟨k.1 h.1,ey g h.2 k.2⟩
 | .row n :: g,fl,l,h,k=>ey g (show jt g (er n fl)=true from h) (k.drop n)
 | .map :: g,fl,l,h,k=>by
  have:=ey g (show jt g (er 1 fl)=true from h) (k.drop 1)
  rw [List.drop_one] at this
  exact this
 | .Gr :: g,fl,l,h,k=>by
  have:=ey g (show jt g (er 2 fl)=true from h) (k.drop 2)
  have e:l.drop 2=l.tail.tail:=by cases l with
   | nil=>rfl
   | cons a l=>cases l <;> rfl
  rw [e] at this
  exact this
 | .aU _ _ :: g,fl,l,h,k=>by
  have:=ey g (show jt g (er 1 fl)=true from h) (k.drop 1)
  rw [List.drop_one] at this
  exact this
 | .lS _ :: g,fl,l,h,k=>by
  have:=ey g (show jt g (er 2 fl)=true from h) (k.drop 2)
  have e:l.drop 2=l.tail.tail:=by cases l with
   | nil=>rfl
   | cons a l=>cases l <;> rfl
  rw [e] at this
  exact this
 | .pX :: g,[],_,h,_=>by cases h
 | .pX :: g,f :: fl,[],h,_=>by
  simp only [jt,Bool.and_eq_true] at h
  refine ⟨rfl,ey g (fl:=fl) h.2 ?_⟩
  cases fl <;> trivial
 | .pX :: g,f :: fl,a :: l,h,k=>by
  simp only [jt,Bool.and_eq_true] at h
  exact ⟨k.1 h.1,ey g h.2 k.2⟩
 | .tok _ _ _ :: g,fl,l,h,k=>ey g (show jt g fl=true from h) k
 | .dead :: g,fl,l,h,k=>ey g (show jt g fl=true from h) k
 | .lp _ :: g,fl,l,h,k=>ey g (show jt g fl=true from h) k
 | .bq :: g,fl,l,h,k=>ey g (show jt g fl=true from h) k
theorem uG {n:Nat} {α:Type} {g:α→AV} (hg:∀ x,(g x).under n=true):∀ xs:List α,aA n (xs.map g)=true
 | []=>rfl
 | x :: xs=>by simp only [List.map_cons,aA,hg x,uG hg xs,Bool.and_self]
theorem aF.Au (n:Nat) (L:Nat→Nat):∀ (ps:aF) (x:ps.T),mR n (ps.flags n) (ps.jr L x)
 | .nil,_=>trivial
 | .cons p .nil,x=>⟨fun h=>Np L p x h,trivial⟩
 | .cons p (.cons q ps),x=>⟨fun h=>Np L p x.1 h,(aF.cons q ps).Au n L x.2⟩
where
 Np (L:Nat→Nat):∀ (p:an) (x:p.T),p.Yo n=true→aA n (p.jr L x).cY=true
  | .list _ p,x,h=>uG (fun y=>p.cM y h) _
  | .int _,_,h=>by cases h
  | .bool,_,h=>by cases h
  | .str,_,h=>by cases h
  | .agg _,_,h=>by cases h
  | .aX _,_,h=>by cases h
  | .own _ _ _,_,h=>by cases h
  | .aU _ _ _,_,h=>by cases h
  | .iq _,_,h=>by cases h
  | .two _ _,_,h=>by cases h
def VR (n:Nat):GO→GO→Prop
 | .row cs el,.row cs' Uz=>Uz=el∧ca cs cs'∧aA n cs'=true
 | .tok f sz e,.tok f' bp e'=>f=f'∧sz=bp∧e=e'
 | .defers a,.defers b=>a=b
 | .map es,.map es'=>(es'=es∧bt es=true)∨∃ l,es'=ab l∧iJ (aj es) l∧aA n l=true
 | .aU fs sz e,.aU xF bp e'=>fs=xF∧sz=bp∧e=e'
 | .lS ot m left _ t,.lS mid' m' wH cur t'=>ot=mid'∧m=m'∧left=wH∧t=t'∧ot < n∧cur=none
 | .fk l p,.fk l' p'=>l'=l∧p'=p
 | .dm es sz e,.dm es' bp e'=>bp=sz∧e'=e∧iJ es es'∧aA n es'=true
 | _,.dead=>True
 | _,_=>False
def VS:GO→GO→GO→Prop
 | .loop _ _ fn sl n ps pP bd d _,.loop b p _ _ _ _ _ _ _ dn,go=>go=.loop b p fn sl n ps pP bd d dn
 | _,_,_=>False
theorem EN {n:Nat} {o o':GO} (h:yl o o'=true):VR n o' o:=by
 cases o with
 | tok f sz e=>
  cases o' with
  | tok f' bp e'=>
   simp only [yl,Bool.and_eq_true] at h
   exact ⟨of_decide_eq_true h.1,Nat.eq_of_beq_eq_true h.2.1,Nat.eq_of_beq_eq_true h.2.2⟩
  | _=>cases h
 | defers a=>
  cases o' with
  | defers b=>cases a <;> cases b <;> first | rfl | cases h
  | _=>cases h
 | dead=>cases o' <;> trivial
 | _=>cases h
theorem JX {k:Bg} {o o':GO} (h:OW k o o'=true):VS o o' (Nl k o):=by
 cases o with
 | loop b p fn sl n ps pP bd d dn=>
  cases o' with
  | loop b' p' SP Ro n' SQ JY Rs d' dn'=>
   obtain ⟨rfl,rfl,rfl⟩:=Bg.Dx (show k.is b' p' dn'=true from h)
   rfl
  | _=>cases h
 | _=>cases h
theorem od (a:AV):a.entries=ab a.cY:=by cases a <;> rfl
theorem fJ {n:Nat} {vs:List AV}:∀ {g:List GL} {B G:List GO} {l l':List AV},iS g G=some l→ca l l'→Fq l l'→uF n g l'∧Gt n g=true→aA n l'=true→cN vs g B G=true →
  ∀ id go,nth (cJ vs g B l') id=some go→∃ go',nth G id=some go'∧(VR n go' go∨∃ Fp,nth B id=some Fp∧VS Fp go' go)
 | [],B,G,l,l',_,_,_,_,_,_,id,go,h=>by simp [cJ,nth] at h
 | x :: g,[],G,l,l',_,_,_,_,_,ht,_,_,_=>by cases x <;> cases G <;> cases ht
 | x :: g,_ :: _,[],l,l',_,_,_,_,_,ht,_,_,_=>by cases x <;> cases ht
 | .row m :: g,b :: B,o :: G,l,l',hg,hw,hx,qp,hu,ht,id,go,h=>by
   obtain ⟨BU,Cj⟩:Nn b o=true∧cN vs g B G=true:=by
    rw [← Bool.and_eq_true]
    cases o <;> exact ht
   cases o with
   | row cs el=>
    have nj:SO b=el:=by
     cases b <;> first | (cases BU; done) | exact Nat.eq_of_beq_eq_true BU
    change (match iS g G with
     | some r=>bif Nat.beq cs.length m then some (cs++r) else none
     | none=>none)=some l at hg
    split at hg
    ·rename_i r hr
     cases hm:Nat.beq cs.length m with
     | false=>rw [hm] at hg; cases hg
     | true=>
      rw [hm] at hg
      cases hg
      have hm:=Nat.eq_of_beq_eq_true hm
      obtain ⟨x,y,rfl,k1,k2,k3⟩:=hw.split
      rw [ef,Bool.and_eq_true] at hu
      have e1:(x++y).take m=x:=by rw [← hm,← k3,List.take_left]
      have e2:(x++y).drop m=y:=by rw [← hm,← k3,List.drop_left]
      simp only [cJ,e1,e2] at h
      cases id with
      | zero=>simp only [nth] at h; cases h; exact ⟨.row cs el,rfl,.inl ⟨nj,k1,hu.1⟩⟩
      | succ id=>exact fJ hr k2 (by obtain ⟨x',y',Yg,k1',Jk,ZQ⟩:=hx.split; have:=List.append_inj Yg (by rw [k3,ZQ]); rw [this.2]; exact Jk) (by rw [← e2]; exact qp) hu.2 Cj id go h
    ·cases hg
   | _=>cases hg
 | .tok loc sz e :: g,b :: B,o :: G,l,l',hg,hw,hx,qp,hu,ht,id,go,h=>by
   cases o with
   | tok f bp e'=>
    change (bif Nat.beq sz bp&&Nat.beq e e' then iS g G else none)=some l at hg
    change (decide (f=Gs vs loc)&&cN vs g B G)=true at ht
    rw [Bool.and_eq_true] at ht
    cases hm:(Nat.beq sz bp&&Nat.beq e e') with
    | false=>rw [hm] at hg; cases hg
    | true=>
     rw [hm] at hg
     rw [Bool.and_eq_true] at hm
     have q1:=Nat.eq_of_beq_eq_true hm.1
     have q2:=Nat.eq_of_beq_eq_true hm.2
     simp only [cJ] at h
     cases id with
     | zero=>
      simp only [nth] at h
      cases h
      exact ⟨.tok f bp e',rfl,.inl ⟨of_decide_eq_true ht.1,q1.symm,q2.symm⟩⟩
     | succ id=>exact fJ hg hw hx qp hu ht.2 id go h
   | _=>cases hg
 | .dead :: g,b :: B,o :: G,l,l',hg,hw,hx,qp,hu,ht,id,go,h=>by
   simp only [cJ] at h
   have ov:iS g G=some l:=by cases o <;> exact hg
   have Cj:cN vs g B G=true:=by cases o <;> exact ht
   cases id with
   | zero=>
    simp only [nth] at h
    cases h
    exact ⟨o,rfl,.inl (by cases o <;> trivial)⟩
   | succ id=>exact fJ ov hw hx qp hu Cj id go h
 | .lp k :: g,b :: B,o :: G,l,l',hg,hw,hx,qp,hu,ht,id,go,h=>by
   simp only [cJ] at h
   have ov:iS g G=some l:=by cases o <;> exact hg
   change (OW k b o&&cN vs g B G)=true at ht
   rw [Bool.and_eq_true] at ht
   cases id with
   | zero=>
    simp only [nth] at h
    cases h
    exact ⟨o,rfl,.inr ⟨b,rfl,JX ht.1⟩⟩
   | succ id=>exact fJ ov hw hx qp hu ht.2 id go h
 | .bq :: g,b :: B,o :: G,l,l',hg,hw,hx,qp,hu,ht,id,go,h=>by
   simp only [cJ] at h
   have ov:iS g G=some l:=by cases o <;> exact hg
   change (yl b o&&cN vs g B G)=true at ht
   rw [Bool.and_eq_true] at ht
   cases id with
   | zero=>
    simp only [nth] at h
    cases h
    exact ⟨o,rfl,.inl (EN ht.1)⟩
   | succ id=>exact fJ ov hw hx qp hu ht.2 id go h
 | .map :: g,b :: B,o :: G,l,l',hg,hw,hx,qp,hu,ht,id,go,h=>by
   cases o with
   | map es=>
    change (match iS g G with
     | some r=>some (AV.list .dP 2 (aj es) :: r)
     | none=>none)=some l at hg
    change (bt es&&cN vs g B G)=true at ht
    rw [Bool.and_eq_true] at ht
    split at hg
    ·rename_i r hr
     cases hg
     cases l' with
     | nil=>exact hw.elim
     | cons a l'=>
      simp only [aA,Bool.and_eq_true] at hu
      simp only [cJ,dq,List.tail_cons] at h
      cases id with
      | zero=>
       simp only [nth] at h
       cases h
       refine ⟨.map es,rfl,.inl (.inl ⟨?_,ht.1⟩)⟩
       rw [od,hx.2.1 ht.1]
       exact lV es
      | succ id=>exact fJ hr hw.2 hx.2.2.2 qp hu.2 ht.2 id go h
    ·cases hg
   | _=>cases hg
 | .Gr :: g,b :: B,o :: G,l,l',hg,hw,hx,qp,hu,ht,id,go,h=>by
   have Cj:cN vs g B G=true:=by cases o <;> exact ht
   cases o with
   | fk s pos=>
    change (match iS g G with
     | some r=>some (AV.str s :: AV.int .i64 pos :: r)
     | none=>none)=some l at hg
    split at hg
    ·rename_i r hr
     cases hg
     match l',hw,hx,hu,h with
     | [],hw,_,_,_=>exact hw.elim
     | [_],hw,_,_,_=>exact hw.2.elim
     | a :: a' :: l',hw,hx,hu,h=>
      simp only [aA,Bool.and_eq_true] at hu
      simp only [cJ,dq,List.tail_cons] at h
      have e1:=hx.1 (by simp [AV.exact])
      have e2:=hx.2.2.2.1 (by simp [AV.exact])
      subst e1 e2
      cases id with
      | zero=>
       simp only [nth] at h
       cases h
       exact ⟨.fk s pos,rfl,.inl ⟨rfl,by simp [AV.jL]⟩⟩
      | succ id=>exact fJ hr hw.2.2 hx.2.2.2.2.2.2 qp hu.2.2 Cj id go h
    ·cases hg
   | _=>cases hg
 | .dm sz e :: g,b :: B,o :: G,l,l',hg,hw,hx,qp,hu,ht,id,go,h=>by
   have Cj:cN vs g B G=true:=by cases o <;> exact ht
   cases o with
   | dm es bp e'=>
    change (match iS g G with
     | some r=>bif Nat.beq sz bp&&Nat.beq e e' then some (AV.list .dP bp es :: r) else none
     | none=>none)=some l at hg
    split at hg
    ·rename_i r hr
     cases hm:(Nat.beq sz bp&&Nat.beq e e') with
     | false=>rw [hm] at hg; cases hg
     | true=>
     rw [hm] at hg
     rw [Bool.and_eq_true] at hm
     have q1:=Nat.eq_of_beq_eq_true hm.1
     have q2:=Nat.eq_of_beq_eq_true hm.2
     cases hg
     cases l' with
     | nil=>exact hw.elim
     | cons a l'=>
      simp only [aA,Bool.and_eq_true] at hu
      simp only [cJ,dq,List.tail_cons] at h
      cases id with
      | zero=>
       simp only [nth] at h
       cases h
       exact ⟨.dm es bp e',rfl,.inl ⟨q1,q2,hx.2.2.1,qp.1.1⟩⟩
      | succ id=>exact fJ hr hw.2 hx.2.2.2 ⟨qp.1.2,qp.2⟩ hu.2 Cj id go h
    ·cases hg
   | _=>cases hg
 | .aU sz e :: g,b :: B,o :: G,l,l',hg,hw,hx,qp,hu,ht,id,go,h=>by
   have Cj:cN vs g B G=true:=by cases o <;> exact ht
   cases o with
   | aU fs bp e'=>
    change (match iS g G with
     | some r=>bif Nat.beq sz bp&&Nat.beq e e' then some (AV.list .dP 1 (bZ fs) :: r) else none
     | none=>none)=some l at hg
    split at hg
    ·rename_i r hr
     cases hm:(Nat.beq sz bp&&Nat.beq e e') with
     | false=>rw [hm] at hg; cases hg
     | true=>
     rw [hm] at hg
     rw [Bool.and_eq_true] at hm
     have q1:=Nat.eq_of_beq_eq_true hm.1
     have q2:=Nat.eq_of_beq_eq_true hm.2
     cases hg
     cases l' with
     | nil=>exact hw.elim
     | cons a l'=>
      simp only [aA,Bool.and_eq_true] at hu
      simp only [cJ,dq,List.tail_cons] at h
      cases id with
      | zero=>
       simp only [nth] at h
       cases h
       refine ⟨.aU fs bp e',rfl,.inl ⟨?_,q1.symm,q2.symm⟩⟩
       rw [hx.2.1 (uy fs)]
       exact (rP fs).symm
      | succ id=>exact fJ hr hw.2 hx.2.2.2 qp hu.2 Cj id go h
    ·cases hg
   | _=>cases hg
 | .pX :: g,b :: B,o :: G,l,l',hg,hw,hx,qp,hu,ht,id,go,h=>by
   have Cj:cN vs g B G=true:=by cases o <;> exact ht
   cases o with
   | map es=>
    change (match iS g G with
     | some r=>some (AV.list .dP 2 (aj es) :: r)
     | none=>none)=some l at hg
    split at hg
    ·rename_i r hr
     cases hg
     cases l' with
     | nil=>exact hw.elim
     | cons a l'=>
      simp only [aA,Bool.and_eq_true] at hu
      simp only [cJ,dq,List.tail_cons] at h
      cases id with
      | zero=>
       simp only [nth] at h
       cases h
       exact ⟨.map es,rfl,.inl (.inr ⟨a.cY,od a,hx.2.2.1,qp.1.1⟩)⟩
      | succ id=>exact fJ hr hw.2 hx.2.2.2 ⟨qp.1.2,qp.2⟩ hu.2 Cj id go h
    ·cases hg
   | _=>cases hg
 | .lS ot :: g,b :: B,o :: G,l,l',hg,hw,hx,qp,hu,ht,id,go,h=>by
   obtain ⟨BU,Cj⟩:No b o=true∧cN vs g B G=true:=by
    rw [← Bool.and_eq_true]
    cases o <;> exact ht
   cases o with
   | lS mid' k left cur t=>
    have nj:SN b=t:=by
     cases b <;> first | (cases BU; done) | exact Nat.eq_of_beq_eq_true BU
    change (match iS g G with
     | some r=>bif Nat.beq ot mid' then some (AV.int .i64 k :: AV.list .dP 1 (bZ left) :: r) else none
     | none=>none)=some l at hg
    split at hg
    ·rename_i r hr
     cases hm:Nat.beq ot mid' with
     | false=>rw [hm] at hg; cases hg
     | true=>
     rw [hm] at hg
     have q1:=Nat.eq_of_beq_eq_true hm
     subst q1
     cases hg
     have VT:=qp.2
     simp only [Gt,Bool.and_eq_true] at VT
     match l',hw,hx,hu,h with
     | [],hw,_,_,_=>exact hw.elim
     | [_],hw,_,_,_=>exact hw.2.elim
     | a :: a' :: l',hw,hx,hu,h=>
      simp only [aA,Bool.and_eq_true] at hu
      simp only [cJ,dq,List.tail_cons] at h
      have e1:=hx.1 (by simp [AV.exact])
      have e2:=hx.2.2.2.2.1 (uy left)
      subst e1
      cases id with
      | zero=>
       simp only [nth] at h
       cases h
       refine ⟨.lS ot k left cur t,rfl,.inl ⟨rfl,by simp [AV.jL],?_,nj.symm,iI VT.1,rfl⟩⟩
       rw [e2]
       exact (rP left).symm
      | succ id=>exact fJ hr hw.2.2 hx.2.2.2.2.2.2 ⟨qp.1,VT.2⟩ hu.2.2 Cj id go h
    ·cases hg
   | _=>cases hg
theorem cq {vs:List AV}:∀ {g:List GL} {B:List GO} {l:List AV},(cJ vs g B l).length=g.length
 | [],_,_=>rfl
 | .row m :: g,B,l=>by simp [cJ,cq (g:=g)]
 | .tok _ _ _ :: g,B,l=>by simp [cJ,cq (g:=g)]
 | .dead :: g,B,l=>by simp [cJ,cq (g:=g)]
 | .lp _ :: g,B,l=>by simp [cJ,cq (g:=g)]
 | .bq :: g,B,l=>by simp [cJ,cq (g:=g)]
 | .map :: g,B,l=>by simp [cJ,cq (g:=g)]
 | .dm _ _ :: g,B,l=>by simp [cJ,cq (g:=g)]
 | .Gr :: g,B,l=>by simp [cJ,cq (g:=g)]
 | .aU _ _ :: g,B,l=>by simp [cJ,cq (g:=g)]
 | .pX :: g,B,l=>by simp [cJ,cq (g:=g)]
 | .lS _ :: g,B,l=>by simp [cJ,cq (g:=g)]
theorem fx.ZR {R0:ai} {w0:World} {Nq:RO} {Fp go' go:GO} {ro:RO} (e:Ext R0 w0 R w) (h0:fx R0 w0 Fp Nq) (hle:bW Nq ro) (h:fx R' w go' ro) (k:VS Fp go' go):fx R w go ro:=by
 cases Fp with
 | loop b p fn sl n ps pP bd d dn=>
  cases go' with
  | loop b' p' SP Ro n' SQ JY Rs d' dn'=>
   change go=_ at k
   subst k
   cases Nq with
   | bJ bb=>
    simp only [bW] at hle
    subst hle
    obtain ⟨⟨r0,ZS,l1,l2,l3,l4,l5,l6,l7,l8,l9,l10⟩,l11⟩:=h0
    obtain ⟨⟨r,db,m1,m2,m3,m4,m5,m6,m7,m8,m9,m10⟩,m11⟩:=h
    obtain ⟨r1,q1,q2,q3,q4,q5,q6⟩:=e.lp bb r0 l1
    have hr:r1=r:=by
     have:=q1.symm.trans m1
     injection this with this
     injection this with this
    subst hr
    exact ⟨⟨r1,ZS,q1,m2,m3,by rw [q2]; exact mg.mono e l4,by rw [q2]; exact l5,by rw [q3]; exact l6,by rw [q4]; exact l7,by rw [q5]; exact l8,by rw [q6]; exact l9,e.bJ l10⟩,l11⟩
   | none=>exact h0.elim
   | bl=>exact h0.elim
   | tok _ _ _=>exact h0.elim
   | aU _=>exact h0.elim
  | _=>exact k.elim
 | _=>exact k.elim
theorem cH.cut {n:Nat}:∀ {es:List (AV × AV)} {ax:List MapEntry},eQ (aj es)=true→cH R w es ax→cH (R.cut n) w es ax
 | [],[],_,_=>trivial
 | [],_ :: _,_,h=>h.elim
 | _ :: _,[],_,h=>h.elim
 | (k,v) :: es,en :: ax,he,h=>by
  simp only [aj,eQ,AV.exact,Bool.and_true,Bool.and_eq_true] at he
  exact ⟨h.1.move (mQ R n) (gu n (lB he.1.1)),h.2.1.move (mQ R n) (gu n (lB he.1.2)),cH.cut he.2 h.2.2⟩
theorem Av {n:Nat} {v:AV} (h:v.under n=true) (k:v.aL=true):aA n v.cells=true:=by
 cases v <;> first | exact h | (simp [AV.aL] at k; done) | (simp only [AV.cells,aA,Bool.and_true]; exact h)
theorem uH {n sz:Nat}:∀ {es es':List AV},iJ es es'→cK sz es→aA n es'=true→cK sz es'∧ca (ar es) (ar es')∧aA n (ar es')=true
 | [],[],_,_,_=>⟨(fun e he=>by simp at he),trivial,rfl⟩
 | e :: es,e' :: es',h,k,sf=>by
  obtain ⟨h1,h2⟩:=h
  simp only [aA,Bool.and_eq_true] at sf
  obtain ⟨q1,q2⟩:=k e (by simp)
  obtain ⟨i1,i2,i3⟩:=uH h2 (fun x hx=>k x (by simp [hx])) sf.2
  have hc:=h1.cells q2
  have ht:e'.aL=true:=by rw [h1.aX,q2]
  refine ⟨fun x hx=>?_,hc.append i2,by show aA n (e'.cells++ar es')=true; rw [ef,Av sf.1 ht,i3]; rfl⟩
  rcases List.mem_cons.1 hx with rfl | hx
  ·exact ⟨by rw [← hc.length,q1],ht⟩
  ·exact i1 x hx
 | [],_ :: _,h,_,_=>h.elim
 | _ :: _,[],h,_,_=>h.elim
theorem lZ.head {l r:List AV} (h:lZ l r):(AV.cY (dq l)).length=(AV.cY (dq r)).length:=by
 cases l <;> cases r <;> first | rfl | exact h.1 | exact h.elim
theorem lZ.tail {l r:List AV} (h:lZ l r):lZ l.tail r.tail:=by
 cases l <;> cases r <;> first | exact h | exact h.2 | exact h.elim
theorem cr:∀ (g:List GL) {l r:List AV} (i:Nat),lZ l r→js g l i=js g r i
 | [],_,_,_,_=>rfl
 | .dm _ _ :: g,l,r,0,h=>h.head
 | .dm _ _ :: g,l,r,i+1,h=>cr g i h.tail
 | .row _ :: g,l,r,0,h=>rfl
 | .row n :: g,l,r,i+1,h=>cr g i (h.drop n)
 | .map :: g,l,r,0,h=>rfl
 | .map :: g,l,r,i+1,h=>cr g i h.tail
 | .Gr :: g,l,r,0,h=>rfl
 | .Gr :: g,l,r,i+1,h=>cr g i h.tail.tail
 | .aU _ _ :: g,l,r,0,h=>rfl
 | .aU _ _ :: g,l,r,i+1,h=>cr g i h.tail
 | .pX :: g,l,r,0,h=>rfl
 | .pX :: g,l,r,i+1,h=>cr g i h.tail
 | .lS _ :: g,l,r,0,h=>rfl
 | .lS _ :: g,l,r,i+1,h=>cr g i h.tail.tail
 | .tok _ _ _ :: g,l,r,0,h=>rfl
 | .tok _ _ _ :: g,l,r,i+1,h=>cr g i h
 | .dead :: g,l,r,0,h=>rfl
 | .dead :: g,l,r,i+1,h=>cr g i h
 | .lp _ :: g,l,r,0,h=>rfl
 | .lp _ :: g,l,r,i+1,h=>cr g i h
 | .bq :: g,l,r,0,h=>rfl
 | .bq :: g,l,r,i+1,h=>cr g i h
theorem cH.SR {n:Nat}:∀ {es:List (AV × AV)} {l:List AV} {ax:List MapEntry},iJ (aj es) l→aA n l=true→cH R w es ax→cH (R.cut n) w (ab l) ax
 | [],[],[],_,_,_=>trivial
 | [],[],_ :: _,_,_,h=>h.elim
 | [],_ :: _,_,h,_,_=>h.elim
 | (_,_) :: _,[],_,h,_,_=>h.elim
 | (_,_) :: _,_ :: _,[],_,_,h=>h.elim
 | (k,v) :: es,a :: l,en :: ax,hd,hu,h=>by
  obtain ⟨d1,d2⟩:=hd
  simp only [aA,Bool.and_eq_true] at hu
  have hc:=d1.cells rfl
  have hl:[k,v].length=a.cells.length:=hc.length
  cases a with
  | agg cs=>
   match cs,hc,hl with
   | [k',v'],hc,_=>
    have OX:aA n [k',v']=true:=hu.1
    simp only [aA,Bool.and_true,Bool.and_eq_true] at OX
    exact ⟨(hc.1 _ _ _ h.1).move (mQ R n) OX.1,(hc.2.1 _ _ _ h.2.1).move (mQ R n) OX.2,cH.SR d2 hu.2 h.2.2⟩
   | [],_,hl=>simp [AV.cells] at hl
   | [_],_,hl=>simp [AV.cells] at hl
   | _ :: _ :: _ :: _,_,hl=>simp [AV.cells] at hl
  | _=>simp [AV.cells] at hl
theorem fx.ZT {n:Nat} {go go':GO} {ro:RO} (h:fx R w go' ro) (k:VR n go' go):fx (R.cut n) w go ro:=by
 cases go with
 | dead=>
  cases ro with
  | none=>trivial
  | bl=>trivial
  | bJ b=>exact h.lt rfl
  | tok f b c=>exact h.lt rfl
  | aU ts=>exact fun j f b c hj=>h.lt ⟨j,f,c,hj⟩
 | row cs el=>
  cases go' with
  | row cs' Uz=>
   cases ro with
   | bJ b=>
    obtain ⟨vs,h1,h2,h3,h4⟩:=h
    obtain ⟨rfl,k⟩:=k
    exact ⟨vs,h1,(k.1.rel h2).move (mQ R n) k.2,h3,h4⟩
   | none=>exact h.elim
   | bl=>exact h.elim
   | tok _ _ _=>exact h.elim
   | aU _=>exact h.elim
  | _=>exact k.elim
 | tok f sz e=>
  cases go' with
  | tok f' bp e'=>
   obtain ⟨rfl,rfl,rfl⟩:=k
   cases ro with
   | bJ b=>exact h.elim
   | none=>exact h.elim
   | bl=>exact h
   | tok _ _ _=>exact h
   | aU _=>exact h.elim
  | _=>exact k.elim
 | defers a=>
  cases go' with
  | defers b=>
   change b=a at k
   subst k
   cases ro <;> exact h
  | _=>exact k.elim
 | map es=>
  cases go' with
  | map es'=>
   cases ro with
   | bJ b=>
    obtain ⟨ax,clock,h1,h2,h3⟩:=h
    rcases k with ⟨rfl,k2⟩ | ⟨l,rfl,k2,k3⟩
    ·exact ⟨ax,clock,h1,cH.cut k2 h2,h3⟩
    ·exact ⟨ax,clock,h1,cH.SR k2 k3 h2,h3⟩
   | none=>exact h.elim
   | bl=>exact h.elim
   | tok _ _ _=>exact h.elim
   | aU _=>exact h.elim
  | _=>exact k.elim
 | aU fs sz e=>
  cases go' with
  | aU xF bp e'=>
   obtain ⟨rfl,rfl,rfl⟩:=k
   cases ro <;> exact h
  | _=>exact k.elim
 | lS ot m left cur t=>
  cases go' with
  | lS mid' m' wH zy t'=>
   obtain ⟨rfl,rfl,rfl,rfl,k,rfl⟩:=k
   cases ro with
   | bJ b=>obtain ⟨bm,seen,c0,h1,h2,h3,h4,h5,h6,_⟩:=h; exact ⟨bm,seen,c0,iT.2 ⟨k,h1⟩,h2,h3,h4,h5,h6,fun i hi=>by cases hi⟩
   | none=>exact h.elim
   | bl=>exact h.elim
   | tok _ _ _=>exact h.elim
   | aU _=>exact h.elim
  | _=>exact k.elim
 | fk l p=>
  cases go' with
  | fk l' p'=>
   obtain ⟨rfl,rfl⟩:=k
   cases ro <;> exact h
  | _=>exact k.elim
 | dm es sz e=>
  cases go' with
  | dm es' bp e'=>
   obtain ⟨rfl,rfl,k,kc⟩:=k
   cases ro with
   | bJ b=>exact h.elim
   | none=>exact h.elim
   | aU _=>exact h.elim
   | bl=>
    have he:es'=[]:=h
    subst he
    exact List.eq_nil_of_length_eq_zero k.length.symm
   | tok f b c=>
    obtain ⟨h0,h1,cur,vs,h2,h3,h4,h5,h6,h7,h8,h9⟩:=h
    obtain ⟨k1,k2,k3⟩:=uH k h1 kc
    exact ⟨h0.trans k.length,k1,cur,vs,h2,h3,h4,h5,h6,(k2.rel h7).move (mQ R n) k3,h8,h9⟩
  | _=>exact k.elim
 | _=>cases go' <;> exact k.elim
theorem nP.ids:∀ {l:List Nat} {ds:List Deferred},nP R l ds→∀ id∈l,id < R.obj.length
 | [],[],_,id,hi=>by simp at hi
 | x :: l,d :: ds,h,id,hi=>by
  obtain ⟨⟨b,h1,_⟩,h2⟩:=h
  rcases List.mem_cons.1 hi with rfl | hi
  ·exact bu h1
  ·exact nP.ids h2 id hi
 | [],_ :: _,h,_,_=>h.elim
 | _ :: _,[],h,_,_=>h.elim
theorem nP.cut {n:Nat}:∀ {l:List Nat} {ds:List Deferred},nP R l ds→(∀ id∈l,id < n)→nP (R.cut n) l ds
 | [],[],_,_=>trivial
 | x :: l,d :: ds,h,hi=>by
  obtain ⟨⟨b,h1,h3⟩,h2⟩:=h
  exact ⟨⟨b,iT.2 ⟨hi x (by simp),h1⟩,h3⟩,nP.cut h2 fun id hm=>hi id (by simp [hm])⟩
 | [],_ :: _,h,_=>h.elim
 | _ :: _,[],h,_=>h.elim
theorem rS {n:Nat} {tmps:Array Value} {ae base:aT} (hT:mg R w β ae tmps):∀ {l:List (Tmp × Nat × Nat)},Dy ae l=true→mg (R.cut n) w β base tmps→mg (R.cut n) w β (mP l base) tmps
 | [],_,h=>h
 | (t,k,o) :: l,hl,h=>fun i hi=>by
  simp only [Dy,Bool.and_eq_true] at hl
  simp only [mP] at hi ⊢
  by_cases e:t=i
  ·subst e
   rw [ay]
   have h1:=hl.1
   split at h1
   ·rename_i k' o' hk
    rw [Bool.and_eq_true] at h1
    have e1:=Nat.eq_of_beq_eq_true h1.1
    have e2:=Nat.eq_of_beq_eq_true h1.2
    subst e1 e2
    obtain ⟨c,q1,q2⟩:=hT t (by rw [hk]; simp)
    rw [hk] at q2
    exact ⟨c,q1,q2⟩
   ·cases h1
  ·rw [aH e] at hi ⊢
   exact rS hT hl.2 h i hi
theorem b7.zk {t:b7} {v:t.ps.T} (hs:aJ s s') (h0:aY E R w β s a) (h:aY E R' w' β' s' a') (st:Step R w β s.boxes R' w' β' s'.boxes) (hd:t.dec s s'=some v) :
  aY E (R'.cut s.G.length) w' β' (t.st s v) a'∧Step R w β s.boxes (R'.cut s.G.length) w' β' (t.st s v).boxes:=by
 have hlen:=h0.g.len
 unfold b7.dec at hd
 cases dE:t.ok s s' with
 | false=>rw [dE] at hd; cases hd
 | true=>
 rw [dE] at hd
 simp only [cond_true] at hd
 unfold b7.ok at dE
 simp only [Bool.and_eq_true] at dE
 obtain ⟨⟨⟨⟨⟨k1,k2⟩,k3⟩,k4⟩,k5,k7,k8⟩,k6⟩:=dE
 obtain ⟨pre,vU⟩:=hs.sl
 obtain ⟨preB,Nr⟩:=hs.bx
 rw [vU,Aq] at k1
 rw [Nr,Aq] at k2
 have k3:=Dz k3
 have k4:=Nat.eq_of_beq_eq_true k4
 split at hd
 ·rename_i la lb lc g1 g2 g3
  cases hv:t.ps.EL (js t.g lc) (la++(lb++lc)) with
  | none=>rw [hv] at hd; cases hd
  | some v'=>
  rw [hv] at hd
  simp only [Option.bind_some] at hd
  cases zi:cN (t.nS v') t.g s.G s'.G with
  | false=>rw [zi] at hd; cases hd
  | true=>
  rw [zi] at hd
  cases hd
  have VU:∀ {ts:List Tmp} {l:List AV},uz s'.ae ts=some l→l.length=ts.length:=by
   intro ts
   induction ts with
   | nil=>intro l hl; simp only [uz] at hl; cases hl; rfl
   | cons t ts ih=>
    intro l hl
    unfold uz at hl
    split at hl
    ·split at hl
     ·rename_i hr
      cases hl
      simp [ih hr]
     ·cases hl
    ·cases hl
  have VV:∀ {bx:List (Nat × Nat)} {l:List AV},uA s'.boxes bx=some l→l.length=ym bx:=by
   intro bx
   induction bx with
   | nil=>intro l hl; simp only [uA] at hl; cases hl; rfl
   | cons x bx ih=>
    obtain ⟨k,m⟩:=x
    intro l hl
    unfold uA at hl
    split at hl
    ·split at hl
     ·rename_i cs _ _ r hr
      cases hm:Nat.beq cs.length m with
      | false=>rw [hm] at hl; cases hl
      | true=>
       rw [hm] at hl
       cases hl
       simp only [ym,List.length_append,ih hr,Nat.eq_of_beq_eq_true hm]
     ·cases hl
    ·cases hl
  obtain ⟨hw,hex⟩:=t.ps.JV _ hv
  have Ns:t.nS v=t.ps.jr (js t.g lc) v:=by
   unfold b7.nS
   congr 1
   funext i
   have hl:=hex.SM.trans (t.ps.mN (js t.g lc) (fun _=>0) v)
   have JP:=(hl.drop t.sl.length).drop (ym t.bx)
   rw [← VU g1,List.drop_left,← VV g2,List.drop_left,VU g1,VV g2] at JP
   exact (cr t.g i JP).symm
  have hu:aA s.G.length (t.nS v)=true:=by
   rw [Ns,t.ps.EM _ hv]
   exact t.ps.Cq _ k5 _
  rw [← Ns] at hw hex
  have OY:∃ xa xb xc,t.nS v=xa++(xb++xc)∧ca la xa∧ca lb xb∧ca lc xc∧xa.length=la.length∧xb.length=lb.length∧Fq lc xc:=by
   obtain ⟨xa,r,h1,h2,h3,h4⟩:=hw.split
   obtain ⟨xb,xc,rfl,h6,h7,h8⟩:=h3.split
   rw [h1] at hex
   obtain ⟨ya,yr,g1,_,g3,g4⟩:=hex.split
   obtain ⟨_,rfl⟩:=List.append_inj g1 (by rw [h4,g4])
   obtain ⟨yb,yc,k1,_,k3,k4⟩:=g3.split
   obtain ⟨_,rfl⟩:=List.append_inj k1 (by rw [h8,k4])
   exact ⟨xa,xb,xc,h1,h2,h6,h7,h4,h8,k3⟩
  obtain ⟨xa,xb,xc,hx,wa,wb,wc,Yq,ZU,ZV⟩:=OY
  have VW:aA s.G.length xa=true∧aA s.G.length xb=true∧aA s.G.length xc=true:=by
   rw [hx,ef,ef] at hu
   simp only [Bool.and_eq_true] at hu
   exact ⟨hu.1,hu.2.1,hu.2.2⟩
  have e1:(t.nS v).drop t.sl.length=xb++xc:=by rw [hx,← VU g1,← Yq,List.drop_left]
  have e2:(xb++xc).drop (ym t.bx)=xc:=by rw [← VV g2,← ZU,List.drop_left]
  have qp:uF s.G.length t.g xc:=by
   have hf:=((aF.Au s.G.length _ t.ps v).drop t.sl.length).drop (ym t.bx) (l:=(t.nS v).drop t.sl.length)
   rw [e1,e2] at hf
   exact ey t.g k7 hf
  have old:∀ {l:List AV} {cs:List Value},aD R w l cs→aA s.G.length l=true:=fun hr=>hr.under (by omega)
  have mv:=mQ R' s.G.length
  have UA:∀ k cs,cG s'.boxes k=some cs→uE R' w' β' k cs:=fun k cs hk=>h.b.box k cs hk
  have UP:∀ k cs,cG (rQ t.bx (xb++xc) s.boxes) k=some cs→uE (R'.cut s.G.length) w' β' k cs∧∃ cs',cG s'.boxes k=some cs':=fun k cs hk=>by
   refine As (K:=fun _=>False) UA g2 wb VW.2.1 (fun k cs _ h1 h2=>?_) k cs (fun h=>h) hk
   refine ⟨by rw [Nr]; exact Ap h1 h2 k2,?_⟩
   obtain ⟨⟨vs,el,_,h4,_⟩,_⟩:=h0.b.box k cs h2
   exact old h4
  have Yr:(t.st s v).G=cJ (t.nS v) t.g s.G xc:=by simp only [b7.st,e1,e2]
  have Ys:(t.st s v).boxes=rQ t.bx (xb++xc) s.boxes:=by simp only [b7.st,e1]
  have ZW:(t.st s v).ae=mP t.Rq (mO t.sl (xa++(xb++xc)) (uB t.W s.ae)):=by simp only [b7.st,hx]
  have ext:Ext R w (R'.cut s.G.length) w':=⟨st.ext.I,st.ext.cell,fun id ro hi=>by
   obtain ⟨ks,h1,h2⟩:=st.ext.obj id ro hi
   exact ⟨ks,iT.2 ⟨by have:=bu hi; omega,h1⟩,h2⟩,st.ext.lp⟩
  refine ⟨⟨⟨?_,fun id go ro h1 h2=>?_,fun i j ri rj b h1 h2=>h.g.inj i j ri rj b (iT.1 h1).2 (iT.1 h2).2,h.g.wf,fun g cs hg=>(h.g.bN g cs hg).move mv (bS _ (E.me g cs hg)),h.g.lo⟩,?_,?_,?_,?_⟩,?_⟩
  ·rw [Yr,cq,k4]
   have:=h.g.len
   have h3:s.G.length≤R'.obj.length:=by
    rcases Nat.lt_or_ge R'.obj.length s.G.length with bT | pd
    ·exfalso
     have hx:R'.obj.length < R.obj.length:=by omega
     obtain ⟨ks,h1,_⟩:=st.ext.obj R'.obj.length R.obj[R'.obj.length] (by rw [aR]; exact List.getElem?_eq_getElem hx)
     have:=bu h1
     omega
    ·exact pd
   simp [ai.cut]
   omega
  ·rw [Yr] at h1
   obtain ⟨go',h3,h4⟩:=fJ g3 wc ZV ⟨qp,k8⟩ VW.2.2 zi id go h1
   rcases h4 with h4 | ⟨Fp,h5,h4⟩
   ·exact (h.g.obj id go' ro h3 (iT.1 h2).2).ZT h4
   ·have bT:=bu h5
    rw [← hlen] at bT
    obtain ⟨Nq,h6⟩:∃ Nq,nth R.obj id=some Nq:=⟨R.obj[id],by rw [aR]; exact List.getElem?_eq_getElem bT⟩
    obtain ⟨ks,h7,h8⟩:=ext.obj id Nq h6
    have:ks=ro:=Option.some.inj (h7.symm.trans h2)
    subst this
    exact fx.ZR ext (h0.g.obj id Fp Nq h5 h6) h8 (h.g.obj id go' ks h3 (iT.1 h2).2) h4
  ·rw [Ys]
   refine ⟨fun k cs hk=>(UP k cs hk).1,fun k k' cs cs' hk iE he=>?_⟩
   obtain ⟨_,c1,Bh⟩:=UP k cs hk
   obtain ⟨_,c2,JK⟩:=UP k' cs' iE
   exact h.b.inj k k' c1 c2 Bh JK he
  ·rw [ZW]
   have hT:uC (R'.cut s.G.length) w' β' (fun _=>False) (mO t.sl (xa++(xb++xc)) (uB t.W s.ae)) a'.tmps:=by
    refine rR mv h.t g1 (l':=xa) (r:=lb++lc) (r':=xb++xc) (wa.append (wb.append wc)) Yq.symm VW.1 (uD fun i hi hn=>?_)
    have ZX:Rr t.sl t.W i=false:=by
     simp only [Rr,Bool.or_eq_false_iff]
     refine ⟨?_,?_⟩
     ·cases hc:Jm t.sl i with
      | false=>rfl
      | true=>exact absurd (.inr (.inl (yn.1 hc))) hi
     ·cases hc:Jm t.W i with
      | false=>rfl
      | true=>exact absurd (.inl (yn.1 hc)) hi
    have hk:=yp ZX k1
    rw [← vU] at hk
    obtain ⟨c,h1,h2⟩:=h.t i (by rw [hk]; exact hn)
    rw [hk] at h2
    refine ⟨c,h1,?_⟩
    obtain ⟨c0,_,h4⟩:=h0.t i hn
    revert h2 h4
    cases lk s.ae i with
    | none=>exact fun _ _=>trivial
    | lp k off=>exact fun h2 _=>h2
    | v x=>exact fun h2 h4=>Rel.move mv (Rel.under (by omega) h4) h2
   exact rS h.t k6 (fun i hi=>hT i (fun h=>h) hi)
  ·show a'.tmps.size=s.n
   rw [h.n,hs.n]
  ·show nP _ s.marks a'.defers
   have:=h.d
   rw [k3] at this
   exact this.cut fun id hid=>by have:=h0.d.ids id hid; omega
  ·refine ⟨ext,st.os,st.tape,st.output,st.size,st.bq,fun b hb ho=>st.own b hb ?_,st.im⟩
   rcases ho with ho | ⟨k,cs,hk,rfl⟩
   ·exact .inl (Ar ho)
   ·rw [Ys] at hk
    obtain ⟨_,c1,Bh⟩:=UP k cs hk
    exact .inr ⟨k,c1,Bh,rfl⟩
 ·cases hd
end zk
end Go.Am
namespace Go.Am
open Go
def fQ:aT→aT
 | []=>[]
 | .put d (.lp _ _) :: l=>.put d .none :: fQ l
 | .put d x :: l=>.put d x :: fQ l
 | .kill _ :: l=>fQ l
def SV.vX:SV→SV
 | .lp _ _=>.none
 | x=>x
theorem qS (t:Nat):∀ l:aT,lk (fQ l) t=(lk l t).vX
 | []=>rfl
 | .put d x :: l=>by
  cases x <;> simp only [fQ] <;> by_cases e:d=t <;> first | (subst e; rw [ay,ay]; rfl) | (rw [aH e,aH e]; exact qS t l)
 | .kill d :: l=>by
  simp only [fQ,lk]
  rw [qS t l]
  cases lk l t with
  | lp k off=>
   by_cases e:k=d
   ·subst e; simp [SV.vX]
   ·simp [kY e,SV.vX]
  | _=>rfl
theorem lC:∀ l:aT,C2 (fQ l)=true
 | []=>rfl
 | .put d x :: l=>by
  cases x <;> simp only [fQ,C2] <;> exact lC l
 | .kill d :: l=>by simp only [fQ]; exact lC l
def VX (E:Env) (Q:Exit→St→Prop) (s:St) (G':List GO):Prop:=
 match nth G' (s.G.length+1) with
 | some (.loop busy pending _ _ _ _ _ _ _ done)=>(busy=false∨done=true) ∧
  match pending with
  | none=>Q .normal ⟨s.ae,s.boxes,aw G' (s.G.length+1) .dead,s.G.length :: s.marks,s.ro,s.n⟩
  | some c=>eM E c Q ⟨s.ae,s.boxes,aw G' (s.G.length+1) .dead,s.G.length :: s.marks,s.ro,s.n⟩
 | _=>False
theorem Cr {busy done:Bool} (h:busy=false∨done=true):(if done=true then LoopState.done else if busy=true then LoopState.busy else LoopState.ready)≠LoopState.busy:=by
 rcases h with rfl | rfl
 ·cases done <;> simp
 ·simp
theorem eM.rangeFunc {E:Env} {Q:Exit→St→Prop} {s:St} (fp:Nat) {g:Operand} {ps:Array Tmp} {assign body:Code} (bA:s.ro=none) {f:FuncId} {first cap:List AV} (hg:bk E s.ae g=.v (.fn f first cap))
  (h:bU E f (first++[.yield (s.G.length+1)]++cap) (s.G++[.defers true]++[.loop false none fp (fQ s.ae) s.n ps.toList assign body s.G.length false]) (fun _ G'=>VX E Q s G')) :
  eM E (.rangeFunc g ps assign body) Q s:=fun R w β a F hr hf=>by
 rw [bA] at hf
 have Su:F=Fence.wide:=hf
 subst Su
 refine wpIn_rangeFunc fun fn _=>?_
 have rg:=aI hr g
 rw [hg] at rg
 have Yt:Rel R w (.fn f first cap) (a.eval g):=rg
 -- the block for the deferred calls
 have Sy:fx (R.add (.bJ w.heap.size)) (w.alloc (.deferred (some []))) (.defers true) (.bJ w.heap.size):=heap_alloc_new w _
 have h1:=hr.ke (.deferred (some [])) (.defers true) (.bJ w.heap.size) (by exact fun _ h=>h) Sy
 have s1:=cp hr (.deferred (some [])) (.bJ w.heap.size) (by exact fun _ h=>h)
 have dG:(w.alloc (.deferred (some []))).heap.size=w.heap.size+1:=by simp
 generalize Vx:w.alloc (.deferred (some []))=w1 at *
 generalize ZY:R.add (.bJ w.heap.size)=R1 at *
 -- the loop's record
 let sx:Loop:={ state:=.ready,pending:=none,fn:=fn,tmps:=a.tmps,params:=ps,assign:=assign,body:=body,defers:=w.heap.size }
 have FQ:nth R1.obj s.G.length=some (.bJ w.heap.size):=by rw [← ZY]; exact fa hr _
 have e2:Ext R1 w1 (R1.add (.bJ w1.heap.size)) (w1.alloc (.loop sx)):=fH h1.g.wf _ _
 have Sz:fx (R1.add (.bJ w1.heap.size)) (w1.alloc (.loop sx)) (.loop false none fp (fQ s.ae) s.n ps.toList assign body s.G.length false) (.bJ w1.heap.size):=by
  refine ⟨⟨sx,w.heap.size,heap_alloc_new w1 _,rfl,rfl,fun i hi=>?_,hr.n,by simp [sx],rfl,rfl,rfl,e2.bJ FQ⟩,lC _⟩
  rw [qS] at hi ⊢
  have cj:lk s.ae i≠.none:=fun e=>hi (by rw [e]; rfl)
  obtain ⟨c,k1,k2⟩:=hr.t i cj
  refine ⟨c,k1,?_⟩
  cases hx:lk s.ae i with
  | none=>exact absurd hx cj
  | lp k off=>rw [hx] at hi; exact absurd rfl hi
  | v x=>
   rw [hx] at k2
   exact Rel.mono (s1.ext.trans e2) (show Rel R w x c from k2)
 have h2:=h1.ke (.loop sx) (.loop false none fp (fQ s.ae) s.n ps.toList assign body s.G.length false) (.bJ w1.heap.size) (by exact fun _ h=>h) Sz
 have s2:=cp h1 (.loop sx) (.bJ w1.heap.size) (by exact fun _ h=>h)
 have SS:nth (R1.add (.bJ w1.heap.size)).obj (s.G.length+1)=some (.bJ w1.heap.size):=by
  have:=fa h1 (.bJ w1.heap.size)
  simpa [St.cV] using this
 have st:=s1.trans s2
 generalize ZZ:R1.add (.bJ w1.heap.size)=R2 at *
 generalize SD:a.eval g=fv at Yt
 cases Yt with
 | @fn _ _ _ vs us q1 q2=>
 refine ⟨w.heap.size+1,[{ target:=.collected w.heap.size,args:=#[] }],w1.alloc (.loop sx),{ target:=.fn (.func f) ⟨us⟩,args:=⟨vs⟩++#[.func (.yield (w.heap.size+1)) #[] #[]] },w1.alloc (.loop sx),f,
  ⟨vs++[.func (.yield (w.heap.size+1)) #[] #[]]++us⟩,w1.alloc (.loop sx),?_,?_,?_,?_,?_,?_⟩
 ·have:Fence.wide.round=none:=rfl
  rw [this,run_enterLoop_outer,Vx]
 ·simp only [resolve,SD,Deferred.ofValue,Sem.run_pure]
  simp [Act.eval]
 ·intro f' _
  exact trivial
 ·have:=lq (P:=E.P) h.1 (⟨vs++[.func (.yield (w.heap.size+1)) #[] #[]]++us⟩) (w1.alloc (.loop sx))
  simpa [invoke] using this
 ·intro hc; cases hc
 ·have hG:(s.cV (.defers true)).cV (.loop false none fp (fQ s.ae) s.n ps.toList assign body s.G.length false)=s.bL (s.G++[.defers true]++[.loop false none fp (fQ s.ae) s.n ps.toList assign body s.G.length false]):=rfl
  have Rt:Rel R2 (w1.alloc (.loop sx)) (.yield (s.G.length+1)) (.func (.yield (w.heap.size+1)) #[] #[]):=by
   rw [← dG]
   exact .yield SS
  refine (h.2 R2 (w1.alloc (.loop sx)) _ h2.g ((((q1.mono st.ext).append (.one Rt)).append (q2.mono st.ext)))).mono ?_
  intro e w3 he
  cases e with
  | panicked c=>exact he.elim
  | outgrown=>exact he.elim
  | returned c=>
   obtain ⟨r,G',R3,hQ,di,Z0,VY⟩:=he
   obtain ⟨p1,p2⟩:=h2.qM Z0 VY
   unfold VX at hQ
   split at hQ
   ·rename_i busy pending ff sl nn pp pP bd dd done OZ
    obtain ⟨Z1,hQ⟩:=hQ
    have SU:nth R3.obj (s.G.length+1)=some (.bJ w1.heap.size):=VY.ext.bJ SS
    obtain ⟨⟨r3,db,l1,l2,l3,_,_,_,_,_,_,_⟩,_⟩:=p1.g.obj _ _ _ OZ SU
    have O0:r3.state≠.busy:=by rw [l2]; exact Cr Z1
    have Z2:w3.heap[w.heap.size+1]?=some (.loop r3):=by rw [← dG]; exact l1
    refine ⟨r3.pending,_,run_endLoop Z2 O0,?_⟩
    rw [l3]
    -- the record is dead
    have SX:nth R3.obj s.G.length=some (.bJ w.heap.size):=VY.ext.bJ (by rw [← ZZ] at e2 ⊢; exact e2.bJ FQ)
    have key:∀ x:Obj,nq x→(∀ r,Obj.loop r3=.loop r→∃ r',x=.loop r'∧pu r r')→aY E R3 (World.put w3 w1.heap.size x) β ⟨s.ae,s.boxes,aw G' (s.G.length+1) .dead,s.G.length :: s.marks,s.ro,s.n⟩ { a with defers:=[{ target:=.collected w.heap.size,args:=#[] }]++a.defers }∧Step R w β s.boxes R3 (World.put w3 w1.heap.size x) β s.boxes:=fun x hx Z3=>by
     obtain ⟨z1,z2⟩:=p1.setObj (x':=x) (go':=.dead) SU l1 trivial hx Z3 (show w1.heap.size < _ by simp [World.put]; exact aV l1)
     exact ⟨⟨z1.g,z1.b,z1.t,z1.n,⟨⟨w.heap.size,SX,rfl⟩,z1.d⟩⟩,(st.trans p2).trans z2⟩
    obtain ⟨z1,z2⟩:=key (.loop { r3 with state:=.exhausted,pending:=pending }) trivial (fun r e=>⟨_,rfl,by cases e; exact ⟨rfl,rfl,rfl,rfl,rfl⟩⟩)
    rw [dG] at z1 z2
    cases pending with
    | none=>exact ⟨_,R3,β,hQ,z1,z2,rfl⟩
    | some c=>
     refine wpIn_mono (hQ R3 _ β _ Fence.wide z1 (by show bD R3 s.ro Fence.wide; rw [bA]; rfl)) ?_
     rintro e Yj M9 ⟨zB,Jt,Rl,OH,xY,rJ,wN⟩
     exact ⟨zB,Jt,Rl,OH,xY,z2.trans rJ,wN⟩
   ·exact hQ.elim
def Cs (id:Nat) (Q:Bool→List GO→Prop):Exit→St→Prop:=fun e s=>match nth s.G id with
 | some (.loop _ _ fn sl n ps pP bd d _)=>match e with
  | .normal=>Q true (aw s.G id (.loop false none fn sl n ps pP bd d false))
  | .ret=>Q false (aw s.G id (.loop false (some .ret) fn sl n ps pP bd d true))
  | .exit i=>Q false (aw s.G id (.loop false (some (.exit i)) fn sl n ps pP bd d true))
  | _=>False
 | _=>False
def yq (E:Env) (id:Nat) (body:Code) (Q:Bool→List GO→Prop):Exit→St→Prop:=fun e s=>match e with
 | .normal=>match nth s.G id with
  | some (.loop false p fn sl n ps pP bd d false)=>eM E body (Cs id Q) (s.bL (aw s.G id (.loop true p fn sl n ps pP bd d false)))
  | _=>False
 | _=>False
def uI:List Tmp→List AV→aT→aT
 | t :: ts,a :: l,r=>uI ts l (.put t (.v a) :: r)
 | _,_,r=>r
def St.round (id:Nat) (ae:aT) (n:Nat) (G:List GO):St:=⟨ae,[],G,[],some id,n⟩
theorem uJ {R:ai} {w:World} {β:Nat→Nat}:∀ {ts:List Tmp} {l:List AV} {cs:List Value} {r:aT} {tmps:Array Value},mg R w β r tmps→aD R w l cs→l.length=ts.length→(∀ t∈ts,t < tmps.size) →
  mg R w β (uI ts l r) ((ts.zip cs).foldl (fun tmps (t,a)=>tmps.setIfInBounds t a) tmps)
 | [],[],_,_,_,h,.nil,_,_=>h
 | t :: ts,a :: l,c :: cs,r,tmps,h,.cons hx hl,hlen,ht=>by
  have dG:t < tmps.size:=ht t (by simp)
  simp only [uI,List.zip_cons_cons,List.foldl_cons]
  refine uJ ?_ hl (by simpa using hlen) (fun t' h'=>by simpa using ht t' (by simp [h']))
  have:=mg.put (a:={ tmps:=tmps,defers:=[] }) h (d:=t) (x:=.v a) (c:=c) dG hx
  simpa [Act.put] using this
 | [],_ :: _,_,_,_,_,_,hlen,_=>by simp at hlen
 | _ :: _,[],_,_,_,_,_,hlen,_=>by simp at hlen
theorem Ct (l:List (Tmp × Value)):∀ tmps:Array Value,(l.foldl (fun (tmps:Array Value) (x:Tmp × Value)=>tmps.setIfInBounds x.1 x.2) tmps).size=tmps.size:=by
 induction l with
 | nil=>intro _; rfl
 | cons x l ih=>intro tmps; rw [List.foldl_cons,ih]; simp
theorem jj.intro {E:Env} {id:Nat} {args:List AV} {G:List GO} {Q:Bool→List GO→Prop} {fn:FuncId} {ae:aT} {n:Nat} {ps:List Tmp} {assign body:Code} {d:Nat} {p:Option Code}
  (hG:nth G id=some (.loop false p fn ae n ps assign body d false)) (hl:args.length=ps.length) (Fm:∀ t∈ps,t < n)
  (h:eM E assign (yq E id body Q) (St.round id (uI ps args ae) n G)):jj E id args G Q:=fun R w cs b hg hr hb=>by
 obtain ⟨⟨r,db,l1,l2,l3,l4,l5,l6,l7,l8,l9,l10⟩,l11⟩:=hg.obj id _ _ hG hb
 have hlen:=hr.length
 refine ⟨r,l1,by rw [l6]; simp; omega,?_⟩
 have VZ:Step R w (fun _=>0) dW R w (fun _=>0) dW:=Step.refl _ _ _ _
 have V0:aY E R w (fun _=>0) (St.round id (uI ps args ae) n G) { tmps:=(r.params.zip ⟨cs⟩).foldl (fun tmps (t,a)=>tmps.setIfInBounds t a) r.tmps,defers:=[] }:=by
  have SY:(r.params.zip ⟨cs⟩).foldl (fun (tmps:Array Value) (x:Tmp × Value)=>tmps.setIfInBounds x.1 x.2) r.tmps=(ps.zip cs).foldl (fun (tmps:Array Value) (x:Tmp × Value)=>tmps.setIfInBounds x.1 x.2) r.tmps:=by
   rw [← Array.foldl_toList]
   simp [l6]
  refine ⟨hg,⟨fun k cs hk=>?_,fun k k' c c' hk=>?_⟩,?_,?_,trivial⟩
  ·simp [St.round,cG] at hk
  ·simp [St.round,cG] at hk
  ·show mg _ _ _ _ _
   have:=uJ (ts:=ps) (l:=args) (cs:=cs) l4 hr hl (fun t ht=>by rw [l5]; exact Fm t ht)
   rw [← SY] at this
   exact this
  ·show _=n
   have:=Ct (ps.zip cs) r.tmps
   rw [← SY] at this
   exact this.trans l5
 have OD:∀ (k:Nat) (cs:List AV),cG (St.round id (uI ps args ae) n G).boxes k≠some cs:=fun k cs hk=>by simp [St.round,cG] at hk
 rw [l7,l8]
 refine roundIn_of_wpIn trivial (wpIn_mono (h R w (fun _=>0) _ (Fence.wide.inRound b) V0 ⟨b,hb,rfl⟩) ?_)
 rintro e a1 w1 ⟨s1,R1,β1,hq,wI,st1,V1⟩
 unfold yq at hq
 cases e with
 | normal=>
  simp only at hq
  split at hq
  ·rename_i p' SP Ro n' SQ JY Rs d' V2
   have Ae:nth R1.obj id=some (.bJ b):=st1.ext.bJ hb
   obtain ⟨⟨r1,Z4,m1,m2,m3,m4,m5,m6,m7,m8,m9,m10⟩,m11⟩:=wI.g.obj id _ _ V2 Ae
   refine ⟨_,run_beginRound m1 m2,?_⟩
   obtain ⟨z1,z2⟩:=wI.setObj (x':=.loop { r1 with state:=.busy }) (go':=.loop true p' SP Ro n' SQ JY Rs d' false) Ae m1 trivial trivial (fun r e=>⟨_,rfl,by cases e; exact ⟨rfl,rfl,rfl,rfl,rfl⟩⟩)
    ⟨⟨{ r1 with state:=.busy },Z4,fC _ _ _ (aV m1),rfl,m3,m4.mono (lh (x':=.loop { r1 with state:=.busy }) m1 trivial trivial (fun r e=>⟨_,rfl,by cases e; exact ⟨rfl,rfl,rfl,rfl,rfl⟩⟩)),m5,m6,m7,m8,m9,m10⟩,m11⟩
   refine wpIn_mono (hq R1 _ β1 a1 (Fence.wide.inRound b) z1 (by show bD R1 s1.ro _; rw [V1]; exact ⟨b,Ae,rfl⟩)) ?_
   rintro e2 a2 w2 ⟨s2,R2,β2,mn,zQ,st2,EO⟩
   unfold Cs at mn
   split at mn
   ·rename_i bu2 p2 UQ V3 n2 V4 V5 V6 d2 Z5 SF
    have SZ:=(st1.trans z2).trans st2
    have Bf:nth R2.obj id=some (.bJ b):=SZ.ext.bJ hb
    obtain ⟨⟨r2,Z6,o1,o2,o3,o4,o5,o6,o7,o8,o9,yt⟩,rT⟩:=zQ.g.obj id _ _ SF Bf
    have fin:∀ (j:Option Code),xZ E R w (fun b' G'=>G'=aw s2.G id (.loop false j UQ V3 n2 V4 V5 V6 d2 (!j.isNone))∧b'=j.isNone) (.returned (.bool j.isNone)) (w2.putObj b (.loop { r2 with state:=if j.isNone then .ready else .done,pending:=j })):=fun j=>by
     obtain ⟨y1,y2⟩:=zQ.setObj (x':=.loop { r2 with state:=if j.isNone then .ready else .done,pending:=j }) (go':=.loop false j UQ V3 n2 V4 V5 V6 d2 (!j.isNone)) Bf o1 trivial trivial (fun r e=>⟨_,rfl,by cases e; exact ⟨rfl,rfl,rfl,rfl,rfl⟩⟩)
      ⟨⟨{ r2 with state:=if j.isNone then .ready else .done,pending:=j },Z6,fC _ _ _ (aV o1),by cases j <;> rfl,rfl,o4.mono (lh (x':=.loop { r2 with state:=if j.isNone then .ready else .done,pending:=j }) o1 trivial trivial (fun r e=>⟨_,rfl,by cases e; exact ⟨rfl,rfl,rfl,rfl,rfl⟩⟩)),o5,o6,o7,o8,o9,yt⟩,rT⟩
     exact ⟨_,_,R2,⟨rfl,rfl⟩,rfl,y1.g,tW (SZ.trans y2) OD⟩
    have mk:∀ (j:Option Code),Q j.isNone (aw s2.G id (.loop false j UQ V3 n2 V4 V5 V6 d2 (!j.isNone)))→∃ v w',(Instr.endRound b j).run E.P w2=.ok v w'∧xZ E R w Q (.returned v) w':=fun j hQ=>by
     refine ⟨_,_,run_endRound j o1,?_⟩
     obtain ⟨r',G',R',⟨h1,h2⟩,h3⟩:=fin j
     subst h1; subst h2
     exact ⟨_,_,R',hQ,h3⟩
    cases e2 with
    | normal=>exact mk none mn
    | ret=>exact mk (some .ret) mn
    | exit i=>exact mk (some (.exit i)) mn
    | _=>exact mn.elim
   ·exact mn.elim
  ·exact hq.elim
 | _=>exact hq.elim
end Go.Am
namespace Go.Am
open Go
section
variable {E:Env} {R R':ai} {w w':World} {β β':Nat→Nat} {s s':St} {a a':Act}
def aM (E:Env) (g:FuncId) (args:List AV) (Q:AV→Prop):Prop:=∀ G,bU E g args G (fun r G'=>G'=G∧Q r)
theorem aM.mono {g:FuncId} {args:List AV} {Q Q':AV→Prop} (h:aM E g args Q) (hq:∀ r,Q r→Q' r):aM E g args Q':=
 fun G=>(h G).mono fun r _ hh=>⟨hh.1,hq r hh.2⟩
theorem aM.of {g:FuncId} {args:List AV} {p:an} {Q:p.T→Prop} (hc:aA 0 args=true) (hp:p.under 0=true)
  (h:bU E g args [] (fun r _=>∃ y,p.dec r=some y∧Q y)):aM E g args (fun r=>∃ y,r=p.enc y∧Q y):=fun G=>by
 refine ⟨h.1,fun R w cs hg hl=>?_⟩
 let R0:ai:=⟨R.I,[]⟩
 have m0:Mv R R0 0:=⟨fun _ _ h=>h,fun _ _ h=>absurd h (Nat.not_lt_zero _)⟩
 have Je:cI E R0 w []:=⟨rfl,fun id go ro h1 _=>by simp [nth] at h1,fun i j ri rj b h1=>by simp [R0,nth] at h1,hg.wf,fun g cs ox=>(hg.bN g cs ox).move m0 (bS _ (E.me g cs ox)),hg.lo⟩
 have tB:aD R0 w args cs:=hl.move m0 hc
 refine (h.2 R0 w cs Je tB).mono fun e w' he=>?_
 cases e with
 | panicked c=>exact he.elim
 | outgrown=>exact he.elim
 | returned c=>
  obtain ⟨r,G',R1,⟨y,hy,hQ⟩,di,JZ,st⟩:=he
  have gY:∀ b,¬ Own R0 (fun _=>0) dW b:=fun b ho=>by
   obtain ⟨id,ro,h1,_⟩:=dJ ho
   simp [R0,nth] at h1
  let R2:ai:=⟨R1.I,R.obj⟩
  have e:Ext R w R2 w':=⟨st.ext.I,st.ext.cell,fun id ro h=>⟨ro,h,bW.refl ro⟩,st.ext.lp⟩
  have bq:∀ b,b < w.heap.size→w'.heap[b]?=w.heap[b]?:=fun b hb=>st.bq b hb (gY b)
  have im:∀ b o,b < w.heap.size→R1.I b o→R.I b o:=fun b o hb hi=>st.im b o hi hb (gY b)
  have hd:=p.ou hy
  have m:Mv R1 R2 0:=⟨fun _ _ h=>h,fun _ _ h=>absurd h (Nat.not_lt_zero _)⟩
  refine ⟨p.enc y,G,R2,⟨rfl,y,rfl,hQ⟩,Rel.move m (p.cM y hp) (hd.ft _ _ _ di),⟨hg.len,fun id go ro h1 h2=>?_,hg.inj,JZ.wf,fun g cs ox=>(hg.bN g cs ox).mono e,JZ.lo⟩,⟨e,st.os,st.tape,st.output,st.size,fun b hb _=>bq b hb,fun b _ ho=>?_,fun b o hi hb _=>im b o hb hi⟩⟩
  ·refine (hg.obj id go ro h1 h2).mono e (fun b hb=>bq b ?_) (fun b o hb hi=>im b o ?_ hi)
   ·exact (hg.obj id go ro h1 h2).lt hb
   ·exact (hg.obj id go ro h1 h2).lt hb
  ·exact ho
theorem eM.V7 {c:Code} {Q Q':Exit→St→Prop} (h:eM E c (fun e s'=>aJ s s'∧Q' e s') s)
  (hq:∀ e s',Q' e s'→∃ (t:b7) (v:t.ps.T),t.dec s s'=some v∧Q e (t.st s v)):eM E c Q s:=fun R w β a F hr hf=>by
 refine wpIn_mono (h R w β a F hr hf) ?_
 rintro e a' w' ⟨s',R',β',⟨hx,VE⟩,kf,jN,bA⟩
 obtain ⟨t,v,hd,hQ⟩:=hq e s' VE
 obtain ⟨h1,h2⟩:=b7.zk hx hr kf jN hd
 exact ⟨_,_,β',hQ,h1,h2,rfl⟩
theorem eM.fP {c:Code} {Q:Exit→St→Prop} {l:List (Loc × Nat × TypeId)} (hs:Am.fP l s=some s') (h:eM E c Q s'):eM E c Q s:=fun R w β a F hr hf=>by
 obtain ⟨R1,k1,k2,k3,_⟩:=ji hr hs
 refine wpIn_mono (h R1 w β a F k1 (by rw [k3]; exact hf.mono k2.ext)) ?_
 rintro e a' w' ⟨s2,R2,β2,hq,zQ,st2,EO⟩
 exact ⟨s2,R2,β2,hq,zQ,k2.trans st2,EO.trans k3⟩
end
end Go.Am
