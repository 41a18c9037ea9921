/- The abstract machine: what is asked of bodies; values are brought to a short form. -/
import Derived.Test.YtophnjjjmikmeaaGreatAmKI
set_option linter.all false
namespace Go.Am
open Go
def bj (dt:Nat→Option ai):Code→Bool
 | .region id ops true=>match dt id with
  | some p=>C2 ops p
  | none=>false
 | .seq x y=>bj dt x&&bj dt y
 | .cond _ x y=>bj dt x&&bj dt y
 | .block _ c=>bj dt c
 | .loop c=>bj dt c
 | .scope c=>bj dt c
 | .rangeFunc _ _ a b=>bj dt a&&bj dt b
 | _=>true
structure NH extends Env where
 dt:FuncId→Nat→Option ai
 okF:FuncId→Bool
 Mf:∀ f fn c,okF f=true→P.funcs[f]?=some fn→fn.body=some c→bj (dt f) c=true
def ic {α:Type} (n:Nat) (K:Nat→α):α:=match n with
 | 0=>K 0
 | m+1=>K (Nat.succ m)
def vl {α:Type} (n:Int) (K:Int→α):α:=match n with
 | .ofNat m=>ic m fun m=>K (.ofNat m)
 | .negSucc m=>ic m fun m=>K (.negSucc m)
def mP {α β:Type}:List β→(List β→α)→α
 | [],K=>K []
 | a :: l,K=>mP l fun l=>K (a :: l)
def zs {α:Type} (v:AV) (K:AV→α):α:=match v with
 | .int k n=>vl n fun n=>K (.int k n)
 | .bool true=>K (.bool true)
 | .bool false=>K (.bool false)
 | .list k sz es=>mP es fun es=>K (.list k sz es)
 | .str l=>mP l fun l=>K (.str l)
 | .gC id off sz len cap=>ic off fun off=>ic len fun len=>ic cap fun cap=>K (.gC id off sz len cap)
 | .ptr id off=>ic off fun off=>K (.ptr id off)
 | .agg cs=>mP cs fun cs=>K (.agg cs)
 | v=>K v
def zt {α:Type} (l:aV) (K:aV→α):α:=match l with
 | .put d (.v a) :: l=>zs a fun a=>K (.put d (.v a) :: l)
 | .put d (.lp k off) :: l=>ic off fun off=>K (.put d (.lp k off) :: l)
 | l=>K l
def zu {α:Type} (l:bX) (K:bX→α):α:=match l with
 | (d,cs) :: l=>mP cs fun cs=>K ((d,cs) :: l)
 | []=>K []
def C3 {α:Type} (s:St) (K:St→α):α:=match s with
 | ⟨sl,bx,G,m,ro,n⟩=>zt sl fun sl=>zu bx fun bx=>mP G fun G=>K ⟨sl,bx,G,m,ro,n⟩
theorem mQ {α:Type} (n:Nat) (K:Nat→α):ic n K=K n:=by cases n <;> rfl
theorem Bg {α:Type} (n:Int) (K:Int→α):vl n K=K n:=by cases n <;> simp [vl,mQ]
theorem nH {α β:Type}:∀ (l:List β) (K:List β→α),mP l K=K l
 | [],_=>rfl
 | a :: l,K=>by simp only [mP]; rw [nH]
theorem C4 {α:Type} (v:AV) (K:AV→α):zs v K=K v:=by
 unfold zs
 split <;> simp [mQ,Bg,nH]
theorem C5 {α:Type} (l:aV) (K:aV→α):zt l K=K l:=by
 unfold zt
 split <;> simp [mQ,C4]
theorem C6 {α:Type} (l:bX) (K:bX→α):zu l K=K l:=by
 unfold zu
 split <;> simp [nH]
theorem Fx {α:Type} (s:St) (K:St→α):C3 s K=K s:=by
 obtain ⟨sl,bx,G,m,ro,n⟩:=s
 simp [C3,C5,C6,nH]
def zv:SV→SV→Bool
 | .v a,.v b=>dA a b
 | .lp k o,.lp k' o'=>Nat.beq k k'&&Nat.beq o o'
 | _,_=>false
def Tp (E:Env) (f:FuncId) (ops:List Oper) (o:Oper) (s:St):Bool:=match Ai ops s o with
 | some true=>match o.dst,ak E f s o with
  | some d,some (c,s')=>c&&zv (lk s'.ab d) (lk s.ab d)
  | _,_=>false
 | some false=>true
 | none=>false
section
variable {E:Env} {f:FuncId} {s:St}
theorem yg {a b:SV} (h:zv a b=true):a=b:=by
 unfold zv at h
 split at h
 ·rw [gm h]
 ·simp only [Bool.and_eq_true,Nat.beq_eq] at h; rw [h.1,h.2]
 ·cases h
theorem yh {ops:List Oper} {o:Oper} (h:Tp E f ops o s=true):CS E f ops o s:=by
 unfold Tp at h
 unfold CS
 split at h
 ·rename_i hg
  rw [hg]
  simp only
  split at h
  ·rename_i d c s' hd hs
   rw [Bool.and_eq_true] at h
   obtain ⟨rfl,h⟩:=h
   rw [hd,hs]
   exact ⟨rfl,yg h⟩
  ·cases h
 ·rename_i hg
  rw [hg]
  trivial
 ·cases h
end
end Go.Am
namespace Go.Am
open Go
mutual
def AV.under (n:Nat):AV→Bool
 | .agg cs=>aC n cs
 | .bt cs=>aC n cs
 | .ep cs=>aC n cs
 | .list (.own id) _ _=>Nat.blt id n
 | .list (.aH id _) _ _=>Nat.blt id n
 | .fn _ x y=>aC n x&&aC n y
 | .iface _ v=>v.under n
 | .ptr id _=>Nat.blt id n
 | .gC id _ _ _ _=>Nat.blt id n
 | .cL id _ _ _ _=>Nat.blt id n
 | .gp id _ _ _ _ _=>Nat.blt id n
 | .fx id _ _ _=>Nat.blt id n
 | .rp id _ _ _ _ _ _=>Nat.blt id n
 | .map id=>Nat.blt id n
 | .yield id=>Nat.blt id n
 | _=>true
def aC (n:Nat):List AV→Bool
 | []=>true
 | a :: l=>a.under n&&aC n l
end
mutual
theorem fm (n:Nat):∀ {a:AV},a.closed=true→a.under n=true:=fun {a} h=>by
 cases a with
 | agg cs=>simp only [AV.closed,AV.under] at *; exact b7 n h
 | bt cs=>simp only [AV.closed,AV.under] at *; exact b7 n h
 | ep cs=>simp only [AV.closed,AV.under] at *; exact b7 n h
 | list k sz es=>cases k <;> simp_all [AV.closed,AV.under,LK.closed]
 | fn f x y=>
  simp only [AV.closed,AV.under,Bool.and_eq_true] at *
  exact ⟨b7 n h.1,b7 n h.2⟩
 | iface t v=>simp only [AV.closed,AV.under] at *; exact fm n h
 | _=>simp_all [AV.closed,AV.under]
theorem b7 (n:Nat):∀ {l:List AV},aJ l=true→aC n l=true
 | [],_=>rfl
 | a :: l,h=>by
  simp only [aJ,aC,Bool.and_eq_true] at *
  exact ⟨fm n h.1,b7 n h.2⟩
end
theorem j7 {a b:Nat} (h:Nat.blt a b=true):a < b:=Nat.le_of_ble_eq_true h
mutual
theorem kq:∀ {a:AV},a.under 0=true→a.closed=true:=fun {a} h=>by
 cases a with
 | agg cs=>simp only [AV.closed,AV.under] at *; exact dZ h
 | bt cs=>simp only [AV.closed,AV.under] at *; exact dZ h
 | ep cs=>simp only [AV.closed,AV.under] at *; exact dZ h
 | list k sz es=>cases k <;> first | rfl | (simp [AV.under] at h)
 | fn f x y=>
  simp only [AV.closed,AV.under,Bool.and_eq_true] at *
  exact ⟨dZ h.1,dZ h.2⟩
 | iface t v=>simp only [AV.closed,AV.under] at *; exact kq h
 | ptr id off=>simp only [AV.under] at h; exact absurd (j7 h) (Nat.not_lt_zero _)
 | gC id off sz len cap=>simp only [AV.under] at h; exact absurd (j7 h) (Nat.not_lt_zero _)
 | cL id f off sz len=>simp only [AV.under] at h; exact absurd (j7 h) (Nat.not_lt_zero _)
 | gp id f i off sz t=>simp only [AV.under] at h; exact absurd (j7 h) (Nat.not_lt_zero _)
 | fx id j sz len=>simp only [AV.under] at h; exact absurd (j7 h) (Nat.not_lt_zero _)
 | rp id j f i off sz t=>simp only [AV.under] at h; exact absurd (j7 h) (Nat.not_lt_zero _)
 | map id=>simp only [AV.under] at h; exact absurd (j7 h) (Nat.not_lt_zero _)
 | yield id=>simp only [AV.under] at h; exact absurd (j7 h) (Nat.not_lt_zero _)
 | _=>rfl
theorem dZ:∀ {l:List AV},aC 0 l=true→aJ l=true
 | [],_=>rfl
 | a :: l,h=>by
  simp only [aC,aJ,Bool.and_eq_true] at *
  exact ⟨kq h.1,dZ h.2⟩
end
section move
variable {R R2:af} {w:World} {n:Nat}
structure Mv (R R2:af) (n:Nat):Prop where
 I:∀ b o,R.I b o→R2.I b o
 obj:∀ id ro,id < n→nth R.obj id=some ro→nth R2.obj id=some ro
theorem fO {a b:Nat} (h:Nat.blt a b=true):a < b:=Nat.le_of_ble_eq_true h
theorem gu {a b:Nat} (h:a < b):Nat.blt a b=true:=Nat.ble_eq_true_of_le h
theorem yP.move (m:Mv R R2 n) {k:LK} {b o len cap:Nat} (h:yP R k b o len cap) (hk:∀ id,(k=.own id∨∃ j,k=.aH id j)→id < n):yP R2 k b o len cap:=by
 cases k with
 | nil=>exact h
 | full=>exact h
 | gA=>trivial
 | own id=>obtain ⟨ro,h1,h2⟩:=h; exact ⟨ro,m.obj id ro (hk id (.inl rfl)) h1,h2⟩
 | aH id j=>obtain ⟨ro,h1,h2⟩:=h; exact ⟨ro,m.obj id ro (hk id (.inr ⟨j,rfl⟩)) h1,h2⟩
mutual
theorem Rel.move (m:Mv R R2 n):∀ {a:AV} {c:Value},a.under n=true→Rel R w a c→Rel R2 w a c
 | _,_,_,.bool b=>.bool b
 | _,_,_,.int k i=>.int k i
 | _,_,_,.str l=>.str l
 | _,_,hb,.agg h h1=>.agg (h.move m (by simpa [AV.under] using hb)) h1
 | _,_,hb,.bt h=>.bt (h.move m (by simpa [AV.under] using hb))
 | _,_,_,.gW=>.gW
 | _,_,hb,.ptr h=>.ptr (m.obj _ _ (fO (by simpa [AV.under] using hb)) h)
 | _,_,hb,.ep h=>.ep (h.move m (by simpa [AV.under] using hb))
 | _,_,_,.gF=>.gF
 | _,_,_,.gl=>.gl
 | _,_,_,.ki=>.ki
 | _,_,hb,.jl h ho=>.jl (m.obj _ _ (fO (by simpa [AV.under] using hb)) h) ho
 | _,_,hb,.jO h ho=>.jO (m.obj _ _ (fO (by simpa [AV.under] using hb)) h) ho
 | .list k sz es,_,hb,.list h hl hc hk=>.list (h.move m) hl hc (hk.move m fun id e=>by rcases e with e | ⟨j,e⟩ <;> subst e <;> exact fO (by simpa [AV.under] using hb))
 | _,_,hb,.gC h hc=>.gC (m.obj _ _ (fO (by simpa [AV.under] using hb)) h) hc
 | _,_,hb,.gB h ho=>.gB (m.obj _ _ (fO (by simpa [AV.under] using hb)) h) ho
 | _,_,hb,.cL h ho hc=>.cL (m.obj _ _ (fO (by simpa [AV.under] using hb)) h) ho hc
 | _,_,hb,.gp h ho=>.gp (m.obj _ _ (fO (by simpa [AV.under] using hb)) h) ho
 | _,_,hb,.py h ho=>.py (m.obj _ _ (fO (by simpa [AV.under] using hb)) h) ho
 | _,_,hb,.fx h ho hc=>.fx (m.obj _ _ (fO (by simpa [AV.under] using hb)) h) ho hc
 | _,_,hb,.rp h ho=>.rp (m.obj _ _ (fO (by simpa [AV.under] using hb)) h) ho
 | _,_,_,.ke=>.ke
 | _,_,hb,.map h=>.map (m.obj _ _ (fO (by simpa [AV.under] using hb)) h)
 | _,_,_,.dz=>.dz
 | _,_,hb,.fn h h'=>.fn (h.move m (by simp only [AV.under,Bool.and_eq_true] at hb; exact hb.1)) (h'.move m (by simp only [AV.under,Bool.and_eq_true] at hb; exact hb.2))
 | _,_,hb,.yield h=>.yield (m.obj _ _ (fO (by simpa [AV.under] using hb)) h)
 | _,_,_,.lY=>.lY
 | _,_,hb,.iface h=>.iface (h.move m (by simpa [AV.under] using hb))
theorem aA.move (m:Mv R R2 n):∀ {l:List AV} {cs:List Value},aA R w l cs→aC n l=true→aA R2 w l cs
 | _,_,.nil,_=>.nil
 | _,_,.cons h t,hb=>by
  simp only [aC,Bool.and_eq_true] at hb
  exact .cons (h.move m hb.1) (t.move m hb.2)
theorem eY.move (m:Mv R R2 n):∀ {b o sz:Nat} {l:List AV},eY R w b o sz l→eY R2 w b o sz l
 | _,_,_,_,.nil=>.nil
 | _,_,_,_,@eY.cons _ _ _ _ _ e _ hl ht hk h t=>.cons hl ht hk (h.move m (by
   cases e with
   | agg cs=>exact b7 n (show aJ cs=true by simpa [AV.closed] using hk)
   | bt cs=>simp [AV.aI] at ht
   | _=>simp only [AV.cells,aC,Bool.and_true]; exact fm n hk)) (t.move m)
theorem dN.move (m:Mv R R2 n):∀ {b o:Nat} {l:List AV},dN R w b o l→aC n l=true→dN R2 w b o l
 | _,_,_,.nil,_=>.nil
 | _,_,_,.cons hc h1 hi h t,hb=>by
  simp only [aC,Bool.and_eq_true] at hb
  exact .cons hc h1 (m.I _ _ hi) (h.move m hb.1) (t.move m hb.2)
end
theorem kj.move {E:Env} (m:Mv R R2 n) {g:Nat} {cs:List AV} (h:kj E R w g cs) (hu:aC n cs=true):kj E R2 w g cs:=
 ⟨h.1.move m hu,fun hx=>⟨m.I _ _ (h.2 hx).1,(h.2 hx).2⟩⟩
mutual
theorem Rel.under (hn:R.obj.length≤n):∀ {a:AV} {c:Value},Rel R w a c→a.under n=true
 | _,_,.bool _ | _,_,.int _ _ | _,_,.str _ | _,_,.gW | _,_,.gF | _,_,.gl | _,_,.ki | _,_,.ke | _,_,.dz | _,_,.lY=>by simp [AV.under]
 | _,_,.agg h _=>by simp only [AV.under]; exact h.under hn
 | _,_,.bt h=>by simp only [AV.under]; exact h.under hn
 | _,_,.ptr h=>by simp only [AV.under]; exact gu (Nat.lt_of_lt_of_le (aQ h) hn)
 | _,_,.ep h=>by simp only [AV.under]; exact h.under hn
 | _,_,.jl h _=>by simp only [AV.under]; exact gu (Nat.lt_of_lt_of_le (aQ h) hn)
 | _,_,.jO h _=>by simp only [AV.under]; exact gu (Nat.lt_of_lt_of_le (aQ h) hn)
 | _,_,@Rel.list _ _ k _ _ _ _ _ _ _ _ _ hk=>by
  cases k with
  | own id=>obtain ⟨ro,h1,_⟩:=hk; simp only [AV.under]; exact gu (Nat.lt_of_lt_of_le (aQ h1) hn)
  | aH id j=>obtain ⟨ro,h1,_⟩:=hk; simp only [AV.under]; exact gu (Nat.lt_of_lt_of_le (aQ h1) hn)
  | _=>simp [AV.under]
 | _,_,.gC h _=>by simp only [AV.under]; exact gu (Nat.lt_of_lt_of_le (aQ h) hn)
 | _,_,.gB h _=>by simp only [AV.under]; exact gu (Nat.lt_of_lt_of_le (aQ h) hn)
 | _,_,.cL h _ _=>by simp only [AV.under]; exact gu (Nat.lt_of_lt_of_le (aQ h) hn)
 | _,_,.gp h _=>by simp only [AV.under]; exact gu (Nat.lt_of_lt_of_le (aQ h) hn)
 | _,_,.py h _=>by simp only [AV.under]; exact gu (Nat.lt_of_lt_of_le (aQ h) hn)
 | _,_,.fx h _ _=>by simp only [AV.under]; exact gu (Nat.lt_of_lt_of_le (aQ h) hn)
 | _,_,.rp h _=>by simp only [AV.under]; exact gu (Nat.lt_of_lt_of_le (aQ h) hn)
 | _,_,.map h=>by simp only [AV.under]; exact gu (Nat.lt_of_lt_of_le (aQ h) hn)
 | _,_,.fn h h'=>by simp only [AV.under,Bool.and_eq_true]; exact ⟨h.under hn,h'.under hn⟩
 | _,_,.yield h=>by simp only [AV.under]; exact gu (Nat.lt_of_lt_of_le (aQ h) hn)
 | _,_,.iface h=>by simp only [AV.under]; exact h.under hn
theorem aA.under (hn:R.obj.length≤n):∀ {l:List AV} {cs:List Value},aA R w l cs→aC n l=true
 | _,_,.nil=>rfl
 | _,_,.cons h t=>by simp only [aC,Bool.and_eq_true]; exact ⟨h.under hn,t.under hn⟩
theorem dN.under (hn:R.obj.length≤n):∀ {b o:Nat} {l:List AV},dN R w b o l→aC n l=true
 | _,_,_,.nil=>rfl
 | _,_,_,.cons _ _ _ h t=>by simp only [aC,Bool.and_eq_true]; exact ⟨h.under hn,t.under hn⟩
end
end move
end Go.Am
namespace Go.Am
open Go
mutual
def aq.under (n:Nat):aq→Bool
 | .agg ps=>ps.under n
 | .bt ps=>ps.under n
 | .own id _ _=>Nat.blt id n
 | .aH id _ _=>Nat.blt id n
 | .fx id _=>Nat.blt id n
 | .lg v=>v.under n
 | .two u v=>u.under n&&v.under n
 | _=>true
def aG.under (n:Nat):aG→Bool
 | .nil=>true
 | .cons p ps=>p.under n&&ps.under n
end
mutual
theorem aq.cY {n:Nat}:∀ (p:aq) (x:p.T),p.under n=true→(p.enc x).under n=true
 | .int k,x,_=>by simp [aq.enc,AV.under]
 | .bool,x,_=>by simp [aq.enc,AV.under]
 | .str,x,_=>by simp [aq.enc,AV.under]
 | .agg ps,x,h=>by
  simp only [aq.enc,AV.under]
  exact ps.cY x h
 | .bt ps,x,h=>by
  simp only [aq.enc,AV.under]
  exact ps.cY x h
 | .list sz p,x,_=>by simp [aq.enc,AV.under]
 | .own id sz p,x,h=>by
  simp only [aq.enc,AV.under]
  exact h
 | .aH id sz p,x,h=>by
  simp only [aq.enc,AV.under]
  exact h
 | .fx id sz,(x:Nat × Nat),h=>by
  simp only [aq.enc,AV.under]
  exact h
 | .lg v,x,h=>by
  simp only [aq.enc]
  exact h
 | .two u v,(x:Bool),h=>by
  simp only [aq.under,Bool.and_eq_true] at h
  change AV.under n (bif x then v else u)=true
  cases x
  ·exact h.1
  ·exact h.2
theorem aG.cY {n:Nat}:∀ (ps:aG) (x:ps.T),ps.under n=true→aC n (ps.enc x)=true
 | .nil,x,_=>rfl
 | .cons p .nil,x,h=>by
  simp only [aG.under,Bool.and_true] at h
  simp only [aG.enc,aC,Bool.and_true]
  exact p.cY _ h
 | .cons p (.cons q ps),x,h=>by
  rw [aG.under,Bool.and_eq_true] at h
  simp only [aG.enc,aC,Bool.and_eq_true]
  exact ⟨p.cY _ h.1,(aG.cons q ps).cY _ h.2⟩
end
mutual
def AV.exact:AV→Bool
 | .bool _=>true
 | .int _ _=>true
 | .str _=>true
 | .agg cs=>eu cs
 | _=>false
def eu:List AV→Bool
 | []=>true
 | a :: l=>a.exact&&eu l
end
mutual
theorem aq.ig:∀ (p:aq) {a:AV},p.fits a=true→a.exact=true→p.enc (p.bc a)=a
 | .int k,a,h,e=>by
  cases a with
  | int k' n=>have hk:Qg k k'=true:=h; rw [B7 hk]; rfl
  | _=>cases h
 | .bool,a,h,e=>by
  cases a with
  | bool b=>rfl
  | _=>cases h
 | .str,a,h,e=>by
  cases a with
  | str b=>rfl
  | _=>cases h
 | .agg ps,a,h,e=>by
  cases a with
  | agg cs=>
   have e':eu cs=true:=by simpa [AV.exact] using e
   show AV.agg (ps.enc (ps.bc cs))=_
   rw [ps.ig (show ps.fits cs=true from h) e']
  | _=>cases h
 | .bt ps,a,h,e=>by cases a <;> first | (cases h; done) | simp [AV.exact] at e
 | .list sz p,a,h,e=>by cases a <;> first | (cases h; done) | simp [AV.exact] at e
 | .own id sz p,a,h,e=>by cases a <;> first | (cases h; done) | simp [AV.exact] at e
 | .aH id sz p,a,h,e=>by cases a <;> first | (cases h; done) | simp [AV.exact] at e
 | .fx id sz,a,h,e=>by cases a <;> first | (cases h; done) | simp [AV.exact] at e
 | .lg u,a,h,e=>(gm (show dA a u=true from h)).symm
 | .two u v,a,h,_=>pD h
theorem aG.ig:∀ (ps:aG) {l:List AV},ps.fits l=true→eu l=true→ps.enc (ps.bc l)=l
 | .nil,l,h,_=>by
  cases l with
  | nil=>rfl
  | cons _ _=>cases h
 | .cons p .nil,l,h,e=>by
  cases l with
  | nil=>cases h
  | cons a l=>
   have h':(p.fits a&&l.isEmpty)=true:=h
   simp only [Bool.and_eq_true,List.isEmpty_iff] at h'
   obtain ⟨h1,rfl⟩:=h'
   simp only [eu,Bool.and_true] at e
   show [p.enc (p.bc a)]=_
   rw [p.ig h1 e]
 | .cons p (.cons q ps),l,h,e=>by
  cases l with
  | nil=>cases h
  | cons a l=>
   have h':(p.fits a&&(aG.cons q ps).fits l)=true:=h
   rw [Bool.and_eq_true] at h'
   simp only [eu,Bool.and_eq_true] at e
   show p.enc (p.bc a) :: (aG.cons q ps).enc ((aG.cons q ps).bc l)=_
   rw [p.ig h'.1 e.1,(aG.cons q ps).ig h'.2 e.2]
end
mutual
theorem lM:∀ {a:AV},a.exact=true→a.closed=true:=fun {a} h=>by
 cases a with
 | agg cs=>simp only [AV.exact,AV.closed] at *; exact ob h
 | _=>simp_all [AV.exact,AV.closed]
theorem ob:∀ {l:List AV},eu l=true→aJ l=true
 | [],_=>rfl
 | a :: l,h=>by
  simp only [eu,aJ,Bool.and_eq_true] at *
  exact ⟨lM h.1,ob h.2⟩
end
def ao:List (AV × AV)→List AV
 | []=>[]
 | (k,v) :: l=>.agg [k,v] :: ao l
def Ru:AV→AV × AV
 | .agg [k,v]=>(k,v)
 | _=>(eN,eN)
def ae:List AV→List (AV × AV)
 | []=>[]
 | a :: l=>Ru a :: ae l
def AV.entries:AV→List (AV × AV)
 | .list _ _ es=>ae es
 | _=>[]
theorem lW:∀ l:List (AV × AV),ae (ao l)=l
 | []=>rfl
 | (k,v) :: l=>by simp only [ao,ae,lW l]; rfl
def AV.C7:AV→Bool
 | .list .gA _ es=>eu es
 | _=>false
def iK:List AV→List AV→Prop
 | [],[]=>True
 | a :: l,b :: r=>fD a b∧iK l r
 | _,_=>False
theorem iK.refl:∀ l:List AV,iK l l
 | []=>trivial
 | a :: l=>⟨fD.refl a,iK.refl l⟩
theorem iK.length:∀ {l r:List AV},iK l r→l.length=r.length
 | [],[],_=>rfl
 | _ :: _,_ :: _,h=>by simp [iK.length h.2]
 | [],_ :: _,h=>h.elim
 | _ :: _,[],h=>h.elim
theorem iK.of {α:Type} {f:AV→Bool} {d:AV→α} {g:α→AV} (DQ:∀ v,f v=true→fD v (g (d v))):∀ {es:List AV},allFit f es=true→iK es ((es.map d).map g)
 | [],_=>trivial
 | e :: es,h=>by
  simp only [allFit,Bool.and_eq_true] at h
  exact ⟨DQ e h.1,iK.of DQ h.2⟩
theorem aq.Bh (p:aq) {a:AV} (h:p.fits a=true):iK a.bY (p.enc (p.bc a)).bY:=by
 cases p with
 | list sz p=>
  cases a with
  | list k aT es=>
   have hb:((Nat.beq sz aT || es.isEmpty)&&allFit p.fits es)=true:=h
   rw [Bool.and_eq_true] at hb
   exact iK.of (fun v hv=>p.cn hv) hb.2
  | _=>cases h
 | own id sz p=>
  cases a with
  | list k aT es=>
   cases k with
   | own gb=>
    have hb:((Nat.beq id gb&&Nat.beq sz aT)&&allFit p.fits es)=true:=h
    rw [Bool.and_eq_true] at hb
    exact iK.of (fun v hv=>p.cn hv) hb.2
   | _=>cases h
  | _=>cases h
 | aH id sz p=>
  cases a with
  | list k aT es=>
   cases k with
   | aH gb j=>
    have hb:((Nat.beq id gb&&Nat.beq sz aT)&&allFit p.fits es)=true:=h
    rw [Bool.and_eq_true] at hb
    exact iK.of (fun v hv=>p.cn hv) hb.2
   | _=>cases h
  | _=>cases h
 | lg u=>rw [show a=u from gm (show dA a u=true from h)]; exact iK.refl _
 | two u v=>rw [pD h]; exact iK.refl _
 | _=>cases a <;> first | (cases h; done) | exact iK.refl _
def vm:List AV→Bool
 | []=>true
 | a :: l=>a.C7&&vm l
def AV.Hs:AV→Bool
 | .list .gA _ es=>vm es
 | _=>false
def Gd:List AV→List AV→Prop
 | [],[]=>True
 | a :: l,b :: r=>(a.exact=true→b=a)∧((a.C7=true→b.bY=a.bY)∧(a.Hs=true→b.bY.map AV.bY=a.bY.map AV.bY))∧iK a.bY b.bY∧Gd l r
 | _,_=>False
theorem vn {f:AV→Bool} {α:Type} {d:AV→α} {g:α→AV} (DQ:∀ a,f a=true→a.exact=true→g (d a)=a):∀ {es:List AV},allFit f es=true→eu es=true→(es.map d).map g=es
 | [],_,_=>rfl
 | a :: l,h,e=>by
  simp only [allFit,eu,Bool.and_eq_true] at *
  simp only [List.map_cons,DQ a h.1 e.1,vn DQ h.2 e.2]
theorem aq.vo (p:aq) {a:AV} (h:p.fits a=true) (e:a.C7=true):(p.enc (p.bc a)).bY=a.bY:=by
 cases a with
 | list k aT es=>
  cases k with
  | gA=>
   have e':eu es=true:=e
   cases p with
   | list sz p=>
    have hb:((Nat.beq sz aT || es.isEmpty)&&allFit p.fits es)=true:=h
    rw [Bool.and_eq_true] at hb
    show (es.map p.bc).map p.enc=_
    rw [vn (fun a=>p.ig) hb.2 e']
    rfl
   | lg u=>rw [show AV.list .gA aT es=u from gm (show dA _ u=true from h)]; rfl
   | two u v=>rw [pD h]
   | _=>cases h
  | _=>cases e
 | _=>cases e
theorem vp {p:aq}:∀ {es:List AV},allFit p.fits es=true→vm es=true→((es.map p.bc).map p.enc).map AV.bY=es.map AV.bY
 | [],_,_=>rfl
 | a :: l,h,e=>by
  simp only [allFit,vm,Bool.and_eq_true] at *
  simp only [List.map_cons,p.vo h.1 e.1]
  rw [vp h.2 e.2]
theorem aq.Bi (p:aq) {a:AV} (h:p.fits a=true) (e:a.Hs=true):(p.enc (p.bc a)).bY.map AV.bY=a.bY.map AV.bY:=by
 cases a with
 | list k aT es=>
  cases k with
  | gA=>
   have e':vm es=true:=e
   cases p with
   | list sz p=>
    have hb:((Nat.beq sz aT || es.isEmpty)&&allFit p.fits es)=true:=h
    rw [Bool.and_eq_true] at hb
    show ((es.map p.bc).map p.enc).map AV.bY=_
    rw [vp hb.2 e']
    rfl
   | lg u=>rw [show AV.list .gA aT es=u from gm (show dA _ u=true from h)]; rfl
   | two u v=>rw [pD h]
   | _=>cases h
  | _=>cases e
 | _=>cases e
theorem aG.Ht:∀ (ps:aG) {l:List AV},ps.fits l=true→Gd l (ps.enc (ps.bc l))
 | .nil,l,h=>by
  cases l with
  | nil=>trivial
  | cons _ _=>cases h
 | .cons p .nil,l,h=>by
  cases l with
  | nil=>cases h
  | cons a l=>
   have h':(p.fits a&&l.isEmpty)=true:=h
   simp only [Bool.and_eq_true,List.isEmpty_iff] at h'
   obtain ⟨h1,rfl⟩:=h'
   exact ⟨p.ig h1,⟨p.vo h1,p.Bi h1⟩,p.Bh h1,trivial⟩
 | .cons p (.cons q ps),l,h=>by
  cases l with
  | nil=>cases h
  | cons a l=>
   have h':(p.fits a&&(aG.cons q ps).fits l)=true:=h
   rw [Bool.and_eq_true] at h'
   exact ⟨p.ig h'.1,⟨p.vo h'.1,p.Bi h'.1⟩,p.Bh h'.1,(aG.cons q ps).Ht h'.2⟩
theorem Gd.split:∀ {l r l':List AV},Gd (l++r) l'→∃ a b,l'=a++b∧Gd l a∧Gd r b∧a.length=l.length
 | [],r,l',h=>⟨[],l',rfl,trivial,h,rfl⟩
 | x :: l,r,[],h=>h.elim
 | x :: l,r,y :: l',h=>by
  obtain ⟨a,b,rfl,h2,h3,h4⟩:=Gd.split (l:=l) (r:=r) (l':=l') h.2.2.2
  exact ⟨y :: a,b,rfl,⟨h.1,h.2.1,h.2.2.1,h2⟩,h3,by simp [h4]⟩
mutual
def AV.vq (L:Nat→Nat):AV→AV
 | .cL id 0 0 sz 0=>.cL id (L id) 0 sz (L id)
 | .fn f x y=>.fn f (Hu L x) (Hu L y)
 | v=>v
def Hu (L:Nat→Nat):List AV→List AV
 | []=>[]
 | a :: l=>a.vq L :: Hu L l
end
mutual
def aq.inst (L:Nat→Nat):aq→aq
 | .agg ps=>.agg (ps.inst L)
 | .bt ps=>.bt (ps.inst L)
 | .lg v=>.lg (v.vq L)
 | p=>p
def aG.inst (L:Nat→Nat):aG→aG
 | .nil=>.nil
 | .cons p ps=>.cons (p.inst L) (ps.inst L)
end
mutual
def aq.jC (L:Nat→Nat):(p:aq)→p.T→AV
 | .int k,(n:Int)=>.int k n
 | .bool,(b:Bool)=>.bool b
 | .str,(s:List UInt8)=>.str s
 | .agg ps,x=>.agg (ps.jC L x)
 | .bt ps,x=>.bt (ps.jC L x)
 | .list sz p,(xs:List p.T)=>.list .gA sz (xs.map p.enc)
 | .own id sz p,(xs:List p.T)=>.list (.own id) sz (xs.map p.enc)
 | .aH id sz p,(x:Nat × List p.T)=>.list (.aH id x.1) sz (x.2.map p.enc)
 | .fx id sz,(x:Nat × Nat)=>.fx id x.1 sz x.2
 | .lg v,_=>v.vq L
 | .two u v,(b:Bool)=>bif b then v else u
def aG.jC (L:Nat→Nat):(ps:aG)→ps.T→List AV
 | .nil,_=>[]
 | .cons p .nil,x=>[p.jC L x]
 | .cons p (.cons q ps),x=>p.jC L x.1 :: (aG.cons q ps).jC L x.2
end
mutual
def aq.kQ (L:Nat→Nat):aq→AV→Bool
 | .int k,v=>aq.fits (.int k) v
 | .bool,v=>aq.fits .bool v
 | .str,v=>aq.fits .str v
 | .agg ps,v=>match v with
  | .agg cs=>ps.kQ L cs
  | _=>false
 | .bt ps,v=>match v with
  | .bt cs=>ps.kQ L cs
  | _=>false
 | .list sz p,v=>aq.fits (.list sz p) v
 | .own id sz p,v=>aq.fits (.own id sz p) v
 | .aH id sz p,v=>aq.fits (.aH id sz p) v
 | .fx id sz,v=>aq.fits (.fx id sz) v
 | .lg v,u=>dA u (v.vq L)
 | .two u v,a=>aq.fits (.two u v) a
def aG.kQ (L:Nat→Nat):aG→List AV→Bool
 | .nil,l=>l.isEmpty
 | .cons p ps,l=>match l with
  | a :: l=>p.kQ L a&&ps.kQ L l
  | []=>false
end
def aG.Fy (L:Nat→Nat) (ps:aG) (l:List AV):Option ps.T:=bif ps.kQ L l then some (ps.bc l) else none
mutual
theorem aq.gO (L:Nat→Nat):∀ (p:aq) (a:AV),p.kQ L a=(p.inst L).fits a
 | .int _,_=>rfl
 | .bool,_=>rfl
 | .str,_=>rfl
 | .agg ps,a=>by
  simp only [aq.kQ,aq.inst,aq.fits]
  cases a <;> first | rfl | exact ps.gO L _
 | .bt ps,a=>by
  simp only [aq.kQ,aq.inst,aq.fits]
  cases a <;> first | rfl | exact ps.gO L _
 | .list _ _,_=>rfl
 | .own _ _ _,_=>rfl
 | .aH _ _ _,_=>rfl
 | .fx _ _,_=>rfl
 | .lg _,_=>rfl
 | .two _ _,_=>rfl
theorem aG.gO (L:Nat→Nat):∀ (ps:aG) (l:List AV),ps.kQ L l=(ps.inst L).fits l
 | .nil,_=>rfl
 | .cons p ps,l=>by
  cases l with
  | nil=>rfl
  | cons a l=>
   simp only [aG.kQ,aG.inst,aG.fits]
   rw [p.gO L a,ps.gO L l]
end
mutual
theorem aq.fY (L:Nat→Nat):∀ (p:aq) (a:AV),p.jC L (p.bc a)=(p.inst L).enc ((p.inst L).bc a)
 | .int _,_=>rfl
 | .bool,_=>rfl
 | .str,_=>rfl
 | .agg ps,a=>congrArg AV.agg (ps.fY L a.iy)
 | .bt ps,a=>congrArg AV.bt (ps.fY L a.MK)
 | .list _ _,_=>rfl
 | .own _ _ _,_=>rfl
 | .aH _ _ _,_=>rfl
 | .fx _ _,_=>rfl
 | .lg _,_=>rfl
 | .two _ _,_=>rfl
theorem aG.fY (L:Nat→Nat):∀ (ps:aG) (l:List AV),ps.jC L (ps.bc l)=(ps.inst L).enc ((ps.inst L).bc l)
 | .nil,_=>rfl
 | .cons p .nil,l=>by
  show [p.jC L (p.bc (dm l))]=[(p.inst L).enc ((p.inst L).bc (dm l))]
  rw [p.fY L]
 | .cons p (.cons q ps),l=>by
  show p.jC L (p.bc (dm l)) :: (aG.cons q ps).jC L ((aG.cons q ps).bc (Gh l))=(p.inst L).enc ((p.inst L).bc (dm l)) :: ((aG.cons q ps).inst L).enc (((aG.cons q ps).inst L).bc (Gh l))
  rw [p.fY L,(aG.cons q ps).fY L]
end
mutual
theorem AV.vr {n:Nat} (L:Nat→Nat):∀ {a:AV},a.under n=true→(a.vq L).under n=true:=fun {a} h=>by
 cases a with
 | cL id f off sz len=>
  unfold AV.vq
  split
  ·rename_i h1
   cases h1
   exact h
  ·rename_i h1
   cases h1
  ·exact h
 | fn f x y=>
  simp only [AV.vq,AV.under,Bool.and_eq_true] at *
  exact ⟨oQ L h.1,oQ L h.2⟩
 | _=>exact h
theorem oQ {n:Nat} (L:Nat→Nat):∀ {l:List AV},aC n l=true→aC n (Hu L l)=true
 | [],_=>rfl
 | a :: l,h=>by
  simp only [Hu,aC,Bool.and_eq_true] at *
  exact ⟨AV.vr L h.1,oQ L h.2⟩
end
mutual
theorem aq.gP {n:Nat} (L:Nat→Nat):∀ {p:aq},p.under n=true→(p.inst L).under n=true
 | .int _,_=>rfl
 | .bool,_=>rfl
 | .str,_=>rfl
 | .agg ps,h=>aG.gP L (ps:=ps) h
 | .bt ps,h=>aG.gP L (ps:=ps) h
 | .list _ _,_=>rfl
 | .own _ _ _,h=>h
 | .aH _ _ _,h=>h
 | .fx _ _,h=>h
 | .lg v,h=>AV.vr L (a:=v) h
 | .two _ _,h=>h
theorem aG.gP {n:Nat} (L:Nat→Nat):∀ {ps:aG},ps.under n=true→(ps.inst L).under n=true
 | .nil,_=>rfl
 | .cons p ps,h=>by
  simp only [aG.inst,aG.under,Bool.and_eq_true] at *
  exact ⟨aq.gP L h.1,aG.gP L h.2⟩
end
theorem AV.yi (L:Nat→Nat) (v:AV):(v.vq L).bY=v.bY:=by
 unfold AV.vq
 split <;> rfl
def me:List AV→List AV→Prop
 | [],[]=>True
 | a :: l,b :: r=>a.bY.length=b.bY.length∧me l r
 | _,_=>False
theorem aq.mR (L L':Nat→Nat) (p:aq) (x:p.T):(p.jC L x).bY=(p.jC L' x).bY:=by
 cases p with
 | lg v=>
  show (v.vq L).bY=(v.vq L').bY
  rw [AV.yi,AV.yi]
 | fx _ _=>rfl
 | _=>rfl
theorem aG.mR (L L':Nat→Nat):∀ (ps:aG) (x:ps.T),me (ps.jC L x) (ps.jC L' x)
 | .nil,_=>trivial
 | .cons p .nil,x=>⟨congrArg List.length (p.mR L L' x),trivial⟩
 | .cons p (.cons q ps),x=>⟨congrArg List.length (p.mR L L' x.1),(aG.cons q ps).mR L L' x.2⟩
theorem Gd.Rv:∀ {l r:List AV},Gd l r→me l r
 | [],[],_=>trivial
 | _ :: _,_ :: _,h=>⟨h.2.2.1.length,h.2.2.2.Rv⟩
 | [],_ :: _,h=>h.elim
 | _ :: _,[],h=>h.elim
theorem me.trans:∀ {l r u:List AV},me l r→me r u→me l u
 | [],[],[],_,_=>trivial
 | _ :: _,_ :: _,_ :: _,h,k=>⟨h.1.trans k.1,h.2.trans k.2⟩
 | [],_ :: _,_,h,_=>h.elim
 | _ :: _,[],_,h,_=>h.elim
 | [],[],_ :: _,_,k=>k.elim
 | _ :: _,_ :: _,[],_,k=>k.elim
theorem me.drop:∀ {l r:List AV} (n:Nat),me l r→me (l.drop n) (r.drop n)
 | l,r,0,h=>by simpa using h
 | [],[],_+1,_=>by simp [me]
 | _ :: _,_ :: _,n+1,h=>by simpa using me.drop n h.2
 | [],_ :: _,_+1,h=>h.elim
 | _ :: _,[],_+1,h=>h.elim
theorem aG.Kc (L:Nat→Nat) (ps:aG) {l:List AV} {x:ps.T} (h:ps.Fy L l=some x):b9 l (ps.jC L x)∧Gd l (ps.jC L x):=by
 unfold aG.Fy at h
 cases hf:ps.kQ L l with
 | true=>
  rw [hf] at h
  cases h
  rw [ps.fY L]
  rw [ps.gO L] at hf
  have hd:(ps.inst L).dec l=some ((ps.inst L).bc l):=by unfold aG.dec; rw [hf]; rfl
  exact ⟨((ps.inst L).oD hd).1,(ps.inst L).Ht hf⟩
 | false=>rw [hf] at h; cases h
theorem aG.C8 {n:Nat} (L:Nat→Nat) (ps:aG) (hp:ps.under n=true) (l:List AV):aC n (ps.jC L (ps.bc l))=true:=by
 rw [ps.fY L]
 exact (ps.inst L).cY _ (aG.gP L hp)
theorem aG.Fz (L:Nat→Nat) (ps:aG) {l:List AV} {x:ps.T} (h:ps.Fy L l=some x):x=ps.bc l:=by
 unfold aG.Fy at h
 cases hf:ps.kQ L l with
 | true=>rw [hf] at h; cases h; rfl
 | false=>rw [hf] at h; cases h
end Go.Am
namespace Go.Am
open Go
inductive BW
 | open_
 | busy
 | ret
 | ex (i:Nat)
def BW.is:BW→Bool→Option Code→Bool→Bool
 | .open_,false,none,false=>true
 | .busy,true,none,false=>true
 | .ret,false,some .ret,true=>true
 | .ex i,false,some (.exit j),true=>Nat.beq i j
 | _,_,_,_=>false
def BW.b:BW→Bool
 | .busy=>true
 | _=>false
def BW.p:BW→Option Code
 | .ret=>some .ret
 | .ex i=>some (.exit i)
 | _=>none
def BW.d:BW→Bool
 | .ret=>true
 | .ex _=>true
 | _=>false
theorem BW.El {k:BW} {b:Bool} {p:Option Code} {d:Bool} (h:k.is b p d=true):b=k.b∧p=k.p∧d=k.d:=by
 unfold BW.is at h
 split at h <;> first | exact ⟨rfl,rfl,rfl⟩ | (cases h; done) | skip
 rw [Nat.eq_of_beq_eq_true h]
 exact ⟨rfl,rfl,rfl⟩
inductive GL
 | row (n:Nat)
 | tok (loc sz:Nat) (e:TypeId)
 | dead
 | lp (k:BW)
 | bl
 | map
 | Bj
 | cP (sz:Nat) (e:TypeId)
 | aH (sz:Nat) (e:TypeId)
 | qf
 | mg (eW:Nat)
 | ga (sz:Nat) (e:TypeId)
def C9 (fs:List Nat):List AV:=fs.map fun n:Nat=>.int .i64 n
def zw (l:List AV):List Nat:=l.map fun a=>a.ow.toNat
theorem sG (fs:List Nat):zw (C9 fs)=fs:=by
 induction fs with
 | nil=>rfl
 | cons n fs ih=>
  show (AV.int .i64 n).ow.toNat :: zw (C9 fs)=n :: fs
  rw [ih]
  simp [AV.ow]
theorem vt (fs:List Nat):eu (C9 fs)=true:=by
 induction fs with
 | nil=>rfl
 | cons n fs ih=>exact ih
def FA (sz:Nat) (rows:List (List AV)):List AV:=rows.map fun r=>.list .gA sz r
def vu (l:List AV):List (List AV):=l.map AV.bY
theorem Bk (sz:Nat) (rows:List (List AV)):vu (FA sz rows)=rows:=by
 induction rows with
 | nil=>rfl
 | cons r rows ih=>
  show r :: vu (FA sz rows)=r :: rows
  rw [ih]
def Bl:List (List AV)→Bool
 | []=>true
 | r :: l=>eu r&&Bl l
theorem vv (sz:Nat):∀ rows:List (List AV),Bl rows=true→vm (FA sz rows)=true
 | [],_=>rfl
 | r :: rows,h=>by
  simp only [Bl,Bool.and_eq_true] at h
  show (eu r&&vm (FA sz rows))=true
  rw [h.1,vv sz rows h.2]
  rfl
def NI (k:BW):GO→GO→Bool
 | .loop _ _ _ _ _ _ _ _ _ _,.loop b p _ _ _ _ _ _ _ d=>k.is b p d
 | _,_=>false
def Mg (k:BW):GO→GO
 | .loop _ _ fn sl n ps oN bd d _=>.loop k.b k.p fn sl n ps oN bd d k.d
 | _=>.dead
def bZ (es:List (AV × AV)):Bool:=eu (ao es)
def zx:GO→GO→Bool
 | .tok f sz e,.tok f' aT e'=>decide (f'=f)&&(Nat.beq aT sz&&Nat.beq e' e)
 | .defers a,.defers b=>match a,b with
  | true,true=>true
  | false,false=>true
  | _,_=>false
 | .dead,_=>true
 | _,_=>false
structure bw where
 ps:aG
 sl:List Tmp
 W:List Tmp
 bx:List (Nat × Nat)
 g:List GL
 Qr:List (Tmp × Nat × Nat)
def vw (ab:aV):List Tmp→Option (List AV)
 | []=>some []
 | t :: l=>match lk ab t with
  | .v a=>match vw ab l with
   | some r=>some (a :: r)
   | none=>none
  | _=>none
def vx (bx:bX):List (Nat × Nat)→Option (List AV)
 | []=>some []
 | (k,n) :: l=>match cO bx k with
  | some cs=>match vx bx l with
   | some r=>bif Nat.beq cs.length n then some (cs++r) else none
   | none=>none
  | none=>none
def ij:List GL→List GO→Option (List AV)
 | [],_=>some []
 | .row n :: l,.row cs _ :: G=>match ij l G with
  | some r=>bif Nat.beq cs.length n then some (cs++r) else none
  | none=>none
 | .tok _ sz e :: l,.tok _ aT e' :: G=>bif Nat.beq sz aT&&Nat.beq e e' then ij l G else none
 | .dead :: l,_ :: G=>ij l G
 | .lp _ :: l,_ :: G=>ij l G
 | .bl :: l,_ :: G=>ij l G
 | .map :: l,.map es :: G=>match ij l G with
  | some r=>some (.list .gA 2 (ao es) :: r)
  | none=>none
 | .Bj :: l,.fu s pos :: G=>match ij l G with
  | some r=>some (.str s :: .int .i64 pos :: r)
  | none=>none
 | .cP sz e :: l,.cP es aT e' :: G=>match ij l G with
  | some r=>bif Nat.beq sz aT&&Nat.beq e e' then some (.list .gA aT es :: r) else none
  | none=>none
 | .aH sz e :: l,.aH fs aT e' :: G=>match ij l G with
  | some r=>bif Nat.beq sz aT&&Nat.beq e e' then some (.list .gA 1 (C9 fs) :: r) else none
  | none=>none
 | .ga sz e :: l,.ga rows aT e' :: G=>match ij l G with
  | some r=>bif Nat.beq sz aT&&Nat.beq e e' then some (.list .gA 1 (FA aT rows) :: r) else none
  | none=>none
 | .qf :: l,.map es :: G=>match ij l G with
  | some r=>some (.list .gA 2 (ao es) :: r)
  | none=>none
 | .mg eW :: l,.mg mid' n left _ _ :: G=>match ij l G with
  | some r=>bif Nat.beq eW mid' then some (.int .i64 n :: .list .gA 1 (C9 left) :: r) else none
  | none=>none
 | _,_=>none
def Hv (vs:List AV) (loc:Nat):Nat:=match nth vs loc with
 | some (.list _ _ es)=>es.length
 | _=>0
def Mh:GO→GO→Bool
 | .row _ e,.row _ e'=>Nat.beq e e'
 | _,_=>false
def Mi:GO→GO→Bool
 | .mg _ _ _ _ t,.mg _ _ _ _ t'=>Nat.beq t t'
 | _,_=>false
def Rw:GO→TypeId
 | .mg _ _ _ _ t=>t
 | _=>0
def Rx:GO→TypeId
 | .row _ e=>e
 | _=>0
def cK (vs:List AV):List GL→List GO→List GO→Bool
 | [],_,_=>true
 | .tok loc _ _ :: l,_ :: B,.tok f _ _ :: G=>decide (f=Hv vs loc)&&cK vs l B G
 | .tok _ _ _ :: _,_,_=>false
 | .lp k :: l,o :: B,o' :: G=>NI k o o'&&cK vs l B G
 | .bl :: l,o :: B,o' :: G=>zx o o'&&cK vs l B G
 | .row _ :: l,b :: B,g :: G=>Mh b g&&cK vs l B G
 | .map :: l,_ :: B,.map es :: G=>bZ es&&cK vs l B G
 | .map :: _,_,_=>false
 | .Bj :: l,_ :: B,_ :: G=>cK vs l B G
 | .cP _ _ :: l,_ :: B,_ :: G=>cK vs l B G
 | .aH _ _ :: l,_ :: B,_ :: G=>cK vs l B G
 | .ga _ _ :: l,_ :: B,.ga rows _ _ :: G=>Bl rows&&cK vs l B G
 | .ga _ _ :: _,_,_=>false
 | .qf :: l,_ :: B,_ :: G=>cK vs l B G
 | .mg _ :: l,b :: B,g :: G=>Mi b g&&cK vs l B G
 | .dead :: l,_ :: B,_ :: G=>cK vs l B G
 | _,_,_=>false
def mS:List Tmp→List AV→aV→aV
 | t :: ts,a :: l,r=>.put t (.v a) :: mS ts l r
 | _,_,r=>r
def mT:List (Tmp × Nat × Nat)→aV→aV
 | (t,k,o) :: l,r=>.put t (.lp k o) :: mT l r
 | [],r=>r
def Em (ab:aV):List (Tmp × Nat × Nat)→Bool
 | []=>true
 | (t,k,o) :: l=>(match lk ab t with
  | .lp k' o'=>Nat.beq k' k&&Nat.beq o' o
  | _=>false)&&Em ab l
def vy:List Tmp→aV→aV
 | t :: ts,r=>.put t .none :: vy ts r
 | [],r=>r
def sH:List (Nat × Nat)→List AV→bX→bX
 | (k,n) :: r,l,b=>(k,l.take n) :: sH r (l.drop n) b
 | [],_,b=>b
def cJ (vs:List AV):List GL→List GO→List AV→List GO
 | .row n :: r,B,l=>.row (l.take n) (Rx (B.headD .dead)) :: cJ vs r B.tail (l.drop n)
 | .tok loc sz e :: r,B,l=>.tok (Hv vs loc) sz e :: cJ vs r B.tail l
 | .dead :: r,B,l=>.dead :: cJ vs r B.tail l
 | .lp k :: r,B,l=>Mg k (B.headD .dead) :: cJ vs r B.tail l
 | .bl :: r,B,l=>B.headD .dead :: cJ vs r B.tail l
 | .map :: r,B,l=>.map (AV.entries (dm l)) :: cJ vs r B.tail l.tail
 | .Bj :: r,B,l=>.fu (AV.ML (dm l)) (AV.ow (dm l.tail)).toNat :: cJ vs r B.tail l.tail.tail
 | .cP sz e :: r,B,l=>.cP (AV.bY (dm l)) sz e :: cJ vs r B.tail l.tail
 | .aH sz e :: r,B,l=>.aH (zw (AV.bY (dm l))) sz e :: cJ vs r B.tail l.tail
 | .ga sz e :: r,B,l=>.ga (vu (AV.bY (dm l))) sz e :: cJ vs r B.tail l.tail
 | .qf :: r,B,l=>.map (AV.entries (dm l)) :: cJ vs r B.tail l.tail
 | .mg eW :: r,B,l=>.mg eW (AV.ow (dm l)).toNat (zw (AV.bY (dm l.tail))) none (Rw (B.headD .dead)) :: cJ vs r B.tail l.tail.tail
 | [],_,_=>[]
def zy:List (Nat × Nat)→Nat
 | []=>0
 | (_,n) :: l=>n+zy l
def iS:List GL→List AV→Nat→Nat
 | [],_,_=>0
 | .cP _ _ :: r,l,i=>match i with
  | 0=>(AV.bY (dm l)).length
  | i+1=>iS r l.tail i
 | .row n :: r,l,i=>match i with
  | 0=>0
  | i+1=>iS r (l.drop n) i
 | .map :: r,l,i=>match i with
  | 0=>0
  | i+1=>iS r l.tail i
 | .Bj :: r,l,i=>match i with
  | 0=>0
  | i+1=>iS r l.tail.tail i
 | .aH _ _ :: r,l,i=>match i with
  | 0=>0
  | i+1=>iS r l.tail i
 | .ga _ _ :: r,l,i=>match i with
  | 0=>0
  | i+1=>iS r l.tail i
 | .qf :: r,l,i=>match i with
  | 0=>0
  | i+1=>iS r l.tail i
 | .mg _ :: r,l,i=>match i with
  | 0=>0
  | i+1=>iS r l.tail.tail i
 | _ :: r,l,i=>match i with
  | 0=>0
  | i+1=>iS r l i
def bw.nU (t:bw) (v:t.ps.T):List AV:=t.ps.jC (iS t.g (((t.ps.jC (fun _=>0) v).drop t.sl.length).drop (zy t.bx))) v
def bw.st (t:bw) (s:St) (v:t.ps.T):St:=
 ⟨mT t.Qr (mS t.sl (t.nU v) (vy t.W s.ab)),sH t.bx ((t.nU v).drop t.sl.length) s.boxes,cJ (t.nU v) t.g s.G (((t.nU v).drop t.sl.length).drop (zy t.bx)),s.marks,s.ro,s.n⟩
def Jp:List Nat→Nat→Bool
 | [],_=>false
 | a :: l,n=>Nat.beq a n || Jp l n
def Qs (l:List Tmp) (W:List Tmp) (n:Nat):Bool:=Jp l n || Jp W n
def xi (d:Nat) (l W:List Tmp):aV→Bool
 | []=>true
 | .put t (.lp k _) :: r=>(!(Nat.beq k d) || Qs l W t)&&xi d l W r
 | _ :: r=>xi d l W r
def rO (l W:List Tmp) (base:aV):aV→Bool
 | []=>true
 | .put d _ :: r=>Qs l W d&&rO l W base r
 | .kill d :: r=>xi d l W base&&rO l W base r
def r7:List (Nat × Nat)→Nat→Bool
 | [],_=>false
 | (a,_) :: l,n=>Nat.beq a n || r7 l n
def tJ (l:List (Nat × Nat)) (base:bX):bX→Bool
 | []=>true
 | (k,_) :: r=>(r7 l k || (cO base k).isNone)&&tJ l base r
def Kd:List Nat→List Nat→Bool
 | [],[]=>true
 | a :: l,b :: r=>Nat.beq a b&&Kd l r
 | _,_=>false
def aq.WI (n:Nat):aq→Bool
 | .list _ p=>p.under n
 | _=>false
def aG.flags (n:Nat):aG→List Bool
 | .nil=>[]
 | .cons p ps=>p.WI n :: ps.flags n
def iL:List GL→List Bool→Bool
 | [],_=>true
 | .cP _ _ :: r,f :: l=>f&&iL r l
 | .cP _ _ :: _,[]=>false
 | .row n :: r,l=>iL r (ef n l)
 | .map :: r,l=>iL r (ef 1 l)
 | .Bj :: r,l=>iL r (ef 2 l)
 | .aH _ _ :: r,l=>iL r (ef 1 l)
 | .ga _ _ :: r,l=>iL r (ef 1 l)
 | .qf :: r,f :: l=>f&&iL r l
 | .qf :: _,[]=>false
 | .mg _ :: r,l=>iL r (ef 2 l)
 | _ :: r,l=>iL r l
def Hw (n:Nat):List GL→Bool
 | []=>true
 | .mg eW :: r=>Nat.blt eW n&&Hw n r
 | _ :: r=>Hw n r
def bw.ok (t:bw) (s s':St):Bool:=
 rO t.sl t.W s.ab (s'.ab.take (s'.ab.length - s.ab.length))&&tJ t.bx s.boxes (s'.boxes.take (s'.boxes.length - s.boxes.length)) &&
  Kd s'.marks s.marks&&Nat.beq t.g.length s.G.length&&(t.ps.under s.G.length&&(iL t.g (ef (zy t.bx) (ef t.sl.length (t.ps.flags s.G.length)))&&Hw s.G.length t.g))&&Em s'.ab t.Qr
def bw.dec (t:bw) (s s':St):Option t.ps.T:=
 bif t.ok s s' then
  match vw s'.ab t.sl,vx s'.boxes t.bx,ij t.g s'.G with
  | some a,some b,some c=>(t.ps.Fy (iS t.g c) (a++(b++c))).bind fun v=>bif cK (t.nU v) t.g s.G s'.G then some v else none
  | _,_,_=>none
 else none
theorem zz {l:List Nat} {n:Nat}:Jp l n=true↔n∈l:=by
 induction l with
 | nil=>simp [Jp]
 | cons a l ih=>
  simp only [Jp,Bool.or_eq_true,Nat.beq_eq,ih,List.mem_cons]
  constructor
  ·rintro (h | h)
   ·exact .inl h.symm
   ·exact .inr h
  ·rintro (h | h)
   ·exact .inl h.symm
   ·exact .inr h
theorem En:∀ {a b:List Nat},Kd a b=true→a=b
 | [],[],_=>rfl
 | a :: l,b :: r,h=>by
  simp only [Kd,Bool.and_eq_true,Nat.beq_eq] at h
  rw [h.1,En h.2]
 | [],_ :: _,h=>by cases h
 | _ :: _,[],h=>by cases h
theorem zA {d:Nat} {l W:List Tmp} {t off:Nat}:∀ {base:aV},xi d l W base=true→lk base t=.lp d off→Qs l W t=true
 | [],_,h=>by simp [lk] at h
 | .put t' x :: r,hn,h=>by
  by_cases e:t'=t
  ·subst e
   rw [aw] at h
   subst h
   simp only [xi,Nat.beq_refl,Bool.not_true,Bool.false_or,Bool.and_eq_true] at hn
   exact hn.1
  ·rw [aD e] at h
   refine zA (base:=r) ?_ h
   cases x <;> simp only [xi,Bool.and_eq_true] at hn
   ·exact hn
   ·exact hn
   ·exact hn.2
 | .kill d' :: r,hn,h=>by
  rcases DP (l:=r) (d:=d') (t:=t) with ⟨h1,_⟩ | h1
  ·rw [h1] at h
   exact zA (base:=r) hn h
  ·rw [h1] at h
   cases h
theorem zB {l W:List Tmp} {base:aV} {t:Nat} (ht:Qs l W t=false):∀ {pre:aV},rO l W base pre=true→lk (pre++base) t=lk base t
 | [],_=>rfl
 | .put d x :: r,h=>by
  simp only [rO,Bool.and_eq_true] at h
  have bW:d≠t:=fun e=>by rw [e,ht] at h; exact absurd h.1 (by simp)
  rw [List.cons_append,aD bW]
  exact zB ht h.2
 | .kill d :: r,h=>by
  simp only [rO,Bool.and_eq_true] at h
  have ih:=zB ht h.2
  simp only [List.cons_append,lk,ih]
  cases hb:lk base t with
  | lp k off=>
   by_cases e:k=d
   ·subst e
    have:=zA h.1 hb
    rw [ht] at this
    cases this
   ·simp [lq e]
  | _=>rfl
theorem Bm {l:List (Nat × Nat)} {base:bX} {k:Nat} {cs:List AV} (hk:r7 l k=false) (hb:cO base k=some cs):∀ {pre:bX},tJ l base pre=true→cO (pre++base) k=some cs
 | [],_=>hb
 | (d,x) :: r,h=>by
  simp only [tJ,Bool.and_eq_true] at h
  have bW:d≠k:=fun e=>by
   rw [e,hk,hb] at h
   exact absurd h.1 (by simp)
  rw [List.cons_append,cO,lq bW]
  exact Bm hk hb h.2
theorem Bn {α:Type} (pre base:List α):(pre++base).take ((pre++base).length - base.length)=pre:=by
 rw [List.length_append,Nat.add_sub_cancel,List.take_left]
def af.cut (R:af) (n:Nat):af:=⟨R.I,R.obj.take n⟩
theorem gv {R:af} {n id:Nat} {ro:RO}:nth (R.cut n).obj id=some ro↔id < n∧nth R.obj id=some ro:=by
 simp only [af.cut,aE,List.getElem?_take]
 split
 ·simp_all
 ·simp_all
  omega
theorem lN (R:af) (n:Nat):Mv R (R.cut n) n:=⟨fun _ _ h=>h,fun _ _ hl h=>gv.2 ⟨hl,h⟩⟩
section Ah
variable {E:Env} {R R':af} {w w':World} {β β':Nat→Nat} {s s':St} {a a':Act}
def vz (R:af) (w:World) (β:Nat→Nat) (K:Nat→Prop) (ab:aV) (tmps:Array Value):Prop:=
 ∀ i,¬ K i→lk ab i≠.none→∃ c,tmps[i]?=some c∧lZ R w β (lk ab i) c
theorem vA {tmps:Array Value} {base:aV}:∀ {W:List Tmp} {K:Nat→Prop},vz R w β (fun i=>i∈W∨K i) base tmps→vz R w β K (vy W base) tmps
 | [],K,h=>fun i hi hn=>h i (by simpa using hi) hn
 | t :: W,K,h=>fun i hi hn=>by
  have ih:vz R w β (fun i=>i=t∨K i) (vy W base) tmps:=vA (W:=W) (fun j hj=>h j (fun hc=>hj (by
   rcases hc with hc | hc
   ·rcases List.mem_cons.1 hc with hc | hc
    ·exact .inr (.inl hc)
    ·exact .inl hc
   ·exact .inr (.inr hc))))
  simp only [vy] at hn ⊢
  by_cases e:t=i
  ·subst e
   rw [aw] at hn
   exact absurd rfl hn
  ·rw [aD e] at hn ⊢
   exact ih i (by simp; exact ⟨fun e'=>e e'.symm,hi⟩) hn
theorem sI {n:Nat} (m:Mv R' R n) {tmps:Array Value} {ab:aV} (hT:mo R' w β ab tmps) {base:aV}:∀ {ts:List Tmp} {K:Nat→Prop} {l l' r r':List AV},vw ab ts=some l→b9 (l++r) (l'++r')→l.length=l'.length→aC n l'=true →
  vz R w β (fun i=>i∈ts∨K i) base tmps→vz R w β K (mS ts (l'++r') base) tmps
 | [],K,l,l',r,r',_,_,_,_,h=>fun i hi hn=>by
  have e:mS [] (l'++r') base=base:=rfl
  rw [e] at hn ⊢
  exact h i (by simpa using hi) hn
 | t :: ts,K,l,l',r,r',hg,hw,hl,hu,h=>by
  unfold vw at hg
  split at hg
  ·rename_i a ha
   split at hg
   ·rename_i l0 tC
    cases hg
    cases l' with
    | nil=>simp at hl
    | cons b l'=>
     simp only [List.cons_append,b9] at hw
     simp only [aC,Bool.and_eq_true] at hu
     have ih:vz R w β (fun i=>i=t∨K i) (mS ts (l'++r') base) tmps:=sI m hT tC hw.2 (by simpa using hl) hu.2 (fun j hj=>h j (fun hc=>hj (by
      rcases hc with hc | hc
      ·rcases List.mem_cons.1 hc with hc | hc
       ·exact .inr (.inl hc)
       ·exact .inl hc
      ·exact .inr (.inr hc))))
     intro i hi hn
     simp only [mS,List.cons_append] at hn ⊢
     by_cases e:t=i
     ·subst e
      rw [aw] at hn ⊢
      obtain ⟨c,h1,h2⟩:=hT t (by rw [ha]; simp)
      rw [ha] at h2
      exact ⟨c,h1,Rel.move m hu.1 (hw.1 _ _ _ h2)⟩
     ·rw [aD e] at hn ⊢
      exact ih i (by simp; exact ⟨fun e'=>e e'.symm,hi⟩) hn
   ·cases hg
  ·cases hg
def vB (R:af) (w:World) (β:Nat→Nat) (k:Nat) (cs:List AV):Prop:=
 (∃ vs el,w.heap[β k]?=some (.cells ⟨vs⟩ el (0,0))∧aA R w cs vs∧(∀ v∈vs,v.oneCell'=true))∧(∀ o,¬ R.I (β k) o)∧¬ Live R (β k)
theorem mU {R:af} {n b:Nat} (h:Live (R.cut n) b):Live R b:=by
 obtain ⟨id,ro,h1,h2⟩:=h
 exact ⟨id,ro,(gv.1 h1).2,h2⟩
theorem vB.cut {n k:Nat} {cs dB:List AV} (h:vB R w β k cs) (hw:b9 cs dB) (hu:aC n dB=true):vB (R.cut n) w β k dB:=by
 obtain ⟨⟨vs,el,h1,h2,h3⟩,h4,h5⟩:=h
 exact ⟨⟨vs,el,h1,(hw.rel h2).move (lN R n) hu,h3⟩,h4,fun hl=>h5 (mU hl)⟩
theorem dJ {n:Nat}:∀ {l r:List AV},aC n (l++r)=(aC n l&&aC n r)
 | [],r=>by simp [aC]
 | a :: l,r=>by simp [aC,dJ (l:=l),Bool.and_assoc]
theorem b9.split:∀ {l r l':List AV},b9 (l++r) l'→∃ a b,l'=a++b∧b9 l a∧b9 r b∧a.length=l.length
 | [],r,l',h=>⟨[],l',rfl,trivial,h,rfl⟩
 | x :: l,r,[],h=>h.elim
 | x :: l,r,y :: l',h=>by
  obtain ⟨a,b,rfl,h2,h3,h4⟩:=b9.split (l:=l) (r:=r) (l':=l') h.2
  exact ⟨y :: a,b,rfl,⟨h.1,h2⟩,h3,by simp [h4]⟩
theorem Bo {n:Nat} {Tq:bX} (hb:∀ k cs,cO Tq k=some cs→vB R w β k cs) {base:bX}:∀ {bx:List (Nat × Nat)} {K:Nat→Prop} {l l' r:List AV},vx Tq bx=some l→b9 l l'→aC n l'=true →
  (∀ k cs,¬ K k→r7 bx k=false→cO base k=some cs→cO Tq k=some cs∧aC n cs=true) →
  ∀ k cs,¬ K k→cO (sH bx (l'++r) base) k=some cs→vB (R.cut n) w β k cs∧∃ dB,cO Tq k=some dB
 | [],K,l,l',r,_,_,_,h,k,cs,hK,hk=>by
  obtain ⟨h1,h2⟩:=h k cs hK rfl hk
  exact ⟨(hb k cs h1).cut (b9.refl _) h2,cs,h1⟩
 | (d,m) :: bx,K,l,l',r,hg,hw,hu,h,k,cs,hK,hk=>by
  unfold vx at hg
  split at hg
  ·rename_i Rj hd
   split at hg
   ·rename_i l0 tC
    cases hm:Nat.beq Rj.length m with
    | false=>rw [hm] at hg; cases hg
    | true=>
     rw [hm] at hg
     cases hg
     have hm:=Nat.eq_of_beq_eq_true hm
     obtain ⟨x,y,rfl,k1,k2,k3⟩:=hw.split
     rw [dJ,Bool.and_eq_true] at hu
     have e1:((x++y)++r).take m=x:=by rw [List.append_assoc,← hm,← k3,List.take_left]
     have e2:((x++y)++r).drop m=y++r:=by rw [List.append_assoc,← hm,← k3,List.drop_left]
     simp only [sH,e1,e2] at hk
     rcases dV hk with ⟨rfl,rfl⟩ | ⟨bW,hk⟩
     ·exact ⟨(hb d Rj hd).cut k1 hu.1,Rj,hd⟩
     ·refine Bo hb (K:=fun k=>k=d∨K k) (r:=r) tC k2 hu.2 (fun k' dB WJ h1 h2=>?_) k cs (fun hc=>?_) hk
      ·exact h k' dB (fun hc=>WJ (.inr hc)) (by simp only [r7,h1,Bool.or_false]; exact lq (fun e=>WJ (.inl e.symm))) h2
      ·rcases hc with hc | hc
       ·exact bW hc.symm
       ·exact hK hc
   ·cases hg
  ·cases hg
def tv (n:Nat):List GL→List AV→Prop
 | [],_=>True
 | .cP _ _ :: r,l=>aC n (AV.bY (dm l))=true∧tv n r l.tail
 | .row m :: r,l=>tv n r (l.drop m)
 | .map :: r,l=>tv n r l.tail
 | .Bj :: r,l=>tv n r l.tail.tail
 | .aH _ _ :: r,l=>tv n r l.tail
 | .ga _ _ :: r,l=>tv n r l.tail
 | .qf :: r,l=>aC n (AV.bY (dm l))=true∧tv n r l.tail
 | .mg _ :: r,l=>tv n r l.tail.tail
 | _ :: r,l=>tv n r l
def mV (n:Nat):List Bool→List AV→Prop
 | [],_=>True
 | _ :: _,[]=>True
 | f :: fl,a :: l=>(f=true→aC n a.bY=true)∧mV n fl l
theorem mV.drop {m:Nat}:∀ {fl:List Bool} {l:List AV} (n:Nat),mV m fl l→mV m (ef n fl) (l.drop n)
 | _,_,0,h=>by simpa [ef] using h
 | [],_,_+1,_=>by simp [ef,mV]
 | _ :: fl,[],n+1,_=>by
  rw [List.drop_nil]
  cases ef (n+1) (_ :: fl) <;> trivial
 | _ :: fl,_ :: l,n+1,h=>by simpa [ef] using mV.drop n h.2
theorem ey {m:Nat}:∀ (g:List GL) {fl:List Bool} {l:List AV},iL g fl=true→mV m fl l→tv m g l
 | [],_,_,_,_=>trivial
 | .cP _ _ :: g,[],_,h,_=>by cases h
 | .cP _ _ :: g,f :: fl,[],h,_=>by
  simp only [iL,Bool.and_eq_true] at h
  refine ⟨rfl,ey g (fl:=fl) h.2 ?_⟩
  cases fl <;> trivial
 | .cP _ _ :: g,f :: fl,a :: l,h,k=>by
  simp only [iL,Bool.and_eq_true] at h
  exact ⟨k.1 h.1,ey g h.2 k.2⟩
 | .row n :: g,fl,l,h,k=>ey g (show iL g (ef n fl)=true from h) (k.drop n)
 | .map :: g,fl,l,h,k=>by
  have:=ey g (show iL g (ef 1 fl)=true from h) (k.drop 1)
  rw [List.drop_one] at this
  exact this
 | .Bj :: g,fl,l,h,k=>by
  have:=ey g (show iL g (ef 2 fl)=true from h) (k.drop 2)
  have e:l.drop 2=l.tail.tail:=by cases l with
   | nil=>rfl
   | cons a l=>cases l <;> rfl
  rw [e] at this
  exact this
 | .aH _ _ :: g,fl,l,h,k=>by
  have:=ey g (show iL g (ef 1 fl)=true from h) (k.drop 1)
  rw [List.drop_one] at this
  exact this
 | .ga _ _ :: g,fl,l,h,k=>by
  have:=ey g (show iL g (ef 1 fl)=true from h) (k.drop 1)
  rw [List.drop_one] at this
  exact this
 | .mg _ :: g,fl,l,h,k=>by
  have:=ey g (show iL g (ef 2 fl)=true from h) (k.drop 2)
  have e:l.drop 2=l.tail.tail:=by cases l with
   | nil=>rfl
   | cons a l=>cases l <;> rfl
  rw [e] at this
  exact this
 | .qf :: g,[],_,h,_=>by cases h
 | .qf :: g,f :: fl,[],h,_=>by
  simp only [iL,Bool.and_eq_true] at h
  refine ⟨rfl,ey g (fl:=fl) h.2 ?_⟩
  cases fl <;> trivial
 | .qf :: g,f :: fl,a :: l,h,k=>by
  simp only [iL,Bool.and_eq_true] at h
  exact ⟨k.1 h.1,ey g h.2 k.2⟩
 | .tok _ _ _ :: g,fl,l,h,k=>ey g (show iL g fl=true from h) k
 | .dead :: g,fl,l,h,k=>ey g (show iL g fl=true from h) k
 | .lp _ :: g,fl,l,h,k=>ey g (show iL g fl=true from h) k
 | .bl :: g,fl,l,h,k=>ey g (show iL g fl=true from h) k
theorem vC {n:Nat} {α:Type} {g:α→AV} (hg:∀ x,(g x).under n=true):∀ xs:List α,aC n (xs.map g)=true
 | []=>rfl
 | x :: xs=>by simp only [List.map_cons,aC,hg x,vC hg xs,Bool.and_self]
theorem aG.Bp (n:Nat) (L:Nat→Nat):∀ (ps:aG) (x:ps.T),mV n (ps.flags n) (ps.jC L x)
 | .nil,_=>trivial
 | .cons p .nil,x=>⟨fun h=>Mj L p x h,trivial⟩
 | .cons p (.cons q ps),x=>⟨fun h=>Mj L p x.1 h,(aG.cons q ps).Bp n L x.2⟩
where
 Mj (L:Nat→Nat):∀ (p:aq) (x:p.T),p.WI n=true→aC n (p.jC L x).bY=true
  | .list _ p,x,h=>vC (fun y=>p.cY y h) _
  | .int _,_,h=>by cases h
  | .bool,_,h=>by cases h
  | .str,_,h=>by cases h
  | .agg _,_,h=>by cases h
  | .bt _,_,h=>by cases h
  | .own _ _ _,_,h=>by cases h
  | .aH _ _ _,_,h=>by cases h
  | .fx _ _,_,h=>by cases h
  | .lg _,_,h=>by cases h
  | .two _ _,_,h=>by cases h
def US (n:Nat):GO→GO→Prop
 | .row cs el,.row dB S7=>S7=el∧b9 cs dB∧aC n dB=true
 | .tok f sz e,.tok f' aT e'=>f=f'∧sz=aT∧e=e'
 | .defers a,.defers b=>a=b
 | .map es,.map es'=>(es'=es∧bZ es=true)∨∃ l,es'=ae l∧iK (ao es) l∧aC n l=true
 | .aH fs sz e,.aH yO aT e'=>fs=yO∧sz=aT∧e=e'
 | .ga rows sz e,.ga rows' aT e'=>rows=rows'∧sz=aT∧e=e'
 | .mg eW m left _ t,.mg mid' m' xR cur t'=>eW=mid'∧m=m'∧left=xR∧t=t'∧eW < n∧cur=none
 | .fu l p,.fu l' p'=>l'=l∧p'=p
 | .cP es sz e,.cP es' aT e'=>aT=sz∧e'=e∧iK es es'∧aC n es'=true
 | _,.dead=>True
 | _,_=>False
def UT:GO→GO→GO→Prop
 | .loop _ _ fn sl n ps oN bd d _,.loop b p _ _ _ _ _ _ _ dn,go=>go=.loop b p fn sl n ps oN bd d dn
 | _,_,_=>False
theorem FB {n:Nat} {o o':GO} (h:zx o o'=true):US n o' o:=by
 cases o with
 | tok f sz e=>
  cases o' with
  | tok f' aT e'=>
   simp only [zx,Bool.and_eq_true] at h
   exact ⟨of_decide_eq_true h.1,Nat.eq_of_beq_eq_true h.2.1,Nat.eq_of_beq_eq_true h.2.2⟩
  | _=>cases h
 | defers a=>
  cases o' with
  | defers b=>cases a <;> cases b <;> first | rfl | cases h
  | _=>cases h
 | dead=>cases o' <;> trivial
 | _=>cases h
theorem Ke {k:BW} {o o':GO} (h:NI k o o'=true):UT o o' (Mg k o):=by
 cases o with
 | loop b p fn sl n ps oN bd d dn=>
  cases o' with
  | loop b' p' UU Qq n' Ry Kf Qt d' dn'=>
   obtain ⟨rfl,rfl,rfl⟩:=BW.El (show k.is b' p' dn'=true from h)
   rfl
  | _=>cases h
 | _=>cases h
theorem od (a:AV):a.entries=ae a.bY:=by cases a <;> rfl
theorem fq {n:Nat} {vs:List AV}:∀ {g:List GL} {B G:List GO} {l l':List AV},ij g G=some l→b9 l l'→Gd l l'→tv n g l'∧Hw n g=true→aC n l'=true→cK vs g B G=true →
  ∀ id go,nth (cJ vs g B l') id=some go→∃ go',nth G id=some go'∧(US n go' go∨∃ Gb,nth B id=some Gb∧UT Gb go' go)
 | [],B,G,l,l',_,_,_,_,_,_,id,go,h=>by simp [cJ,nth] at h
 | x :: g,[],G,l,l',_,_,_,_,_,ht,_,_,_=>by cases x <;> cases G <;> cases ht
 | x :: g,_ :: _,[],l,l',_,_,_,_,_,ht,_,_,_=>by cases x <;> cases ht
 | .row m :: g,b :: B,o :: G,l,l',hg,hw,hx,pg,hu,ht,id,go,h=>by
   obtain ⟨D9,rG⟩:Mh b o=true∧cK vs g B G=true:=by
    rw [← Bool.and_eq_true]
    cases o <;> exact ht
   cases o with
   | row cs el=>
    have jm:Rx b=el:=by
     cases b <;> first | (cases D9; done) | exact Nat.eq_of_beq_eq_true D9
    change (match ij g G with
     | some r=>bif Nat.beq cs.length m then some (cs++r) else none
     | none=>none)=some l at hg
    split at hg
    ·rename_i r hr
     cases hm:Nat.beq cs.length m with
     | false=>rw [hm] at hg; cases hg
     | true=>
      rw [hm] at hg
      cases hg
      have hm:=Nat.eq_of_beq_eq_true hm
      obtain ⟨x,y,rfl,k1,k2,k3⟩:=hw.split
      rw [dJ,Bool.and_eq_true] at hu
      have e1:(x++y).take m=x:=by rw [← hm,← k3,List.take_left]
      have e2:(x++y).drop m=y:=by rw [← hm,← k3,List.drop_left]
      simp only [cJ,e1,e2] at h
      cases id with
      | zero=>simp only [nth] at h; cases h; exact ⟨.row cs el,rfl,.inl ⟨jm,k1,hu.1⟩⟩
      | succ id=>exact fq hr k2 (by obtain ⟨x',y',Wz,k1',Jn,Yz⟩:=hx.split; have:=List.append_inj Wz (by rw [k3,Yz]); rw [this.2]; exact Jn) (by rw [← e2]; exact pg) hu.2 rG id go h
    ·cases hg
   | _=>cases hg
 | .tok loc sz e :: g,b :: B,o :: G,l,l',hg,hw,hx,pg,hu,ht,id,go,h=>by
   cases o with
   | tok f aT e'=>
    change (bif Nat.beq sz aT&&Nat.beq e e' then ij g G else none)=some l at hg
    change (decide (f=Hv vs loc)&&cK vs g B G)=true at ht
    rw [Bool.and_eq_true] at ht
    cases hm:(Nat.beq sz aT&&Nat.beq e e') with
    | false=>rw [hm] at hg; cases hg
    | true=>
     rw [hm] at hg
     rw [Bool.and_eq_true] at hm
     have q1:=Nat.eq_of_beq_eq_true hm.1
     have q2:=Nat.eq_of_beq_eq_true hm.2
     simp only [cJ] at h
     cases id with
     | zero=>
      simp only [nth] at h
      cases h
      exact ⟨.tok f aT e',rfl,.inl ⟨of_decide_eq_true ht.1,q1.symm,q2.symm⟩⟩
     | succ id=>exact fq hg hw hx pg hu ht.2 id go h
   | _=>cases hg
 | .dead :: g,b :: B,o :: G,l,l',hg,hw,hx,pg,hu,ht,id,go,h=>by
   simp only [cJ] at h
   have xF:ij g G=some l:=by cases o <;> exact hg
   have rG:cK vs g B G=true:=by cases o <;> exact ht
   cases id with
   | zero=>
    simp only [nth] at h
    cases h
    exact ⟨o,rfl,.inl (by cases o <;> trivial)⟩
   | succ id=>exact fq xF hw hx pg hu rG id go h
 | .lp k :: g,b :: B,o :: G,l,l',hg,hw,hx,pg,hu,ht,id,go,h=>by
   simp only [cJ] at h
   have xF:ij g G=some l:=by cases o <;> exact hg
   change (NI k b o&&cK vs g B G)=true at ht
   rw [Bool.and_eq_true] at ht
   cases id with
   | zero=>
    simp only [nth] at h
    cases h
    exact ⟨o,rfl,.inr ⟨b,rfl,Ke ht.1⟩⟩
   | succ id=>exact fq xF hw hx pg hu ht.2 id go h
 | .bl :: g,b :: B,o :: G,l,l',hg,hw,hx,pg,hu,ht,id,go,h=>by
   simp only [cJ] at h
   have xF:ij g G=some l:=by cases o <;> exact hg
   change (zx b o&&cK vs g B G)=true at ht
   rw [Bool.and_eq_true] at ht
   cases id with
   | zero=>
    simp only [nth] at h
    cases h
    exact ⟨o,rfl,.inl (FB ht.1)⟩
   | succ id=>exact fq xF hw hx pg hu ht.2 id go h
 | .map :: g,b :: B,o :: G,l,l',hg,hw,hx,pg,hu,ht,id,go,h=>by
   cases o with
   | map es=>
    change (match ij g G with
     | some r=>some (AV.list .gA 2 (ao es) :: r)
     | none=>none)=some l at hg
    change (bZ es&&cK vs g B G)=true at ht
    rw [Bool.and_eq_true] at ht
    split at hg
    ·rename_i r hr
     cases hg
     cases l' with
     | nil=>exact hw.elim
     | cons a l'=>
      simp only [aC,Bool.and_eq_true] at hu
      simp only [cJ,dm,List.tail_cons] at h
      cases id with
      | zero=>
       simp only [nth] at h
       cases h
       refine ⟨.map es,rfl,.inl (.inl ⟨?_,ht.1⟩)⟩
       rw [od,hx.2.1.1 ht.1]
       exact lW es
      | succ id=>exact fq hr hw.2 hx.2.2.2 pg hu.2 ht.2 id go h
    ·cases hg
   | _=>cases hg
 | .Bj :: g,b :: B,o :: G,l,l',hg,hw,hx,pg,hu,ht,id,go,h=>by
   have rG:cK vs g B G=true:=by cases o <;> exact ht
   cases o with
   | fu s pos=>
    change (match ij g G with
     | some r=>some (AV.str s :: AV.int .i64 pos :: r)
     | none=>none)=some l at hg
    split at hg
    ·rename_i r hr
     cases hg
     match l',hw,hx,hu,h with
     | [],hw,_,_,_=>exact hw.elim
     | [_],hw,_,_,_=>exact hw.2.elim
     | a :: a' :: l',hw,hx,hu,h=>
      simp only [aC,Bool.and_eq_true] at hu
      simp only [cJ,dm,List.tail_cons] at h
      have e1:=hx.1 (by simp [AV.exact])
      have e2:=hx.2.2.2.1 (by simp [AV.exact])
      subst e1 e2
      cases id with
      | zero=>
       simp only [nth] at h
       cases h
       exact ⟨.fu s pos,rfl,.inl ⟨rfl,by simp [AV.ow]⟩⟩
      | succ id=>exact fq hr hw.2.2 hx.2.2.2.2.2.2 pg hu.2.2 rG id go h
    ·cases hg
   | _=>cases hg
 | .cP sz e :: g,b :: B,o :: G,l,l',hg,hw,hx,pg,hu,ht,id,go,h=>by
   have rG:cK vs g B G=true:=by cases o <;> exact ht
   cases o with
   | cP es aT e'=>
    change (match ij g G with
     | some r=>bif Nat.beq sz aT&&Nat.beq e e' then some (AV.list .gA aT es :: r) else none
     | none=>none)=some l at hg
    split at hg
    ·rename_i r hr
     cases hm:(Nat.beq sz aT&&Nat.beq e e') with
     | false=>rw [hm] at hg; cases hg
     | true=>
     rw [hm] at hg
     rw [Bool.and_eq_true] at hm
     have q1:=Nat.eq_of_beq_eq_true hm.1
     have q2:=Nat.eq_of_beq_eq_true hm.2
     cases hg
     cases l' with
     | nil=>exact hw.elim
     | cons a l'=>
      simp only [aC,Bool.and_eq_true] at hu
      simp only [cJ,dm,List.tail_cons] at h
      cases id with
      | zero=>
       simp only [nth] at h
       cases h
       exact ⟨.cP es aT e',rfl,.inl ⟨q1,q2,hx.2.2.1,pg.1.1⟩⟩
      | succ id=>exact fq hr hw.2 hx.2.2.2 ⟨pg.1.2,pg.2⟩ hu.2 rG id go h
    ·cases hg
   | _=>cases hg
 | .aH sz e :: g,b :: B,o :: G,l,l',hg,hw,hx,pg,hu,ht,id,go,h=>by
   have rG:cK vs g B G=true:=by cases o <;> exact ht
   cases o with
   | aH fs aT e'=>
    change (match ij g G with
     | some r=>bif Nat.beq sz aT&&Nat.beq e e' then some (AV.list .gA 1 (C9 fs) :: r) else none
     | none=>none)=some l at hg
    split at hg
    ·rename_i r hr
     cases hm:(Nat.beq sz aT&&Nat.beq e e') with
     | false=>rw [hm] at hg; cases hg
     | true=>
     rw [hm] at hg
     rw [Bool.and_eq_true] at hm
     have q1:=Nat.eq_of_beq_eq_true hm.1
     have q2:=Nat.eq_of_beq_eq_true hm.2
     cases hg
     cases l' with
     | nil=>exact hw.elim
     | cons a l'=>
      simp only [aC,Bool.and_eq_true] at hu
      simp only [cJ,dm,List.tail_cons] at h
      cases id with
      | zero=>
       simp only [nth] at h
       cases h
       refine ⟨.aH fs aT e',rfl,.inl ⟨?_,q1.symm,q2.symm⟩⟩
       rw [hx.2.1.1 (vt fs)]
       exact (sG fs).symm
      | succ id=>exact fq hr hw.2 hx.2.2.2 pg hu.2 rG id go h
    ·cases hg
   | _=>cases hg
 | .ga sz e :: g,b :: B,o :: G,l,l',hg,hw,hx,pg,hu,ht,id,go,h=>by
   cases o with
   | ga rows aT e'=>
    change (match ij g G with
     | some r=>bif Nat.beq sz aT&&Nat.beq e e' then some (AV.list .gA 1 (FA aT rows) :: r) else none
     | none=>none)=some l at hg
    change (Bl rows&&cK vs g B G)=true at ht
    rw [Bool.and_eq_true] at ht
    split at hg
    ·rename_i r hr
     cases hm:(Nat.beq sz aT&&Nat.beq e e') with
     | false=>rw [hm] at hg; cases hg
     | true=>
     rw [hm] at hg
     rw [Bool.and_eq_true] at hm
     have q1:=Nat.eq_of_beq_eq_true hm.1
     have q2:=Nat.eq_of_beq_eq_true hm.2
     cases hg
     cases l' with
     | nil=>exact hw.elim
     | cons a l'=>
      simp only [aC,Bool.and_eq_true] at hu
      simp only [cJ,dm,List.tail_cons] at h
      cases id with
      | zero=>
       simp only [nth] at h
       cases h
       refine ⟨.ga rows aT e',rfl,.inl ⟨?_,q1.symm,q2.symm⟩⟩
       show rows=vu a.bY
       unfold vu
       rw [hx.2.1.2 (vv _ _ ht.1)]
       exact (Bk _ rows).symm
      | succ id=>exact fq hr hw.2 hx.2.2.2 pg hu.2 ht.2 id go h
    ·cases hg
   | _=>cases hg
 | .qf :: g,b :: B,o :: G,l,l',hg,hw,hx,pg,hu,ht,id,go,h=>by
   have rG:cK vs g B G=true:=by cases o <;> exact ht
   cases o with
   | map es=>
    change (match ij g G with
     | some r=>some (AV.list .gA 2 (ao es) :: r)
     | none=>none)=some l at hg
    split at hg
    ·rename_i r hr
     cases hg
     cases l' with
     | nil=>exact hw.elim
     | cons a l'=>
      simp only [aC,Bool.and_eq_true] at hu
      simp only [cJ,dm,List.tail_cons] at h
      cases id with
      | zero=>
       simp only [nth] at h
       cases h
       exact ⟨.map es,rfl,.inl (.inr ⟨a.bY,od a,hx.2.2.1,pg.1.1⟩)⟩
      | succ id=>exact fq hr hw.2 hx.2.2.2 ⟨pg.1.2,pg.2⟩ hu.2 rG id go h
    ·cases hg
   | _=>cases hg
 | .mg eW :: g,b :: B,o :: G,l,l',hg,hw,hx,pg,hu,ht,id,go,h=>by
   obtain ⟨D9,rG⟩:Mi b o=true∧cK vs g B G=true:=by
    rw [← Bool.and_eq_true]
    cases o <;> exact ht
   cases o with
   | mg mid' k left cur t=>
    have jm:Rw b=t:=by
     cases b <;> first | (cases D9; done) | exact Nat.eq_of_beq_eq_true D9
    change (match ij g G with
     | some r=>bif Nat.beq eW mid' then some (AV.int .i64 k :: AV.list .gA 1 (C9 left) :: r) else none
     | none=>none)=some l at hg
    split at hg
    ·rename_i r hr
     cases hm:Nat.beq eW mid' with
     | false=>rw [hm] at hg; cases hg
     | true=>
     rw [hm] at hg
     have q1:=Nat.eq_of_beq_eq_true hm
     subst q1
     cases hg
     have UW:=pg.2
     simp only [Hw,Bool.and_eq_true] at UW
     match l',hw,hx,hu,h with
     | [],hw,_,_,_=>exact hw.elim
     | [_],hw,_,_,_=>exact hw.2.elim
     | a :: a' :: l',hw,hx,hu,h=>
      simp only [aC,Bool.and_eq_true] at hu
      simp only [cJ,dm,List.tail_cons] at h
      have e1:=hx.1 (by simp [AV.exact])
      have e2:=hx.2.2.2.2.1.1 (vt left)
      subst e1
      cases id with
      | zero=>
       simp only [nth] at h
       cases h
       refine ⟨.mg eW k left cur t,rfl,.inl ⟨rfl,by simp [AV.ow],?_,jm.symm,fO UW.1,rfl⟩⟩
       rw [e2]
       exact (sG left).symm
      | succ id=>exact fq hr hw.2.2 hx.2.2.2.2.2.2 ⟨pg.1,UW.2⟩ hu.2.2 rG id go h
    ·cases hg
   | _=>cases hg
theorem cg {vs:List AV}:∀ {g:List GL} {B:List GO} {l:List AV},(cJ vs g B l).length=g.length
 | [],_,_=>rfl
 | .row m :: g,B,l=>by simp [cJ,cg (g:=g)]
 | .tok _ _ _ :: g,B,l=>by simp [cJ,cg (g:=g)]
 | .dead :: g,B,l=>by simp [cJ,cg (g:=g)]
 | .lp _ :: g,B,l=>by simp [cJ,cg (g:=g)]
 | .bl :: g,B,l=>by simp [cJ,cg (g:=g)]
 | .map :: g,B,l=>by simp [cJ,cg (g:=g)]
 | .cP _ _ :: g,B,l=>by simp [cJ,cg (g:=g)]
 | .Bj :: g,B,l=>by simp [cJ,cg (g:=g)]
 | .aH _ _ :: g,B,l=>by simp [cJ,cg (g:=g)]
 | .ga _ _ :: g,B,l=>by simp [cJ,cg (g:=g)]
 | .qf :: g,B,l=>by simp [cJ,cg (g:=g)]
 | .mg _ :: g,B,l=>by simp [cJ,cg (g:=g)]
theorem fa.YA {R0:af} {w0:World} {Mk:RO} {Gb go' go:GO} {ro:RO} (e:Ext R0 w0 R w) (h0:fa R0 w0 Gb Mk) (hle:bI Mk ro) (h:fa R' w go' ro) (k:UT Gb go' go):fa R w go ro:=by
 cases Gb with
 | loop b p fn sl n ps oN bd d dn=>
  cases go' with
  | loop b' p' UU Qq n' Ry Kf Qt d' dn'=>
   change go=_ at k
   subst k
   cases Mk with
   | bi bb=>
    simp only [bI] at hle
    subst hle
    obtain ⟨⟨r0,UX,l1,l2,l3,l4,l5,l6,l7,l8,l9,l10⟩,l11⟩:=h0
    obtain ⟨⟨r,db,m1,m2,m3,m4,m5,m6,m7,m8,m9,m10⟩,m11⟩:=h
    obtain ⟨r1,q1,q2,q3,q4,q5,q6⟩:=e.lp bb r0 l1
    have hr:r1=r:=by
     have:=q1.symm.trans m1
     injection this with this
     injection this with this
    subst hr
    exact ⟨⟨r1,UX,q1,m2,m3,by rw [q2]; exact mo.mono e l4,by rw [q2]; exact l5,by rw [q3]; exact l6,by rw [q4]; exact l7,by rw [q5]; exact l8,by rw [q6]; exact l9,e.bi l10⟩,l11⟩
   | none=>exact h0.elim
   | aN=>exact h0.elim
   | tok _ _ _=>exact h0.elim
   | aH _=>exact h0.elim
  | _=>exact k.elim
 | _=>exact k.elim
theorem cV.cut {n:Nat}:∀ {es:List (AV × AV)} {ay:List MapEntry},eu (ao es)=true→cV R w es ay→cV (R.cut n) w es ay
 | [],[],_,_=>trivial
 | [],_ :: _,_,h=>h.elim
 | _ :: _,[],_,h=>h.elim
 | (k,v) :: es,en :: ay,he,h=>by
  simp only [ao,eu,AV.exact,Bool.and_true,Bool.and_eq_true] at he
  exact ⟨h.1.move (lN R n) (fm n (lM he.1.1)),h.2.1.move (lN R n) (fm n (lM he.1.2)),cV.cut he.2 h.2.2⟩
theorem Bq {n:Nat} {v:AV} (h:v.under n=true) (k:v.aI=true):aC n v.cells=true:=by
 cases v <;> first | exact h | (simp [AV.aI] at k; done) | (simp only [AV.cells,aC,Bool.and_true]; exact h)
theorem vD {n sz:Nat}:∀ {es es':List AV},iK es es'→cW sz es→aC n es'=true→cW sz es'∧b9 (ar es) (ar es')∧aC n (ar es')=true
 | [],[],_,_,_=>⟨(fun e he=>by simp at he),trivial,rfl⟩
 | e :: es,e' :: es',h,k,lS=>by
  obtain ⟨h1,h2⟩:=h
  simp only [aC,Bool.and_eq_true] at lS
  obtain ⟨q1,q2⟩:=k e (by simp)
  obtain ⟨i1,i2,i3⟩:=vD h2 (fun x hx=>k x (by simp [hx])) lS.2
  have hc:=h1.cells q2
  have ht:e'.aI=true:=by rw [h1.bt,q2]
  refine ⟨fun x hx=>?_,hc.append i2,by show aC n (e'.cells++ar es')=true; rw [dJ,Bq lS.1 ht,i3]; rfl⟩
  rcases List.mem_cons.1 hx with rfl | hx
  ·exact ⟨by rw [← hc.length,q1],ht⟩
  ·exact i1 x hx
 | [],_ :: _,h,_,_=>h.elim
 | _ :: _,[],h,_,_=>h.elim
theorem me.head {l r:List AV} (h:me l r):(AV.bY (dm l)).length=(AV.bY (dm r)).length:=by
 cases l <;> cases r <;> first | rfl | exact h.1 | exact h.elim
theorem me.tail {l r:List AV} (h:me l r):me l.tail r.tail:=by
 cases l <;> cases r <;> first | exact h | exact h.2 | exact h.elim
theorem cj:∀ (g:List GL) {l r:List AV} (i:Nat),me l r→iS g l i=iS g r i
 | [],_,_,_,_=>rfl
 | .cP _ _ :: g,l,r,0,h=>h.head
 | .cP _ _ :: g,l,r,i+1,h=>cj g i h.tail
 | .row _ :: g,l,r,0,h=>rfl
 | .row n :: g,l,r,i+1,h=>cj g i (h.drop n)
 | .map :: g,l,r,0,h=>rfl
 | .map :: g,l,r,i+1,h=>cj g i h.tail
 | .Bj :: g,l,r,0,h=>rfl
 | .Bj :: g,l,r,i+1,h=>cj g i h.tail.tail
 | .aH _ _ :: g,l,r,0,h=>rfl
 | .aH _ _ :: g,l,r,i+1,h=>cj g i h.tail
 | .ga _ _ :: g,l,r,0,h=>rfl
 | .ga _ _ :: g,l,r,i+1,h=>cj g i h.tail
 | .qf :: g,l,r,0,h=>rfl
 | .qf :: g,l,r,i+1,h=>cj g i h.tail
 | .mg _ :: g,l,r,0,h=>rfl
 | .mg _ :: g,l,r,i+1,h=>cj g i h.tail.tail
 | .tok _ _ _ :: g,l,r,0,h=>rfl
 | .tok _ _ _ :: g,l,r,i+1,h=>cj g i h
 | .dead :: g,l,r,0,h=>rfl
 | .dead :: g,l,r,i+1,h=>cj g i h
 | .lp _ :: g,l,r,0,h=>rfl
 | .lp _ :: g,l,r,i+1,h=>cj g i h
 | .bl :: g,l,r,0,h=>rfl
 | .bl :: g,l,r,i+1,h=>cj g i h
theorem cV.Rz {n:Nat}:∀ {es:List (AV × AV)} {l:List AV} {ay:List MapEntry},iK (ao es) l→aC n l=true→cV R w es ay→cV (R.cut n) w (ae l) ay
 | [],[],[],_,_,_=>trivial
 | [],[],_ :: _,_,_,h=>h.elim
 | [],_ :: _,_,h,_,_=>h.elim
 | (_,_) :: _,[],_,h,_,_=>h.elim
 | (_,_) :: _,_ :: _,[],_,_,h=>h.elim
 | (k,v) :: es,a :: l,en :: ay,hd,hu,h=>by
  obtain ⟨d1,d2⟩:=hd
  simp only [aC,Bool.and_eq_true] at hu
  have hc:=d1.cells rfl
  have hl:[k,v].length=a.cells.length:=hc.length
  cases a with
  | agg cs=>
   match cs,hc,hl with
   | [k',v'],hc,_=>
    have NJ:aC n [k',v']=true:=hu.1
    simp only [aC,Bool.and_true,Bool.and_eq_true] at NJ
    exact ⟨(hc.1 _ _ _ h.1).move (lN R n) NJ.1,(hc.2.1 _ _ _ h.2.1).move (lN R n) NJ.2,cV.Rz d2 hu.2 h.2.2⟩
   | [],_,hl=>simp [AV.cells] at hl
   | [_],_,hl=>simp [AV.cells] at hl
   | _ :: _ :: _ :: _,_,hl=>simp [AV.cells] at hl
  | _=>simp [AV.cells] at hl
theorem vE {n sz:Nat}:∀ {es:List AV},eM sz es→aC n (ar es)=true
 | [],_=>rfl
 | e :: es,h=>by
  have h1:=h e List.mem_cons_self
  have h2:=vE (n:=n) (sz:=sz) (es:=es) fun x hx=>h x (List.mem_cons_of_mem _ hx)
  simp only [ar,dJ,h2,Bool.and_true]
  have hk:=h1.2.2
  cases e with
  | agg cs=>exact b7 n (show aJ cs=true by simpa [AV.closed] using hk)
  | bt cs=>cases h1.2.1
  | _=>simp only [AV.cells,aC,Bool.and_true]; exact fm n hk
theorem fa.YB {n:Nat} {go go':GO} {ro:RO} (h:fa R w go' ro) (k:US n go' go):fa (R.cut n) w go ro:=by
 cases go with
 | dead=>
  cases ro with
  | none=>trivial
  | aN=>trivial
  | bi b=>exact h.lt rfl
  | tok f b c=>exact h.lt rfl
  | aH ts=>exact fun j f b c hj=>h.lt ⟨j,f,c,hj⟩
 | row cs el=>
  cases go' with
  | row dB S7=>
   cases ro with
   | bi b=>
    obtain ⟨vs,h1,h2,h3,h4⟩:=h
    obtain ⟨rfl,k⟩:=k
    exact ⟨vs,h1,(k.1.rel h2).move (lN R n) k.2,h3,h4⟩
   | none=>exact h.elim
   | aN=>exact h.elim
   | tok _ _ _=>exact h.elim
   | aH _=>exact h.elim
  | _=>exact k.elim
 | tok f sz e=>
  cases go' with
  | tok f' aT e'=>
   obtain ⟨rfl,rfl,rfl⟩:=k
   cases ro with
   | bi b=>exact h.elim
   | none=>exact h.elim
   | aN=>exact h
   | tok _ _ _=>exact h
   | aH _=>exact h.elim
  | _=>exact k.elim
 | defers a=>
  cases go' with
  | defers b=>
   change b=a at k
   subst k
   cases ro <;> exact h
  | _=>exact k.elim
 | map es=>
  cases go' with
  | map es'=>
   cases ro with
   | bi b=>
    obtain ⟨ay,clock,h1,h2,h3⟩:=h
    rcases k with ⟨rfl,k2⟩ | ⟨l,rfl,k2,k3⟩
    ·exact ⟨ay,clock,h1,cV.cut k2 h2,h3⟩
    ·exact ⟨ay,clock,h1,cV.Rz k2 k3 h2,h3⟩
   | none=>exact h.elim
   | aN=>exact h.elim
   | tok _ _ _=>exact h.elim
   | aH _=>exact h.elim
  | _=>exact k.elim
 | aH fs sz e=>
  cases go' with
  | aH yO aT e'=>
   obtain ⟨rfl,rfl,rfl⟩:=k
   cases ro <;> exact h
  | _=>exact k.elim
 | ga rows sz e=>
  cases go' with
  | ga rows' aT e'=>
   obtain ⟨rfl,rfl,rfl⟩:=k
   cases ro with
   | none=>exact h.elim
   | aN=>exact h.elim
   | bi _=>exact h.elim
   | tok _ _ _ _=>exact h.elim
   | aH ts=>
    obtain ⟨h1,h2,h3⟩:=h
    refine ⟨h1,h2,fun j row t hj ht=>?_⟩
    have h4:=h3 j row t hj ht
    cases t with
    | aN=>exact h4
    | full _=>exact h4
    | tok f b c=>
     obtain ⟨h5,jm,cur,vs,k1,k2,k3,k4,k5,k6,k7,k8⟩:=h4
     exact ⟨h5,jm,cur,vs,k1,k2,k3,k4,k5,k6.move (lN R n) (vE jm),k7,k8⟩
  | _=>exact k.elim
 | mg eW m left cur t=>
  cases go' with
  | mg mid' m' xR oE t'=>
   obtain ⟨rfl,rfl,rfl,rfl,k,rfl⟩:=k
   cases ro with
   | bi b=>obtain ⟨bm,seen,c0,h1,h2,h3,h4,h5,h6,_⟩:=h; exact ⟨bm,seen,c0,gv.2 ⟨k,h1⟩,h2,h3,h4,h5,h6,fun i hi=>by cases hi⟩
   | none=>exact h.elim
   | aN=>exact h.elim
   | tok _ _ _=>exact h.elim
   | aH _=>exact h.elim
  | _=>exact k.elim
 | fu l p=>
  cases go' with
  | fu l' p'=>
   obtain ⟨rfl,rfl⟩:=k
   cases ro <;> exact h
  | _=>exact k.elim
 | cP es sz e=>
  cases go' with
  | cP es' aT e'=>
   obtain ⟨rfl,rfl,k,kc⟩:=k
   cases ro with
   | bi b=>exact h.elim
   | none=>exact h.elim
   | aH _=>exact h.elim
   | aN=>
    have he:es'=[]:=h
    subst he
    exact List.eq_nil_of_length_eq_zero k.length.symm
   | tok f b c=>
    obtain ⟨Ag,h0,h1,cur,vs,h2,h3,h4,h5,h6,h7,h8,h9⟩:=h
    obtain ⟨k1,k2,k3⟩:=vD k h1 kc
    exact ⟨Ag,h0.trans k.length,k1,cur,vs,h2,h3,h4,h5,h6,(k2.rel h7).move (lN R n) k3,h8,h9⟩
  | _=>exact k.elim
 | _=>cases go' <;> exact k.elim
theorem nR.ids:∀ {l:List Nat} {ds:List Deferred},nR R l ds→∀ id∈l,id < R.obj.length
 | [],[],_,id,hi=>by simp at hi
 | x :: l,d :: ds,h,id,hi=>by
  obtain ⟨⟨b,h1,_⟩,h2⟩:=h
  rcases List.mem_cons.1 hi with rfl | hi
  ·exact aQ h1
  ·exact nR.ids h2 id hi
 | [],_ :: _,h,_,_=>h.elim
 | _ :: _,[],h,_,_=>h.elim
theorem nR.cut {n:Nat}:∀ {l:List Nat} {ds:List Deferred},nR R l ds→(∀ id∈l,id < n)→nR (R.cut n) l ds
 | [],[],_,_=>trivial
 | x :: l,d :: ds,h,hi=>by
  obtain ⟨⟨b,h1,h3⟩,h2⟩:=h
  exact ⟨⟨b,gv.2 ⟨hi x (by simp),h1⟩,h3⟩,nR.cut h2 fun id hm=>hi id (by simp [hm])⟩
 | [],_ :: _,h,_=>h.elim
 | _ :: _,[],h,_=>h.elim
theorem sJ {n:Nat} {tmps:Array Value} {ab base:aV} (hT:mo R w β ab tmps):∀ {l:List (Tmp × Nat × Nat)},Em ab l=true→mo (R.cut n) w β base tmps→mo (R.cut n) w β (mT l base) tmps
 | [],_,h=>h
 | (t,k,o) :: l,hl,h=>fun i hi=>by
  simp only [Em,Bool.and_eq_true] at hl
  simp only [mT] at hi ⊢
  by_cases e:t=i
  ·subst e
   rw [aw]
   have h1:=hl.1
   split at h1
   ·rename_i k' o' hk
    rw [Bool.and_eq_true] at h1
    have e1:=Nat.eq_of_beq_eq_true h1.1
    have e2:=Nat.eq_of_beq_eq_true h1.2
    subst e1 e2
    obtain ⟨c,q1,q2⟩:=hT t (by rw [hk]; simp)
    rw [hk] at q2
    exact ⟨c,q1,q2⟩
   ·cases h1
  ·rw [aD e] at hi ⊢
   exact sJ hT hl.2 h i hi
theorem bw.NK {t:bw} {v:t.ps.T} (hs:az s s') (h0:aL E R w β s a) (h:aL E R' w' β' s' a') (st:Ext R w R' w') (hd:t.dec s s'=some v) :
  aL E (R'.cut s.G.length) w' β' (t.st s v) a'∧Ext R w (R'.cut s.G.length) w'∧∀ k cs,cO (t.st s v).boxes k=some cs→∃ dB,cO s'.boxes k=some dB:=by
 have hlen:=h0.g.len
 unfold bw.dec at hd
 cases cM:t.ok s s' with
 | false=>rw [cM] at hd; cases hd
 | true=>
 rw [cM] at hd
 simp only [cond_true] at hd
 unfold bw.ok at cM
 simp only [Bool.and_eq_true] at cM
 obtain ⟨⟨⟨⟨⟨k1,k2⟩,k3⟩,k4⟩,k5,k7,k8⟩,k6⟩:=cM
 obtain ⟨pre,A9⟩:=hs.sl
 obtain ⟨preB,Ml⟩:=hs.bx
 rw [A9,Bn] at k1
 rw [Ml,Bn] at k2
 have k3:=En k3
 have k4:=Nat.eq_of_beq_eq_true k4
 split at hd
 ·rename_i la lb lc g1 g2 g3
  cases hv:t.ps.Fy (iS t.g lc) (la++(lb++lc)) with
  | none=>rw [hv] at hd; cases hd
  | some v'=>
  rw [hv] at hd
  simp only [Option.bind_some] at hd
  cases Gc:cK (t.nU v') t.g s.G s'.G with
  | false=>rw [Gc] at hd; cases hd
  | true=>
  rw [Gc] at hd
  cases hd
  have UY:∀ {ts:List Tmp} {l:List AV},vw s'.ab ts=some l→l.length=ts.length:=by
   intro ts
   induction ts with
   | nil=>intro l hl; simp only [vw] at hl; cases hl; rfl
   | cons t ts ih=>
    intro l hl
    unfold vw at hl
    split at hl
    ·split at hl
     ·rename_i hr
      cases hl
      simp [ih hr]
     ·cases hl
    ·cases hl
  have UZ:∀ {bx:List (Nat × Nat)} {l:List AV},vx s'.boxes bx=some l→l.length=zy bx:=by
   intro bx
   induction bx with
   | nil=>intro l hl; simp only [vx] at hl; cases hl; rfl
   | cons x bx ih=>
    obtain ⟨k,m⟩:=x
    intro l hl
    unfold vx at hl
    split at hl
    ·split at hl
     ·rename_i cs _ _ r hr
      cases hm:Nat.beq cs.length m with
      | false=>rw [hm] at hl; cases hl
      | true=>
       rw [hm] at hl
       cases hl
       simp only [zy,List.length_append,ih hr,Nat.eq_of_beq_eq_true hm]
     ·cases hl
    ·cases hl
  obtain ⟨hw,hex⟩:=t.ps.Kc _ hv
  have Mm:t.nU v=t.ps.jC (iS t.g lc) v:=by
   unfold bw.nU
   congr 1
   funext i
   have hl:=hex.Rv.trans (t.ps.mR (iS t.g lc) (fun _=>0) v)
   have J6:=(hl.drop t.sl.length).drop (zy t.bx)
   rw [← UY g1,List.drop_left,← UZ g2,List.drop_left,UY g1,UZ g2] at J6
   exact (cj t.g i J6).symm
  have hu:aC s.G.length (t.nU v)=true:=by
   rw [Mm,t.ps.Fz _ hv]
   exact t.ps.C8 _ k5 _
  rw [← Mm] at hw hex
  have U0:∃ xa xb xc,t.nU v=xa++(xb++xc)∧b9 la xa∧b9 lb xb∧b9 lc xc∧xa.length=la.length∧xb.length=lb.length∧Gd lc xc:=by
   obtain ⟨xa,r,h1,h2,h3,h4⟩:=hw.split
   obtain ⟨xb,xc,rfl,h6,h7,h8⟩:=h3.split
   rw [h1] at hex
   obtain ⟨ya,yr,g1,_,g3,g4⟩:=hex.split
   obtain ⟨_,rfl⟩:=List.append_inj g1 (by rw [h4,g4])
   obtain ⟨yb,yc,k1,_,k3,k4⟩:=g3.split
   obtain ⟨_,rfl⟩:=List.append_inj k1 (by rw [h8,k4])
   exact ⟨xa,xb,xc,h1,h2,h6,h7,h4,h8,k3⟩
  obtain ⟨xa,xb,xc,hx,wa,wb,wc,WK,YC,YD⟩:=U0
  have U1:aC s.G.length xa=true∧aC s.G.length xb=true∧aC s.G.length xc=true:=by
   rw [hx,dJ,dJ] at hu
   simp only [Bool.and_eq_true] at hu
   exact ⟨hu.1,hu.2.1,hu.2.2⟩
  have e1:(t.nU v).drop t.sl.length=xb++xc:=by rw [hx,← UY g1,← WK,List.drop_left]
  have e2:(xb++xc).drop (zy t.bx)=xc:=by rw [← UZ g2,← YC,List.drop_left]
  have pg:tv s.G.length t.g xc:=by
   have hf:=((aG.Bp s.G.length _ t.ps v).drop t.sl.length).drop (zy t.bx) (l:=(t.nU v).drop t.sl.length)
   rw [e1,e2] at hf
   exact ey t.g k7 hf
  have old:∀ {l:List AV} {cs:List Value},aA R w l cs→aC s.G.length l=true:=fun hr=>hr.under (by omega)
  have mv:=lN R' s.G.length
  have S8:∀ k cs,cO s'.boxes k=some cs→vB R' w' β' k cs:=fun k cs hk=>h.b.box k cs hk
  have Tr:∀ k cs,cO (sH t.bx (xb++xc) s.boxes) k=some cs→vB (R'.cut s.G.length) w' β' k cs∧∃ dB,cO s'.boxes k=some dB:=fun k cs hk=>by
   refine Bo (K:=fun _=>False) S8 g2 wb U1.2.1 (fun k cs _ h1 h2=>?_) k cs (fun h=>h) hk
   refine ⟨by rw [Ml]; exact Bm h1 h2 k2,?_⟩
   obtain ⟨⟨vs,el,_,h4,_⟩,_⟩:=h0.b.box k cs h2
   exact old h4
  have WL:(t.st s v).G=cJ (t.nU v) t.g s.G xc:=by simp only [bw.st,e1,e2]
  have WM:(t.st s v).boxes=sH t.bx (xb++xc) s.boxes:=by simp only [bw.st,e1]
  have YE:(t.st s v).ab=mT t.Qr (mS t.sl (xa++(xb++xc)) (vy t.W s.ab)):=by simp only [bw.st,hx]
  have ext:Ext R w (R'.cut s.G.length) w':=⟨st.I,st.cell,fun id ro hi=>by
   obtain ⟨iB,h1,h2⟩:=st.obj id ro hi
   exact ⟨iB,gv.2 ⟨by have:=aQ hi; omega,h1⟩,h2⟩,st.lp⟩
  refine ⟨⟨⟨?_,fun id go ro h1 h2=>?_,fun i j ri rj b h1 h2=>h.g.inj i j ri rj b (gv.1 h1).2 (gv.1 h2).2,h.g.wf,fun g cs hg=>(h.g.cG g cs hg).move mv (b7 _ (E.yK g cs hg)),h.g.lo⟩,?_,?_,?_,?_⟩,ext,fun k cs hk=>?_⟩
  ·rw [WL,cg,k4]
   have:=h.g.len
   have h3:s.G.length≤R'.obj.length:=by
    rcases Nat.lt_or_ge R'.obj.length s.G.length with bM | qS
    ·exfalso
     have hx:R'.obj.length < R.obj.length:=by omega
     obtain ⟨iB,h1,_⟩:=st.obj R'.obj.length R.obj[R'.obj.length] (by rw [aE]; exact List.getElem?_eq_getElem hx)
     have:=aQ h1
     omega
    ·exact qS
   simp [af.cut]
   omega
  ·rw [WL] at h1
   obtain ⟨go',h3,h4⟩:=fq g3 wc YD ⟨pg,k8⟩ U1.2.2 Gc id go h1
   rcases h4 with h4 | ⟨Gb,h5,h4⟩
   ·exact (h.g.obj id go' ro h3 (gv.1 h2).2).YB h4
   ·have bM:=aQ h5
    rw [← hlen] at bM
    obtain ⟨Mk,h6⟩:∃ Mk,nth R.obj id=some Mk:=⟨R.obj[id],by rw [aE]; exact List.getElem?_eq_getElem bM⟩
    obtain ⟨iB,h7,h8⟩:=ext.obj id Mk h6
    have:iB=ro:=Option.some.inj (h7.symm.trans h2)
    subst this
    exact fa.YA ext (h0.g.obj id Gb Mk h5 h6) h8 (h.g.obj id go' iB h3 (gv.1 h2).2) h4
  ·rw [WM]
   refine ⟨fun k cs hk=>(Tr k cs hk).1,fun k k' cs dB hk fA he=>?_⟩
   obtain ⟨_,c1,Nh⟩:=Tr k cs hk
   obtain ⟨_,c2,Fo⟩:=Tr k' dB fA
   exact h.b.inj k k' c1 c2 Nh Fo he
  ·rw [YE]
   have hT:vz (R'.cut s.G.length) w' β' (fun _=>False) (mS t.sl (xa++(xb++xc)) (vy t.W s.ab)) a'.tmps:=by
    refine sI mv h.t g1 (l':=xa) (r:=lb++lc) (r':=xb++xc) (wa.append (wb.append wc)) WK.symm U1.1 (vA fun i hi hn=>?_)
    have YF:Qs t.sl t.W i=false:=by
     simp only [Qs,Bool.or_eq_false_iff]
     refine ⟨?_,?_⟩
     ·cases hc:Jp t.sl i with
      | false=>rfl
      | true=>exact absurd (.inr (.inl (zz.1 hc))) hi
     ·cases hc:Jp t.W i with
      | false=>rfl
      | true=>exact absurd (.inl (zz.1 hc)) hi
    have hk:=zB YF k1
    rw [← A9] at hk
    obtain ⟨c,h1,h2⟩:=h.t i (by rw [hk]; exact hn)
    rw [hk] at h2
    refine ⟨c,h1,?_⟩
    obtain ⟨c0,_,h4⟩:=h0.t i hn
    revert h2 h4
    cases lk s.ab i with
    | none=>exact fun _ _=>trivial
    | lp k off=>exact fun h2 _=>h2
    | v x=>exact fun h2 h4=>Rel.move mv (Rel.under (by omega) h4) h2
   exact sJ h.t k6 (fun i hi=>hT i (fun h=>h) hi)
  ·show a'.tmps.size=s.n
   rw [h.n,hs.n]
  ·show nR _ s.marks a'.defers
   have:=h.d
   rw [k3] at this
   exact this.cut fun id hid=>by have:=h0.d.ids id hid; omega
  ·rw [WM] at hk
   exact (Tr k cs hk).2
 ·cases hd
theorem bw.Ah {t:bw} {v:t.ps.T} (hs:az s s') (h0:aL E R w β s a) (h:aL E R' w' β' s' a') (st:Step R w β s.boxes R' w' β' s'.boxes) (hd:t.dec s s'=some v) :
  aL E (R'.cut s.G.length) w' β' (t.st s v) a'∧Step R w β s.boxes (R'.cut s.G.length) w' β' (t.st s v).boxes:=by
 obtain ⟨h1,h2,h3⟩:=bw.NK hs h0 h st.ext hd
 refine ⟨h1,h2,st.os,st.tape,st.output,st.size,st.bl,fun b hb ho=>st.own b hb ?_,st.im⟩
 rcases ho with ho | ⟨k,cs,hk,rfl⟩
 ·exact .inl (mU ho)
 ·obtain ⟨c1,Nh⟩:=h3 k cs hk
  exact .inr ⟨k,c1,Nh,rfl⟩
end Ah
end Go.Am
