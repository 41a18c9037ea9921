/- The abstract machine: what is asked of bodies; values are brought to a short form. -/
import Derived.Test.YtfiopgedfcaodaaGreatDoorAmKG
import Derived.RangeFuncIn
import Derived.RangeFuncRecord
set_option linter.all false
namespace Go.Am
open Go
def bB (dt:Nat→Option af):Code→Bool
 | .region id ops true=>match dt id with
  | some p=>Fw ops p
  | none=>false
 | .seq x y=>bB dt x&&bB dt y
 | .cond _ x y=>bB dt x&&bB dt y
 | .block _ c=>bB dt c
 | .loop c=>bB dt c
 | .scope c=>bB dt c
 | .rangeFunc _ _ a b=>bB dt a&&bB dt b
 | _=>true
structure NU extends Env where
 dt:FuncId→Nat→Option af
 okF:FuncId→Bool
 R7:∀ f fn c,okF f=true→P.funcs[f]?=some fn→fn.body=some c→bB (dt f) c=true
def ju {α:Type} (n:Nat) (K:Nat→α):α:=match n with
 | 0=>K 0
 | m+1=>K (Nat.succ m)
def xr {α:Type} (n:Int) (K:Int→α):α:=match n with
 | .ofNat m=>ju m fun m=>K (.ofNat m)
 | .negSucc m=>ju m fun m=>K (.negSucc m)
def oH {α β:Type}:List β→(List β→α)→α
 | [],K=>K []
 | a :: l,K=>oH l fun l=>K (a :: l)
def Bj {α:Type} (v:AV) (K:AV→α):α:=match v with
 | .int k n=>xr n fun n=>K (.int k n)
 | .bool true=>K (.bool true)
 | .bool false=>K (.bool false)
 | .list k sz es=>oH es fun es=>K (.list k sz es)
 | .str l=>oH l fun l=>K (.str l)
 | .kM id off sz len cap=>ju off fun off=>ju len fun len=>ju cap fun cap=>K (.kM id off sz len cap)
 | .ptr id off=>ju off fun off=>K (.ptr id off)
 | .agg cs=>oH cs fun cs=>K (.agg cs)
 | v=>K v
def Bk {α:Type} (l:bp) (K:bp→α):α:=match l with
 | .put d (.v a) :: l=>Bj a fun a=>K (.put d (.v a) :: l)
 | .put d (.lp k off) :: l=>ju off fun off=>K (.put d (.lp k off) :: l)
 | l=>K l
def Bl {α:Type} (l:cF) (K:cF→α):α:=match l with
 | (d,cs) :: l=>oH cs fun cs=>K ((d,cs) :: l)
 | []=>K []
def Fx {α:Type} (s:St) (K:St→α):α:=match s with
 | ⟨sl,bx,G,m,ro,n⟩=>Bk sl fun sl=>Bl bx fun bx=>oH G fun G=>K ⟨sl,bx,G,m,ro,n⟩
theorem oI {α:Type} (n:Nat) (K:Nat→α):ju n K=K n:=by cases n <;> rfl
theorem C7 {α:Type} (n:Int) (K:Int→α):xr n K=K n:=by cases n <;> simp [xr,oI]
theorem py {α β:Type}:∀ (l:List β) (K:List β→α),oH l K=K l
 | [],_=>rfl
 | a :: l,K=>by simp only [oH]; rw [py]
theorem Fy {α:Type} (v:AV) (K:AV→α):Bj v K=K v:=by
 unfold Bj
 split <;> simp [oI,C7,py]
theorem Fz {α:Type} (l:bp) (K:bp→α):Bk l K=K l:=by
 unfold Bk
 split <;> simp [oI,Fy]
theorem FA {α:Type} (l:cF) (K:cF→α):Bl l K=K l:=by
 unfold Bl
 split <;> simp [py]
theorem Ix {α:Type} (s:St) (K:St→α):Fx s K=K s:=by
 obtain ⟨sl,bx,G,m,ro,n⟩:=s
 simp [Fx,Fz,FA,py]
def Bm:SV→SV→Bool
 | .v a,.v b=>cM a b
 | .lp k o,.lp k' o'=>Nat.beq k k'&&Nat.beq o o'
 | _,_=>false
def ZL (E:Env) (f:FuncId) (ops:List Oper) (o:Oper) (s:St):Bool:=match Cb ops s o with
 | some true=>match o.dst,ar E f s o with
  | some d,some (c,s')=>c&&Bm (lk s'.ae d) (lk s.ae d)
  | _,_=>false
 | some false=>true
 | none=>false
section
variable {E:Env} {f:FuncId} {s:St}
theorem Af {a b:SV} (h:Bm a b=true):a=b:=by
 unfold Bm at h
 split at h
 ·rw [jn h]
 ·simp only [Bool.and_eq_true,Nat.beq_eq] at h; rw [h.1,h.2]
 ·cases h
theorem Ag {ops:List Oper} {o:Oper} (h:ZL E f ops o s=true):Fs E f ops o s:=by
 unfold ZL at h
 unfold Fs
 split at h
 ·rename_i hg
  rw [hg]
  simp only
  split at h
  ·rename_i d c s' hd hs
   rw [Bool.and_eq_true] at h
   obtain ⟨rfl,h⟩:=h
   rw [hd,hs]
   exact ⟨rfl,Af h⟩
  ·cases h
 ·rename_i hg
  rw [hg]
  trivial
 ·cases h
end
end Go.Am
namespace Go.Am
open Go
mutual
def AV.under (n:Nat):AV→Bool
 | .agg cs=>aH n cs
 | .bH cs=>aH n cs
 | .ep cs=>aH n cs
 | .list (.own id) _ _=>Nat.blt id n
 | .list (.aP id _) _ _=>Nat.blt id n
 | .fn _ x y=>aH n x&&aH n y
 | .iface _ v=>v.under n
 | .ptr id _=>Nat.blt id n
 | .kM id _ _ _ _=>Nat.blt id n
 | .cR id _ _ _ _=>Nat.blt id n
 | .gp id _ _ _ _ _=>Nat.blt id n
 | .map id=>Nat.blt id n
 | .yield id=>Nat.blt id n
 | _=>true
def aH (n:Nat):List AV→Bool
 | []=>true
 | a :: l=>a.under n&&aH n l
end
mutual
theorem iq (n:Nat):∀ {a:AV},a.closed=true→a.under n=true:=fun {a} h=>by
 cases a with
 | agg cs=>simp only [AV.closed,AV.under] at *; exact cn n h
 | bH cs=>simp only [AV.closed,AV.under] at *; exact cn n h
 | ep cs=>simp only [AV.closed,AV.under] at *; exact cn n h
 | list k sz es=>cases k <;> simp_all [AV.closed,AV.under,LK.closed]
 | fn f x y=>
  simp only [AV.closed,AV.under,Bool.and_eq_true] at *
  exact ⟨cn n h.1,cn n h.2⟩
 | iface t v=>simp only [AV.closed,AV.under] at *; exact iq n h
 | _=>simp_all [AV.closed,AV.under]
theorem cn (n:Nat):∀ {l:List AV},aC l=true→aH n l=true
 | [],_=>rfl
 | a :: l,h=>by
  simp only [aC,aH,Bool.and_eq_true] at *
  exact ⟨iq n h.1,cn n h.2⟩
end
theorem pz {a b:Nat} (h:Nat.blt a b=true):a < b:=Nat.le_of_ble_eq_true h
mutual
theorem lC:∀ {a:AV},a.under 0=true→a.closed=true:=fun {a} h=>by
 cases a with
 | agg cs=>simp only [AV.closed,AV.under] at *; exact eE h
 | bH cs=>simp only [AV.closed,AV.under] at *; exact eE h
 | ep cs=>simp only [AV.closed,AV.under] at *; exact eE h
 | list k sz es=>cases k <;> first | rfl | (simp [AV.under] at h)
 | fn f x y=>
  simp only [AV.closed,AV.under,Bool.and_eq_true] at *
  exact ⟨eE h.1,eE h.2⟩
 | iface t v=>simp only [AV.closed,AV.under] at *; exact lC h
 | ptr id off=>simp only [AV.under] at h; exact absurd (pz h) (Nat.not_lt_zero _)
 | kM id off sz len cap=>simp only [AV.under] at h; exact absurd (pz h) (Nat.not_lt_zero _)
 | cR id f off sz len=>simp only [AV.under] at h; exact absurd (pz h) (Nat.not_lt_zero _)
 | gp id f i off sz t=>simp only [AV.under] at h; exact absurd (pz h) (Nat.not_lt_zero _)
 | map id=>simp only [AV.under] at h; exact absurd (pz h) (Nat.not_lt_zero _)
 | yield id=>simp only [AV.under] at h; exact absurd (pz h) (Nat.not_lt_zero _)
 | _=>rfl
theorem eE:∀ {l:List AV},aH 0 l=true→aC l=true
 | [],_=>rfl
 | a :: l,h=>by
  simp only [aH,aC,Bool.and_eq_true] at *
  exact ⟨lC h.1,eE h.2⟩
end
section move
variable {R R2:aj} {w:World} {n:Nat}
structure Mv (R R2:aj) (n:Nat):Prop where
 I:∀ b o,R.I b o→R2.I b o
 obj:∀ id ro,id < n→nth R.obj id=some ro→nth R2.obj id=some ro
theorem jL {a b:Nat} (h:Nat.blt a b=true):a < b:=Nat.le_of_ble_eq_true h
theorem kn {a b:Nat} (h:a < b):Nat.blt a b=true:=Nat.ble_eq_true_of_le h
theorem AU.move (m:Mv R R2 n) {k:LK} {b o len cap:Nat} (h:AU R k b o len cap) (hk:∀ id,(k=.own id∨∃ j,k=.aP id j)→id < n):AU R2 k b o len cap:=by
 cases k with
 | nil=>exact h
 | full=>exact h
 | gr=>trivial
 | own id=>obtain ⟨ro,h1,h2⟩:=h; exact ⟨ro,m.obj id ro (hk id (.inl rfl)) h1,h2⟩
 | aP id j=>obtain ⟨ro,h1,h2⟩:=h; exact ⟨ro,m.obj id ro (hk id (.inr ⟨j,rfl⟩)) h1,h2⟩
mutual
theorem Rel.move (m:Mv R R2 n):∀ {a:AV} {c:Value},a.under n=true→Rel R w a c→Rel R2 w a c
 | _,_,_,.bool b=>.bool b
 | _,_,_,.int k i=>.int k i
 | _,_,_,.str l=>.str l
 | _,_,hb,.agg h h1=>.agg (h.move m (by simpa [AV.under] using hb)) h1
 | _,_,hb,.bH h=>.bH (h.move m (by simpa [AV.under] using hb))
 | _,_,_,.kL=>.kL
 | _,_,hb,.ptr h=>.ptr (m.obj _ _ (jL (by simpa [AV.under] using hb)) h)
 | _,_,hb,.ep h=>.ep (h.move m (by simpa [AV.under] using hb))
 | _,_,_,.ke=>.ke
 | _,_,_,.iA=>.iA
 | _,_,_,.lS=>.lS
 | _,_,hb,.mL h ho=>.mL (m.obj _ _ (jL (by simpa [AV.under] using hb)) h) ho
 | _,_,hb,.lm h ho=>.lm (m.obj _ _ (jL (by simpa [AV.under] using hb)) h) ho
 | .list k sz es,_,hb,.list h hl hc hk=>.list (h.move m) hl hc (hk.move m fun id e=>by rcases e with e | ⟨j,e⟩ <;> subst e <;> exact jL (by simpa [AV.under] using hb))
 | _,_,hb,.kM h hc=>.kM (m.obj _ _ (jL (by simpa [AV.under] using hb)) h) hc
 | _,_,hb,.jm h ho=>.jm (m.obj _ _ (jL (by simpa [AV.under] using hb)) h) ho
 | _,_,hb,.cR h ho hc=>.cR (m.obj _ _ (jL (by simpa [AV.under] using hb)) h) ho hc
 | _,_,hb,.gp h ho=>.gp (m.obj _ _ (jL (by simpa [AV.under] using hb)) h) ho
 | _,_,_,.jS=>.jS
 | _,_,hb,.map h=>.map (m.obj _ _ (jL (by simpa [AV.under] using hb)) h)
 | _,_,_,.cu=>.cu
 | _,_,hb,.fn h h'=>.fn (h.move m (by simp only [AV.under,Bool.and_eq_true] at hb; exact hb.1)) (h'.move m (by simp only [AV.under,Bool.and_eq_true] at hb; exact hb.2))
 | _,_,hb,.yield h=>.yield (m.obj _ _ (jL (by simpa [AV.under] using hb)) h)
 | _,_,_,.nU=>.nU
 | _,_,hb,.iface h=>.iface (h.move m (by simpa [AV.under] using hb))
theorem aK.move (m:Mv R R2 n):∀ {l:List AV} {cs:List Value},aK R w l cs→aH n l=true→aK R2 w l cs
 | _,_,.nil,_=>.nil
 | _,_,.cons h t,hb=>by
  simp only [aH,Bool.and_eq_true] at hb
  exact .cons (h.move m hb.1) (t.move m hb.2)
theorem fS.move (m:Mv R R2 n):∀ {b o sz:Nat} {l:List AV},fS R w b o sz l→fS R2 w b o sz l
 | _,_,_,_,.nil=>.nil
 | _,_,_,_,@fS.cons _ _ _ _ _ e _ hl ht hk h t=>.cons hl ht hk (h.move m (by
   cases e with
   | agg cs=>exact cn n (show aC cs=true by simpa [AV.closed] using hk)
   | bH cs=>simp [AV.aV] at ht
   | _=>simp only [AV.cells,aH,Bool.and_true]; exact iq n hk)) (t.move m)
theorem dU.move (m:Mv R R2 n):∀ {b o:Nat} {l:List AV},dU R w b o l→aH n l=true→dU R2 w b o l
 | _,_,_,.nil,_=>.nil
 | _,_,_,.cons hc h1 hi h t,hb=>by
  simp only [aH,Bool.and_eq_true] at hb
  exact .cons hc h1 (m.I _ _ hi) (h.move m hb.1) (t.move m hb.2)
end
theorem lq.move {E:Env} (m:Mv R R2 n) {g:Nat} {cs:List AV} (h:lq E R w g cs) (hu:aH n cs=true):lq E R2 w g cs:=
 ⟨h.1.move m hu,fun hx=>⟨m.I _ _ (h.2 hx).1,(h.2 hx).2⟩⟩
mutual
theorem Rel.under (hn:R.obj.length≤n):∀ {a:AV} {c:Value},Rel R w a c→a.under n=true
 | _,_,.bool _ | _,_,.int _ _ | _,_,.str _ | _,_,.kL | _,_,.ke | _,_,.iA | _,_,.lS | _,_,.jS | _,_,.cu | _,_,.nU=>by simp [AV.under]
 | _,_,.agg h _=>by simp only [AV.under]; exact h.under hn
 | _,_,.bH h=>by simp only [AV.under]; exact h.under hn
 | _,_,.ptr h=>by simp only [AV.under]; exact kn (Nat.lt_of_lt_of_le (bI h) hn)
 | _,_,.ep h=>by simp only [AV.under]; exact h.under hn
 | _,_,.mL h _=>by simp only [AV.under]; exact kn (Nat.lt_of_lt_of_le (bI h) hn)
 | _,_,.lm h _=>by simp only [AV.under]; exact kn (Nat.lt_of_lt_of_le (bI h) hn)
 | _,_,@Rel.list _ _ k _ _ _ _ _ _ _ _ _ hk=>by
  cases k with
  | own id=>obtain ⟨ro,h1,_⟩:=hk; simp only [AV.under]; exact kn (Nat.lt_of_lt_of_le (bI h1) hn)
  | aP id j=>obtain ⟨ro,h1,_⟩:=hk; simp only [AV.under]; exact kn (Nat.lt_of_lt_of_le (bI h1) hn)
  | _=>simp [AV.under]
 | _,_,.kM h _=>by simp only [AV.under]; exact kn (Nat.lt_of_lt_of_le (bI h) hn)
 | _,_,.jm h _=>by simp only [AV.under]; exact kn (Nat.lt_of_lt_of_le (bI h) hn)
 | _,_,.cR h _ _=>by simp only [AV.under]; exact kn (Nat.lt_of_lt_of_le (bI h) hn)
 | _,_,.gp h _=>by simp only [AV.under]; exact kn (Nat.lt_of_lt_of_le (bI h) hn)
 | _,_,.map h=>by simp only [AV.under]; exact kn (Nat.lt_of_lt_of_le (bI h) hn)
 | _,_,.fn h h'=>by simp only [AV.under,Bool.and_eq_true]; exact ⟨h.under hn,h'.under hn⟩
 | _,_,.yield h=>by simp only [AV.under]; exact kn (Nat.lt_of_lt_of_le (bI h) hn)
 | _,_,.iface h=>by simp only [AV.under]; exact h.under hn
theorem aK.under (hn:R.obj.length≤n):∀ {l:List AV} {cs:List Value},aK R w l cs→aH n l=true
 | _,_,.nil=>rfl
 | _,_,.cons h t=>by simp only [aH,Bool.and_eq_true]; exact ⟨h.under hn,t.under hn⟩
theorem dU.under (hn:R.obj.length≤n):∀ {b o:Nat} {l:List AV},dU R w b o l→aH n l=true
 | _,_,_,.nil=>rfl
 | _,_,_,.cons _ _ _ h t=>by simp only [aH,Bool.and_eq_true]; exact ⟨h.under hn,t.under hn⟩
end
end move
end Go.Am
namespace Go.Am
open Go
mutual
def aA.under (n:Nat):aA→Bool
 | .agg ps=>ps.under n
 | .bH ps=>ps.under n
 | .own id _ _=>Nat.blt id n
 | .aP id _ _=>Nat.blt id n
 | .eo v=>v.under n
 | .two u v=>u.under n&&v.under n
 | _=>true
def aO.under (n:Nat):aO→Bool
 | .nil=>true
 | .cons p ps=>p.under n&&ps.under n
end
mutual
theorem aA.de {n:Nat}:∀ (p:aA) (x:p.T),p.under n=true→(p.enc x).under n=true
 | .int k,x,_=>by simp [aA.enc,AV.under]
 | .bool,x,_=>by simp [aA.enc,AV.under]
 | .str,x,_=>by simp [aA.enc,AV.under]
 | .agg ps,x,h=>by
  simp only [aA.enc,AV.under]
  exact ps.de x h
 | .bH ps,x,h=>by
  simp only [aA.enc,AV.under]
  exact ps.de x h
 | .list sz p,x,_=>by simp [aA.enc,AV.under]
 | .own id sz p,x,h=>by
  simp only [aA.enc,AV.under]
  exact h
 | .aP id sz p,x,h=>by
  simp only [aA.enc,AV.under]
  exact h
 | .eo v,x,h=>by
  simp only [aA.enc]
  exact h
 | .two u v,(x:Bool),h=>by
  simp only [aA.under,Bool.and_eq_true] at h
  change AV.under n (bif x then v else u)=true
  cases x
  ·exact h.1
  ·exact h.2
theorem aO.de {n:Nat}:∀ (ps:aO) (x:ps.T),ps.under n=true→aH n (ps.enc x)=true
 | .nil,x,_=>rfl
 | .cons p .nil,x,h=>by
  simp only [aO.under,Bool.and_true] at h
  simp only [aO.enc,aH,Bool.and_true]
  exact p.de _ h
 | .cons p (.cons q ps),x,h=>by
  rw [aO.under,Bool.and_eq_true] at h
  simp only [aO.enc,aH,Bool.and_eq_true]
  exact ⟨p.de _ h.1,(aO.cons q ps).de _ h.2⟩
end
mutual
def AV.exact:AV→Bool
 | .bool _=>true
 | .int _ _=>true
 | .str _=>true
 | .agg cs=>fI cs
 | _=>false
def fI:List AV→Bool
 | []=>true
 | a :: l=>a.exact&&fI l
end
mutual
theorem aA.jv:∀ (p:aA) {a:AV},p.fits a=true→a.exact=true→p.enc (p.bh a)=a
 | .int k,a,h,e=>by
  cases a with
  | int k' n=>have hk:VX k k'=true:=h; rw [EF hk]; rfl
  | _=>cases h
 | .bool,a,h,e=>by
  cases a with
  | bool b=>rfl
  | _=>cases h
 | .str,a,h,e=>by
  cases a with
  | str b=>rfl
  | _=>cases h
 | .agg ps,a,h,e=>by
  cases a with
  | agg cs=>
   have e':fI cs=true:=by simpa [AV.exact] using e
   show AV.agg (ps.enc (ps.bh cs))=_
   rw [ps.jv (show ps.fits cs=true from h) e']
  | _=>cases h
 | .bH ps,a,h,e=>by cases a <;> first | (cases h; done) | simp [AV.exact] at e
 | .list sz p,a,h,e=>by cases a <;> first | (cases h; done) | simp [AV.exact] at e
 | .own id sz p,a,h,e=>by cases a <;> first | (cases h; done) | simp [AV.exact] at e
 | .aP id sz p,a,h,e=>by cases a <;> first | (cases h; done) | simp [AV.exact] at e
 | .eo u,a,h,e=>(jn (show cM a u=true from h)).symm
 | .two u v,a,h,_=>vr h
theorem aO.jv:∀ (ps:aO) {l:List AV},ps.fits l=true→fI l=true→ps.enc (ps.bh l)=l
 | .nil,l,h,_=>by
  cases l with
  | nil=>rfl
  | cons _ _=>cases h
 | .cons p .nil,l,h,e=>by
  cases l with
  | nil=>cases h
  | cons a l=>
   have h':(p.fits a&&l.isEmpty)=true:=h
   simp only [Bool.and_eq_true,List.isEmpty_iff] at h'
   obtain ⟨h1,rfl⟩:=h'
   simp only [fI,Bool.and_true] at e
   show [p.enc (p.bh a)]=_
   rw [p.jv h1 e]
 | .cons p (.cons q ps),l,h,e=>by
  cases l with
  | nil=>cases h
  | cons a l=>
   have h':(p.fits a&&(aO.cons q ps).fits l)=true:=h
   rw [Bool.and_eq_true] at h'
   simp only [fI,Bool.and_eq_true] at e
   show p.enc (p.bh a) :: (aO.cons q ps).enc ((aO.cons q ps).bh l)=_
   rw [p.jv h'.1 e.1,(aO.cons q ps).jv h'.2 e.2]
end
mutual
theorem nl:∀ {a:AV},a.exact=true→a.closed=true:=fun {a} h=>by
 cases a with
 | agg cs=>simp only [AV.exact,AV.closed] at *; exact qb h
 | _=>simp_all [AV.exact,AV.closed]
theorem qb:∀ {l:List AV},fI l=true→aC l=true
 | [],_=>rfl
 | a :: l,h=>by
  simp only [fI,aC,Bool.and_eq_true] at *
  exact ⟨nl h.1,qb h.2⟩
end
def ah:List (AV × AV)→List AV
 | []=>[]
 | (k,v) :: l=>.agg [k,v] :: ah l
def Xp:AV→AV × AV
 | .agg [k,v]=>(k,v)
 | _=>(gJ,gJ)
def aB:List AV→List (AV × AV)
 | []=>[]
 | a :: l=>Xp a :: aB l
def AV.entries:AV→List (AV × AV)
 | .list _ _ es=>aB es
 | _=>[]
theorem nK:∀ l:List (AV × AV),aB (ah l)=l
 | []=>rfl
 | (k,v) :: l=>by simp only [ah,aB,nK l]; rfl
def AV.Kv:AV→Bool
 | .list .gr _ es=>fI es
 | _=>false
def jM:List AV→List AV→Prop
 | [],[]=>True
 | a :: l,b :: r=>iF a b∧jM l r
 | _,_=>False
theorem jM.refl:∀ l:List AV,jM l l
 | []=>trivial
 | a :: l=>⟨iF.refl a,jM.refl l⟩
theorem jM.length:∀ {l r:List AV},jM l r→l.length=r.length
 | [],[],_=>rfl
 | _ :: _,_ :: _,h=>by simp [jM.length h.2]
 | [],_ :: _,h=>h.elim
 | _ :: _,[],h=>h.elim
theorem jM.of {α:Type} {f:AV→Bool} {d:AV→α} {g:α→AV} (Gs:∀ v,f v=true→iF v (g (d v))):∀ {es:List AV},allFit f es=true→jM es ((es.map d).map g)
 | [],_=>trivial
 | e :: es,h=>by
  simp only [allFit,Bool.and_eq_true] at h
  exact ⟨Gs e h.1,jM.of Gs h.2⟩
theorem aA.C8 (p:aA) {a:AV} (h:p.fits a=true):jM a.dJ (p.enc (p.bh a)).dJ:=by
 cases p with
 | list sz p=>
  cases a with
  | list k bK es=>
   have hb:((Nat.beq sz bK || es.isEmpty)&&allFit p.fits es)=true:=h
   rw [Bool.and_eq_true] at hb
   exact jM.of (fun v hv=>p.cG hv) hb.2
  | _=>cases h
 | own id sz p=>
  cases a with
  | list k bK es=>
   cases k with
   | own jF=>
    have hb:((Nat.beq id jF&&Nat.beq sz bK)&&allFit p.fits es)=true:=h
    rw [Bool.and_eq_true] at hb
    exact jM.of (fun v hv=>p.cG hv) hb.2
   | _=>cases h
  | _=>cases h
 | aP id sz p=>
  cases a with
  | list k bK es=>
   cases k with
   | aP jF j=>
    have hb:((Nat.beq id jF&&Nat.beq sz bK)&&allFit p.fits es)=true:=h
    rw [Bool.and_eq_true] at hb
    exact jM.of (fun v hv=>p.cG hv) hb.2
   | _=>cases h
  | _=>cases h
 | eo u=>rw [show a=u from jn (show cM a u=true from h)]; exact jM.refl _
 | two u v=>rw [vr h]; exact jM.refl _
 | _=>cases a <;> first | (cases h; done) | exact jM.refl _
def Js:List AV→List AV→Prop
 | [],[]=>True
 | a :: l,b :: r=>(a.exact=true→b=a)∧(a.Kv=true→b.dJ=a.dJ)∧jM a.dJ b.dJ∧Js l r
 | _,_=>False
theorem xu {f:AV→Bool} {α:Type} {d:AV→α} {g:α→AV} (Gs:∀ a,f a=true→a.exact=true→g (d a)=a):∀ {es:List AV},allFit f es=true→fI es=true→(es.map d).map g=es
 | [],_,_=>rfl
 | a :: l,h,e=>by
  simp only [allFit,fI,Bool.and_eq_true] at *
  simp only [List.map_cons,Gs a h.1 e.1,xu Gs h.2 e.2]
theorem aA.C9 (p:aA) {a:AV} (h:p.fits a=true) (e:a.Kv=true):(p.enc (p.bh a)).dJ=a.dJ:=by
 cases a with
 | list k bK es=>
  cases k with
  | gr=>
   have e':fI es=true:=e
   cases p with
   | list sz p=>
    have hb:((Nat.beq sz bK || es.isEmpty)&&allFit p.fits es)=true:=h
    rw [Bool.and_eq_true] at hb
    show (es.map p.bh).map p.enc=_
    rw [xu (fun a=>p.jv) hb.2 e']
    rfl
   | eo u=>rw [show AV.list .gr bK es=u from jn (show cM _ u=true from h)]; rfl
   | two u v=>rw [vr h]
   | _=>cases h
  | _=>cases e
 | _=>cases e
theorem aO.Kw:∀ (ps:aO) {l:List AV},ps.fits l=true→Js l (ps.enc (ps.bh l))
 | .nil,l,h=>by
  cases l with
  | nil=>trivial
  | cons _ _=>cases h
 | .cons p .nil,l,h=>by
  cases l with
  | nil=>cases h
  | cons a l=>
   have h':(p.fits a&&l.isEmpty)=true:=h
   simp only [Bool.and_eq_true,List.isEmpty_iff] at h'
   obtain ⟨h1,rfl⟩:=h'
   exact ⟨p.jv h1,p.C9 h1,p.C8 h1,trivial⟩
 | .cons p (.cons q ps),l,h=>by
  cases l with
  | nil=>cases h
  | cons a l=>
   have h':(p.fits a&&(aO.cons q ps).fits l)=true:=h
   rw [Bool.and_eq_true] at h'
   exact ⟨p.jv h'.1,p.C9 h'.1,p.C8 h'.1,(aO.cons q ps).Kw h'.2⟩
theorem Js.split:∀ {l r l':List AV},Js (l++r) l'→∃ a b,l'=a++b∧Js l a∧Js r b∧a.length=l.length
 | [],r,l',h=>⟨[],l',rfl,trivial,h,rfl⟩
 | x :: l,r,[],h=>h.elim
 | x :: l,r,y :: l',h=>by
  obtain ⟨a,b,rfl,h2,h3,h4⟩:=Js.split (l:=l) (r:=r) (l':=l') h.2.2.2
  exact ⟨y :: a,b,rfl,⟨h.1,h.2.1,h.2.2.1,h2⟩,h3,by simp [h4]⟩
mutual
def AV.xw (L:Nat→Nat):AV→AV
 | .cR id 0 0 sz 0=>.cR id (L id) 0 sz (L id)
 | .fn f x y=>.fn f (Kx L x) (Kx L y)
 | v=>v
def Kx (L:Nat→Nat):List AV→List AV
 | []=>[]
 | a :: l=>a.xw L :: Kx L l
end
mutual
def aA.inst (L:Nat→Nat):aA→aA
 | .agg ps=>.agg (ps.inst L)
 | .bH ps=>.bH (ps.inst L)
 | .eo v=>.eo (v.xw L)
 | p=>p
def aO.inst (L:Nat→Nat):aO→aO
 | .nil=>.nil
 | .cons p ps=>.cons (p.inst L) (ps.inst L)
end
mutual
def aA.ko (L:Nat→Nat):(p:aA)→p.T→AV
 | .int k,(n:Int)=>.int k n
 | .bool,(b:Bool)=>.bool b
 | .str,(s:List UInt8)=>.str s
 | .agg ps,x=>.agg (ps.ko L x)
 | .bH ps,x=>.bH (ps.ko L x)
 | .list sz p,(xs:List p.T)=>.list .gr sz (xs.map p.enc)
 | .own id sz p,(xs:List p.T)=>.list (.own id) sz (xs.map p.enc)
 | .aP id sz p,(x:Nat × List p.T)=>.list (.aP id x.1) sz (x.2.map p.enc)
 | .eo v,_=>v.xw L
 | .two u v,(b:Bool)=>bif b then v else u
def aO.ko (L:Nat→Nat):(ps:aO)→ps.T→List AV
 | .nil,_=>[]
 | .cons p .nil,x=>[p.ko L x]
 | .cons p (.cons q ps),x=>p.ko L x.1 :: (aO.cons q ps).ko L x.2
end
mutual
def aA.mg (L:Nat→Nat):aA→AV→Bool
 | .int k,v=>aA.fits (.int k) v
 | .bool,v=>aA.fits .bool v
 | .str,v=>aA.fits .str v
 | .agg ps,v=>match v with
  | .agg cs=>ps.mg L cs
  | _=>false
 | .bH ps,v=>match v with
  | .bH cs=>ps.mg L cs
  | _=>false
 | .list sz p,v=>aA.fits (.list sz p) v
 | .own id sz p,v=>aA.fits (.own id sz p) v
 | .aP id sz p,v=>aA.fits (.aP id sz p) v
 | .eo v,u=>cM u (v.xw L)
 | .two u v,a=>aA.fits (.two u v) a
def aO.mg (L:Nat→Nat):aO→List AV→Bool
 | .nil,l=>l.isEmpty
 | .cons p ps,l=>match l with
  | a :: l=>p.mg L a&&ps.mg L l
  | []=>false
end
def aO.Iy (L:Nat→Nat) (ps:aO) (l:List AV):Option ps.T:=bif ps.mg L l then some (ps.bh l) else none
mutual
theorem aA.iQ (L:Nat→Nat):∀ (p:aA) (a:AV),p.mg L a=(p.inst L).fits a
 | .int _,_=>rfl
 | .bool,_=>rfl
 | .str,_=>rfl
 | .agg ps,a=>by
  simp only [aA.mg,aA.inst,aA.fits]
  cases a <;> first | rfl | exact ps.iQ L _
 | .bH ps,a=>by
  simp only [aA.mg,aA.inst,aA.fits]
  cases a <;> first | rfl | exact ps.iQ L _
 | .list _ _,_=>rfl
 | .own _ _ _,_=>rfl
 | .aP _ _ _,_=>rfl
 | .eo _,_=>rfl
 | .two _ _,_=>rfl
theorem aO.iQ (L:Nat→Nat):∀ (ps:aO) (l:List AV),ps.mg L l=(ps.inst L).fits l
 | .nil,_=>rfl
 | .cons p ps,l=>by
  cases l with
  | nil=>rfl
  | cons a l=>
   simp only [aO.mg,aO.inst,aO.fits]
   rw [p.iQ L a,ps.iQ L l]
end
mutual
theorem aA.gY (L:Nat→Nat):∀ (p:aA) (a:AV),p.ko L (p.bh a)=(p.inst L).enc ((p.inst L).bh a)
 | .int _,_=>rfl
 | .bool,_=>rfl
 | .str,_=>rfl
 | .agg ps,a=>congrArg AV.agg (ps.gY L a.jG)
 | .bH ps,a=>congrArg AV.bH (ps.gY L a.SJ)
 | .list _ _,_=>rfl
 | .own _ _ _,_=>rfl
 | .aP _ _ _,_=>rfl
 | .eo _,_=>rfl
 | .two _ _,_=>rfl
theorem aO.gY (L:Nat→Nat):∀ (ps:aO) (l:List AV),ps.ko L (ps.bh l)=(ps.inst L).enc ((ps.inst L).bh l)
 | .nil,_=>rfl
 | .cons p .nil,l=>by
  show [p.ko L (p.bh (dT l))]=[(p.inst L).enc ((p.inst L).bh (dT l))]
  rw [p.gY L]
 | .cons p (.cons q ps),l=>by
  show p.ko L (p.bh (dT l)) :: (aO.cons q ps).ko L ((aO.cons q ps).bh (Jx l))=(p.inst L).enc ((p.inst L).bh (dT l)) :: ((aO.cons q ps).inst L).enc (((aO.cons q ps).inst L).bh (Jx l))
  rw [p.gY L,(aO.cons q ps).gY L]
end
mutual
theorem AV.xx {n:Nat} (L:Nat→Nat):∀ {a:AV},a.under n=true→(a.xw L).under n=true:=fun {a} h=>by
 cases a with
 | cR id f off sz len=>
  unfold AV.xw
  split
  ·rename_i h1
   cases h1
   exact h
  ·rename_i h1
   cases h1
  ·exact h
 | fn f x y=>
  simp only [AV.xw,AV.under,Bool.and_eq_true] at *
  exact ⟨qE L h.1,qE L h.2⟩
 | _=>exact h
theorem qE {n:Nat} (L:Nat→Nat):∀ {l:List AV},aH n l=true→aH n (Kx L l)=true
 | [],_=>rfl
 | a :: l,h=>by
  simp only [Kx,aH,Bool.and_eq_true] at *
  exact ⟨AV.xx L h.1,qE L h.2⟩
end
mutual
theorem aA.iR {n:Nat} (L:Nat→Nat):∀ {p:aA},p.under n=true→(p.inst L).under n=true
 | .int _,_=>rfl
 | .bool,_=>rfl
 | .str,_=>rfl
 | .agg ps,h=>aO.iR L (ps:=ps) h
 | .bH ps,h=>aO.iR L (ps:=ps) h
 | .list _ _,_=>rfl
 | .own _ _ _,h=>h
 | .aP _ _ _,h=>h
 | .eo v,h=>AV.xx L (a:=v) h
 | .two _ _,h=>h
theorem aO.iR {n:Nat} (L:Nat→Nat):∀ {ps:aO},ps.under n=true→(ps.inst L).under n=true
 | .nil,_=>rfl
 | .cons p ps,h=>by
  simp only [aO.inst,aO.under,Bool.and_eq_true] at *
  exact ⟨aA.iR L h.1,aO.iR L h.2⟩
end
theorem AV.Ah (L:Nat→Nat) (v:AV):(v.xw L).dJ=v.dJ:=by
 unfold AV.xw
 split <;> rfl
def nW:List AV→List AV→Prop
 | [],[]=>True
 | a :: l,b :: r=>a.dJ.length=b.dJ.length∧nW l r
 | _,_=>False
theorem aA.oJ (L L':Nat→Nat) (p:aA) (x:p.T):(p.ko L x).dJ=(p.ko L' x).dJ:=by
 cases p with
 | eo v=>
  show (v.xw L).dJ=(v.xw L').dJ
  rw [AV.Ah,AV.Ah]
 | _=>rfl
theorem aO.oJ (L L':Nat→Nat):∀ (ps:aO) (x:ps.T),nW (ps.ko L x) (ps.ko L' x)
 | .nil,_=>trivial
 | .cons p .nil,x=>⟨congrArg List.length (p.oJ L L' x),trivial⟩
 | .cons p (.cons q ps),x=>⟨congrArg List.length (p.oJ L L' x.1),(aO.cons q ps).oJ L L' x.2⟩
theorem Js.Xq:∀ {l r:List AV},Js l r→nW l r
 | [],[],_=>trivial
 | _ :: _,_ :: _,h=>⟨h.2.2.1.length,h.2.2.2.Xq⟩
 | [],_ :: _,h=>h.elim
 | _ :: _,[],h=>h.elim
theorem nW.trans:∀ {l r u:List AV},nW l r→nW r u→nW l u
 | [],[],[],_,_=>trivial
 | _ :: _,_ :: _,_ :: _,h,k=>⟨h.1.trans k.1,h.2.trans k.2⟩
 | [],_ :: _,_,h,_=>h.elim
 | _ :: _,[],_,h,_=>h.elim
 | [],[],_ :: _,_,k=>k.elim
 | _ :: _,_ :: _,[],_,k=>k.elim
theorem nW.drop:∀ {l r:List AV} (n:Nat),nW l r→nW (l.drop n) (r.drop n)
 | l,r,0,h=>by simpa using h
 | [],[],_+1,_=>by simp [nW]
 | _ :: _,_ :: _,n+1,h=>by simpa using nW.drop n h.2
 | [],_ :: _,_+1,h=>h.elim
 | _ :: _,[],_+1,h=>h.elim
theorem aO.NV (L:Nat→Nat) (ps:aO) {l:List AV} {x:ps.T} (h:ps.Iy L l=some x):cr l (ps.ko L x)∧Js l (ps.ko L x):=by
 unfold aO.Iy at h
 cases hf:ps.mg L l with
 | true=>
  rw [hf] at h
  cases h
  rw [ps.gY L]
  rw [ps.iQ L] at hf
  have hd:(ps.inst L).dec l=some ((ps.inst L).bh l):=by unfold aO.dec; rw [hf]; rfl
  exact ⟨((ps.inst L).qu hd).1,(ps.inst L).Kw hf⟩
 | false=>rw [hf] at h; cases h
theorem aO.FB {n:Nat} (L:Nat→Nat) (ps:aO) (hp:ps.under n=true) (l:List AV):aH n (ps.ko L (ps.bh l))=true:=by
 rw [ps.gY L]
 exact (ps.inst L).de _ (aO.iR L hp)
theorem aO.Iz (L:Nat→Nat) (ps:aO) {l:List AV} {x:ps.T} (h:ps.Iy L l=some x):x=ps.bh l:=by
 unfold aO.Iy at h
 cases hf:ps.mg L l with
 | true=>rw [hf] at h; cases h; rfl
 | false=>rw [hf] at h; cases h
end Go.Am
namespace Go.Am
open Go
inductive Ep
 | open_
 | busy
 | ret
 | ex (i:Nat)
def Ep.is:Ep→Bool→Option Code→Bool→Bool
 | .open_,false,none,false=>true
 | .busy,true,none,false=>true
 | .ret,false,some .ret,true=>true
 | .ex i,false,some (.exit j),true=>Nat.beq i j
 | _,_,_,_=>false
def Ep.b:Ep→Bool
 | .busy=>true
 | _=>false
def Ep.p:Ep→Option Code
 | .ret=>some .ret
 | .ex i=>some (.exit i)
 | _=>none
def Ep.d:Ep→Bool
 | .ret=>true
 | .ex _=>true
 | _=>false
theorem Ep.GU {k:Ep} {b:Bool} {p:Option Code} {d:Bool} (h:k.is b p d=true):b=k.b∧p=k.p∧d=k.d:=by
 unfold Ep.is at h
 split at h <;> first | exact ⟨rfl,rfl,rfl⟩ | (cases h; done) | skip
 rw [Nat.eq_of_beq_eq_true h]
 exact ⟨rfl,rfl,rfl⟩
inductive GL
 | row (n:Nat)
 | tok (loc sz:Nat) (e:TypeId)
 | dead
 | lp (k:Ep)
 | bQ
 | map
 | Ky
 | a7 (sz:Nat) (e:TypeId)
 | aP (sz:Nat) (e:TypeId)
 | iS
 | nZ (qm:Nat)
def cP (fs:List Nat):List AV:=fs.map fun n:Nat=>.int .i64 n
def bj (l:List AV):List Nat:=l.map fun a=>a.qn.toNat
theorem uw (fs:List Nat):bj (cP fs)=fs:=by
 induction fs with
 | nil=>rfl
 | cons n fs ih=>
  show (AV.int .i64 n).qn.toNat :: bj (cP fs)=n :: fs
  rw [ih]
  simp [AV.qn]
theorem xy (fs:List Nat):fI (cP fs)=true:=by
 induction fs with
 | nil=>rfl
 | cons n fs ih=>exact ih
def To (k:Ep):GO→GO→Bool
 | .loop _ _ _ _ _ _ _ _ _ _,.loop b p _ _ _ _ _ _ _ d=>k.is b p d
 | _,_=>false
def R8 (k:Ep):GO→GO
 | .loop _ _ fn sl n ps rZ bd d _=>.loop k.b k.p fn sl n ps rZ bd d k.d
 | _=>.dead
def jw (es:List (AV × AV)):Bool:=fI (ah es)
def Bn:GO→GO→Bool
 | .tok f sz e,.tok f' bK e'=>decide (f'=f)&&(Nat.beq bK sz&&Nat.beq e' e)
 | .defers a,.defers b=>match a,b with
  | true,true=>true
  | false,false=>true
  | _,_=>false
 | .dead,_=>true
 | _,_=>false
structure cq where
 ps:aO
 sl:List Tmp
 W:List Tmp
 bx:List (Nat × Nat)
 g:List GL
 Wd:List (Tmp × Nat × Nat)
def xz (ae:bp):List Tmp→Option (List AV)
 | []=>some []
 | t :: l=>match lk ae t with
  | .v a=>match xz ae l with
   | some r=>some (a :: r)
   | none=>none
  | _=>none
def xA (bx:cF):List (Nat × Nat)→Option (List AV)
 | []=>some []
 | (k,n) :: l=>match dS bx k with
  | some cs=>match xA bx l with
   | some r=>bif Nat.beq cs.length n then some (cs++r) else none
   | none=>none
  | none=>none
def jX:List GL→List GO→Option (List AV)
 | [],_=>some []
 | .row n :: l,.row cs _ :: G=>match jX l G with
  | some r=>bif Nat.beq cs.length n then some (cs++r) else none
  | none=>none
 | .tok _ sz e :: l,.tok _ bK e' :: G=>bif Nat.beq sz bK&&Nat.beq e e' then jX l G else none
 | .dead :: l,_ :: G=>jX l G
 | .lp _ :: l,_ :: G=>jX l G
 | .bQ :: l,_ :: G=>jX l G
 | .map :: l,.map es :: G=>match jX l G with
  | some r=>some (.list .gr 2 (ah es) :: r)
  | none=>none
 | .Ky :: l,.gf s pos :: G=>match jX l G with
  | some r=>some (.str s :: .int .i64 pos :: r)
  | none=>none
 | .a7 sz e :: l,.a7 es bK e' :: G=>match jX l G with
  | some r=>bif Nat.beq sz bK&&Nat.beq e e' then some (.list .gr bK es :: r) else none
  | none=>none
 | .aP sz e :: l,.aP fs bK e' :: G=>match jX l G with
  | some r=>bif Nat.beq sz bK&&Nat.beq e e' then some (.list .gr 1 (cP fs) :: r) else none
  | none=>none
 | .iS :: l,.map es :: G=>match jX l G with
  | some r=>some (.list .gr 2 (ah es) :: r)
  | none=>none
 | .nZ qm :: l,.nZ mid' n left _ _ :: G=>match jX l G with
  | some r=>bif Nat.beq qm mid' then some (.int .i64 n :: .list .gr 1 (cP left) :: r) else none
  | none=>none
 | _,_=>none
def Kz (vs:List AV) (loc:Nat):Nat:=match nth vs loc with
 | some (.list _ _ es)=>es.length
 | _=>0
def R9:GO→GO→Bool
 | .row _ e,.row _ e'=>Nat.beq e e'
 | _,_=>false
def Sa:GO→GO→Bool
 | .nZ _ _ _ _ t,.nZ _ _ _ _ t'=>Nat.beq t t'
 | _,_=>false
def Xr:GO→TypeId
 | .nZ _ _ _ _ t=>t
 | _=>0
def Xs:GO→TypeId
 | .row _ e=>e
 | _=>0
def dh (vs:List AV):List GL→List GO→List GO→Bool
 | [],_,_=>true
 | .tok loc _ _ :: l,_ :: B,.tok f _ _ :: G=>decide (f=Kz vs loc)&&dh vs l B G
 | .tok _ _ _ :: _,_,_=>false
 | .lp k :: l,o :: B,o' :: G=>To k o o'&&dh vs l B G
 | .bQ :: l,o :: B,o' :: G=>Bn o o'&&dh vs l B G
 | .row _ :: l,b :: B,g :: G=>R9 b g&&dh vs l B G
 | .map :: l,_ :: B,.map es :: G=>jw es&&dh vs l B G
 | .map :: _,_,_=>false
 | .Ky :: l,_ :: B,_ :: G=>dh vs l B G
 | .a7 _ _ :: l,_ :: B,_ :: G=>dh vs l B G
 | .aP _ _ :: l,_ :: B,_ :: G=>dh vs l B G
 | .iS :: l,_ :: B,_ :: G=>dh vs l B G
 | .nZ _ :: l,b :: B,g :: G=>Sa b g&&dh vs l B G
 | .dead :: l,_ :: B,_ :: G=>dh vs l B G
 | _,_,_=>false
def oK:List Tmp→List AV→bp→bp
 | t :: ts,a :: l,r=>.put t (.v a) :: oK ts l r
 | _,_,r=>r
def oL:List (Tmp × Nat × Nat)→bp→bp
 | (t,k,o) :: l,r=>.put t (.lp k o) :: oL l r
 | [],r=>r
def GV (ae:bp):List (Tmp × Nat × Nat)→Bool
 | []=>true
 | (t,k,o) :: l=>(match lk ae t with
  | .lp k' o'=>Nat.beq k' k&&Nat.beq o' o
  | _=>false)&&GV ae l
def xB:List Tmp→bp→bp
 | t :: ts,r=>.put t .none :: xB ts r
 | [],r=>r
def ux:List (Nat × Nat)→List AV→cF→cF
 | (k,n) :: r,l,b=>(k,l.take n) :: ux r (l.drop n) b
 | [],_,b=>b
def dv (vs:List AV):List GL→List GO→List AV→List GO
 | .row n :: r,B,l=>.row (l.take n) (Xs (B.headD .dead)) :: dv vs r B.tail (l.drop n)
 | .tok loc sz e :: r,B,l=>.tok (Kz vs loc) sz e :: dv vs r B.tail l
 | .dead :: r,B,l=>.dead :: dv vs r B.tail l
 | .lp k :: r,B,l=>R8 k (B.headD .dead) :: dv vs r B.tail l
 | .bQ :: r,B,l=>B.headD .dead :: dv vs r B.tail l
 | .map :: r,B,l=>.map (AV.entries (dT l)) :: dv vs r B.tail l.tail
 | .Ky :: r,B,l=>.gf (AV.SK (dT l)) (AV.qn (dT l.tail)).toNat :: dv vs r B.tail l.tail.tail
 | .a7 sz e :: r,B,l=>.a7 (AV.dJ (dT l)) sz e :: dv vs r B.tail l.tail
 | .aP sz e :: r,B,l=>.aP (bj (AV.dJ (dT l))) sz e :: dv vs r B.tail l.tail
 | .iS :: r,B,l=>.map (AV.entries (dT l)) :: dv vs r B.tail l.tail
 | .nZ qm :: r,B,l=>.nZ qm (AV.qn (dT l)).toNat (bj (AV.dJ (dT l.tail))) none (Xr (B.headD .dead)) :: dv vs r B.tail l.tail.tail
 | [],_,_=>[]
def Bo:List (Nat × Nat)→Nat
 | []=>0
 | (_,n) :: l=>n+Bo l
def kp:List GL→List AV→Nat→Nat
 | [],_,_=>0
 | .a7 _ _ :: r,l,i=>match i with
  | 0=>(AV.dJ (dT l)).length
  | i+1=>kp r l.tail i
 | .row n :: r,l,i=>match i with
  | 0=>0
  | i+1=>kp r (l.drop n) i
 | .map :: r,l,i=>match i with
  | 0=>0
  | i+1=>kp r l.tail i
 | .Ky :: r,l,i=>match i with
  | 0=>0
  | i+1=>kp r l.tail.tail i
 | .aP _ _ :: r,l,i=>match i with
  | 0=>0
  | i+1=>kp r l.tail i
 | .iS :: r,l,i=>match i with
  | 0=>0
  | i+1=>kp r l.tail i
 | .nZ _ :: r,l,i=>match i with
  | 0=>0
  | i+1=>kp r l.tail.tail i
 | _ :: r,l,i=>match i with
  | 0=>0
  | i+1=>kp r l i
def cq.pS (t:cq) (v:t.ps.T):List AV:=t.ps.ko (kp t.g (((t.ps.ko (fun _=>0) v).drop t.sl.length).drop (Bo t.bx))) v
def cq.st (t:cq) (s:St) (v:t.ps.T):St:=
 ⟨oL t.Wd (oK t.sl (t.pS v) (xB t.W s.ae)),ux t.bx ((t.pS v).drop t.sl.length) s.boxes,dv (t.pS v) t.g s.G (((t.pS v).drop t.sl.length).drop (Bo t.bx)),s.marks,s.ro,s.n⟩
def Ni:List Nat→Nat→Bool
 | [],_=>false
 | a :: l,n=>Nat.beq a n || Ni l n
def We (l:List Tmp) (W:List Tmp) (n:Nat):Bool:=Ni l n || Ni W n
def zq (d:Nat) (l W:List Tmp):bp→Bool
 | []=>true
 | .put t (.lp k _) :: r=>(!(Nat.beq k d) || We l W t)&&zq d l W r
 | _ :: r=>zq d l W r
def tA (l W:List Tmp) (base:bp):bp→Bool
 | []=>true
 | .put d _ :: r=>We l W d&&tA l W base r
 | .kill d :: r=>zq d l W base&&tA l W base r
def yZ:List (Nat × Nat)→Nat→Bool
 | [],_=>false
 | (a,_) :: l,n=>Nat.beq a n || yZ l n
def vA (l:List (Nat × Nat)) (base:cF):cF→Bool
 | []=>true
 | (k,_) :: r=>(yZ l k || (dS base k).isNone)&&vA l base r
def NW:List Nat→List Nat→Bool
 | [],[]=>true
 | a :: l,b :: r=>Nat.beq a b&&NW l r
 | _,_=>false
def aA.lcl (n:Nat):aA→Bool
 | .list _ p=>p.under n
 | _=>false
def aO.flags (n:Nat):aO→List Bool
 | .nil=>[]
 | .cons p ps=>p.lcl n :: ps.flags n
def kq:List GL→List Bool→Bool
 | [],_=>true
 | .a7 _ _ :: r,f :: l=>f&&kq r l
 | .a7 _ _ :: _,[]=>false
 | .row n :: r,l=>kq r (ft n l)
 | .map :: r,l=>kq r (ft 1 l)
 | .Ky :: r,l=>kq r (ft 2 l)
 | .aP _ _ :: r,l=>kq r (ft 1 l)
 | .iS :: r,f :: l=>f&&kq r l
 | .iS :: _,[]=>false
 | .nZ _ :: r,l=>kq r (ft 2 l)
 | _ :: r,l=>kq r l
def KA (n:Nat):List GL→Bool
 | []=>true
 | .nZ qm :: r=>Nat.blt qm n&&KA n r
 | _ :: r=>KA n r
def cq.ok (t:cq) (s s':St):Bool:=
 tA t.sl t.W s.ae (s'.ae.take (s'.ae.length - s.ae.length))&&vA t.bx s.boxes (s'.boxes.take (s'.boxes.length - s.boxes.length)) &&
  NW s'.marks s.marks&&Nat.beq t.g.length s.G.length&&(t.ps.under s.G.length&&(kq t.g (ft (Bo t.bx) (ft t.sl.length (t.ps.flags s.G.length)))&&KA s.G.length t.g))&&GV s'.ae t.Wd
def cq.dec (t:cq) (s s':St):Option t.ps.T:=
 bif t.ok s s' then
  match xz s'.ae t.sl,xA s'.boxes t.bx,jX t.g s'.G with
  | some a,some b,some c=>(t.ps.Iy (kp t.g c) (a++(b++c))).bind fun v=>bif dh (t.pS v) t.g s.G s'.G then some v else none
  | _,_,_=>none
 else none
theorem Bp {l:List Nat} {n:Nat}:Ni l n=true↔n∈l:=by
 induction l with
 | nil=>simp [Ni]
 | cons a l ih=>
  simp only [Ni,Bool.or_eq_true,Nat.beq_eq,ih,List.mem_cons]
  constructor
  ·rintro (h | h)
   ·exact .inl h.symm
   ·exact .inr h
  ·rintro (h | h)
   ·exact .inl h.symm
   ·exact .inr h
theorem GW:∀ {a b:List Nat},NW a b=true→a=b
 | [],[],_=>rfl
 | a :: l,b :: r,h=>by
  simp only [NW,Bool.and_eq_true,Nat.beq_eq] at h
  rw [h.1,GW h.2]
 | [],_ :: _,h=>by cases h
 | _ :: _,[],h=>by cases h
theorem Bq {d:Nat} {l W:List Tmp} {t off:Nat}:∀ {base:bp},zq d l W base=true→lk base t=.lp d off→We l W t=true
 | [],_,h=>by simp [lk] at h
 | .put t' x :: r,hn,h=>by
  by_cases e:t'=t
  ·subst e
   rw [ba] at h
   subst h
   simp only [zq,Nat.beq_refl,Bool.not_true,Bool.false_or,Bool.and_eq_true] at hn
   exact hn.1
  ·rw [bA e] at h
   refine Bq (base:=r) ?_ h
   cases x <;> simp only [zq,Bool.and_eq_true] at hn
   ·exact hn
   ·exact hn
   ·exact hn.2
 | .kill d' :: r,hn,h=>by
  rcases Gr (l:=r) (d:=d') (t:=t) with ⟨h1,_⟩ | h1
  ·rw [h1] at h
   exact Bq (base:=r) hn h
  ·rw [h1] at h
   cases h
theorem Br {l W:List Tmp} {base:bp} {t:Nat} (ht:We l W t=false):∀ {pre:bp},tA l W base pre=true→lk (pre++base) t=lk base t
 | [],_=>rfl
 | .put d x :: r,h=>by
  simp only [tA,Bool.and_eq_true] at h
  have cL:d≠t:=fun e=>by rw [e,ht] at h; exact absurd h.1 (by simp)
  rw [List.cons_append,bA cL]
  exact Br ht h.2
 | .kill d :: r,h=>by
  simp only [tA,Bool.and_eq_true] at h
  have ih:=Br ht h.2
  simp only [List.cons_append,lk,ih]
  cases hb:lk base t with
  | lp k off=>
   by_cases e:k=d
   ·subst e
    have:=Bq h.1 hb
    rw [ht] at this
    cases this
   ·simp [mM e]
  | _=>rfl
theorem Da {l:List (Nat × Nat)} {base:cF} {k:Nat} {cs:List AV} (hk:yZ l k=false) (hb:dS base k=some cs):∀ {pre:cF},vA l base pre=true→dS (pre++base) k=some cs
 | [],_=>hb
 | (d,x) :: r,h=>by
  simp only [vA,Bool.and_eq_true] at h
  have cL:d≠k:=fun e=>by
   rw [e,hk,hb] at h
   exact absurd h.1 (by simp)
  rw [List.cons_append,dS,mM cL]
  exact Da hk hb h.2
theorem Db {α:Type} (pre base:List α):(pre++base).take ((pre++base).length - base.length)=pre:=by
 rw [List.length_append,Nat.add_sub_cancel,List.take_left]
def aj.cut (R:aj) (n:Nat):aj:=⟨R.I,R.obj.take n⟩
theorem jY {R:aj} {n id:Nat} {ro:RO}:nth (R.cut n).obj id=some ro↔id < n∧nth R.obj id=some ro:=by
 simp only [aj.cut,aY,List.getElem?_take]
 split
 ·simp_all
 ·simp_all
  omega
theorem oM (R:aj) (n:Nat):Mv R (R.cut n) n:=⟨fun _ _ h=>h,fun _ _ hl h=>jY.2 ⟨hl,h⟩⟩
section CT
variable {E:Env} {R R':aj} {w w':World} {β β':Nat→Nat} {s s':St} {a a':Act}
def xC (R:aj) (w:World) (β:Nat→Nat) (K:Nat→Prop) (ae:bp) (tmps:Array Value):Prop:=
 ∀ i,¬ K i→lk ae i≠.none→∃ c,tmps[i]?=some c∧pO R w β (lk ae i) c
theorem xD {tmps:Array Value} {base:bp}:∀ {W:List Tmp} {K:Nat→Prop},xC R w β (fun i=>i∈W∨K i) base tmps→xC R w β K (xB W base) tmps
 | [],K,h=>fun i hi hn=>h i (by simpa using hi) hn
 | t :: W,K,h=>fun i hi hn=>by
  have ih:xC R w β (fun i=>i=t∨K i) (xB W base) tmps:=xD (W:=W) (fun j hj=>h j (fun hc=>hj (by
   rcases hc with hc | hc
   ·rcases List.mem_cons.1 hc with hc | hc
    ·exact .inr (.inl hc)
    ·exact .inl hc
   ·exact .inr (.inr hc))))
  simp only [xB] at hn ⊢
  by_cases e:t=i
  ·subst e
   rw [ba] at hn
   exact absurd rfl hn
  ·rw [bA e] at hn ⊢
   exact ih i (by simp; exact ⟨fun e'=>e e'.symm,hi⟩) hn
theorem uy {n:Nat} (m:Mv R' R n) {tmps:Array Value} {ae:bp} (hT:ob R' w β ae tmps) {base:bp}:∀ {ts:List Tmp} {K:Nat→Prop} {l l' r r':List AV},xz ae ts=some l→cr (l++r) (l'++r')→l.length=l'.length→aH n l'=true →
  xC R w β (fun i=>i∈ts∨K i) base tmps→xC R w β K (oK ts (l'++r') base) tmps
 | [],K,l,l',r,r',_,_,_,_,h=>fun i hi hn=>by
  have e:oK [] (l'++r') base=base:=rfl
  rw [e] at hn ⊢
  exact h i (by simpa using hi) hn
 | t :: ts,K,l,l',r,r',hg,hw,hl,hu,h=>by
  unfold xz at hg
  split at hg
  ·rename_i a ha
   split at hg
   ·rename_i l0 vu
    cases hg
    cases l' with
    | nil=>simp at hl
    | cons b l'=>
     simp only [List.cons_append,cr] at hw
     simp only [aH,Bool.and_eq_true] at hu
     have ih:xC R w β (fun i=>i=t∨K i) (oK ts (l'++r') base) tmps:=uy m hT vu hw.2 (by simpa using hl) hu.2 (fun j hj=>h j (fun hc=>hj (by
      rcases hc with hc | hc
      ·rcases List.mem_cons.1 hc with hc | hc
       ·exact .inr (.inl hc)
       ·exact .inl hc
      ·exact .inr (.inr hc))))
     intro i hi hn
     simp only [oK,List.cons_append] at hn ⊢
     by_cases e:t=i
     ·subst e
      rw [ba] at hn ⊢
      obtain ⟨c,h1,h2⟩:=hT t (by rw [ha]; simp)
      rw [ha] at h2
      exact ⟨c,h1,Rel.move m hu.1 (hw.1 _ _ _ h2)⟩
     ·rw [bA e] at hn ⊢
      exact ih i (by simp; exact ⟨fun e'=>e e'.symm,hi⟩) hn
   ·cases hg
  ·cases hg
def xF (R:aj) (w:World) (β:Nat→Nat) (k:Nat) (cs:List AV):Prop:=
 (∃ vs el,w.heap[β k]?=some (.cells ⟨vs⟩ el (0,0))∧aK R w cs vs∧(∀ v∈vs,v.oneCell'=true))∧(∀ o,¬ R.I (β k) o)∧¬ Live R (β k)
theorem Dc {R:aj} {n b:Nat} (h:Live (R.cut n) b):Live R b:=by
 obtain ⟨id,ro,h1,h2⟩:=h
 exact ⟨id,ro,(jY.1 h1).2,h2⟩
theorem xF.cut {n k:Nat} {cs eV:List AV} (h:xF R w β k cs) (hw:cr cs eV) (hu:aH n eV=true):xF (R.cut n) w β k eV:=by
 obtain ⟨⟨vs,el,h1,h2,h3⟩,h4,h5⟩:=h
 exact ⟨⟨vs,el,h1,(hw.rel h2).move (oM R n) hu,h3⟩,h4,fun hl=>h5 (Dc hl)⟩
theorem fg {n:Nat}:∀ {l r:List AV},aH n (l++r)=(aH n l&&aH n r)
 | [],r=>by simp [aH]
 | a :: l,r=>by simp [aH,fg (l:=l),Bool.and_assoc]
theorem cr.split:∀ {l r l':List AV},cr (l++r) l'→∃ a b,l'=a++b∧cr l a∧cr r b∧a.length=l.length
 | [],r,l',h=>⟨[],l',rfl,trivial,h,rfl⟩
 | x :: l,r,[],h=>h.elim
 | x :: l,r,y :: l',h=>by
  obtain ⟨a,b,rfl,h2,h3,h4⟩:=cr.split (l:=l) (r:=r) (l':=l') h.2
  exact ⟨y :: a,b,rfl,⟨h.1,h2⟩,h3,by simp [h4]⟩
theorem Dd {n:Nat} {ZM:cF} (hb:∀ k cs,dS ZM k=some cs→xF R w β k cs) {base:cF}:∀ {bx:List (Nat × Nat)} {K:Nat→Prop} {l l' r:List AV},xA ZM bx=some l→cr l l'→aH n l'=true →
  (∀ k cs,¬ K k→yZ bx k=false→dS base k=some cs→dS ZM k=some cs∧aH n cs=true) →
  ∀ k cs,¬ K k→dS (ux bx (l'++r) base) k=some cs→xF (R.cut n) w β k cs∧∃ eV,dS ZM k=some eV
 | [],K,l,l',r,_,_,_,h,k,cs,hK,hk=>by
  obtain ⟨h1,h2⟩:=h k cs hK rfl hk
  exact ⟨(hb k cs h1).cut (cr.refl _) h2,cs,h1⟩
 | (d,m) :: bx,K,l,l',r,hg,hw,hu,h,k,cs,hK,hk=>by
  unfold xA at hg
  split at hg
  ·rename_i Xb hd
   split at hg
   ·rename_i l0 vu
    cases hm:Nat.beq Xb.length m with
    | false=>rw [hm] at hg; cases hg
    | true=>
     rw [hm] at hg
     cases hg
     have hm:=Nat.eq_of_beq_eq_true hm
     obtain ⟨x,y,rfl,k1,k2,k3⟩:=hw.split
     rw [fg,Bool.and_eq_true] at hu
     have e1:((x++y)++r).take m=x:=by rw [List.append_assoc,← hm,← k3,List.take_left]
     have e2:((x++y)++r).drop m=y++r:=by rw [List.append_assoc,← hm,← k3,List.drop_left]
     simp only [ux,e1,e2] at hk
     rcases eu hk with ⟨rfl,rfl⟩ | ⟨cL,hk⟩
     ·exact ⟨(hb d Xb hd).cut k1 hu.1,Xb,hd⟩
     ·refine Dd hb (K:=fun k=>k=d∨K k) (r:=r) vu k2 hu.2 (fun k' eV hK' h1 h2=>?_) k cs (fun hc=>?_) hk
      ·exact h k' eV (fun hc=>hK' (.inr hc)) (by simp only [yZ,h1,Bool.or_false]; exact mM (fun e=>hK' (.inl e.symm))) h2
      ·rcases hc with hc | hc
       ·exact cL hc.symm
       ·exact hK hc
   ·cases hg
  ·cases hg
def xG (n:Nat):List GL→List AV→Prop
 | [],_=>True
 | .a7 _ _ :: r,l=>aH n (AV.dJ (dT l))=true∧xG n r l.tail
 | .row m :: r,l=>xG n r (l.drop m)
 | .map :: r,l=>xG n r l.tail
 | .Ky :: r,l=>xG n r l.tail.tail
 | .aP _ _ :: r,l=>xG n r l.tail
 | .iS :: r,l=>aH n (AV.dJ (dT l))=true∧xG n r l.tail
 | .nZ _ :: r,l=>xG n r l.tail.tail
 | _ :: r,l=>xG n r l
def oN (n:Nat):List Bool→List AV→Prop
 | [],_=>True
 | _ :: _,[]=>True
 | f :: fl,a :: l=>(f=true→aH n a.dJ=true)∧oN n fl l
theorem oN.drop {m:Nat}:∀ {fl:List Bool} {l:List AV} (n:Nat),oN m fl l→oN m (ft n fl) (l.drop n)
 | _,_,0,h=>by simpa [ft] using h
 | [],_,_+1,_=>by simp [ft,oN]
 | _ :: fl,[],n+1,_=>by
  rw [List.drop_nil]
  cases ft (n+1) (_ :: fl) <;> trivial
 | _ :: fl,_ :: l,n+1,h=>by simpa [ft] using oN.drop n h.2
theorem fw {m:Nat}:∀ (g:List GL) {fl:List Bool} {l:List AV},kq g fl=true→oN m fl l→xG m g l
 | [],_,_,_,_=>trivial
 | .a7 _ _ :: g,[],_,h,_=>by cases h
 | .a7 _ _ :: g,f :: fl,[],h,_=>by
  simp only [kq,Bool.and_eq_true] at h
  refine ⟨rfl,fw g (fl:=fl) h.2 ?_⟩
  cases fl <;> trivial
 | .a7 _ _ :: g,f :: fl,a :: l,h,k=>by
  simp only [kq,Bool.and_eq_true] at h
  exact ⟨k.1 h.1,fw g h.2 k.2⟩
 | .row n :: g,fl,l,h,k=>fw g (show kq g (ft n fl)=true from h) (k.drop n)
 | .map :: g,fl,l,h,k=>by
  have:=fw g (show kq g (ft 1 fl)=true from h) (k.drop 1)
  rw [List.drop_one] at this
  exact this
 | .Ky :: g,fl,l,h,k=>by
  have:=fw g (show kq g (ft 2 fl)=true from h) (k.drop 2)
  have e:l.drop 2=l.tail.tail:=by cases l with
   | nil=>rfl
   | cons a l=>cases l <;> rfl
  rw [e] at this
  exact this
 | .aP _ _ :: g,fl,l,h,k=>by
  have:=fw g (show kq g (ft 1 fl)=true from h) (k.drop 1)
  rw [List.drop_one] at this
  exact this
 | .nZ _ :: g,fl,l,h,k=>by
  have:=fw g (show kq g (ft 2 fl)=true from h) (k.drop 2)
  have e:l.drop 2=l.tail.tail:=by cases l with
   | nil=>rfl
   | cons a l=>cases l <;> rfl
  rw [e] at this
  exact this
 | .iS :: g,[],_,h,_=>by cases h
 | .iS :: g,f :: fl,[],h,_=>by
  simp only [kq,Bool.and_eq_true] at h
  refine ⟨rfl,fw g (fl:=fl) h.2 ?_⟩
  cases fl <;> trivial
 | .iS :: g,f :: fl,a :: l,h,k=>by
  simp only [kq,Bool.and_eq_true] at h
  exact ⟨k.1 h.1,fw g h.2 k.2⟩
 | .tok _ _ _ :: g,fl,l,h,k=>fw g (show kq g fl=true from h) k
 | .dead :: g,fl,l,h,k=>fw g (show kq g fl=true from h) k
 | .lp _ :: g,fl,l,h,k=>fw g (show kq g fl=true from h) k
 | .bQ :: g,fl,l,h,k=>fw g (show kq g fl=true from h) k
theorem xH {n:Nat} {α:Type} {g:α→AV} (hg:∀ x,(g x).under n=true):∀ xs:List α,aH n (xs.map g)=true
 | []=>rfl
 | x :: xs=>by simp only [List.map_cons,aH,hg x,xH hg xs,Bool.and_self]
theorem jx {α:Type} {g:α→AV} (hg:∀ x,(g x).closed=true):∀ xs:List α,aC (xs.map g)=true
 | []=>rfl
 | x :: xs=>by simp only [List.map_cons,aC,hg x,jx hg xs,Bool.and_self]
theorem aO.De (n:Nat) (L:Nat→Nat):∀ (ps:aO) (x:ps.T),oN n (ps.flags n) (ps.ko L x)
 | .nil,_=>trivial
 | .cons p .nil,x=>⟨fun h=>Sb L p x h,trivial⟩
 | .cons p (.cons q ps),x=>⟨fun h=>Sb L p x.1 h,(aO.cons q ps).De n L x.2⟩
where
 Sb (L:Nat→Nat):∀ (p:aA) (x:p.T),p.lcl n=true→aH n (p.ko L x).dJ=true
  | .list _ p,x,h=>xH (fun y=>p.de y h) _
  | .int _,_,h=>by cases h
  | .bool,_,h=>by cases h
  | .str,_,h=>by cases h
  | .agg _,_,h=>by cases h
  | .bH _,_,h=>by cases h
  | .own _ _ _,_,h=>by cases h
  | .aP _ _ _,_,h=>by cases h
  | .eo _,_,h=>by cases h
  | .two _ _,_,h=>by cases h
def GOk (n:Nat):GO→GO→Prop
 | .row cs el,.row eV Zu=>Zu=el∧cr cs eV∧aH n eV=true
 | .tok f sz e,.tok f' bK e'=>f=f'∧sz=bK∧e=e'
 | .defers a,.defers b=>a=b
 | .map es,.map es'=>(es'=es∧jw es=true)∨∃ l,es'=aB l∧jM (ah es) l∧aH n l=true
 | .aP fs sz e,.aP AT bK e'=>fs=AT∧sz=bK∧e=e'
 | .nZ qm m left _ t,.nZ mid' m' zW cur t'=>qm=mid'∧m=m'∧left=zW∧t=t'∧qm < n∧cur=none
 | .gf l p,.gf l' p'=>l'=l∧p'=p
 | .a7 es sz e,.a7 es' bK e'=>bK=sz∧e'=e∧jM es es'∧aH n es'=true
 | _,.dead=>True
 | _,_=>False
def LOk:GO→GO→GO→Prop
 | .loop _ _ fn sl n ps rZ bd d _,.loop b p _ _ _ _ _ _ _ dn,go=>go=.loop b p fn sl n ps rZ bd d dn
 | _,_,_=>False
theorem IA {n:Nat} {o o':GO} (h:Bn o o'=true):GOk n o' o:=by
 cases o with
 | tok f sz e=>
  cases o' with
  | tok f' bK e'=>
   simp only [Bn,Bool.and_eq_true] at h
   exact ⟨of_decide_eq_true h.1,Nat.eq_of_beq_eq_true h.2.1,Nat.eq_of_beq_eq_true h.2.2⟩
  | _=>cases h
 | defers a=>
  cases o' with
  | defers b=>cases a <;> cases b <;> first | rfl | cases h
  | _=>cases h
 | dead=>cases o' <;> trivial
 | _=>cases h
theorem NX {k:Ep} {o o':GO} (h:To k o o'=true):LOk o o' (R8 k o):=by
 cases o with
 | loop b p fn sl n ps rZ bd d dn=>
  cases o' with
  | loop b' p' fn' Wc n' Xt NY Wf d' dn'=>
   obtain ⟨rfl,rfl,rfl⟩:=Ep.GU (show k.is b' p' dn'=true from h)
   rfl
  | _=>cases h
 | _=>cases h
theorem qc (a:AV):a.entries=aB a.dJ:=by cases a <;> rfl
theorem gE {n:Nat} {vs:List AV}:∀ {g:List GL} {B G:List GO} {l l':List AV},jX g G=some l→cr l l'→Js l l'→xG n g l'∧KA n g=true→aH n l'=true→dh vs g B G=true →
  ∀ id go,nth (dv vs g B l') id=some go→∃ go',nth G id=some go'∧(GOk n go' go∨∃ Jn,nth B id=some Jn∧LOk Jn go' go)
 | [],B,G,l,l',_,_,_,_,_,_,id,go,h=>by simp [dv,nth] at h
 | x :: g,[],G,l,l',_,_,_,_,_,ht,_,_,_=>by cases x <;> cases G <;> cases ht
 | x :: g,_ :: _,[],l,l',_,_,_,_,_,ht,_,_,_=>by cases x <;> cases ht
 | .row m :: g,b :: B,o :: G,l,l',hg,hw,hx,sZ,hu,ht,id,go,h=>by
   obtain ⟨Jp,C1⟩:R9 b o=true∧dh vs g B G=true:=by
    rw [← Bool.and_eq_true]
    cases o <;> exact ht
   cases o with
   | row cs el=>
    have qt:Xs b=el:=by
     cases b <;> first | (cases Jp; done) | exact Nat.eq_of_beq_eq_true Jp
    change (match jX g G with
     | some r=>bif Nat.beq cs.length m then some (cs++r) else none
     | none=>none)=some l at hg
    split at hg
    ·rename_i r hr
     cases hm:Nat.beq cs.length m with
     | false=>rw [hm] at hg; cases hg
     | true=>
      rw [hm] at hg
      cases hg
      have hm:=Nat.eq_of_beq_eq_true hm
      obtain ⟨x,y,rfl,k1,k2,k3⟩:=hw.split
      rw [fg,Bool.and_eq_true] at hu
      have e1:(x++y).take m=x:=by rw [← hm,← k3,List.take_left]
      have e2:(x++y).drop m=y:=by rw [← hm,← k3,List.drop_left]
      simp only [dv,e1,e2] at h
      cases id with
      | zero=>simp only [nth] at h; cases h; exact ⟨.row cs el,rfl,.inl ⟨qt,k1,hu.1⟩⟩
      | succ id=>exact gE hr k2 (by obtain ⟨x',y',e1',k1',Ng,k3'⟩:=hx.split; have:=List.append_inj e1' (by rw [k3,k3']); rw [this.2]; exact Ng) (by rw [← e2]; exact sZ) hu.2 C1 id go h
    ·cases hg
   | _=>cases hg
 | .tok loc sz e :: g,b :: B,o :: G,l,l',hg,hw,hx,sZ,hu,ht,id,go,h=>by
   cases o with
   | tok f bK e'=>
    change (bif Nat.beq sz bK&&Nat.beq e e' then jX g G else none)=some l at hg
    change (decide (f=Kz vs loc)&&dh vs g B G)=true at ht
    rw [Bool.and_eq_true] at ht
    cases hm:(Nat.beq sz bK&&Nat.beq e e') with
    | false=>rw [hm] at hg; cases hg
    | true=>
     rw [hm] at hg
     rw [Bool.and_eq_true] at hm
     have q1:=Nat.eq_of_beq_eq_true hm.1
     have q2:=Nat.eq_of_beq_eq_true hm.2
     simp only [dv] at h
     cases id with
     | zero=>
      simp only [nth] at h
      cases h
      exact ⟨.tok f bK e',rfl,.inl ⟨of_decide_eq_true ht.1,q1.symm,q2.symm⟩⟩
     | succ id=>exact gE hg hw hx sZ hu ht.2 id go h
   | _=>cases hg
 | .dead :: g,b :: B,o :: G,l,l',hg,hw,hx,sZ,hu,ht,id,go,h=>by
   simp only [dv] at h
   have ze:jX g G=some l:=by cases o <;> exact hg
   have C1:dh vs g B G=true:=by cases o <;> exact ht
   cases id with
   | zero=>
    simp only [nth] at h
    cases h
    exact ⟨o,rfl,.inl (by cases o <;> trivial)⟩
   | succ id=>exact gE ze hw hx sZ hu C1 id go h
 | .lp k :: g,b :: B,o :: G,l,l',hg,hw,hx,sZ,hu,ht,id,go,h=>by
   simp only [dv] at h
   have ze:jX g G=some l:=by cases o <;> exact hg
   change (To k b o&&dh vs g B G)=true at ht
   rw [Bool.and_eq_true] at ht
   cases id with
   | zero=>
    simp only [nth] at h
    cases h
    exact ⟨o,rfl,.inr ⟨b,rfl,NX ht.1⟩⟩
   | succ id=>exact gE ze hw hx sZ hu ht.2 id go h
 | .bQ :: g,b :: B,o :: G,l,l',hg,hw,hx,sZ,hu,ht,id,go,h=>by
   simp only [dv] at h
   have ze:jX g G=some l:=by cases o <;> exact hg
   change (Bn b o&&dh vs g B G)=true at ht
   rw [Bool.and_eq_true] at ht
   cases id with
   | zero=>
    simp only [nth] at h
    cases h
    exact ⟨o,rfl,.inl (IA ht.1)⟩
   | succ id=>exact gE ze hw hx sZ hu ht.2 id go h
 | .map :: g,b :: B,o :: G,l,l',hg,hw,hx,sZ,hu,ht,id,go,h=>by
   cases o with
   | map es=>
    change (match jX g G with
     | some r=>some (AV.list .gr 2 (ah es) :: r)
     | none=>none)=some l at hg
    change (jw es&&dh vs g B G)=true at ht
    rw [Bool.and_eq_true] at ht
    split at hg
    ·rename_i r hr
     cases hg
     cases l' with
     | nil=>exact hw.elim
     | cons a l'=>
      simp only [aH,Bool.and_eq_true] at hu
      simp only [dv,dT,List.tail_cons] at h
      cases id with
      | zero=>
       simp only [nth] at h
       cases h
       refine ⟨.map es,rfl,.inl (.inl ⟨?_,ht.1⟩)⟩
       rw [qc,hx.2.1 ht.1]
       exact nK es
      | succ id=>exact gE hr hw.2 hx.2.2.2 sZ hu.2 ht.2 id go h
    ·cases hg
   | _=>cases hg
 | .Ky :: g,b :: B,o :: G,l,l',hg,hw,hx,sZ,hu,ht,id,go,h=>by
   have C1:dh vs g B G=true:=by cases o <;> exact ht
   cases o with
   | gf s pos=>
    change (match jX g G with
     | some r=>some (AV.str s :: AV.int .i64 pos :: r)
     | none=>none)=some l at hg
    split at hg
    ·rename_i r hr
     cases hg
     match l',hw,hx,hu,h with
     | [],hw,_,_,_=>exact hw.elim
     | [_],hw,_,_,_=>exact hw.2.elim
     | a :: a' :: l',hw,hx,hu,h=>
      simp only [aH,Bool.and_eq_true] at hu
      simp only [dv,dT,List.tail_cons] at h
      have e1:=hx.1 (by simp [AV.exact])
      have e2:=hx.2.2.2.1 (by simp [AV.exact])
      subst e1 e2
      cases id with
      | zero=>
       simp only [nth] at h
       cases h
       exact ⟨.gf s pos,rfl,.inl ⟨rfl,by simp [AV.qn]⟩⟩
      | succ id=>exact gE hr hw.2.2 hx.2.2.2.2.2.2 sZ hu.2.2 C1 id go h
    ·cases hg
   | _=>cases hg
 | .a7 sz e :: g,b :: B,o :: G,l,l',hg,hw,hx,sZ,hu,ht,id,go,h=>by
   have C1:dh vs g B G=true:=by cases o <;> exact ht
   cases o with
   | a7 es bK e'=>
    change (match jX g G with
     | some r=>bif Nat.beq sz bK&&Nat.beq e e' then some (AV.list .gr bK es :: r) else none
     | none=>none)=some l at hg
    split at hg
    ·rename_i r hr
     cases hm:(Nat.beq sz bK&&Nat.beq e e') with
     | false=>rw [hm] at hg; cases hg
     | true=>
     rw [hm] at hg
     rw [Bool.and_eq_true] at hm
     have q1:=Nat.eq_of_beq_eq_true hm.1
     have q2:=Nat.eq_of_beq_eq_true hm.2
     cases hg
     cases l' with
     | nil=>exact hw.elim
     | cons a l'=>
      simp only [aH,Bool.and_eq_true] at hu
      simp only [dv,dT,List.tail_cons] at h
      cases id with
      | zero=>
       simp only [nth] at h
       cases h
       exact ⟨.a7 es bK e',rfl,.inl ⟨q1,q2,hx.2.2.1,sZ.1.1⟩⟩
      | succ id=>exact gE hr hw.2 hx.2.2.2 ⟨sZ.1.2,sZ.2⟩ hu.2 C1 id go h
    ·cases hg
   | _=>cases hg
 | .aP sz e :: g,b :: B,o :: G,l,l',hg,hw,hx,sZ,hu,ht,id,go,h=>by
   have C1:dh vs g B G=true:=by cases o <;> exact ht
   cases o with
   | aP fs bK e'=>
    change (match jX g G with
     | some r=>bif Nat.beq sz bK&&Nat.beq e e' then some (AV.list .gr 1 (cP fs) :: r) else none
     | none=>none)=some l at hg
    split at hg
    ·rename_i r hr
     cases hm:(Nat.beq sz bK&&Nat.beq e e') with
     | false=>rw [hm] at hg; cases hg
     | true=>
     rw [hm] at hg
     rw [Bool.and_eq_true] at hm
     have q1:=Nat.eq_of_beq_eq_true hm.1
     have q2:=Nat.eq_of_beq_eq_true hm.2
     cases hg
     cases l' with
     | nil=>exact hw.elim
     | cons a l'=>
      simp only [aH,Bool.and_eq_true] at hu
      simp only [dv,dT,List.tail_cons] at h
      cases id with
      | zero=>
       simp only [nth] at h
       cases h
       refine ⟨.aP fs bK e',rfl,.inl ⟨?_,q1.symm,q2.symm⟩⟩
       rw [hx.2.1 (xy fs)]
       exact (uw fs).symm
      | succ id=>exact gE hr hw.2 hx.2.2.2 sZ hu.2 C1 id go h
    ·cases hg
   | _=>cases hg
 | .iS :: g,b :: B,o :: G,l,l',hg,hw,hx,sZ,hu,ht,id,go,h=>by
   have C1:dh vs g B G=true:=by cases o <;> exact ht
   cases o with
   | map es=>
    change (match jX g G with
     | some r=>some (AV.list .gr 2 (ah es) :: r)
     | none=>none)=some l at hg
    split at hg
    ·rename_i r hr
     cases hg
     cases l' with
     | nil=>exact hw.elim
     | cons a l'=>
      simp only [aH,Bool.and_eq_true] at hu
      simp only [dv,dT,List.tail_cons] at h
      cases id with
      | zero=>
       simp only [nth] at h
       cases h
       exact ⟨.map es,rfl,.inl (.inr ⟨a.dJ,qc a,hx.2.2.1,sZ.1.1⟩)⟩
      | succ id=>exact gE hr hw.2 hx.2.2.2 ⟨sZ.1.2,sZ.2⟩ hu.2 C1 id go h
    ·cases hg
   | _=>cases hg
 | .nZ qm :: g,b :: B,o :: G,l,l',hg,hw,hx,sZ,hu,ht,id,go,h=>by
   obtain ⟨Jp,C1⟩:Sa b o=true∧dh vs g B G=true:=by
    rw [← Bool.and_eq_true]
    cases o <;> exact ht
   cases o with
   | nZ mid' k left cur t=>
    have qt:Xr b=t:=by
     cases b <;> first | (cases Jp; done) | exact Nat.eq_of_beq_eq_true Jp
    change (match jX g G with
     | some r=>bif Nat.beq qm mid' then some (AV.int .i64 k :: AV.list .gr 1 (cP left) :: r) else none
     | none=>none)=some l at hg
    split at hg
    ·rename_i r hr
     cases hm:Nat.beq qm mid' with
     | false=>rw [hm] at hg; cases hg
     | true=>
     rw [hm] at hg
     have q1:=Nat.eq_of_beq_eq_true hm
     subst q1
     cases hg
     have hmp:=sZ.2
     simp only [KA,Bool.and_eq_true] at hmp
     match l',hw,hx,hu,h with
     | [],hw,_,_,_=>exact hw.elim
     | [_],hw,_,_,_=>exact hw.2.elim
     | a :: a' :: l',hw,hx,hu,h=>
      simp only [aH,Bool.and_eq_true] at hu
      simp only [dv,dT,List.tail_cons] at h
      have e1:=hx.1 (by simp [AV.exact])
      have e2:=hx.2.2.2.2.1 (xy left)
      subst e1
      cases id with
      | zero=>
       simp only [nth] at h
       cases h
       refine ⟨.nZ qm k left cur t,rfl,.inl ⟨rfl,by simp [AV.qn],?_,qt.symm,jL hmp.1,rfl⟩⟩
       rw [e2]
       exact (uw left).symm
      | succ id=>exact gE hr hw.2.2 hx.2.2.2.2.2.2 ⟨sZ.1,hmp.2⟩ hu.2.2 C1 id go h
    ·cases hg
   | _=>cases hg
theorem cI {vs:List AV}:∀ {g:List GL} {B:List GO} {l:List AV},(dv vs g B l).length=g.length
 | [],_,_=>rfl
 | .row m :: g,B,l=>by simp [dv,cI (g:=g)]
 | .tok _ _ _ :: g,B,l=>by simp [dv,cI (g:=g)]
 | .dead :: g,B,l=>by simp [dv,cI (g:=g)]
 | .lp _ :: g,B,l=>by simp [dv,cI (g:=g)]
 | .bQ :: g,B,l=>by simp [dv,cI (g:=g)]
 | .map :: g,B,l=>by simp [dv,cI (g:=g)]
 | .a7 _ _ :: g,B,l=>by simp [dv,cI (g:=g)]
 | .Ky :: g,B,l=>by simp [dv,cI (g:=g)]
 | .aP _ _ :: g,B,l=>by simp [dv,cI (g:=g)]
 | .iS :: g,B,l=>by simp [dv,cI (g:=g)]
 | .nZ _ :: g,B,l=>by simp [dv,cI (g:=g)]
theorem gL.lok {R0:aj} {w0:World} {Sc:RO} {Jn go' go:GO} {ro:RO} (e:Ext R0 w0 R w) (h0:gL R0 w0 Jn Sc) (hle:cm Sc ro) (h:gL R' w go' ro) (k:LOk Jn go' go):gL R w go ro:=by
 cases Jn with
 | loop b p fn sl n ps rZ bd d dn=>
  cases go' with
  | loop b' p' fn' Wc n' Xt NY Wf d' dn'=>
   change go=_ at k
   subst k
   cases Sc with
   | b0 bb=>
    simp only [cm] at hle
    subst hle
    obtain ⟨⟨r0,db0,l1,l2,l3,l4,l5,l6,l7,l8,l9,l10⟩,l11⟩:=h0
    obtain ⟨⟨r,db,m1,m2,m3,m4,m5,m6,m7,m8,m9,m10⟩,m11⟩:=h
    obtain ⟨r1,q1,q2,q3,q4,q5,q6⟩:=e.lp bb r0 l1
    have hr:r1=r:=by
     have:=q1.symm.trans m1
     injection this with this
     injection this with this
    subst hr
    exact ⟨⟨r1,db0,q1,m2,m3,by rw [q2]; exact ob.mono e l4,by rw [q2]; exact l5,by rw [q3]; exact l6,by rw [q4]; exact l7,by rw [q5]; exact l8,by rw [q6]; exact l9,e.b0 l10⟩,l11⟩
   | none=>exact h0.elim
   | bF=>exact h0.elim
   | tok _ _ _=>exact h0.elim
   | aP _=>exact h0.elim
  | _=>exact k.elim
 | _=>exact k.elim
theorem cZ.cut {n:Nat}:∀ {es:List (AV × AV)} {av:List MapEntry},fI (ah es)=true→cZ R w es av→cZ (R.cut n) w es av
 | [],[],_,_=>trivial
 | [],_ :: _,_,h=>h.elim
 | _ :: _,[],_,h=>h.elim
 | (k,v) :: es,en :: av,he,h=>by
  simp only [ah,fI,AV.exact,Bool.and_true,Bool.and_eq_true] at he
  exact ⟨h.1.move (oM R n) (iq n (nl he.1.1)),h.2.1.move (oM R n) (iq n (nl he.1.2)),cZ.cut he.2 h.2.2⟩
theorem Df {n:Nat} {v:AV} (h:v.under n=true) (k:v.aV=true):aH n v.cells=true:=by
 cases v <;> first | exact h | (simp [AV.aV] at k; done) | (simp only [AV.cells,aH,Bool.and_true]; exact h)
theorem xI {n sz:Nat}:∀ {es es':List AV},jM es es'→dq sz es→aH n es'=true→dq sz es'∧cr (aq es) (aq es')∧aH n (aq es')=true
 | [],[],_,_,_=>⟨(fun e he=>by simp at he),trivial,rfl⟩
 | e :: es,e' :: es',h,k,uQ=>by
  obtain ⟨h1,h2⟩:=h
  simp only [aH,Bool.and_eq_true] at uQ
  obtain ⟨q1,q2⟩:=k e (by simp)
  obtain ⟨i1,i2,i3⟩:=xI h2 (fun x hx=>k x (by simp [hx])) uQ.2
  have hc:=h1.cells q2
  have ht:e'.aV=true:=by rw [h1.bH,q2]
  refine ⟨fun x hx=>?_,hc.append i2,by show aH n (e'.cells++aq es')=true; rw [fg,Df uQ.1 ht,i3]; rfl⟩
  rcases List.mem_cons.1 hx with rfl | hx
  ·exact ⟨by rw [← hc.length,q1],ht⟩
  ·exact i1 x hx
 | [],_ :: _,h,_,_=>h.elim
 | _ :: _,[],h,_,_=>h.elim
theorem nW.head {l r:List AV} (h:nW l r):(AV.dJ (dT l)).length=(AV.dJ (dT r)).length:=by
 cases l <;> cases r <;> first | rfl | exact h.1 | exact h.elim
theorem nW.tail {l r:List AV} (h:nW l r):nW l.tail r.tail:=by
 cases l <;> cases r <;> first | exact h | exact h.2 | exact h.elim
theorem cJ:∀ (g:List GL) {l r:List AV} (i:Nat),nW l r→kp g l i=kp g r i
 | [],_,_,_,_=>rfl
 | .a7 _ _ :: g,l,r,0,h=>h.head
 | .a7 _ _ :: g,l,r,i+1,h=>cJ g i h.tail
 | .row _ :: g,l,r,0,h=>rfl
 | .row n :: g,l,r,i+1,h=>cJ g i (h.drop n)
 | .map :: g,l,r,0,h=>rfl
 | .map :: g,l,r,i+1,h=>cJ g i h.tail
 | .Ky :: g,l,r,0,h=>rfl
 | .Ky :: g,l,r,i+1,h=>cJ g i h.tail.tail
 | .aP _ _ :: g,l,r,0,h=>rfl
 | .aP _ _ :: g,l,r,i+1,h=>cJ g i h.tail
 | .iS :: g,l,r,0,h=>rfl
 | .iS :: g,l,r,i+1,h=>cJ g i h.tail
 | .nZ _ :: g,l,r,0,h=>rfl
 | .nZ _ :: g,l,r,i+1,h=>cJ g i h.tail.tail
 | .tok _ _ _ :: g,l,r,0,h=>rfl
 | .tok _ _ _ :: g,l,r,i+1,h=>cJ g i h
 | .dead :: g,l,r,0,h=>rfl
 | .dead :: g,l,r,i+1,h=>cJ g i h
 | .lp _ :: g,l,r,0,h=>rfl
 | .lp _ :: g,l,r,i+1,h=>cJ g i h
 | .bQ :: g,l,r,0,h=>rfl
 | .bQ :: g,l,r,i+1,h=>cJ g i h
theorem cZ.Xu {n:Nat}:∀ {es:List (AV × AV)} {l:List AV} {av:List MapEntry},jM (ah es) l→aH n l=true→cZ R w es av→cZ (R.cut n) w (aB l) av
 | [],[],[],_,_,_=>trivial
 | [],[],_ :: _,_,_,h=>h.elim
 | [],_ :: _,_,h,_,_=>h.elim
 | (_,_) :: _,[],_,h,_,_=>h.elim
 | (_,_) :: _,_ :: _,[],_,_,h=>h.elim
 | (k,v) :: es,a :: l,en :: av,hd,hu,h=>by
  obtain ⟨d1,d2⟩:=hd
  simp only [aH,Bool.and_eq_true] at hu
  have hc:=d1.cells rfl
  have hl:[k,v].length=a.cells.length:=hc.length
  cases a with
  | agg cs=>
   match cs,hc,hl with
   | [k',v'],hc,_=>
    have Tp:aH n [k',v']=true:=hu.1
    simp only [aH,Bool.and_true,Bool.and_eq_true] at Tp
    exact ⟨(hc.1 _ _ _ h.1).move (oM R n) Tp.1,(hc.2.1 _ _ _ h.2.1).move (oM R n) Tp.2,cZ.Xu d2 hu.2 h.2.2⟩
   | [],_,hl=>simp [AV.cells] at hl
   | [_],_,hl=>simp [AV.cells] at hl
   | _ :: _ :: _ :: _,_,hl=>simp [AV.cells] at hl
  | _=>simp [AV.cells] at hl
theorem gL.gok {n:Nat} {go go':GO} {ro:RO} (h:gL R w go' ro) (k:GOk n go' go):gL (R.cut n) w go ro:=by
 cases go with
 | dead=>
  cases ro with
  | none=>trivial
  | bF=>trivial
  | b0 b=>exact h.lt rfl
  | tok f b c=>exact h.lt rfl
  | aP ts=>exact fun j f b c hj=>h.lt ⟨j,f,c,hj⟩
 | row cs el=>
  cases go' with
  | row eV Zu=>
   cases ro with
   | b0 b=>
    obtain ⟨vs,h1,h2,h3,h4⟩:=h
    obtain ⟨rfl,k⟩:=k
    exact ⟨vs,h1,(k.1.rel h2).move (oM R n) k.2,h3,h4⟩
   | none=>exact h.elim
   | bF=>exact h.elim
   | tok _ _ _=>exact h.elim
   | aP _=>exact h.elim
  | _=>exact k.elim
 | tok f sz e=>
  cases go' with
  | tok f' bK e'=>
   obtain ⟨rfl,rfl,rfl⟩:=k
   cases ro with
   | b0 b=>exact h.elim
   | none=>exact h.elim
   | bF=>exact h
   | tok _ _ _=>exact h
   | aP _=>exact h.elim
  | _=>exact k.elim
 | defers a=>
  cases go' with
  | defers b=>
   change b=a at k
   subst k
   cases ro <;> exact h
  | _=>exact k.elim
 | map es=>
  cases go' with
  | map es'=>
   cases ro with
   | b0 b=>
    obtain ⟨av,clock,h1,h2,h3⟩:=h
    rcases k with ⟨rfl,k2⟩ | ⟨l,rfl,k2,k3⟩
    ·exact ⟨av,clock,h1,cZ.cut k2 h2,h3⟩
    ·exact ⟨av,clock,h1,cZ.Xu k2 k3 h2,h3⟩
   | none=>exact h.elim
   | bF=>exact h.elim
   | tok _ _ _=>exact h.elim
   | aP _=>exact h.elim
  | _=>exact k.elim
 | aP fs sz e=>
  cases go' with
  | aP AT bK e'=>
   obtain ⟨rfl,rfl,rfl⟩:=k
   cases ro <;> exact h
  | _=>exact k.elim
 | nZ qm m left cur t=>
  cases go' with
  | nZ mid' m' zW Cr t'=>
   obtain ⟨rfl,rfl,rfl,rfl,k,rfl⟩:=k
   cases ro with
   | b0 b=>obtain ⟨bm,seen,c0,h1,h2,h3,h4,h5,h6,_⟩:=h; exact ⟨bm,seen,c0,jY.2 ⟨k,h1⟩,h2,h3,h4,h5,h6,fun i hi=>by cases hi⟩
   | none=>exact h.elim
   | bF=>exact h.elim
   | tok _ _ _=>exact h.elim
   | aP _=>exact h.elim
  | _=>exact k.elim
 | gf l p=>
  cases go' with
  | gf l' p'=>
   obtain ⟨rfl,rfl⟩:=k
   cases ro <;> exact h
  | _=>exact k.elim
 | a7 es sz e=>
  cases go' with
  | a7 es' bK e'=>
   obtain ⟨rfl,rfl,k,kc⟩:=k
   cases ro with
   | b0 b=>exact h.elim
   | none=>exact h.elim
   | aP _=>exact h.elim
   | bF=>
    have he:es'=[]:=h
    subst he
    exact List.eq_nil_of_length_eq_zero k.length.symm
   | tok f b c=>
    obtain ⟨h0,h1,cur,vs,h2,h3,h4,h5,h6,h7,h8,h9⟩:=h
    obtain ⟨k1,k2,k3⟩:=xI k h1 kc
    exact ⟨h0.trans k.length,k1,cur,vs,h2,h3,h4,h5,h6,(k2.rel h7).move (oM R n) k3,h8,h9⟩
  | _=>exact k.elim
 | _=>cases go' <;> exact k.elim
theorem pP.ids:∀ {l:List Nat} {ds:List Deferred},pP R l ds→∀ id∈l,id < R.obj.length
 | [],[],_,id,hi=>by simp at hi
 | x :: l,d :: ds,h,id,hi=>by
  obtain ⟨⟨b,h1,_⟩,h2⟩:=h
  rcases List.mem_cons.1 hi with rfl | hi
  ·exact bI h1
  ·exact pP.ids h2 id hi
 | [],_ :: _,h,_,_=>h.elim
 | _ :: _,[],h,_,_=>h.elim
theorem pP.cut {n:Nat}:∀ {l:List Nat} {ds:List Deferred},pP R l ds→(∀ id∈l,id < n)→pP (R.cut n) l ds
 | [],[],_,_=>trivial
 | x :: l,d :: ds,h,hi=>by
  obtain ⟨⟨b,h1,h3⟩,h2⟩:=h
  exact ⟨⟨b,jY.2 ⟨hi x (by simp),h1⟩,h3⟩,pP.cut h2 fun id hm=>hi id (by simp [hm])⟩
 | [],_ :: _,h,_=>h.elim
 | _ :: _,[],h,_=>h.elim
theorem uz {n:Nat} {tmps:Array Value} {ae base:bp} (hT:ob R w β ae tmps):∀ {l:List (Tmp × Nat × Nat)},GV ae l=true→ob (R.cut n) w β base tmps→ob (R.cut n) w β (oL l base) tmps
 | [],_,h=>h
 | (t,k,o) :: l,hl,h=>fun i hi=>by
  simp only [GV,Bool.and_eq_true] at hl
  simp only [oL] at hi ⊢
  by_cases e:t=i
  ·subst e
   rw [ba]
   have h1:=hl.1
   split at h1
   ·rename_i k' o' hk
    rw [Bool.and_eq_true] at h1
    have e1:=Nat.eq_of_beq_eq_true h1.1
    have e2:=Nat.eq_of_beq_eq_true h1.2
    subst e1 e2
    obtain ⟨c,q1,q2⟩:=hT t (by rw [hk]; simp)
    rw [hk] at q2
    exact ⟨c,q1,q2⟩
   ·cases h1
  ·rw [bA e] at hi ⊢
   exact uz hT hl.2 h i hi
theorem cq.CT {t:cq} {v:t.ps.T} (hs:aS s s') (h0:bi E R w β s a) (h:bi E R' w' β' s' a') (st:Step R w β s.boxes R' w' β' s'.boxes) (hd:t.dec s s'=some v) :
  bi E (R'.cut s.G.length) w' β' (t.st s v) a'∧Step R w β s.boxes (R'.cut s.G.length) w' β' (t.st s v).boxes:=by
 have hlen:=h0.g.len
 unfold cq.dec at hd
 cases dY:t.ok s s' with
 | false=>rw [dY] at hd; cases hd
 | true=>
 rw [dY] at hd
 simp only [cond_true] at hd
 unfold cq.ok at dY
 simp only [Bool.and_eq_true] at dY
 obtain ⟨⟨⟨⟨⟨k1,k2⟩,k3⟩,k4⟩,k5,k7,k8⟩,k6⟩:=dY
 obtain ⟨pre,CZ⟩:=hs.sl
 obtain ⟨preB,Sd⟩:=hs.bx
 rw [CZ,Db] at k1
 rw [Sd,Db] at k2
 have k3:=GW k3
 have k4:=Nat.eq_of_beq_eq_true k4
 split at hd
 ·rename_i la lb lc g1 g2 g3
  cases hv:t.ps.Iy (kp t.g lc) (la++(lb++lc)) with
  | none=>rw [hv] at hd; cases hd
  | some v'=>
  rw [hv] at hd
  simp only [Option.bind_some] at hd
  cases Ib:dh (t.pS v') t.g s.G s'.G with
  | false=>rw [Ib] at hd; cases hd
  | true=>
  rw [Ib] at hd
  cases hd
  have lsl:∀ {ts:List Tmp} {l:List AV},xz s'.ae ts=some l→l.length=ts.length:=by
   intro ts
   induction ts with
   | nil=>intro l hl; simp only [xz] at hl; cases hl; rfl
   | cons t ts ih=>
    intro l hl
    unfold xz at hl
    split at hl
    ·split at hl
     ·rename_i hr
      cases hl
      simp [ih hr]
     ·cases hl
    ·cases hl
  have lbx:∀ {bx:List (Nat × Nat)} {l:List AV},xA s'.boxes bx=some l→l.length=Bo bx:=by
   intro bx
   induction bx with
   | nil=>intro l hl; simp only [xA] at hl; cases hl; rfl
   | cons x bx ih=>
    obtain ⟨k,m⟩:=x
    intro l hl
    unfold xA at hl
    split at hl
    ·split at hl
     ·rename_i cs _ _ r hr
      cases hm:Nat.beq cs.length m with
      | false=>rw [hm] at hl; cases hl
      | true=>
       rw [hm] at hl
       cases hl
       simp only [Bo,List.length_append,ih hr,Nat.eq_of_beq_eq_true hm]
     ·cases hl
    ·cases hl
  obtain ⟨hw,hex⟩:=t.ps.NV _ hv
  have Se:t.pS v=t.ps.ko (kp t.g lc) v:=by
   unfold cq.pS
   congr 1
   funext i
   have hl:=hex.Xq.trans (t.ps.oJ (kp t.g lc) (fun _=>0) v)
   have Iv:=(hl.drop t.sl.length).drop (Bo t.bx)
   rw [← lsl g1,List.drop_left,← lbx g2,List.drop_left,lsl g1,lbx g2] at Iv
   exact (cJ t.g i Iv).symm
  have hu:aH s.G.length (t.pS v)=true:=by
   rw [Se,t.ps.Iz _ hv]
   exact t.ps.FB _ k5 _
  rw [← Se] at hw hex
  have Xv:∃ xa xb xc,t.pS v=xa++(xb++xc)∧cr la xa∧cr lb xb∧cr lc xc∧xa.length=la.length∧xb.length=lb.length∧Js lc xc:=by
   obtain ⟨xa,r,h1,h2,h3,h4⟩:=hw.split
   obtain ⟨xb,xc,rfl,h6,h7,h8⟩:=h3.split
   rw [h1] at hex
   obtain ⟨ya,yr,g1,_,g3,g4⟩:=hex.split
   obtain ⟨_,rfl⟩:=List.append_inj g1 (by rw [h4,g4])
   obtain ⟨yb,yc,k1,_,k3,k4⟩:=g3.split
   obtain ⟨_,rfl⟩:=List.append_inj k1 (by rw [h8,k4])
   exact ⟨xa,xb,xc,h1,h2,h6,h7,h4,h8,k3⟩
  obtain ⟨xa,xb,xc,hx,wa,wb,wc,la1,lb1,exc⟩:=Xv
  have hu':aH s.G.length xa=true∧aH s.G.length xb=true∧aH s.G.length xc=true:=by
   rw [hx,fg,fg] at hu
   simp only [Bool.and_eq_true] at hu
   exact ⟨hu.1,hu.2.1,hu.2.2⟩
  have e1:(t.pS v).drop t.sl.length=xb++xc:=by rw [hx,← lsl g1,← la1,List.drop_left]
  have e2:(xb++xc).drop (Bo t.bx)=xc:=by rw [← lbx g2,← lb1,List.drop_left]
  have sZ:xG s.G.length t.g xc:=by
   have hf:=((aO.De s.G.length _ t.ps v).drop t.sl.length).drop (Bo t.bx) (l:=(t.pS v).drop t.sl.length)
   rw [e1,e2] at hf
   exact fw t.g k7 hf
  have old:∀ {l:List AV} {cs:List Value},aK R w l cs→aH s.G.length l=true:=fun hr=>hr.under (by omega)
  have mv:=oM R' s.G.length
  have Zv:∀ k cs,dS s'.boxes k=some cs→xF R' w' β' k cs:=fun k cs hk=>h.b.box k cs hk
  have ZN:∀ k cs,dS (ux t.bx (xb++xc) s.boxes) k=some cs→xF (R'.cut s.G.length) w' β' k cs∧∃ eV,dS s'.boxes k=some eV:=fun k cs hk=>by
   refine Dd (K:=fun _=>False) Zv g2 wb hu'.2.1 (fun k cs _ h1 h2=>?_) k cs (fun h=>h) hk
   refine ⟨by rw [Sd]; exact Da h1 h2 k2,?_⟩
   obtain ⟨⟨vs,el,_,h4,_⟩,_⟩:=h0.b.box k cs h2
   exact old h4
  have stG:(t.st s v).G=dv (t.pS v) t.g s.G xc:=by simp only [cq.st,e1,e2]
  have stB:(t.st s v).boxes=ux t.bx (xb++xc) s.boxes:=by simp only [cq.st,e1]
  have stS:(t.st s v).ae=oL t.Wd (oK t.sl (xa++(xb++xc)) (xB t.W s.ae)):=by simp only [cq.st,hx]
  have ext:Ext R w (R'.cut s.G.length) w':=⟨st.ext.I,st.ext.cell,fun id ro hi=>by
   obtain ⟨lM,h1,h2⟩:=st.ext.obj id ro hi
   exact ⟨lM,jY.2 ⟨by have:=bI hi; omega,h1⟩,h2⟩,st.ext.lp⟩
  refine ⟨⟨⟨?_,fun id go ro h1 h2=>?_,fun i j ri rj b h1 h2=>h.g.inj i j ri rj b (jY.1 h1).2 (jY.1 h2).2,h.g.wf,fun g cs hg=>(h.g.cw g cs hg).move mv (cn _ (E.vX g cs hg)),h.g.lo⟩,?_,?_,?_,?_⟩,?_⟩
  ·rw [stG,cI,k4]
   have:=h.g.len
   have h3:s.G.length≤R'.obj.length:=by
    rcases Nat.lt_or_ge R'.obj.length s.G.length with bP | we
    ·exfalso
     have hx:R'.obj.length < R.obj.length:=by omega
     obtain ⟨lM,h1,_⟩:=st.ext.obj R'.obj.length R.obj[R'.obj.length] (by rw [aY]; exact List.getElem?_eq_getElem hx)
     have:=bI h1
     omega
    ·exact we
   simp [aj.cut]
   omega
  ·rw [stG] at h1
   obtain ⟨go',h3,h4⟩:=gE g3 wc exc ⟨sZ,k8⟩ hu'.2.2 Ib id go h1
   rcases h4 with h4 | ⟨Jn,h5,h4⟩
   ·exact (h.g.obj id go' ro h3 (jY.1 h2).2).gok h4
   ·have bP:=bI h5
    rw [← hlen] at bP
    obtain ⟨Sc,h6⟩:∃ Sc,nth R.obj id=some Sc:=⟨R.obj[id],by rw [aY]; exact List.getElem?_eq_getElem bP⟩
    obtain ⟨lM,h7,h8⟩:=ext.obj id Sc h6
    have:lM=ro:=Option.some.inj (h7.symm.trans h2)
    subst this
    exact gL.lok ext (h0.g.obj id Jn Sc h5 h6) h8 (h.g.obj id go' lM h3 (jY.1 h2).2) h4
  ·rw [stB]
   refine ⟨fun k cs hk=>(ZN k cs hk).1,fun k k' cs eV hk gl he=>?_⟩
   obtain ⟨_,c1,hc1⟩:=ZN k cs hk
   obtain ⟨_,c2,Km⟩:=ZN k' eV gl
   exact h.b.inj k k' c1 c2 hc1 Km he
  ·rw [stS]
   have hT:xC (R'.cut s.G.length) w' β' (fun _=>False) (oK t.sl (xa++(xb++xc)) (xB t.W s.ae)) a'.tmps:=by
    refine uy mv h.t g1 (l':=xa) (r:=lb++lc) (r':=xb++xc) (wa.append (wb.append wc)) la1.symm hu'.1 (xD fun i hi hn=>?_)
    have hi1:We t.sl t.W i=false:=by
     simp only [We,Bool.or_eq_false_iff]
     refine ⟨?_,?_⟩
     ·cases hc:Ni t.sl i with
      | false=>rfl
      | true=>exact absurd (.inr (.inl (Bp.1 hc))) hi
     ·cases hc:Ni t.W i with
      | false=>rfl
      | true=>exact absurd (.inl (Bp.1 hc)) hi
    have hk:=Br hi1 k1
    rw [← CZ] at hk
    obtain ⟨c,h1,h2⟩:=h.t i (by rw [hk]; exact hn)
    rw [hk] at h2
    refine ⟨c,h1,?_⟩
    obtain ⟨c0,_,h4⟩:=h0.t i hn
    revert h2 h4
    cases lk s.ae i with
    | none=>exact fun _ _=>trivial
    | lp k off=>exact fun h2 _=>h2
    | v x=>exact fun h2 h4=>Rel.move mv (Rel.under (by omega) h4) h2
   exact uz h.t k6 (fun i hi=>hT i (fun h=>h) hi)
  ·show a'.tmps.size=s.n
   rw [h.n,hs.n]
  ·show pP _ s.marks a'.defers
   have:=h.d
   rw [k3] at this
   exact this.cut fun id hid=>by have:=h0.d.ids id hid; omega
  ·refine ⟨ext,st.os,st.tape,st.output,st.size,st.bQ,fun b hb ho=>st.own b hb ?_,st.im⟩
   rcases ho with ho | ⟨k,cs,hk,rfl⟩
   ·exact .inl (Dc ho)
   ·rw [stB] at hk
    obtain ⟨_,c1,hc1⟩:=ZN k cs hk
    exact .inr ⟨k,c1,hc1,rfl⟩
 ·cases hd
end CT
end Go.Am
namespace Go.Am
open Go
def gO:bp→bp
 | []=>[]
 | .put d (.lp _ _) :: l=>.put d .none :: gO l
 | .put d x :: l=>.put d x :: gO l
 | .kill _ :: l=>gO l
def SV.zq:SV→SV
 | .lp _ _=>.none
 | x=>x
theorem tB (t:Nat):∀ l:bp,lk (gO l) t=(lk l t).zq
 | []=>rfl
 | .put d x :: l=>by
  cases x <;> simp only [gO] <;> by_cases e:d=t <;> first | (subst e; rw [ba,ba]; rfl) | (rw [bA e,bA e]; exact tB t l)
 | .kill d :: l=>by
  simp only [gO,lk]
  rw [tB t l]
  cases lk l t with
  | lp k off=>
   by_cases e:k=d
   ·subst e; simp [SV.zq]
   ·simp [mM e,SV.zq]
  | _=>rfl
theorem nq:∀ l:bp,Gq (gO l)=true
 | []=>rfl
 | .put d x :: l=>by
  cases x <;> simp only [gO,Gq] <;> exact nq l
 | .kill d :: l=>by simp only [gO]; exact nq l
def rfQ (E:Env) (Q:Exit→St→Prop) (s:St) (G':List GO):Prop:=
 match nth G' (s.G.length+1) with
 | some (.loop busy pending _ _ _ _ _ _ _ done)=>(busy=false∨done=true) ∧
  match pending with
  | none=>Q .normal ⟨s.ae,s.boxes,ap G' (s.G.length+1) .dead,s.G.length :: s.marks,s.ro,s.n⟩
  | some c=>fF E c Q ⟨s.ae,s.boxes,ap G' (s.G.length+1) .dead,s.G.length :: s.marks,s.ro,s.n⟩
 | _=>False
theorem FC {busy done:Bool} (h:busy=false∨done=true):(if done=true then LoopState.done else if busy=true then LoopState.busy else LoopState.ready)≠LoopState.busy:=by
 rcases h with rfl | rfl
 ·cases done <;> simp
 ·simp
theorem fF.rangeFunc {E:Env} {Q:Exit→St→Prop} {s:St} (fp:Nat) {g:Operand} {ps:Array Tmp} {assign body:Code} (bR:s.ro=none) {f:FuncId} {first cap:List AV} (hg:bS E s.ae g=.v (.fn f first cap))
  (h:cO E f (first++[.yield (s.G.length+1)]++cap) (s.G++[.defers true]++[.loop false none fp (gO s.ae) s.n ps.toList assign body s.G.length false]) (fun _ G'=>rfQ E Q s G')) :
  fF E (.rangeFunc g ps assign body) Q s:=fun R w β a F hr hf=>by
 rw [bR] at hf
 have W6:F=Fence.wide:=hf
 subst W6
 refine wpIn_rangeFunc fun fn _=>?_
 have rg:=aR hr g
 rw [hg] at rg
 have rg':Rel R w (.fn f first cap) (a.eval g):=rg
 -- the block for the deferred calls
 have Kf:gL (R.add (.b0 w.heap.size)) (w.alloc (.deferred (some []))) (.defers true) (.b0 w.heap.size):=heap_alloc_new w _
 have h1:=hr.mQ (.deferred (some [])) (.defers true) (.b0 w.heap.size) (by exact fun _ h=>h) Kf
 have s1:=dA hr (.deferred (some [])) (.b0 w.heap.size) (by exact fun _ h=>h)
 have ej:(w.alloc (.deferred (some []))).heap.size=w.heap.size+1:=by simp
 generalize hw1:w.alloc (.deferred (some []))=w1 at *
 generalize hR1:R.add (.b0 w.heap.size)=R1 at *
 -- the loop's record
 let vb:Loop:={ state:=.ready,pending:=none,fn:=fn,tmps:=a.tmps,params:=ps,assign:=assign,body:=body,defers:=w.heap.size }
 have JZ:nth R1.obj s.G.length=some (.b0 w.heap.size):=by rw [← hR1]; exact ik hr _
 have e2:Ext R1 w1 (R1.add (.b0 w1.heap.size)) (w1.alloc (.loop vb)):=ij h1.g.wf _ _
 have hd2:gL (R1.add (.b0 w1.heap.size)) (w1.alloc (.loop vb)) (.loop false none fp (gO s.ae) s.n ps.toList assign body s.G.length false) (.b0 w1.heap.size):=by
  refine ⟨⟨vb,w.heap.size,heap_alloc_new w1 _,rfl,rfl,fun i hi=>?_,hr.n,by simp [vb],rfl,rfl,rfl,e2.b0 JZ⟩,nq _⟩
  rw [tB] at hi ⊢
  have cL:lk s.ae i≠.none:=fun e=>hi (by rw [e]; rfl)
  obtain ⟨c,k1,k2⟩:=hr.t i cL
  refine ⟨c,k1,?_⟩
  cases hx:lk s.ae i with
  | none=>exact absurd hx cL
  | lp k off=>rw [hx] at hi; exact absurd rfl hi
  | v x=>
   rw [hx] at k2
   exact Rel.mono (s1.ext.trans e2) (show Rel R w x c from k2)
 have h2:=h1.mQ (.loop vb) (.loop false none fp (gO s.ae) s.n ps.toList assign body s.G.length false) (.b0 w1.heap.size) (by exact fun _ h=>h) hd2
 have s2:=dA h1 (.loop vb) (.b0 w1.heap.size) (by exact fun _ h=>h)
 have Xw:nth (R1.add (.b0 w1.heap.size)).obj (s.G.length+1)=some (.b0 w1.heap.size):=by
  have:=ik h1 (.b0 w1.heap.size)
  simpa [St.dP] using this
 have st:=s1.trans s2
 generalize hR2:R1.add (.b0 w1.heap.size)=R2 at *
 generalize Xf:a.eval g=fv at rg'
 cases rg' with
 | @fn _ _ _ vs us q1 q2=>
 refine ⟨w.heap.size+1,[{ target:=.collected w.heap.size,args:=#[] }],w1.alloc (.loop vb),{ target:=.fn (.func f) ⟨us⟩,args:=⟨vs⟩++#[.func (.yield (w.heap.size+1)) #[] #[]] },w1.alloc (.loop vb),f,
  ⟨vs++[.func (.yield (w.heap.size+1)) #[] #[]]++us⟩,w1.alloc (.loop vb),?_,?_,?_,?_,?_,?_⟩
 ·have:Fence.wide.round=none:=rfl
  rw [this,run_enterLoop_outer,hw1]
 ·simp only [resolve,Xf,Deferred.ofValue,Sem.run_pure]
  simp [Act.eval]
 ·intro f' _
  exact trivial
 ·have:=na (P:=E.P) h.1 (⟨vs++[.func (.yield (w.heap.size+1)) #[] #[]]++us⟩) (w1.alloc (.loop vb))
  simpa [invoke] using this
 ·intro hc; cases hc
 ·have hG:(s.dP (.defers true)).dP (.loop false none fp (gO s.ae) s.n ps.toList assign body s.G.length false)=s.bY (s.G++[.defers true]++[.loop false none fp (gO s.ae) s.n ps.toList assign body s.G.length false]):=rfl
  have ZO:Rel R2 (w1.alloc (.loop vb)) (.yield (s.G.length+1)) (.func (.yield (w.heap.size+1)) #[] #[]):=by
   rw [← ej]
   exact .yield Xw
  refine (h.2 R2 (w1.alloc (.loop vb)) _ h2.g ((((q1.mono st.ext).append (.one ZO)).append (q2.mono st.ext)))).mono ?_
  intro e w3 he
  cases e with
  | panicked c=>exact he.elim
  | outgrown=>exact he.elim
  | returned c=>
   obtain ⟨r,G',R3,hQ,dZ,hg3,st3⟩:=he
   obtain ⟨p1,p2⟩:=h2.tq hg3 st3
   unfold rfQ at hQ
   split at hQ
   ·rename_i busy pending ff sl nn pp rZ bd dd done Tq
    obtain ⟨hbd,hQ⟩:=hQ
    have Xx:nth R3.obj (s.G.length+1)=some (.b0 w1.heap.size):=st3.ext.b0 Xw
    obtain ⟨⟨r3,db,l1,l2,l3,_,_,_,_,_,_,_⟩,_⟩:=p1.g.obj _ _ _ Tq Xx
    have Tr:r3.state≠.busy:=by rw [l2]; exact FC hbd
    have l1':w3.heap[w.heap.size+1]?=some (.loop r3):=by rw [← ej]; exact l1
    refine ⟨r3.pending,_,run_endLoop l1' Tr,?_⟩
    rw [l3]
    -- the record is dead
    have Xy:nth R3.obj s.G.length=some (.b0 w.heap.size):=st3.ext.b0 (by rw [← hR2] at e2 ⊢; exact e2.b0 JZ)
    have key:∀ x:Obj,po x→(∀ r,Obj.loop r3=.loop r→∃ r',x=.loop r'∧rE r r')→bi E R3 (World.put w3 w1.heap.size x) β ⟨s.ae,s.boxes,ap G' (s.G.length+1) .dead,s.G.length :: s.marks,s.ro,s.n⟩ { a with defers:=[{ target:=.collected w.heap.size,args:=#[] }]++a.defers }∧Step R w β s.boxes R3 (World.put w3 w1.heap.size x) β s.boxes:=fun x hx hlx=>by
     obtain ⟨z1,z2⟩:=p1.setObj (x':=x) (go':=.dead) Xx l1 trivial hx hlx (show w1.heap.size < _ by simp [World.put]; exact bo l1)
     exact ⟨⟨z1.g,z1.b,z1.t,z1.n,⟨⟨w.heap.size,Xy,rfl⟩,z1.d⟩⟩,(st.trans p2).trans z2⟩
    obtain ⟨z1,z2⟩:=key (.loop { r3 with state:=.exhausted,pending:=pending }) trivial (fun r e=>⟨_,rfl,by cases e; exact ⟨rfl,rfl,rfl,rfl,rfl⟩⟩)
    rw [ej] at z1 z2
    cases pending with
    | none=>exact ⟨_,R3,β,hQ,z1,z2,rfl⟩
    | some c=>
     refine wpIn_mono (hQ R3 _ β _ Fence.wide z1 (by show bM R3 s.ro Fence.wide; rw [bR]; rfl)) ?_
     rintro e a'' RS ⟨EZ,Nw,V9,Tc,Be,uo,z7⟩
     exact ⟨EZ,Nw,V9,Tc,Be,z2.trans uo,z7⟩
   ·exact hQ.elim
def FD (id:Nat) (Q:Bool→List GO→Prop):Exit→St→Prop:=fun e s=>match nth s.G id with
 | some (.loop _ _ fn sl n ps rZ bd d _)=>match e with
  | .normal=>Q true (ap s.G id (.loop false none fn sl n ps rZ bd d false))
  | .ret=>Q false (ap s.G id (.loop false (some .ret) fn sl n ps rZ bd d true))
  | .exit i=>Q false (ap s.G id (.loop false (some (.exit i)) fn sl n ps rZ bd d true))
  | _=>False
 | _=>False
def Bs (E:Env) (id:Nat) (body:Code) (Q:Bool→List GO→Prop):Exit→St→Prop:=fun e s=>match e with
 | .normal=>match nth s.G id with
  | some (.loop false p fn sl n ps rZ bd d false)=>fF E body (FD id Q) (s.bY (ap s.G id (.loop true p fn sl n ps rZ bd d false)))
  | _=>False
 | _=>False
def xJ:List Tmp→List AV→bp→bp
 | t :: ts,a :: l,r=>xJ ts l (.put t (.v a) :: r)
 | _,_,r=>r
def St.round (id:Nat) (ae:bp) (n:Nat) (G:List GO):St:=⟨ae,[],G,[],some id,n⟩
theorem xK {R:aj} {w:World} {β:Nat→Nat}:∀ {ts:List Tmp} {l:List AV} {cs:List Value} {r:bp} {tmps:Array Value},ob R w β r tmps→aK R w l cs→l.length=ts.length→(∀ t∈ts,t < tmps.size) →
  ob R w β (xJ ts l r) ((ts.zip cs).foldl (fun tmps (t,a)=>tmps.setIfInBounds t a) tmps)
 | [],[],_,_,_,h,.nil,_,_=>h
 | t :: ts,a :: l,c :: cs,r,tmps,h,.cons hx hl,hlen,ht=>by
  have ej:t < tmps.size:=ht t (by simp)
  simp only [xJ,List.zip_cons_cons,List.foldl_cons]
  refine xK ?_ hl (by simpa using hlen) (fun t' h'=>by simpa using ht t' (by simp [h']))
  have:=ob.put (a:={ tmps:=tmps,defers:=[] }) h (d:=t) (x:=.v a) (c:=c) ej hx
  simpa [Act.put] using this
 | [],_ :: _,_,_,_,_,_,hlen,_=>by simp at hlen
 | _ :: _,[],_,_,_,_,_,hlen,_=>by simp at hlen
theorem FE (l:List (Tmp × Value)):∀ tmps:Array Value,(l.foldl (fun (tmps:Array Value) (x:Tmp × Value)=>tmps.setIfInBounds x.1 x.2) tmps).size=tmps.size:=by
 induction l with
 | nil=>intro _; rfl
 | cons x l ih=>intro tmps; rw [List.foldl_cons,ih]; simp
theorem lA.intro {E:Env} {id:Nat} {args:List AV} {G:List GO} {Q:Bool→List GO→Prop} {fn:FuncId} {ae:bp} {n:Nat} {ps:List Tmp} {assign body:Code} {d:Nat} {p:Option Code}
  (hG:nth G id=some (.loop false p fn ae n ps assign body d false)) (hl:args.length=ps.length) (M9:∀ t∈ps,t < n)
  (h:fF E assign (Bs E id body Q) (St.round id (xJ ps args ae) n G)):lA E id args G Q:=fun R w cs b hg hr hb=>by
 obtain ⟨⟨r,db,l1,l2,l3,l4,l5,l6,l7,l8,l9,l10⟩,l11⟩:=hg.obj id _ _ hG hb
 have hlen:=hr.length
 refine ⟨r,l1,by rw [l6]; simp; omega,?_⟩
 have abj:Step R w (fun _=>0) eZ R w (fun _=>0) eZ:=Step.refl _ _ _ _
 have abk:bi E R w (fun _=>0) (St.round id (xJ ps args ae) n G) { tmps:=(r.params.zip ⟨cs⟩).foldl (fun tmps (t,a)=>tmps.setIfInBounds t a) r.tmps,defers:=[] }:=by
  have Xz:(r.params.zip ⟨cs⟩).foldl (fun (tmps:Array Value) (x:Tmp × Value)=>tmps.setIfInBounds x.1 x.2) r.tmps=(ps.zip cs).foldl (fun (tmps:Array Value) (x:Tmp × Value)=>tmps.setIfInBounds x.1 x.2) r.tmps:=by
   rw [← Array.foldl_toList]
   simp [l6]
  refine ⟨hg,⟨fun k cs hk=>?_,fun k k' c c' hk=>?_⟩,?_,?_,trivial⟩
  ·simp [St.round,dS] at hk
  ·simp [St.round,dS] at hk
  ·show ob _ _ _ _ _
   have:=xK (ts:=ps) (l:=args) (cs:=cs) l4 hr hl (fun t ht=>by rw [l5]; exact M9 t ht)
   rw [← Xz] at this
   exact this
  ·show _=n
   have:=FE (ps.zip cs) r.tmps
   rw [← Xz] at this
   exact this.trans l5
 have W9:∀ (k:Nat) (cs:List AV),dS (St.round id (xJ ps args ae) n G).boxes k≠some cs:=fun k cs hk=>by simp [St.round,dS] at hk
 rw [l7,l8]
 refine roundIn_of_wpIn trivial (wpIn_mono (h R w (fun _=>0) _ (Fence.wide.inRound b) abk ⟨b,hb,rfl⟩) ?_)
 rintro e a1 w1 ⟨s1,R1,β1,hq,Bb,st1,abl⟩
 unfold Bs at hq
 cases e with
 | normal=>
  simp only at hq
  split at hq
  ·rename_i p' fn' Wc n' Xt NY Wf d' hG1
   have Xk:nth R1.obj id=some (.b0 b):=st1.ext.b0 hb
   obtain ⟨⟨r1,db1,m1,m2,m3,m4,m5,m6,m7,m8,m9,m10⟩,m11⟩:=Bb.g.obj id _ _ hG1 Xk
   refine ⟨_,run_beginRound m1 m2,?_⟩
   obtain ⟨z1,z2⟩:=Bb.setObj (x':=.loop { r1 with state:=.busy }) (go':=.loop true p' fn' Wc n' Xt NY Wf d' false) Xk m1 trivial trivial (fun r e=>⟨_,rfl,by cases e; exact ⟨rfl,rfl,rfl,rfl,rfl⟩⟩)
    ⟨⟨{ r1 with state:=.busy },db1,gv _ _ _ (bo m1),rfl,m3,m4.mono (mV (x':=.loop { r1 with state:=.busy }) m1 trivial trivial (fun r e=>⟨_,rfl,by cases e; exact ⟨rfl,rfl,rfl,rfl,rfl⟩⟩)),m5,m6,m7,m8,m9,m10⟩,m11⟩
   refine wpIn_mono (hq R1 _ β1 a1 (Fence.wide.inRound b) z1 (by show bM R1 s1.ro _; rw [abl]; exact ⟨b,Xk,rfl⟩)) ?_
   rintro e2 a2 w2 ⟨s2,R2,β2,oh,CG,st2,IB⟩
   unfold FD at oh
   split at oh
   ·rename_i bu2 p2 ZP sl2 n2 ps2 as2 bd2 d2 dn2 Xh
    have XA:=(st1.trans z2).trans st2
    have Jq:nth R2.obj id=some (.b0 b):=XA.ext.b0 hb
    obtain ⟨⟨r2,db2,o1,o2,o3,o4,o5,o6,o7,o8,o9,Nj⟩,IC⟩:=CG.g.obj id _ _ Xh Jq
    have fin:∀ (j:Option Code),Bf E R w (fun b' G'=>G'=ap s2.G id (.loop false j ZP sl2 n2 ps2 as2 bd2 d2 (!j.isNone))∧b'=j.isNone) (.returned (.bool j.isNone)) (w2.putObj b (.loop { r2 with state:=if j.isNone then .ready else .done,pending:=j })):=fun j=>by
     obtain ⟨y1,y2⟩:=CG.setObj (x':=.loop { r2 with state:=if j.isNone then .ready else .done,pending:=j }) (go':=.loop false j ZP sl2 n2 ps2 as2 bd2 d2 (!j.isNone)) Jq o1 trivial trivial (fun r e=>⟨_,rfl,by cases e; exact ⟨rfl,rfl,rfl,rfl,rfl⟩⟩)
      ⟨⟨{ r2 with state:=if j.isNone then .ready else .done,pending:=j },db2,gv _ _ _ (bo o1),by cases j <;> rfl,rfl,o4.mono (mV (x':=.loop { r2 with state:=if j.isNone then .ready else .done,pending:=j }) o1 trivial trivial (fun r e=>⟨_,rfl,by cases e; exact ⟨rfl,rfl,rfl,rfl,rfl⟩⟩)),o5,o6,o7,o8,o9,Nj⟩,IC⟩
     exact ⟨_,_,R2,⟨rfl,rfl⟩,rfl,y1.g,wX (XA.trans y2) W9⟩
    have mk:∀ (j:Option Code),Q j.isNone (ap s2.G id (.loop false j ZP sl2 n2 ps2 as2 bd2 d2 (!j.isNone)))→∃ v w',(Instr.endRound b j).run E.P w2=.ok v w'∧Bf E R w Q (.returned v) w':=fun j hQ=>by
     refine ⟨_,_,run_endRound j o1,?_⟩
     obtain ⟨r',G',R',⟨h1,h2⟩,h3⟩:=fin j
     subst h1; subst h2
     exact ⟨_,_,R',hQ,h3⟩
    cases e2 with
    | normal=>exact mk none oh
    | ret=>exact mk (some .ret) oh
    | exit i=>exact mk (some (.exit i)) oh
    | _=>exact oh.elim
   ·exact oh.elim
  ·exact hq.elim
 | _=>exact hq.elim
end Go.Am
namespace Go.Am
open Go
section
variable {E:Env} {R R':aj} {w w':World} {β β':Nat→Nat} {s s':St} {a a':Act}
def ck (E:Env) (g:FuncId) (args:List AV) (Q:AV→Prop):Prop:=∀ G,cO E g args G (fun r G'=>G'=G∧Q r)
theorem ck.mono {g:FuncId} {args:List AV} {Q Q':AV→Prop} (h:ck E g args Q) (hq:∀ r,Q r→Q' r):ck E g args Q':=
 fun G=>(h G).mono fun r _ hh=>⟨hh.1,hq r hh.2⟩
theorem ck.of {g:FuncId} {args:List AV} {p:aA} {Q:p.T→Prop} (hc:aH 0 args=true) (hp:p.under 0=true)
  (h:cO E g args [] (fun r _=>∃ y,p.dec r=some y∧Q y)):ck E g args (fun r=>∃ y,r=p.enc y∧Q y):=fun G=>by
 refine ⟨h.1,fun R w cs hg hl=>?_⟩
 let R0:aj:=⟨R.I,[]⟩
 have m0:Mv R R0 0:=⟨fun _ _ h=>h,fun _ _ h=>absurd h (Nat.not_lt_zero _)⟩
 have RW:dE E R0 w []:=⟨rfl,fun id go ro h1 _=>by simp [nth] at h1,fun i j ri rj b h1=>by simp [R0,nth] at h1,hg.wf,fun g cs qw=>(hg.cw g cs qw).move m0 (cn _ (E.vX g cs qw)),hg.lo⟩
 have vu:aK R0 w args cs:=hl.move m0 hc
 refine (h.2 R0 w cs RW vu).mono fun e w' he=>?_
 cases e with
 | panicked c=>exact he.elim
 | outgrown=>exact he.elim
 | returned c=>
  obtain ⟨r,G',R1,⟨y,hy,hQ⟩,dZ,NZ,st⟩:=he
  have kU:∀ b,¬ Own R0 (fun _=>0) eZ b:=fun b ho=>by
   obtain ⟨id,ro,h1,_⟩:=eB ho
   simp [R0,nth] at h1
  let R2:aj:=⟨R1.I,R.obj⟩
  have e:Ext R w R2 w':=⟨st.ext.I,st.ext.cell,fun id ro h=>⟨ro,h,cm.refl ro⟩,st.ext.lp⟩
  have bQ:∀ b,b < w.heap.size→w'.heap[b]?=w.heap[b]?:=fun b hb=>st.bQ b hb (kU b)
  have im:∀ b o,b < w.heap.size→R1.I b o→R.I b o:=fun b o hb hi=>st.im b o hi hb (kU b)
  have hd:=p.qu hy
  have m:Mv R1 R2 0:=⟨fun _ _ h=>h,fun _ _ h=>absurd h (Nat.not_lt_zero _)⟩
  refine ⟨p.enc y,G,R2,⟨rfl,y,rfl,hQ⟩,Rel.move m (p.de y hp) (hd.fx _ _ _ dZ),⟨hg.len,fun id go ro h1 h2=>?_,hg.inj,NZ.wf,fun g cs qw=>(hg.cw g cs qw).mono e,NZ.lo⟩,⟨e,st.os,st.tape,st.output,st.size,fun b hb _=>bQ b hb,fun b _ ho=>?_,fun b o hi hb _=>im b o hb hi⟩⟩
  ·refine (hg.obj id go ro h1 h2).mono e (fun b hb=>bQ b ?_) (fun b o hb hi=>im b o ?_ hi)
   ·exact (hg.obj id go ro h1 h2).lt hb
   ·exact (hg.obj id go ro h1 h2).lt hb
  ·exact ho
theorem fF.abr {c:Code} {Q Q':Exit→St→Prop} (h:fF E c (fun e s'=>aS s s'∧Q' e s') s)
  (hq:∀ e s',Q' e s'→∃ (t:cq) (v:t.ps.T),t.dec s s'=some v∧Q e (t.st s v)):fF E c Q s:=fun R w β a F hr hf=>by
 refine wpIn_mono (h R w β a F hr hf) ?_
 rintro e a' w' ⟨s',R',β',⟨hx,hq'⟩,lr,kf,bR⟩
 obtain ⟨t,v,hd,hQ⟩:=hq e s' hq'
 obtain ⟨h1,h2⟩:=cq.CT hx hr lr kf hd
 exact ⟨_,_,β',hQ,h1,h2,rfl⟩
theorem fF.gN {c:Code} {Q:Exit→St→Prop} {l:List (Loc × Nat × TypeId)} (hs:Am.gN l s=some s') (h:fF E c Q s'):fF E c Q s:=fun R w β a F hr hf=>by
 obtain ⟨R1,k1,k2,k3,_⟩:=kj hr hs
 refine wpIn_mono (h R1 w β a F k1 (by rw [k3]; exact hf.mono k2.ext)) ?_
 rintro e a' w' ⟨s2,R2,β2,hq,CG,st2,IB⟩
 exact ⟨s2,R2,β2,hq,CG,k2.trans st2,IB.trans k3⟩
end
end Go.Am
