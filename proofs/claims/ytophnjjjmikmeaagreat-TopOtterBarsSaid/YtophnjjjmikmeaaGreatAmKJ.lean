/- The abstract machine: what is asked of bodies; values are brought to a short form. -/
import Derived.Test.YtophnjjjmikmeaaGreatAmKI
set_option linter.all false
namespace Go.Am
open Go
def bA (dt:Nat→Option ak):Code→Bool
 | .region id ops true=>match dt id with
  | some p=>E0 ops p
  | none=>false
 | .seq x y=>bA dt x&&bA dt y
 | .cond _ x y=>bA dt x&&bA dt y
 | .block _ c=>bA dt c
 | .loop c=>bA dt c
 | .scope c=>bA dt c
 | .rangeFunc _ _ a b=>bA dt a&&bA dt b
 | _=>true
structure MW extends Env where
 dt:FuncId→Nat→Option ak
 okF:FuncId→Bool
 Pf:∀ f fn c,okF f=true→P.funcs[f]?=some fn→fn.body=some c→bA (dt f) c=true
def jc {α:Type} (n:Nat) (K:Nat→α):α:=match n with
 | 0=>K 0
 | m+1=>K (Nat.succ m)
def wG {α:Type} (n:Int) (K:Int→α):α:=match n with
 | .ofNat m=>jc m fun m=>K (.ofNat m)
 | .negSucc m=>jc m fun m=>K (.negSucc m)
def nN {α β:Type}:List β→(List β→α)→α
 | [],K=>K []
 | a :: l,K=>nN l fun l=>K (a :: l)
def AZ {α:Type} (v:AV) (K:AV→α):α:=match v with
 | .int k n=>wG n fun n=>K (.int k n)
 | .bool true=>K (.bool true)
 | .bool false=>K (.bool false)
 | .list k sz es=>nN es fun es=>K (.list k sz es)
 | .str l=>nN l fun l=>K (.str l)
 | .iy id off sz len cap=>jc off fun off=>jc len fun len=>jc cap fun cap=>K (.iy id off sz len cap)
 | .ptr id off=>jc off fun off=>K (.ptr id off)
 | .agg cs=>nN cs fun cs=>K (.agg cs)
 | v=>K v
def A0 {α:Type} (l:a8) (K:a8→α):α:=match l with
 | .put d (.v a) :: l=>AZ a fun a=>K (.put d (.v a) :: l)
 | .put d (.lp k off) :: l=>jc off fun off=>K (.put d (.lp k off) :: l)
 | l=>K l
def A1 {α:Type} (l:cp) (K:cp→α):α:=match l with
 | (d,cs) :: l=>nN cs fun cs=>K ((d,cs) :: l)
 | []=>K []
def E4 {α:Type} (s:St) (K:St→α):α:=match s with
 | ⟨sl,bx,G,m,ro,n⟩=>A0 sl fun sl=>A1 bx fun bx=>nN G fun G=>K ⟨sl,bx,G,m,ro,n⟩
theorem nO {α:Type} (n:Nat) (K:Nat→α):jc n K=K n:=by cases n <;> rfl
theorem CM {α:Type} (n:Int) (K:Int→α):wG n K=K n:=by cases n <;> simp [wG,nO]
theorem oB {α β:Type}:∀ (l:List β) (K:List β→α),nN l K=K l
 | [],_=>rfl
 | a :: l,K=>by simp only [nN]; rw [oB]
theorem E5 {α:Type} (v:AV) (K:AV→α):AZ v K=K v:=by
 unfold AZ
 split <;> simp [nO,CM,oB]
theorem E6 {α:Type} (l:a8) (K:a8→α):A0 l K=K l:=by
 unfold A0
 split <;> simp [nO,E5]
theorem E7 {α:Type} (l:cp) (K:cp→α):A1 l K=K l:=by
 unfold A1
 split <;> simp [oB]
theorem H3 {α:Type} (s:St) (K:St→α):E4 s K=K s:=by
 obtain ⟨sl,bx,G,m,ro,n⟩:=s
 simp [E4,E6,E7,oB]
def A2:SV→SV→Bool
 | .v a,.v b=>dI a b
 | .lp k o,.lp k' o'=>Nat.beq k k'&&Nat.beq o o'
 | _,_=>false
def WM (E:Env) (f:FuncId) (ops:List Oper) (o:Oper) (s:St):Bool:=match BQ ops s o with
 | some true=>match o.dst,ao E f s o with
  | some d,some (c,s')=>c&&A2 (lk s'.ae d) (lk s.ae d)
  | _,_=>false
 | some false=>true
 | none=>false
section
variable {E:Env} {f:FuncId} {s:St}
theorem zI {a b:SV} (h:A2 a b=true):a=b:=by
 unfold A2 at h
 split at h
 ·rw [ia h]
 ·simp only [Bool.and_eq_true,Nat.beq_eq] at h; rw [h.1,h.2]
 ·cases h
theorem zJ {ops:List Oper} {o:Oper} (h:WM E f ops o s=true):EP E f ops o s:=by
 unfold WM at h
 unfold EP
 split at h
 ·rename_i hg
  rw [hg]
  simp only
  split at h
  ·rename_i d c s' hd hs
   rw [Bool.and_eq_true] at h
   obtain ⟨rfl,h⟩:=h
   rw [hd,hs]
   exact ⟨rfl,zI h⟩
  ·cases h
 ·rename_i hg
  rw [hg]
  trivial
 ·cases h
end
end Go.Am
namespace Go.Am
open Go
mutual
def AV.under (n:Nat):AV→Bool
 | .agg cs=>aF n cs
 | .bF cs=>aF n cs
 | .ep cs=>aF n cs
 | .list (.own id) _ _=>Nat.blt id n
 | .list (.aM id _) _ _=>Nat.blt id n
 | .fn _ x y=>aF n x&&aF n y
 | .iface _ v=>v.under n
 | .ptr id _=>Nat.blt id n
 | .iy id _ _ _ _=>Nat.blt id n
 | .cT id _ _ _ _=>Nat.blt id n
 | .gp id _ _ _ _ _=>Nat.blt id n
 | .gk id _ _ _=>Nat.blt id n
 | .rp id _ _ _ _ _ _=>Nat.blt id n
 | .map id=>Nat.blt id n
 | .yield id=>Nat.blt id n
 | _=>true
def aF (n:Nat):List AV→Bool
 | []=>true
 | a :: l=>a.under n&&aF n l
end
mutual
theorem fV (n:Nat):∀ {a:AV},a.closed=true→a.under n=true:=fun {a} h=>by
 cases a with
 | agg cs=>simp only [AV.closed,AV.under] at *; exact cm n h
 | bF cs=>simp only [AV.closed,AV.under] at *; exact cm n h
 | ep cs=>simp only [AV.closed,AV.under] at *; exact cm n h
 | list k sz es=>cases k <;> simp_all [AV.closed,AV.under,LK.closed]
 | fn f x y=>
  simp only [AV.closed,AV.under,Bool.and_eq_true] at *
  exact ⟨cm n h.1,cm n h.2⟩
 | iface t v=>simp only [AV.closed,AV.under] at *; exact fV n h
 | _=>simp_all [AV.closed,AV.under]
theorem cm (n:Nat):∀ {l:List AV},ay l=true→aF n l=true
 | [],_=>rfl
 | a :: l,h=>by
  simp only [ay,aF,Bool.and_eq_true] at *
  exact ⟨fV n h.1,cm n h.2⟩
end
theorem kW {a b:Nat} (h:Nat.blt a b=true):a < b:=Nat.le_of_ble_eq_true h
mutual
theorem lz:∀ {a:AV},a.under 0=true→a.closed=true:=fun {a} h=>by
 cases a with
 | agg cs=>simp only [AV.closed,AV.under] at *; exact eE h
 | bF cs=>simp only [AV.closed,AV.under] at *; exact eE h
 | ep cs=>simp only [AV.closed,AV.under] at *; exact eE h
 | list k sz es=>cases k <;> first | rfl | (simp [AV.under] at h)
 | fn f x y=>
  simp only [AV.closed,AV.under,Bool.and_eq_true] at *
  exact ⟨eE h.1,eE h.2⟩
 | iface t v=>simp only [AV.closed,AV.under] at *; exact lz h
 | ptr id off=>simp only [AV.under] at h; exact absurd (kW h) (Nat.not_lt_zero _)
 | iy id off sz len cap=>simp only [AV.under] at h; exact absurd (kW h) (Nat.not_lt_zero _)
 | cT id f off sz len=>simp only [AV.under] at h; exact absurd (kW h) (Nat.not_lt_zero _)
 | gp id f i off sz t=>simp only [AV.under] at h; exact absurd (kW h) (Nat.not_lt_zero _)
 | gk id j sz len=>simp only [AV.under] at h; exact absurd (kW h) (Nat.not_lt_zero _)
 | rp id j f i off sz t=>simp only [AV.under] at h; exact absurd (kW h) (Nat.not_lt_zero _)
 | map id=>simp only [AV.under] at h; exact absurd (kW h) (Nat.not_lt_zero _)
 | yield id=>simp only [AV.under] at h; exact absurd (kW h) (Nat.not_lt_zero _)
 | _=>rfl
theorem eE:∀ {l:List AV},aF 0 l=true→ay l=true
 | [],_=>rfl
 | a :: l,h=>by
  simp only [aF,ay,Bool.and_eq_true] at *
  exact ⟨lz h.1,eE h.2⟩
end
section move
variable {R R2:af} {w:World} {n:Nat}
structure Mv (R R2:af) (n:Nat):Prop where
 I:∀ b o,R.I b o→R2.I b o
 obj:∀ id ro,id < n→nth R.obj id=some ro→nth R2.obj id=some ro
theorem gH {a b:Nat} (h:Nat.blt a b=true):a < b:=Nat.le_of_ble_eq_true h
theorem ig {a b:Nat} (h:a < b):Nat.blt a b=true:=Nat.ble_eq_true_of_le h
theorem As.move (m:Mv R R2 n) {k:LK} {b o len cap:Nat} (h:As R k b o len cap) (hk:∀ id,(k=.own id∨∃ j,k=.aM id j)→id < n):As R2 k b o len cap:=by
 cases k with
 | nil=>exact h
 | full=>exact h
 | gX=>trivial
 | own id=>obtain ⟨ro,h1,h2⟩:=h; exact ⟨ro,m.obj id ro (hk id (.inl rfl)) h1,h2⟩
 | aM id j=>obtain ⟨ro,h1,h2⟩:=h; exact ⟨ro,m.obj id ro (hk id (.inr ⟨j,rfl⟩)) h1,h2⟩
mutual
theorem Rel.move (m:Mv R R2 n):∀ {a:AV} {c:Value},a.under n=true→Rel R w a c→Rel R2 w a c
 | _,_,_,.bool b=>.bool b
 | _,_,_,.int k i=>.int k i
 | _,_,_,.str l=>.str l
 | _,_,hb,.agg h h1=>.agg (h.move m (by simpa [AV.under] using hb)) h1
 | _,_,hb,.bF h=>.bF (h.move m (by simpa [AV.under] using hb))
 | _,_,_,.iS=>.iS
 | _,_,hb,.ptr h=>.ptr (m.obj _ _ (gH (by simpa [AV.under] using hb)) h)
 | _,_,hb,.ep h=>.ep (h.move m (by simpa [AV.under] using hb))
 | _,_,_,.iC=>.iC
 | _,_,_,.hZ=>.hZ
 | _,_,_,.lj=>.lj
 | _,_,hb,.jY h ho=>.jY (m.obj _ _ (gH (by simpa [AV.under] using hb)) h) ho
 | _,_,hb,.kH h ho=>.kH (m.obj _ _ (gH (by simpa [AV.under] using hb)) h) ho
 | .list k sz es,_,hb,.list h hl hc hk=>.list (h.move m) hl hc (hk.move m fun id e=>by rcases e with e | ⟨j,e⟩ <;> subst e <;> exact gH (by simpa [AV.under] using hb))
 | _,_,hb,.iy h hc=>.iy (m.obj _ _ (gH (by simpa [AV.under] using hb)) h) hc
 | _,_,hb,.gT h ho=>.gT (m.obj _ _ (gH (by simpa [AV.under] using hb)) h) ho
 | _,_,hb,.cT h ho hc=>.cT (m.obj _ _ (gH (by simpa [AV.under] using hb)) h) ho hc
 | _,_,hb,.gp h ho=>.gp (m.obj _ _ (gH (by simpa [AV.under] using hb)) h) ho
 | _,_,hb,.qq h ho=>.qq (m.obj _ _ (gH (by simpa [AV.under] using hb)) h) ho
 | _,_,hb,.gk h ho hc=>.gk (m.obj _ _ (gH (by simpa [AV.under] using hb)) h) ho hc
 | _,_,hb,.rp h ho=>.rp (m.obj _ _ (gH (by simpa [AV.under] using hb)) h) ho
 | _,_,_,.lh=>.lh
 | _,_,hb,.map h=>.map (m.obj _ _ (gH (by simpa [AV.under] using hb)) h)
 | _,_,_,.dB=>.dB
 | _,_,hb,.fn h h'=>.fn (h.move m (by simp only [AV.under,Bool.and_eq_true] at hb; exact hb.1)) (h'.move m (by simp only [AV.under,Bool.and_eq_true] at hb; exact hb.2))
 | _,_,hb,.yield h=>.yield (m.obj _ _ (gH (by simpa [AV.under] using hb)) h)
 | _,_,_,.mV=>.mV
 | _,_,hb,.iface h=>.iface (h.move m (by simpa [AV.under] using hb))
theorem aC.move (m:Mv R R2 n):∀ {l:List AV} {cs:List Value},aC R w l cs→aF n l=true→aC R2 w l cs
 | _,_,.nil,_=>.nil
 | _,_,.cons h t,hb=>by
  simp only [aF,Bool.and_eq_true] at hb
  exact .cons (h.move m hb.1) (t.move m hb.2)
theorem fM.move (m:Mv R R2 n):∀ {b o sz:Nat} {l:List AV},fM R w b o sz l→fM R2 w b o sz l
 | _,_,_,_,.nil=>.nil
 | _,_,_,_,@fM.cons _ _ _ _ _ e _ hl ht hk h t=>.cons hl ht hk (h.move m (by
   cases e with
   | agg cs=>exact cm n (show ay cs=true by simpa [AV.closed] using hk)
   | bF cs=>simp [AV.aN] at ht
   | _=>simp only [AV.cells,aF,Bool.and_true]; exact fV n hk)) (t.move m)
theorem dZ.move (m:Mv R R2 n):∀ {b o:Nat} {l:List AV},dZ R w b o l→aF n l=true→dZ R2 w b o l
 | _,_,_,.nil,_=>.nil
 | _,_,_,.cons hc h1 hi h t,hb=>by
  simp only [aF,Bool.and_eq_true] at hb
  exact .cons hc h1 (m.I _ _ hi) (h.move m hb.1) (t.move m hb.2)
end
theorem ln.move {E:Env} (m:Mv R R2 n) {g:Nat} {cs:List AV} (h:ln E R w g cs) (hu:aF n cs=true):ln E R2 w g cs:=
 ⟨h.1.move m hu,fun hx=>⟨m.I _ _ (h.2 hx).1,(h.2 hx).2⟩⟩
mutual
theorem Rel.under (hn:R.obj.length≤n):∀ {a:AV} {c:Value},Rel R w a c→a.under n=true
 | _,_,.bool _ | _,_,.int _ _ | _,_,.str _ | _,_,.iS | _,_,.iC | _,_,.hZ | _,_,.lj | _,_,.lh | _,_,.dB | _,_,.mV=>by simp [AV.under]
 | _,_,.agg h _=>by simp only [AV.under]; exact h.under hn
 | _,_,.bF h=>by simp only [AV.under]; exact h.under hn
 | _,_,.ptr h=>by simp only [AV.under]; exact ig (Nat.lt_of_lt_of_le (aT h) hn)
 | _,_,.ep h=>by simp only [AV.under]; exact h.under hn
 | _,_,.jY h _=>by simp only [AV.under]; exact ig (Nat.lt_of_lt_of_le (aT h) hn)
 | _,_,.kH h _=>by simp only [AV.under]; exact ig (Nat.lt_of_lt_of_le (aT h) hn)
 | _,_,@Rel.list _ _ k _ _ _ _ _ _ _ _ _ hk=>by
  cases k with
  | own id=>obtain ⟨ro,h1,_⟩:=hk; simp only [AV.under]; exact ig (Nat.lt_of_lt_of_le (aT h1) hn)
  | aM id j=>obtain ⟨ro,h1,_⟩:=hk; simp only [AV.under]; exact ig (Nat.lt_of_lt_of_le (aT h1) hn)
  | _=>simp [AV.under]
 | _,_,.iy h _=>by simp only [AV.under]; exact ig (Nat.lt_of_lt_of_le (aT h) hn)
 | _,_,.gT h _=>by simp only [AV.under]; exact ig (Nat.lt_of_lt_of_le (aT h) hn)
 | _,_,.cT h _ _=>by simp only [AV.under]; exact ig (Nat.lt_of_lt_of_le (aT h) hn)
 | _,_,.gp h _=>by simp only [AV.under]; exact ig (Nat.lt_of_lt_of_le (aT h) hn)
 | _,_,.qq h _=>by simp only [AV.under]; exact ig (Nat.lt_of_lt_of_le (aT h) hn)
 | _,_,.gk h _ _=>by simp only [AV.under]; exact ig (Nat.lt_of_lt_of_le (aT h) hn)
 | _,_,.rp h _=>by simp only [AV.under]; exact ig (Nat.lt_of_lt_of_le (aT h) hn)
 | _,_,.map h=>by simp only [AV.under]; exact ig (Nat.lt_of_lt_of_le (aT h) hn)
 | _,_,.fn h h'=>by simp only [AV.under,Bool.and_eq_true]; exact ⟨h.under hn,h'.under hn⟩
 | _,_,.yield h=>by simp only [AV.under]; exact ig (Nat.lt_of_lt_of_le (aT h) hn)
 | _,_,.iface h=>by simp only [AV.under]; exact h.under hn
theorem aC.under (hn:R.obj.length≤n):∀ {l:List AV} {cs:List Value},aC R w l cs→aF n l=true
 | _,_,.nil=>rfl
 | _,_,.cons h t=>by simp only [aF,Bool.and_eq_true]; exact ⟨h.under hn,t.under hn⟩
theorem dZ.under (hn:R.obj.length≤n):∀ {b o:Nat} {l:List AV},dZ R w b o l→aF n l=true
 | _,_,_,.nil=>rfl
 | _,_,_,.cons _ _ _ h t=>by simp only [aF,Bool.and_eq_true]; exact ⟨h.under hn,t.under hn⟩
end
end move
end Go.Am
namespace Go.Am
open Go
mutual
def aj.under (n:Nat):aj→Bool
 | .agg ps=>ps.under n
 | .bF ps=>ps.under n
 | .own id _ _=>Nat.blt id n
 | .aM id _ _=>Nat.blt id n
 | .gk id _=>Nat.blt id n
 | .mN v=>v.under n
 | .two u v=>u.under n&&v.under n
 | _=>true
def aK.under (n:Nat):aK→Bool
 | .nil=>true
 | .cons p ps=>p.under n&&ps.under n
end
mutual
theorem aj.dj {n:Nat}:∀ (p:aj) (x:p.T),p.under n=true→(p.enc x).under n=true
 | .int k,x,_=>by simp [aj.enc,AV.under]
 | .bool,x,_=>by simp [aj.enc,AV.under]
 | .str,x,_=>by simp [aj.enc,AV.under]
 | .agg ps,x,h=>by
  simp only [aj.enc,AV.under]
  exact ps.dj x h
 | .bF ps,x,h=>by
  simp only [aj.enc,AV.under]
  exact ps.dj x h
 | .list sz p,x,_=>by simp [aj.enc,AV.under]
 | .own id sz p,x,h=>by
  simp only [aj.enc,AV.under]
  exact h
 | .aM id sz p,x,h=>by
  simp only [aj.enc,AV.under]
  exact h
 | .gk id sz,(x:Nat × Nat),h=>by
  simp only [aj.enc,AV.under]
  exact h
 | .mN v,x,h=>by
  simp only [aj.enc]
  exact h
 | .two u v,(x:Bool),h=>by
  simp only [aj.under,Bool.and_eq_true] at h
  change AV.under n (bif x then v else u)=true
  cases x
  ·exact h.1
  ·exact h.2
theorem aK.dj {n:Nat}:∀ (ps:aK) (x:ps.T),ps.under n=true→aF n (ps.enc x)=true
 | .nil,x,_=>rfl
 | .cons p .nil,x,h=>by
  simp only [aK.under,Bool.and_true] at h
  simp only [aK.enc,aF,Bool.and_true]
  exact p.dj _ h
 | .cons p (.cons q ps),x,h=>by
  rw [aK.under,Bool.and_eq_true] at h
  simp only [aK.enc,aF,Bool.and_eq_true]
  exact ⟨p.dj _ h.1,(aK.cons q ps).dj _ h.2⟩
end
mutual
def AV.exact:AV→Bool
 | .bool _=>true
 | .int _ _=>true
 | .str _=>true
 | .agg cs=>eP cs
 | _=>false
def eP:List AV→Bool
 | []=>true
 | a :: l=>a.exact&&eP l
end
mutual
theorem aj.jd:∀ (p:aj) {a:AV},p.fits a=true→a.exact=true→p.enc (p.bh a)=a
 | .int k,a,h,e=>by
  cases a with
  | int k' n=>have hk:Tw k k'=true:=h; rw [D0 hk]; rfl
  | _=>cases h
 | .bool,a,h,e=>by
  cases a with
  | bool b=>rfl
  | _=>cases h
 | .str,a,h,e=>by
  cases a with
  | str b=>rfl
  | _=>cases h
 | .agg ps,a,h,e=>by
  cases a with
  | agg cs=>
   have e':eP cs=true:=by simpa [AV.exact] using e
   show AV.agg (ps.enc (ps.bh cs))=_
   rw [ps.jd (show ps.fits cs=true from h) e']
  | _=>cases h
 | .bF ps,a,h,e=>by cases a <;> first | (cases h; done) | simp [AV.exact] at e
 | .list sz p,a,h,e=>by cases a <;> first | (cases h; done) | simp [AV.exact] at e
 | .own id sz p,a,h,e=>by cases a <;> first | (cases h; done) | simp [AV.exact] at e
 | .aM id sz p,a,h,e=>by cases a <;> first | (cases h; done) | simp [AV.exact] at e
 | .gk id sz,a,h,e=>by cases a <;> first | (cases h; done) | simp [AV.exact] at e
 | .mN u,a,h,e=>(ia (show dI a u=true from h)).symm
 | .two u v,a,h,_=>qw h
theorem aK.jd:∀ (ps:aK) {l:List AV},ps.fits l=true→eP l=true→ps.enc (ps.bh l)=l
 | .nil,l,h,_=>by
  cases l with
  | nil=>rfl
  | cons _ _=>cases h
 | .cons p .nil,l,h,e=>by
  cases l with
  | nil=>cases h
  | cons a l=>
   have h':(p.fits a&&l.isEmpty)=true:=h
   simp only [Bool.and_eq_true,List.isEmpty_iff] at h'
   obtain ⟨h1,rfl⟩:=h'
   simp only [eP,Bool.and_true] at e
   show [p.enc (p.bh a)]=_
   rw [p.jd h1 e]
 | .cons p (.cons q ps),l,h,e=>by
  cases l with
  | nil=>cases h
  | cons a l=>
   have h':(p.fits a&&(aK.cons q ps).fits l)=true:=h
   rw [Bool.and_eq_true] at h'
   simp only [eP,Bool.and_eq_true] at e
   show p.enc (p.bh a) :: (aK.cons q ps).enc ((aK.cons q ps).bh l)=_
   rw [p.jd h'.1 e.1,(aK.cons q ps).jd h'.2 e.2]
end
mutual
theorem mF:∀ {a:AV},a.exact=true→a.closed=true:=fun {a} h=>by
 cases a with
 | agg cs=>simp only [AV.exact,AV.closed] at *; exact oX h
 | _=>simp_all [AV.exact,AV.closed]
theorem oX:∀ {l:List AV},eP l=true→ay l=true
 | [],_=>rfl
 | a :: l,h=>by
  simp only [eP,ay,Bool.and_eq_true] at *
  exact ⟨mF h.1,oX h.2⟩
end
def ah:List (AV × AV)→List AV
 | []=>[]
 | (k,v) :: l=>.agg [k,v] :: ah l
def UT:AV→AV × AV
 | .agg [k,v]=>(k,v)
 | _=>(fu,fu)
def ab:List AV→List (AV × AV)
 | []=>[]
 | a :: l=>UT a :: ab l
def AV.entries:AV→List (AV × AV)
 | .list _ _ es=>ab es
 | _=>[]
theorem mT:∀ l:List (AV × AV),ab (ah l)=l
 | []=>rfl
 | (k,v) :: l=>by simp only [ah,ab,mT l]; rfl
def AV.E9:AV→Bool
 | .list .gX _ es=>eP es
 | _=>false
def jw:List AV→List AV→Prop
 | [],[]=>True
 | a :: l,b :: r=>gv a b∧jw l r
 | _,_=>False
theorem jw.refl:∀ l:List AV,jw l l
 | []=>trivial
 | a :: l=>⟨gv.refl a,jw.refl l⟩
theorem jw.length:∀ {l r:List AV},jw l r→l.length=r.length
 | [],[],_=>rfl
 | _ :: _,_ :: _,h=>by simp [jw.length h.2]
 | [],_ :: _,h=>h.elim
 | _ :: _,[],h=>h.elim
theorem jw.of {α:Type} {f:AV→Bool} {d:AV→α} {g:α→AV} (F0:∀ v,f v=true→gv v (g (d v))):∀ {es:List AV},allFit f es=true→jw es ((es.map d).map g)
 | [],_=>trivial
 | e :: es,h=>by
  simp only [allFit,Bool.and_eq_true] at h
  exact ⟨F0 e h.1,jw.of F0 h.2⟩
theorem aj.CN (p:aj) {a:AV} (h:p.fits a=true):jw a.cq (p.enc (p.bh a)).cq:=by
 cases p with
 | list sz p=>
  cases a with
  | list k a6 es=>
   have hb:((Nat.beq sz a6 || es.isEmpty)&&allFit p.fits es)=true:=h
   rw [Bool.and_eq_true] at hb
   exact jw.of (fun v hv=>p.cD hv) hb.2
  | _=>cases h
 | own id sz p=>
  cases a with
  | list k a6 es=>
   cases k with
   | own gZ=>
    have hb:((Nat.beq id gZ&&Nat.beq sz a6)&&allFit p.fits es)=true:=h
    rw [Bool.and_eq_true] at hb
    exact jw.of (fun v hv=>p.cD hv) hb.2
   | _=>cases h
  | _=>cases h
 | aM id sz p=>
  cases a with
  | list k a6 es=>
   cases k with
   | aM gZ j=>
    have hb:((Nat.beq id gZ&&Nat.beq sz a6)&&allFit p.fits es)=true:=h
    rw [Bool.and_eq_true] at hb
    exact jw.of (fun v hv=>p.cD hv) hb.2
   | _=>cases h
  | _=>cases h
 | mN u=>rw [show a=u from ia (show dI a u=true from h)]; exact jw.refl _
 | two u v=>rw [qw h]; exact jw.refl _
 | _=>cases a <;> first | (cases h; done) | exact jw.refl _
def wH:List AV→Bool
 | []=>true
 | a :: l=>a.E9&&wH l
def AV.J3:AV→Bool
 | .list .gX _ es=>wH es
 | _=>false
def IU:List AV→List AV→Prop
 | [],[]=>True
 | a :: l,b :: r=>(a.exact=true→b=a)∧((a.E9=true→b.cq=a.cq)∧(a.J3=true→b.cq.map AV.cq=a.cq.map AV.cq))∧jw a.cq b.cq∧IU l r
 | _,_=>False
theorem wI {f:AV→Bool} {α:Type} {d:AV→α} {g:α→AV} (F0:∀ a,f a=true→a.exact=true→g (d a)=a):∀ {es:List AV},allFit f es=true→eP es=true→(es.map d).map g=es
 | [],_,_=>rfl
 | a :: l,h,e=>by
  simp only [allFit,eP,Bool.and_eq_true] at *
  simp only [List.map_cons,F0 a h.1 e.1,wI F0 h.2 e.2]
theorem aj.wJ (p:aj) {a:AV} (h:p.fits a=true) (e:a.E9=true):(p.enc (p.bh a)).cq=a.cq:=by
 cases a with
 | list k a6 es=>
  cases k with
  | gX=>
   have e':eP es=true:=e
   cases p with
   | list sz p=>
    have hb:((Nat.beq sz a6 || es.isEmpty)&&allFit p.fits es)=true:=h
    rw [Bool.and_eq_true] at hb
    show (es.map p.bh).map p.enc=_
    rw [wI (fun a=>p.jd) hb.2 e']
    rfl
   | mN u=>rw [show AV.list .gX a6 es=u from ia (show dI _ u=true from h)]; rfl
   | two u v=>rw [qw h]
   | _=>cases h
  | _=>cases e
 | _=>cases e
theorem wK {p:aj}:∀ {es:List AV},allFit p.fits es=true→wH es=true→((es.map p.bh).map p.enc).map AV.cq=es.map AV.cq
 | [],_,_=>rfl
 | a :: l,h,e=>by
  simp only [allFit,wH,Bool.and_eq_true] at *
  simp only [List.map_cons,p.wJ h.1 e.1]
  rw [wK h.2 e.2]
theorem aj.CO (p:aj) {a:AV} (h:p.fits a=true) (e:a.J3=true):(p.enc (p.bh a)).cq.map AV.cq=a.cq.map AV.cq:=by
 cases a with
 | list k a6 es=>
  cases k with
  | gX=>
   have e':wH es=true:=e
   cases p with
   | list sz p=>
    have hb:((Nat.beq sz a6 || es.isEmpty)&&allFit p.fits es)=true:=h
    rw [Bool.and_eq_true] at hb
    show ((es.map p.bh).map p.enc).map AV.cq=_
    rw [wK hb.2 e']
    rfl
   | mN u=>rw [show AV.list .gX a6 es=u from ia (show dI _ u=true from h)]; rfl
   | two u v=>rw [qw h]
   | _=>cases h
  | _=>cases e
 | _=>cases e
theorem aK.J4:∀ (ps:aK) {l:List AV},ps.fits l=true→IU l (ps.enc (ps.bh l))
 | .nil,l,h=>by
  cases l with
  | nil=>trivial
  | cons _ _=>cases h
 | .cons p .nil,l,h=>by
  cases l with
  | nil=>cases h
  | cons a l=>
   have h':(p.fits a&&l.isEmpty)=true:=h
   simp only [Bool.and_eq_true,List.isEmpty_iff] at h'
   obtain ⟨h1,rfl⟩:=h'
   exact ⟨p.jd h1,⟨p.wJ h1,p.CO h1⟩,p.CN h1,trivial⟩
 | .cons p (.cons q ps),l,h=>by
  cases l with
  | nil=>cases h
  | cons a l=>
   have h':(p.fits a&&(aK.cons q ps).fits l)=true:=h
   rw [Bool.and_eq_true] at h'
   exact ⟨p.jd h'.1,⟨p.wJ h'.1,p.CO h'.1⟩,p.CN h'.1,(aK.cons q ps).J4 h'.2⟩
theorem IU.split:∀ {l r l':List AV},IU (l++r) l'→∃ a b,l'=a++b∧IU l a∧IU r b∧a.length=l.length
 | [],r,l',h=>⟨[],l',rfl,trivial,h,rfl⟩
 | x :: l,r,[],h=>h.elim
 | x :: l,r,y :: l',h=>by
  obtain ⟨a,b,rfl,h2,h3,h4⟩:=IU.split (l:=l) (r:=r) (l':=l') h.2.2.2
  exact ⟨y :: a,b,rfl,⟨h.1,h.2.1,h.2.2.1,h2⟩,h3,by simp [h4]⟩
mutual
def AV.wL (L:Nat→Nat):AV→AV
 | .cT id 0 0 sz 0=>.cT id (L id) 0 sz (L id)
 | .fn f x y=>.fn f (J5 L x) (J5 L y)
 | v=>v
def J5 (L:Nat→Nat):List AV→List AV
 | []=>[]
 | a :: l=>a.wL L :: J5 L l
end
mutual
def aj.inst (L:Nat→Nat):aj→aj
 | .agg ps=>.agg (ps.inst L)
 | .bF ps=>.bF (ps.inst L)
 | .mN v=>.mN (v.wL L)
 | p=>p
def aK.inst (L:Nat→Nat):aK→aK
 | .nil=>.nil
 | .cons p ps=>.cons (p.inst L) (ps.inst L)
end
mutual
def aj.km (L:Nat→Nat):(p:aj)→p.T→AV
 | .int k,(n:Int)=>.int k n
 | .bool,(b:Bool)=>.bool b
 | .str,(s:List UInt8)=>.str s
 | .agg ps,x=>.agg (ps.km L x)
 | .bF ps,x=>.bF (ps.km L x)
 | .list sz p,(xs:List p.T)=>.list .gX sz (xs.map p.enc)
 | .own id sz p,(xs:List p.T)=>.list (.own id) sz (xs.map p.enc)
 | .aM id sz p,(x:Nat × List p.T)=>.list (.aM id x.1) sz (x.2.map p.enc)
 | .gk id sz,(x:Nat × Nat)=>.gk id x.1 sz x.2
 | .mN v,_=>v.wL L
 | .two u v,(b:Bool)=>bif b then v else u
def aK.km (L:Nat→Nat):(ps:aK)→ps.T→List AV
 | .nil,_=>[]
 | .cons p .nil,x=>[p.km L x]
 | .cons p (.cons q ps),x=>p.km L x.1 :: (aK.cons q ps).km L x.2
end
mutual
def aj.lX (L:Nat→Nat):aj→AV→Bool
 | .int k,v=>aj.fits (.int k) v
 | .bool,v=>aj.fits .bool v
 | .str,v=>aj.fits .str v
 | .agg ps,v=>match v with
  | .agg cs=>ps.lX L cs
  | _=>false
 | .bF ps,v=>match v with
  | .bF cs=>ps.lX L cs
  | _=>false
 | .list sz p,v=>aj.fits (.list sz p) v
 | .own id sz p,v=>aj.fits (.own id sz p) v
 | .aM id sz p,v=>aj.fits (.aM id sz p) v
 | .gk id sz,v=>aj.fits (.gk id sz) v
 | .mN v,u=>dI u (v.wL L)
 | .two u v,a=>aj.fits (.two u v) a
def aK.lX (L:Nat→Nat):aK→List AV→Bool
 | .nil,l=>l.isEmpty
 | .cons p ps,l=>match l with
  | a :: l=>p.lX L a&&ps.lX L l
  | []=>false
end
def aK.H4 (L:Nat→Nat) (ps:aK) (l:List AV):Option ps.T:=bif ps.lX L l then some (ps.bh l) else none
mutual
theorem aj.iL (L:Nat→Nat):∀ (p:aj) (a:AV),p.lX L a=(p.inst L).fits a
 | .int _,_=>rfl
 | .bool,_=>rfl
 | .str,_=>rfl
 | .agg ps,a=>by
  simp only [aj.lX,aj.inst,aj.fits]
  cases a <;> first | rfl | exact ps.iL L _
 | .bF ps,a=>by
  simp only [aj.lX,aj.inst,aj.fits]
  cases a <;> first | rfl | exact ps.iL L _
 | .list _ _,_=>rfl
 | .own _ _ _,_=>rfl
 | .aM _ _ _,_=>rfl
 | .gk _ _,_=>rfl
 | .mN _,_=>rfl
 | .two _ _,_=>rfl
theorem aK.iL (L:Nat→Nat):∀ (ps:aK) (l:List AV),ps.lX L l=(ps.inst L).fits l
 | .nil,_=>rfl
 | .cons p ps,l=>by
  cases l with
  | nil=>rfl
  | cons a l=>
   simp only [aK.lX,aK.inst,aK.fits]
   rw [p.iL L a,ps.iL L l]
end
mutual
theorem aj.gR (L:Nat→Nat):∀ (p:aj) (a:AV),p.km L (p.bh a)=(p.inst L).enc ((p.inst L).bh a)
 | .int _,_=>rfl
 | .bool,_=>rfl
 | .str,_=>rfl
 | .agg ps,a=>congrArg AV.agg (ps.gR L a.jk)
 | .bF ps,a=>congrArg AV.bF (ps.gR L a.PL)
 | .list _ _,_=>rfl
 | .own _ _ _,_=>rfl
 | .aM _ _ _,_=>rfl
 | .gk _ _,_=>rfl
 | .mN _,_=>rfl
 | .two _ _,_=>rfl
theorem aK.gR (L:Nat→Nat):∀ (ps:aK) (l:List AV),ps.km L (ps.bh l)=(ps.inst L).enc ((ps.inst L).bh l)
 | .nil,_=>rfl
 | .cons p .nil,l=>by
  show [p.km L (p.bh (dC l))]=[(p.inst L).enc ((p.inst L).bh (dC l))]
  rw [p.gR L]
 | .cons p (.cons q ps),l=>by
  show p.km L (p.bh (dC l)) :: (aK.cons q ps).km L ((aK.cons q ps).bh (I1 l))=(p.inst L).enc ((p.inst L).bh (dC l)) :: ((aK.cons q ps).inst L).enc (((aK.cons q ps).inst L).bh (I1 l))
  rw [p.gR L,(aK.cons q ps).gR L]
end
mutual
theorem AV.wM {n:Nat} (L:Nat→Nat):∀ {a:AV},a.under n=true→(a.wL L).under n=true:=fun {a} h=>by
 cases a with
 | cT id f off sz len=>
  unfold AV.wL
  split
  ·rename_i h1
   cases h1
   exact h
  ·rename_i h1
   cases h1
  ·exact h
 | fn f x y=>
  simp only [AV.wL,AV.under,Bool.and_eq_true] at *
  exact ⟨pL L h.1,pL L h.2⟩
 | _=>exact h
theorem pL {n:Nat} (L:Nat→Nat):∀ {l:List AV},aF n l=true→aF n (J5 L l)=true
 | [],_=>rfl
 | a :: l,h=>by
  simp only [J5,aF,Bool.and_eq_true] at *
  exact ⟨AV.wM L h.1,pL L h.2⟩
end
mutual
theorem aj.iM {n:Nat} (L:Nat→Nat):∀ {p:aj},p.under n=true→(p.inst L).under n=true
 | .int _,_=>rfl
 | .bool,_=>rfl
 | .str,_=>rfl
 | .agg ps,h=>aK.iM L (ps:=ps) h
 | .bF ps,h=>aK.iM L (ps:=ps) h
 | .list _ _,_=>rfl
 | .own _ _ _,h=>h
 | .aM _ _ _,h=>h
 | .gk _ _,h=>h
 | .mN v,h=>AV.wM L (a:=v) h
 | .two _ _,h=>h
theorem aK.iM {n:Nat} (L:Nat→Nat):∀ {ps:aK},ps.under n=true→(ps.inst L).under n=true
 | .nil,_=>rfl
 | .cons p ps,h=>by
  simp only [aK.inst,aK.under,Bool.and_eq_true] at *
  exact ⟨aj.iM L h.1,aK.iM L h.2⟩
end
theorem AV.zK (L:Nat→Nat) (v:AV):(v.wL L).cq=v.cq:=by
 unfold AV.wL
 split <;> rfl
def na:List AV→List AV→Prop
 | [],[]=>True
 | a :: l,b :: r=>a.cq.length=b.cq.length∧na l r
 | _,_=>False
theorem aj.nP (L L':Nat→Nat) (p:aj) (x:p.T):(p.km L x).cq=(p.km L' x).cq:=by
 cases p with
 | mN v=>
  show (v.wL L).cq=(v.wL L').cq
  rw [AV.zK,AV.zK]
 | gk _ _=>rfl
 | _=>rfl
theorem aK.nP (L L':Nat→Nat):∀ (ps:aK) (x:ps.T),na (ps.km L x) (ps.km L' x)
 | .nil,_=>trivial
 | .cons p .nil,x=>⟨congrArg List.length (p.nP L L' x),trivial⟩
 | .cons p (.cons q ps),x=>⟨congrArg List.length (p.nP L L' x.1),(aK.cons q ps).nP L L' x.2⟩
theorem IU.UU:∀ {l r:List AV},IU l r→na l r
 | [],[],_=>trivial
 | _ :: _,_ :: _,h=>⟨h.2.2.1.length,h.2.2.2.UU⟩
 | [],_ :: _,h=>h.elim
 | _ :: _,[],h=>h.elim
theorem na.trans:∀ {l r u:List AV},na l r→na r u→na l u
 | [],[],[],_,_=>trivial
 | _ :: _,_ :: _,_ :: _,h,k=>⟨h.1.trans k.1,h.2.trans k.2⟩
 | [],_ :: _,_,h,_=>h.elim
 | _ :: _,[],_,h,_=>h.elim
 | [],[],_ :: _,_,k=>k.elim
 | _ :: _,_ :: _,[],_,k=>k.elim
theorem na.drop:∀ {l r:List AV} (n:Nat),na l r→na (l.drop n) (r.drop n)
 | l,r,0,h=>by simpa using h
 | [],[],_+1,_=>by simp [na]
 | _ :: _,_ :: _,n+1,h=>by simpa using na.drop n h.2
 | [],_ :: _,_+1,h=>h.elim
 | _ :: _,[],_+1,h=>h.elim
theorem aK.MX (L:Nat→Nat) (ps:aK) {l:List AV} {x:ps.T} (h:ps.H4 L l=some x):cz l (ps.km L x)∧IU l (ps.km L x):=by
 unfold aK.H4 at h
 cases hf:ps.lX L l with
 | true=>
  rw [hf] at h
  cases h
  rw [ps.gR L]
  rw [ps.iL L] at hf
  have hd:(ps.inst L).dec l=some ((ps.inst L).bh l):=by unfold aK.dec; rw [hf]; rfl
  exact ⟨((ps.inst L).px hd).1,(ps.inst L).J4 hf⟩
 | false=>rw [hf] at h; cases h
theorem aK.Fa {n:Nat} (L:Nat→Nat) (ps:aK) (hp:ps.under n=true) (l:List AV):aF n (ps.km L (ps.bh l))=true:=by
 rw [ps.gR L]
 exact (ps.inst L).dj _ (aK.iM L hp)
theorem aK.H5 (L:Nat→Nat) (ps:aK) {l:List AV} {x:ps.T} (h:ps.H4 L l=some x):x=ps.bh l:=by
 unfold aK.H4 at h
 cases hf:ps.lX L l with
 | true=>rw [hf] at h; cases h; rfl
 | false=>rw [hf] at h; cases h
end Go.Am
namespace Go.Am
open Go
inductive DG
 | open_
 | busy
 | ret
 | ex (i:Nat)
def DG.is:DG→Bool→Option Code→Bool→Bool
 | .open_,false,none,false=>true
 | .busy,true,none,false=>true
 | .ret,false,some .ret,true=>true
 | .ex i,false,some (.exit j),true=>Nat.beq i j
 | _,_,_,_=>false
def DG.b:DG→Bool
 | .busy=>true
 | _=>false
def DG.p:DG→Option Code
 | .ret=>some .ret
 | .ex i=>some (.exit i)
 | _=>none
def DG.d:DG→Bool
 | .ret=>true
 | .ex _=>true
 | _=>false
theorem DG.Gv {k:DG} {b:Bool} {p:Option Code} {d:Bool} (h:k.is b p d=true):b=k.b∧p=k.p∧d=k.d:=by
 unfold DG.is at h
 split at h <;> first | exact ⟨rfl,rfl,rfl⟩ | (cases h; done) | skip
 rw [Nat.eq_of_beq_eq_true h]
 exact ⟨rfl,rfl,rfl⟩
inductive GL
 | row (n:Nat)
 | tok (loc sz:Nat) (e:TypeId)
 | dead
 | lp (k:DG)
 | bY
 | map
 | CP
 | cK (sz:Nat) (e:TypeId)
 | aM (sz:Nat) (e:TypeId)
 | ra
 | mM (fK:Nat)
 | gY (sz:Nat) (e:TypeId)
def cr (fs:List Nat):List AV:=fs.map fun n:Nat=>.int .i64 n
def aW (l:List AV):List Nat:=l.map fun a=>a.pj.toNat
theorem tN (fs:List Nat):aW (cr fs)=fs:=by
 induction fs with
 | nil=>rfl
 | cons n fs ih=>
  show (AV.int .i64 n).pj.toNat :: aW (cr fs)=n :: fs
  rw [ih]
  simp [AV.pj]
theorem wN (fs:List Nat):eP (cr fs)=true:=by
 induction fs with
 | nil=>rfl
 | cons n fs ih=>exact ih
def H6 (sz:Nat) (rows:List (List AV)):List AV:=rows.map fun r=>.list .gX sz r
def wO (l:List AV):List (List AV):=l.map AV.cq
theorem CQ (sz:Nat) (rows:List (List AV)):wO (H6 sz rows)=rows:=by
 induction rows with
 | nil=>rfl
 | cons r rows ih=>
  show r :: wO (H6 sz rows)=r :: rows
  rw [ih]
def CR:List (List AV)→Bool
 | []=>true
 | r :: l=>eP r&&CR l
theorem wP (sz:Nat):∀ rows:List (List AV),CR rows=true→wH (H6 sz rows)=true
 | [],_=>rfl
 | r :: rows,h=>by
  simp only [CR,Bool.and_eq_true] at h
  show (eP r&&wH (H6 sz rows))=true
  rw [h.1,wP sz rows h.2]
  rfl
def QN (k:DG):GO→GO→Bool
 | .loop _ _ _ _ _ _ _ _ _ _,.loop b p _ _ _ _ _ _ _ d=>k.is b p d
 | _,_=>false
def Pg (k:DG):GO→GO
 | .loop _ _ fn sl n ps pI bd d _=>.loop k.b k.p fn sl n ps pI bd d k.d
 | _=>.dead
def bo (es:List (AV × AV)):Bool:=eP (ah es)
def A3:GO→GO→Bool
 | .tok f sz e,.tok f' a6 e'=>decide (f'=f)&&(Nat.beq a6 sz&&Nat.beq e' e)
 | .defers a,.defers b=>match a,b with
  | true,true=>true
  | false,false=>true
  | _,_=>false
 | .dead,_=>true
 | _,_=>false
structure bI where
 ps:aK
 sl:List Tmp
 W:List Tmp
 bx:List (Nat × Nat)
 g:List GL
 TG:List (Tmp × Nat × Nat)
def wQ (ae:a8):List Tmp→Option (List AV)
 | []=>some []
 | t :: l=>match lk ae t with
  | .v a=>match wQ ae l with
   | some r=>some (a :: r)
   | none=>none
  | _=>none
def wR (bx:cp):List (Nat × Nat)→Option (List AV)
 | []=>some []
 | (k,n) :: l=>match cX bx k with
  | some cs=>match wR bx l with
   | some r=>bif Nat.beq cs.length n then some (cs++r) else none
   | none=>none
  | none=>none
def je:List GL→List GO→Option (List AV)
 | [],_=>some []
 | .row n :: l,.row cs _ :: G=>match je l G with
  | some r=>bif Nat.beq cs.length n then some (cs++r) else none
  | none=>none
 | .tok _ sz e :: l,.tok _ a6 e' :: G=>bif Nat.beq sz a6&&Nat.beq e e' then je l G else none
 | .dead :: l,_ :: G=>je l G
 | .lp _ :: l,_ :: G=>je l G
 | .bY :: l,_ :: G=>je l G
 | .map :: l,.map es :: G=>match je l G with
  | some r=>some (.list .gX 2 (ah es) :: r)
  | none=>none
 | .CP :: l,.gf s pos :: G=>match je l G with
  | some r=>some (.str s :: .int .i64 pos :: r)
  | none=>none
 | .cK sz e :: l,.cK es a6 e' :: G=>match je l G with
  | some r=>bif Nat.beq sz a6&&Nat.beq e e' then some (.list .gX a6 es :: r) else none
  | none=>none
 | .aM sz e :: l,.aM fs a6 e' :: G=>match je l G with
  | some r=>bif Nat.beq sz a6&&Nat.beq e e' then some (.list .gX 1 (cr fs) :: r) else none
  | none=>none
 | .gY sz e :: l,.gY rows a6 e' :: G=>match je l G with
  | some r=>bif Nat.beq sz a6&&Nat.beq e e' then some (.list .gX 1 (H6 a6 rows) :: r) else none
  | none=>none
 | .ra :: l,.map es :: G=>match je l G with
  | some r=>some (.list .gX 2 (ah es) :: r)
  | none=>none
 | .mM fK :: l,.mM mid' n left _ _ :: G=>match je l G with
  | some r=>bif Nat.beq fK mid' then some (.int .i64 n :: .list .gX 1 (cr left) :: r) else none
  | none=>none
 | _,_=>none
def J6 (vs:List AV) (loc:Nat):Nat:=match nth vs loc with
 | some (.list _ _ es)=>es.length
 | _=>0
def Ph:GO→GO→Bool
 | .row _ e,.row _ e'=>Nat.beq e e'
 | _,_=>false
def Pj:GO→GO→Bool
 | .mM _ _ _ _ t,.mM _ _ _ _ t'=>Nat.beq t t'
 | _,_=>false
def UW:GO→TypeId
 | .mM _ _ _ _ t=>t
 | _=>0
def UX:GO→TypeId
 | .row _ e=>e
 | _=>0
def cW (vs:List AV):List GL→List GO→List GO→Bool
 | [],_,_=>true
 | .tok loc _ _ :: l,_ :: B,.tok f _ _ :: G=>decide (f=J6 vs loc)&&cW vs l B G
 | .tok _ _ _ :: _,_,_=>false
 | .lp k :: l,o :: B,o' :: G=>QN k o o'&&cW vs l B G
 | .bY :: l,o :: B,o' :: G=>A3 o o'&&cW vs l B G
 | .row _ :: l,b :: B,g :: G=>Ph b g&&cW vs l B G
 | .map :: l,_ :: B,.map es :: G=>bo es&&cW vs l B G
 | .map :: _,_,_=>false
 | .CP :: l,_ :: B,_ :: G=>cW vs l B G
 | .cK _ _ :: l,_ :: B,_ :: G=>cW vs l B G
 | .aM _ _ :: l,_ :: B,_ :: G=>cW vs l B G
 | .gY _ _ :: l,_ :: B,.gY rows _ _ :: G=>CR rows&&cW vs l B G
 | .gY _ _ :: _,_,_=>false
 | .ra :: l,_ :: B,_ :: G=>cW vs l B G
 | .mM _ :: l,b :: B,g :: G=>Pj b g&&cW vs l B G
 | .dead :: l,_ :: B,_ :: G=>cW vs l B G
 | _,_,_=>false
def nQ:List Tmp→List AV→a8→a8
 | t :: ts,a :: l,r=>.put t (.v a) :: nQ ts l r
 | _,_,r=>r
def nR:List (Tmp × Nat × Nat)→a8→a8
 | (t,k,o) :: l,r=>.put t (.lp k o) :: nR l r
 | [],r=>r
def Gw (ae:a8):List (Tmp × Nat × Nat)→Bool
 | []=>true
 | (t,k,o) :: l=>(match lk ae t with
  | .lp k' o'=>Nat.beq k' k&&Nat.beq o' o
  | _=>false)&&Gw ae l
def wS:List Tmp→a8→a8
 | t :: ts,r=>.put t .none :: wS ts r
 | [],r=>r
def tO:List (Nat × Nat)→List AV→cp→cp
 | (k,n) :: r,l,b=>(k,l.take n) :: tO r (l.drop n) b
 | [],_,b=>b
def cV (vs:List AV):List GL→List GO→List AV→List GO
 | .row n :: r,B,l=>.row (l.take n) (UX (B.headD .dead)) :: cV vs r B.tail (l.drop n)
 | .tok loc sz e :: r,B,l=>.tok (J6 vs loc) sz e :: cV vs r B.tail l
 | .dead :: r,B,l=>.dead :: cV vs r B.tail l
 | .lp k :: r,B,l=>Pg k (B.headD .dead) :: cV vs r B.tail l
 | .bY :: r,B,l=>B.headD .dead :: cV vs r B.tail l
 | .map :: r,B,l=>.map (AV.entries (dC l)) :: cV vs r B.tail l.tail
 | .CP :: r,B,l=>.gf (AV.PM (dC l)) (AV.pj (dC l.tail)).toNat :: cV vs r B.tail l.tail.tail
 | .cK sz e :: r,B,l=>.cK (AV.cq (dC l)) sz e :: cV vs r B.tail l.tail
 | .aM sz e :: r,B,l=>.aM (aW (AV.cq (dC l))) sz e :: cV vs r B.tail l.tail
 | .gY sz e :: r,B,l=>.gY (wO (AV.cq (dC l))) sz e :: cV vs r B.tail l.tail
 | .ra :: r,B,l=>.map (AV.entries (dC l)) :: cV vs r B.tail l.tail
 | .mM fK :: r,B,l=>.mM fK (AV.pj (dC l)).toNat (aW (AV.cq (dC l.tail))) none (UW (B.headD .dead)) :: cV vs r B.tail l.tail.tail
 | [],_,_=>[]
def A4:List (Nat × Nat)→Nat
 | []=>0
 | (_,n) :: l=>n+A4 l
def jF:List GL→List AV→Nat→Nat
 | [],_,_=>0
 | .cK _ _ :: r,l,i=>match i with
  | 0=>(AV.cq (dC l)).length
  | i+1=>jF r l.tail i
 | .row n :: r,l,i=>match i with
  | 0=>0
  | i+1=>jF r (l.drop n) i
 | .map :: r,l,i=>match i with
  | 0=>0
  | i+1=>jF r l.tail i
 | .CP :: r,l,i=>match i with
  | 0=>0
  | i+1=>jF r l.tail.tail i
 | .aM _ _ :: r,l,i=>match i with
  | 0=>0
  | i+1=>jF r l.tail i
 | .gY _ _ :: r,l,i=>match i with
  | 0=>0
  | i+1=>jF r l.tail i
 | .ra :: r,l,i=>match i with
  | 0=>0
  | i+1=>jF r l.tail i
 | .mM _ :: r,l,i=>match i with
  | 0=>0
  | i+1=>jF r l.tail.tail i
 | _ :: r,l,i=>match i with
  | 0=>0
  | i+1=>jF r l i
def bI.oN (t:bI) (v:t.ps.T):List AV:=t.ps.km (jF t.g (((t.ps.km (fun _=>0) v).drop t.sl.length).drop (A4 t.bx))) v
def bI.st (t:bI) (s:St) (v:t.ps.T):St:=
 ⟨nR t.TG (nQ t.sl (t.oN v) (wS t.W s.ae)),tO t.bx ((t.oN v).drop t.sl.length) s.boxes,cV (t.oN v) t.g s.G (((t.oN v).drop t.sl.length).drop (A4 t.bx)),s.marks,s.ro,s.n⟩
def Mb:List Nat→Nat→Bool
 | [],_=>false
 | a :: l,n=>Nat.beq a n || Mb l n
def TH (l:List Tmp) (W:List Tmp) (n:Nat):Bool:=Mb l n || Mb W n
def yO (d:Nat) (l W:List Tmp):a8→Bool
 | []=>true
 | .put t (.lp k _) :: r=>(!(Nat.beq k d) || TH l W t)&&yO d l W r
 | _ :: r=>yO d l W r
def sK (l W:List Tmp) (base:a8):a8→Bool
 | []=>true
 | .put d _ :: r=>TH l W d&&sK l W base r
 | .kill d :: r=>yO d l W base&&sK l W base r
def ta:List (Nat × Nat)→Nat→Bool
 | [],_=>false
 | (a,_) :: l,n=>Nat.beq a n || ta l n
def uS (l:List (Nat × Nat)) (base:cp):cp→Bool
 | []=>true
 | (k,_) :: r=>(ta l k || (cX base k).isNone)&&uS l base r
def MY:List Nat→List Nat→Bool
 | [],[]=>true
 | a :: l,b :: r=>Nat.beq a b&&MY l r
 | _,_=>false
def aj.lcl (n:Nat):aj→Bool
 | .list _ p=>p.under n
 | _=>false
def aK.flags (n:Nat):aK→List Bool
 | .nil=>[]
 | .cons p ps=>p.lcl n :: ps.flags n
def jx:List GL→List Bool→Bool
 | [],_=>true
 | .cK _ _ :: r,f :: l=>f&&jx r l
 | .cK _ _ :: _,[]=>false
 | .row n :: r,l=>jx r (eI n l)
 | .map :: r,l=>jx r (eI 1 l)
 | .CP :: r,l=>jx r (eI 2 l)
 | .aM _ _ :: r,l=>jx r (eI 1 l)
 | .gY _ _ :: r,l=>jx r (eI 1 l)
 | .ra :: r,f :: l=>f&&jx r l
 | .ra :: _,[]=>false
 | .mM _ :: r,l=>jx r (eI 2 l)
 | _ :: r,l=>jx r l
def J7 (n:Nat):List GL→Bool
 | []=>true
 | .mM fK :: r=>Nat.blt fK n&&J7 n r
 | _ :: r=>J7 n r
def bI.ok (t:bI) (s s':St):Bool:=
 sK t.sl t.W s.ae (s'.ae.take (s'.ae.length - s.ae.length))&&uS t.bx s.boxes (s'.boxes.take (s'.boxes.length - s.boxes.length)) &&
  MY s'.marks s.marks&&Nat.beq t.g.length s.G.length&&(t.ps.under s.G.length&&(jx t.g (eI (A4 t.bx) (eI t.sl.length (t.ps.flags s.G.length)))&&J7 s.G.length t.g))&&Gw s'.ae t.TG
def bI.dec (t:bI) (s s':St):Option t.ps.T:=
 bif t.ok s s' then
  match wQ s'.ae t.sl,wR s'.boxes t.bx,je t.g s'.G with
  | some a,some b,some c=>(t.ps.H4 (jF t.g c) (a++(b++c))).bind fun v=>bif cW (t.oN v) t.g s.G s'.G then some v else none
  | _,_,_=>none
 else none
theorem A5 {l:List Nat} {n:Nat}:Mb l n=true↔n∈l:=by
 induction l with
 | nil=>simp [Mb]
 | cons a l ih=>
  simp only [Mb,Bool.or_eq_true,Nat.beq_eq,ih,List.mem_cons]
  constructor
  ·rintro (h | h)
   ·exact .inl h.symm
   ·exact .inr h
  ·rintro (h | h)
   ·exact .inl h.symm
   ·exact .inr h
theorem Gx:∀ {a b:List Nat},MY a b=true→a=b
 | [],[],_=>rfl
 | a :: l,b :: r,h=>by
  simp only [MY,Bool.and_eq_true,Nat.beq_eq] at h
  rw [h.1,Gx h.2]
 | [],_ :: _,h=>by cases h
 | _ :: _,[],h=>by cases h
theorem A6 {d:Nat} {l W:List Tmp} {t off:Nat}:∀ {base:a8},yO d l W base=true→lk base t=.lp d off→TH l W t=true
 | [],_,h=>by simp [lk] at h
 | .put t' x :: r,hn,h=>by
  by_cases e:t'=t
  ·subst e
   rw [ax] at h
   subst h
   simp only [yO,Nat.beq_refl,Bool.not_true,Bool.false_or,Bool.and_eq_true] at hn
   exact hn.1
  ·rw [aI e] at h
   refine A6 (base:=r) ?_ h
   cases x <;> simp only [yO,Bool.and_eq_true] at hn
   ·exact hn
   ·exact hn
   ·exact hn.2
 | .kill d' :: r,hn,h=>by
  rcases FY (l:=r) (d:=d') (t:=t) with ⟨h1,_⟩ | h1
  ·rw [h1] at h
   exact A6 (base:=r) hn h
  ·rw [h1] at h
   cases h
theorem A7 {l W:List Tmp} {base:a8} {t:Nat} (ht:TH l W t=false):∀ {pre:a8},sK l W base pre=true→lk (pre++base) t=lk base t
 | [],_=>rfl
 | .put d x :: r,h=>by
  simp only [sK,Bool.and_eq_true] at h
  have cg:d≠t:=fun e=>by rw [e,ht] at h; exact absurd h.1 (by simp)
  rw [List.cons_append,aI cg]
  exact A7 ht h.2
 | .kill d :: r,h=>by
  simp only [sK,Bool.and_eq_true] at h
  have ih:=A7 ht h.2
  simp only [List.cons_append,lk,ih]
  cases hb:lk base t with
  | lp k off=>
   by_cases e:k=d
   ·subst e
    have:=A6 h.1 hb
    rw [ht] at this
    cases this
   ·simp [mj e]
  | _=>rfl
theorem CS {l:List (Nat × Nat)} {base:cp} {k:Nat} {cs:List AV} (hk:ta l k=false) (hb:cX base k=some cs):∀ {pre:cp},uS l base pre=true→cX (pre++base) k=some cs
 | [],_=>hb
 | (d,x) :: r,h=>by
  simp only [uS,Bool.and_eq_true] at h
  have cg:d≠k:=fun e=>by
   rw [e,hk,hb] at h
   exact absurd h.1 (by simp)
  rw [List.cons_append,cX,mj cg]
  exact CS hk hb h.2
theorem CT {α:Type} (pre base:List α):(pre++base).take ((pre++base).length - base.length)=pre:=by
 rw [List.length_append,Nat.add_sub_cancel,List.take_left]
def af.cut (R:af) (n:Nat):af:=⟨R.I,R.obj.take n⟩
theorem ij {R:af} {n id:Nat} {ro:RO}:nth (R.cut n).obj id=some ro↔id < n∧nth R.obj id=some ro:=by
 simp only [af.cut,aG,List.getElem?_take]
 split
 ·simp_all
 ·simp_all
  omega
theorem mG (R:af) (n:Nat):Mv R (R.cut n) n:=⟨fun _ _ h=>h,fun _ _ hl h=>ij.2 ⟨hl,h⟩⟩
section BP
variable {E:Env} {R R':af} {w w':World} {β β':Nat→Nat} {s s':St} {a a':Act}
def wT (R:af) (w:World) (β:Nat→Nat) (K:Nat→Prop) (ae:a8) (tmps:Array Value):Prop:=
 ∀ i,¬ K i→lk ae i≠.none→∃ c,tmps[i]?=some c∧mW R w β (lk ae i) c
theorem wU {tmps:Array Value} {base:a8}:∀ {W:List Tmp} {K:Nat→Prop},wT R w β (fun i=>i∈W∨K i) base tmps→wT R w β K (wS W base) tmps
 | [],K,h=>fun i hi hn=>h i (by simpa using hi) hn
 | t :: W,K,h=>fun i hi hn=>by
  have ih:wT R w β (fun i=>i=t∨K i) (wS W base) tmps:=wU (W:=W) (fun j hj=>h j (fun hc=>hj (by
   rcases hc with hc | hc
   ·rcases List.mem_cons.1 hc with hc | hc
    ·exact .inr (.inl hc)
    ·exact .inl hc
   ·exact .inr (.inr hc))))
  simp only [wS] at hn ⊢
  by_cases e:t=i
  ·subst e
   rw [ax] at hn
   exact absurd rfl hn
  ·rw [aI e] at hn ⊢
   exact ih i (by simp; exact ⟨fun e'=>e e'.symm,hi⟩) hn
theorem tP {n:Nat} (m:Mv R' R n) {tmps:Array Value} {ae:a8} (hT:nl R' w β ae tmps) {base:a8}:∀ {ts:List Tmp} {K:Nat→Prop} {l l' r r':List AV},wQ ae ts=some l→cz (l++r) (l'++r')→l.length=l'.length→aF n l'=true →
  wT R w β (fun i=>i∈ts∨K i) base tmps→wT R w β K (nQ ts (l'++r') base) tmps
 | [],K,l,l',r,r',_,_,_,_,h=>fun i hi hn=>by
  have e:nQ [] (l'++r') base=base:=rfl
  rw [e] at hn ⊢
  exact h i (by simpa using hi) hn
 | t :: ts,K,l,l',r,r',hg,hw,hl,hu,h=>by
  unfold wQ at hg
  split at hg
  ·rename_i a ha
   split at hg
   ·rename_i l0 r7
    cases hg
    cases l' with
    | nil=>simp at hl
    | cons b l'=>
     simp only [List.cons_append,cz] at hw
     simp only [aF,Bool.and_eq_true] at hu
     have ih:wT R w β (fun i=>i=t∨K i) (nQ ts (l'++r') base) tmps:=tP m hT r7 hw.2 (by simpa using hl) hu.2 (fun j hj=>h j (fun hc=>hj (by
      rcases hc with hc | hc
      ·rcases List.mem_cons.1 hc with hc | hc
       ·exact .inr (.inl hc)
       ·exact .inl hc
      ·exact .inr (.inr hc))))
     intro i hi hn
     simp only [nQ,List.cons_append] at hn ⊢
     by_cases e:t=i
     ·subst e
      rw [ax] at hn ⊢
      obtain ⟨c,h1,h2⟩:=hT t (by rw [ha]; simp)
      rw [ha] at h2
      exact ⟨c,h1,Rel.move m hu.1 (hw.1 _ _ _ h2)⟩
     ·rw [aI e] at hn ⊢
      exact ih i (by simp; exact ⟨fun e'=>e e'.symm,hi⟩) hn
   ·cases hg
  ·cases hg
def wV (R:af) (w:World) (β:Nat→Nat) (k:Nat) (cs:List AV):Prop:=
 (∃ vs el,w.heap[β k]?=some (.cells ⟨vs⟩ el (0,0))∧aC R w cs vs∧(∀ v∈vs,v.oneCell'=true))∧(∀ o,¬ R.I (β k) o)∧¬ Live R (β k)
theorem nS {R:af} {n b:Nat} (h:Live (R.cut n) b):Live R b:=by
 obtain ⟨id,ro,h1,h2⟩:=h
 exact ⟨id,ro,(ij.1 h1).2,h2⟩
theorem wV.cut {n k:Nat} {cs dJ:List AV} (h:wV R w β k cs) (hw:cz cs dJ) (hu:aF n dJ=true):wV (R.cut n) w β k dJ:=by
 obtain ⟨⟨vs,el,h1,h2,h3⟩,h4,h5⟩:=h
 exact ⟨⟨vs,el,h1,(hw.rel h2).move (mG R n) hu,h3⟩,h4,fun hl=>h5 (nS hl)⟩
theorem dV {n:Nat}:∀ {l r:List AV},aF n (l++r)=(aF n l&&aF n r)
 | [],r=>by simp [aF]
 | a :: l,r=>by simp [aF,dV (l:=l),Bool.and_assoc]
theorem cz.split:∀ {l r l':List AV},cz (l++r) l'→∃ a b,l'=a++b∧cz l a∧cz r b∧a.length=l.length
 | [],r,l',h=>⟨[],l',rfl,trivial,h,rfl⟩
 | x :: l,r,[],h=>h.elim
 | x :: l,r,y :: l',h=>by
  obtain ⟨a,b,rfl,h2,h3,h4⟩:=cz.split (l:=l) (r:=r) (l':=l') h.2
  exact ⟨y :: a,b,rfl,⟨h.1,h2⟩,h3,by simp [h4]⟩
theorem CU {n:Nat} {WN:cp} (hb:∀ k cs,cX WN k=some cs→wV R w β k cs) {base:cp}:∀ {bx:List (Nat × Nat)} {K:Nat→Prop} {l l' r:List AV},wR WN bx=some l→cz l l'→aF n l'=true →
  (∀ k cs,¬ K k→ta bx k=false→cX base k=some cs→cX WN k=some cs∧aF n cs=true) →
  ∀ k cs,¬ K k→cX (tO bx (l'++r) base) k=some cs→wV (R.cut n) w β k cs∧∃ dJ,cX WN k=some dJ
 | [],K,l,l',r,_,_,_,h,k,cs,hK,hk=>by
  obtain ⟨h1,h2⟩:=h k cs hK rfl hk
  exact ⟨(hb k cs h1).cut (cz.refl _) h2,cs,h1⟩
 | (d,m) :: bx,K,l,l',r,hg,hw,hu,h,k,cs,hK,hk=>by
  unfold wR at hg
  split at hg
  ·rename_i UJ hd
   split at hg
   ·rename_i l0 r7
    cases hm:Nat.beq UJ.length m with
    | false=>rw [hm] at hg; cases hg
    | true=>
     rw [hm] at hg
     cases hg
     have hm:=Nat.eq_of_beq_eq_true hm
     obtain ⟨x,y,rfl,k1,k2,k3⟩:=hw.split
     rw [dV,Bool.and_eq_true] at hu
     have e1:((x++y)++r).take m=x:=by rw [List.append_assoc,← hm,← k3,List.take_left]
     have e2:((x++y)++r).drop m=y++r:=by rw [List.append_assoc,← hm,← k3,List.drop_left]
     simp only [tO,e1,e2] at hk
     rcases eu hk with ⟨rfl,rfl⟩ | ⟨cg,hk⟩
     ·exact ⟨(hb d UJ hd).cut k1 hu.1,UJ,hd⟩
     ·refine CU hb (K:=fun k=>k=d∨K k) (r:=r) r7 k2 hu.2 (fun k' dJ hK' h1 h2=>?_) k cs (fun hc=>?_) hk
      ·exact h k' dJ (fun hc=>hK' (.inr hc)) (by simp only [ta,h1,Bool.or_false]; exact mj (fun e=>hK' (.inl e.symm))) h2
      ·rcases hc with hc | hc
       ·exact cg hc.symm
       ·exact hK hc
   ·cases hg
  ·cases hg
def ux (n:Nat):List GL→List AV→Prop
 | [],_=>True
 | .cK _ _ :: r,l=>aF n (AV.cq (dC l))=true∧ux n r l.tail
 | .row m :: r,l=>ux n r (l.drop m)
 | .map :: r,l=>ux n r l.tail
 | .CP :: r,l=>ux n r l.tail.tail
 | .aM _ _ :: r,l=>ux n r l.tail
 | .gY _ _ :: r,l=>ux n r l.tail
 | .ra :: r,l=>aF n (AV.cq (dC l))=true∧ux n r l.tail
 | .mM _ :: r,l=>ux n r l.tail.tail
 | _ :: r,l=>ux n r l
def nT (n:Nat):List Bool→List AV→Prop
 | [],_=>True
 | _ :: _,[]=>True
 | f :: fl,a :: l=>(f=true→aF n a.cq=true)∧nT n fl l
theorem nT.drop {m:Nat}:∀ {fl:List Bool} {l:List AV} (n:Nat),nT m fl l→nT m (eI n fl) (l.drop n)
 | _,_,0,h=>by simpa [eI] using h
 | [],_,_+1,_=>by simp [eI,nT]
 | _ :: fl,[],n+1,_=>by
  rw [List.drop_nil]
  cases eI (n+1) (_ :: fl) <;> trivial
 | _ :: fl,_ :: l,n+1,h=>by simpa [eI] using nT.drop n h.2
theorem eQ {m:Nat}:∀ (g:List GL) {fl:List Bool} {l:List AV},jx g fl=true→nT m fl l→ux m g l
 | [],_,_,_,_=>trivial
 | .cK _ _ :: g,[],_,h,_=>by cases h
 | .cK _ _ :: g,f :: fl,[],h,_=>by
  simp only [jx,Bool.and_eq_true] at h
  refine ⟨rfl,eQ g (fl:=fl) h.2 ?_⟩
  cases fl <;> trivial
 | .cK _ _ :: g,f :: fl,a :: l,h,k=>by
  simp only [jx,Bool.and_eq_true] at h
  exact ⟨k.1 h.1,eQ g h.2 k.2⟩
 | .row n :: g,fl,l,h,k=>eQ g (show jx g (eI n fl)=true from h) (k.drop n)
 | .map :: g,fl,l,h,k=>by
  have:=eQ g (show jx g (eI 1 fl)=true from h) (k.drop 1)
  rw [List.drop_one] at this
  exact this
 | .CP :: g,fl,l,h,k=>by
  have:=eQ g (show jx g (eI 2 fl)=true from h) (k.drop 2)
  have e:l.drop 2=l.tail.tail:=by cases l with
   | nil=>rfl
   | cons a l=>cases l <;> rfl
  rw [e] at this
  exact this
 | .aM _ _ :: g,fl,l,h,k=>by
  have:=eQ g (show jx g (eI 1 fl)=true from h) (k.drop 1)
  rw [List.drop_one] at this
  exact this
 | .gY _ _ :: g,fl,l,h,k=>by
  have:=eQ g (show jx g (eI 1 fl)=true from h) (k.drop 1)
  rw [List.drop_one] at this
  exact this
 | .mM _ :: g,fl,l,h,k=>by
  have:=eQ g (show jx g (eI 2 fl)=true from h) (k.drop 2)
  have e:l.drop 2=l.tail.tail:=by cases l with
   | nil=>rfl
   | cons a l=>cases l <;> rfl
  rw [e] at this
  exact this
 | .ra :: g,[],_,h,_=>by cases h
 | .ra :: g,f :: fl,[],h,_=>by
  simp only [jx,Bool.and_eq_true] at h
  refine ⟨rfl,eQ g (fl:=fl) h.2 ?_⟩
  cases fl <;> trivial
 | .ra :: g,f :: fl,a :: l,h,k=>by
  simp only [jx,Bool.and_eq_true] at h
  exact ⟨k.1 h.1,eQ g h.2 k.2⟩
 | .tok _ _ _ :: g,fl,l,h,k=>eQ g (show jx g fl=true from h) k
 | .dead :: g,fl,l,h,k=>eQ g (show jx g fl=true from h) k
 | .lp _ :: g,fl,l,h,k=>eQ g (show jx g fl=true from h) k
 | .bY :: g,fl,l,h,k=>eQ g (show jx g fl=true from h) k
theorem wW {n:Nat} {α:Type} {g:α→AV} (hg:∀ x,(g x).under n=true):∀ xs:List α,aF n (xs.map g)=true
 | []=>rfl
 | x :: xs=>by simp only [List.map_cons,aF,hg x,wW hg xs,Bool.and_self]
theorem tQ {α:Type} {g:α→AV} (hg:∀ x,(g x).closed=true):∀ xs:List α,ay (xs.map g)=true
 | []=>rfl
 | x :: xs=>by simp only [List.map_cons,ay,hg x,tQ hg xs,Bool.and_self]
theorem aK.CV (n:Nat) (L:Nat→Nat):∀ (ps:aK) (x:ps.T),nT n (ps.flags n) (ps.km L x)
 | .nil,_=>trivial
 | .cons p .nil,x=>⟨fun h=>Pk L p x h,trivial⟩
 | .cons p (.cons q ps),x=>⟨fun h=>Pk L p x.1 h,(aK.cons q ps).CV n L x.2⟩
where
 Pk (L:Nat→Nat):∀ (p:aj) (x:p.T),p.lcl n=true→aF n (p.km L x).cq=true
  | .list _ p,x,h=>wW (fun y=>p.dj y h) _
  | .int _,_,h=>by cases h
  | .bool,_,h=>by cases h
  | .str,_,h=>by cases h
  | .agg _,_,h=>by cases h
  | .bF _,_,h=>by cases h
  | .own _ _ _,_,h=>by cases h
  | .aM _ _ _,_,h=>by cases h
  | .gk _ _,_,h=>by cases h
  | .mN _,_,h=>by cases h
  | .two _ _,_,h=>by cases h
def Yo (n:Nat):GO→GO→Prop
 | .row cs el,.row dJ Wt=>Wt=el∧cz cs dJ∧aF n dJ=true
 | .tok f sz e,.tok f' a6 e'=>f=f'∧sz=a6∧e=e'
 | .defers a,.defers b=>a=b
 | .map es,.map es'=>(es'=es∧bo es=true)∨∃ l,es'=ab l∧jw (ah es) l∧aF n l=true
 | .aM fs sz e,.aM Ar a6 e'=>fs=Ar∧sz=a6∧e=e'
 | .gY rows sz e,.gY rows' a6 e'=>rows=rows'∧sz=a6∧e=e'
 | .mM fK m left _ t,.mM mid' m' zv cur t'=>fK=mid'∧m=m'∧left=zv∧t=t'∧fK < n∧cur=none
 | .gf l p,.gf l' p'=>l'=l∧p'=p
 | .cK es sz e,.cK es' a6 e'=>a6=sz∧e'=e∧jw es es'∧aF n es'=true
 | _,.dead=>True
 | _,_=>False
def Yp:GO→GO→GO→Prop
 | .loop _ _ fn sl n ps pI bd d _,.loop b p _ _ _ _ _ _ _ dn,go=>go=.loop b p fn sl n ps pI bd d dn
 | _,_,_=>False
theorem H7 {n:Nat} {o o':GO} (h:A3 o o'=true):Yo n o' o:=by
 cases o with
 | tok f sz e=>
  cases o' with
  | tok f' a6 e'=>
   simp only [A3,Bool.and_eq_true] at h
   exact ⟨of_decide_eq_true h.1,Nat.eq_of_beq_eq_true h.2.1,Nat.eq_of_beq_eq_true h.2.2⟩
  | _=>cases h
 | defers a=>
  cases o' with
  | defers b=>cases a <;> cases b <;> first | rfl | cases h
  | _=>cases h
 | dead=>cases o' <;> trivial
 | _=>cases h
theorem MZ {k:DG} {o o':GO} (h:QN k o o'=true):Yp o o' (Pg k o):=by
 cases o with
 | loop b p fn sl n ps pI bd d dn=>
  cases o' with
  | loop b' p' Yq TF n' UY M0 TJ d' dn'=>
   obtain ⟨rfl,rfl,rfl⟩:=DG.Gv (show k.is b' p' dn'=true from h)
   rfl
  | _=>cases h
 | _=>cases h
theorem oY (a:AV):a.entries=ab a.cq:=by cases a <;> rfl
theorem fW {n:Nat} {vs:List AV}:∀ {g:List GL} {B G:List GO} {l l':List AV},je g G=some l→cz l l'→IU l l'→ux n g l'∧J7 n g=true→aF n l'=true→cW vs g B G=true →
  ∀ id go,nth (cV vs g B l') id=some go→∃ go',nth G id=some go'∧(Yo n go' go∨∃ IS,nth B id=some IS∧Yp IS go' go)
 | [],B,G,l,l',_,_,_,_,_,_,id,go,h=>by simp [cV,nth] at h
 | x :: g,[],G,l,l',_,_,_,_,_,ht,_,_,_=>by cases x <;> cases G <;> cases ht
 | x :: g,_ :: _,[],l,l',_,_,_,_,_,ht,_,_,_=>by cases x <;> cases ht
 | .row m :: g,b :: B,o :: G,l,l',hg,hw,hx,qg,hu,ht,id,go,h=>by
   obtain ⟨yD,qF⟩:Ph b o=true∧cW vs g B G=true:=by
    rw [← Bool.and_eq_true]
    cases o <;> exact ht
   cases o with
   | row cs el=>
    have jD:UX b=el:=by
     cases b <;> first | (cases yD; done) | exact Nat.eq_of_beq_eq_true yD
    change (match je g G with
     | some r=>bif Nat.beq cs.length m then some (cs++r) else none
     | none=>none)=some l at hg
    split at hg
    ·rename_i r hr
     cases hm:Nat.beq cs.length m with
     | false=>rw [hm] at hg; cases hg
     | true=>
      rw [hm] at hg
      cases hg
      have hm:=Nat.eq_of_beq_eq_true hm
      obtain ⟨x,y,rfl,k1,k2,k3⟩:=hw.split
      rw [dV,Bool.and_eq_true] at hu
      have e1:(x++y).take m=x:=by rw [← hm,← k3,List.take_left]
      have e2:(x++y).drop m=y:=by rw [← hm,← k3,List.drop_left]
      simp only [cV,e1,e2] at h
      cases id with
      | zero=>simp only [nth] at h; cases h; exact ⟨.row cs el,rfl,.inl ⟨jD,k1,hu.1⟩⟩
      | succ id=>exact fW hr k2 (by obtain ⟨x',y',Z7,k1',L9,k3'⟩:=hx.split; have:=List.append_inj Z7 (by rw [k3,k3']); rw [this.2]; exact L9) (by rw [← e2]; exact qg) hu.2 qF id go h
    ·cases hg
   | _=>cases hg
 | .tok loc sz e :: g,b :: B,o :: G,l,l',hg,hw,hx,qg,hu,ht,id,go,h=>by
   cases o with
   | tok f a6 e'=>
    change (bif Nat.beq sz a6&&Nat.beq e e' then je g G else none)=some l at hg
    change (decide (f=J6 vs loc)&&cW vs g B G)=true at ht
    rw [Bool.and_eq_true] at ht
    cases hm:(Nat.beq sz a6&&Nat.beq e e') with
    | false=>rw [hm] at hg; cases hg
    | true=>
     rw [hm] at hg
     rw [Bool.and_eq_true] at hm
     have q1:=Nat.eq_of_beq_eq_true hm.1
     have q2:=Nat.eq_of_beq_eq_true hm.2
     simp only [cV] at h
     cases id with
     | zero=>
      simp only [nth] at h
      cases h
      exact ⟨.tok f a6 e',rfl,.inl ⟨of_decide_eq_true ht.1,q1.symm,q2.symm⟩⟩
     | succ id=>exact fW hg hw hx qg hu ht.2 id go h
   | _=>cases hg
 | .dead :: g,b :: B,o :: G,l,l',hg,hw,hx,qg,hu,ht,id,go,h=>by
   simp only [cV] at h
   have zj:je g G=some l:=by cases o <;> exact hg
   have qF:cW vs g B G=true:=by cases o <;> exact ht
   cases id with
   | zero=>
    simp only [nth] at h
    cases h
    exact ⟨o,rfl,.inl (by cases o <;> trivial)⟩
   | succ id=>exact fW zj hw hx qg hu qF id go h
 | .lp k :: g,b :: B,o :: G,l,l',hg,hw,hx,qg,hu,ht,id,go,h=>by
   simp only [cV] at h
   have zj:je g G=some l:=by cases o <;> exact hg
   change (QN k b o&&cW vs g B G)=true at ht
   rw [Bool.and_eq_true] at ht
   cases id with
   | zero=>
    simp only [nth] at h
    cases h
    exact ⟨o,rfl,.inr ⟨b,rfl,MZ ht.1⟩⟩
   | succ id=>exact fW zj hw hx qg hu ht.2 id go h
 | .bY :: g,b :: B,o :: G,l,l',hg,hw,hx,qg,hu,ht,id,go,h=>by
   simp only [cV] at h
   have zj:je g G=some l:=by cases o <;> exact hg
   change (A3 b o&&cW vs g B G)=true at ht
   rw [Bool.and_eq_true] at ht
   cases id with
   | zero=>
    simp only [nth] at h
    cases h
    exact ⟨o,rfl,.inl (H7 ht.1)⟩
   | succ id=>exact fW zj hw hx qg hu ht.2 id go h
 | .map :: g,b :: B,o :: G,l,l',hg,hw,hx,qg,hu,ht,id,go,h=>by
   cases o with
   | map es=>
    change (match je g G with
     | some r=>some (AV.list .gX 2 (ah es) :: r)
     | none=>none)=some l at hg
    change (bo es&&cW vs g B G)=true at ht
    rw [Bool.and_eq_true] at ht
    split at hg
    ·rename_i r hr
     cases hg
     cases l' with
     | nil=>exact hw.elim
     | cons a l'=>
      simp only [aF,Bool.and_eq_true] at hu
      simp only [cV,dC,List.tail_cons] at h
      cases id with
      | zero=>
       simp only [nth] at h
       cases h
       refine ⟨.map es,rfl,.inl (.inl ⟨?_,ht.1⟩)⟩
       rw [oY,hx.2.1.1 ht.1]
       exact mT es
      | succ id=>exact fW hr hw.2 hx.2.2.2 qg hu.2 ht.2 id go h
    ·cases hg
   | _=>cases hg
 | .CP :: g,b :: B,o :: G,l,l',hg,hw,hx,qg,hu,ht,id,go,h=>by
   have qF:cW vs g B G=true:=by cases o <;> exact ht
   cases o with
   | gf s pos=>
    change (match je g G with
     | some r=>some (AV.str s :: AV.int .i64 pos :: r)
     | none=>none)=some l at hg
    split at hg
    ·rename_i r hr
     cases hg
     match l',hw,hx,hu,h with
     | [],hw,_,_,_=>exact hw.elim
     | [_],hw,_,_,_=>exact hw.2.elim
     | a :: a' :: l',hw,hx,hu,h=>
      simp only [aF,Bool.and_eq_true] at hu
      simp only [cV,dC,List.tail_cons] at h
      have e1:=hx.1 (by simp [AV.exact])
      have e2:=hx.2.2.2.1 (by simp [AV.exact])
      subst e1 e2
      cases id with
      | zero=>
       simp only [nth] at h
       cases h
       exact ⟨.gf s pos,rfl,.inl ⟨rfl,by simp [AV.pj]⟩⟩
      | succ id=>exact fW hr hw.2.2 hx.2.2.2.2.2.2 qg hu.2.2 qF id go h
    ·cases hg
   | _=>cases hg
 | .cK sz e :: g,b :: B,o :: G,l,l',hg,hw,hx,qg,hu,ht,id,go,h=>by
   have qF:cW vs g B G=true:=by cases o <;> exact ht
   cases o with
   | cK es a6 e'=>
    change (match je g G with
     | some r=>bif Nat.beq sz a6&&Nat.beq e e' then some (AV.list .gX a6 es :: r) else none
     | none=>none)=some l at hg
    split at hg
    ·rename_i r hr
     cases hm:(Nat.beq sz a6&&Nat.beq e e') with
     | false=>rw [hm] at hg; cases hg
     | true=>
     rw [hm] at hg
     rw [Bool.and_eq_true] at hm
     have q1:=Nat.eq_of_beq_eq_true hm.1
     have q2:=Nat.eq_of_beq_eq_true hm.2
     cases hg
     cases l' with
     | nil=>exact hw.elim
     | cons a l'=>
      simp only [aF,Bool.and_eq_true] at hu
      simp only [cV,dC,List.tail_cons] at h
      cases id with
      | zero=>
       simp only [nth] at h
       cases h
       exact ⟨.cK es a6 e',rfl,.inl ⟨q1,q2,hx.2.2.1,qg.1.1⟩⟩
      | succ id=>exact fW hr hw.2 hx.2.2.2 ⟨qg.1.2,qg.2⟩ hu.2 qF id go h
    ·cases hg
   | _=>cases hg
 | .aM sz e :: g,b :: B,o :: G,l,l',hg,hw,hx,qg,hu,ht,id,go,h=>by
   have qF:cW vs g B G=true:=by cases o <;> exact ht
   cases o with
   | aM fs a6 e'=>
    change (match je g G with
     | some r=>bif Nat.beq sz a6&&Nat.beq e e' then some (AV.list .gX 1 (cr fs) :: r) else none
     | none=>none)=some l at hg
    split at hg
    ·rename_i r hr
     cases hm:(Nat.beq sz a6&&Nat.beq e e') with
     | false=>rw [hm] at hg; cases hg
     | true=>
     rw [hm] at hg
     rw [Bool.and_eq_true] at hm
     have q1:=Nat.eq_of_beq_eq_true hm.1
     have q2:=Nat.eq_of_beq_eq_true hm.2
     cases hg
     cases l' with
     | nil=>exact hw.elim
     | cons a l'=>
      simp only [aF,Bool.and_eq_true] at hu
      simp only [cV,dC,List.tail_cons] at h
      cases id with
      | zero=>
       simp only [nth] at h
       cases h
       refine ⟨.aM fs a6 e',rfl,.inl ⟨?_,q1.symm,q2.symm⟩⟩
       rw [hx.2.1.1 (wN fs)]
       exact (tN fs).symm
      | succ id=>exact fW hr hw.2 hx.2.2.2 qg hu.2 qF id go h
    ·cases hg
   | _=>cases hg
 | .gY sz e :: g,b :: B,o :: G,l,l',hg,hw,hx,qg,hu,ht,id,go,h=>by
   cases o with
   | gY rows a6 e'=>
    change (match je g G with
     | some r=>bif Nat.beq sz a6&&Nat.beq e e' then some (AV.list .gX 1 (H6 a6 rows) :: r) else none
     | none=>none)=some l at hg
    change (CR rows&&cW vs g B G)=true at ht
    rw [Bool.and_eq_true] at ht
    split at hg
    ·rename_i r hr
     cases hm:(Nat.beq sz a6&&Nat.beq e e') with
     | false=>rw [hm] at hg; cases hg
     | true=>
     rw [hm] at hg
     rw [Bool.and_eq_true] at hm
     have q1:=Nat.eq_of_beq_eq_true hm.1
     have q2:=Nat.eq_of_beq_eq_true hm.2
     cases hg
     cases l' with
     | nil=>exact hw.elim
     | cons a l'=>
      simp only [aF,Bool.and_eq_true] at hu
      simp only [cV,dC,List.tail_cons] at h
      cases id with
      | zero=>
       simp only [nth] at h
       cases h
       refine ⟨.gY rows a6 e',rfl,.inl ⟨?_,q1.symm,q2.symm⟩⟩
       show rows=wO a.cq
       unfold wO
       rw [hx.2.1.2 (wP _ _ ht.1)]
       exact (CQ _ rows).symm
      | succ id=>exact fW hr hw.2 hx.2.2.2 qg hu.2 ht.2 id go h
    ·cases hg
   | _=>cases hg
 | .ra :: g,b :: B,o :: G,l,l',hg,hw,hx,qg,hu,ht,id,go,h=>by
   have qF:cW vs g B G=true:=by cases o <;> exact ht
   cases o with
   | map es=>
    change (match je g G with
     | some r=>some (AV.list .gX 2 (ah es) :: r)
     | none=>none)=some l at hg
    split at hg
    ·rename_i r hr
     cases hg
     cases l' with
     | nil=>exact hw.elim
     | cons a l'=>
      simp only [aF,Bool.and_eq_true] at hu
      simp only [cV,dC,List.tail_cons] at h
      cases id with
      | zero=>
       simp only [nth] at h
       cases h
       exact ⟨.map es,rfl,.inl (.inr ⟨a.cq,oY a,hx.2.2.1,qg.1.1⟩)⟩
      | succ id=>exact fW hr hw.2 hx.2.2.2 ⟨qg.1.2,qg.2⟩ hu.2 qF id go h
    ·cases hg
   | _=>cases hg
 | .mM fK :: g,b :: B,o :: G,l,l',hg,hw,hx,qg,hu,ht,id,go,h=>by
   obtain ⟨yD,qF⟩:Pj b o=true∧cW vs g B G=true:=by
    rw [← Bool.and_eq_true]
    cases o <;> exact ht
   cases o with
   | mM mid' k left cur t=>
    have jD:UW b=t:=by
     cases b <;> first | (cases yD; done) | exact Nat.eq_of_beq_eq_true yD
    change (match je g G with
     | some r=>bif Nat.beq fK mid' then some (AV.int .i64 k :: AV.list .gX 1 (cr left) :: r) else none
     | none=>none)=some l at hg
    split at hg
    ·rename_i r hr
     cases hm:Nat.beq fK mid' with
     | false=>rw [hm] at hg; cases hg
     | true=>
     rw [hm] at hg
     have q1:=Nat.eq_of_beq_eq_true hm
     subst q1
     cases hg
     have Yr:=qg.2
     simp only [J7,Bool.and_eq_true] at Yr
     match l',hw,hx,hu,h with
     | [],hw,_,_,_=>exact hw.elim
     | [_],hw,_,_,_=>exact hw.2.elim
     | a :: a' :: l',hw,hx,hu,h=>
      simp only [aF,Bool.and_eq_true] at hu
      simp only [cV,dC,List.tail_cons] at h
      have e1:=hx.1 (by simp [AV.exact])
      have e2:=hx.2.2.2.2.1.1 (wN left)
      subst e1
      cases id with
      | zero=>
       simp only [nth] at h
       cases h
       refine ⟨.mM fK k left cur t,rfl,.inl ⟨rfl,by simp [AV.pj],?_,jD.symm,gH Yr.1,rfl⟩⟩
       rw [e2]
       exact (tN left).symm
      | succ id=>exact fW hr hw.2.2 hx.2.2.2.2.2.2 ⟨qg.1,Yr.2⟩ hu.2.2 qF id go h
    ·cases hg
   | _=>cases hg
theorem cB {vs:List AV}:∀ {g:List GL} {B:List GO} {l:List AV},(cV vs g B l).length=g.length
 | [],_,_=>rfl
 | .row m :: g,B,l=>by simp [cV,cB (g:=g)]
 | .tok _ _ _ :: g,B,l=>by simp [cV,cB (g:=g)]
 | .dead :: g,B,l=>by simp [cV,cB (g:=g)]
 | .lp _ :: g,B,l=>by simp [cV,cB (g:=g)]
 | .bY :: g,B,l=>by simp [cV,cB (g:=g)]
 | .map :: g,B,l=>by simp [cV,cB (g:=g)]
 | .cK _ _ :: g,B,l=>by simp [cV,cB (g:=g)]
 | .CP :: g,B,l=>by simp [cV,cB (g:=g)]
 | .aM _ _ :: g,B,l=>by simp [cV,cB (g:=g)]
 | .gY _ _ :: g,B,l=>by simp [cV,cB (g:=g)]
 | .ra :: g,B,l=>by simp [cV,cB (g:=g)]
 | .mM _ :: g,B,l=>by simp [cV,cB (g:=g)]
theorem fO.lok {R0:af} {w0:World} {Pl:RO} {IS go' go:GO} {ro:RO} (e:Ext R0 w0 R w) (h0:fO R0 w0 IS Pl) (hle:bQ Pl ro) (h:fO R' w go' ro) (k:Yp IS go' go):fO R w go ro:=by
 cases IS with
 | loop b p fn sl n ps pI bd d dn=>
  cases go' with
  | loop b' p' Yq TF n' UY M0 TJ d' dn'=>
   change go=_ at k
   subst k
   cases Pl with
   | bw bb=>
    simp only [bQ] at hle
    subst hle
    obtain ⟨⟨r0,Ys,l1,l2,l3,l4,l5,l6,l7,l8,l9,l10⟩,l11⟩:=h0
    obtain ⟨⟨r,db,m1,m2,m3,m4,m5,m6,m7,m8,m9,m10⟩,m11⟩:=h
    obtain ⟨r1,q1,q2,q3,q4,q5,q6⟩:=e.lp bb r0 l1
    have hr:r1=r:=by
     have:=q1.symm.trans m1
     injection this with this
     injection this with this
    subst hr
    exact ⟨⟨r1,Ys,q1,m2,m3,by rw [q2]; exact nl.mono e l4,by rw [q2]; exact l5,by rw [q3]; exact l6,by rw [q4]; exact l7,by rw [q5]; exact l8,by rw [q6]; exact l9,e.bw l10⟩,l11⟩
   | none=>exact h0.elim
   | aR=>exact h0.elim
   | tok _ _ _=>exact h0.elim
   | aM _=>exact h0.elim
  | _=>exact k.elim
 | _=>exact k.elim
theorem dg.cut {n:Nat}:∀ {es:List (AV × AV)} {az:List MapEntry},eP (ah es)=true→dg R w es az→dg (R.cut n) w es az
 | [],[],_,_=>trivial
 | [],_ :: _,_,h=>h.elim
 | _ :: _,[],_,h=>h.elim
 | (k,v) :: es,en :: az,he,h=>by
  simp only [ah,eP,AV.exact,Bool.and_true,Bool.and_eq_true] at he
  exact ⟨h.1.move (mG R n) (fV n (mF he.1.1)),h.2.1.move (mG R n) (fV n (mF he.1.2)),dg.cut he.2 h.2.2⟩
theorem CW {n:Nat} {v:AV} (h:v.under n=true) (k:v.aN=true):aF n v.cells=true:=by
 cases v <;> first | exact h | (simp [AV.aN] at k; done) | (simp only [AV.cells,aF,Bool.and_true]; exact h)
theorem wX {n sz:Nat}:∀ {es es':List AV},jw es es'→da sz es→aF n es'=true→da sz es'∧cz (ar es) (ar es')∧aF n (ar es')=true
 | [],[],_,_,_=>⟨(fun e he=>by simp at he),trivial,rfl⟩
 | e :: es,e' :: es',h,k,mO=>by
  obtain ⟨h1,h2⟩:=h
  simp only [aF,Bool.and_eq_true] at mO
  obtain ⟨q1,q2⟩:=k e (by simp)
  obtain ⟨i1,i2,i3⟩:=wX h2 (fun x hx=>k x (by simp [hx])) mO.2
  have hc:=h1.cells q2
  have ht:e'.aN=true:=by rw [h1.bF,q2]
  refine ⟨fun x hx=>?_,hc.append i2,by show aF n (e'.cells++ar es')=true; rw [dV,CW mO.1 ht,i3]; rfl⟩
  rcases List.mem_cons.1 hx with rfl | hx
  ·exact ⟨by rw [← hc.length,q1],ht⟩
  ·exact i1 x hx
 | [],_ :: _,h,_,_=>h.elim
 | _ :: _,[],h,_,_=>h.elim
theorem na.head {l r:List AV} (h:na l r):(AV.cq (dC l)).length=(AV.cq (dC r)).length:=by
 cases l <;> cases r <;> first | rfl | exact h.1 | exact h.elim
theorem na.tail {l r:List AV} (h:na l r):na l.tail r.tail:=by
 cases l <;> cases r <;> first | exact h | exact h.2 | exact h.elim
theorem cC:∀ (g:List GL) {l r:List AV} (i:Nat),na l r→jF g l i=jF g r i
 | [],_,_,_,_=>rfl
 | .cK _ _ :: g,l,r,0,h=>h.head
 | .cK _ _ :: g,l,r,i+1,h=>cC g i h.tail
 | .row _ :: g,l,r,0,h=>rfl
 | .row n :: g,l,r,i+1,h=>cC g i (h.drop n)
 | .map :: g,l,r,0,h=>rfl
 | .map :: g,l,r,i+1,h=>cC g i h.tail
 | .CP :: g,l,r,0,h=>rfl
 | .CP :: g,l,r,i+1,h=>cC g i h.tail.tail
 | .aM _ _ :: g,l,r,0,h=>rfl
 | .aM _ _ :: g,l,r,i+1,h=>cC g i h.tail
 | .gY _ _ :: g,l,r,0,h=>rfl
 | .gY _ _ :: g,l,r,i+1,h=>cC g i h.tail
 | .ra :: g,l,r,0,h=>rfl
 | .ra :: g,l,r,i+1,h=>cC g i h.tail
 | .mM _ :: g,l,r,0,h=>rfl
 | .mM _ :: g,l,r,i+1,h=>cC g i h.tail.tail
 | .tok _ _ _ :: g,l,r,0,h=>rfl
 | .tok _ _ _ :: g,l,r,i+1,h=>cC g i h
 | .dead :: g,l,r,0,h=>rfl
 | .dead :: g,l,r,i+1,h=>cC g i h
 | .lp _ :: g,l,r,0,h=>rfl
 | .lp _ :: g,l,r,i+1,h=>cC g i h
 | .bY :: g,l,r,0,h=>rfl
 | .bY :: g,l,r,i+1,h=>cC g i h
theorem dg.UZ {n:Nat}:∀ {es:List (AV × AV)} {l:List AV} {az:List MapEntry},jw (ah es) l→aF n l=true→dg R w es az→dg (R.cut n) w (ab l) az
 | [],[],[],_,_,_=>trivial
 | [],[],_ :: _,_,_,h=>h.elim
 | [],_ :: _,_,h,_,_=>h.elim
 | (_,_) :: _,[],_,h,_,_=>h.elim
 | (_,_) :: _,_ :: _,[],_,_,h=>h.elim
 | (k,v) :: es,a :: l,en :: az,hd,hu,h=>by
  obtain ⟨d1,d2⟩:=hd
  simp only [aF,Bool.and_eq_true] at hu
  have hc:=d1.cells rfl
  have hl:[k,v].length=a.cells.length:=hc.length
  cases a with
  | agg cs=>
   match cs,hc,hl with
   | [k',v'],hc,_=>
    have QO:aF n [k',v']=true:=hu.1
    simp only [aF,Bool.and_true,Bool.and_eq_true] at QO
    exact ⟨(hc.1 _ _ _ h.1).move (mG R n) QO.1,(hc.2.1 _ _ _ h.2.1).move (mG R n) QO.2,dg.UZ d2 hu.2 h.2.2⟩
   | [],_,hl=>simp [AV.cells] at hl
   | [_],_,hl=>simp [AV.cells] at hl
   | _ :: _ :: _ :: _,_,hl=>simp [AV.cells] at hl
  | _=>simp [AV.cells] at hl
theorem wY {n sz:Nat}:∀ {es:List AV},fq sz es→aF n (ar es)=true
 | [],_=>rfl
 | e :: es,h=>by
  have h1:=h e List.mem_cons_self
  have h2:=wY (n:=n) (sz:=sz) (es:=es) fun x hx=>h x (List.mem_cons_of_mem _ hx)
  simp only [ar,dV,h2,Bool.and_true]
  have hk:=h1.2.2
  cases e with
  | agg cs=>exact cm n (show ay cs=true by simpa [AV.closed] using hk)
  | bF cs=>cases h1.2.1
  | _=>simp only [AV.cells,aF,Bool.and_true]; exact fV n hk
theorem fO.gok {n:Nat} {go go':GO} {ro:RO} (h:fO R w go' ro) (k:Yo n go' go):fO (R.cut n) w go ro:=by
 cases go with
 | dead=>
  cases ro with
  | none=>trivial
  | aR=>trivial
  | bw b=>exact h.lt rfl
  | tok f b c=>exact h.lt rfl
  | aM ts=>exact fun j f b c hj=>h.lt ⟨j,f,c,hj⟩
 | row cs el=>
  cases go' with
  | row dJ Wt=>
   cases ro with
   | bw b=>
    obtain ⟨vs,h1,h2,h3,h4⟩:=h
    obtain ⟨rfl,k⟩:=k
    exact ⟨vs,h1,(k.1.rel h2).move (mG R n) k.2,h3,h4⟩
   | none=>exact h.elim
   | aR=>exact h.elim
   | tok _ _ _=>exact h.elim
   | aM _=>exact h.elim
  | _=>exact k.elim
 | tok f sz e=>
  cases go' with
  | tok f' a6 e'=>
   obtain ⟨rfl,rfl,rfl⟩:=k
   cases ro with
   | bw b=>exact h.elim
   | none=>exact h.elim
   | aR=>exact h
   | tok _ _ _=>exact h
   | aM _=>exact h.elim
  | _=>exact k.elim
 | defers a=>
  cases go' with
  | defers b=>
   change b=a at k
   subst k
   cases ro <;> exact h
  | _=>exact k.elim
 | map es=>
  cases go' with
  | map es'=>
   cases ro with
   | bw b=>
    obtain ⟨az,clock,h1,h2,h3⟩:=h
    rcases k with ⟨rfl,k2⟩ | ⟨l,rfl,k2,k3⟩
    ·exact ⟨az,clock,h1,dg.cut k2 h2,h3⟩
    ·exact ⟨az,clock,h1,dg.UZ k2 k3 h2,h3⟩
   | none=>exact h.elim
   | aR=>exact h.elim
   | tok _ _ _=>exact h.elim
   | aM _=>exact h.elim
  | _=>exact k.elim
 | aM fs sz e=>
  cases go' with
  | aM Ar a6 e'=>
   obtain ⟨rfl,rfl,rfl⟩:=k
   cases ro <;> exact h
  | _=>exact k.elim
 | gY rows sz e=>
  cases go' with
  | gY rows' a6 e'=>
   obtain ⟨rfl,rfl,rfl⟩:=k
   cases ro with
   | none=>exact h.elim
   | aR=>exact h.elim
   | bw _=>exact h.elim
   | tok _ _ _ _=>exact h.elim
   | aM ts=>
    obtain ⟨h1,h2,h3⟩:=h
    refine ⟨h1,h2,fun j row t hj ht=>?_⟩
    have h4:=h3 j row t hj ht
    cases t with
    | aR=>exact h4
    | full _=>exact h4
    | tok f b c=>
     obtain ⟨h5,jD,cur,vs,k1,k2,k3,k4,k5,k6,k7,k8⟩:=h4
     exact ⟨h5,jD,cur,vs,k1,k2,k3,k4,k5,k6.move (mG R n) (wY jD),k7,k8⟩
  | _=>exact k.elim
 | mM fK m left cur t=>
  cases go' with
  | mM mid' m' zv py t'=>
   obtain ⟨rfl,rfl,rfl,rfl,k,rfl⟩:=k
   cases ro with
   | bw b=>obtain ⟨bm,seen,c0,h1,h2,h3,h4,h5,h6,_⟩:=h; exact ⟨bm,seen,c0,ij.2 ⟨k,h1⟩,h2,h3,h4,h5,h6,fun i hi=>by cases hi⟩
   | none=>exact h.elim
   | aR=>exact h.elim
   | tok _ _ _=>exact h.elim
   | aM _=>exact h.elim
  | _=>exact k.elim
 | gf l p=>
  cases go' with
  | gf l' p'=>
   obtain ⟨rfl,rfl⟩:=k
   cases ro <;> exact h
  | _=>exact k.elim
 | cK es sz e=>
  cases go' with
  | cK es' a6 e'=>
   obtain ⟨rfl,rfl,k,kc⟩:=k
   cases ro with
   | bw b=>exact h.elim
   | none=>exact h.elim
   | aM _=>exact h.elim
   | aR=>
    have he:es'=[]:=h
    subst he
    exact List.eq_nil_of_length_eq_zero k.length.symm
   | tok f b c=>
    obtain ⟨yx,h0,h1,cur,vs,h2,h3,h4,h5,h6,h7,h8,h9⟩:=h
    obtain ⟨k1,k2,k3⟩:=wX k h1 kc
    exact ⟨yx,h0.trans k.length,k1,cur,vs,h2,h3,h4,h5,h6,(k2.rel h7).move (mG R n) k3,h8,h9⟩
  | _=>exact k.elim
 | _=>cases go' <;> exact k.elim
theorem oL.ids:∀ {l:List Nat} {ds:List Deferred},oL R l ds→∀ id∈l,id < R.obj.length
 | [],[],_,id,hi=>by simp at hi
 | x :: l,d :: ds,h,id,hi=>by
  obtain ⟨⟨b,h1,_⟩,h2⟩:=h
  rcases List.mem_cons.1 hi with rfl | hi
  ·exact aT h1
  ·exact oL.ids h2 id hi
 | [],_ :: _,h,_,_=>h.elim
 | _ :: _,[],h,_,_=>h.elim
theorem oL.cut {n:Nat}:∀ {l:List Nat} {ds:List Deferred},oL R l ds→(∀ id∈l,id < n)→oL (R.cut n) l ds
 | [],[],_,_=>trivial
 | x :: l,d :: ds,h,hi=>by
  obtain ⟨⟨b,h1,h3⟩,h2⟩:=h
  exact ⟨⟨b,ij.2 ⟨hi x (by simp),h1⟩,h3⟩,oL.cut h2 fun id hm=>hi id (by simp [hm])⟩
 | [],_ :: _,h,_=>h.elim
 | _ :: _,[],h,_=>h.elim
theorem tR {n:Nat} {tmps:Array Value} {ae base:a8} (hT:nl R w β ae tmps):∀ {l:List (Tmp × Nat × Nat)},Gw ae l=true→nl (R.cut n) w β base tmps→nl (R.cut n) w β (nR l base) tmps
 | [],_,h=>h
 | (t,k,o) :: l,hl,h=>fun i hi=>by
  simp only [Gw,Bool.and_eq_true] at hl
  simp only [nR] at hi ⊢
  by_cases e:t=i
  ·subst e
   rw [ax]
   have h1:=hl.1
   split at h1
   ·rename_i k' o' hk
    rw [Bool.and_eq_true] at h1
    have e1:=Nat.eq_of_beq_eq_true h1.1
    have e2:=Nat.eq_of_beq_eq_true h1.2
    subst e1 e2
    obtain ⟨c,q1,q2⟩:=hT t (by rw [hk]; simp)
    rw [hk] at q2
    exact ⟨c,q1,q2⟩
   ·cases h1
  ·rw [aI e] at hi ⊢
   exact tR hT hl.2 h i hi
theorem bI.QP {t:bI} {v:t.ps.T} (hs:aB s s') (h0:aQ E R w β s a) (h:aQ E R' w' β' s' a') (st:Ext R w R' w') (hd:t.dec s s'=some v) :
  aQ E (R'.cut s.G.length) w' β' (t.st s v) a'∧Ext R w (R'.cut s.G.length) w'∧∀ k cs,cX (t.st s v).boxes k=some cs→∃ dJ,cX s'.boxes k=some dJ:=by
 have hlen:=h0.g.len
 unfold bI.dec at hd
 cases cS:t.ok s s' with
 | false=>rw [cS] at hd; cases hd
 | true=>
 rw [cS] at hd
 simp only [cond_true] at hd
 unfold bI.ok at cS
 simp only [Bool.and_eq_true] at cS
 obtain ⟨⟨⟨⟨⟨k1,k2⟩,k3⟩,k4⟩,k5,k7,k8⟩,k6⟩:=cS
 obtain ⟨pre,CE⟩:=hs.sl
 obtain ⟨preB,Pm⟩:=hs.bx
 rw [CE,CT] at k1
 rw [Pm,CT] at k2
 have k3:=Gx k3
 have k4:=Nat.eq_of_beq_eq_true k4
 split at hd
 ·rename_i la lb lc g1 g2 g3
  cases hv:t.ps.H4 (jF t.g lc) (la++(lb++lc)) with
  | none=>rw [hv] at hd; cases hd
  | some v'=>
  rw [hv] at hd
  simp only [Option.bind_some] at hd
  cases Em:cW (t.oN v') t.g s.G s'.G with
  | false=>rw [Em] at hd; cases hd
  | true=>
  rw [Em] at hd
  cases hd
  have Yt:∀ {ts:List Tmp} {l:List AV},wQ s'.ae ts=some l→l.length=ts.length:=by
   intro ts
   induction ts with
   | nil=>intro l hl; simp only [wQ] at hl; cases hl; rfl
   | cons t ts ih=>
    intro l hl
    unfold wQ at hl
    split at hl
    ·split at hl
     ·rename_i hr
      cases hl
      simp [ih hr]
     ·cases hl
    ·cases hl
  have Yu:∀ {bx:List (Nat × Nat)} {l:List AV},wR s'.boxes bx=some l→l.length=A4 bx:=by
   intro bx
   induction bx with
   | nil=>intro l hl; simp only [wR] at hl; cases hl; rfl
   | cons x bx ih=>
    obtain ⟨k,m⟩:=x
    intro l hl
    unfold wR at hl
    split at hl
    ·split at hl
     ·rename_i cs _ _ r hr
      cases hm:Nat.beq cs.length m with
      | false=>rw [hm] at hl; cases hl
      | true=>
       rw [hm] at hl
       cases hl
       simp only [A4,List.length_append,ih hr,Nat.eq_of_beq_eq_true hm]
     ·cases hl
    ·cases hl
  obtain ⟨hw,hex⟩:=t.ps.MX _ hv
  have Pn:t.oN v=t.ps.km (jF t.g lc) v:=by
   unfold bI.oN
   congr 1
   funext i
   have hl:=hex.UU.trans (t.ps.nP (jF t.g lc) (fun _=>0) v)
   have HW:=(hl.drop t.sl.length).drop (A4 t.bx)
   rw [← Yt g1,List.drop_left,← Yu g2,List.drop_left,Yt g1,Yu g2] at HW
   exact (cC t.g i HW).symm
  have hu:aF s.G.length (t.oN v)=true:=by
   rw [Pn,t.ps.H5 _ hv]
   exact t.ps.Fa _ k5 _
  rw [← Pn] at hw hex
  have U0:∃ xa xb xc,t.oN v=xa++(xb++xc)∧cz la xa∧cz lb xb∧cz lc xc∧xa.length=la.length∧xb.length=lb.length∧IU lc xc:=by
   obtain ⟨xa,r,h1,h2,h3,h4⟩:=hw.split
   obtain ⟨xb,xc,rfl,h6,h7,h8⟩:=h3.split
   rw [h1] at hex
   obtain ⟨ya,yr,g1,_,g3,g4⟩:=hex.split
   obtain ⟨_,rfl⟩:=List.append_inj g1 (by rw [h4,g4])
   obtain ⟨yb,yc,k1,_,k3,k4⟩:=g3.split
   obtain ⟨_,rfl⟩:=List.append_inj k1 (by rw [h8,k4])
   exact ⟨xa,xb,xc,h1,h2,h6,h7,h4,h8,k3⟩
  obtain ⟨xa,xb,xc,hx,wa,wb,wc,la1,lb1,exc⟩:=U0
  have Yv:aF s.G.length xa=true∧aF s.G.length xb=true∧aF s.G.length xc=true:=by
   rw [hx,dV,dV] at hu
   simp only [Bool.and_eq_true] at hu
   exact ⟨hu.1,hu.2.1,hu.2.2⟩
  have e1:(t.oN v).drop t.sl.length=xb++xc:=by rw [hx,← Yt g1,← la1,List.drop_left]
  have e2:(xb++xc).drop (A4 t.bx)=xc:=by rw [← Yu g2,← lb1,List.drop_left]
  have qg:ux s.G.length t.g xc:=by
   have hf:=((aK.CV s.G.length _ t.ps v).drop t.sl.length).drop (A4 t.bx) (l:=(t.oN v).drop t.sl.length)
   rw [e1,e2] at hf
   exact eQ t.g k7 hf
  have old:∀ {l:List AV} {cs:List Value},aC R w l cs→aF s.G.length l=true:=fun hr=>hr.under (by omega)
  have mv:=mG R' s.G.length
  have Wu:∀ k cs,cX s'.boxes k=some cs→wV R' w' β' k cs:=fun k cs hk=>h.b.box k cs hk
  have WO:∀ k cs,cX (tO t.bx (xb++xc) s.boxes) k=some cs→wV (R'.cut s.G.length) w' β' k cs∧∃ dJ,cX s'.boxes k=some dJ:=fun k cs hk=>by
   refine CU (K:=fun _=>False) Wu g2 wb Yv.2.1 (fun k cs _ h1 h2=>?_) k cs (fun h=>h) hk
   refine ⟨by rw [Pm]; exact CS h1 h2 k2,?_⟩
   obtain ⟨⟨vs,el,_,h4,_⟩,_⟩:=h0.b.box k cs h2
   exact old h4
  have stG:(t.st s v).G=cV (t.oN v) t.g s.G xc:=by simp only [bI.st,e1,e2]
  have stB:(t.st s v).boxes=tO t.bx (xb++xc) s.boxes:=by simp only [bI.st,e1]
  have stS:(t.st s v).ae=nR t.TG (nQ t.sl (xa++(xb++xc)) (wS t.W s.ae)):=by simp only [bI.st,hx]
  have ext:Ext R w (R'.cut s.G.length) w':=⟨st.I,st.cell,fun id ro hi=>by
   obtain ⟨jm,h1,h2⟩:=st.obj id ro hi
   exact ⟨jm,ij.2 ⟨by have:=aT hi; omega,h1⟩,h2⟩,st.lp⟩
  refine ⟨⟨⟨?_,fun id go ro h1 h2=>?_,fun i j ri rj b h1 h2=>h.g.inj i j ri rj b (ij.1 h1).2 (ij.1 h2).2,h.g.wf,fun g cs hg=>(h.g.ck g cs hg).move mv (cm _ (E.vg g cs hg)),h.g.lo⟩,?_,?_,?_,?_⟩,ext,fun k cs hk=>?_⟩
  ·rw [stG,cB,k4]
   have:=h.g.len
   have h3:s.G.length≤R'.obj.length:=by
    rcases Nat.lt_or_ge R'.obj.length s.G.length with bK | qe
    ·exfalso
     have hx:R'.obj.length < R.obj.length:=by omega
     obtain ⟨jm,h1,_⟩:=st.obj R'.obj.length R.obj[R'.obj.length] (by rw [aG]; exact List.getElem?_eq_getElem hx)
     have:=aT h1
     omega
    ·exact qe
   simp [af.cut]
   omega
  ·rw [stG] at h1
   obtain ⟨go',h3,h4⟩:=fW g3 wc exc ⟨qg,k8⟩ Yv.2.2 Em id go h1
   rcases h4 with h4 | ⟨IS,h5,h4⟩
   ·exact (h.g.obj id go' ro h3 (ij.1 h2).2).gok h4
   ·have bK:=aT h5
    rw [← hlen] at bK
    obtain ⟨Pl,h6⟩:∃ Pl,nth R.obj id=some Pl:=⟨R.obj[id],by rw [aG]; exact List.getElem?_eq_getElem bK⟩
    obtain ⟨jm,h7,h8⟩:=ext.obj id Pl h6
    have:jm=ro:=Option.some.inj (h7.symm.trans h2)
    subst this
    exact fO.lok ext (h0.g.obj id IS Pl h5 h6) h8 (h.g.obj id go' jm h3 (ij.1 h2).2) h4
  ·rw [stB]
   refine ⟨fun k cs hk=>(WO k cs hk).1,fun k k' cs dJ hk gm he=>?_⟩
   obtain ⟨_,c1,Qn⟩:=WO k cs hk
   obtain ⟨_,c2,HT⟩:=WO k' dJ gm
   exact h.b.inj k k' c1 c2 Qn HT he
  ·rw [stS]
   have hT:wT (R'.cut s.G.length) w' β' (fun _=>False) (nQ t.sl (xa++(xb++xc)) (wS t.W s.ae)) a'.tmps:=by
    refine tP mv h.t g1 (l':=xa) (r:=lb++lc) (r':=xb++xc) (wa.append (wb.append wc)) la1.symm Yv.1 (wU fun i hi hn=>?_)
    have hi1:TH t.sl t.W i=false:=by
     simp only [TH,Bool.or_eq_false_iff]
     refine ⟨?_,?_⟩
     ·cases hc:Mb t.sl i with
      | false=>rfl
      | true=>exact absurd (.inr (.inl (A5.1 hc))) hi
     ·cases hc:Mb t.W i with
      | false=>rfl
      | true=>exact absurd (.inl (A5.1 hc)) hi
    have hk:=A7 hi1 k1
    rw [← CE] at hk
    obtain ⟨c,h1,h2⟩:=h.t i (by rw [hk]; exact hn)
    rw [hk] at h2
    refine ⟨c,h1,?_⟩
    obtain ⟨c0,_,h4⟩:=h0.t i hn
    revert h2 h4
    cases lk s.ae i with
    | none=>exact fun _ _=>trivial
    | lp k off=>exact fun h2 _=>h2
    | v x=>exact fun h2 h4=>Rel.move mv (Rel.under (by omega) h4) h2
   exact tR h.t k6 (fun i hi=>hT i (fun h=>h) hi)
  ·show a'.tmps.size=s.n
   rw [h.n,hs.n]
  ·show oL _ s.marks a'.defers
   have:=h.d
   rw [k3] at this
   exact this.cut fun id aX=>by have:=h0.d.ids id aX; omega
  ·rw [stB] at hk
   exact (WO k cs hk).2
 ·cases hd
theorem bI.BP {t:bI} {v:t.ps.T} (hs:aB s s') (h0:aQ E R w β s a) (h:aQ E R' w' β' s' a') (st:Step R w β s.boxes R' w' β' s'.boxes) (hd:t.dec s s'=some v) :
  aQ E (R'.cut s.G.length) w' β' (t.st s v) a'∧Step R w β s.boxes (R'.cut s.G.length) w' β' (t.st s v).boxes:=by
 obtain ⟨h1,h2,h3⟩:=bI.QP hs h0 h st.ext hd
 refine ⟨h1,h2,st.os,st.tape,st.output,st.size,st.bY,fun b hb ho=>st.own b hb ?_,st.im⟩
 rcases ho with ho | ⟨k,cs,hk,rfl⟩
 ·exact .inl (nS ho)
 ·obtain ⟨c1,Qn⟩:=h3 k cs hk
  exact .inr ⟨k,c1,Qn,rfl⟩
end BP
end Go.Am
