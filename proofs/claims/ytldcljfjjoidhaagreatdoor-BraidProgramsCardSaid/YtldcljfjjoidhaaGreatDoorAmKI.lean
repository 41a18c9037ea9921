/- The abstract machine: what is asked of bodies; values are brought to a short form. -/
import Derived.Test.YtldcljfjjoidhaaGreatDoorAmKH
import Derived.RangeFuncIn
import Derived.RangeFuncRecord
set_option linter.all false
namespace Go.Am
open Go
def bu (dt:Nat→Option af):Code→Bool
 | .region id ops true=>match dt id with
  | some p=>Dj ops p
  | none=>false
 | .seq x y=>bu dt x&&bu dt y
 | .cond _ x y=>bu dt x&&bu dt y
 | .block _ c=>bu dt c
 | .loop c=>bu dt c
 | .scope c=>bu dt c
 | .rangeFunc _ _ a b=>bu dt a&&bu dt b
 | _=>true
structure Gb extends Env where
 dt:FuncId→Nat→Option af
 okF:FuncId→Bool
 PJ:∀ f fn c,okF f=true→P.funcs[f]?=some fn→fn.body=some c→bu (dt f) c=true
def iD {α:Type} (n:Nat) (K:Nat→α):α:=match n with
 | 0=>K 0
 | m+1=>K (Nat.succ m)
def vo {α:Type} (n:Int) (K:Int→α):α:=match n with
 | .ofNat m=>iD m fun m=>K (.ofNat m)
 | .negSucc m=>iD m fun m=>K (.negSucc m)
def nq {α β:Type}:List β→(List β→α)→α
 | [],K=>K []
 | a :: l,K=>nq l fun l=>K (a :: l)
def zp {α:Type} (v:AV) (K:AV→α):α:=match v with
 | .int k n=>vo n fun n=>K (.int k n)
 | .bool true=>K (.bool true)
 | .bool false=>K (.bool false)
 | .list k sz es=>nq es fun es=>K (.list k sz es)
 | .str l=>nq l fun l=>K (.str l)
 | .ja id off sz len cap=>iD off fun off=>iD len fun len=>iD cap fun cap=>K (.ja id off sz len cap)
 | .ptr id off=>iD off fun off=>K (.ptr id off)
 | .agg cs=>nq cs fun cs=>K (.agg cs)
 | v=>K v
def zq {α:Type} (l:a6) (K:a6→α):α:=match l with
 | .put d (.v a) :: l=>zp a fun a=>K (.put d (.v a) :: l)
 | .put d (.lp k off) :: l=>iD off fun off=>K (.put d (.lp k off) :: l)
 | l=>K l
def zr {α:Type} (l:cp) (K:cp→α):α:=match l with
 | (d,cs) :: l=>nq cs fun cs=>K ((d,cs) :: l)
 | []=>K []
def Dk {α:Type} (s:St) (K:St→α):α:=match s with
 | ⟨sl,bx,G,m,ro,n⟩=>zq sl fun sl=>zr bx fun bx=>nq G fun G=>K ⟨sl,bx,G,m,ro,n⟩
theorem nr {α:Type} (n:Nat) (K:Nat→α):iD n K=K n:=by cases n <;> rfl
theorem Be {α:Type} (n:Int) (K:Int→α):vo n K=K n:=by cases n <;> simp [vo,nr]
theorem ol {α β:Type}:∀ (l:List β) (K:List β→α),nq l K=K l
 | [],_=>rfl
 | a :: l,K=>by simp only [nq]; rw [ol]
theorem Dl {α:Type} (v:AV) (K:AV→α):zp v K=K v:=by
 unfold zp
 split <;> simp [nr,Be,ol]
theorem Dm {α:Type} (l:a6) (K:a6→α):zq l K=K l:=by
 unfold zq
 split <;> simp [nr,Dl]
theorem Dn {α:Type} (l:cp) (K:cp→α):zr l K=K l:=by
 unfold zr
 split <;> simp [ol]
theorem Gc {α:Type} (s:St) (K:St→α):Dk s K=K s:=by
 obtain ⟨sl,bx,G,m,ro,n⟩:=s
 simp [Dk,Dm,Dn,ol]
def zt:SV→SV→Bool
 | .v a,.v b=>dE a b
 | .lp k o,.lp k' o'=>Nat.beq k k'&&Nat.beq o o'
 | _,_=>false
def XE (E:Env) (f:FuncId) (ops:List Oper) (o:Oper) (s:St):Bool:=match Ai ops s o with
 | some true=>match o.dst,ap E f s o with
  | some d,some (c,s')=>c&&zt (lk s'.ae d) (lk s.ae d)
  | _,_=>false
 | some false=>true
 | none=>false
section
variable {E:Env} {f:FuncId} {s:St}
theorem yk {a b:SV} (h:zt a b=true):a=b:=by
 unfold zt at h
 split at h
 ·rw [iu h]
 ·simp only [Bool.and_eq_true,Nat.beq_eq] at h; rw [h.1,h.2]
 ·cases h
theorem yl {ops:List Oper} {o:Oper} (h:XE E f ops o s=true):Db E f ops o s:=by
 unfold XE at h
 unfold Db
 split at h
 ·rename_i hg
  rw [hg]
  simp only
  split at h
  ·rename_i d c s' hd hs
   rw [Bool.and_eq_true] at h
   obtain ⟨rfl,h⟩:=h
   rw [hd,hs]
   exact ⟨rfl,yk h⟩
  ·cases h
 ·rename_i hg
  rw [hg]
  trivial
 ·cases h
end
end Go.Am
namespace Go.Am
open Go
mutual
def AV.under (n:Nat):AV→Bool
 | .agg cs=>aB n cs
 | .bg cs=>aB n cs
 | .ep cs=>aB n cs
 | .list (.own id) _ _=>Nat.blt id n
 | .list (.a7 id _) _ _=>Nat.blt id n
 | .fn _ x y=>aB n x&&aB n y
 | .iface _ v=>v.under n
 | .ptr id _=>Nat.blt id n
 | .ja id _ _ _ _=>Nat.blt id n
 | .du id _ _ _ _=>Nat.blt id n
 | .gp id _ _ _ _ _=>Nat.blt id n
 | .map id=>Nat.blt id n
 | .yield id=>Nat.blt id n
 | _=>true
def aB (n:Nat):List AV→Bool
 | []=>true
 | a :: l=>a.under n&&aB n l
end
mutual
theorem gK (n:Nat):∀ {a:AV},a.closed=true→a.under n=true:=fun {a} h=>by
 cases a with
 | agg cs=>simp only [AV.closed,AV.under] at *; exact b8 n h
 | bg cs=>simp only [AV.closed,AV.under] at *; exact b8 n h
 | ep cs=>simp only [AV.closed,AV.under] at *; exact b8 n h
 | list k sz es=>cases k <;> simp_all [AV.closed,AV.under,LK.closed]
 | fn f x y=>
  simp only [AV.closed,AV.under,Bool.and_eq_true] at *
  exact ⟨b8 n h.1,b8 n h.2⟩
 | iface t v=>simp only [AV.closed,AV.under] at *; exact gK n h
 | _=>simp_all [AV.closed,AV.under]
theorem b8 (n:Nat):∀ {l:List AV},aA l=true→aB n l=true
 | [],_=>rfl
 | a :: l,h=>by
  simp only [aA,aB,Bool.and_eq_true] at *
  exact ⟨gK n h.1,b8 n h.2⟩
end
theorem om {a b:Nat} (h:Nat.blt a b=true):a < b:=Nat.le_of_ble_eq_true h
mutual
theorem kK:∀ {a:AV},a.under 0=true→a.closed=true:=fun {a} h=>by
 cases a with
 | agg cs=>simp only [AV.closed,AV.under] at *; exact dV h
 | bg cs=>simp only [AV.closed,AV.under] at *; exact dV h
 | ep cs=>simp only [AV.closed,AV.under] at *; exact dV h
 | list k sz es=>cases k <;> first | rfl | (simp [AV.under] at h)
 | fn f x y=>
  simp only [AV.closed,AV.under,Bool.and_eq_true] at *
  exact ⟨dV h.1,dV h.2⟩
 | iface t v=>simp only [AV.closed,AV.under] at *; exact kK h
 | ptr id off=>simp only [AV.under] at h; exact absurd (om h) (Nat.not_lt_zero _)
 | ja id off sz len cap=>simp only [AV.under] at h; exact absurd (om h) (Nat.not_lt_zero _)
 | du id f off sz len=>simp only [AV.under] at h; exact absurd (om h) (Nat.not_lt_zero _)
 | gp id f i off sz t=>simp only [AV.under] at h; exact absurd (om h) (Nat.not_lt_zero _)
 | map id=>simp only [AV.under] at h; exact absurd (om h) (Nat.not_lt_zero _)
 | yield id=>simp only [AV.under] at h; exact absurd (om h) (Nat.not_lt_zero _)
 | _=>rfl
theorem dV:∀ {l:List AV},aB 0 l=true→aA l=true
 | [],_=>rfl
 | a :: l,h=>by
  simp only [aB,aA,Bool.and_eq_true] at *
  exact ⟨kK h.1,dV h.2⟩
end
section move
variable {R R2:ak} {w:World} {n:Nat}
structure Mv (R R2:ak) (n:Nat):Prop where
 I:∀ b o,R.I b o→R2.I b o
 obj:∀ id ro,id < n→nth R.obj id=some ro→nth R2.obj id=some ro
theorem iX {a b:Nat} (h:Nat.blt a b=true):a < b:=Nat.le_of_ble_eq_true h
theorem jJ {a b:Nat} (h:a < b):Nat.blt a b=true:=Nat.ble_eq_true_of_le h
theorem yR.move (m:Mv R R2 n) {k:LK} {b o len cap:Nat} (h:yR R k b o len cap) (hk:∀ id,(k=.own id∨∃ j,k=.a7 id j)→id < n):yR R2 k b o len cap:=by
 cases k with
 | nil=>exact h
 | full=>exact h
 | ka=>trivial
 | own id=>obtain ⟨ro,h1,h2⟩:=h; exact ⟨ro,m.obj id ro (hk id (.inl rfl)) h1,h2⟩
 | a7 id j=>obtain ⟨ro,h1,h2⟩:=h; exact ⟨ro,m.obj id ro (hk id (.inr ⟨j,rfl⟩)) h1,h2⟩
mutual
theorem Rel.move (m:Mv R R2 n):∀ {a:AV} {c:Value},a.under n=true→Rel R w a c→Rel R2 w a c
 | _,_,_,.bool b=>.bool b
 | _,_,_,.int k i=>.int k i
 | _,_,_,.str l=>.str l
 | _,_,hb,.agg h h1=>.agg (h.move m (by simpa [AV.under] using hb)) h1
 | _,_,hb,.bg h=>.bg (h.move m (by simpa [AV.under] using hb))
 | _,_,_,.gD=>.gD
 | _,_,hb,.ptr h=>.ptr (m.obj _ _ (iX (by simpa [AV.under] using hb)) h)
 | _,_,hb,.ep h=>.ep (h.move m (by simpa [AV.under] using hb))
 | _,_,_,.jc=>.jc
 | _,_,_,.gW=>.gW
 | _,_,_,.lL=>.lL
 | _,_,hb,.kY h ho=>.kY (m.obj _ _ (iX (by simpa [AV.under] using hb)) h) ho
 | _,_,hb,.kD h ho=>.kD (m.obj _ _ (iX (by simpa [AV.under] using hb)) h) ho
 | .list k sz es,_,hb,.list h hl hc hk=>.list (h.move m) hl hc (hk.move m fun id e=>by rcases e with e | ⟨j,e⟩ <;> subst e <;> exact iX (by simpa [AV.under] using hb))
 | _,_,hb,.ja h hc=>.ja (m.obj _ _ (iX (by simpa [AV.under] using hb)) h) hc
 | _,_,hb,.iq h ho=>.iq (m.obj _ _ (iX (by simpa [AV.under] using hb)) h) ho
 | _,_,hb,.du h ho hc=>.du (m.obj _ _ (iX (by simpa [AV.under] using hb)) h) ho hc
 | _,_,hb,.gp h ho=>.gp (m.obj _ _ (iX (by simpa [AV.under] using hb)) h) ho
 | _,_,_,.ju=>.ju
 | _,_,hb,.map h=>.map (m.obj _ _ (iX (by simpa [AV.under] using hb)) h)
 | _,_,_,.cb=>.cb
 | _,_,hb,.fn h h'=>.fn (h.move m (by simp only [AV.under,Bool.and_eq_true] at hb; exact hb.1)) (h'.move m (by simp only [AV.under,Bool.and_eq_true] at hb; exact hb.2))
 | _,_,hb,.yield h=>.yield (m.obj _ _ (iX (by simpa [AV.under] using hb)) h)
 | _,_,_,.mC=>.mC
 | _,_,hb,.iface h=>.iface (h.move m (by simpa [AV.under] using hb))
theorem aG.move (m:Mv R R2 n):∀ {l:List AV} {cs:List Value},aG R w l cs→aB n l=true→aG R2 w l cs
 | _,_,.nil,_=>.nil
 | _,_,.cons h t,hb=>by
  simp only [aB,Bool.and_eq_true] at hb
  exact .cons (h.move m hb.1) (t.move m hb.2)
theorem fk.move (m:Mv R R2 n):∀ {b o sz:Nat} {l:List AV},fk R w b o sz l→fk R2 w b o sz l
 | _,_,_,_,.nil=>.nil
 | _,_,_,_,@fk.cons _ _ _ _ _ e _ hl ht hk h t=>.cons hl ht hk (h.move m (by
   cases e with
   | agg cs=>exact b8 n (show aA cs=true by simpa [AV.closed] using hk)
   | bg cs=>simp [AV.aR] at ht
   | _=>simp only [AV.cells,aB,Bool.and_true]; exact gK n hk)) (t.move m)
theorem dp.move (m:Mv R R2 n):∀ {b o:Nat} {l:List AV},dp R w b o l→aB n l=true→dp R2 w b o l
 | _,_,_,.nil,_=>.nil
 | _,_,_,.cons hc h1 hi h t,hb=>by
  simp only [aB,Bool.and_eq_true] at hb
  exact .cons hc h1 (m.I _ _ hi) (h.move m hb.1) (t.move m hb.2)
end
theorem iS.move {E:Env} (m:Mv R R2 n) {g:Nat} {cs:List AV} (h:iS E R w g cs) (hu:aB n cs=true):iS E R2 w g cs:=
 ⟨h.1.move m hu,fun hx=>⟨m.I _ _ (h.2 hx).1,(h.2 hx).2⟩⟩
mutual
theorem Rel.under (hn:R.obj.length≤n):∀ {a:AV} {c:Value},Rel R w a c→a.under n=true
 | _,_,.bool _ | _,_,.int _ _ | _,_,.str _ | _,_,.gD | _,_,.jc | _,_,.gW | _,_,.lL | _,_,.ju | _,_,.cb | _,_,.mC=>by simp [AV.under]
 | _,_,.agg h _=>by simp only [AV.under]; exact h.under hn
 | _,_,.bg h=>by simp only [AV.under]; exact h.under hn
 | _,_,.ptr h=>by simp only [AV.under]; exact jJ (Nat.lt_of_lt_of_le (bH h) hn)
 | _,_,.ep h=>by simp only [AV.under]; exact h.under hn
 | _,_,.kY h _=>by simp only [AV.under]; exact jJ (Nat.lt_of_lt_of_le (bH h) hn)
 | _,_,.kD h _=>by simp only [AV.under]; exact jJ (Nat.lt_of_lt_of_le (bH h) hn)
 | _,_,@Rel.list _ _ k _ _ _ _ _ _ _ _ _ hk=>by
  cases k with
  | own id=>obtain ⟨ro,h1,_⟩:=hk; simp only [AV.under]; exact jJ (Nat.lt_of_lt_of_le (bH h1) hn)
  | a7 id j=>obtain ⟨ro,h1,_⟩:=hk; simp only [AV.under]; exact jJ (Nat.lt_of_lt_of_le (bH h1) hn)
  | _=>simp [AV.under]
 | _,_,.ja h _=>by simp only [AV.under]; exact jJ (Nat.lt_of_lt_of_le (bH h) hn)
 | _,_,.iq h _=>by simp only [AV.under]; exact jJ (Nat.lt_of_lt_of_le (bH h) hn)
 | _,_,.du h _ _=>by simp only [AV.under]; exact jJ (Nat.lt_of_lt_of_le (bH h) hn)
 | _,_,.gp h _=>by simp only [AV.under]; exact jJ (Nat.lt_of_lt_of_le (bH h) hn)
 | _,_,.map h=>by simp only [AV.under]; exact jJ (Nat.lt_of_lt_of_le (bH h) hn)
 | _,_,.fn h h'=>by simp only [AV.under,Bool.and_eq_true]; exact ⟨h.under hn,h'.under hn⟩
 | _,_,.yield h=>by simp only [AV.under]; exact jJ (Nat.lt_of_lt_of_le (bH h) hn)
 | _,_,.iface h=>by simp only [AV.under]; exact h.under hn
theorem aG.under (hn:R.obj.length≤n):∀ {l:List AV} {cs:List Value},aG R w l cs→aB n l=true
 | _,_,.nil=>rfl
 | _,_,.cons h t=>by simp only [aB,Bool.and_eq_true]; exact ⟨h.under hn,t.under hn⟩
theorem dp.under (hn:R.obj.length≤n):∀ {b o:Nat} {l:List AV},dp R w b o l→aB n l=true
 | _,_,_,.nil=>rfl
 | _,_,_,.cons _ _ _ h t=>by simp only [aB,Bool.and_eq_true]; exact ⟨h.under hn,t.under hn⟩
end
end move
end Go.Am
namespace Go.Am
open Go
mutual
def aj.under (n:Nat):aj→Bool
 | .agg ps=>ps.under n
 | .bg ps=>ps.under n
 | .own id _ _=>Nat.blt id n
 | .a7 id _ _=>Nat.blt id n
 | .fe v=>v.under n
 | .two u v=>u.under n&&v.under n
 | _=>true
def aH.under (n:Nat):aH→Bool
 | .nil=>true
 | .cons p ps=>p.under n&&ps.under n
end
mutual
theorem aj.cZ {n:Nat}:∀ (p:aj) (x:p.T),p.under n=true→(p.enc x).under n=true
 | .int k,x,_=>by simp [aj.enc,AV.under]
 | .bool,x,_=>by simp [aj.enc,AV.under]
 | .str,x,_=>by simp [aj.enc,AV.under]
 | .agg ps,x,h=>by
  simp only [aj.enc,AV.under]
  exact ps.cZ x h
 | .bg ps,x,h=>by
  simp only [aj.enc,AV.under]
  exact ps.cZ x h
 | .list sz p,x,_=>by simp [aj.enc,AV.under]
 | .own id sz p,x,h=>by
  simp only [aj.enc,AV.under]
  exact h
 | .a7 id sz p,x,h=>by
  simp only [aj.enc,AV.under]
  exact h
 | .fe v,x,h=>by
  simp only [aj.enc]
  exact h
 | .two u v,(x:Bool),h=>by
  simp only [aj.under,Bool.and_eq_true] at h
  change AV.under n (bif x then v else u)=true
  cases x
  ·exact h.1
  ·exact h.2
theorem aH.cZ {n:Nat}:∀ (ps:aH) (x:ps.T),ps.under n=true→aB n (ps.enc x)=true
 | .nil,x,_=>rfl
 | .cons p .nil,x,h=>by
  simp only [aH.under,Bool.and_true] at h
  simp only [aH.enc,aB,Bool.and_true]
  exact p.cZ _ h
 | .cons p (.cons q ps),x,h=>by
  rw [aH.under,Bool.and_eq_true] at h
  simp only [aH.enc,aB,Bool.and_eq_true]
  exact ⟨p.cZ _ h.1,(aH.cons q ps).cZ _ h.2⟩
end
mutual
def AV.exact:AV→Bool
 | .bool _=>true
 | .int _ _=>true
 | .str _=>true
 | .agg cs=>fb cs
 | _=>false
def fb:List AV→Bool
 | []=>true
 | a :: l=>a.exact&&fb l
end
mutual
theorem aj.iE:∀ (p:aj) {a:AV},p.fits a=true→a.exact=true→p.enc (p.bi a)=a
 | .int k,a,h,e=>by
  cases a with
  | int k' n=>have hk:Qt k k'=true:=h; rw [Cs hk]; rfl
  | _=>cases h
 | .bool,a,h,e=>by
  cases a with
  | bool b=>rfl
  | _=>cases h
 | .str,a,h,e=>by
  cases a with
  | str b=>rfl
  | _=>cases h
 | .agg ps,a,h,e=>by
  cases a with
  | agg cs=>
   have e':fb cs=true:=by simpa [AV.exact] using e
   show AV.agg (ps.enc (ps.bi cs))=_
   rw [ps.iE (show ps.fits cs=true from h) e']
  | _=>cases h
 | .bg ps,a,h,e=>by cases a <;> first | (cases h; done) | simp [AV.exact] at e
 | .list sz p,a,h,e=>by cases a <;> first | (cases h; done) | simp [AV.exact] at e
 | .own id sz p,a,h,e=>by cases a <;> first | (cases h; done) | simp [AV.exact] at e
 | .a7 id sz p,a,h,e=>by cases a <;> first | (cases h; done) | simp [AV.exact] at e
 | .fe u,a,h,e=>(iu (show dE a u=true from h)).symm
 | .two u v,a,h,_=>tG h
theorem aH.iE:∀ (ps:aH) {l:List AV},ps.fits l=true→fb l=true→ps.enc (ps.bi l)=l
 | .nil,l,h,_=>by
  cases l with
  | nil=>rfl
  | cons _ _=>cases h
 | .cons p .nil,l,h,e=>by
  cases l with
  | nil=>cases h
  | cons a l=>
   have h':(p.fits a&&l.isEmpty)=true:=h
   simp only [Bool.and_eq_true,List.isEmpty_iff] at h'
   obtain ⟨h1,rfl⟩:=h'
   simp only [fb,Bool.and_true] at e
   show [p.enc (p.bi a)]=_
   rw [p.iE h1 e]
 | .cons p (.cons q ps),l,h,e=>by
  cases l with
  | nil=>cases h
  | cons a l=>
   have h':(p.fits a&&(aH.cons q ps).fits l)=true:=h
   rw [Bool.and_eq_true] at h'
   simp only [fb,Bool.and_eq_true] at e
   show p.enc (p.bi a) :: (aH.cons q ps).enc ((aH.cons q ps).bi l)=_
   rw [p.iE h'.1 e.1,(aH.cons q ps).iE h'.2 e.2]
end
mutual
theorem mh:∀ {a:AV},a.exact=true→a.closed=true:=fun {a} h=>by
 cases a with
 | agg cs=>simp only [AV.exact,AV.closed] at *; exact oV h
 | _=>simp_all [AV.exact,AV.closed]
theorem oV:∀ {l:List AV},fb l=true→aA l=true
 | [],_=>rfl
 | a :: l,h=>by
  simp only [fb,aA,Bool.and_eq_true] at *
  exact ⟨mh h.1,oV h.2⟩
end
def ai:List (AV × AV)→List AV
 | []=>[]
 | (k,v) :: l=>.agg [k,v] :: ai l
def VA:AV→AV × AV
 | .agg [k,v]=>(k,v)
 | _=>(eR,eR)
def ab:List AV→List (AV × AV)
 | []=>[]
 | a :: l=>VA a :: ab l
def AV.entries:AV→List (AV × AV)
 | .list _ _ es=>ab es
 | _=>[]
theorem mB:∀ l:List (AV × AV),ab (ai l)=l
 | []=>rfl
 | (k,v) :: l=>by simp only [ai,ab,mB l]; rfl
def AV.Ie:AV→Bool
 | .list .ka _ es=>fb es
 | _=>false
def iY:List AV→List AV→Prop
 | [],[]=>True
 | a :: l,b :: r=>gV a b∧iY l r
 | _,_=>False
theorem iY.refl:∀ l:List AV,iY l l
 | []=>trivial
 | a :: l=>⟨gV.refl a,iY.refl l⟩
theorem iY.length:∀ {l r:List AV},iY l r→l.length=r.length
 | [],[],_=>rfl
 | _ :: _,_ :: _,h=>by simp [iY.length h.2]
 | [],_ :: _,h=>h.elim
 | _ :: _,[],h=>h.elim
theorem iY.of {α:Type} {f:AV→Bool} {d:AV→α} {g:α→AV} (Eh:∀ v,f v=true→gV v (g (d v))):∀ {es:List AV},allFit f es=true→iY es ((es.map d).map g)
 | [],_=>trivial
 | e :: es,h=>by
  simp only [allFit,Bool.and_eq_true] at h
  exact ⟨Eh e h.1,iY.of Eh h.2⟩
theorem aj.Bf (p:aj) {a:AV} (h:p.fits a=true):iY a.dv (p.enc (p.bi a)).dv:=by
 cases p with
 | list sz p=>
  cases a with
  | list k bG es=>
   have hb:((Nat.beq sz bG || es.isEmpty)&&allFit p.fits es)=true:=h
   rw [Bool.and_eq_true] at hb
   exact iY.of (fun v hv=>p.cE hv) hb.2
  | _=>cases h
 | own id sz p=>
  cases a with
  | list k bG es=>
   cases k with
   | own iN=>
    have hb:((Nat.beq id iN&&Nat.beq sz bG)&&allFit p.fits es)=true:=h
    rw [Bool.and_eq_true] at hb
    exact iY.of (fun v hv=>p.cE hv) hb.2
   | _=>cases h
  | _=>cases h
 | a7 id sz p=>
  cases a with
  | list k bG es=>
   cases k with
   | a7 iN j=>
    have hb:((Nat.beq id iN&&Nat.beq sz bG)&&allFit p.fits es)=true:=h
    rw [Bool.and_eq_true] at hb
    exact iY.of (fun v hv=>p.cE hv) hb.2
   | _=>cases h
  | _=>cases h
 | fe u=>rw [show a=u from iu (show dE a u=true from h)]; exact iY.refl _
 | two u v=>rw [tG h]; exact iY.refl _
 | _=>cases a <;> first | (cases h; done) | exact iY.refl _
def G6:List AV→List AV→Prop
 | [],[]=>True
 | a :: l,b :: r=>(a.exact=true→b=a)∧(a.Ie=true→b.dv=a.dv)∧iY a.dv b.dv∧G6 l r
 | _,_=>False
theorem vp {f:AV→Bool} {α:Type} {d:AV→α} {g:α→AV} (Eh:∀ a,f a=true→a.exact=true→g (d a)=a):∀ {es:List AV},allFit f es=true→fb es=true→(es.map d).map g=es
 | [],_,_=>rfl
 | a :: l,h,e=>by
  simp only [allFit,fb,Bool.and_eq_true] at *
  simp only [List.map_cons,Eh a h.1 e.1,vp Eh h.2 e.2]
theorem aj.Bg (p:aj) {a:AV} (h:p.fits a=true) (e:a.Ie=true):(p.enc (p.bi a)).dv=a.dv:=by
 cases a with
 | list k bG es=>
  cases k with
  | ka=>
   have e':fb es=true:=e
   cases p with
   | list sz p=>
    have hb:((Nat.beq sz bG || es.isEmpty)&&allFit p.fits es)=true:=h
    rw [Bool.and_eq_true] at hb
    show (es.map p.bi).map p.enc=_
    rw [vp (fun a=>p.iE) hb.2 e']
    rfl
   | fe u=>rw [show AV.list .ka bG es=u from iu (show dE _ u=true from h)]; rfl
   | two u v=>rw [tG h]
   | _=>cases h
  | _=>cases e
 | _=>cases e
theorem aH.Ig:∀ (ps:aH) {l:List AV},ps.fits l=true→G6 l (ps.enc (ps.bi l))
 | .nil,l,h=>by
  cases l with
  | nil=>trivial
  | cons _ _=>cases h
 | .cons p .nil,l,h=>by
  cases l with
  | nil=>cases h
  | cons a l=>
   have h':(p.fits a&&l.isEmpty)=true:=h
   simp only [Bool.and_eq_true,List.isEmpty_iff] at h'
   obtain ⟨h1,rfl⟩:=h'
   exact ⟨p.iE h1,p.Bg h1,p.Bf h1,trivial⟩
 | .cons p (.cons q ps),l,h=>by
  cases l with
  | nil=>cases h
  | cons a l=>
   have h':(p.fits a&&(aH.cons q ps).fits l)=true:=h
   rw [Bool.and_eq_true] at h'
   exact ⟨p.iE h'.1,p.Bg h'.1,p.Bf h'.1,(aH.cons q ps).Ig h'.2⟩
theorem G6.split:∀ {l r l':List AV},G6 (l++r) l'→∃ a b,l'=a++b∧G6 l a∧G6 r b∧a.length=l.length
 | [],r,l',h=>⟨[],l',rfl,trivial,h,rfl⟩
 | x :: l,r,[],h=>h.elim
 | x :: l,r,y :: l',h=>by
  obtain ⟨a,b,rfl,h2,h3,h4⟩:=G6.split (l:=l) (r:=r) (l':=l') h.2.2.2
  exact ⟨y :: a,b,rfl,⟨h.1,h.2.1,h.2.2.1,h2⟩,h3,by simp [h4]⟩
mutual
def AV.vq (L:Nat→Nat):AV→AV
 | .du id 0 0 sz 0=>.du id (L id) 0 sz (L id)
 | .fn f x y=>.fn f (Ih L x) (Ih L y)
 | v=>v
def Ih (L:Nat→Nat):List AV→List AV
 | []=>[]
 | a :: l=>a.vq L :: Ih L l
end
mutual
def aj.inst (L:Nat→Nat):aj→aj
 | .agg ps=>.agg (ps.inst L)
 | .bg ps=>.bg (ps.inst L)
 | .fe v=>.fe (v.vq L)
 | p=>p
def aH.inst (L:Nat→Nat):aH→aH
 | .nil=>.nil
 | .cons p ps=>.cons (p.inst L) (ps.inst L)
end
mutual
def aj.jK (L:Nat→Nat):(p:aj)→p.T→AV
 | .int k,(n:Int)=>.int k n
 | .bool,(b:Bool)=>.bool b
 | .str,(s:List UInt8)=>.str s
 | .agg ps,x=>.agg (ps.jK L x)
 | .bg ps,x=>.bg (ps.jK L x)
 | .list sz p,(xs:List p.T)=>.list .ka sz (xs.map p.enc)
 | .own id sz p,(xs:List p.T)=>.list (.own id) sz (xs.map p.enc)
 | .a7 id sz p,(x:Nat × List p.T)=>.list (.a7 id x.1) sz (x.2.map p.enc)
 | .fe v,_=>v.vq L
 | .two u v,(b:Bool)=>bif b then v else u
def aH.jK (L:Nat→Nat):(ps:aH)→ps.T→List AV
 | .nil,_=>[]
 | .cons p .nil,x=>[p.jK L x]
 | .cons p (.cons q ps),x=>p.jK L x.1 :: (aH.cons q ps).jK L x.2
end
mutual
def aj.ls (L:Nat→Nat):aj→AV→Bool
 | .int k,v=>aj.fits (.int k) v
 | .bool,v=>aj.fits .bool v
 | .str,v=>aj.fits .str v
 | .agg ps,v=>match v with
  | .agg cs=>ps.ls L cs
  | _=>false
 | .bg ps,v=>match v with
  | .bg cs=>ps.ls L cs
  | _=>false
 | .list sz p,v=>aj.fits (.list sz p) v
 | .own id sz p,v=>aj.fits (.own id sz p) v
 | .a7 id sz p,v=>aj.fits (.a7 id sz p) v
 | .fe v,u=>dE u (v.vq L)
 | .two u v,a=>aj.fits (.two u v) a
def aH.ls (L:Nat→Nat):aH→List AV→Bool
 | .nil,l=>l.isEmpty
 | .cons p ps,l=>match l with
  | a :: l=>p.ls L a&&ps.ls L l
  | []=>false
end
def aH.Gd (L:Nat→Nat) (ps:aH) (l:List AV):Option ps.T:=bif ps.ls L l then some (ps.bi l) else none
mutual
theorem aj.hY (L:Nat→Nat):∀ (p:aj) (a:AV),p.ls L a=(p.inst L).fits a
 | .int _,_=>rfl
 | .bool,_=>rfl
 | .str,_=>rfl
 | .agg ps,a=>by
  simp only [aj.ls,aj.inst,aj.fits]
  cases a <;> first | rfl | exact ps.hY L _
 | .bg ps,a=>by
  simp only [aj.ls,aj.inst,aj.fits]
  cases a <;> first | rfl | exact ps.hY L _
 | .list _ _,_=>rfl
 | .own _ _ _,_=>rfl
 | .a7 _ _ _,_=>rfl
 | .fe _,_=>rfl
 | .two _ _,_=>rfl
theorem aH.hY (L:Nat→Nat):∀ (ps:aH) (l:List AV),ps.ls L l=(ps.inst L).fits l
 | .nil,_=>rfl
 | .cons p ps,l=>by
  cases l with
  | nil=>rfl
  | cons a l=>
   simp only [aH.ls,aH.inst,aH.fits]
   rw [p.hY L a,ps.hY L l]
end
mutual
theorem aj.gz (L:Nat→Nat):∀ (p:aj) (a:AV),p.jK L (p.bi a)=(p.inst L).enc ((p.inst L).bi a)
 | .int _,_=>rfl
 | .bool,_=>rfl
 | .str,_=>rfl
 | .agg ps,a=>congrArg AV.agg (ps.gz L a.iO)
 | .bg ps,a=>congrArg AV.bg (ps.gz L a.Qu)
 | .list _ _,_=>rfl
 | .own _ _ _,_=>rfl
 | .a7 _ _ _,_=>rfl
 | .fe _,_=>rfl
 | .two _ _,_=>rfl
theorem aH.gz (L:Nat→Nat):∀ (ps:aH) (l:List AV),ps.jK L (ps.bi l)=(ps.inst L).enc ((ps.inst L).bi l)
 | .nil,_=>rfl
 | .cons p .nil,l=>by
  show [p.jK L (p.bi (dG l))]=[(p.inst L).enc ((p.inst L).bi (dG l))]
  rw [p.gz L]
 | .cons p (.cons q ps),l=>by
  show p.jK L (p.bi (dG l)) :: (aH.cons q ps).jK L ((aH.cons q ps).bi (He l))=(p.inst L).enc ((p.inst L).bi (dG l)) :: ((aH.cons q ps).inst L).enc (((aH.cons q ps).inst L).bi (He l))
  rw [p.gz L,(aH.cons q ps).gz L]
end
mutual
theorem AV.vr {n:Nat} (L:Nat→Nat):∀ {a:AV},a.under n=true→(a.vq L).under n=true:=fun {a} h=>by
 cases a with
 | du id f off sz len=>
  unfold AV.vq
  split
  ·rename_i h1
   cases h1
   exact h
  ·rename_i h1
   cases h1
  ·exact h
 | fn f x y=>
  simp only [AV.vq,AV.under,Bool.and_eq_true] at *
  exact ⟨pF L h.1,pF L h.2⟩
 | _=>exact h
theorem pF {n:Nat} (L:Nat→Nat):∀ {l:List AV},aB n l=true→aB n (Ih L l)=true
 | [],_=>rfl
 | a :: l,h=>by
  simp only [Ih,aB,Bool.and_eq_true] at *
  exact ⟨AV.vr L h.1,pF L h.2⟩
end
mutual
theorem aj.hZ {n:Nat} (L:Nat→Nat):∀ {p:aj},p.under n=true→(p.inst L).under n=true
 | .int _,_=>rfl
 | .bool,_=>rfl
 | .str,_=>rfl
 | .agg ps,h=>aH.hZ L (ps:=ps) h
 | .bg ps,h=>aH.hZ L (ps:=ps) h
 | .list _ _,_=>rfl
 | .own _ _ _,h=>h
 | .a7 _ _ _,h=>h
 | .fe v,h=>AV.vr L (a:=v) h
 | .two _ _,h=>h
theorem aH.hZ {n:Nat} (L:Nat→Nat):∀ {ps:aH},ps.under n=true→(ps.inst L).under n=true
 | .nil,_=>rfl
 | .cons p ps,h=>by
  simp only [aH.inst,aH.under,Bool.and_eq_true] at *
  exact ⟨aj.hZ L h.1,aH.hZ L h.2⟩
end
theorem AV.ym (L:Nat→Nat) (v:AV):(v.vq L).dv=v.dv:=by
 unfold AV.vq
 split <;> rfl
def mE:List AV→List AV→Prop
 | [],[]=>True
 | a :: l,b :: r=>a.dv.length=b.dv.length∧mE l r
 | _,_=>False
theorem aj.nu (L L':Nat→Nat) (p:aj) (x:p.T):(p.jK L x).dv=(p.jK L' x).dv:=by
 cases p with
 | fe v=>
  show (v.vq L).dv=(v.vq L').dv
  rw [AV.ym,AV.ym]
 | _=>rfl
theorem aH.nu (L L':Nat→Nat):∀ (ps:aH) (x:ps.T),mE (ps.jK L x) (ps.jK L' x)
 | .nil,_=>trivial
 | .cons p .nil,x=>⟨congrArg List.length (p.nu L L' x),trivial⟩
 | .cons p (.cons q ps),x=>⟨congrArg List.length (p.nu L L' x.1),(aH.cons q ps).nu L L' x.2⟩
theorem G6.VB:∀ {l r:List AV},G6 l r→mE l r
 | [],[],_=>trivial
 | _ :: _,_ :: _,h=>⟨h.2.2.1.length,h.2.2.2.VB⟩
 | [],_ :: _,h=>h.elim
 | _ :: _,[],h=>h.elim
theorem mE.trans:∀ {l r u:List AV},mE l r→mE r u→mE l u
 | [],[],[],_,_=>trivial
 | _ :: _,_ :: _,_ :: _,h,k=>⟨h.1.trans k.1,h.2.trans k.2⟩
 | [],_ :: _,_,h,_=>h.elim
 | _ :: _,[],_,h,_=>h.elim
 | [],[],_ :: _,_,k=>k.elim
 | _ :: _,_ :: _,[],_,k=>k.elim
theorem mE.drop:∀ {l r:List AV} (n:Nat),mE l r→mE (l.drop n) (r.drop n)
 | l,r,0,h=>by simpa using h
 | [],[],_+1,_=>by simp [mE]
 | _ :: _,_ :: _,n+1,h=>by simpa using mE.drop n h.2
 | [],_ :: _,_+1,h=>h.elim
 | _ :: _,[],_+1,h=>h.elim
theorem aH.LI (L:Nat→Nat) (ps:aH) {l:List AV} {x:ps.T} (h:ps.Gd L l=some x):cq l (ps.jK L x)∧G6 l (ps.jK L x):=by
 unfold aH.Gd at h
 cases hf:ps.ls L l with
 | true=>
  rw [hf] at h
  cases h
  rw [ps.gz L]
  rw [ps.hY L] at hf
  have hd:(ps.inst L).dec l=some ((ps.inst L).bi l):=by unfold aH.dec; rw [hf]; rfl
  exact ⟨((ps.inst L).pn hd).1,(ps.inst L).Ig hf⟩
 | false=>rw [hf] at h; cases h
theorem aH.Dp {n:Nat} (L:Nat→Nat) (ps:aH) (hp:ps.under n=true) (l:List AV):aB n (ps.jK L (ps.bi l))=true:=by
 rw [ps.gz L]
 exact (ps.inst L).cZ _ (aH.hZ L hp)
theorem aH.Ge (L:Nat→Nat) (ps:aH) {l:List AV} {x:ps.T} (h:ps.Gd L l=some x):x=ps.bi l:=by
 unfold aH.Gd at h
 cases hf:ps.ls L l with
 | true=>rw [hf] at h; cases h; rfl
 | false=>rw [hf] at h; cases h
end Go.Am
namespace Go.Am
open Go
inductive Ci
 | open_
 | busy
 | ret
 | ex (i:Nat)
def Ci.is:Ci→Bool→Option Code→Bool→Bool
 | .open_,false,none,false=>true
 | .busy,true,none,false=>true
 | .ret,false,some .ret,true=>true
 | .ex i,false,some (.exit j),true=>Nat.beq i j
 | _,_,_,_=>false
def Ci.b:Ci→Bool
 | .busy=>true
 | _=>false
def Ci.p:Ci→Option Code
 | .ret=>some .ret
 | .ex i=>some (.exit i)
 | _=>none
def Ci.d:Ci→Bool
 | .ret=>true
 | .ex _=>true
 | _=>false
theorem Ci.EL {k:Ci} {b:Bool} {p:Option Code} {d:Bool} (h:k.is b p d=true):b=k.b∧p=k.p∧d=k.d:=by
 unfold Ci.is at h
 split at h <;> first | exact ⟨rfl,rfl,rfl⟩ | (cases h; done) | skip
 rw [Nat.eq_of_beq_eq_true h]
 exact ⟨rfl,rfl,rfl⟩
inductive GL
 | row (n:Nat)
 | tok (loc sz:Nat) (e:TypeId)
 | dead
 | lp (k:Ci)
 | bo
 | map
 | Ii
 | cO (sz:Nat) (e:TypeId)
 | a7 (sz:Nat) (e:TypeId)
 | qF
 | my (pj:Nat)
def ck (fs:List Nat):List AV:=fs.map fun n:Nat=>.int .i64 n
def aU (l:List AV):List Nat:=l.map fun a=>a.kb.toNat
theorem sR (fs:List Nat):aU (ck fs)=fs:=by
 induction fs with
 | nil=>rfl
 | cons n fs ih=>
  show (AV.int .i64 n).kb.toNat :: aU (ck fs)=n :: fs
  rw [ih]
  simp [AV.kb]
theorem vt (fs:List Nat):fb (ck fs)=true:=by
 induction fs with
 | nil=>rfl
 | cons n fs ih=>exact ih
def Rf (k:Ci):GO→GO→Bool
 | .loop _ _ _ _ _ _ _ _ _ _,.loop b p _ _ _ _ _ _ _ d=>k.is b p d
 | _,_=>false
def PK (k:Ci):GO→GO
 | .loop _ _ fn sl n ps qx bd d _=>.loop k.b k.p fn sl n ps qx bd d k.d
 | _=>.dead
def aV (es:List (AV × AV)):Bool:=fb (ai es)
def zu:GO→GO→Bool
 | .tok f sz e,.tok f' bG e'=>decide (f'=f)&&(Nat.beq bG sz&&Nat.beq e' e)
 | .defers a,.defers b=>match a,b with
  | true,true=>true
  | false,false=>true
  | _,_=>false
 | .dead,_=>true
 | _,_=>false
structure cn where
 ps:aH
 sl:List Tmp
 W:List Tmp
 bx:List (Nat × Nat)
 g:List GL
 Uk:List (Tmp × Nat × Nat)
def vu (ae:a6):List Tmp→Option (List AV)
 | []=>some []
 | t :: l=>match lk ae t with
  | .v a=>match vu ae l with
   | some r=>some (a :: r)
   | none=>none
  | _=>none
def vv (bx:cp):List (Nat × Nat)→Option (List AV)
 | []=>some []
 | (k,n) :: l=>match dc bx k with
  | some cs=>match vv bx l with
   | some r=>bif Nat.beq cs.length n then some (cs++r) else none
   | none=>none
  | none=>none
def ji:List GL→List GO→Option (List AV)
 | [],_=>some []
 | .row n :: l,.row cs _ :: G=>match ji l G with
  | some r=>bif Nat.beq cs.length n then some (cs++r) else none
  | none=>none
 | .tok _ sz e :: l,.tok _ bG e' :: G=>bif Nat.beq sz bG&&Nat.beq e e' then ji l G else none
 | .dead :: l,_ :: G=>ji l G
 | .lp _ :: l,_ :: G=>ji l G
 | .bo :: l,_ :: G=>ji l G
 | .map :: l,.map es :: G=>match ji l G with
  | some r=>some (.list .ka 2 (ai es) :: r)
  | none=>none
 | .Ii :: l,.fB s pos :: G=>match ji l G with
  | some r=>some (.str s :: .int .i64 pos :: r)
  | none=>none
 | .cO sz e :: l,.cO es bG e' :: G=>match ji l G with
  | some r=>bif Nat.beq sz bG&&Nat.beq e e' then some (.list .ka bG es :: r) else none
  | none=>none
 | .a7 sz e :: l,.a7 fs bG e' :: G=>match ji l G with
  | some r=>bif Nat.beq sz bG&&Nat.beq e e' then some (.list .ka 1 (ck fs) :: r) else none
  | none=>none
 | .qF :: l,.map es :: G=>match ji l G with
  | some r=>some (.list .ka 2 (ai es) :: r)
  | none=>none
 | .my pj :: l,.my mid' n left _ _ :: G=>match ji l G with
  | some r=>bif Nat.beq pj mid' then some (.int .i64 n :: .list .ka 1 (ck left) :: r) else none
  | none=>none
 | _,_=>none
def Ij (vs:List AV) (loc:Nat):Nat:=match nth vs loc with
 | some (.list _ _ es)=>es.length
 | _=>0
def PL:GO→GO→Bool
 | .row _ e,.row _ e'=>Nat.beq e e'
 | _,_=>false
def PM:GO→GO→Bool
 | .my _ _ _ _ t,.my _ _ _ _ t'=>Nat.beq t t'
 | _,_=>false
def VC:GO→TypeId
 | .my _ _ _ _ t=>t
 | _=>0
def VD:GO→TypeId
 | .row _ e=>e
 | _=>0
def da (vs:List AV):List GL→List GO→List GO→Bool
 | [],_,_=>true
 | .tok loc _ _ :: l,_ :: B,.tok f _ _ :: G=>decide (f=Ij vs loc)&&da vs l B G
 | .tok _ _ _ :: _,_,_=>false
 | .lp k :: l,o :: B,o' :: G=>Rf k o o'&&da vs l B G
 | .bo :: l,o :: B,o' :: G=>zu o o'&&da vs l B G
 | .row _ :: l,b :: B,g :: G=>PL b g&&da vs l B G
 | .map :: l,_ :: B,.map es :: G=>aV es&&da vs l B G
 | .map :: _,_,_=>false
 | .Ii :: l,_ :: B,_ :: G=>da vs l B G
 | .cO _ _ :: l,_ :: B,_ :: G=>da vs l B G
 | .a7 _ _ :: l,_ :: B,_ :: G=>da vs l B G
 | .qF :: l,_ :: B,_ :: G=>da vs l B G
 | .my _ :: l,b :: B,g :: G=>PM b g&&da vs l B G
 | .dead :: l,_ :: B,_ :: G=>da vs l B G
 | _,_,_=>false
def nw:List Tmp→List AV→a6→a6
 | t :: ts,a :: l,r=>.put t (.v a) :: nw ts l r
 | _,_,r=>r
def ny:List (Tmp × Nat × Nat)→a6→a6
 | (t,k,o) :: l,r=>.put t (.lp k o) :: ny l r
 | [],r=>r
def EM (ae:a6):List (Tmp × Nat × Nat)→Bool
 | []=>true
 | (t,k,o) :: l=>(match lk ae t with
  | .lp k' o'=>Nat.beq k' k&&Nat.beq o' o
  | _=>false)&&EM ae l
def vw:List Tmp→a6→a6
 | t :: ts,r=>.put t .none :: vw ts r
 | [],r=>r
def sS:List (Nat × Nat)→List AV→cp→cp
 | (k,n) :: r,l,b=>(k,l.take n) :: sS r (l.drop n) b
 | [],_,b=>b
def cX (vs:List AV):List GL→List GO→List AV→List GO
 | .row n :: r,B,l=>.row (l.take n) (VD (B.headD .dead)) :: cX vs r B.tail (l.drop n)
 | .tok loc sz e :: r,B,l=>.tok (Ij vs loc) sz e :: cX vs r B.tail l
 | .dead :: r,B,l=>.dead :: cX vs r B.tail l
 | .lp k :: r,B,l=>PK k (B.headD .dead) :: cX vs r B.tail l
 | .bo :: r,B,l=>B.headD .dead :: cX vs r B.tail l
 | .map :: r,B,l=>.map (AV.entries (dG l)) :: cX vs r B.tail l.tail
 | .Ii :: r,B,l=>.fB (AV.Qv (dG l)) (AV.kb (dG l.tail)).toNat :: cX vs r B.tail l.tail.tail
 | .cO sz e :: r,B,l=>.cO (AV.dv (dG l)) sz e :: cX vs r B.tail l.tail
 | .a7 sz e :: r,B,l=>.a7 (aU (AV.dv (dG l))) sz e :: cX vs r B.tail l.tail
 | .qF :: r,B,l=>.map (AV.entries (dG l)) :: cX vs r B.tail l.tail
 | .my pj :: r,B,l=>.my pj (AV.kb (dG l)).toNat (aU (AV.dv (dG l.tail))) none (VC (B.headD .dead)) :: cX vs r B.tail l.tail.tail
 | [],_,_=>[]
def zv:List (Nat × Nat)→Nat
 | []=>0
 | (_,n) :: l=>n+zv l
def jL:List GL→List AV→Nat→Nat
 | [],_,_=>0
 | .cO _ _ :: r,l,i=>match i with
  | 0=>(AV.dv (dG l)).length
  | i+1=>jL r l.tail i
 | .row n :: r,l,i=>match i with
  | 0=>0
  | i+1=>jL r (l.drop n) i
 | .map :: r,l,i=>match i with
  | 0=>0
  | i+1=>jL r l.tail i
 | .Ii :: r,l,i=>match i with
  | 0=>0
  | i+1=>jL r l.tail.tail i
 | .a7 _ _ :: r,l,i=>match i with
  | 0=>0
  | i+1=>jL r l.tail i
 | .qF :: r,l,i=>match i with
  | 0=>0
  | i+1=>jL r l.tail i
 | .my _ :: r,l,i=>match i with
  | 0=>0
  | i+1=>jL r l.tail.tail i
 | _ :: r,l,i=>match i with
  | 0=>0
  | i+1=>jL r l i
def cn.oG (t:cn) (v:t.ps.T):List AV:=t.ps.jK (jL t.g (((t.ps.jK (fun _=>0) v).drop t.sl.length).drop (zv t.bx))) v
def cn.st (t:cn) (s:St) (v:t.ps.T):St:=
 ⟨ny t.Uk (nw t.sl (t.oG v) (vw t.W s.ae)),sS t.bx ((t.oG v).drop t.sl.length) s.boxes,cX (t.oG v) t.g s.G (((t.oG v).drop t.sl.length).drop (zv t.bx)),s.marks,s.ro,s.n⟩
def Lb:List Nat→Nat→Bool
 | [],_=>false
 | a :: l,n=>Nat.beq a n || Lb l n
def Ul (l:List Tmp) (W:List Tmp) (n:Nat):Bool:=Lb l n || Lb W n
def xp (d:Nat) (l W:List Tmp):a6→Bool
 | []=>true
 | .put t (.lp k _) :: r=>(!(Nat.beq k d) || Ul l W t)&&xp d l W r
 | _ :: r=>xp d l W r
def rQ (l W:List Tmp) (base:a6):a6→Bool
 | []=>true
 | .put d _ :: r=>Ul l W d&&rQ l W base r
 | .kill d :: r=>xp d l W base&&rQ l W base r
def tf:List (Nat × Nat)→Nat→Bool
 | [],_=>false
 | (a,_) :: l,n=>Nat.beq a n || tf l n
def tN (l:List (Nat × Nat)) (base:cp):cp→Bool
 | []=>true
 | (k,_) :: r=>(tf l k || (dc base k).isNone)&&tN l base r
def LJ:List Nat→List Nat→Bool
 | [],[]=>true
 | a :: l,b :: r=>Nat.beq a b&&LJ l r
 | _,_=>false
def aj.lcl (n:Nat):aj→Bool
 | .list _ p=>p.under n
 | _=>false
def aH.flags (n:Nat):aH→List Bool
 | .nil=>[]
 | .cons p ps=>p.lcl n :: ps.flags n
def jM:List GL→List Bool→Bool
 | [],_=>true
 | .cO _ _ :: r,f :: l=>f&&jM r l
 | .cO _ _ :: _,[]=>false
 | .row n :: r,l=>jM r (eK n l)
 | .map :: r,l=>jM r (eK 1 l)
 | .Ii :: r,l=>jM r (eK 2 l)
 | .a7 _ _ :: r,l=>jM r (eK 1 l)
 | .qF :: r,f :: l=>f&&jM r l
 | .qF :: _,[]=>false
 | .my _ :: r,l=>jM r (eK 2 l)
 | _ :: r,l=>jM r l
def Ik (n:Nat):List GL→Bool
 | []=>true
 | .my pj :: r=>Nat.blt pj n&&Ik n r
 | _ :: r=>Ik n r
def cn.ok (t:cn) (s s':St):Bool:=
 rQ t.sl t.W s.ae (s'.ae.take (s'.ae.length - s.ae.length))&&tN t.bx s.boxes (s'.boxes.take (s'.boxes.length - s.boxes.length)) &&
  LJ s'.marks s.marks&&Nat.beq t.g.length s.G.length&&(t.ps.under s.G.length&&(jM t.g (eK (zv t.bx) (eK t.sl.length (t.ps.flags s.G.length)))&&Ik s.G.length t.g))&&EM s'.ae t.Uk
def cn.dec (t:cn) (s s':St):Option t.ps.T:=
 bif t.ok s s' then
  match vu s'.ae t.sl,vv s'.boxes t.bx,ji t.g s'.G with
  | some a,some b,some c=>(t.ps.Gd (jL t.g c) (a++(b++c))).bind fun v=>bif da (t.oG v) t.g s.G s'.G then some v else none
  | _,_,_=>none
 else none
theorem zw {l:List Nat} {n:Nat}:Lb l n=true↔n∈l:=by
 induction l with
 | nil=>simp [Lb]
 | cons a l ih=>
  simp only [Lb,Bool.or_eq_true,Nat.beq_eq,ih,List.mem_cons]
  constructor
  ·rintro (h | h)
   ·exact .inl h.symm
   ·exact .inr h
  ·rintro (h | h)
   ·exact .inl h.symm
   ·exact .inr h
theorem EN:∀ {a b:List Nat},LJ a b=true→a=b
 | [],[],_=>rfl
 | a :: l,b :: r,h=>by
  simp only [LJ,Bool.and_eq_true,Nat.beq_eq] at h
  rw [h.1,EN h.2]
 | [],_ :: _,h=>by cases h
 | _ :: _,[],h=>by cases h
theorem zx {d:Nat} {l W:List Tmp} {t off:Nat}:∀ {base:a6},xp d l W base=true→lk base t=.lp d off→Ul l W t=true
 | [],_,h=>by simp [lk] at h
 | .put t' x :: r,hn,h=>by
  by_cases e:t'=t
  ·subst e
   rw [ax] at h
   subst h
   simp only [xp,Nat.beq_refl,Bool.not_true,Bool.false_or,Bool.and_eq_true] at hn
   exact hn.1
  ·rw [aK e] at h
   refine zx (base:=r) ?_ h
   cases x <;> simp only [xp,Bool.and_eq_true] at hn
   ·exact hn
   ·exact hn
   ·exact hn.2
 | .kill d' :: r,hn,h=>by
  rcases Eg (l:=r) (d:=d') (t:=t) with ⟨h1,_⟩ | h1
  ·rw [h1] at h
   exact zx (base:=r) hn h
  ·rw [h1] at h
   cases h
theorem zy {l W:List Tmp} {base:a6} {t:Nat} (ht:Ul l W t=false):∀ {pre:a6},rQ l W base pre=true→lk (pre++base) t=lk base t
 | [],_=>rfl
 | .put d x :: r,h=>by
  simp only [rQ,Bool.and_eq_true] at h
  have cw:d≠t:=fun e=>by rw [e,ht] at h; exact absurd h.1 (by simp)
  rw [List.cons_append,aK cw]
  exact zy ht h.2
 | .kill d :: r,h=>by
  simp only [rQ,Bool.and_eq_true] at h
  have ih:=zy ht h.2
  simp only [List.cons_append,lk,ih]
  cases hb:lk base t with
  | lp k off=>
   by_cases e:k=d
   ·subst e
    have:=zx h.1 hb
    rw [ht] at this
    cases this
   ·simp [lN e]
  | _=>rfl
theorem Bh {l:List (Nat × Nat)} {base:cp} {k:Nat} {cs:List AV} (hk:tf l k=false) (hb:dc base k=some cs):∀ {pre:cp},tN l base pre=true→dc (pre++base) k=some cs
 | [],_=>hb
 | (d,x) :: r,h=>by
  simp only [tN,Bool.and_eq_true] at h
  have cw:d≠k:=fun e=>by
   rw [e,hk,hb] at h
   exact absurd h.1 (by simp)
  rw [List.cons_append,dc,lN cw]
  exact Bh hk hb h.2
theorem Bi {α:Type} (pre base:List α):(pre++base).take ((pre++base).length - base.length)=pre:=by
 rw [List.length_append,Nat.add_sub_cancel,List.take_left]
def ak.cut (R:ak) (n:Nat):ak:=⟨R.I,R.obj.take n⟩
theorem jj {R:ak} {n id:Nat} {ro:RO}:nth (R.cut n).obj id=some ro↔id < n∧nth R.obj id=some ro:=by
 simp only [ak.cut,aX,List.getElem?_take]
 split
 ·simp_all
 ·simp_all
  omega
theorem nz (R:ak) (n:Nat):Mv R (R.cut n) n:=⟨fun _ _ h=>h,fun _ _ hl h=>jj.2 ⟨hl,h⟩⟩
section Ah
variable {E:Env} {R R':ak} {w w':World} {β β':Nat→Nat} {s s':St} {a a':Act}
def vx (R:ak) (w:World) (β:Nat→Nat) (K:Nat→Prop) (ae:a6) (tmps:Array Value):Prop:=
 ∀ i,¬ K i→lk ae i≠.none→∃ c,tmps[i]?=some c∧oB R w β (lk ae i) c
theorem vy {tmps:Array Value} {base:a6}:∀ {W:List Tmp} {K:Nat→Prop},vx R w β (fun i=>i∈W∨K i) base tmps→vx R w β K (vw W base) tmps
 | [],K,h=>fun i hi hn=>h i (by simpa using hi) hn
 | t :: W,K,h=>fun i hi hn=>by
  have ih:vx R w β (fun i=>i=t∨K i) (vw W base) tmps:=vy (W:=W) (fun j hj=>h j (fun hc=>hj (by
   rcases hc with hc | hc
   ·rcases List.mem_cons.1 hc with hc | hc
    ·exact .inr (.inl hc)
    ·exact .inl hc
   ·exact .inr (.inr hc))))
  simp only [vw] at hn ⊢
  by_cases e:t=i
  ·subst e
   rw [ax] at hn
   exact absurd rfl hn
  ·rw [aK e] at hn ⊢
   exact ih i (by simp; exact ⟨fun e'=>e e'.symm,hi⟩) hn
theorem sT {n:Nat} (m:Mv R' R n) {tmps:Array Value} {ae:a6} (hT:mL R' w β ae tmps) {base:a6}:∀ {ts:List Tmp} {K:Nat→Prop} {l l' r r':List AV},vu ae ts=some l→cq (l++r) (l'++r')→l.length=l'.length→aB n l'=true →
  vx R w β (fun i=>i∈ts∨K i) base tmps→vx R w β K (nw ts (l'++r') base) tmps
 | [],K,l,l',r,r',_,_,_,_,h=>fun i hi hn=>by
  have e:nw [] (l'++r') base=base:=rfl
  rw [e] at hn ⊢
  exact h i (by simpa using hi) hn
 | t :: ts,K,l,l',r,r',hg,hw,hl,hu,h=>by
  unfold vu at hg
  split at hg
  ·rename_i a ha
   split at hg
   ·rename_i l0 rD
    cases hg
    cases l' with
    | nil=>simp at hl
    | cons b l'=>
     simp only [List.cons_append,cq] at hw
     simp only [aB,Bool.and_eq_true] at hu
     have ih:vx R w β (fun i=>i=t∨K i) (nw ts (l'++r') base) tmps:=sT m hT rD hw.2 (by simpa using hl) hu.2 (fun j hj=>h j (fun hc=>hj (by
      rcases hc with hc | hc
      ·rcases List.mem_cons.1 hc with hc | hc
       ·exact .inr (.inl hc)
       ·exact .inl hc
      ·exact .inr (.inr hc))))
     intro i hi hn
     simp only [nw,List.cons_append] at hn ⊢
     by_cases e:t=i
     ·subst e
      rw [ax] at hn ⊢
      obtain ⟨c,h1,h2⟩:=hT t (by rw [ha]; simp)
      rw [ha] at h2
      exact ⟨c,h1,Rel.move m hu.1 (hw.1 _ _ _ h2)⟩
     ·rw [aK e] at hn ⊢
      exact ih i (by simp; exact ⟨fun e'=>e e'.symm,hi⟩) hn
   ·cases hg
  ·cases hg
def vz (R:ak) (w:World) (β:Nat→Nat) (k:Nat) (cs:List AV):Prop:=
 (∃ vs el,w.heap[β k]?=some (.cells ⟨vs⟩ el (0,0))∧aG R w cs vs∧(∀ v∈vs,v.oneCell'=true))∧(∀ o,¬ R.I (β k) o)∧¬ Live R (β k)
theorem Bj {R:ak} {n b:Nat} (h:Live (R.cut n) b):Live R b:=by
 obtain ⟨id,ro,h1,h2⟩:=h
 exact ⟨id,ro,(jj.1 h1).2,h2⟩
theorem vz.cut {n k:Nat} {cs cs':List AV} (h:vz R w β k cs) (hw:cq cs cs') (hu:aB n cs'=true):vz (R.cut n) w β k cs':=by
 obtain ⟨⟨vs,el,h1,h2,h3⟩,h4,h5⟩:=h
 exact ⟨⟨vs,el,h1,(hw.rel h2).move (nz R n) hu,h3⟩,h4,fun hl=>h5 (Bj hl)⟩
theorem eH {n:Nat}:∀ {l r:List AV},aB n (l++r)=(aB n l&&aB n r)
 | [],r=>by simp [aB]
 | a :: l,r=>by simp [aB,eH (l:=l),Bool.and_assoc]
theorem cq.split:∀ {l r l':List AV},cq (l++r) l'→∃ a b,l'=a++b∧cq l a∧cq r b∧a.length=l.length
 | [],r,l',h=>⟨[],l',rfl,trivial,h,rfl⟩
 | x :: l,r,[],h=>h.elim
 | x :: l,r,y :: l',h=>by
  obtain ⟨a,b,rfl,h2,h3,h4⟩:=cq.split (l:=l) (r:=r) (l':=l') h.2
  exact ⟨y :: a,b,rfl,⟨h.1,h2⟩,h3,by simp [h4]⟩
theorem Bk {n:Nat} {XF:cp} (hb:∀ k cs,dc XF k=some cs→vz R w β k cs) {base:cp}:∀ {bx:List (Nat × Nat)} {K:Nat→Prop} {l l' r:List AV},vv XF bx=some l→cq l l'→aB n l'=true →
  (∀ k cs,¬ K k→tf bx k=false→dc base k=some cs→dc XF k=some cs∧aB n cs=true) →
  ∀ k cs,¬ K k→dc (sS bx (l'++r) base) k=some cs→vz (R.cut n) w β k cs∧∃ cs',dc XF k=some cs'
 | [],K,l,l',r,_,_,_,h,k,cs,hK,hk=>by
  obtain ⟨h1,h2⟩:=h k cs hK rfl hk
  exact ⟨(hb k cs h1).cut (cq.refl _) h2,cs,h1⟩
 | (d,m) :: bx,K,l,l',r,hg,hw,hu,h,k,cs,hK,hk=>by
  unfold vv at hg
  split at hg
  ·rename_i Vn hd
   split at hg
   ·rename_i l0 rD
    cases hm:Nat.beq Vn.length m with
    | false=>rw [hm] at hg; cases hg
    | true=>
     rw [hm] at hg
     cases hg
     have hm:=Nat.eq_of_beq_eq_true hm
     obtain ⟨x,y,rfl,k1,k2,k3⟩:=hw.split
     rw [eH,Bool.and_eq_true] at hu
     have e1:((x++y)++r).take m=x:=by rw [List.append_assoc,← hm,← k3,List.take_left]
     have e2:((x++y)++r).drop m=y++r:=by rw [List.append_assoc,← hm,← k3,List.drop_left]
     simp only [sS,e1,e2] at hk
     rcases dP hk with ⟨rfl,rfl⟩ | ⟨cw,hk⟩
     ·exact ⟨(hb d Vn hd).cut k1 hu.1,Vn,hd⟩
     ·refine Bk hb (K:=fun k=>k=d∨K k) (r:=r) rD k2 hu.2 (fun k' cs' hK' h1 h2=>?_) k cs (fun hc=>?_) hk
      ·exact h k' cs' (fun hc=>hK' (.inr hc)) (by simp only [tf,h1,Bool.or_false]; exact lN (fun e=>hK' (.inl e.symm))) h2
      ·rcases hc with hc | hc
       ·exact cw hc.symm
       ·exact hK hc
   ·cases hg
  ·cases hg
def vA (n:Nat):List GL→List AV→Prop
 | [],_=>True
 | .cO _ _ :: r,l=>aB n (AV.dv (dG l))=true∧vA n r l.tail
 | .row m :: r,l=>vA n r (l.drop m)
 | .map :: r,l=>vA n r l.tail
 | .Ii :: r,l=>vA n r l.tail.tail
 | .a7 _ _ :: r,l=>vA n r l.tail
 | .qF :: r,l=>aB n (AV.dv (dG l))=true∧vA n r l.tail
 | .my _ :: r,l=>vA n r l.tail.tail
 | _ :: r,l=>vA n r l
def nA (n:Nat):List Bool→List AV→Prop
 | [],_=>True
 | _ :: _,[]=>True
 | f :: fl,a :: l=>(f=true→aB n a.dv=true)∧nA n fl l
theorem nA.drop {m:Nat}:∀ {fl:List Bool} {l:List AV} (n:Nat),nA m fl l→nA m (eK n fl) (l.drop n)
 | _,_,0,h=>by simpa [eK] using h
 | [],_,_+1,_=>by simp [eK,nA]
 | _ :: fl,[],n+1,_=>by
  rw [List.drop_nil]
  cases eK (n+1) (_ :: fl) <;> trivial
 | _ :: fl,_ :: l,n+1,h=>by simpa [eK] using nA.drop n h.2
theorem eN {m:Nat}:∀ (g:List GL) {fl:List Bool} {l:List AV},jM g fl=true→nA m fl l→vA m g l
 | [],_,_,_,_=>trivial
 | .cO _ _ :: g,[],_,h,_=>by cases h
 | .cO _ _ :: g,f :: fl,[],h,_=>by
  simp only [jM,Bool.and_eq_true] at h
  refine ⟨rfl,eN g (fl:=fl) h.2 ?_⟩
  cases fl <;> trivial
 | .cO _ _ :: g,f :: fl,a :: l,h,k=>by
  simp only [jM,Bool.and_eq_true] at h
  exact ⟨k.1 h.1,eN g h.2 k.2⟩
 | .row n :: g,fl,l,h,k=>eN g (show jM g (eK n fl)=true from h) (k.drop n)
 | .map :: g,fl,l,h,k=>by
  have:=eN g (show jM g (eK 1 fl)=true from h) (k.drop 1)
  rw [List.drop_one] at this
  exact this
 | .Ii :: g,fl,l,h,k=>by
  have:=eN g (show jM g (eK 2 fl)=true from h) (k.drop 2)
  have e:l.drop 2=l.tail.tail:=by cases l with
   | nil=>rfl
   | cons a l=>cases l <;> rfl
  rw [e] at this
  exact this
 | .a7 _ _ :: g,fl,l,h,k=>by
  have:=eN g (show jM g (eK 1 fl)=true from h) (k.drop 1)
  rw [List.drop_one] at this
  exact this
 | .my _ :: g,fl,l,h,k=>by
  have:=eN g (show jM g (eK 2 fl)=true from h) (k.drop 2)
  have e:l.drop 2=l.tail.tail:=by cases l with
   | nil=>rfl
   | cons a l=>cases l <;> rfl
  rw [e] at this
  exact this
 | .qF :: g,[],_,h,_=>by cases h
 | .qF :: g,f :: fl,[],h,_=>by
  simp only [jM,Bool.and_eq_true] at h
  refine ⟨rfl,eN g (fl:=fl) h.2 ?_⟩
  cases fl <;> trivial
 | .qF :: g,f :: fl,a :: l,h,k=>by
  simp only [jM,Bool.and_eq_true] at h
  exact ⟨k.1 h.1,eN g h.2 k.2⟩
 | .tok _ _ _ :: g,fl,l,h,k=>eN g (show jM g fl=true from h) k
 | .dead :: g,fl,l,h,k=>eN g (show jM g fl=true from h) k
 | .lp _ :: g,fl,l,h,k=>eN g (show jM g fl=true from h) k
 | .bo :: g,fl,l,h,k=>eN g (show jM g fl=true from h) k
theorem vB {n:Nat} {α:Type} {g:α→AV} (hg:∀ x,(g x).under n=true):∀ xs:List α,aB n (xs.map g)=true
 | []=>rfl
 | x :: xs=>by simp only [List.map_cons,aB,hg x,vB hg xs,Bool.and_self]
theorem sU {α:Type} {g:α→AV} (hg:∀ x,(g x).closed=true):∀ xs:List α,aA (xs.map g)=true
 | []=>rfl
 | x :: xs=>by simp only [List.map_cons,aA,hg x,sU hg xs,Bool.and_self]
theorem aH.Bl (n:Nat) (L:Nat→Nat):∀ (ps:aH) (x:ps.T),nA n (ps.flags n) (ps.jK L x)
 | .nil,_=>trivial
 | .cons p .nil,x=>⟨fun h=>PN L p x h,trivial⟩
 | .cons p (.cons q ps),x=>⟨fun h=>PN L p x.1 h,(aH.cons q ps).Bl n L x.2⟩
where
 PN (L:Nat→Nat):∀ (p:aj) (x:p.T),p.lcl n=true→aB n (p.jK L x).dv=true
  | .list _ p,x,h=>vB (fun y=>p.cZ y h) _
  | .int _,_,h=>by cases h
  | .bool,_,h=>by cases h
  | .str,_,h=>by cases h
  | .agg _,_,h=>by cases h
  | .bg _,_,h=>by cases h
  | .own _ _ _,_,h=>by cases h
  | .a7 _ _ _,_,h=>by cases h
  | .fe _,_,h=>by cases h
  | .two _ _,_,h=>by cases h
def Y3 (n:Nat):GO→GO→Prop
 | .row cs el,.row cs' Xq=>Xq=el∧cq cs cs'∧aB n cs'=true
 | .tok f sz e,.tok f' bG e'=>f=f'∧sz=bG∧e=e'
 | .defers a,.defers b=>a=b
 | .map es,.map es'=>(es'=es∧aV es=true)∨∃ l,es'=ab l∧iY (ai es) l∧aB n l=true
 | .a7 fs sz e,.a7 yQ bG e'=>fs=yQ∧sz=bG∧e=e'
 | .my pj m left _ t,.my mid' m' xU cur t'=>pj=mid'∧m=m'∧left=xU∧t=t'∧pj < n∧cur=none
 | .fB l p,.fB l' p'=>l'=l∧p'=p
 | .cO es sz e,.cO es' bG e'=>bG=sz∧e'=e∧iY es es'∧aB n es'=true
 | _,.dead=>True
 | _,_=>False
def Y4:GO→GO→GO→Prop
 | .loop _ _ fn sl n ps qx bd d _,.loop b p _ _ _ _ _ _ _ dn,go=>go=.loop b p fn sl n ps qx bd d dn
 | _,_,_=>False
theorem Gf {n:Nat} {o o':GO} (h:zu o o'=true):Y3 n o' o:=by
 cases o with
 | tok f sz e=>
  cases o' with
  | tok f' bG e'=>
   simp only [zu,Bool.and_eq_true] at h
   exact ⟨of_decide_eq_true h.1,Nat.eq_of_beq_eq_true h.2.1,Nat.eq_of_beq_eq_true h.2.2⟩
  | _=>cases h
 | defers a=>
  cases o' with
  | defers b=>cases a <;> cases b <;> first | rfl | cases h
  | _=>cases h
 | dead=>cases o' <;> trivial
 | _=>cases h
theorem LL {k:Ci} {o o':GO} (h:Rf k o o'=true):Y4 o o' (PK k o):=by
 cases o with
 | loop b p fn sl n ps qx bd d dn=>
  cases o' with
  | loop b' p' VE Ui n' VF LM Um d' dn'=>
   obtain ⟨rfl,rfl,rfl⟩:=Ci.EL (show k.is b' p' dn'=true from h)
   rfl
  | _=>cases h
 | _=>cases h
theorem oW (a:AV):a.entries=ab a.dv:=by cases a <;> rfl
theorem ga {n:Nat} {vs:List AV}:∀ {g:List GL} {B G:List GO} {l l':List AV},ji g G=some l→cq l l'→G6 l l'→vA n g l'∧Ik n g=true→aB n l'=true→da vs g B G=true →
  ∀ id go,nth (cX vs g B l') id=some go→∃ go',nth G id=some go'∧(Y3 n go' go∨∃ G4,nth B id=some G4∧Y4 G4 go' go)
 | [],B,G,l,l',_,_,_,_,_,_,id,go,h=>by simp [cX,nth] at h
 | x :: g,[],G,l,l',_,_,_,_,_,ht,_,_,_=>by cases x <;> cases G <;> cases ht
 | x :: g,_ :: _,[],l,l',_,_,_,_,_,ht,_,_,_=>by cases x <;> cases ht
 | .row m :: g,b :: B,o :: G,l,l',hg,hw,hx,q9,hu,ht,id,go,h=>by
   obtain ⟨CU,A8⟩:PL b o=true∧da vs g B G=true:=by
    rw [← Bool.and_eq_true]
    cases o <;> exact ht
   cases o with
   | row cs el=>
    have oL:VD b=el:=by
     cases b <;> first | (cases CU; done) | exact Nat.eq_of_beq_eq_true CU
    change (match ji g G with
     | some r=>bif Nat.beq cs.length m then some (cs++r) else none
     | none=>none)=some l at hg
    split at hg
    ·rename_i r hr
     cases hm:Nat.beq cs.length m with
     | false=>rw [hm] at hg; cases hg
     | true=>
      rw [hm] at hg
      cases hg
      have hm:=Nat.eq_of_beq_eq_true hm
      obtain ⟨x,y,rfl,k1,k2,k3⟩:=hw.split
      rw [eH,Bool.and_eq_true] at hu
      have e1:(x++y).take m=x:=by rw [← hm,← k3,List.take_left]
      have e2:(x++y).drop m=y:=by rw [← hm,← k3,List.drop_left]
      simp only [cX,e1,e2] at h
      cases id with
      | zero=>simp only [nth] at h; cases h; exact ⟨.row cs el,rfl,.inl ⟨oL,k1,hu.1⟩⟩
      | succ id=>exact ga hr k2 (by obtain ⟨x',y',e1',k1',K9,k3'⟩:=hx.split; have:=List.append_inj e1' (by rw [k3,k3']); rw [this.2]; exact K9) (by rw [← e2]; exact q9) hu.2 A8 id go h
    ·cases hg
   | _=>cases hg
 | .tok loc sz e :: g,b :: B,o :: G,l,l',hg,hw,hx,q9,hu,ht,id,go,h=>by
   cases o with
   | tok f bG e'=>
    change (bif Nat.beq sz bG&&Nat.beq e e' then ji g G else none)=some l at hg
    change (decide (f=Ij vs loc)&&da vs g B G)=true at ht
    rw [Bool.and_eq_true] at ht
    cases hm:(Nat.beq sz bG&&Nat.beq e e') with
    | false=>rw [hm] at hg; cases hg
    | true=>
     rw [hm] at hg
     rw [Bool.and_eq_true] at hm
     have q1:=Nat.eq_of_beq_eq_true hm.1
     have q2:=Nat.eq_of_beq_eq_true hm.2
     simp only [cX] at h
     cases id with
     | zero=>
      simp only [nth] at h
      cases h
      exact ⟨.tok f bG e',rfl,.inl ⟨of_decide_eq_true ht.1,q1.symm,q2.symm⟩⟩
     | succ id=>exact ga hg hw hx q9 hu ht.2 id go h
   | _=>cases hg
 | .dead :: g,b :: B,o :: G,l,l',hg,hw,hx,q9,hu,ht,id,go,h=>by
   simp only [cX] at h
   have po:ji g G=some l:=by cases o <;> exact hg
   have A8:da vs g B G=true:=by cases o <;> exact ht
   cases id with
   | zero=>
    simp only [nth] at h
    cases h
    exact ⟨o,rfl,.inl (by cases o <;> trivial)⟩
   | succ id=>exact ga po hw hx q9 hu A8 id go h
 | .lp k :: g,b :: B,o :: G,l,l',hg,hw,hx,q9,hu,ht,id,go,h=>by
   simp only [cX] at h
   have po:ji g G=some l:=by cases o <;> exact hg
   change (Rf k b o&&da vs g B G)=true at ht
   rw [Bool.and_eq_true] at ht
   cases id with
   | zero=>
    simp only [nth] at h
    cases h
    exact ⟨o,rfl,.inr ⟨b,rfl,LL ht.1⟩⟩
   | succ id=>exact ga po hw hx q9 hu ht.2 id go h
 | .bo :: g,b :: B,o :: G,l,l',hg,hw,hx,q9,hu,ht,id,go,h=>by
   simp only [cX] at h
   have po:ji g G=some l:=by cases o <;> exact hg
   change (zu b o&&da vs g B G)=true at ht
   rw [Bool.and_eq_true] at ht
   cases id with
   | zero=>
    simp only [nth] at h
    cases h
    exact ⟨o,rfl,.inl (Gf ht.1)⟩
   | succ id=>exact ga po hw hx q9 hu ht.2 id go h
 | .map :: g,b :: B,o :: G,l,l',hg,hw,hx,q9,hu,ht,id,go,h=>by
   cases o with
   | map es=>
    change (match ji g G with
     | some r=>some (AV.list .ka 2 (ai es) :: r)
     | none=>none)=some l at hg
    change (aV es&&da vs g B G)=true at ht
    rw [Bool.and_eq_true] at ht
    split at hg
    ·rename_i r hr
     cases hg
     cases l' with
     | nil=>exact hw.elim
     | cons a l'=>
      simp only [aB,Bool.and_eq_true] at hu
      simp only [cX,dG,List.tail_cons] at h
      cases id with
      | zero=>
       simp only [nth] at h
       cases h
       refine ⟨.map es,rfl,.inl (.inl ⟨?_,ht.1⟩)⟩
       rw [oW,hx.2.1 ht.1]
       exact mB es
      | succ id=>exact ga hr hw.2 hx.2.2.2 q9 hu.2 ht.2 id go h
    ·cases hg
   | _=>cases hg
 | .Ii :: g,b :: B,o :: G,l,l',hg,hw,hx,q9,hu,ht,id,go,h=>by
   have A8:da vs g B G=true:=by cases o <;> exact ht
   cases o with
   | fB s pos=>
    change (match ji g G with
     | some r=>some (AV.str s :: AV.int .i64 pos :: r)
     | none=>none)=some l at hg
    split at hg
    ·rename_i r hr
     cases hg
     match l',hw,hx,hu,h with
     | [],hw,_,_,_=>exact hw.elim
     | [_],hw,_,_,_=>exact hw.2.elim
     | a :: a' :: l',hw,hx,hu,h=>
      simp only [aB,Bool.and_eq_true] at hu
      simp only [cX,dG,List.tail_cons] at h
      have e1:=hx.1 (by simp [AV.exact])
      have e2:=hx.2.2.2.1 (by simp [AV.exact])
      subst e1 e2
      cases id with
      | zero=>
       simp only [nth] at h
       cases h
       exact ⟨.fB s pos,rfl,.inl ⟨rfl,by simp [AV.kb]⟩⟩
      | succ id=>exact ga hr hw.2.2 hx.2.2.2.2.2.2 q9 hu.2.2 A8 id go h
    ·cases hg
   | _=>cases hg
 | .cO sz e :: g,b :: B,o :: G,l,l',hg,hw,hx,q9,hu,ht,id,go,h=>by
   have A8:da vs g B G=true:=by cases o <;> exact ht
   cases o with
   | cO es bG e'=>
    change (match ji g G with
     | some r=>bif Nat.beq sz bG&&Nat.beq e e' then some (AV.list .ka bG es :: r) else none
     | none=>none)=some l at hg
    split at hg
    ·rename_i r hr
     cases hm:(Nat.beq sz bG&&Nat.beq e e') with
     | false=>rw [hm] at hg; cases hg
     | true=>
     rw [hm] at hg
     rw [Bool.and_eq_true] at hm
     have q1:=Nat.eq_of_beq_eq_true hm.1
     have q2:=Nat.eq_of_beq_eq_true hm.2
     cases hg
     cases l' with
     | nil=>exact hw.elim
     | cons a l'=>
      simp only [aB,Bool.and_eq_true] at hu
      simp only [cX,dG,List.tail_cons] at h
      cases id with
      | zero=>
       simp only [nth] at h
       cases h
       exact ⟨.cO es bG e',rfl,.inl ⟨q1,q2,hx.2.2.1,q9.1.1⟩⟩
      | succ id=>exact ga hr hw.2 hx.2.2.2 ⟨q9.1.2,q9.2⟩ hu.2 A8 id go h
    ·cases hg
   | _=>cases hg
 | .a7 sz e :: g,b :: B,o :: G,l,l',hg,hw,hx,q9,hu,ht,id,go,h=>by
   have A8:da vs g B G=true:=by cases o <;> exact ht
   cases o with
   | a7 fs bG e'=>
    change (match ji g G with
     | some r=>bif Nat.beq sz bG&&Nat.beq e e' then some (AV.list .ka 1 (ck fs) :: r) else none
     | none=>none)=some l at hg
    split at hg
    ·rename_i r hr
     cases hm:(Nat.beq sz bG&&Nat.beq e e') with
     | false=>rw [hm] at hg; cases hg
     | true=>
     rw [hm] at hg
     rw [Bool.and_eq_true] at hm
     have q1:=Nat.eq_of_beq_eq_true hm.1
     have q2:=Nat.eq_of_beq_eq_true hm.2
     cases hg
     cases l' with
     | nil=>exact hw.elim
     | cons a l'=>
      simp only [aB,Bool.and_eq_true] at hu
      simp only [cX,dG,List.tail_cons] at h
      cases id with
      | zero=>
       simp only [nth] at h
       cases h
       refine ⟨.a7 fs bG e',rfl,.inl ⟨?_,q1.symm,q2.symm⟩⟩
       rw [hx.2.1 (vt fs)]
       exact (sR fs).symm
      | succ id=>exact ga hr hw.2 hx.2.2.2 q9 hu.2 A8 id go h
    ·cases hg
   | _=>cases hg
 | .qF :: g,b :: B,o :: G,l,l',hg,hw,hx,q9,hu,ht,id,go,h=>by
   have A8:da vs g B G=true:=by cases o <;> exact ht
   cases o with
   | map es=>
    change (match ji g G with
     | some r=>some (AV.list .ka 2 (ai es) :: r)
     | none=>none)=some l at hg
    split at hg
    ·rename_i r hr
     cases hg
     cases l' with
     | nil=>exact hw.elim
     | cons a l'=>
      simp only [aB,Bool.and_eq_true] at hu
      simp only [cX,dG,List.tail_cons] at h
      cases id with
      | zero=>
       simp only [nth] at h
       cases h
       exact ⟨.map es,rfl,.inl (.inr ⟨a.dv,oW a,hx.2.2.1,q9.1.1⟩)⟩
      | succ id=>exact ga hr hw.2 hx.2.2.2 ⟨q9.1.2,q9.2⟩ hu.2 A8 id go h
    ·cases hg
   | _=>cases hg
 | .my pj :: g,b :: B,o :: G,l,l',hg,hw,hx,q9,hu,ht,id,go,h=>by
   obtain ⟨CU,A8⟩:PM b o=true∧da vs g B G=true:=by
    rw [← Bool.and_eq_true]
    cases o <;> exact ht
   cases o with
   | my mid' k left cur t=>
    have oL:VC b=t:=by
     cases b <;> first | (cases CU; done) | exact Nat.eq_of_beq_eq_true CU
    change (match ji g G with
     | some r=>bif Nat.beq pj mid' then some (AV.int .i64 k :: AV.list .ka 1 (ck left) :: r) else none
     | none=>none)=some l at hg
    split at hg
    ·rename_i r hr
     cases hm:Nat.beq pj mid' with
     | false=>rw [hm] at hg; cases hg
     | true=>
     rw [hm] at hg
     have q1:=Nat.eq_of_beq_eq_true hm
     subst q1
     cases hg
     have Y5:=q9.2
     simp only [Ik,Bool.and_eq_true] at Y5
     match l',hw,hx,hu,h with
     | [],hw,_,_,_=>exact hw.elim
     | [_],hw,_,_,_=>exact hw.2.elim
     | a :: a' :: l',hw,hx,hu,h=>
      simp only [aB,Bool.and_eq_true] at hu
      simp only [cX,dG,List.tail_cons] at h
      have e1:=hx.1 (by simp [AV.exact])
      have e2:=hx.2.2.2.2.1 (vt left)
      subst e1
      cases id with
      | zero=>
       simp only [nth] at h
       cases h
       refine ⟨.my pj k left cur t,rfl,.inl ⟨rfl,by simp [AV.kb],?_,oL.symm,iX Y5.1,rfl⟩⟩
       rw [e2]
       exact (sR left).symm
      | succ id=>exact ga hr hw.2.2 hx.2.2.2.2.2.2 ⟨q9.1,Y5.2⟩ hu.2.2 A8 id go h
    ·cases hg
   | _=>cases hg
theorem cH {vs:List AV}:∀ {g:List GL} {B:List GO} {l:List AV},(cX vs g B l).length=g.length
 | [],_,_=>rfl
 | .row m :: g,B,l=>by simp [cX,cH (g:=g)]
 | .tok _ _ _ :: g,B,l=>by simp [cX,cH (g:=g)]
 | .dead :: g,B,l=>by simp [cX,cH (g:=g)]
 | .lp _ :: g,B,l=>by simp [cX,cH (g:=g)]
 | .bo :: g,B,l=>by simp [cX,cH (g:=g)]
 | .map :: g,B,l=>by simp [cX,cH (g:=g)]
 | .cO _ _ :: g,B,l=>by simp [cX,cH (g:=g)]
 | .Ii :: g,B,l=>by simp [cX,cH (g:=g)]
 | .a7 _ _ :: g,B,l=>by simp [cX,cH (g:=g)]
 | .qF :: g,B,l=>by simp [cX,cH (g:=g)]
 | .my _ :: g,B,l=>by simp [cX,cH (g:=g)]
theorem fM.lok {R0:ak} {w0:World} {PO:RO} {G4 go' go:GO} {ro:RO} (e:Ext R0 w0 R w) (h0:fM R0 w0 G4 PO) (hle:ca PO ro) (h:fM R' w go' ro) (k:Y4 G4 go' go):fM R w go ro:=by
 cases G4 with
 | loop b p fn sl n ps qx bd d dn=>
  cases go' with
  | loop b' p' VE Ui n' VF LM Um d' dn'=>
   change go=_ at k
   subst k
   cases PO with
   | bT bb=>
    simp only [ca] at hle
    subst hle
    obtain ⟨⟨r0,db0,l1,l2,l3,l4,l5,l6,l7,l8,l9,l10⟩,l11⟩:=h0
    obtain ⟨⟨r,db,m1,m2,m3,m4,m5,m6,m7,m8,m9,m10⟩,m11⟩:=h
    obtain ⟨r1,q1,q2,q3,q4,q5,q6⟩:=e.lp bb r0 l1
    have hr:r1=r:=by
     have:=q1.symm.trans m1
     injection this with this
     injection this with this
    subst hr
    exact ⟨⟨r1,db0,q1,m2,m3,by rw [q2]; exact mL.mono e l4,by rw [q2]; exact l5,by rw [q3]; exact l6,by rw [q4]; exact l7,by rw [q5]; exact l8,by rw [q6]; exact l9,e.bT l10⟩,l11⟩
   | none=>exact h0.elim
   | bA=>exact h0.elim
   | tok _ _ _=>exact h0.elim
   | a7 _=>exact h0.elim
  | _=>exact k.elim
 | _=>exact k.elim
theorem cV.cut {n:Nat}:∀ {es:List (AV × AV)} {aw:List MapEntry},fb (ai es)=true→cV R w es aw→cV (R.cut n) w es aw
 | [],[],_,_=>trivial
 | [],_ :: _,_,h=>h.elim
 | _ :: _,[],_,h=>h.elim
 | (k,v) :: es,en :: aw,he,h=>by
  simp only [ai,fb,AV.exact,Bool.and_true,Bool.and_eq_true] at he
  exact ⟨h.1.move (nz R n) (gK n (mh he.1.1)),h.2.1.move (nz R n) (gK n (mh he.1.2)),cV.cut he.2 h.2.2⟩
theorem Bm {n:Nat} {v:AV} (h:v.under n=true) (k:v.aR=true):aB n v.cells=true:=by
 cases v <;> first | exact h | (simp [AV.aR] at k; done) | (simp only [AV.cells,aB,Bool.and_true]; exact h)
theorem vC {n sz:Nat}:∀ {es es':List AV},iY es es'→de sz es→aB n es'=true→de sz es'∧cq (ar es) (ar es')∧aB n (ar es')=true
 | [],[],_,_,_=>⟨(fun e he=>by simp at he),trivial,rfl⟩
 | e :: es,e' :: es',h,k,tg=>by
  obtain ⟨h1,h2⟩:=h
  simp only [aB,Bool.and_eq_true] at tg
  obtain ⟨q1,q2⟩:=k e (by simp)
  obtain ⟨i1,i2,i3⟩:=vC h2 (fun x hx=>k x (by simp [hx])) tg.2
  have hc:=h1.cells q2
  have ht:e'.aR=true:=by rw [h1.bg,q2]
  refine ⟨fun x hx=>?_,hc.append i2,by show aB n (e'.cells++ar es')=true; rw [eH,Bm tg.1 ht,i3]; rfl⟩
  rcases List.mem_cons.1 hx with rfl | hx
  ·exact ⟨by rw [← hc.length,q1],ht⟩
  ·exact i1 x hx
 | [],_ :: _,h,_,_=>h.elim
 | _ :: _,[],h,_,_=>h.elim
theorem mE.head {l r:List AV} (h:mE l r):(AV.dv (dG l)).length=(AV.dv (dG r)).length:=by
 cases l <;> cases r <;> first | rfl | exact h.1 | exact h.elim
theorem mE.tail {l r:List AV} (h:mE l r):mE l.tail r.tail:=by
 cases l <;> cases r <;> first | exact h | exact h.2 | exact h.elim
theorem cI:∀ (g:List GL) {l r:List AV} (i:Nat),mE l r→jL g l i=jL g r i
 | [],_,_,_,_=>rfl
 | .cO _ _ :: g,l,r,0,h=>h.head
 | .cO _ _ :: g,l,r,i+1,h=>cI g i h.tail
 | .row _ :: g,l,r,0,h=>rfl
 | .row n :: g,l,r,i+1,h=>cI g i (h.drop n)
 | .map :: g,l,r,0,h=>rfl
 | .map :: g,l,r,i+1,h=>cI g i h.tail
 | .Ii :: g,l,r,0,h=>rfl
 | .Ii :: g,l,r,i+1,h=>cI g i h.tail.tail
 | .a7 _ _ :: g,l,r,0,h=>rfl
 | .a7 _ _ :: g,l,r,i+1,h=>cI g i h.tail
 | .qF :: g,l,r,0,h=>rfl
 | .qF :: g,l,r,i+1,h=>cI g i h.tail
 | .my _ :: g,l,r,0,h=>rfl
 | .my _ :: g,l,r,i+1,h=>cI g i h.tail.tail
 | .tok _ _ _ :: g,l,r,0,h=>rfl
 | .tok _ _ _ :: g,l,r,i+1,h=>cI g i h
 | .dead :: g,l,r,0,h=>rfl
 | .dead :: g,l,r,i+1,h=>cI g i h
 | .lp _ :: g,l,r,0,h=>rfl
 | .lp _ :: g,l,r,i+1,h=>cI g i h
 | .bo :: g,l,r,0,h=>rfl
 | .bo :: g,l,r,i+1,h=>cI g i h
theorem cV.VG {n:Nat}:∀ {es:List (AV × AV)} {l:List AV} {aw:List MapEntry},iY (ai es) l→aB n l=true→cV R w es aw→cV (R.cut n) w (ab l) aw
 | [],[],[],_,_,_=>trivial
 | [],[],_ :: _,_,_,h=>h.elim
 | [],_ :: _,_,h,_,_=>h.elim
 | (_,_) :: _,[],_,h,_,_=>h.elim
 | (_,_) :: _,_ :: _,[],_,_,h=>h.elim
 | (k,v) :: es,a :: l,en :: aw,hd,hu,h=>by
  obtain ⟨d1,d2⟩:=hd
  simp only [aB,Bool.and_eq_true] at hu
  have hc:=d1.cells rfl
  have hl:[k,v].length=a.cells.length:=hc.length
  cases a with
  | agg cs=>
   match cs,hc,hl with
   | [k',v'],hc,_=>
    have Rg:aB n [k',v']=true:=hu.1
    simp only [aB,Bool.and_true,Bool.and_eq_true] at Rg
    exact ⟨(hc.1 _ _ _ h.1).move (nz R n) Rg.1,(hc.2.1 _ _ _ h.2.1).move (nz R n) Rg.2,cV.VG d2 hu.2 h.2.2⟩
   | [],_,hl=>simp [AV.cells] at hl
   | [_],_,hl=>simp [AV.cells] at hl
   | _ :: _ :: _ :: _,_,hl=>simp [AV.cells] at hl
  | _=>simp [AV.cells] at hl
theorem fM.gok {n:Nat} {go go':GO} {ro:RO} (h:fM R w go' ro) (k:Y3 n go' go):fM (R.cut n) w go ro:=by
 cases go with
 | dead=>
  cases ro with
  | none=>trivial
  | bA=>trivial
  | bT b=>exact h.lt rfl
  | tok f b c=>exact h.lt rfl
  | a7 ts=>exact fun j f b c hj=>h.lt ⟨j,f,c,hj⟩
 | row cs el=>
  cases go' with
  | row cs' Xq=>
   cases ro with
   | bT b=>
    obtain ⟨vs,h1,h2,h3,h4⟩:=h
    obtain ⟨rfl,k⟩:=k
    exact ⟨vs,h1,(k.1.rel h2).move (nz R n) k.2,h3,h4⟩
   | none=>exact h.elim
   | bA=>exact h.elim
   | tok _ _ _=>exact h.elim
   | a7 _=>exact h.elim
  | _=>exact k.elim
 | tok f sz e=>
  cases go' with
  | tok f' bG e'=>
   obtain ⟨rfl,rfl,rfl⟩:=k
   cases ro with
   | bT b=>exact h.elim
   | none=>exact h.elim
   | bA=>exact h
   | tok _ _ _=>exact h
   | a7 _=>exact h.elim
  | _=>exact k.elim
 | defers a=>
  cases go' with
  | defers b=>
   change b=a at k
   subst k
   cases ro <;> exact h
  | _=>exact k.elim
 | map es=>
  cases go' with
  | map es'=>
   cases ro with
   | bT b=>
    obtain ⟨aw,clock,h1,h2,h3⟩:=h
    rcases k with ⟨rfl,k2⟩ | ⟨l,rfl,k2,k3⟩
    ·exact ⟨aw,clock,h1,cV.cut k2 h2,h3⟩
    ·exact ⟨aw,clock,h1,cV.VG k2 k3 h2,h3⟩
   | none=>exact h.elim
   | bA=>exact h.elim
   | tok _ _ _=>exact h.elim
   | a7 _=>exact h.elim
  | _=>exact k.elim
 | a7 fs sz e=>
  cases go' with
  | a7 yQ bG e'=>
   obtain ⟨rfl,rfl,rfl⟩:=k
   cases ro <;> exact h
  | _=>exact k.elim
 | my pj m left cur t=>
  cases go' with
  | my mid' m' xU Ay t'=>
   obtain ⟨rfl,rfl,rfl,rfl,k,rfl⟩:=k
   cases ro with
   | bT b=>obtain ⟨bm,seen,c0,h1,h2,h3,h4,h5,h6,_⟩:=h; exact ⟨bm,seen,c0,jj.2 ⟨k,h1⟩,h2,h3,h4,h5,h6,fun i hi=>by cases hi⟩
   | none=>exact h.elim
   | bA=>exact h.elim
   | tok _ _ _=>exact h.elim
   | a7 _=>exact h.elim
  | _=>exact k.elim
 | fB l p=>
  cases go' with
  | fB l' p'=>
   obtain ⟨rfl,rfl⟩:=k
   cases ro <;> exact h
  | _=>exact k.elim
 | cO es sz e=>
  cases go' with
  | cO es' bG e'=>
   obtain ⟨rfl,rfl,k,kc⟩:=k
   cases ro with
   | bT b=>exact h.elim
   | none=>exact h.elim
   | a7 _=>exact h.elim
   | bA=>
    have he:es'=[]:=h
    subst he
    exact List.eq_nil_of_length_eq_zero k.length.symm
   | tok f b c=>
    obtain ⟨h0,h1,cur,vs,h2,h3,h4,h5,h6,h7,h8,h9⟩:=h
    obtain ⟨k1,k2,k3⟩:=vC k h1 kc
    exact ⟨h0.trans k.length,k1,cur,vs,h2,h3,h4,h5,h6,(k2.rel h7).move (nz R n) k3,h8,h9⟩
  | _=>exact k.elim
 | _=>cases go' <;> exact k.elim
theorem oC.ids:∀ {l:List Nat} {ds:List Deferred},oC R l ds→∀ id∈l,id < R.obj.length
 | [],[],_,id,hi=>by simp at hi
 | x :: l,d :: ds,h,id,hi=>by
  obtain ⟨⟨b,h1,_⟩,h2⟩:=h
  rcases List.mem_cons.1 hi with rfl | hi
  ·exact bH h1
  ·exact oC.ids h2 id hi
 | [],_ :: _,h,_,_=>h.elim
 | _ :: _,[],h,_,_=>h.elim
theorem oC.cut {n:Nat}:∀ {l:List Nat} {ds:List Deferred},oC R l ds→(∀ id∈l,id < n)→oC (R.cut n) l ds
 | [],[],_,_=>trivial
 | x :: l,d :: ds,h,hi=>by
  obtain ⟨⟨b,h1,h3⟩,h2⟩:=h
  exact ⟨⟨b,jj.2 ⟨hi x (by simp),h1⟩,h3⟩,oC.cut h2 fun id hm=>hi id (by simp [hm])⟩
 | [],_ :: _,h,_=>h.elim
 | _ :: _,[],h,_=>h.elim
theorem sV {n:Nat} {tmps:Array Value} {ae base:a6} (hT:mL R w β ae tmps):∀ {l:List (Tmp × Nat × Nat)},EM ae l=true→mL (R.cut n) w β base tmps→mL (R.cut n) w β (ny l base) tmps
 | [],_,h=>h
 | (t,k,o) :: l,hl,h=>fun i hi=>by
  simp only [EM,Bool.and_eq_true] at hl
  simp only [ny] at hi ⊢
  by_cases e:t=i
  ·subst e
   rw [ax]
   have h1:=hl.1
   split at h1
   ·rename_i k' o' hk
    rw [Bool.and_eq_true] at h1
    have e1:=Nat.eq_of_beq_eq_true h1.1
    have e2:=Nat.eq_of_beq_eq_true h1.2
    subst e1 e2
    obtain ⟨c,q1,q2⟩:=hT t (by rw [hk]; simp)
    rw [hk] at q2
    exact ⟨c,q1,q2⟩
   ·cases h1
  ·rw [aK e] at hi ⊢
   exact sV hT hl.2 h i hi
theorem cn.Ah {t:cn} {v:t.ps.T} (hs:aP s s') (h0:ba E R w β s a) (h:ba E R' w' β' s' a') (st:Step R w β s.boxes R' w' β' s'.boxes) (hd:t.dec s s'=some v) :
  ba E (R'.cut s.G.length) w' β' (t.st s v) a'∧Step R w β s.boxes (R'.cut s.G.length) w' β' (t.st s v).boxes:=by
 have hlen:=h0.g.len
 unfold cn.dec at hd
 cases dR:t.ok s s' with
 | false=>rw [dR] at hd; cases hd
 | true=>
 rw [dR] at hd
 simp only [cond_true] at hd
 unfold cn.ok at dR
 simp only [Bool.and_eq_true] at dR
 obtain ⟨⟨⟨⟨⟨k1,k2⟩,k3⟩,k4⟩,k5,k7,k8⟩,k6⟩:=dR
 obtain ⟨pre,xm⟩:=hs.sl
 obtain ⟨preB,PP⟩:=hs.bx
 rw [xm,Bi] at k1
 rw [PP,Bi] at k2
 have k3:=EN k3
 have k4:=Nat.eq_of_beq_eq_true k4
 split at hd
 ·rename_i la lb lc g1 g2 g3
  cases hv:t.ps.Gd (jL t.g lc) (la++(lb++lc)) with
  | none=>rw [hv] at hd; cases hd
  | some v'=>
  rw [hv] at hd
  simp only [Option.bind_some] at hd
  cases FO:da (t.oG v') t.g s.G s'.G with
  | false=>rw [FO] at hd; cases hd
  | true=>
  rw [FO] at hd
  cases hd
  have Y6:∀ {ts:List Tmp} {l:List AV},vu s'.ae ts=some l→l.length=ts.length:=by
   intro ts
   induction ts with
   | nil=>intro l hl; simp only [vu] at hl; cases hl; rfl
   | cons t ts ih=>
    intro l hl
    unfold vu at hl
    split at hl
    ·split at hl
     ·rename_i hr
      cases hl
      simp [ih hr]
     ·cases hl
    ·cases hl
  have Y7:∀ {bx:List (Nat × Nat)} {l:List AV},vv s'.boxes bx=some l→l.length=zv bx:=by
   intro bx
   induction bx with
   | nil=>intro l hl; simp only [vv] at hl; cases hl; rfl
   | cons x bx ih=>
    obtain ⟨k,m⟩:=x
    intro l hl
    unfold vv at hl
    split at hl
    ·split at hl
     ·rename_i cs _ _ r hr
      cases hm:Nat.beq cs.length m with
      | false=>rw [hm] at hl; cases hl
      | true=>
       rw [hm] at hl
       cases hl
       simp only [zv,List.length_append,ih hr,Nat.eq_of_beq_eq_true hm]
     ·cases hl
    ·cases hl
  obtain ⟨hw,hex⟩:=t.ps.LI _ hv
  have PQ:t.oG v=t.ps.jK (jL t.g lc) v:=by
   unfold cn.oG
   congr 1
   funext i
   have hl:=hex.VB.trans (t.ps.nu (jL t.g lc) (fun _=>0) v)
   have H7:=(hl.drop t.sl.length).drop (zv t.bx)
   rw [← Y6 g1,List.drop_left,← Y7 g2,List.drop_left,Y6 g1,Y7 g2] at H7
   exact (cI t.g i H7).symm
  have hu:aB s.G.length (t.oG v)=true:=by
   rw [PQ,t.ps.Ge _ hv]
   exact t.ps.Dp _ k5 _
  rw [← PQ] at hw hex
  have VH:∃ xa xb xc,t.oG v=xa++(xb++xc)∧cq la xa∧cq lb xb∧cq lc xc∧xa.length=la.length∧xb.length=lb.length∧G6 lc xc:=by
   obtain ⟨xa,r,h1,h2,h3,h4⟩:=hw.split
   obtain ⟨xb,xc,rfl,h6,h7,h8⟩:=h3.split
   rw [h1] at hex
   obtain ⟨ya,yr,g1,_,g3,g4⟩:=hex.split
   obtain ⟨_,rfl⟩:=List.append_inj g1 (by rw [h4,g4])
   obtain ⟨yb,yc,k1,_,k3,k4⟩:=g3.split
   obtain ⟨_,rfl⟩:=List.append_inj k1 (by rw [h8,k4])
   exact ⟨xa,xb,xc,h1,h2,h6,h7,h4,h8,k3⟩
  obtain ⟨xa,xb,xc,hx,wa,wb,wc,la1,lb1,exc⟩:=VH
  have Y8:aB s.G.length xa=true∧aB s.G.length xb=true∧aB s.G.length xc=true:=by
   rw [hx,eH,eH] at hu
   simp only [Bool.and_eq_true] at hu
   exact ⟨hu.1,hu.2.1,hu.2.2⟩
  have e1:(t.oG v).drop t.sl.length=xb++xc:=by rw [hx,← Y6 g1,← la1,List.drop_left]
  have e2:(xb++xc).drop (zv t.bx)=xc:=by rw [← Y7 g2,← lb1,List.drop_left]
  have q9:vA s.G.length t.g xc:=by
   have hf:=((aH.Bl s.G.length _ t.ps v).drop t.sl.length).drop (zv t.bx) (l:=(t.oG v).drop t.sl.length)
   rw [e1,e2] at hf
   exact eN t.g k7 hf
  have old:∀ {l:List AV} {cs:List Value},aG R w l cs→aB s.G.length l=true:=fun hr=>hr.under (by omega)
  have mv:=nz R' s.G.length
  have Xr:∀ k cs,dc s'.boxes k=some cs→vz R' w' β' k cs:=fun k cs hk=>h.b.box k cs hk
  have XG:∀ k cs,dc (sS t.bx (xb++xc) s.boxes) k=some cs→vz (R'.cut s.G.length) w' β' k cs∧∃ cs',dc s'.boxes k=some cs':=fun k cs hk=>by
   refine Bk (K:=fun _=>False) Xr g2 wb Y8.2.1 (fun k cs _ h1 h2=>?_) k cs (fun h=>h) hk
   refine ⟨by rw [PP]; exact Bh h1 h2 k2,?_⟩
   obtain ⟨⟨vs,el,_,h4,_⟩,_⟩:=h0.b.box k cs h2
   exact old h4
  have stG:(t.st s v).G=cX (t.oG v) t.g s.G xc:=by simp only [cn.st,e1,e2]
  have stB:(t.st s v).boxes=sS t.bx (xb++xc) s.boxes:=by simp only [cn.st,e1]
  have stS:(t.st s v).ae=ny t.Uk (nw t.sl (xa++(xb++xc)) (vw t.W s.ae)):=by simp only [cn.st,hx]
  have ext:Ext R w (R'.cut s.G.length) w':=⟨st.ext.I,st.ext.cell,fun id ro hi=>by
   obtain ⟨kR,h1,h2⟩:=st.ext.obj id ro hi
   exact ⟨kR,jj.2 ⟨by have:=bH hi; omega,h1⟩,h2⟩,st.ext.lp⟩
  refine ⟨⟨⟨?_,fun id go ro h1 h2=>?_,fun i j ri rj b h1 h2=>h.g.inj i j ri rj b (jj.1 h1).2 (jj.1 h2).2,h.g.wf,fun g cs hg=>(h.g.bY g cs hg).move mv (b8 _ (E.mJ g cs hg)),h.g.lo⟩,?_,?_,?_,?_⟩,?_⟩
  ·rw [stG,cH,k4]
   have:=h.g.len
   have h3:s.G.length≤R'.obj.length:=by
    rcases Nat.lt_or_ge R'.obj.length s.G.length with bP | lM
    ·exfalso
     have hx:R'.obj.length < R.obj.length:=by omega
     obtain ⟨kR,h1,_⟩:=st.ext.obj R'.obj.length R.obj[R'.obj.length] (by rw [aX]; exact List.getElem?_eq_getElem hx)
     have:=bH h1
     omega
    ·exact lM
   simp [ak.cut]
   omega
  ·rw [stG] at h1
   obtain ⟨go',h3,h4⟩:=ga g3 wc exc ⟨q9,k8⟩ Y8.2.2 FO id go h1
   rcases h4 with h4 | ⟨G4,h5,h4⟩
   ·exact (h.g.obj id go' ro h3 (jj.1 h2).2).gok h4
   ·have bP:=bH h5
    rw [← hlen] at bP
    obtain ⟨PO,h6⟩:∃ PO,nth R.obj id=some PO:=⟨R.obj[id],by rw [aX]; exact List.getElem?_eq_getElem bP⟩
    obtain ⟨kR,h7,h8⟩:=ext.obj id PO h6
    have:kR=ro:=Option.some.inj (h7.symm.trans h2)
    subst this
    exact fM.lok ext (h0.g.obj id G4 PO h5 h6) h8 (h.g.obj id go' kR h3 (jj.1 h2).2) h4
  ·rw [stB]
   refine ⟨fun k cs hk=>(XG k cs hk).1,fun k k' cs cs' hk gS he=>?_⟩
   obtain ⟨_,c1,zz⟩:=XG k cs hk
   obtain ⟨_,c2,Ly⟩:=XG k' cs' gS
   exact h.b.inj k k' c1 c2 zz Ly he
  ·rw [stS]
   have hT:vx (R'.cut s.G.length) w' β' (fun _=>False) (nw t.sl (xa++(xb++xc)) (vw t.W s.ae)) a'.tmps:=by
    refine sT mv h.t g1 (l':=xa) (r:=lb++lc) (r':=xb++xc) (wa.append (wb.append wc)) la1.symm Y8.1 (vy fun i hi hn=>?_)
    have hi1:Ul t.sl t.W i=false:=by
     simp only [Ul,Bool.or_eq_false_iff]
     refine ⟨?_,?_⟩
     ·cases hc:Lb t.sl i with
      | false=>rfl
      | true=>exact absurd (.inr (.inl (zw.1 hc))) hi
     ·cases hc:Lb t.W i with
      | false=>rfl
      | true=>exact absurd (.inl (zw.1 hc)) hi
    have hk:=zy hi1 k1
    rw [← xm] at hk
    obtain ⟨c,h1,h2⟩:=h.t i (by rw [hk]; exact hn)
    rw [hk] at h2
    refine ⟨c,h1,?_⟩
    obtain ⟨c0,_,h4⟩:=h0.t i hn
    revert h2 h4
    cases lk s.ae i with
    | none=>exact fun _ _=>trivial
    | lp k off=>exact fun h2 _=>h2
    | v x=>exact fun h2 h4=>Rel.move mv (Rel.under (by omega) h4) h2
   exact sV h.t k6 (fun i hi=>hT i (fun h=>h) hi)
  ·show a'.tmps.size=s.n
   rw [h.n,hs.n]
  ·show oC _ s.marks a'.defers
   have:=h.d
   rw [k3] at this
   exact this.cut fun id hid=>by have:=h0.d.ids id hid; omega
  ·refine ⟨ext,st.os,st.tape,st.output,st.size,st.bo,fun b hb ho=>st.own b hb ?_,st.im⟩
   rcases ho with ho | ⟨k,cs,hk,rfl⟩
   ·exact .inl (Bj ho)
   ·rw [stB] at hk
    obtain ⟨_,c1,zz⟩:=XG k cs hk
    exact .inr ⟨k,c1,zz,rfl⟩
 ·cases hd
end Ah
end Go.Am
namespace Go.Am
open Go
def gk:a6→a6
 | []=>[]
 | .put d (.lp _ _) :: l=>.put d .none :: gk l
 | .put d x :: l=>.put d x :: gk l
 | .kill _ :: l=>gk l
def SV.xp:SV→SV
 | .lp _ _=>.none
 | x=>x
theorem rR (t:Nat):∀ l:a6,lk (gk l) t=(lk l t).xp
 | []=>rfl
 | .put d x :: l=>by
  cases x <;> simp only [gk] <;> by_cases e:d=t <;> first | (subst e; rw [ax,ax]; rfl) | (rw [aK e,aK e]; exact rR t l)
 | .kill d :: l=>by
  simp only [gk,lk]
  rw [rR t l]
  cases lk l t with
  | lp k off=>
   by_cases e:k=d
   ·subst e; simp [SV.xp]
   ·simp [lN e,SV.xp]
  | _=>rfl
theorem mi:∀ l:a6,Ef (gk l)=true
 | []=>rfl
 | .put d x :: l=>by
  cases x <;> simp only [gk,Ef] <;> exact mi l
 | .kill d :: l=>by simp only [gk]; exact mi l
def Y9 (E:Env) (Q:Exit→St→Prop) (s:St) (G':List GO):Prop:=
 match nth G' (s.G.length+1) with
 | some (.loop busy pending _ _ _ _ _ _ _ done)=>(busy=false∨done=true) ∧
  match pending with
  | none=>Q .normal ⟨s.ae,s.boxes,ay G' (s.G.length+1) .dead,s.G.length :: s.marks,s.ro,s.n⟩
  | some c=>e7 E c Q ⟨s.ae,s.boxes,ay G' (s.G.length+1) .dead,s.G.length :: s.marks,s.ro,s.n⟩
 | _=>False
theorem Dq {busy done:Bool} (h:busy=false∨done=true):(if done=true then LoopState.done else if busy=true then LoopState.busy else LoopState.ready)≠LoopState.busy:=by
 rcases h with rfl | rfl
 ·cases done <;> simp
 ·simp
theorem e7.rangeFunc {E:Env} {Q:Exit→St→Prop} {s:St} (fp:Nat) {g:Operand} {ps:Array Tmp} {assign body:Code} (bL:s.ro=none) {f:FuncId} {first cap:List AV} (hg:bw E s.ae g=.v (.fn f first cap))
  (h:cj E f (first++[.yield (s.G.length+1)]++cap) (s.G++[.defers true]++[.loop false none fp (gk s.ae) s.n ps.toList assign body s.G.length false]) (fun _ G'=>Y9 E Q s G')) :
  e7 E (.rangeFunc g ps assign body) Q s:=fun R w β a F hr hf=>by
 rw [bL] at hf
 have Vi:F=Fence.wide:=hf
 subst Vi
 refine wpIn_rangeFunc fun fn _=>?_
 have rg:=aO hr g
 rw [hg] at rg
 have rg':Rel R w (.fn f first cap) (a.eval g):=rg
 -- the block for the deferred calls
 have HQ:fM (R.add (.bT w.heap.size)) (w.alloc (.deferred (some []))) (.defers true) (.bT w.heap.size):=heap_alloc_new w _
 have h1:=hr.kF (.deferred (some [])) (.defers true) (.bT w.heap.size) (by exact fun _ h=>h) HQ
 have s1:=cT hr (.deferred (some [])) (.bT w.heap.size) (by exact fun _ h=>h)
 have dO:(w.alloc (.deferred (some []))).heap.size=w.heap.size+1:=by simp
 generalize YJ:w.alloc (.deferred (some []))=w1 at *
 generalize hR1:R.add (.bT w.heap.size)=R1 at *
 -- the loop's record
 let tA:Loop:={ state:=.ready,pending:=none,fn:=fn,tmps:=a.tmps,params:=ps,assign:=assign,body:=body,defers:=w.heap.size }
 have HA:nth R1.obj s.G.length=some (.bT w.heap.size):=by rw [← hR1]; exact fY hr _
 have e2:Ext R1 w1 (R1.add (.bT w1.heap.size)) (w1.alloc (.loop tA)):=fX h1.g.wf _ _
 have Vo:fM (R1.add (.bT w1.heap.size)) (w1.alloc (.loop tA)) (.loop false none fp (gk s.ae) s.n ps.toList assign body s.G.length false) (.bT w1.heap.size):=by
  refine ⟨⟨tA,w.heap.size,heap_alloc_new w1 _,rfl,rfl,fun i hi=>?_,hr.n,by simp [tA],rfl,rfl,rfl,e2.bT HA⟩,mi _⟩
  rw [rR] at hi ⊢
  have cw:lk s.ae i≠.none:=fun e=>hi (by rw [e]; rfl)
  obtain ⟨c,k1,k2⟩:=hr.t i cw
  refine ⟨c,k1,?_⟩
  cases hx:lk s.ae i with
  | none=>exact absurd hx cw
  | lp k off=>rw [hx] at hi; exact absurd rfl hi
  | v x=>
   rw [hx] at k2
   exact Rel.mono (s1.ext.trans e2) (show Rel R w x c from k2)
 have h2:=h1.kF (.loop tA) (.loop false none fp (gk s.ae) s.n ps.toList assign body s.G.length false) (.bT w1.heap.size) (by exact fun _ h=>h) Vo
 have s2:=cT h1 (.loop tA) (.bT w1.heap.size) (by exact fun _ h=>h)
 have VI:nth (R1.add (.bT w1.heap.size)).obj (s.G.length+1)=some (.bT w1.heap.size):=by
  have:=fY h1 (.bT w1.heap.size)
  simpa [St.dw] using this
 have st:=s1.trans s2
 generalize hR2:R1.add (.bT w1.heap.size)=R2 at *
 generalize Vs:a.eval g=fv at rg'
 cases rg' with
 | @fn _ _ _ vs us q1 q2=>
 refine ⟨w.heap.size+1,[{ target:=.collected w.heap.size,args:=#[] }],w1.alloc (.loop tA),{ target:=.fn (.func f) ⟨us⟩,args:=⟨vs⟩++#[.func (.yield (w.heap.size+1)) #[] #[]] },w1.alloc (.loop tA),f,
  ⟨vs++[.func (.yield (w.heap.size+1)) #[] #[]]++us⟩,w1.alloc (.loop tA),?_,?_,?_,?_,?_,?_⟩
 ·have:Fence.wide.round=none:=rfl
  rw [this,run_enterLoop_outer,YJ]
 ·simp only [resolve,Vs,Deferred.ofValue,Sem.run_pure]
  simp [Act.eval]
 ·intro f' _
  exact trivial
 ·have:=lY (P:=E.P) h.1 (⟨vs++[.func (.yield (w.heap.size+1)) #[] #[]]++us⟩) (w1.alloc (.loop tA))
  simpa [invoke] using this
 ·intro hc; cases hc
 ·have hG:(s.dw (.defers true)).dw (.loop false none fp (gk s.ae) s.n ps.toList assign body s.G.length false)=s.bW (s.G++[.defers true]++[.loop false none fp (gk s.ae) s.n ps.toList assign body s.G.length false]):=rfl
  have XH:Rel R2 (w1.alloc (.loop tA)) (.yield (s.G.length+1)) (.func (.yield (w.heap.size+1)) #[] #[]):=by
   rw [← dO]
   exact .yield VI
  refine (h.2 R2 (w1.alloc (.loop tA)) _ h2.g ((((q1.mono st.ext).append (.one XH)).append (q2.mono st.ext)))).mono ?_
  intro e w3 he
  cases e with
  | panicked c=>exact he.elim
  | outgrown=>exact he.elim
  | returned c=>
   obtain ⟨r,G',R3,hQ,dM,hg3,Za⟩:=he
   obtain ⟨p1,p2⟩:=h2.rL hg3 Za
   unfold Y9 at hQ
   split at hQ
   ·rename_i busy pending ff sl nn pp qx bd dd done Rh
    obtain ⟨hbd,hQ⟩:=hQ
    have VJ:nth R3.obj (s.G.length+1)=some (.bT w1.heap.size):=Za.ext.bT VI
    obtain ⟨⟨r3,db,l1,l2,l3,_,_,_,_,_,_,_⟩,_⟩:=p1.g.obj _ _ _ Rh VJ
    have Ri:r3.state≠.busy:=by rw [l2]; exact Dq hbd
    have l1':w3.heap[w.heap.size+1]?=some (.loop r3):=by rw [← dO]; exact l1
    refine ⟨r3.pending,_,run_endLoop l1' Ri,?_⟩
    rw [l3]
    -- the record is dead
    have VK:nth R3.obj s.G.length=some (.bT w.heap.size):=Za.ext.bT (by rw [← hR2] at e2 ⊢; exact e2.bT HA)
    have key:∀ x:Obj,n4 x→(∀ r,Obj.loop r3=.loop r→∃ r',x=.loop r'∧qb r r')→ba E R3 (World.put w3 w1.heap.size x) β ⟨s.ae,s.boxes,ay G' (s.G.length+1) .dead,s.G.length :: s.marks,s.ro,s.n⟩ { a with defers:=[{ target:=.collected w.heap.size,args:=#[] }]++a.defers }∧Step R w β s.boxes R3 (World.put w3 w1.heap.size x) β s.boxes:=fun x hx hlx=>by
     obtain ⟨z1,z2⟩:=p1.setObj (x':=x) (go':=.dead) VJ l1 trivial hx hlx (show w1.heap.size < _ by simp [World.put]; exact bc l1)
     exact ⟨⟨z1.g,z1.b,z1.t,z1.n,⟨⟨w.heap.size,VK,rfl⟩,z1.d⟩⟩,(st.trans p2).trans z2⟩
    obtain ⟨z1,z2⟩:=key (.loop { r3 with state:=.exhausted,pending:=pending }) trivial (fun r e=>⟨_,rfl,by cases e; exact ⟨rfl,rfl,rfl,rfl,rfl⟩⟩)
    rw [dO] at z1 z2
    cases pending with
    | none=>exact ⟨_,R3,β,hQ,z1,z2,rfl⟩
    | some c=>
     refine wpIn_mono (hQ R3 _ β _ Fence.wide z1 (by show bM R3 s.ro Fence.wide; rw [bL]; rfl)) ?_
     rintro e a'' Pz ⟨AB,Lj,Uf,QZ,zj,sL,xZ⟩
     exact ⟨AB,Lj,Uf,QZ,zj,z2.trans sL,xZ⟩
   ·exact hQ.elim
def Dr (id:Nat) (Q:Bool→List GO→Prop):Exit→St→Prop:=fun e s=>match nth s.G id with
 | some (.loop _ _ fn sl n ps qx bd d _)=>match e with
  | .normal=>Q true (ay s.G id (.loop false none fn sl n ps qx bd d false))
  | .ret=>Q false (ay s.G id (.loop false (some .ret) fn sl n ps qx bd d true))
  | .exit i=>Q false (ay s.G id (.loop false (some (.exit i)) fn sl n ps qx bd d true))
  | _=>False
 | _=>False
def zA (E:Env) (id:Nat) (body:Code) (Q:Bool→List GO→Prop):Exit→St→Prop:=fun e s=>match e with
 | .normal=>match nth s.G id with
  | some (.loop false p fn sl n ps qx bd d false)=>e7 E body (Dr id Q) (s.bW (ay s.G id (.loop true p fn sl n ps qx bd d false)))
  | _=>False
 | _=>False
def vD:List Tmp→List AV→a6→a6
 | t :: ts,a :: l,r=>vD ts l (.put t (.v a) :: r)
 | _,_,r=>r
def St.round (id:Nat) (ae:a6) (n:Nat) (G:List GO):St:=⟨ae,[],G,[],some id,n⟩
theorem vE {R:ak} {w:World} {β:Nat→Nat}:∀ {ts:List Tmp} {l:List AV} {cs:List Value} {r:a6} {tmps:Array Value},mL R w β r tmps→aG R w l cs→l.length=ts.length→(∀ t∈ts,t < tmps.size) →
  mL R w β (vD ts l r) ((ts.zip cs).foldl (fun tmps (t,a)=>tmps.setIfInBounds t a) tmps)
 | [],[],_,_,_,h,.nil,_,_=>h
 | t :: ts,a :: l,c :: cs,r,tmps,h,.cons hx hl,hlen,ht=>by
  have dO:t < tmps.size:=ht t (by simp)
  simp only [vD,List.zip_cons_cons,List.foldl_cons]
  refine vE ?_ hl (by simpa using hlen) (fun t' h'=>by simpa using ht t' (by simp [h']))
  have:=mL.put (a:={ tmps:=tmps,defers:=[] }) h (d:=t) (x:=.v a) (c:=c) dO hx
  simpa [Act.put] using this
 | [],_ :: _,_,_,_,_,_,hlen,_=>by simp at hlen
 | _ :: _,[],_,_,_,_,_,hlen,_=>by simp at hlen
theorem Ds (l:List (Tmp × Value)):∀ tmps:Array Value,(l.foldl (fun (tmps:Array Value) (x:Tmp × Value)=>tmps.setIfInBounds x.1 x.2) tmps).size=tmps.size:=by
 induction l with
 | nil=>intro _; rfl
 | cons x l ih=>intro tmps; rw [List.foldl_cons,ih]; simp
theorem jD.intro {E:Env} {id:Nat} {args:List AV} {G:List GO} {Q:Bool→List GO→Prop} {fn:FuncId} {ae:a6} {n:Nat} {ps:List Tmp} {assign body:Code} {d:Nat} {p:Option Code}
  (hG:nth G id=some (.loop false p fn ae n ps assign body d false)) (hl:args.length=ps.length) (GZ:∀ t∈ps,t < n)
  (h:e7 E assign (zA E id body Q) (St.round id (vD ps args ae) n G)):jD E id args G Q:=fun R w cs b hg hr hb=>by
 obtain ⟨⟨r,db,l1,l2,l3,l4,l5,l6,l7,l8,l9,l10⟩,l11⟩:=hg.obj id _ _ hG hb
 have hlen:=hr.length
 refine ⟨r,l1,by rw [l6]; simp; omega,?_⟩
 have Zb:Step R w (fun _=>0) eu R w (fun _=>0) eu:=Step.refl _ _ _ _
 have Zc:ba E R w (fun _=>0) (St.round id (vD ps args ae) n G) { tmps:=(r.params.zip ⟨cs⟩).foldl (fun tmps (t,a)=>tmps.setIfInBounds t a) r.tmps,defers:=[] }:=by
  have VL:(r.params.zip ⟨cs⟩).foldl (fun (tmps:Array Value) (x:Tmp × Value)=>tmps.setIfInBounds x.1 x.2) r.tmps=(ps.zip cs).foldl (fun (tmps:Array Value) (x:Tmp × Value)=>tmps.setIfInBounds x.1 x.2) r.tmps:=by
   rw [← Array.foldl_toList]
   simp [l6]
  refine ⟨hg,⟨fun k cs hk=>?_,fun k k' c c' hk=>?_⟩,?_,?_,trivial⟩
  ·simp [St.round,dc] at hk
  ·simp [St.round,dc] at hk
  ·show mL _ _ _ _ _
   have:=vE (ts:=ps) (l:=args) (cs:=cs) l4 hr hl (fun t ht=>by rw [l5]; exact GZ t ht)
   rw [← VL] at this
   exact this
  ·show _=n
   have:=Ds (ps.zip cs) r.tmps
   rw [← VL] at this
   exact this.trans l5
 have Vl:∀ (k:Nat) (cs:List AV),dc (St.round id (vD ps args ae) n G).boxes k≠some cs:=fun k cs hk=>by simp [St.round,dc] at hk
 rw [l7,l8]
 refine roundIn_of_wpIn trivial (wpIn_mono (h R w (fun _=>0) _ (Fence.wide.inRound b) Zc ⟨b,hb,rfl⟩) ?_)
 rintro e a1 w1 ⟨s1,R1,β1,hq,uO,st1,Zd⟩
 unfold zA at hq
 cases e with
 | normal=>
  simp only at hq
  split at hq
  ·rename_i p' VE Ui n' VF LM Um d' Ze
   have H8:nth R1.obj id=some (.bT b):=st1.ext.bT hb
   obtain ⟨⟨r1,db1,m1,m2,m3,m4,m5,m6,m7,m8,m9,m10⟩,m11⟩:=uO.g.obj id _ _ Ze H8
   refine ⟨_,run_beginRound m1 m2,?_⟩
   obtain ⟨z1,z2⟩:=uO.setObj (x':=.loop { r1 with state:=.busy }) (go':=.loop true p' VE Ui n' VF LM Um d' false) H8 m1 trivial trivial (fun r e=>⟨_,rfl,by cases e; exact ⟨rfl,rfl,rfl,rfl,rfl⟩⟩)
    ⟨⟨{ r1 with state:=.busy },db1,fQ _ _ _ (bc m1),rfl,m3,m4.mono (lT (x':=.loop { r1 with state:=.busy }) m1 trivial trivial (fun r e=>⟨_,rfl,by cases e; exact ⟨rfl,rfl,rfl,rfl,rfl⟩⟩)),m5,m6,m7,m8,m9,m10⟩,m11⟩
   refine wpIn_mono (hq R1 _ β1 a1 (Fence.wide.inRound b) z1 (by show bM R1 s1.ro _; rw [Zd]; exact ⟨b,H8,rfl⟩)) ?_
   rintro e2 a2 w2 ⟨s2,R2,β2,mP,AP,st2,Gg⟩
   unfold Dr at mP
   split at mP
   ·rename_i bu2 p2 XI Zf n2 Zg Zh Zi d2 dn2 Vu
    have VM:=(st1.trans z2).trans st2
    have G5:nth R2.obj id=some (.bT b):=VM.ext.bT hb
    obtain ⟨⟨r2,db2,o1,o2,o3,o4,o5,o6,o7,o8,o9,Il⟩,qG⟩:=AP.g.obj id _ _ Vu G5
    have fin:∀ (j:Option Code),zk E R w (fun b' G'=>G'=ay s2.G id (.loop false j XI Zf n2 Zg Zh Zi d2 (!j.isNone))∧b'=j.isNone) (.returned (.bool j.isNone)) (w2.putObj b (.loop { r2 with state:=if j.isNone then .ready else .done,pending:=j })):=fun j=>by
     obtain ⟨y1,y2⟩:=AP.setObj (x':=.loop { r2 with state:=if j.isNone then .ready else .done,pending:=j }) (go':=.loop false j XI Zf n2 Zg Zh Zi d2 (!j.isNone)) G5 o1 trivial trivial (fun r e=>⟨_,rfl,by cases e; exact ⟨rfl,rfl,rfl,rfl,rfl⟩⟩)
      ⟨⟨{ r2 with state:=if j.isNone then .ready else .done,pending:=j },db2,fQ _ _ _ (bc o1),by cases j <;> rfl,rfl,o4.mono (lT (x':=.loop { r2 with state:=if j.isNone then .ready else .done,pending:=j }) o1 trivial trivial (fun r e=>⟨_,rfl,by cases e; exact ⟨rfl,rfl,rfl,rfl,rfl⟩⟩)),o5,o6,o7,o8,o9,Il⟩,qG⟩
     exact ⟨_,_,R2,⟨rfl,rfl⟩,rfl,y1.g,uW (VM.trans y2) Vl⟩
    have mk:∀ (j:Option Code),Q j.isNone (ay s2.G id (.loop false j XI Zf n2 Zg Zh Zi d2 (!j.isNone)))→∃ v w',(Instr.endRound b j).run E.P w2=.ok v w'∧zk E R w Q (.returned v) w':=fun j hQ=>by
     refine ⟨_,_,run_endRound j o1,?_⟩
     obtain ⟨r',G',R',⟨h1,h2⟩,h3⟩:=fin j
     subst h1; subst h2
     exact ⟨_,_,R',hQ,h3⟩
    cases e2 with
    | normal=>exact mk none mP
    | ret=>exact mk (some .ret) mP
    | exit i=>exact mk (some (.exit i)) mP
    | _=>exact mP.elim
   ·exact mP.elim
  ·exact hq.elim
 | _=>exact hq.elim
end Go.Am
namespace Go.Am
open Go
section
variable {E:Env} {R R':ak} {w w':World} {β β':Nat→Nat} {s s':St} {a a':Act}
def aS (E:Env) (g:FuncId) (args:List AV) (Q:AV→Prop):Prop:=∀ G,cj E g args G (fun r G'=>G'=G∧Q r)
theorem aS.mono {g:FuncId} {args:List AV} {Q Q':AV→Prop} (h:aS E g args Q) (hq:∀ r,Q r→Q' r):aS E g args Q':=
 fun G=>(h G).mono fun r _ hh=>⟨hh.1,hq r hh.2⟩
theorem aS.of {g:FuncId} {args:List AV} {p:aj} {Q:p.T→Prop} (hc:aB 0 args=true) (hp:p.under 0=true)
  (h:cj E g args [] (fun r _=>∃ y,p.dec r=some y∧Q y)):aS E g args (fun r=>∃ y,r=p.enc y∧Q y):=fun G=>by
 refine ⟨h.1,fun R w cs hg hl=>?_⟩
 let R0:ak:=⟨R.I,[]⟩
 have m0:Mv R R0 0:=⟨fun _ _ h=>h,fun _ _ h=>absurd h (Nat.not_lt_zero _)⟩
 have K3:cW E R0 w []:=⟨rfl,fun id go ro h1 _=>by simp [nth] at h1,fun i j ri rj b h1=>by simp [R0,nth] at h1,hg.wf,fun g cs pt=>(hg.bY g cs pt).move m0 (b8 _ (E.mJ g cs pt)),hg.lo⟩
 have rD:aG R0 w args cs:=hl.move m0 hc
 refine (h.2 R0 w cs K3 rD).mono fun e w' he=>?_
 cases e with
 | panicked c=>exact he.elim
 | outgrown=>exact he.elim
 | returned c=>
  obtain ⟨r,G',R1,⟨y,hy,hQ⟩,dM,LN,st⟩:=he
  have iy:∀ b,¬ Own R0 (fun _=>0) eu b:=fun b ho=>by
   obtain ⟨id,ro,h1,_⟩:=dS ho
   simp [R0,nth] at h1
  let R2:ak:=⟨R1.I,R.obj⟩
  have e:Ext R w R2 w':=⟨st.ext.I,st.ext.cell,fun id ro h=>⟨ro,h,ca.refl ro⟩,st.ext.lp⟩
  have bo:∀ b,b < w.heap.size→w'.heap[b]?=w.heap[b]?:=fun b hb=>st.bo b hb (iy b)
  have im:∀ b o,b < w.heap.size→R1.I b o→R.I b o:=fun b o hb hi=>st.im b o hi hb (iy b)
  have hd:=p.pn hy
  have m:Mv R1 R2 0:=⟨fun _ _ h=>h,fun _ _ h=>absurd h (Nat.not_lt_zero _)⟩
  refine ⟨p.enc y,G,R2,⟨rfl,y,rfl,hQ⟩,Rel.move m (p.cZ y hp) (hd.fJ _ _ _ dM),⟨hg.len,fun id go ro h1 h2=>?_,hg.inj,LN.wf,fun g cs pt=>(hg.bY g cs pt).mono e,LN.lo⟩,⟨e,st.os,st.tape,st.output,st.size,fun b hb _=>bo b hb,fun b _ ho=>?_,fun b o hi hb _=>im b o hb hi⟩⟩
  ·refine (hg.obj id go ro h1 h2).mono e (fun b hb=>bo b ?_) (fun b o hb hi=>im b o ?_ hi)
   ·exact (hg.obj id go ro h1 h2).lt hb
   ·exact (hg.obj id go ro h1 h2).lt hb
  ·exact ho
theorem e7.Zj {c:Code} {Q Q':Exit→St→Prop} (h:e7 E c (fun e s'=>aP s s'∧Q' e s') s)
  (hq:∀ e s',Q' e s'→∃ (t:cn) (v:t.ps.T),t.dec s s'=some v∧Q e (t.st s v)):e7 E c Q s:=fun R w β a F hr hf=>by
 refine wpIn_mono (h R w β a F hr hf) ?_
 rintro e a' w' ⟨s',R',β',⟨hx,YQ⟩,kG,ke,bL⟩
 obtain ⟨t,v,hd,hQ⟩:=hq e s' YQ
 obtain ⟨h1,h2⟩:=cn.Ah hx hr kG ke hd
 exact ⟨_,_,β',hQ,h1,h2,rfl⟩
theorem e7.gj {c:Code} {Q:Exit→St→Prop} {l:List (Loc × Nat × TypeId)} (hs:Am.gj l s=some s') (h:e7 E c Q s'):e7 E c Q s:=fun R w β a F hr hf=>by
 obtain ⟨R1,k1,k2,k3,_⟩:=jC hr hs
 refine wpIn_mono (h R1 w β a F k1 (by rw [k3]; exact hf.mono k2.ext)) ?_
 rintro e a' w' ⟨s2,R2,β2,hq,AP,st2,Gg⟩
 exact ⟨s2,R2,β2,hq,AP,k2.trans st2,Gg.trans k3⟩
end
end Go.Am
