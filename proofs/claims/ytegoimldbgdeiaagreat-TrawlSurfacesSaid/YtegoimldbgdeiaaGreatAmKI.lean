/- The abstract machine: what is asked of bodies; values are brought to a short form. -/
import Derived.Test.YtegoimldbgdeiaaGreatAmKH
set_option linter.all false
open Bool renaming and_eq_true→aaa, and_true→aas
open List renaming tail_cons→aaF, drop_left→aaG, cons_append→aaN, mem_cons→abp, getElem?_eq_getElem→abr, append_inj→abt, take_left→abv, map_cons→abw, drop_one→abx
open Nat renaming eq_of_beq_eq_true→aag, beq→aah, lt_of_lt_of_le→aak, not_lt_zero→aaq, blt→aar, le_of_ble_eq_true→abu
namespace Go.Am
open Go
def dL (dt:Nat→Option aH):Code→Bool
 |.region id ops true=>match dt id with
  |some p=>Mk ops p
  |none=>false
 |.seq x y=>dL dt x&&dL dt y
 |.cond _ x y=>dL dt x&&dL dt y
 |.block _ c=>dL dt c
 |.loop c=>dL dt c
 |.scope c=>dL dt c
 |.rangeFunc _ _ a b=>dL dt a&&dL dt b
 |_=>true
structure aaD extends Env where
 dt:FuncId→Nat→Option aH
 okF:FuncId→Bool
 YA:∀ f fn c,okF f=true→P.funcs[f]?=some fn→fn.body=some c→dL (dt f) c=true
def nh {α:Type} (n:Nat) (K:Nat→α):α:=match n with
 |0=>K 0
 |m+1=>K (Nat.succ m)
def Dr {α:Type} (n:Int) (K:Int→α):α:=match n with
 |.ofNat m=>nh m fun m=>K (.ofNat m)
 |.negSucc m=>nh m fun m=>K (.negSucc m)
def uJ {α β:Type}:List β→(List β→α)→α
 |[],K=>K []
 |a :: l,K=>uJ l fun l=>K (a :: l)
def Hp {α:Type} (v:AV) (K:AV→α):α:=match v with
 |.int k n=>Dr n fun n=>K (.int k n)
 |.bool true=>K (.bool true)
 |.bool false=>K (.bool false)
 |.list k sz es=>uJ es fun es=>K (.list k sz es)
 |.str l=>uJ l fun l=>K (.str l)
 |.ob id off sz len cap=>nh off fun off=>nh len fun len=>nh cap fun cap=>K (.ob id off sz len cap)
 |.ptr id off=>nh off fun off=>K (.ptr id off)
 |.agg cs=>uJ cs fun cs=>K (.agg cs)
 |v=>K v
def Hq {α:Type} (l:bz) (K:bz→α):α:=match l with
 |.put d (.v a) :: l=>Hp a fun a=>K (.put d (.v a) :: l)
 |.put d (.lp k off) :: l=>nh off fun off=>K (.put d (.lp k off) :: l)
 |l=>K l
def Hr {α:Type} (l:dX) (K:dX→α):α:=match l with
 |(d,cs) :: l=>uJ cs fun cs=>K ((d,cs) :: l)
 |[]=>K []
def Ml {α:Type} (s:St) (K:St→α):α:=match s with
 |⟨sl,bx,G,m,ro,n⟩=>Hq sl fun sl=>Hr bx fun bx=>uJ G fun G=>K ⟨sl,bx,G,m,ro,n⟩
theorem uK {α:Type} (n:Nat) (K:Nat→α):nh n K=K n:=by cases n <;> rfl
theorem Jr {α:Type} (n:Int) (K:Int→α):Dr n K=K n:=by cases n <;> simp [Dr,uK]
theorem vF {α β:Type}:∀ (l:List β) (K:List β→α),uJ l K=K l
 |[],_=>rfl
 |a :: l,K=>by simp only [uJ]; rw [vF]
theorem Mm {α:Type} (v:AV) (K:AV→α):Hp v K=K v:=by
 unfold Hp;split <;> simp [uK,Jr,vF]
theorem Mn {α:Type} (l:bz) (K:bz→α):Hq l K=K l:=by
 unfold Hq;split <;> simp [uK,Mm]
theorem Mo {α:Type} (l:dX) (K:dX→α):Hr l K=K l:=by
 unfold Hr;split <;> simp [vF]
theorem PQ {α:Type} (s:St) (K:St→α):Ml s K=K s:=by
 obtain ⟨sl,bx,G,m,ro,n⟩:=s;simp [Ml,Mn,Mo,vF]
def Hs:SV→SV→Bool
 |.v a,.v b=>fy a b
 |.lp k o,.lp k' o'=>aah k k'&&aah o o'
 |_,_=>false
def bRe (E:Env) (f:FuncId) (ops:List Oper) (o:Oper) (s:St):Bool:=match Ip ops s o with
 |some true=>match o.dst,aq E f s o with
  |some d,some (c,s')=>c&&Hs (lk s'.ab d) (lk s.ab d)
  |_,_=>false
 |some false=>true
 |none=>false
section
variable {E:Env} {f:FuncId} {s:St}
theorem F5 {a b:SV} (h:Hs a b=true):a=b:=by
 unfold Hs at h;split at h
 ·rw [lH h]
 ·simp only [aaa,Nat.beq_eq] at h; rw [h.1,h.2]
 ·cases h
theorem F6 {ops:List Oper} {o:Oper} (h:bRe E f ops o s=true):Mb E f ops o s:=by
 unfold bRe at h;unfold Mb;split at h
 ·rename_i hg;rw [hg];simp only;split at h
  ·rename_i d c s' hd hs;rw [aaa] at h;obtain ⟨rfl,h⟩:=h;rw [hd,hs];exact ⟨rfl,F5 h⟩
  ·cases h
 ·rename_i hg;rw [hg];trivial
 ·cases h
end
end Go.Am
namespace Go.Am
open Go
mutual
def AV.under (n:Nat):AV→Bool
 |.agg cs=>aP n cs
 |.bW cs=>aP n cs
 |.ep cs=>aP n cs
 |.list (.own id) _ _=>aar id n
 |.list (.aY id _) _ _=>aar id n
 |.fn _ x y=>aP n x&&aP n y
 |.iface _ v=>v.under n
 |.ptr id _=>aar id n
 |.ob id _ _ _ _=>aar id n
 |.ey id _ _ _ _=>aar id n
 |.gp id _ _ _ _ _=>aar id n
 |.gH id _ _ _=>aar id n
 |.rp id _ _ _ _ _ _=>aar id n
 |.map id=>aar id n
 |.yield id=>aar id n
 |_=>true
def aP (n:Nat):List AV→Bool
 |[]=>true
 |a :: l=>a.under n&&aP n l
end
mutual
theorem j4 (n:Nat):∀ {a:AV},a.closed=true→a.under n=true:=fun {a} h=>by
 cases a with
 |agg cs=>simp only [AV.closed,AV.under] at *; exact dY n h
 |bW cs=>simp only [AV.closed,AV.under] at *; exact dY n h
 |ep cs=>simp only [AV.closed,AV.under] at *; exact dY n h
 |list k sz es=>cases k <;> simp_all [AV.closed,AV.under,LK.closed]
 |fn f x y=>
  simp only [AV.closed,AV.under,aaa] at *;exact ⟨dY n h.1,dY n h.2⟩
 |iface t v=>simp only [AV.closed,AV.under] at *; exact j4 n h
 |_=>simp_all [AV.closed,AV.under]
theorem dY (n:Nat):∀ {l:List AV},aZ l=true→aP n l=true
 |[],_=>rfl
 |a :: l,h=>by
  simp only [aZ,aP,aaa] at *;exact ⟨j4 n h.1,dY n h.2⟩
end
theorem qn {a b:Nat} (h:aar a b=true):a < b:=abu h
mutual
theorem qP:∀ {a:AV},a.under 0=true→a.closed=true:=fun {a} h=>by
 cases a with
 |agg cs=>simp only [AV.closed,AV.under] at *; exact iC h
 |bW cs=>simp only [AV.closed,AV.under] at *; exact iC h
 |ep cs=>simp only [AV.closed,AV.under] at *; exact iC h
 |list k sz es=>cases k <;> first | rfl | (simp [AV.under] at h)
 |fn f x y=>
  simp only [AV.closed,AV.under,aaa] at *;exact ⟨iC h.1,iC h.2⟩
 |iface t v=>simp only [AV.closed,AV.under] at *; exact qP h
 |ptr id off=>simp only [AV.under] at h; exact absurd (qn h) (aaq _)
 |ob id off sz len cap=>simp only [AV.under] at h; exact absurd (qn h) (aaq _)
 |ey id f off sz len=>simp only [AV.under] at h; exact absurd (qn h) (aaq _)
 |gp id f i off sz t=>simp only [AV.under] at h; exact absurd (qn h) (aaq _)
 |gH id j sz len=>simp only [AV.under] at h; exact absurd (qn h) (aaq _)
 |rp id j f i off sz t=>simp only [AV.under] at h; exact absurd (qn h) (aaq _)
 |map id=>simp only [AV.under] at h; exact absurd (qn h) (aaq _)
 |yield id=>simp only [AV.under] at h; exact absurd (qn h) (aaq _)
 |_=>rfl
theorem iC:∀ {l:List AV},aP 0 l=true→aZ l=true
 |[],_=>rfl
 |a :: l,h=>by
  simp only [aP,aZ,aaa] at *;exact ⟨qP h.1,iC h.2⟩
end
section move
variable {R R2:aj} {w:World} {n:Nat}
structure Mv (R R2:aj) (n:Nat):Prop where
 I:∀ b o,R.I b o→R2.I b o
 obj:∀ id ro,id < n→nth R.obj id=some ro→nth R2.obj id=some ro
theorem kL {a b:Nat} (h:aar a b=true):a < b:=abu h
theorem lL {a b:Nat} (h:a < b):aar a b=true:=Nat.ble_eq_true_of_le h
theorem GZ.move (m:Mv R R2 n) {k:LK} {b o len cap:Nat} (h:GZ R k b o len cap) (hk:∀ id,(k=.own id∨∃ j,k=.aY id j)→id < n):GZ R2 k b o len cap:=by
 cases k with
 |nil=>exact h
 |full=>exact h
 |iu=>trivial
 |own id=>obtain ⟨ro,h1,h2⟩:=h; exact ⟨ro,m.obj id ro (hk id (.inl rfl)) h1,h2⟩
 |aY id j=>obtain ⟨ro,h1,h2⟩:=h; exact ⟨ro,m.obj id ro (hk id (.inr ⟨j,rfl⟩)) h1,h2⟩
mutual
theorem Rel.move (m:Mv R R2 n):∀ {a:AV} {c:Value},a.under n=true→Rel R w a c→Rel R2 w a c
 |_,_,_,.bool b=>.bool b
 |_,_,_,.int k i=>.int k i
 |_,_,_,.str l=>.str l
 |_,_,hb,.agg h h1=>.agg (h.move m (by simpa [AV.under] using hb)) h1
 |_,_,hb,.bW h=>.bW (h.move m (by simpa [AV.under] using hb))
 |_,_,_,.ra=>.ra
 |_,_,hb,.ptr h=>.ptr (m.obj _ _ (kL (by simpa [AV.under] using hb)) h)
 |_,_,hb,.ep h=>.ep (h.move m (by simpa [AV.under] using hb))
 |_,_,_,.lY=>.lY
 |_,_,_,.lZ=>.lZ
 |_,_,_,.rv=>.rv
 |_,_,hb,.qJ h ho=>.qJ (m.obj _ _ (kL (by simpa [AV.under] using hb)) h) ho
 |_,_,hb,.qa h ho=>.qa (m.obj _ _ (kL (by simpa [AV.under] using hb)) h) ho
 |.list k sz es,_,hb,.list h hl hc hk=>.list (h.move m) hl hc (hk.move m fun id e=>by rcases e with e | ⟨j,e⟩ <;> subst e <;> exact kL (by simpa [AV.under] using hb))
 |_,_,hb,.ob h hc=>.ob (m.obj _ _ (kL (by simpa [AV.under] using hb)) h) hc
 |_,_,hb,.mh h ho=>.mh (m.obj _ _ (kL (by simpa [AV.under] using hb)) h) ho
 |_,_,hb,.ey h ho hc=>.ey (m.obj _ _ (kL (by simpa [AV.under] using hb)) h) ho hc
 |_,_,hb,.gp h ho=>.gp (m.obj _ _ (kL (by simpa [AV.under] using hb)) h) ho
 |_,_,hb,.xQ h ho=>.xQ (m.obj _ _ (kL (by simpa [AV.under] using hb)) h) ho
 |_,_,hb,.gH h ho hc=>.gH (m.obj _ _ (kL (by simpa [AV.under] using hb)) h) ho hc
 |_,_,hb,.rp h ho=>.rp (m.obj _ _ (kL (by simpa [AV.under] using hb)) h) ho
 |_,_,_,.nQ=>.nQ
 |_,_,hb,.map h=>.map (m.obj _ _ (kL (by simpa [AV.under] using hb)) h)
 |_,_,_,.gq=>.gq
 |_,_,hb,.fn h h'=>.fn (h.move m (by simp only [AV.under,aaa] at hb; exact hb.1)) (h'.move m (by simp only [AV.under,aaa] at hb; exact hb.2))
 |_,_,hb,.yield h=>.yield (m.obj _ _ (kL (by simpa [AV.under] using hb)) h)
 |_,_,_,.vY=>.vY
 |_,_,hb,.iface h=>.iface (h.move m (by simpa [AV.under] using hb))
theorem aQ.move (m:Mv R R2 n):∀ {l:List AV} {cs:List Value},aQ R w l cs→aP n l=true→aQ R2 w l cs
 |_,_,.nil,_=>.nil
 |_,_,.cons h t,hb=>by
  simp only [aP,aaa] at hb;exact .cons (h.move m hb.1) (t.move m hb.2)
theorem kn.move (m:Mv R R2 n):∀ {b o sz:Nat} {l:List AV},kn R w b o sz l→kn R2 w b o sz l
 |_,_,_,_,.nil=>.nil
 |_,_,_,_,@kn.cons _ _ _ _ _ e _ hl ht hk h t=>.cons hl ht hk (h.move m (by
   cases e with
   |agg cs=>exact dY n (show aZ cs=true by simpa [AV.closed] using hk)
   |bW cs=>simp [AV.ba] at ht
   |_=>simp only [AV.cells,aP,aas]; exact j4 n hk)) (t.move m)
theorem ik.move (m:Mv R R2 n):∀ {b o:Nat} {l:List AV},ik R w b o l→aP n l=true→ik R2 w b o l
 |_,_,_,.nil,_=>.nil
 |_,_,_,.cons hc h1 hi h t,hb=>by
  simp only [aP,aaa] at hb;exact .cons hc h1 (m.I _ _ hi) (h.move m hb.1) (t.move m hb.2)
end
theorem qK.move {E:Env} (m:Mv R R2 n) {g:Nat} {cs:List AV} (h:qK E R w g cs) (hu:aP n cs=true):qK E R2 w g cs:=
 ⟨h.1.move m hu,fun hx=>⟨m.I _ _ (h.2 hx).1,(h.2 hx).2⟩⟩
mutual
theorem Rel.under (hn:R.obj.length≤n):∀ {a:AV} {c:Value},Rel R w a c→a.under n=true
 |_,_,.bool _ | _,_,.int _ _ | _,_,.str _ | _,_,.ra | _,_,.lY | _,_,.lZ | _,_,.rv | _,_,.nQ | _,_,.gq | _,_,.vY=>by simp [AV.under]
 |_,_,.agg h _=>by simp only [AV.under]; exact h.under hn
 |_,_,.bW h=>by simp only [AV.under]; exact h.under hn
 |_,_,.ptr h=>by simp only [AV.under]; exact lL (aak (bl h) hn)
 |_,_,.ep h=>by simp only [AV.under]; exact h.under hn
 |_,_,.qJ h _=>by simp only [AV.under]; exact lL (aak (bl h) hn)
 |_,_,.qa h _=>by simp only [AV.under]; exact lL (aak (bl h) hn)
 |_,_,@Rel.list _ _ k _ _ _ _ _ _ _ _ _ hk=>by
  cases k with
  |own id=>obtain ⟨ro,h1,_⟩:=hk; simp only [AV.under]; exact lL (aak (bl h1) hn)
  |aY id j=>obtain ⟨ro,h1,_⟩:=hk; simp only [AV.under]; exact lL (aak (bl h1) hn)
  |_=>simp [AV.under]
 |_,_,.ob h _=>by simp only [AV.under]; exact lL (aak (bl h) hn)
 |_,_,.mh h _=>by simp only [AV.under]; exact lL (aak (bl h) hn)
 |_,_,.ey h _ _=>by simp only [AV.under]; exact lL (aak (bl h) hn)
 |_,_,.gp h _=>by simp only [AV.under]; exact lL (aak (bl h) hn)
 |_,_,.xQ h _=>by simp only [AV.under]; exact lL (aak (bl h) hn)
 |_,_,.gH h _ _=>by simp only [AV.under]; exact lL (aak (bl h) hn)
 |_,_,.rp h _=>by simp only [AV.under]; exact lL (aak (bl h) hn)
 |_,_,.map h=>by simp only [AV.under]; exact lL (aak (bl h) hn)
 |_,_,.fn h h'=>by simp only [AV.under,aaa]; exact ⟨h.under hn,h'.under hn⟩
 |_,_,.yield h=>by simp only [AV.under]; exact lL (aak (bl h) hn)
 |_,_,.iface h=>by simp only [AV.under]; exact h.under hn
theorem aQ.under (hn:R.obj.length≤n):∀ {l:List AV} {cs:List Value},aQ R w l cs→aP n l=true
 |_,_,.nil=>rfl
 |_,_,.cons h t=>by simp only [aP,aaa]; exact ⟨h.under hn,t.under hn⟩
theorem ik.under (hn:R.obj.length≤n):∀ {b o:Nat} {l:List AV},ik R w b o l→aP n l=true
 |_,_,_,.nil=>rfl
 |_,_,_,.cons _ _ _ h t=>by simp only [aP,aaa]; exact ⟨h.under hn,t.under hn⟩
end
end move
end Go.Am
namespace Go.Am
open Go
mutual
def aM.under (n:Nat):aM→Bool
 |.agg ps=>ps.under n
 |.bW ps=>ps.under n
 |.own id _ _=>aar id n
 |.aY id _ _=>aar id n
 |.gH id _=>aar id n
 |.kQ v=>v.under n
 |.two u v=>u.under n&&v.under n
 |_=>true
def aR.under (n:Nat):aR→Bool
 |.nil=>true
 |.cons p ps=>p.under n&&ps.under n
end
mutual
theorem aM.fw {n:Nat}:∀ (p:aM) (x:p.T),p.under n=true→(p.enc x).under n=true
 |.int k,x,_=>by simp [aM.enc,AV.under]
 |.bool,x,_=>by simp [aM.enc,AV.under]
 |.str,x,_=>by simp [aM.enc,AV.under]
 |.agg ps,x,h=>by
  simp only [aM.enc,AV.under];exact ps.fw x h
 |.bW ps,x,h=>by
  simp only [aM.enc,AV.under];exact ps.fw x h
 |.list sz p,x,_=>by simp [aM.enc,AV.under]
 |.own id sz p,x,h=>by
  simp only [aM.enc,AV.under];exact h
 |.aY id sz p,x,h=>by
  simp only [aM.enc,AV.under];exact h
 |.gH id sz,(x:Nat × Nat),h=>by
  simp only [aM.enc,AV.under];exact h
 |.kQ v,x,h=>by
  simp only [aM.enc];exact h
 |.two u v,(x:Bool),h=>by
  simp only [aM.under,aaa] at h;change AV.under n (bif x then v else u)=true;cases x
  ·exact h.1
  ·exact h.2
theorem aR.fw {n:Nat}:∀ (ps:aR) (x:ps.T),ps.under n=true→aP n (ps.enc x)=true
 |.nil,x,_=>rfl
 |.cons p .nil,x,h=>by
  simp only [aR.under,aas] at h;simp only [aR.enc,aP,aas];exact p.fw _ h
 |.cons p (.cons q ps),x,h=>by
  rw [aR.under,aaa] at h;simp only [aR.enc,aP,aaa];exact ⟨p.fw _ h.1,(aR.cons q ps).fw _ h.2⟩
end
mutual
def AV.exact:AV→Bool
 |.bool _=>true
 |.int _ _=>true
 |.str _=>true
 |.agg cs=>gP cs
 |_=>false
def gP:List AV→Bool
 |[]=>true
 |a :: l=>a.exact&&gP l
end
mutual
theorem aM.ni:∀ (p:aM) {a:AV},p.fits a=true→a.exact=true→p.enc (p.bC a)=a
 |.int k,a,h,e=>by
  cases a with
  |int k' n=>have hk:kEq k k'=true:=h; rw [Le hk]; rfl
  |_=>cases h
 |.bool,a,h,e=>by
  cases a with
  |bool b=>rfl
  |_=>cases h
 |.str,a,h,e=>by
  cases a with
  |str b=>rfl
  |_=>cases h
 |.agg ps,a,h,e=>by
  cases a with
  |agg cs=>
   have e':gP cs=true:=by simpa [AV.exact] using e
   show AV.agg (ps.enc (ps.bC cs))=_;rw [ps.ni (show ps.fits cs=true from h) e']
  |_=>cases h
 |.bW ps,a,h,e=>by cases a <;> first | (cases h; done) | simp [AV.exact] at e
 |.list sz p,a,h,e=>by cases a <;> first | (cases h; done) | simp [AV.exact] at e
 |.own id sz p,a,h,e=>by cases a <;> first | (cases h; done) | simp [AV.exact] at e
 |.aY id sz p,a,h,e=>by cases a <;> first | (cases h; done) | simp [AV.exact] at e
 |.gH id sz,a,h,e=>by cases a <;> first | (cases h; done) | simp [AV.exact] at e
 |.kQ u,a,h,e=>(lH (show fy a u=true from h)).symm
 |.two u v,a,h,_=>xV h
theorem aR.ni:∀ (ps:aR) {l:List AV},ps.fits l=true→gP l=true→ps.enc (ps.bC l)=l
 |.nil,l,h,_=>by
  cases l with
  |nil=>rfl
  |cons _ _=>cases h
 |.cons p .nil,l,h,e=>by
  cases l with
  |nil=>cases h
  |cons a l=>
   have h':(p.fits a&&l.isEmpty)=true:=h;simp only [aaa,List.isEmpty_iff] at h';obtain ⟨h1,rfl⟩:=h';simp only [gP,aas] at e;show [p.enc (p.bC a)]=_;rw [p.ni h1 e]
 |.cons p (.cons q ps),l,h,e=>by
  cases l with
  |nil=>cases h
  |cons a l=>
   have h':(p.fits a&&(aR.cons q ps).fits l)=true:=h;rw [aaa] at h';simp only [gP,aaa] at e;show p.enc (p.bC a) :: (aR.cons q ps).enc ((aR.cons q ps).bC l)=_;rw [p.ni h'.1 e.1,(aR.cons q ps).ni h'.2 e.2]
end
mutual
theorem tf:∀ {a:AV},a.exact=true→a.closed=true:=fun {a} h=>by
 cases a with
 |agg cs=>simp only [AV.exact,AV.closed] at *; exact wE h
 |_=>simp_all [AV.exact,AV.closed]
theorem wE:∀ {l:List AV},gP l=true→aZ l=true
 |[],_=>rfl
 |a :: l,h=>by
  simp only [gP,aZ,aaa] at *;exact ⟨tf h.1,wE h.2⟩
end
def ae:List (AV × AV)→List AV
 |[]=>[]
 |(k,v) :: l=>.agg [k,v] :: ae l
def aeZ:AV→AV × AV
 |.agg [k,v]=>(k,v)
 |_=>(jE,jE)
def az:List AV→List (AV × AV)
 |[]=>[]
 |a :: l=>aeZ a :: az l
def AV.entries:AV→List (AV × AV)
 |.list _ _ es=>az es
 |_=>[]
theorem tK:∀ l:List (AV × AV),az (ae l)=l
 |[]=>rfl
 |(k,v) :: l=>by simp only [ae,az,tK l]; rfl
def AV.Mp:AV→Bool
 |.list .iu _ es=>gP es
 |_=>false
def n5:List AV→List AV→Prop
 |[],[]=>True
 |a :: l,b :: r=>kq a b∧n5 l r
 |_,_=>False
theorem n5.refl:∀ l:List AV,n5 l l
 |[]=>trivial
 |a :: l=>⟨kq.refl a,n5.refl l⟩
theorem n5.length:∀ {l r:List AV},n5 l r→l.length=r.length
 |[],[],_=>rfl
 |_ :: _,_ :: _,h=>by simp [n5.length h.2]
 |[],_ :: _,h=>h.elim
 |_ :: _,[],h=>h.elim
theorem n5.of {α:Type} {f:AV→Bool} {d:AV→α} {g:α→AV} (NB:∀ v,f v=true→kq v (g (d v))):∀ {es:List AV},allFit f es=true→n5 es ((es.map d).map g)
 |[],_=>trivial
 |e :: es,h=>by
  simp only [allFit,aaa] at h;exact ⟨NB e h.1,n5.of NB h.2⟩
theorem aM.Js (p:aM) {a:AV} (h:p.fits a=true):n5 a.dO (p.enc (p.bC a)).dO:=by
 cases p with
 |list sz p=>
  cases a with
  |list k bP es=>
   have hb:((aah sz bP || es.isEmpty)&&allFit p.fits es)=true:=h;rw [aaa] at hb;exact n5.of (fun v hv=>p.eM hv) hb.2
  |_=>cases h
 |own id sz p=>
  cases a with
  |list k bP es=>
   cases k with
   |own mc=>
    have hb:((aah id mc&&aah sz bP)&&allFit p.fits es)=true:=h;rw [aaa] at hb;exact n5.of (fun v hv=>p.eM hv) hb.2
   |_=>cases h
  |_=>cases h
 |aY id sz p=>
  cases a with
  |list k bP es=>
   cases k with
   |aY mc j=>
    have hb:((aah id mc&&aah sz bP)&&allFit p.fits es)=true:=h;rw [aaa] at hb;exact n5.of (fun v hv=>p.eM hv) hb.2
   |_=>cases h
  |_=>cases h
 |kQ u=>rw [show a=u from lH (show fy a u=true from h)]; exact n5.refl _
 |two u v=>rw [xV h]; exact n5.refl _
 |_=>cases a <;> first | (cases h; done) | exact n5.refl _
def Ds:List AV→Bool
 |[]=>true
 |a :: l=>a.Mp&&Ds l
def AV.Sk:AV→Bool
 |.list .iu _ es=>Ds es
 |_=>false
def QX:List AV→List AV→Prop
 |[],[]=>True
 |a :: l,b :: r=>(a.exact=true→b=a)∧((a.Mp=true→b.dO=a.dO)∧(a.Sk=true→b.dO.map AV.dO=a.dO.map AV.dO))∧n5 a.dO b.dO∧QX l r
 |_,_=>False
theorem Dt {f:AV→Bool} {α:Type} {d:AV→α} {g:α→AV} (NB:∀ a,f a=true→a.exact=true→g (d a)=a):∀ {es:List AV},allFit f es=true→gP es=true→(es.map d).map g=es
 |[],_,_=>rfl
 |a :: l,h,e=>by
  simp only [allFit,gP,aaa] at *;simp only [abw,NB a h.1 e.1,Dt NB h.2 e.2]
theorem aM.Du (p:aM) {a:AV} (h:p.fits a=true) (e:a.Mp=true):(p.enc (p.bC a)).dO=a.dO:=by
 cases a with
 |list k bP es=>
  cases k with
  |iu=>
   have e':gP es=true:=e;cases p with
   |list sz p=>
    have hb:((aah sz bP || es.isEmpty)&&allFit p.fits es)=true:=h;rw [aaa] at hb;show (es.map p.bC).map p.enc=_;rw [Dt (fun a=>p.ni) hb.2 e'];rfl
   |kQ u=>rw [show AV.list .iu bP es=u from lH (show fy _ u=true from h)]; rfl
   |two u v=>rw [xV h]
   |_=>cases h
  |_=>cases e
 |_=>cases e
theorem Dv {p:aM}:∀ {es:List AV},allFit p.fits es=true→Ds es=true→((es.map p.bC).map p.enc).map AV.dO=es.map AV.dO
 |[],_,_=>rfl
 |a :: l,h,e=>by
  simp only [allFit,Ds,aaa] at *;simp only [abw,p.Du h.1 e.1];rw [Dv h.2 e.2]
theorem aM.Jt (p:aM) {a:AV} (h:p.fits a=true) (e:a.Sk=true):(p.enc (p.bC a)).dO.map AV.dO=a.dO.map AV.dO:=by
 cases a with
 |list k bP es=>
  cases k with
  |iu=>
   have e':Ds es=true:=e;cases p with
   |list sz p=>
    have hb:((aah sz bP || es.isEmpty)&&allFit p.fits es)=true:=h;rw [aaa] at hb;show ((es.map p.bC).map p.enc).map AV.dO=_;rw [Dv hb.2 e'];rfl
   |kQ u=>rw [show AV.list .iu bP es=u from lH (show fy _ u=true from h)]; rfl
   |two u v=>rw [xV h]
   |_=>cases h
  |_=>cases e
 |_=>cases e
theorem aR.Sl:∀ (ps:aR) {l:List AV},ps.fits l=true→QX l (ps.enc (ps.bC l))
 |.nil,l,h=>by
  cases l with
  |nil=>trivial
  |cons _ _=>cases h
 |.cons p .nil,l,h=>by
  cases l with
  |nil=>cases h
  |cons a l=>
   have h':(p.fits a&&l.isEmpty)=true:=h;simp only [aaa,List.isEmpty_iff] at h';obtain ⟨h1,rfl⟩:=h';exact ⟨p.ni h1,⟨p.Du h1,p.Jt h1⟩,p.Js h1,trivial⟩
 |.cons p (.cons q ps),l,h=>by
  cases l with
  |nil=>cases h
  |cons a l=>
   have h':(p.fits a&&(aR.cons q ps).fits l)=true:=h;rw [aaa] at h';exact ⟨p.ni h'.1,⟨p.Du h'.1,p.Jt h'.1⟩,p.Js h'.1,(aR.cons q ps).Sl h'.2⟩
theorem QX.split:∀ {l r l':List AV},QX (l++r) l'→∃ a b,l'=a++b∧QX l a∧QX r b∧a.length=l.length
 |[],r,l',h=>⟨[],l',rfl,trivial,h,rfl⟩
 |x :: l,r,[],h=>h.elim
 |x :: l,r,y :: l',h=>by
  obtain ⟨a,b,rfl,h2,h3,h4⟩:=QX.split (l:=l) (r:=r) (l':=l') h.2.2.2;exact ⟨y :: a,b,rfl,⟨h.1,h.2.1,h.2.2.1,h2⟩,h3,by simp [h4]⟩
mutual
def AV.Dw (L:Nat→Nat):AV→AV
 |.ey id 0 0 sz 0=>.ey id (L id) 0 sz (L id)
 |.fn f x y=>.fn f (Sm L x) (Sm L y)
 |v=>v
def Sm (L:Nat→Nat):List AV→List AV
 |[]=>[]
 |a :: l=>a.Dw L :: Sm L l
end
mutual
def aM.inst (L:Nat→Nat):aM→aM
 |.agg ps=>.agg (ps.inst L)
 |.bW ps=>.bW (ps.inst L)
 |.kQ v=>.kQ (v.Dw L)
 |p=>p
def aR.inst (L:Nat→Nat):aR→aR
 |.nil=>.nil
 |.cons p ps=>.cons (p.inst L) (ps.inst L)
end
mutual
def aM.pt (L:Nat→Nat):(p:aM)→p.T→AV
 |.int k,(n:Int)=>.int k n
 |.bool,(b:Bool)=>.bool b
 |.str,(s:List UInt8)=>.str s
 |.agg ps,x=>.agg (ps.pt L x)
 |.bW ps,x=>.bW (ps.pt L x)
 |.list sz p,(xs:List p.T)=>.list .iu sz (xs.map p.enc)
 |.own id sz p,(xs:List p.T)=>.list (.own id) sz (xs.map p.enc)
 |.aY id sz p,(x:Nat × List p.T)=>.list (.aY id x.1) sz (x.2.map p.enc)
 |.gH id sz,(x:Nat × Nat)=>.gH id x.1 sz x.2
 |.kQ v,_=>v.Dw L
 |.two u v,(b:Bool)=>bif b then v else u
def aR.pt (L:Nat→Nat):(ps:aR)→ps.T→List AV
 |.nil,_=>[]
 |.cons p .nil,x=>[p.pt L x]
 |.cons p (.cons q ps),x=>p.pt L x.1 :: (aR.cons q ps).pt L x.2
end
mutual
def aM.rS (L:Nat→Nat):aM→AV→Bool
 |.int k,v=>aM.fits (.int k) v
 |.bool,v=>aM.fits .bool v
 |.str,v=>aM.fits .str v
 |.agg ps,v=>match v with
  |.agg cs=>ps.rS L cs
  |_=>false
 |.bW ps,v=>match v with
  |.bW cs=>ps.rS L cs
  |_=>false
 |.list sz p,v=>aM.fits (.list sz p) v
 |.own id sz p,v=>aM.fits (.own id sz p) v
 |.aY id sz p,v=>aM.fits (.aY id sz p) v
 |.gH id sz,v=>aM.fits (.gH id sz) v
 |.kQ v,u=>fy u (v.Dw L)
 |.two u v,a=>aM.fits (.two u v) a
def aR.rS (L:Nat→Nat):aR→List AV→Bool
 |.nil,l=>l.isEmpty
 |.cons p ps,l=>match l with
  |a :: l=>p.rS L a&&ps.rS L l
  |[]=>false
end
def aR.PR (L:Nat→Nat) (ps:aR) (l:List AV):Option ps.T:=bif ps.rS L l then some (ps.bC l) else none
mutual
theorem aM.mq (L:Nat→Nat):∀ (p:aM) (a:AV),p.rS L a=(p.inst L).fits a
 |.int _,_=>rfl
 |.bool,_=>rfl
 |.str,_=>rfl
 |.agg ps,a=>by
  simp only [aM.rS,aM.inst,aM.fits];cases a <;> first | rfl | exact ps.mq L _
 |.bW ps,a=>by
  simp only [aM.rS,aM.inst,aM.fits];cases a <;> first | rfl | exact ps.mq L _
 |.list _ _,_=>rfl
 |.own _ _ _,_=>rfl
 |.aY _ _ _,_=>rfl
 |.gH _ _,_=>rfl
 |.kQ _,_=>rfl
 |.two _ _,_=>rfl
theorem aR.mq (L:Nat→Nat):∀ (ps:aR) (l:List AV),ps.rS L l=(ps.inst L).fits l
 |.nil,_=>rfl
 |.cons p ps,l=>by
  cases l with
  |nil=>rfl
  |cons a l=>
   simp only [aR.rS,aR.inst,aR.fits];rw [p.mq L a,ps.mq L l]
end
mutual
theorem aM.kZ (L:Nat→Nat):∀ (p:aM) (a:AV),p.pt L (p.bC a)=(p.inst L).enc ((p.inst L).bC a)
 |.int _,_=>rfl
 |.bool,_=>rfl
 |.str,_=>rfl
 |.agg ps,a=>congrArg AV.agg (ps.kZ L a.nR)
 |.bW ps,a=>congrArg AV.bW (ps.kZ L a.ZH)
 |.list _ _,_=>rfl
 |.own _ _ _,_=>rfl
 |.aY _ _ _,_=>rfl
 |.gH _ _,_=>rfl
 |.kQ _,_=>rfl
 |.two _ _,_=>rfl
theorem aR.kZ (L:Nat→Nat):∀ (ps:aR) (l:List AV),ps.pt L (ps.bC l)=(ps.inst L).enc ((ps.inst L).bC l)
 |.nil,_=>rfl
 |.cons p .nil,l=>by
  show [p.pt L (p.bC (gr l))]=[(p.inst L).enc ((p.inst L).bC (gr l))];rw [p.kZ L]
 |.cons p (.cons q ps),l=>by
  show p.pt L (p.bC (gr l)) :: (aR.cons q ps).pt L ((aR.cons q ps).bC (Q9 l))=(p.inst L).enc ((p.inst L).bC (gr l)) :: ((aR.cons q ps).inst L).enc (((aR.cons q ps).inst L).bC (Q9 l));rw [p.kZ L,(aR.cons q ps).kZ L]
end
mutual
theorem AV.Dx {n:Nat} (L:Nat→Nat):∀ {a:AV},a.under n=true→(a.Dw L).under n=true:=fun {a} h=>by
 cases a with
 |ey id f off sz len=>
  unfold AV.Dw;split
  ·rename_i h1;cases h1;exact h
  ·rename_i h1;cases h1
  ·exact h
 |fn f x y=>
  simp only [AV.Dw,AV.under,aaa] at *;exact ⟨xp L h.1,xp L h.2⟩
 |_=>exact h
theorem xp {n:Nat} (L:Nat→Nat):∀ {l:List AV},aP n l=true→aP n (Sm L l)=true
 |[],_=>rfl
 |a :: l,h=>by
  simp only [Sm,aP,aaa] at *;exact ⟨AV.Dx L h.1,xp L h.2⟩
end
mutual
theorem aM.mr {n:Nat} (L:Nat→Nat):∀ {p:aM},p.under n=true→(p.inst L).under n=true
 |.int _,_=>rfl
 |.bool,_=>rfl
 |.str,_=>rfl
 |.agg ps,h=>aR.mr L (ps:=ps) h
 |.bW ps,h=>aR.mr L (ps:=ps) h
 |.list _ _,_=>rfl
 |.own _ _ _,h=>h
 |.aY _ _ _,h=>h
 |.gH _ _,h=>h
 |.kQ v,h=>AV.Dx L (a:=v) h
 |.two _ _,h=>h
theorem aR.mr {n:Nat} (L:Nat→Nat):∀ {ps:aR},ps.under n=true→(ps.inst L).under n=true
 |.nil,_=>rfl
 |.cons p ps,h=>by
  simp only [aR.inst,aR.under,aaa] at *;exact ⟨aM.mr L h.1,aR.mr L h.2⟩
end
theorem AV.F7 (L:Nat→Nat) (v:AV):(v.Dw L).dO=v.dO:=by
 unfold AV.Dw;split <;> rfl
def tT:List AV→List AV→Prop
 |[],[]=>True
 |a :: l,b :: r=>a.dO.length=b.dO.length∧tT l r
 |_,_=>False
theorem aM.uL (L L':Nat→Nat) (p:aM) (x:p.T):(p.pt L x).dO=(p.pt L' x).dO:=by
 cases p with
 |kQ v=>
  show (v.Dw L).dO=(v.Dw L').dO;rw [AV.F7,AV.F7]
 |gH _ _=>rfl
 |_=>rfl
theorem aR.uL (L L':Nat→Nat):∀ (ps:aR) (x:ps.T),tT (ps.pt L x) (ps.pt L' x)
 |.nil,_=>trivial
 |.cons p .nil,x=>⟨congrArg List.length (p.uL L L' x),trivial⟩
 |.cons p (.cons q ps),x=>⟨congrArg List.length (p.uL L L' x.1),(aR.cons q ps).uL L L' x.2⟩
theorem QX.ae0:∀ {l r:List AV},QX l r→tT l r
 |[],[],_=>trivial
 |_ :: _,_ :: _,h=>⟨h.2.2.1.length,h.2.2.2.ae0⟩
 |[],_ :: _,h=>h.elim
 |_ :: _,[],h=>h.elim
theorem tT.trans:∀ {l r u:List AV},tT l r→tT r u→tT l u
 |[],[],[],_,_=>trivial
 |_ :: _,_ :: _,_ :: _,h,k=>⟨h.1.trans k.1,h.2.trans k.2⟩
 |[],_ :: _,_,h,_=>h.elim
 |_ :: _,[],_,h,_=>h.elim
 |[],[],_ :: _,_,k=>k.elim
 |_ :: _,_ :: _,[],_,k=>k.elim
theorem tT.drop:∀ {l r:List AV} (n:Nat),tT l r→tT (l.drop n) (r.drop n)
 |l,r,0,h=>by simpa using h
 |[],[],_+1,_=>by simp [tT]
 |_ :: _,_ :: _,n+1,h=>by simpa using tT.drop n h.2
 |[],_ :: _,_+1,h=>h.elim
 |_ :: _,[],_+1,h=>h.elim
theorem aR.VD (L:Nat→Nat) (ps:aR) {l:List AV} {x:ps.T} (h:ps.PR L l=some x):ew l (ps.pt L x)∧QX l (ps.pt L x):=by
 unfold aR.PR at h;cases hf:ps.rS L l with
 |true=>
  rw [hf] at h;cases h;rw [ps.kZ L];rw [ps.mq L] at hf;have hd:(ps.inst L).dec l=some ((ps.inst L).bC l):=by unfold aR.dec; rw [hf]; rfl
  exact ⟨((ps.inst L).wU hd).1,(ps.inst L).Sl hf⟩
 |false=>rw [hf] at h; cases h
theorem aR.Mq {n:Nat} (L:Nat→Nat) (ps:aR) (hp:ps.under n=true) (l:List AV):aP n (ps.pt L (ps.bC l))=true:=by
 rw [ps.kZ L];exact (ps.inst L).fw _ (aR.mr L hp)
theorem aR.PS (L:Nat→Nat) (ps:aR) {l:List AV} {x:ps.T} (h:ps.PR L l=some x):x=ps.bC l:=by
 unfold aR.PR at h;cases hf:ps.rS L l with
 |true=>rw [hf] at h; cases h; rfl
 |false=>rw [hf] at h; cases h
end Go.Am
namespace Go.Am
open Go
inductive KX
 |open_
 |busy
 |ret
 |ex (i:Nat)
def KX.is:KX→Bool→Option Code→Bool→Bool
 |.open_,false,none,false=>true
 |.busy,true,none,false=>true
 |.ret,false,some .ret,true=>true
 |.ex i,false,some (.exit j),true=>aah i j
 |_,_,_,_=>false
def KX.b:KX→Bool
 |.busy=>true
 |_=>false
def KX.p:KX→Option Code
 |.ret=>some .ret
 |.ex i=>some (.exit i)
 |_=>none
def KX.d:KX→Bool
 |.ret=>true
 |.ex _=>true
 |_=>false
theorem KX.N3 {k:KX} {b:Bool} {p:Option Code} {d:Bool} (h:k.is b p d=true):b=k.b∧p=k.p∧d=k.d:=by
 unfold KX.is at h;split at h <;> first | exact ⟨rfl,rfl,rfl⟩ | (cases h; done) | skip
 rw [aag h];exact ⟨rfl,rfl,rfl⟩
inductive GL
 |row (n:Nat)
 |tok (loc sz:Nat) (e:TypeId)
 |dead
 |lp (k:KX)
 |bD
 |map
 |KY
 |da (sz:Nat) (e:TypeId)
 |aY (sz:Nat) (e:TypeId)
 |yF
 |lD (jR:Nat)
 |iP (sz:Nat) (e:TypeId)
def bw (fs:List Nat):List AV:=fs.map fun n:Nat=>.int .i64 n
def aB (l:List AV):List Nat:=l.map fun a=>a.BD.toNat
theorem Bk (fs:List Nat):aB (bw fs)=fs:=by
 induction fs with
 |nil=>rfl
 |cons n fs ih=>
  show (AV.int .i64 n).BD.toNat :: aB (bw fs)=n :: fs;rw [ih];simp [AV.BD]
theorem Dy (fs:List Nat):gP (bw fs)=true:=by
 induction fs with
 |nil=>rfl
 |cons n fs ih=>exact ih
def cD (sz:Nat) (rows:List (List AV)):List AV:=rows.map fun r=>.list .iu sz r
def ai (l:List AV):List (List AV):=l.map AV.dO
theorem Ju (sz:Nat) (rows:List (List AV)):ai (cD sz rows)=rows:=by
 induction rows with
 |nil=>rfl
 |cons r rows ih=>
  show r :: ai (cD sz rows)=r :: rows;rw [ih]
def dK:List (List AV)→Bool
 |[]=>true
 |r :: l=>gP r&&dK l
theorem Dz (sz:Nat):∀ rows:List (List AV),dK rows=true→Ds (cD sz rows)=true
 |[],_=>rfl
 |r :: rows,h=>by
  simp only [dK,aaa] at h;show (gP r&&Ds (cD sz rows))=true;rw [h.1,Dz sz rows h.2];rfl
def aaE (k:KX):GO→GO→Bool
 |.loop _ _ _ _ _ _ _ _ _ _,.loop b p _ _ _ _ _ _ _ d=>k.is b p d
 |_,_=>false
def YB (k:KX):GO→GO
 |.loop _ _ fn sl n ps xm bd d _=>.loop k.b k.p fn sl n ps xm bd d k.d
 |_=>.dead
def iD (es:List (AV × AV)):Bool:=gP (ae es)
def Ht:GO→GO→Bool
 |.tok f sz e,.tok f' bP e'=>decide (f'=f)&&(aah bP sz&&aah e' e)
 |.defers a,.defers b=>match a,b with
  |true,true=>true
  |false,false=>true
  |_,_=>false
 |.dead,_=>true
 |_,_=>false
structure dC where
 ps:aR
 sl:List Tmp
 W:List Tmp
 bx:List (Nat × Nat)
 g:List GL
 lps:List (Tmp × Nat × Nat)
def DA (ab:bz):List Tmp→Option (List AV)
 |[]=>some []
 |t :: l=>match lk ab t with
  |.v a=>match DA ab l with
   |some r=>some (a :: r)
   |none=>none
  |_=>none
def DB (bx:dX):List (Nat × Nat)→Option (List AV)
 |[]=>some []
 |(k,n) :: l=>match fh bx k with
  |some cs=>match DB bx l with
   |some r=>bif aah cs.length n then some (cs++r) else none
   |none=>none
  |none=>none
def nj:List GL→List GO→Option (List AV)
 |[],_=>some []
 |.row n :: l,.row cs _ :: G=>match nj l G with
  |some r=>bif aah cs.length n then some (cs++r) else none
  |none=>none
 |.tok _ sz e :: l,.tok _ bP e' :: G=>bif aah sz bP&&aah e e' then nj l G else none
 |.dead :: l,_ :: G=>nj l G
 |.lp _ :: l,_ :: G=>nj l G
 |.bD :: l,_ :: G=>nj l G
 |.map :: l,.map es :: G=>match nj l G with
  |some r=>some (.list .iu 2 (ae es) :: r)
  |none=>none
 |.KY :: l,.ke s pos :: G=>match nj l G with
  |some r=>some (.str s :: .int .i64 pos :: r)
  |none=>none
 |.da sz e :: l,.da es bP e' :: G=>match nj l G with
  |some r=>bif aah sz bP&&aah e e' then some (.list .iu bP es :: r) else none
  |none=>none
 |.aY sz e :: l,.aY fs bP e' :: G=>match nj l G with
  |some r=>bif aah sz bP&&aah e e' then some (.list .iu 1 (bw fs) :: r) else none
  |none=>none
 |.iP sz e :: l,.iP rows bP e' :: G=>match nj l G with
  |some r=>bif aah sz bP&&aah e e' then some (.list .iu 1 (cD bP rows) :: r) else none
  |none=>none
 |.yF :: l,.map es :: G=>match nj l G with
  |some r=>some (.list .iu 2 (ae es) :: r)
  |none=>none
 |.lD jR :: l,.lD mid' n left _ _ :: G=>match nj l G with
  |some r=>bif aah jR mid' then some (.int .i64 n :: .list .iu 1 (bw left) :: r) else none
  |none=>none
 |_,_=>none
def Sn (vs:List AV) (loc:Nat):Nat:=match nth vs loc with
 |some (.list _ _ es)=>es.length
 |_=>0
def YC:GO→GO→Bool
 |.row _ e,.row _ e'=>aah e e'
 |_,_=>false
def YD:GO→GO→Bool
 |.lD _ _ _ _ t,.lD _ _ _ _ t'=>aah t t'
 |_,_=>false
def ae1:GO→TypeId
 |.lD _ _ _ _ t=>t
 |_=>0
def ae2:GO→TypeId
 |.row _ e=>e
 |_=>0
def fx (vs:List AV):List GL→List GO→List GO→Bool
 |[],_,_=>true
 |.tok loc _ _ :: l,_ :: B,.tok f _ _ :: G=>decide (f=Sn vs loc)&&fx vs l B G
 |.tok _ _ _ :: _,_,_=>false
 |.lp k :: l,o :: B,o' :: G=>aaE k o o'&&fx vs l B G
 |.bD :: l,o :: B,o' :: G=>Ht o o'&&fx vs l B G
 |.row _ :: l,b :: B,g :: G=>YC b g&&fx vs l B G
 |.map :: l,_ :: B,.map es :: G=>iD es&&fx vs l B G
 |.map :: _,_,_=>false
 |.KY :: l,_ :: B,_ :: G=>fx vs l B G
 |.da _ _ :: l,_ :: B,_ :: G=>fx vs l B G
 |.aY _ _ :: l,_ :: B,_ :: G=>fx vs l B G
 |.iP _ _ :: l,_ :: B,.iP rows _ _ :: G=>dK rows&&fx vs l B G
 |.iP _ _ :: _,_,_=>false
 |.yF :: l,_ :: B,_ :: G=>fx vs l B G
 |.lD _ :: l,b :: B,g :: G=>YD b g&&fx vs l B G
 |.dead :: l,_ :: B,_ :: G=>fx vs l B G
 |_,_,_=>false
def uM:List Tmp→List AV→bz→bz
 |t :: ts,a :: l,r=>.put t (.v a) :: uM ts l r
 |_,_,r=>r
def uN:List (Tmp × Nat × Nat)→bz→bz
 |(t,k,o) :: l,r=>.put t (.lp k o) :: uN l r
 |[],r=>r
def N4 (ab:bz):List (Tmp × Nat × Nat)→Bool
 |[]=>true
 |(t,k,o) :: l=>(match lk ab t with
  |.lp k' o'=>aah k' k&&aah o' o
  |_=>false)&&N4 ab l
def DC:List Tmp→bz→bz
 |t :: ts,r=>.put t .none :: DC ts r
 |[],r=>r
def Bl:List (Nat × Nat)→List AV→dX→dX
 |(k,n) :: r,l,b=>(k,l.take n) :: Bl r (l.drop n) b
 |[],_,b=>b
def fH (vs:List AV):List GL→List GO→List AV→List GO
 |.row n :: r,B,l=>.row (l.take n) (ae2 (B.headD .dead)) :: fH vs r B.tail (l.drop n)
 |.tok loc sz e :: r,B,l=>.tok (Sn vs loc) sz e :: fH vs r B.tail l
 |.dead :: r,B,l=>.dead :: fH vs r B.tail l
 |.lp k :: r,B,l=>YB k (B.headD .dead) :: fH vs r B.tail l
 |.bD :: r,B,l=>B.headD .dead :: fH vs r B.tail l
 |.map :: r,B,l=>.map (AV.entries (gr l)) :: fH vs r B.tail l.tail
 |.KY :: r,B,l=>.ke (AV.ZI (gr l)) (AV.BD (gr l.tail)).toNat :: fH vs r B.tail l.tail.tail
 |.da sz e :: r,B,l=>.da (AV.dO (gr l)) sz e :: fH vs r B.tail l.tail
 |.aY sz e :: r,B,l=>.aY (aB (AV.dO (gr l))) sz e :: fH vs r B.tail l.tail
 |.iP sz e :: r,B,l=>.iP (ai (AV.dO (gr l))) sz e :: fH vs r B.tail l.tail
 |.yF :: r,B,l=>.map (AV.entries (gr l)) :: fH vs r B.tail l.tail
 |.lD jR :: r,B,l=>.lD jR (AV.BD (gr l)).toNat (aB (AV.dO (gr l.tail))) none (ae1 (B.headD .dead)) :: fH vs r B.tail l.tail.tail
 |[],_,_=>[]
def Hu:List (Nat × Nat)→Nat
 |[]=>0
 |(_,n) :: l=>n+Hu l
def od:List GL→List AV→Nat→Nat
 |[],_,_=>0
 |.da _ _ :: r,l,i=>match i with
  |0=>(AV.dO (gr l)).length
  |i+1=>od r l.tail i
 |.row n :: r,l,i=>match i with
  |0=>0
  |i+1=>od r (l.drop n) i
 |.map :: r,l,i=>match i with
  |0=>0
  |i+1=>od r l.tail i
 |.KY :: r,l,i=>match i with
  |0=>0
  |i+1=>od r l.tail.tail i
 |.aY _ _ :: r,l,i=>match i with
  |0=>0
  |i+1=>od r l.tail i
 |.iP _ _ :: r,l,i=>match i with
  |0=>0
  |i+1=>od r l.tail i
 |.yF :: r,l,i=>match i with
  |0=>0
  |i+1=>od r l.tail i
 |.lD _ :: r,l,i=>match i with
  |0=>0
  |i+1=>od r l.tail.tail i
 |_ :: r,l,i=>match i with
  |0=>0
  |i+1=>od r l i
def dC.wi (t:dC) (v:t.ps.T):List AV:=t.ps.pt (od t.g (((t.ps.pt (fun _=>0) v).drop t.sl.length).drop (Hu t.bx))) v
def dC.st (t:dC) (s:St) (v:t.ps.T):St:=
 ⟨uN t.lps (uM t.sl (t.wi v) (DC t.W s.ab)),Bl t.bx ((t.wi v).drop t.sl.length) s.boxes,fH (t.wi v) t.g s.G (((t.wi v).drop t.sl.length).drop (Hu t.bx)),s.marks,s.ro,s.n⟩
def UQ:List Nat→Nat→Bool
 |[],_=>false
 |a :: l,n=>aah a n || UQ l n
def inK (l:List Tmp) (W:List Tmp) (n:Nat):Bool:=UQ l n || UQ W n
def Fp (d:Nat) (l W:List Tmp):bz→Bool
 |[]=>true
 |.put t (.lp k _) :: r=>(!(aah k d) || inK l W t)&&Fp d l W r
 |_ :: r=>Fp d l W r
def Aq (l W:List Tmp) (base:bz):bz→Bool
 |[]=>true
 |.put d _ :: r=>inK l W d&&Aq l W base r
 |.kill d :: r=>Fp d l W base&&Aq l W base r
def AZ:List (Nat × Nat)→Nat→Bool
 |[],_=>false
 |(a,_) :: l,n=>aah a n || AZ l n
def Ca (l:List (Nat × Nat)) (base:dX):dX→Bool
 |[]=>true
 |(k,_) :: r=>(AZ l k || (fh base k).isNone)&&Ca l base r
def VE:List Nat→List Nat→Bool
 |[],[]=>true
 |a :: l,b :: r=>aah a b&&VE l r
 |_,_=>false
def aM.lcl (n:Nat):aM→Bool
 |.list _ p=>p.under n
 |_=>false
def aR.flags (n:Nat):aR→List Bool
 |.nil=>[]
 |.cons p ps=>p.lcl n :: ps.flags n
def n6:List GL→List Bool→Bool
 |[],_=>true
 |.da _ _ :: r,f :: l=>f&&n6 r l
 |.da _ _ :: _,[]=>false
 |.row n :: r,l=>n6 r (iQ n l)
 |.map :: r,l=>n6 r (iQ 1 l)
 |.KY :: r,l=>n6 r (iQ 2 l)
 |.aY _ _ :: r,l=>n6 r (iQ 1 l)
 |.iP _ _ :: r,l=>n6 r (iQ 1 l)
 |.yF :: r,f :: l=>f&&n6 r l
 |.yF :: _,[]=>false
 |.lD _ :: r,l=>n6 r (iQ 2 l)
 |_ :: r,l=>n6 r l
def So (n:Nat):List GL→Bool
 |[]=>true
 |.lD jR :: r=>aar jR n&&So n r
 |_ :: r=>So n r
def dC.ok (t:dC) (s s':St):Bool:=
 Aq t.sl t.W s.ab (s'.ab.take (s'.ab.length - s.ab.length))&&Ca t.bx s.boxes (s'.boxes.take (s'.boxes.length - s.boxes.length)) &&
  VE s'.marks s.marks&&aah t.g.length s.G.length&&(t.ps.under s.G.length&&(n6 t.g (iQ (Hu t.bx) (iQ t.sl.length (t.ps.flags s.G.length)))&&So s.G.length t.g))&&N4 s'.ab t.lps
def dC.dec (t:dC) (s s':St):Option t.ps.T:=
 bif t.ok s s' then
  match DA s'.ab t.sl,DB s'.boxes t.bx,nj t.g s'.G with
  |some a,some b,some c=>(t.ps.PR (od t.g c) (a++(b++c))).bind fun v=>bif fx (t.wi v) t.g s.G s'.G then some v else none
  |_,_,_=>none
 else none
theorem Hv {l:List Nat} {n:Nat}:UQ l n=true↔n∈l:=by
 induction l with
 |nil=>simp [UQ]
 |cons a l ih=>
  simp only [UQ,Bool.or_eq_true,Nat.beq_eq,ih,abp];constructor
  ·rintro (h|h)
   ·exact .inl h.symm
   ·exact .inr h
  ·rintro (h|h)
   ·exact .inl h.symm
   ·exact .inr h
theorem N5:∀ {a b:List Nat},VE a b=true→a=b
 |[],[],_=>rfl
 |a :: l,b :: r,h=>by
  simp only [VE,aaa,Nat.beq_eq] at h;rw [h.1,N5 h.2]
 |[],_ :: _,h=>by cases h
 |_ :: _,[],h=>by cases h
theorem Hw {d:Nat} {l W:List Tmp} {t off:Nat}:∀ {base:bz},Fp d l W base=true→lk base t=.lp d off→inK l W t=true
 |[],_,h=>by simp [lk] at h
 |.put t' x :: r,hn,h=>by
  by_cases e:t'=t
  ·subst e;rw [aN] at h;subst h;simp only [Fp,Nat.beq_refl,Bool.not_true,Bool.false_or,aaa] at hn;exact hn.1
  ·rw [a8 e] at h;refine Hw (base:=r) ?_ h;cases x <;> simp only [Fp,aaa] at hn
   ·exact hn
   ·exact hn
   ·exact hn.2
 |.kill d' :: r,hn,h=>by
  rcases NA (l:=r) (d:=d') (t:=t) with ⟨h1,_⟩|h1
  ·rw [h1] at h;exact Hw (base:=r) hn h
  ·rw [h1] at h;cases h
theorem Hx {l W:List Tmp} {base:bz} {t:Nat} (ht:inK l W t=false):∀ {pre:bz},Aq l W base pre=true→lk (pre++base) t=lk base t
 |[],_=>rfl
 |.put d x :: r,h=>by
  simp only [Aq,aaa] at h;have df:d≠t:=fun e=>by rw [e,ht] at h; exact absurd h.1 (by simp)
  rw [aaN,a8 df];exact Hx ht h.2
 |.kill d :: r,h=>by
  simp only [Aq,aaa] at h;have ih:=Hx ht h.2;simp only [aaN,lk,ih];cases hb:lk base t with
  |lp k off=>
   by_cases e:k=d
   ·subst e;have:=Hw h.1 hb;rw [ht] at this;cases this
   ·simp [sO e]
  |_=>rfl
theorem Jv {l:List (Nat × Nat)} {base:dX} {k:Nat} {cs:List AV} (hk:AZ l k=false) (hb:fh base k=some cs):∀ {pre:dX},Ca l base pre=true→fh (pre++base) k=some cs
 |[],_=>hb
 |(d,x) :: r,h=>by
  simp only [Ca,aaa] at h;have df:d≠k:=fun e=>by
   rw [e,hk,hb] at h;exact absurd h.1 (by simp)
  rw [aaN,fh,sO df];exact Jv hk hb h.2
theorem Jw {α:Type} (pre base:List α):(pre++base).take ((pre++base).length - base.length)=pre:=by
 rw [List.length_append,Nat.add_sub_cancel,abv]
def aj.cut (R:aj) (n:Nat):aj:=⟨R.I,R.obj.take n⟩
theorem ov {R:aj} {n id:Nat} {ro:RO}:nth (R.cut n).obj id=some ro↔id < n∧nth R.obj id=some ro:=by
 simp only [aj.cut,aV,List.getElem?_take];split
 ·simp_all
 ·simp_all;omega
theorem tg (R:aj) (n:Nat):Mv R (R.cut n) n:=⟨fun _ _ h=>h,fun _ _ hl h=>ov.2 ⟨hl,h⟩⟩
section KW
variable {E:Env} {R R':aj} {w w':World} {β β':Nat→Nat} {s s':St} {a a':Act}
def DD (R:aj) (w:World) (β:Nat→Nat) (K:Nat→Prop) (ab:bz) (tmps:Array Value):Prop:=
 ∀ i,¬ K i→lk ab i≠.none→∃ c,tmps[i]?=some c∧tR R w β (lk ab i) c
theorem DE {tmps:Array Value} {base:bz}:∀ {W:List Tmp} {K:Nat→Prop},DD R w β (fun i=>i∈W∨K i) base tmps→DD R w β K (DC W base) tmps
 |[],K,h=>fun i hi hn=>h i (by simpa using hi) hn
 |t :: W,K,h=>fun i hi hn=>by
  have ih:DD R w β (fun i=>i=t∨K i) (DC W base) tmps:=DE (W:=W) (fun j hj=>h j (fun hc=>hj (by
   rcases hc with hc|hc
   ·rcases abp.1 hc with hc|hc
    ·exact .inr (.inl hc)
    ·exact .inl hc
   ·exact .inr (.inr hc))))
  simp only [DC] at hn ⊢;by_cases e:t=i
  ·subst e;rw [aN] at hn;exact absurd rfl hn
  ·rw [a8 e] at hn ⊢;exact ih i (by simp; exact ⟨fun e'=>e e'.symm,hi⟩) hn
theorem Bm {n:Nat} (m:Mv R' R n) {tmps:Array Value} {ab:bz} (hT:uf R' w β ab tmps) {base:bz}:∀ {ts:List Tmp} {K:Nat→Prop} {l l' r r':List AV},DA ab ts=some l→ew (l++r) (l'++r')→l.length=l'.length→aP n l'=true →
  DD R w β (fun i=>i∈ts∨K i) base tmps→DD R w β K (uM ts (l'++r') base) tmps
 |[],K,l,l',r,r',_,_,_,_,h=>fun i hi hn=>by
  have e:uM [] (l'++r') base=base:=rfl;rw [e] at hn ⊢;exact h i (by simpa using hi) hn
 |t :: ts,K,l,l',r,r',hg,hw,hl,hu,h=>by
  unfold DA at hg;split at hg
  ·rename_i a ha;split at hg
   ·rename_i l0 Ac;cases hg;cases l' with
    |nil=>simp at hl
    |cons b l'=>
     simp only [aaN,ew] at hw;simp only [aP,aaa] at hu;have ih:DD R w β (fun i=>i=t∨K i) (uM ts (l'++r') base) tmps:=Bm m hT Ac hw.2 (by simpa using hl) hu.2 (fun j hj=>h j (fun hc=>hj (by
      rcases hc with hc|hc
      ·rcases abp.1 hc with hc|hc
       ·exact .inr (.inl hc)
       ·exact .inl hc
      ·exact .inr (.inr hc))))
     intro i hi hn;simp only [uM,aaN] at hn ⊢;by_cases e:t=i
     ·subst e;rw [aN] at hn ⊢;obtain ⟨c,h1,h2⟩:=hT t (by rw [ha]; simp);rw [ha] at h2;exact ⟨c,h1,Rel.move m hu.1 (hw.1 _ _ _ h2)⟩
     ·rw [a8 e] at hn ⊢;exact ih i (by simp; exact ⟨fun e'=>e e'.symm,hi⟩) hn
   ·cases hg
  ·cases hg
def DF (R:aj) (w:World) (β:Nat→Nat) (k:Nat) (cs:List AV):Prop:=
 (∃ vs el,w.heap[β k]?=some (.cells ⟨vs⟩ el (0,0))∧aQ R w cs vs∧(∀ v∈vs,v.oneCell'=true))∧(∀ o,¬ R.I (β k) o)∧¬ Live R (β k)
theorem Jx {R:aj} {n b:Nat} (h:Live (R.cut n) b):Live R b:=by
 obtain ⟨id,ro,h1,h2⟩:=h;exact ⟨id,ro,(ov.1 h1).2,h2⟩
theorem DF.cut {n k:Nat} {cs ig:List AV} (h:DF R w β k cs) (hw:ew cs ig) (hu:aP n ig=true):DF (R.cut n) w β k ig:=by
 obtain ⟨⟨vs,el,h1,h2,h3⟩,h4,h5⟩:=h;exact ⟨⟨vs,el,h1,(hw.rel h2).move (tg R n) hu,h3⟩,h4,fun hl=>h5 (Jx hl)⟩
theorem hZ {n:Nat}:∀ {l r:List AV},aP n (l++r)=(aP n l&&aP n r)
 |[],r=>by simp [aP]
 |a :: l,r=>by simp [aP,hZ (l:=l),Bool.and_assoc]
theorem ew.split:∀ {l r l':List AV},ew (l++r) l'→∃ a b,l'=a++b∧ew l a∧ew r b∧a.length=l.length
 |[],r,l',h=>⟨[],l',rfl,trivial,h,rfl⟩
 |x :: l,r,[],h=>h.elim
 |x :: l,r,y :: l',h=>by
  obtain ⟨a,b,rfl,h2,h3,h4⟩:=ew.split (l:=l) (r:=r) (l':=l') h.2;exact ⟨y :: a,b,rfl,⟨h.1,h2⟩,h3,by simp [h4]⟩
theorem Jy {n:Nat} {bxs:dX} (hb:∀ k cs,fh bxs k=some cs→DF R w β k cs) {base:dX}:∀ {bx:List (Nat × Nat)} {K:Nat→Prop} {l l' r:List AV},DB bxs bx=some l→ew l l'→aP n l'=true →
  (∀ k cs,¬ K k→AZ bx k=false→fh base k=some cs→fh bxs k=some cs∧aP n cs=true) →
  ∀ k cs,¬ K k→fh (Bl bx (l'++r) base) k=some cs→DF (R.cut n) w β k cs∧∃ ig,fh bxs k=some ig
 |[],K,l,l',r,_,_,_,h,k,cs,hK,hk=>by
  obtain ⟨h1,h2⟩:=h k cs hK rfl hk;exact ⟨(hb k cs h1).cut (ew.refl _) h2,cs,h1⟩
 |(d,m) :: bx,K,l,l',r,hg,hw,hu,h,k,cs,hK,hk=>by
  unfold DB at hg;split at hg
  ·rename_i cs0 hd;split at hg
   ·rename_i l0 Ac;cases hm:aah cs0.length m with
    |false=>rw [hm] at hg; cases hg
    |true=>
     rw [hm] at hg;cases hg;have hm:=aag hm;obtain ⟨x,y,rfl,k1,k2,k3⟩:=hw.split;rw [hZ,aaa] at hu;have e1:((x++y)++r).take m=x:=by rw [List.append_assoc,← hm,← k3,abv]
     have e2:((x++y)++r).drop m=y++r:=by rw [List.append_assoc,← hm,← k3,aaG]
     simp only [Bl,e1,e2] at hk;rcases iA hk with ⟨rfl,rfl⟩|⟨df,hk⟩
     ·exact ⟨(hb d cs0 hd).cut k1 hu.1,cs0,hd⟩
     ·refine Jy hb (K:=fun k=>k=d∨K k) (r:=r) Ac k2 hu.2 (fun k' ig hK' h1 h2=>?_) k cs (fun hc=>?_) hk
      ·exact h k' ig (fun hc=>hK' (.inr hc)) (by simp only [AZ,h1,Bool.or_false]; exact sO (fun e=>hK' (.inl e.symm))) h2
      ·rcases hc with hc|hc
       ·exact df hc.symm
       ·exact hK hc
   ·cases hg
  ·cases hg
def BQ (n:Nat):List GL→List AV→Prop
 |[],_=>True
 |.da _ _ :: r,l=>aP n (AV.dO (gr l))=true∧BQ n r l.tail
 |.row m :: r,l=>BQ n r (l.drop m)
 |.map :: r,l=>BQ n r l.tail
 |.KY :: r,l=>BQ n r l.tail.tail
 |.aY _ _ :: r,l=>BQ n r l.tail
 |.iP _ _ :: r,l=>BQ n r l.tail
 |.yF :: r,l=>aP n (AV.dO (gr l))=true∧BQ n r l.tail
 |.lD _ :: r,l=>BQ n r l.tail.tail
 |_ :: r,l=>BQ n r l
def uO (n:Nat):List Bool→List AV→Prop
 |[],_=>True
 |_ :: _,[]=>True
 |f :: fl,a :: l=>(f=true→aP n a.dO=true)∧uO n fl l
theorem uO.drop {m:Nat}:∀ {fl:List Bool} {l:List AV} (n:Nat),uO m fl l→uO m (iQ n fl) (l.drop n)
 |_,_,0,h=>by simpa [iQ] using h
 |[],_,_+1,_=>by simp [iQ,uO]
 |_ :: fl,[],n+1,_=>by
  rw [List.drop_nil];cases iQ (n+1) (_ :: fl) <;> trivial
 |_ :: fl,_ :: l,n+1,h=>by simpa [iQ] using uO.drop n h.2
theorem iW {m:Nat}:∀ (g:List GL) {fl:List Bool} {l:List AV},n6 g fl=true→uO m fl l→BQ m g l
 |[],_,_,_,_=>trivial
 |.da _ _ :: g,[],_,h,_=>by cases h
 |.da _ _ :: g,f :: fl,[],h,_=>by
  simp only [n6,aaa] at h;refine ⟨rfl,iW g (fl:=fl) h.2 ?_⟩;cases fl <;> trivial
 |.da _ _ :: g,f :: fl,a :: l,h,k=>by
  simp only [n6,aaa] at h;exact ⟨k.1 h.1,iW g h.2 k.2⟩
 |.row n :: g,fl,l,h,k=>iW g (show n6 g (iQ n fl)=true from h) (k.drop n)
 |.map :: g,fl,l,h,k=>by
  have:=iW g (show n6 g (iQ 1 fl)=true from h) (k.drop 1);rw [abx] at this;exact this
 |.KY :: g,fl,l,h,k=>by
  have:=iW g (show n6 g (iQ 2 fl)=true from h) (k.drop 2);have e:l.drop 2=l.tail.tail:=by cases l with
   |nil=>rfl
   |cons a l=>cases l <;> rfl
  rw [e] at this;exact this
 |.aY _ _ :: g,fl,l,h,k=>by
  have:=iW g (show n6 g (iQ 1 fl)=true from h) (k.drop 1);rw [abx] at this;exact this
 |.iP _ _ :: g,fl,l,h,k=>by
  have:=iW g (show n6 g (iQ 1 fl)=true from h) (k.drop 1);rw [abx] at this;exact this
 |.lD _ :: g,fl,l,h,k=>by
  have:=iW g (show n6 g (iQ 2 fl)=true from h) (k.drop 2);have e:l.drop 2=l.tail.tail:=by cases l with
   |nil=>rfl
   |cons a l=>cases l <;> rfl
  rw [e] at this;exact this
 |.yF :: g,[],_,h,_=>by cases h
 |.yF :: g,f :: fl,[],h,_=>by
  simp only [n6,aaa] at h;refine ⟨rfl,iW g (fl:=fl) h.2 ?_⟩;cases fl <;> trivial
 |.yF :: g,f :: fl,a :: l,h,k=>by
  simp only [n6,aaa] at h;exact ⟨k.1 h.1,iW g h.2 k.2⟩
 |.tok _ _ _ :: g,fl,l,h,k=>iW g (show n6 g fl=true from h) k
 |.dead :: g,fl,l,h,k=>iW g (show n6 g fl=true from h) k
 |.lp _ :: g,fl,l,h,k=>iW g (show n6 g fl=true from h) k
 |.bD :: g,fl,l,h,k=>iW g (show n6 g fl=true from h) k
theorem DG {n:Nat} {α:Type} {g:α→AV} (hg:∀ x,(g x).under n=true):∀ xs:List α,aP n (xs.map g)=true
 |[]=>rfl
 |x :: xs=>by simp only [abw,aP,hg x,DG hg xs,Bool.and_self]
theorem aR.Jz (n:Nat) (L:Nat→Nat):∀ (ps:aR) (x:ps.T),uO n (ps.flags n) (ps.pt L x)
 |.nil,_=>trivial
 |.cons p .nil,x=>⟨fun h=>YE L p x h,trivial⟩
 |.cons p (.cons q ps),x=>⟨fun h=>YE L p x.1 h,(aR.cons q ps).Jz n L x.2⟩
where
 YE (L:Nat→Nat):∀ (p:aM) (x:p.T),p.lcl n=true→aP n (p.pt L x).dO=true
  |.list _ p,x,h=>DG (fun y=>p.fw y h) _
  |.int _,_,h=>by cases h
  |.bool,_,h=>by cases h
  |.str,_,h=>by cases h
  |.agg _,_,h=>by cases h
  |.bW _,_,h=>by cases h
  |.own _ _ _,_,h=>by cases h
  |.aY _ _ _,_,h=>by cases h
  |.gH _ _,_,h=>by cases h
  |.kQ _,_,h=>by cases h
  |.two _ _,_,h=>by cases h
def GOk (n:Nat):GO→GO→Prop
 |.row cs el,.row ig el'=>el'=el∧ew cs ig∧aP n ig=true
 |.tok f sz e,.tok f' bP e'=>f=f'∧sz=bP∧e=e'
 |.defers a,.defers b=>a=b
 |.map es,.map es'=>(es'=es∧iD es=true)∨∃ l,es'=az l∧n5 (ae es) l∧aP n l=true
 |.aY fs sz e,.aY ZV bP e'=>fs=ZV∧sz=bP∧e=e'
 |.iP rows sz e,.iP rows' bP e'=>rows=rows'∧sz=bP∧e=e'
 |.lD jR m left _ t,.lD mid' m' FR cur t'=>jR=mid'∧m=m'∧left=FR∧t=t'∧jR < n∧cur=none
 |.ke l p,.ke l' p'=>l'=l∧p'=p
 |.da es sz e,.da es' bP e'=>bP=sz∧e'=e∧n5 es es'∧aP n es'=true
 |_,.dead=>True
 |_,_=>False
def LOk:GO→GO→GO→Prop
 |.loop _ _ fn sl n ps xm bd d _,.loop b p _ _ _ _ _ _ _ dn,go=>go=.loop b p fn sl n ps xm bd d dn
 |_,_,_=>False
theorem PT {n:Nat} {o o':GO} (h:Ht o o'=true):GOk n o' o:=by
 cases o with
 |tok f sz e=>
  cases o' with
  |tok f' bP e'=>
   simp only [Ht,aaa] at h;exact ⟨of_decide_eq_true h.1,aag h.2.1,aag h.2.2⟩
  |_=>cases h
 |defers a=>
  cases o' with
  |defers b=>cases a <;> cases b <;> first | rfl | cases h
  |_=>cases h
 |dead=>cases o' <;> trivial
 |_=>cases h
theorem VF {k:KX} {o o':GO} (h:aaE k o o'=true):LOk o o' (YB k o):=by
 cases o with
 |loop b p fn sl n ps xm bd d dn=>
  cases o' with
  |loop b' p' fn' sl' n' ps' VG bd' d' dn'=>
   obtain ⟨rfl,rfl,rfl⟩:=KX.N3 (show k.is b' p' dn'=true from h);rfl
  |_=>cases h
 |_=>cases h
theorem wF (a:AV):a.entries=az a.dO:=by cases a <;> rfl
theorem j5 {n:Nat} {vs:List AV}:∀ {g:List GL} {B G:List GO} {l l':List AV},nj g G=some l→ew l l'→QX l l'→BQ n g l'∧So n g=true→aP n l'=true→fx vs g B G=true →
  ∀ id go,nth (fH vs g B l') id=some go→∃ go',nth G id=some go'∧(GOk n go' go∨∃ QR,nth B id=some QR∧LOk QR go' go)
 |[],B,G,l,l',_,_,_,_,_,_,id,go,h=>by simp [fH,nth] at h
 |x :: g,[],G,l,l',_,_,_,_,_,ht,_,_,_=>by cases x <;> cases G <;> cases ht
 |x :: g,_ :: _,[],l,l',_,_,_,_,_,ht,_,_,_=>by cases x <;> cases ht
 |.row m :: g,b :: B,o :: G,l,l',hg,hw,hx,xF,hu,ht,id,go,h=>by
   obtain ⟨QU,wh⟩:YC b o=true∧fx vs g B G=true:=by
    rw [← aaa];cases o <;> exact ht
   cases o with
   |row cs el=>
    have mN:ae2 b=el:=by
     cases b <;> first | (cases QU; done) | exact aag QU
    change (match nj g G with
     |some r=>bif aah cs.length m then some (cs++r) else none
     |none=>none)=some l at hg
    split at hg
    ·rename_i r hr;cases hm:aah cs.length m with
     |false=>rw [hm] at hg; cases hg
     |true=>
      rw [hm] at hg;cases hg;have hm:=aag hm;obtain ⟨x,y,rfl,k1,k2,k3⟩:=hw.split;rw [hZ,aaa] at hu;have e1:(x++y).take m=x:=by rw [← hm,← k3,abv]
      have e2:(x++y).drop m=y:=by rw [← hm,← k3,aaG]
      simp only [fH,e1,e2] at h;cases id with
      |zero=>simp only [nth] at h; cases h; exact ⟨.row cs el,rfl,.inl ⟨mN,k1,hu.1⟩⟩
      |succ id=>exact j5 hr k2 (by obtain ⟨x',y',e1',k1',UM,k3'⟩:=hx.split; have:=abt e1' (by rw [k3,k3']); rw [this.2]; exact UM) (by rw [← e2]; exact xF) hu.2 wh id go h
    ·cases hg
   |_=>cases hg
 |.tok loc sz e :: g,b :: B,o :: G,l,l',hg,hw,hx,xF,hu,ht,id,go,h=>by
   cases o with
   |tok f bP e'=>
    change (bif aah sz bP&&aah e e' then nj g G else none)=some l at hg;change (decide (f=Sn vs loc)&&fx vs g B G)=true at ht;rw [aaa] at ht;cases hm:(aah sz bP&&aah e e') with
    |false=>rw [hm] at hg; cases hg
    |true=>
     rw [hm] at hg;rw [aaa] at hm;have q1:=aag hm.1;have q2:=aag hm.2;simp only [fH] at h;cases id with
     |zero=>
      simp only [nth] at h;cases h;exact ⟨.tok f bP e',rfl,.inl ⟨of_decide_eq_true ht.1,q1.symm,q2.symm⟩⟩
     |succ id=>exact j5 hg hw hx xF hu ht.2 id go h
   |_=>cases hg
 |.dead :: g,b :: B,o :: G,l,l',hg,hw,hx,xF,hu,ht,id,go,h=>by
   simp only [fH] at h;have Il:nj g G=some l:=by cases o <;> exact hg
   have wh:fx vs g B G=true:=by cases o <;> exact ht
   cases id with
   |zero=>
    simp only [nth] at h;cases h;exact ⟨o,rfl,.inl (by cases o <;> trivial)⟩
   |succ id=>exact j5 Il hw hx xF hu wh id go h
 |.lp k :: g,b :: B,o :: G,l,l',hg,hw,hx,xF,hu,ht,id,go,h=>by
   simp only [fH] at h;have Il:nj g G=some l:=by cases o <;> exact hg
   change (aaE k b o&&fx vs g B G)=true at ht;rw [aaa] at ht;cases id with
   |zero=>
    simp only [nth] at h;cases h;exact ⟨o,rfl,.inr ⟨b,rfl,VF ht.1⟩⟩
   |succ id=>exact j5 Il hw hx xF hu ht.2 id go h
 |.bD :: g,b :: B,o :: G,l,l',hg,hw,hx,xF,hu,ht,id,go,h=>by
   simp only [fH] at h;have Il:nj g G=some l:=by cases o <;> exact hg
   change (Ht b o&&fx vs g B G)=true at ht;rw [aaa] at ht;cases id with
   |zero=>
    simp only [nth] at h;cases h;exact ⟨o,rfl,.inl (PT ht.1)⟩
   |succ id=>exact j5 Il hw hx xF hu ht.2 id go h
 |.map :: g,b :: B,o :: G,l,l',hg,hw,hx,xF,hu,ht,id,go,h=>by
   cases o with
   |map es=>
    change (match nj g G with
     |some r=>some (AV.list .iu 2 (ae es) :: r)
     |none=>none)=some l at hg
    change (iD es&&fx vs g B G)=true at ht;rw [aaa] at ht;split at hg
    ·rename_i r hr;cases hg;cases l' with
     |nil=>exact hw.elim
     |cons a l'=>
      simp only [aP,aaa] at hu;simp only [fH,gr,aaF] at h;cases id with
      |zero=>
       simp only [nth] at h;cases h;refine ⟨.map es,rfl,.inl (.inl ⟨?_,ht.1⟩)⟩;rw [wF,hx.2.1.1 ht.1];exact tK es
      |succ id=>exact j5 hr hw.2 hx.2.2.2 xF hu.2 ht.2 id go h
    ·cases hg
   |_=>cases hg
 |.KY :: g,b :: B,o :: G,l,l',hg,hw,hx,xF,hu,ht,id,go,h=>by
   have wh:fx vs g B G=true:=by cases o <;> exact ht
   cases o with
   |ke s pos=>
    change (match nj g G with
     |some r=>some (AV.str s :: AV.int .i64 pos :: r)
     |none=>none)=some l at hg
    split at hg
    ·rename_i r hr;cases hg
     match l',hw,hx,hu,h with
     |[],hw,_,_,_=>exact hw.elim
     |[_],hw,_,_,_=>exact hw.2.elim
     |a :: a' :: l',hw,hx,hu,h=>
      simp only [aP,aaa] at hu;simp only [fH,gr,aaF] at h;have e1:=hx.1 (by simp [AV.exact]);have e2:=hx.2.2.2.1 (by simp [AV.exact]);subst e1 e2;cases id with
      |zero=>
       simp only [nth] at h;cases h;exact ⟨.ke s pos,rfl,.inl ⟨rfl,by simp [AV.BD]⟩⟩
      |succ id=>exact j5 hr hw.2.2 hx.2.2.2.2.2.2 xF hu.2.2 wh id go h
    ·cases hg
   |_=>cases hg
 |.da sz e :: g,b :: B,o :: G,l,l',hg,hw,hx,xF,hu,ht,id,go,h=>by
   have wh:fx vs g B G=true:=by cases o <;> exact ht
   cases o with
   |da es bP e'=>
    change (match nj g G with
     |some r=>bif aah sz bP&&aah e e' then some (AV.list .iu bP es :: r) else none
     |none=>none)=some l at hg
    split at hg
    ·rename_i r hr;cases hm:(aah sz bP&&aah e e') with
     |false=>rw [hm] at hg; cases hg
     |true=>
     rw [hm] at hg;rw [aaa] at hm;have q1:=aag hm.1;have q2:=aag hm.2;cases hg;cases l' with
     |nil=>exact hw.elim
     |cons a l'=>
      simp only [aP,aaa] at hu;simp only [fH,gr,aaF] at h;cases id with
      |zero=>
       simp only [nth] at h;cases h;exact ⟨.da es bP e',rfl,.inl ⟨q1,q2,hx.2.2.1,xF.1.1⟩⟩
      |succ id=>exact j5 hr hw.2 hx.2.2.2 ⟨xF.1.2,xF.2⟩ hu.2 wh id go h
    ·cases hg
   |_=>cases hg
 |.aY sz e :: g,b :: B,o :: G,l,l',hg,hw,hx,xF,hu,ht,id,go,h=>by
   have wh:fx vs g B G=true:=by cases o <;> exact ht
   cases o with
   |aY fs bP e'=>
    change (match nj g G with
     |some r=>bif aah sz bP&&aah e e' then some (AV.list .iu 1 (bw fs) :: r) else none
     |none=>none)=some l at hg
    split at hg
    ·rename_i r hr;cases hm:(aah sz bP&&aah e e') with
     |false=>rw [hm] at hg; cases hg
     |true=>
     rw [hm] at hg;rw [aaa] at hm;have q1:=aag hm.1;have q2:=aag hm.2;cases hg;cases l' with
     |nil=>exact hw.elim
     |cons a l'=>
      simp only [aP,aaa] at hu;simp only [fH,gr,aaF] at h;cases id with
      |zero=>
       simp only [nth] at h;cases h;refine ⟨.aY fs bP e',rfl,.inl ⟨?_,q1.symm,q2.symm⟩⟩;rw [hx.2.1.1 (Dy fs)];exact (Bk fs).symm
      |succ id=>exact j5 hr hw.2 hx.2.2.2 xF hu.2 wh id go h
    ·cases hg
   |_=>cases hg
 |.iP sz e :: g,b :: B,o :: G,l,l',hg,hw,hx,xF,hu,ht,id,go,h=>by
   cases o with
   |iP rows bP e'=>
    change (match nj g G with
     |some r=>bif aah sz bP&&aah e e' then some (AV.list .iu 1 (cD bP rows) :: r) else none
     |none=>none)=some l at hg
    change (dK rows&&fx vs g B G)=true at ht;rw [aaa] at ht;split at hg
    ·rename_i r hr;cases hm:(aah sz bP&&aah e e') with
     |false=>rw [hm] at hg; cases hg
     |true=>
     rw [hm] at hg;rw [aaa] at hm;have q1:=aag hm.1;have q2:=aag hm.2;cases hg;cases l' with
     |nil=>exact hw.elim
     |cons a l'=>
      simp only [aP,aaa] at hu;simp only [fH,gr,aaF] at h;cases id with
      |zero=>
       simp only [nth] at h;cases h;refine ⟨.iP rows bP e',rfl,.inl ⟨?_,q1.symm,q2.symm⟩⟩;show rows=ai a.dO;unfold ai;rw [hx.2.1.2 (Dz _ _ ht.1)];exact (Ju _ rows).symm
      |succ id=>exact j5 hr hw.2 hx.2.2.2 xF hu.2 ht.2 id go h
    ·cases hg
   |_=>cases hg
 |.yF :: g,b :: B,o :: G,l,l',hg,hw,hx,xF,hu,ht,id,go,h=>by
   have wh:fx vs g B G=true:=by cases o <;> exact ht
   cases o with
   |map es=>
    change (match nj g G with
     |some r=>some (AV.list .iu 2 (ae es) :: r)
     |none=>none)=some l at hg
    split at hg
    ·rename_i r hr;cases hg;cases l' with
     |nil=>exact hw.elim
     |cons a l'=>
      simp only [aP,aaa] at hu;simp only [fH,gr,aaF] at h;cases id with
      |zero=>
       simp only [nth] at h;cases h;exact ⟨.map es,rfl,.inl (.inr ⟨a.dO,wF a,hx.2.2.1,xF.1.1⟩)⟩
      |succ id=>exact j5 hr hw.2 hx.2.2.2 ⟨xF.1.2,xF.2⟩ hu.2 wh id go h
    ·cases hg
   |_=>cases hg
 |.lD jR :: g,b :: B,o :: G,l,l',hg,hw,hx,xF,hu,ht,id,go,h=>by
   obtain ⟨QU,wh⟩:YD b o=true∧fx vs g B G=true:=by
    rw [← aaa];cases o <;> exact ht
   cases o with
   |lD mid' k left cur t=>
    have mN:ae1 b=t:=by
     cases b <;> first | (cases QU; done) | exact aag QU
    change (match nj g G with
     |some r=>bif aah jR mid' then some (AV.int .i64 k :: AV.list .iu 1 (bw left) :: r) else none
     |none=>none)=some l at hg
    split at hg
    ·rename_i r hr;cases hm:aah jR mid' with
     |false=>rw [hm] at hg; cases hg
     |true=>
     rw [hm] at hg;have q1:=aag hm;subst q1;cases hg;have hmp:=xF.2;simp only [So,aaa] at hmp
     match l',hw,hx,hu,h with
     |[],hw,_,_,_=>exact hw.elim
     |[_],hw,_,_,_=>exact hw.2.elim
     |a :: a' :: l',hw,hx,hu,h=>
      simp only [aP,aaa] at hu;simp only [fH,gr,aaF] at h;have e1:=hx.1 (by simp [AV.exact]);have e2:=hx.2.2.2.2.1.1 (Dy left);subst e1;cases id with
      |zero=>
       simp only [nth] at h;cases h;refine ⟨.lD jR k left cur t,rfl,.inl ⟨rfl,by simp [AV.BD],?_,mN.symm,kL hmp.1,rfl⟩⟩;rw [e2];exact (Bk left).symm
      |succ id=>exact j5 hr hw.2.2 hx.2.2.2.2.2.2 ⟨xF.1,hmp.2⟩ hu.2.2 wh id go h
    ·cases hg
   |_=>cases hg
theorem eH {vs:List AV}:∀ {g:List GL} {B:List GO} {l:List AV},(fH vs g B l).length=g.length
 |[],_,_=>rfl
 |.row m :: g,B,l=>by simp [fH,eH (g:=g)]
 |.tok _ _ _ :: g,B,l=>by simp [fH,eH (g:=g)]
 |.dead :: g,B,l=>by simp [fH,eH (g:=g)]
 |.lp _ :: g,B,l=>by simp [fH,eH (g:=g)]
 |.bD :: g,B,l=>by simp [fH,eH (g:=g)]
 |.map :: g,B,l=>by simp [fH,eH (g:=g)]
 |.da _ _ :: g,B,l=>by simp [fH,eH (g:=g)]
 |.KY :: g,B,l=>by simp [fH,eH (g:=g)]
 |.aY _ _ :: g,B,l=>by simp [fH,eH (g:=g)]
 |.iP _ _ :: g,B,l=>by simp [fH,eH (g:=g)]
 |.yF :: g,B,l=>by simp [fH,eH (g:=g)]
 |.lD _ :: g,B,l=>by simp [fH,eH (g:=g)]
theorem jW.lok {R0:aj} {w0:World} {YF:RO} {QR go' go:GO} {ro:RO} (e:Ext R0 w0 R w) (h0:jW R0 w0 QR YF) (hle:cQ YF ro) (h:jW R' w go' ro) (k:LOk QR go' go):jW R w go ro:=by
 cases QR with
 |loop b p fn sl n ps xm bd d dn=>
  cases go' with
  |loop b' p' fn' sl' n' ps' VG bd' d' dn'=>
   change go=_ at k;subst k;cases YF with
   |bZ bb=>
    simp only [cQ] at hle;subst hle;obtain ⟨⟨r0,db0,l1,l2,l3,l4,l5,l6,l7,l8,l9,l10⟩,l11⟩:=h0;obtain ⟨⟨r,db,m1,m2,m3,m4,m5,m6,m7,m8,m9,m10⟩,m11⟩:=h;obtain ⟨r1,q1,q2,q3,q4,q5,q6⟩:=e.lp bb r0 l1;have hr:r1=r:=by
     have:=q1.symm.trans m1;injection this with this;injection this with this
    subst hr;exact ⟨⟨r1,db0,q1,m2,m3,by rw [q2]; exact uf.mono e l4,by rw [q2]; exact l5,by rw [q3]; exact l6,by rw [q4]; exact l7,by rw [q5]; exact l8,by rw [q6]; exact l9,e.bZ l10⟩,l11⟩
   |none=>exact h0.elim
   |bj=>exact h0.elim
   |tok _ _ _=>exact h0.elim
   |aY _=>exact h0.elim
  |_=>exact k.elim
 |_=>exact k.elim
theorem fS.cut {n:Nat}:∀ {es:List (AV × AV)} {aL:List MapEntry},gP (ae es)=true→fS R w es aL→fS (R.cut n) w es aL
 |[],[],_,_=>trivial
 |[],_ :: _,_,h=>h.elim
 |_ :: _,[],_,h=>h.elim
 |(k,v) :: es,en :: aL,he,h=>by
  simp only [ae,gP,AV.exact,aas,aaa] at he;exact ⟨h.1.move (tg R n) (j4 n (tf he.1.1)),h.2.1.move (tg R n) (j4 n (tf he.1.2)),fS.cut he.2 h.2.2⟩
theorem JA {n:Nat} {v:AV} (h:v.under n=true) (k:v.ba=true):aP n v.cells=true:=by
 cases v <;> first | exact h | (simp [AV.ba] at k; done) | (simp only [AV.cells,aP,aas]; exact h)
theorem DH {n sz:Nat}:∀ {es es':List AV},n5 es es'→ga sz es→aP n es'=true→ga sz es'∧ew (aE es) (aE es')∧aP n (aE es')=true
 |[],[],_,_,_=>⟨(fun e he=>by simp at he),trivial,rfl⟩
 |e :: es,e' :: es',h,k,vu=>by
  obtain ⟨h1,h2⟩:=h;simp only [aP,aaa] at vu;obtain ⟨q1,q2⟩:=k e (by simp);obtain ⟨i1,i2,i3⟩:=DH h2 (fun x hx=>k x (by simp [hx])) vu.2;have hc:=h1.cells q2;have ht:e'.ba=true:=by rw [h1.bW,q2]
  refine ⟨fun x hx=>?_,hc.append i2,by show aP n (e'.cells++aE es')=true; rw [hZ,JA vu.1 ht,i3]; rfl⟩;rcases abp.1 hx with rfl|hx
  ·exact ⟨by rw [← hc.length,q1],ht⟩
  ·exact i1 x hx
 |[],_ :: _,h,_,_=>h.elim
 |_ :: _,[],h,_,_=>h.elim
theorem tT.head {l r:List AV} (h:tT l r):(AV.dO (gr l)).length=(AV.dO (gr r)).length:=by
 cases l <;> cases r <;> first | rfl | exact h.1 | exact h.elim
theorem tT.tail {l r:List AV} (h:tT l r):tT l.tail r.tail:=by
 cases l <;> cases r <;> first | exact h | exact h.2 | exact h.elim
theorem eI:∀ (g:List GL) {l r:List AV} (i:Nat),tT l r→od g l i=od g r i
 |[],_,_,_,_=>rfl
 |.da _ _ :: g,l,r,0,h=>h.head
 |.da _ _ :: g,l,r,i+1,h=>eI g i h.tail
 |.row _ :: g,l,r,0,h=>rfl
 |.row n :: g,l,r,i+1,h=>eI g i (h.drop n)
 |.map :: g,l,r,0,h=>rfl
 |.map :: g,l,r,i+1,h=>eI g i h.tail
 |.KY :: g,l,r,0,h=>rfl
 |.KY :: g,l,r,i+1,h=>eI g i h.tail.tail
 |.aY _ _ :: g,l,r,0,h=>rfl
 |.aY _ _ :: g,l,r,i+1,h=>eI g i h.tail
 |.iP _ _ :: g,l,r,0,h=>rfl
 |.iP _ _ :: g,l,r,i+1,h=>eI g i h.tail
 |.yF :: g,l,r,0,h=>rfl
 |.yF :: g,l,r,i+1,h=>eI g i h.tail
 |.lD _ :: g,l,r,0,h=>rfl
 |.lD _ :: g,l,r,i+1,h=>eI g i h.tail.tail
 |.tok _ _ _ :: g,l,r,0,h=>rfl
 |.tok _ _ _ :: g,l,r,i+1,h=>eI g i h
 |.dead :: g,l,r,0,h=>rfl
 |.dead :: g,l,r,i+1,h=>eI g i h
 |.lp _ :: g,l,r,0,h=>rfl
 |.lp _ :: g,l,r,i+1,h=>eI g i h
 |.bD :: g,l,r,0,h=>rfl
 |.bD :: g,l,r,i+1,h=>eI g i h
theorem fS.ae4 {n:Nat}:∀ {es:List (AV × AV)} {l:List AV} {aL:List MapEntry},n5 (ae es) l→aP n l=true→fS R w es aL→fS (R.cut n) w (az l) aL
 |[],[],[],_,_,_=>trivial
 |[],[],_ :: _,_,_,h=>h.elim
 |[],_ :: _,_,h,_,_=>h.elim
 |(_,_) :: _,[],_,h,_,_=>h.elim
 |(_,_) :: _,_ :: _,[],_,_,h=>h.elim
 |(k,v) :: es,a :: l,en :: aL,hd,hu,h=>by
  obtain ⟨d1,d2⟩:=hd;simp only [aP,aaa] at hu;have hc:=d1.cells rfl;have hl:[k,v].length=a.cells.length:=hc.length;cases a with
  |agg cs=>
   match cs,hc,hl with
   |[k',v'],hc,_=>
    have hua:aP n [k',v']=true:=hu.1;simp only [aP,aas,aaa] at hua;exact ⟨(hc.1 _ _ _ h.1).move (tg R n) hua.1,(hc.2.1 _ _ _ h.2.1).move (tg R n) hua.2,fS.ae4 d2 hu.2 h.2.2⟩
   |[],_,hl=>simp [AV.cells] at hl
   |[_],_,hl=>simp [AV.cells] at hl
   |_ :: _ :: _ :: _,_,hl=>simp [AV.cells] at hl
  |_=>simp [AV.cells] at hl
theorem DI {n sz:Nat}:∀ {es:List AV},jF sz es→aP n (aE es)=true
 |[],_=>rfl
 |e :: es,h=>by
  have h1:=h e List.mem_cons_self;have h2:=DI (n:=n) (sz:=sz) (es:=es) fun x hx=>h x (List.mem_cons_of_mem _ hx)
  simp only [aE,hZ,h2,aas];have hk:=h1.2.2;cases e with
  |agg cs=>exact dY n (show aZ cs=true by simpa [AV.closed] using hk)
  |bW cs=>cases h1.2.1
  |_=>simp only [AV.cells,aP,aas]; exact j4 n hk
theorem jW.gok {n:Nat} {go go':GO} {ro:RO} (h:jW R w go' ro) (k:GOk n go' go):jW (R.cut n) w go ro:=by
 cases go with
 |dead=>
  cases ro with
  |none=>trivial
  |bj=>trivial
  |bZ b=>exact h.lt rfl
  |tok f b c=>exact h.lt rfl
  |aY ts=>exact fun j f b c hj=>h.lt ⟨j,f,c,hj⟩
 |row cs el=>
  cases go' with
  |row ig el'=>
   cases ro with
   |bZ b=>
    obtain ⟨vs,h1,h2,h3,h4⟩:=h;obtain ⟨rfl,k⟩:=k;exact ⟨vs,h1,(k.1.rel h2).move (tg R n) k.2,h3,h4⟩
   |none=>exact h.elim
   |bj=>exact h.elim
   |tok _ _ _=>exact h.elim
   |aY _=>exact h.elim
  |_=>exact k.elim
 |tok f sz e=>
  cases go' with
  |tok f' bP e'=>
   obtain ⟨rfl,rfl,rfl⟩:=k;cases ro with
   |bZ b=>exact h.elim
   |none=>exact h.elim
   |bj=>exact h
   |tok _ _ _=>exact h
   |aY _=>exact h.elim
  |_=>exact k.elim
 |defers a=>
  cases go' with
  |defers b=>
   change b=a at k;subst k;cases ro <;> exact h
  |_=>exact k.elim
 |map es=>
  cases go' with
  |map es'=>
   cases ro with
   |bZ b=>
    obtain ⟨aL,clock,h1,h2,h3⟩:=h;rcases k with ⟨rfl,k2⟩|⟨l,rfl,k2,k3⟩
    ·exact ⟨aL,clock,h1,fS.cut k2 h2,h3⟩
    ·exact ⟨aL,clock,h1,fS.ae4 k2 k3 h2,h3⟩
   |none=>exact h.elim
   |bj=>exact h.elim
   |tok _ _ _=>exact h.elim
   |aY _=>exact h.elim
  |_=>exact k.elim
 |aY fs sz e=>
  cases go' with
  |aY ZV bP e'=>
   obtain ⟨rfl,rfl,rfl⟩:=k;cases ro <;> exact h
  |_=>exact k.elim
 |iP rows sz e=>
  cases go' with
  |iP rows' bP e'=>
   obtain ⟨rfl,rfl,rfl⟩:=k;cases ro with
   |none=>exact h.elim
   |bj=>exact h.elim
   |bZ _=>exact h.elim
   |tok _ _ _ _=>exact h.elim
   |aY ts=>
    obtain ⟨h1,h2,h3⟩:=h;refine ⟨h1,h2,fun j row t hj ht=>?_⟩;have h4:=h3 j row t hj ht;cases t with
    |bj=>exact h4
    |full _=>exact h4
    |tok f b c=>
     obtain ⟨h5,mN,cur,vs,k1,k2,k3,k4,k5,k6,k7,k8⟩:=h4;exact ⟨h5,mN,cur,vs,k1,k2,k3,k4,k5,k6.move (tg R n) (DI mN),k7,k8⟩
  |_=>exact k.elim
 |lD jR m left cur t=>
  cases go' with
  |lD mid' m' FR wY t'=>
   obtain ⟨rfl,rfl,rfl,rfl,k,rfl⟩:=k;cases ro with
   |bZ b=>obtain ⟨bm,seen,c0,h1,h2,h3,h4,h5,h6,_⟩:=h; exact ⟨bm,seen,c0,ov.2 ⟨k,h1⟩,h2,h3,h4,h5,h6,fun i hi=>by cases hi⟩
   |none=>exact h.elim
   |bj=>exact h.elim
   |tok _ _ _=>exact h.elim
   |aY _=>exact h.elim
  |_=>exact k.elim
 |ke l p=>
  cases go' with
  |ke l' p'=>
   obtain ⟨rfl,rfl⟩:=k;cases ro <;> exact h
  |_=>exact k.elim
 |da es sz e=>
  cases go' with
  |da es' bP e'=>
   obtain ⟨rfl,rfl,k,kc⟩:=k;cases ro with
   |bZ b=>exact h.elim
   |none=>exact h.elim
   |aY _=>exact h.elim
   |bj=>
    have he:es'=[]:=h;subst he;exact List.eq_nil_of_length_eq_zero k.length.symm
   |tok f b c=>
    obtain ⟨Ve,h0,h1,cur,vs,h2,h3,h4,h5,h6,h7,h8,h9⟩:=h;obtain ⟨k1,k2,k3⟩:=DH k h1 kc;exact ⟨Ve,h0.trans k.length,k1,cur,vs,h2,h3,h4,h5,h6,(k2.rel h7).move (tg R n) k3,h8,h9⟩
  |_=>exact k.elim
 |_=>cases go' <;> exact k.elim
theorem we.ids:∀ {l:List Nat} {ds:List Deferred},we R l ds→∀ id∈l,id < R.obj.length
 |[],[],_,id,hi=>by simp at hi
 |x :: l,d :: ds,h,id,hi=>by
  obtain ⟨⟨b,h1,_⟩,h2⟩:=h;rcases abp.1 hi with rfl|hi
  ·exact bl h1
  ·exact we.ids h2 id hi
 |[],_ :: _,h,_,_=>h.elim
 |_ :: _,[],h,_,_=>h.elim
theorem we.cut {n:Nat}:∀ {l:List Nat} {ds:List Deferred},we R l ds→(∀ id∈l,id < n)→we (R.cut n) l ds
 |[],[],_,_=>trivial
 |x :: l,d :: ds,h,hi=>by
  obtain ⟨⟨b,h1,h3⟩,h2⟩:=h;exact ⟨⟨b,ov.2 ⟨hi x (by simp),h1⟩,h3⟩,we.cut h2 fun id hm=>hi id (by simp [hm])⟩
 |[],_ :: _,h,_=>h.elim
 |_ :: _,[],h,_=>h.elim
theorem Bn {n:Nat} {tmps:Array Value} {ab base:bz} (hT:uf R w β ab tmps):∀ {l:List (Tmp × Nat × Nat)},N4 ab l=true→uf (R.cut n) w β base tmps→uf (R.cut n) w β (uN l base) tmps
 |[],_,h=>h
 |(t,k,o) :: l,hl,h=>fun i hi=>by
  simp only [N4,aaa] at hl;simp only [uN] at hi ⊢;by_cases e:t=i
  ·subst e;rw [aN];have h1:=hl.1;split at h1
   ·rename_i k' o' hk;rw [aaa] at h1;have e1:=aag h1.1;have e2:=aag h1.2;subst e1 e2;obtain ⟨c,q1,q2⟩:=hT t (by rw [hk]; simp);rw [hk] at q2;exact ⟨c,q1,q2⟩
   ·cases h1
  ·rw [a8 e] at hi ⊢;exact Bn hT hl.2 h i hi
theorem dC.aiT {t:dC} {v:t.ps.T} (hs:aU s s') (h0:bi E R w β s a) (h:bi E R' w' β' s' a') (st:Ext R w R' w') (hd:t.dec s s'=some v) :
  bi E (R'.cut s.G.length) w' β' (t.st s v) a'∧Ext R w (R'.cut s.G.length) w'∧∀ k cs,fh (t.st s v).boxes k=some cs→∃ ig,fh s'.boxes k=some ig:=by
 have hlen:=h0.g.len;unfold dC.dec at hd;cases fQ:t.ok s s' with
 |false=>rw [fQ] at hd; cases hd
 |true=>
 rw [fQ] at hd;simp only [cond_true] at hd;unfold dC.ok at fQ;simp only [aaa] at fQ;obtain ⟨⟨⟨⟨⟨k1,k2⟩,k3⟩,k4⟩,k5,k7,k8⟩,k6⟩:=fQ;obtain ⟨pre,Jk⟩:=hs.sl;obtain ⟨preB,YG⟩:=hs.bx;rw [Jk,Jw] at k1;rw [YG,Jw] at k2;have k3:=N5 k3;have k4:=aag k4;split at hd
 ·rename_i la lb lc g1 g2 g3;cases hv:t.ps.PR (od t.g lc) (la++(lb++lc)) with
  |none=>rw [hv] at hd; cases hd
  |some v'=>
  rw [hv] at hd;simp only [Option.bind_some] at hd;cases Pr:fx (t.wi v') t.g s.G s'.G with
  |false=>rw [Pr] at hd; cases hd
  |true=>
  rw [Pr] at hd;cases hd;have lsl:∀ {ts:List Tmp} {l:List AV},DA s'.ab ts=some l→l.length=ts.length:=by
   intro ts
   induction ts with
   |nil=>intro l hl; simp only [DA] at hl; cases hl; rfl
   |cons t ts ih=>
    intro l hl;unfold DA at hl;split at hl
    ·split at hl
     ·rename_i hr;cases hl;simp [ih hr]
     ·cases hl
    ·cases hl
  have lbx:∀ {bx:List (Nat × Nat)} {l:List AV},DB s'.boxes bx=some l→l.length=Hu bx:=by
   intro bx
   induction bx with
   |nil=>intro l hl; simp only [DB] at hl; cases hl; rfl
   |cons x bx ih=>
    obtain ⟨k,m⟩:=x;intro l hl;unfold DB at hl;split at hl
    ·split at hl
     ·rename_i cs _ _ r hr;cases hm:aah cs.length m with
      |false=>rw [hm] at hl; cases hl
      |true=>
       rw [hm] at hl;cases hl;simp only [Hu,List.length_append,ih hr,aag hm]
     ·cases hl
    ·cases hl
  obtain ⟨hw,hex⟩:=t.ps.VD _ hv;have YH:t.wi v=t.ps.pt (od t.g lc) v:=by
   unfold dC.wi;congr 1;funext i;have hl:=hex.ae0.trans (t.ps.uL (od t.g lc) (fun _=>0) v);have Vy:=(hl.drop t.sl.length).drop (Hu t.bx);rw [← lsl g1,aaG,← lbx g2,aaG,lsl g1,lbx g2] at Vy;exact (eI t.g i Vy).symm
  have hu:aP s.G.length (t.wi v)=true:=by
   rw [YH,t.ps.PS _ hv];exact t.ps.Mq _ k5 _
  rw [← YH] at hw hex;have hvs:∃ xa xb xc,t.wi v=xa++(xb++xc)∧ew la xa∧ew lb xb∧ew lc xc∧xa.length=la.length∧xb.length=lb.length∧QX lc xc:=by
   obtain ⟨xa,r,h1,h2,h3,h4⟩:=hw.split;obtain ⟨xb,xc,rfl,h6,h7,h8⟩:=h3.split;rw [h1] at hex;obtain ⟨ya,yr,g1,_,g3,g4⟩:=hex.split;obtain ⟨_,rfl⟩:=abt g1 (by rw [h4,g4]);obtain ⟨yb,yc,k1,_,k3,k4⟩:=g3.split;obtain ⟨_,rfl⟩:=abt k1 (by rw [h8,k4]);exact ⟨xa,xb,xc,h1,h2,h6,h7,h4,h8,k3⟩
  obtain ⟨xa,xb,xc,hx,wa,wb,wc,la1,lb1,exc⟩:=hvs;have hu':aP s.G.length xa=true∧aP s.G.length xb=true∧aP s.G.length xc=true:=by
   rw [hx,hZ,hZ] at hu;simp only [aaa] at hu;exact ⟨hu.1,hu.2.1,hu.2.2⟩
  have e1:(t.wi v).drop t.sl.length=xb++xc:=by rw [hx,← lsl g1,← la1,aaG]
  have e2:(xb++xc).drop (Hu t.bx)=xc:=by rw [← lbx g2,← lb1,aaG]
  have xF:BQ s.G.length t.g xc:=by
   have hf:=((aR.Jz s.G.length _ t.ps v).drop t.sl.length).drop (Hu t.bx) (l:=(t.wi v).drop t.sl.length);rw [e1,e2] at hf;exact iW t.g k7 hf
  have old:∀ {l:List AV} {cs:List Value},aQ R w l cs→aP s.G.length l=true:=fun hr=>hr.under (by omega)
  have mv:=tg R' s.G.length;have hbx:∀ k cs,fh s'.boxes k=some cs→DF R' w' β' k cs:=fun k cs hk=>h.b.box k cs hk
  have bok:∀ k cs,fh (Bl t.bx (xb++xc) s.boxes) k=some cs→DF (R'.cut s.G.length) w' β' k cs∧∃ ig,fh s'.boxes k=some ig:=fun k cs hk=>by
   refine Jy (K:=fun _=>False) hbx g2 wb hu'.2.1 (fun k cs _ h1 h2=>?_) k cs (fun h=>h) hk;refine ⟨by rw [YG]; exact Jv h1 h2 k2,?_⟩;obtain ⟨⟨vs,el,_,h4,_⟩,_⟩:=h0.b.box k cs h2;exact old h4
  have stG:(t.st s v).G=fH (t.wi v) t.g s.G xc:=by simp only [dC.st,e1,e2]
  have stB:(t.st s v).boxes=Bl t.bx (xb++xc) s.boxes:=by simp only [dC.st,e1]
  have stS:(t.st s v).ab=uN t.lps (uM t.sl (xa++(xb++xc)) (DC t.W s.ab)):=by simp only [dC.st,hx]
  have ext:Ext R w (R'.cut s.G.length) w':=⟨st.I,st.cell,fun id ro hi=>by
   obtain ⟨nT,h1,h2⟩:=st.obj id ro hi;exact ⟨nT,ov.2 ⟨by have:=bl hi; omega,h1⟩,h2⟩,st.lp⟩
  refine ⟨⟨⟨?_,fun id go ro h1 h2=>?_,fun i j ri rj b h1 h2=>h.g.inj i j ri rj b (ov.1 h1).2 (ov.1 h2).2,h.g.wf,fun g cs hg=>(h.g.ft g cs hg).move mv (dY _ (E.GV g cs hg)),h.g.lo⟩,?_,?_,?_,?_⟩,ext,fun k cs hk=>?_⟩
  ·rw [stG,eH,k4];have:=h.g.len;have h3:s.G.length≤R'.obj.length:=by
    rcases Nat.lt_or_ge R'.obj.length s.G.length with cE|E6
    ·exfalso;have hx:R'.obj.length < R.obj.length:=by omega
     obtain ⟨nT,h1,_⟩:=st.obj R'.obj.length R.obj[R'.obj.length] (by rw [aV]; exact abr hx);have:=bl h1;omega
    ·exact E6
   simp [aj.cut];omega
  ·rw [stG] at h1;obtain ⟨go',h3,h4⟩:=j5 g3 wc exc ⟨xF,k8⟩ hu'.2.2 Pr id go h1;rcases h4 with h4|⟨QR,h5,h4⟩
   ·exact (h.g.obj id go' ro h3 (ov.1 h2).2).gok h4
   ·have cE:=bl h5;rw [← hlen] at cE;obtain ⟨YF,h6⟩:∃ YF,nth R.obj id=some YF:=⟨R.obj[id],by rw [aV]; exact abr cE⟩;obtain ⟨nT,h7,h8⟩:=ext.obj id YF h6;have:nT=ro:=Option.some.inj (h7.symm.trans h2);subst this;exact jW.lok ext (h0.g.obj id QR YF h5 h6) h8 (h.g.obj id go' nT h3 (ov.1 h2).2) h4
  ·rw [stB];refine ⟨fun k cs hk=>(bok k cs hk).1,fun k k' cs ig hk ly he=>?_⟩;obtain ⟨_,c1,Vq⟩:=bok k cs hk;obtain ⟨_,c2,Jc⟩:=bok k' ig ly;exact h.b.inj k k' c1 c2 Vq Jc he
  ·rw [stS];have hT:DD (R'.cut s.G.length) w' β' (fun _=>False) (uM t.sl (xa++(xb++xc)) (DC t.W s.ab)) a'.tmps:=by
    refine Bm mv h.t g1 (l':=xa) (r:=lb++lc) (r':=xb++xc) (wa.append (wb.append wc)) la1.symm hu'.1 (DE fun i hi hn=>?_);have hi1:inK t.sl t.W i=false:=by
     simp only [inK,Bool.or_eq_false_iff];refine ⟨?_,?_⟩
     ·cases hc:UQ t.sl i with
      |false=>rfl
      |true=>exact absurd (.inr (.inl (Hv.1 hc))) hi
     ·cases hc:UQ t.W i with
      |false=>rfl
      |true=>exact absurd (.inl (Hv.1 hc)) hi
    have hk:=Hx hi1 k1;rw [← Jk] at hk;obtain ⟨c,h1,h2⟩:=h.t i (by rw [hk]; exact hn);rw [hk] at h2;refine ⟨c,h1,?_⟩;obtain ⟨c0,_,h4⟩:=h0.t i hn;revert h2 h4;cases lk s.ab i with
    |none=>exact fun _ _=>trivial
    |lp k off=>exact fun h2 _=>h2
    |v x=>exact fun h2 h4=>Rel.move mv (Rel.under (by omega) h4) h2
   exact Bn h.t k6 (fun i hi=>hT i (fun h=>h) hi)
  ·show a'.tmps.size=s.n;rw [h.n,hs.n]
  ·show we _ s.marks a'.defers;have:=h.d;rw [k3] at this;exact this.cut fun id hid=>by have:=h0.d.ids id hid; omega
  ·rw [stB] at hk;exact (bok k cs hk).2
 ·cases hd
theorem dC.KW {t:dC} {v:t.ps.T} (hs:aU s s') (h0:bi E R w β s a) (h:bi E R' w' β' s' a') (st:Step R w β s.boxes R' w' β' s'.boxes) (hd:t.dec s s'=some v) :
  bi E (R'.cut s.G.length) w' β' (t.st s v) a'∧Step R w β s.boxes (R'.cut s.G.length) w' β' (t.st s v).boxes:=by
 obtain ⟨h1,h2,h3⟩:=dC.aiT hs h0 h st.ext hd;refine ⟨h1,h2,st.os,st.tape,st.output,st.size,st.bD,fun b hb ho=>st.own b hb ?_,st.im⟩;rcases ho with ho|⟨k,cs,hk,rfl⟩
 ·exact .inl (Jx ho)
 ·obtain ⟨c1,Vq⟩:=h3 k cs hk;exact .inr ⟨k,c1,Vq,rfl⟩
end KW
end Go.Am
