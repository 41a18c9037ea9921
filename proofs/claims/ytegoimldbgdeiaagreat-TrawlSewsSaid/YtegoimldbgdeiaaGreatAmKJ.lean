/- The abstract machine: what is asked of bodies; values are brought to a short form. -/
import Derived.Test.YtegoimldbgdeiaaGreatAmKI
set_option linter.all false
open Bool renaming and_eq_true→aal, and_true→aax
open List renaming tail_cons→aaI, drop_left→aaK, cons_append→aaL, mem_cons→aaM, getElem?_eq_getElem→aaN, append_inj→aaO, take_left→aaR, map_cons→aaS, drop_one→aaT
open Nat renaming eq_of_beq_eq_true→aao, beq→aap, lt_of_lt_of_le→aaq, not_lt_zero→aas, blt→aav, le_of_ble_eq_true→aaQ
namespace Go.Am
open Go
def bR (dt:Nat→Option ay):Code→Bool
 |.region id ops true=>match dt id with
  |some p=>HZ ops p
  |none=>false
 |.seq x y=>bR dt x&&bR dt y
 |.cond _ x y=>bR dt x&&bR dt y
 |.block _ c=>bR dt c
 |.loop c=>bR dt c
 |.scope c=>bR dt c
 |.rangeFunc _ _ a b=>bR dt a&&bR dt b
 |_=>true
structure UR extends Env where
 dt:FuncId→Nat→Option ay
 okF:FuncId→Bool
 SM:∀ f fn c,okF f=true→P.funcs[f]?=some fn→fn.body=some c→bR (dt f) c=true
def lj {α:Type} (n:Nat) (K:Nat→α):α:=match n with
 |0=>K 0
 |m+1=>K (Nat.succ m)
def Ay {α:Type} (n:Int) (K:Int→α):α:=match n with
 |.ofNat m=>lj m fun m=>K (.ofNat m)
 |.negSucc m=>lj m fun m=>K (.negSucc m)
def rK {α β:Type}:List β→(List β→α)→α
 |[],K=>K []
 |a :: l,K=>rK l fun l=>K (a :: l)
def DU {α:Type} (v:AV) (K:AV→α):α:=match v with
 |.int k n=>Ay n fun n=>K (.int k n)
 |.bool true=>K (.bool true)
 |.bool false=>K (.bool false)
 |.list k sz es=>rK es fun es=>K (.list k sz es)
 |.str l=>rK l fun l=>K (.str l)
 |.jV id off sz len cap=>lj off fun off=>lj len fun len=>lj cap fun cap=>K (.jV id off sz len cap)
 |.ptr id off=>lj off fun off=>K (.ptr id off)
 |.agg cs=>rK cs fun cs=>K (.agg cs)
 |v=>K v
def DV {α:Type} (l:bo) (K:bo→α):α:=match l with
 |.put d (.v a) :: l=>DU a fun a=>K (.put d (.v a) :: l)
 |.put d (.lp k off) :: l=>lj off fun off=>K (.put d (.lp k off) :: l)
 |l=>K l
def DW {α:Type} (l:cX) (K:cX→α):α:=match l with
 |(d,cs) :: l=>rK cs fun cs=>K ((d,cs) :: l)
 |[]=>K []
def H0 {α:Type} (s:St) (K:St→α):α:=match s with
 |⟨sl,bx,G,m,ro,n⟩=>DV sl fun sl=>DW bx fun bx=>rK G fun G=>K ⟨sl,bx,G,m,ro,n⟩
theorem rL {α:Type} (n:Nat) (K:Nat→α):lj n K=K n:=by cases n <;> rfl
theorem FI {α:Type} (n:Int) (K:Int→α):Ay n K=K n:=by cases n <;> simp [Ay,rL]
theorem sA {α β:Type}:∀ (l:List β) (K:List β→α),rK l K=K l
 |[],_=>rfl
 |a :: l,K=>by simp only [rK]; rw [sA]
theorem H3 {α:Type} (v:AV) (K:AV→α):DU v K=K v:=by
 unfold DU;split <;> simp [rL,FI,sA]
theorem H4 {α:Type} (l:bo) (K:bo→α):DV l K=K l:=by
 unfold DV;split <;> simp [rL,H3]
theorem H5 {α:Type} (l:cX) (K:cX→α):DW l K=K l:=by
 unfold DW;split <;> simp [sA]
theorem K1 {α:Type} (s:St) (K:St→α):H0 s K=K s:=by
 obtain ⟨sl,bx,G,m,ro,n⟩:=s;simp [H0,H4,H5,sA]
def DX:SV→SV→Bool
 |.v a,.v b=>eu a b
 |.lp k o,.lp k' o'=>aap k k'&&aap o o'
 |_,_=>false
def bRe (E:Env) (f:FuncId) (ops:List Oper) (o:Oper) (s:St):Bool:=match EG ops s o with
 |some true=>match o.dst,ao E f s o with
  |some d,some (c,s')=>c&&DX (lk s'.ab d) (lk s.ab d)
  |_,_=>false
 |some false=>true
 |none=>false
section
variable {E:Env} {f:FuncId} {s:St}
theorem CM {a b:SV} (h:DX a b=true):a=b:=by
 unfold DX at h;split at h
 ·rw [j6 h]
 ·simp only [aal,Nat.beq_eq] at h; rw [h.1,h.2]
 ·cases h
theorem CN {ops:List Oper} {o:Oper} (h:bRe E f ops o s=true):HQ E f ops o s:=by
 unfold bRe at h;unfold HQ;split at h
 ·rename_i hg;rw [hg];simp only;split at h
  ·rename_i d c s' hd hs;rw [aal] at h;obtain ⟨rfl,h⟩:=h;rw [hd,hs];exact ⟨rfl,CM h⟩
  ·cases h
 ·rename_i hg;rw [hg];trivial
 ·cases h
end
end Go.Am
namespace Go.Am
open Go
mutual
def AV.under (n:Nat):AV→Bool
 |.agg cs=>aO n cs
 |.bP cs=>aO n cs
 |.ep cs=>aO n cs
 |.list (.own id) _ _=>aav id n
 |.list (.aX id _) _ _=>aav id n
 |.fn _ x y=>aO n x&&aO n y
 |.iface _ v=>v.under n
 |.ptr id _=>aav id n
 |.jV id _ _ _ _=>aav id n
 |.de id _ _ _ _=>aav id n
 |.gp id _ _ _ _ _=>aav id n
 |.eX id _ _ _=>aav id n
 |.rp id _ _ _ _ _ _=>aav id n
 |.map id=>aav id n
 |.yield id=>aav id n
 |_=>true
def aO (n:Nat):List AV→Bool
 |[]=>true
 |a :: l=>a.under n&&aO n l
end
mutual
theorem iI (n:Nat):∀ {a:AV},a.closed=true→a.under n=true:=fun {a} h=>by
 cases a with
 |agg cs=>simp only [AV.closed,AV.under] at *; exact df n h
 |bP cs=>simp only [AV.closed,AV.under] at *; exact df n h
 |ep cs=>simp only [AV.closed,AV.under] at *; exact df n h
 |list k sz es=>cases k <;> simp_all [AV.closed,AV.under,LK.closed]
 |fn f x y=>
  simp only [AV.closed,AV.under,aal] at *;exact ⟨df n h.1,df n h.2⟩
 |iface t v=>simp only [AV.closed,AV.under] at *; exact iI n h
 |_=>simp_all [AV.closed,AV.under]
theorem df (n:Nat):∀ {l:List AV},aF l=true→aO n l=true
 |[],_=>rfl
 |a :: l,h=>by
  simp only [aF,aO,aal] at *;exact ⟨iI n h.1,df n h.2⟩
end
theorem og {a b:Nat} (h:aav a b=true):a < b:=aaQ h
mutual
theorem oN:∀ {a:AV},a.under 0=true→a.closed=true:=fun {a} h=>by
 cases a with
 |agg cs=>simp only [AV.closed,AV.under] at *; exact fV h
 |bP cs=>simp only [AV.closed,AV.under] at *; exact fV h
 |ep cs=>simp only [AV.closed,AV.under] at *; exact fV h
 |list k sz es=>cases k <;> first | rfl | (simp [AV.under] at h)
 |fn f x y=>
  simp only [AV.closed,AV.under,aal] at *;exact ⟨fV h.1,fV h.2⟩
 |iface t v=>simp only [AV.closed,AV.under] at *; exact oN h
 |ptr id off=>simp only [AV.under] at h; exact absurd (og h) (aas _)
 |jV id off sz len cap=>simp only [AV.under] at h; exact absurd (og h) (aas _)
 |de id f off sz len=>simp only [AV.under] at h; exact absurd (og h) (aas _)
 |gp id f i off sz t=>simp only [AV.under] at h; exact absurd (og h) (aas _)
 |eX id j sz len=>simp only [AV.under] at h; exact absurd (og h) (aas _)
 |rp id j f i off sz t=>simp only [AV.under] at h; exact absurd (og h) (aas _)
 |map id=>simp only [AV.under] at h; exact absurd (og h) (aas _)
 |yield id=>simp only [AV.under] at h; exact absurd (og h) (aas _)
 |_=>rfl
theorem fV:∀ {l:List AV},aO 0 l=true→aF l=true
 |[],_=>rfl
 |a :: l,h=>by
  simp only [aO,aF,aal] at *;exact ⟨oN h.1,fV h.2⟩
end
section move
variable {R R2:ai} {w:World} {n:Nat}
structure Mv (R R2:ai) (n:Nat):Prop where
 I:∀ b o,R.I b o→R2.I b o
 obj:∀ id ro,id < n→nth R.obj id=some ro→nth R2.obj id=some ro
theorem jq {a b:Nat} (h:aav a b=true):a < b:=aaQ h
theorem kb {a b:Nat} (h:a < b):aav a b=true:=Nat.ble_eq_true_of_le h
theorem Ds.move (m:Mv R R2 n) {k:LK} {b o len cap:Nat} (h:Ds R k b o len cap) (hk:∀ id,(k=.own id∨∃ j,k=.aX id j)→id < n):Ds R2 k b o len cap:=by
 cases k with
 |nil=>exact h
 |full=>exact h
 |gQ=>trivial
 |own id=>obtain ⟨ro,h1,h2⟩:=h; exact ⟨ro,m.obj id ro (hk id (.inl rfl)) h1,h2⟩
 |aX id j=>obtain ⟨ro,h1,h2⟩:=h; exact ⟨ro,m.obj id ro (hk id (.inr ⟨j,rfl⟩)) h1,h2⟩
mutual
theorem Rel.move (m:Mv R R2 n):∀ {a:AV} {c:Value},a.under n=true→Rel R w a c→Rel R2 w a c
 |_,_,_,.bool b=>.bool b
 |_,_,_,.int k i=>.int k i
 |_,_,_,.str l=>.str l
 |_,_,hb,.agg h h1=>.agg (h.move m (by simpa [AV.under] using hb)) h1
 |_,_,hb,.bP h=>.bP (h.move m (by simpa [AV.under] using hb))
 |_,_,_,.oW=>.oW
 |_,_,hb,.ptr h=>.ptr (m.obj _ _ (jq (by simpa [AV.under] using hb)) h)
 |_,_,hb,.ep h=>.ep (h.move m (by simpa [AV.under] using hb))
 |_,_,_,.jZ=>.jZ
 |_,_,_,.jN=>.jN
 |_,_,_,.oG=>.oG
 |_,_,hb,.me h ho=>.me (m.obj _ _ (jq (by simpa [AV.under] using hb)) h) ho
 |_,_,hb,.mJ h ho=>.mJ (m.obj _ _ (jq (by simpa [AV.under] using hb)) h) ho
 |.list k sz es,_,hb,.list h hl hc hk=>.list (h.move m) hl hc (hk.move m fun id e=>by rcases e with e | ⟨j,e⟩ <;> subst e <;> exact jq (by simpa [AV.under] using hb))
 |_,_,hb,.jV h hc=>.jV (m.obj _ _ (jq (by simpa [AV.under] using hb)) h) hc
 |_,_,hb,.jO h ho=>.jO (m.obj _ _ (jq (by simpa [AV.under] using hb)) h) ho
 |_,_,hb,.de h ho hc=>.de (m.obj _ _ (jq (by simpa [AV.under] using hb)) h) ho hc
 |_,_,hb,.gp h ho=>.gp (m.obj _ _ (jq (by simpa [AV.under] using hb)) h) ho
 |_,_,hb,.tF h ho=>.tF (m.obj _ _ (jq (by simpa [AV.under] using hb)) h) ho
 |_,_,hb,.eX h ho hc=>.eX (m.obj _ _ (jq (by simpa [AV.under] using hb)) h) ho hc
 |_,_,hb,.rp h ho=>.rp (m.obj _ _ (jq (by simpa [AV.under] using hb)) h) ho
 |_,_,_,.mb=>.mb
 |_,_,hb,.map h=>.map (m.obj _ _ (jq (by simpa [AV.under] using hb)) h)
 |_,_,_,.eV=>.eV
 |_,_,hb,.fn h h'=>.fn (h.move m (by simp only [AV.under,aal] at hb; exact hb.1)) (h'.move m (by simp only [AV.under,aal] at hb; exact hb.2))
 |_,_,hb,.yield h=>.yield (m.obj _ _ (jq (by simpa [AV.under] using hb)) h)
 |_,_,_,.sM=>.sM
 |_,_,hb,.iface h=>.iface (h.move m (by simpa [AV.under] using hb))
theorem aL.move (m:Mv R R2 n):∀ {l:List AV} {cs:List Value},aL R w l cs→aO n l=true→aL R2 w l cs
 |_,_,.nil,_=>.nil
 |_,_,.cons h t,hb=>by
  simp only [aO,aal] at hb;exact .cons (h.move m hb.1) (t.move m hb.2)
theorem iW.move (m:Mv R R2 n):∀ {b o sz:Nat} {l:List AV},iW R w b o sz l→iW R2 w b o sz l
 |_,_,_,_,.nil=>.nil
 |_,_,_,_,@iW.cons _ _ _ _ _ e _ hl ht hk h t=>.cons hl ht hk (h.move m (by
   cases e with
   |agg cs=>exact df n (show aF cs=true by simpa [AV.closed] using hk)
   |bP cs=>simp [AV.aR] at ht
   |_=>simp only [AV.cells,aO,aax]; exact iI n hk)) (t.move m)
theorem fN.move (m:Mv R R2 n):∀ {b o:Nat} {l:List AV},fN R w b o l→aO n l=true→fN R2 w b o l
 |_,_,_,.nil,_=>.nil
 |_,_,_,.cons hc h1 hi h t,hb=>by
  simp only [aO,aal] at hb;exact .cons hc h1 (m.I _ _ hi) (h.move m hb.1) (t.move m hb.2)
end
theorem oH.move {E:Env} (m:Mv R R2 n) {g:Nat} {cs:List AV} (h:oH E R w g cs) (hu:aO n cs=true):oH E R2 w g cs:=
 ⟨h.1.move m hu,fun hx=>⟨m.I _ _ (h.2 hx).1,(h.2 hx).2⟩⟩
mutual
theorem Rel.under (hn:R.obj.length≤n):∀ {a:AV} {c:Value},Rel R w a c→a.under n=true
 |_,_,.bool _ | _,_,.int _ _ | _,_,.str _ | _,_,.oW | _,_,.jZ | _,_,.jN | _,_,.oG | _,_,.mb | _,_,.eV | _,_,.sM=>by simp [AV.under]
 |_,_,.agg h _=>by simp only [AV.under]; exact h.under hn
 |_,_,.bP h=>by simp only [AV.under]; exact h.under hn
 |_,_,.ptr h=>by simp only [AV.under]; exact kb (aaq (aU h) hn)
 |_,_,.ep h=>by simp only [AV.under]; exact h.under hn
 |_,_,.me h _=>by simp only [AV.under]; exact kb (aaq (aU h) hn)
 |_,_,.mJ h _=>by simp only [AV.under]; exact kb (aaq (aU h) hn)
 |_,_,@Rel.list _ _ k _ _ _ _ _ _ _ _ _ hk=>by
  cases k with
  |own id=>obtain ⟨ro,h1,_⟩:=hk; simp only [AV.under]; exact kb (aaq (aU h1) hn)
  |aX id j=>obtain ⟨ro,h1,_⟩:=hk; simp only [AV.under]; exact kb (aaq (aU h1) hn)
  |_=>simp [AV.under]
 |_,_,.jV h _=>by simp only [AV.under]; exact kb (aaq (aU h) hn)
 |_,_,.jO h _=>by simp only [AV.under]; exact kb (aaq (aU h) hn)
 |_,_,.de h _ _=>by simp only [AV.under]; exact kb (aaq (aU h) hn)
 |_,_,.gp h _=>by simp only [AV.under]; exact kb (aaq (aU h) hn)
 |_,_,.tF h _=>by simp only [AV.under]; exact kb (aaq (aU h) hn)
 |_,_,.eX h _ _=>by simp only [AV.under]; exact kb (aaq (aU h) hn)
 |_,_,.rp h _=>by simp only [AV.under]; exact kb (aaq (aU h) hn)
 |_,_,.map h=>by simp only [AV.under]; exact kb (aaq (aU h) hn)
 |_,_,.fn h h'=>by simp only [AV.under,aal]; exact ⟨h.under hn,h'.under hn⟩
 |_,_,.yield h=>by simp only [AV.under]; exact kb (aaq (aU h) hn)
 |_,_,.iface h=>by simp only [AV.under]; exact h.under hn
theorem aL.under (hn:R.obj.length≤n):∀ {l:List AV} {cs:List Value},aL R w l cs→aO n l=true
 |_,_,.nil=>rfl
 |_,_,.cons h t=>by simp only [aO,aal]; exact ⟨h.under hn,t.under hn⟩
theorem fN.under (hn:R.obj.length≤n):∀ {b o:Nat} {l:List AV},fN R w b o l→aO n l=true
 |_,_,_,.nil=>rfl
 |_,_,_,.cons _ _ _ h t=>by simp only [aO,aal]; exact ⟨h.under hn,t.under hn⟩
end
end move
end Go.Am
namespace Go.Am
open Go
mutual
def aP.under (n:Nat):aP→Bool
 |.agg ps=>ps.under n
 |.bP ps=>ps.under n
 |.own id _ _=>aav id n
 |.aX id _ _=>aav id n
 |.eX id _=>aav id n
 |.oD v=>v.under n
 |.two u v=>u.under n&&v.under n
 |_=>true
def aQ.under (n:Nat):aQ→Bool
 |.nil=>true
 |.cons p ps=>p.under n&&ps.under n
end
mutual
theorem aP.eg {n:Nat}:∀ (p:aP) (x:p.T),p.under n=true→(p.enc x).under n=true
 |.int k,x,_=>by simp [aP.enc,AV.under]
 |.bool,x,_=>by simp [aP.enc,AV.under]
 |.str,x,_=>by simp [aP.enc,AV.under]
 |.agg ps,x,h=>by
  simp only [aP.enc,AV.under];exact ps.eg x h
 |.bP ps,x,h=>by
  simp only [aP.enc,AV.under];exact ps.eg x h
 |.list sz p,x,_=>by simp [aP.enc,AV.under]
 |.own id sz p,x,h=>by
  simp only [aP.enc,AV.under];exact h
 |.aX id sz p,x,h=>by
  simp only [aP.enc,AV.under];exact h
 |.eX id sz,(x:Nat × Nat),h=>by
  simp only [aP.enc,AV.under];exact h
 |.oD v,x,h=>by
  simp only [aP.enc];exact h
 |.two u v,(x:Bool),h=>by
  simp only [aP.under,aal] at h;change AV.under n (bif x then v else u)=true;cases x
  ·exact h.1
  ·exact h.2
theorem aQ.eg {n:Nat}:∀ (ps:aQ) (x:ps.T),ps.under n=true→aO n (ps.enc x)=true
 |.nil,x,_=>rfl
 |.cons p .nil,x,h=>by
  simp only [aQ.under,aax] at h;simp only [aQ.enc,aO,aax];exact p.eg _ h
 |.cons p (.cons q ps),x,h=>by
  rw [aQ.under,aal] at h;simp only [aQ.enc,aO,aal];exact ⟨p.eg _ h.1,(aQ.cons q ps).eg _ h.2⟩
end
mutual
def AV.exact:AV→Bool
 |.bool _=>true
 |.int _ _=>true
 |.str _=>true
 |.agg cs=>fw cs
 |_=>false
def fw:List AV→Bool
 |[]=>true
 |a :: l=>a.exact&&fw l
end
mutual
theorem aP.ll:∀ (p:aP) {a:AV},p.fits a=true→a.exact=true→p.enc (p.bw a)=a
 |.int k,a,h,e=>by
  cases a with
  |int k' n=>have hk:TM k k'=true:=h; rw [G3 hk]; rfl
  |_=>cases h
 |.bool,a,h,e=>by
  cases a with
  |bool b=>rfl
  |_=>cases h
 |.str,a,h,e=>by
  cases a with
  |str b=>rfl
  |_=>cases h
 |.agg ps,a,h,e=>by
  cases a with
  |agg cs=>
   have e':fw cs=true:=by simpa [AV.exact] using e
   show AV.agg (ps.enc (ps.bw cs))=_;rw [ps.ll (show ps.fits cs=true from h) e']
  |_=>cases h
 |.bP ps,a,h,e=>by cases a <;> first | (cases h; done) | simp [AV.exact] at e
 |.list sz p,a,h,e=>by cases a <;> first | (cases h; done) | simp [AV.exact] at e
 |.own id sz p,a,h,e=>by cases a <;> first | (cases h; done) | simp [AV.exact] at e
 |.aX id sz p,a,h,e=>by cases a <;> first | (cases h; done) | simp [AV.exact] at e
 |.eX id sz,a,h,e=>by cases a <;> first | (cases h; done) | simp [AV.exact] at e
 |.oD u,a,h,e=>(j6 (show eu a u=true from h)).symm
 |.two u v,a,h,_=>ux h
theorem aQ.ll:∀ (ps:aQ) {l:List AV},ps.fits l=true→fw l=true→ps.enc (ps.bw l)=l
 |.nil,l,h,_=>by
  cases l with
  |nil=>rfl
  |cons _ _=>cases h
 |.cons p .nil,l,h,e=>by
  cases l with
  |nil=>cases h
  |cons a l=>
   have h':(p.fits a&&l.isEmpty)=true:=h;simp only [aal,List.isEmpty_iff] at h';obtain ⟨h1,rfl⟩:=h';simp only [fw,aax] at e;show [p.enc (p.bw a)]=_;rw [p.ll h1 e]
 |.cons p (.cons q ps),l,h,e=>by
  cases l with
  |nil=>cases h
  |cons a l=>
   have h':(p.fits a&&(aQ.cons q ps).fits l)=true:=h;rw [aal] at h';simp only [fw,aal] at e;show p.enc (p.bw a) :: (aQ.cons q ps).enc ((aQ.cons q ps).bw l)=_;rw [p.ll h'.1 e.1,(aQ.cons q ps).ll h'.2 e.2]
end
mutual
theorem qj:∀ {a:AV},a.exact=true→a.closed=true:=fun {a} h=>by
 cases a with
 |agg cs=>simp only [AV.exact,AV.closed] at *; exact s8 h
 |_=>simp_all [AV.exact,AV.closed]
theorem s8:∀ {l:List AV},fw l=true→aF l=true
 |[],_=>rfl
 |a :: l,h=>by
  simp only [fw,aF,aal] at *;exact ⟨qj h.1,s8 h.2⟩
end
def af:List (AV × AV)→List AV
 |[]=>[]
 |(k,v) :: l=>.agg [k,v] :: af l
def YQ:AV→AV × AV
 |.agg [k,v]=>(k,v)
 |_=>(hZ,hZ)
def aG:List AV→List (AV × AV)
 |[]=>[]
 |a :: l=>YQ a :: aG l
def AV.entries:AV→List (AV × AV)
 |.list _ _ es=>aG es
 |_=>[]
theorem qD:∀ l:List (AV × AV),aG (af l)=l
 |[]=>rfl
 |(k,v) :: l=>by simp only [af,aG,qD l]; rfl
def AV.H6:AV→Bool
 |.list .gQ _ es=>fw es
 |_=>false
def lL:List AV→List AV→Prop
 |[],[]=>True
 |a :: l,b :: r=>iX a b∧lL l r
 |_,_=>False
theorem lL.refl:∀ l:List AV,lL l l
 |[]=>trivial
 |a :: l=>⟨iX.refl a,lL.refl l⟩
theorem lL.length:∀ {l r:List AV},lL l r→l.length=r.length
 |[],[],_=>rfl
 |_ :: _,_ :: _,h=>by simp [lL.length h.2]
 |[],_ :: _,h=>h.elim
 |_ :: _,[],h=>h.elim
theorem lL.of {α:Type} {f:AV→Bool} {d:AV→α} {g:α→AV} (IZ:∀ v,f v=true→iX v (g (d v))):∀ {es:List AV},allFit f es=true→lL es ((es.map d).map g)
 |[],_=>trivial
 |e :: es,h=>by
  simp only [allFit,aal] at h;exact ⟨IZ e h.1,lL.of IZ h.2⟩
theorem aP.FJ (p:aP) {a:AV} (h:p.fits a=true):lL a.cY (p.enc (p.bw a)).cY:=by
 cases p with
 |list sz p=>
  cases a with
  |list k bh es=>
   have hb:((aap sz bh || es.isEmpty)&&allFit p.fits es)=true:=h;rw [aal] at hb;exact lL.of (fun v hv=>p.dE hv) hb.2
  |_=>cases h
 |own id sz p=>
  cases a with
  |list k bh es=>
   cases k with
   |own iU=>
    have hb:((aap id iU&&aap sz bh)&&allFit p.fits es)=true:=h;rw [aal] at hb;exact lL.of (fun v hv=>p.dE hv) hb.2
   |_=>cases h
  |_=>cases h
 |aX id sz p=>
  cases a with
  |list k bh es=>
   cases k with
   |aX iU j=>
    have hb:((aap id iU&&aap sz bh)&&allFit p.fits es)=true:=h;rw [aal] at hb;exact lL.of (fun v hv=>p.dE hv) hb.2
   |_=>cases h
  |_=>cases h
 |oD u=>rw [show a=u from j6 (show eu a u=true from h)]; exact lL.refl _
 |two u v=>rw [ux h]; exact lL.refl _
 |_=>cases a <;> first | (cases h; done) | exact lL.refl _
def Az:List AV→Bool
 |[]=>true
 |a :: l=>a.H6&&Az l
def AV.Na:AV→Bool
 |.list .gQ _ es=>Az es
 |_=>false
def LY:List AV→List AV→Prop
 |[],[]=>True
 |a :: l,b :: r=>(a.exact=true→b=a)∧((a.H6=true→b.cY=a.cY)∧(a.Na=true→b.cY.map AV.cY=a.cY.map AV.cY))∧lL a.cY b.cY∧LY l r
 |_,_=>False
theorem AA {f:AV→Bool} {α:Type} {d:AV→α} {g:α→AV} (IZ:∀ a,f a=true→a.exact=true→g (d a)=a):∀ {es:List AV},allFit f es=true→fw es=true→(es.map d).map g=es
 |[],_,_=>rfl
 |a :: l,h,e=>by
  simp only [allFit,fw,aal] at *;simp only [aaS,IZ a h.1 e.1,AA IZ h.2 e.2]
theorem aP.AB (p:aP) {a:AV} (h:p.fits a=true) (e:a.H6=true):(p.enc (p.bw a)).cY=a.cY:=by
 cases a with
 |list k bh es=>
  cases k with
  |gQ=>
   have e':fw es=true:=e;cases p with
   |list sz p=>
    have hb:((aap sz bh || es.isEmpty)&&allFit p.fits es)=true:=h;rw [aal] at hb;show (es.map p.bw).map p.enc=_;rw [AA (fun a=>p.ll) hb.2 e'];rfl
   |oD u=>rw [show AV.list .gQ bh es=u from j6 (show eu _ u=true from h)]; rfl
   |two u v=>rw [ux h]
   |_=>cases h
  |_=>cases e
 |_=>cases e
theorem AD {p:aP}:∀ {es:List AV},allFit p.fits es=true→Az es=true→((es.map p.bw).map p.enc).map AV.cY=es.map AV.cY
 |[],_,_=>rfl
 |a :: l,h,e=>by
  simp only [allFit,Az,aal] at *;simp only [aaS,p.AB h.1 e.1];rw [AD h.2 e.2]
theorem aP.FK (p:aP) {a:AV} (h:p.fits a=true) (e:a.Na=true):(p.enc (p.bw a)).cY.map AV.cY=a.cY.map AV.cY:=by
 cases a with
 |list k bh es=>
  cases k with
  |gQ=>
   have e':Az es=true:=e;cases p with
   |list sz p=>
    have hb:((aap sz bh || es.isEmpty)&&allFit p.fits es)=true:=h;rw [aal] at hb;show ((es.map p.bw).map p.enc).map AV.cY=_;rw [AD hb.2 e'];rfl
   |oD u=>rw [show AV.list .gQ bh es=u from j6 (show eu _ u=true from h)]; rfl
   |two u v=>rw [ux h]
   |_=>cases h
  |_=>cases e
 |_=>cases e
theorem aQ.Nb:∀ (ps:aQ) {l:List AV},ps.fits l=true→LY l (ps.enc (ps.bw l))
 |.nil,l,h=>by
  cases l with
  |nil=>trivial
  |cons _ _=>cases h
 |.cons p .nil,l,h=>by
  cases l with
  |nil=>cases h
  |cons a l=>
   have h':(p.fits a&&l.isEmpty)=true:=h;simp only [aal,List.isEmpty_iff] at h';obtain ⟨h1,rfl⟩:=h';exact ⟨p.ll h1,⟨p.AB h1,p.FK h1⟩,p.FJ h1,trivial⟩
 |.cons p (.cons q ps),l,h=>by
  cases l with
  |nil=>cases h
  |cons a l=>
   have h':(p.fits a&&(aQ.cons q ps).fits l)=true:=h;rw [aal] at h';exact ⟨p.ll h'.1,⟨p.AB h'.1,p.FK h'.1⟩,p.FJ h'.1,(aQ.cons q ps).Nb h'.2⟩
theorem LY.split:∀ {l r l':List AV},LY (l++r) l'→∃ a b,l'=a++b∧LY l a∧LY r b∧a.length=l.length
 |[],r,l',h=>⟨[],l',rfl,trivial,h,rfl⟩
 |x :: l,r,[],h=>h.elim
 |x :: l,r,y :: l',h=>by
  obtain ⟨a,b,rfl,h2,h3,h4⟩:=LY.split (l:=l) (r:=r) (l':=l') h.2.2.2;exact ⟨y :: a,b,rfl,⟨h.1,h.2.1,h.2.2.1,h2⟩,h3,by simp [h4]⟩
mutual
def AV.AE (L:Nat→Nat):AV→AV
 |.de id 0 0 sz 0=>.de id (L id) 0 sz (L id)
 |.fn f x y=>.fn f (Nc L x) (Nc L y)
 |v=>v
def Nc (L:Nat→Nat):List AV→List AV
 |[]=>[]
 |a :: l=>a.AE L :: Nc L l
end
mutual
def aP.inst (L:Nat→Nat):aP→aP
 |.agg ps=>.agg (ps.inst L)
 |.bP ps=>.bP (ps.inst L)
 |.oD v=>.oD (v.AE L)
 |p=>p
def aQ.inst (L:Nat→Nat):aQ→aQ
 |.nil=>.nil
 |.cons p ps=>.cons (p.inst L) (ps.inst L)
end
mutual
def aP.mW (L:Nat→Nat):(p:aP)→p.T→AV
 |.int k,(n:Int)=>.int k n
 |.bool,(b:Bool)=>.bool b
 |.str,(s:List UInt8)=>.str s
 |.agg ps,x=>.agg (ps.mW L x)
 |.bP ps,x=>.bP (ps.mW L x)
 |.list sz p,(xs:List p.T)=>.list .gQ sz (xs.map p.enc)
 |.own id sz p,(xs:List p.T)=>.list (.own id) sz (xs.map p.enc)
 |.aX id sz p,(x:Nat × List p.T)=>.list (.aX id x.1) sz (x.2.map p.enc)
 |.eX id sz,(x:Nat × Nat)=>.eX id x.1 sz x.2
 |.oD v,_=>v.AE L
 |.two u v,(b:Bool)=>bif b then v else u
def aQ.mW (L:Nat→Nat):(ps:aQ)→ps.T→List AV
 |.nil,_=>[]
 |.cons p .nil,x=>[p.mW L x]
 |.cons p (.cons q ps),x=>p.mW L x.1 :: (aQ.cons q ps).mW L x.2
end
mutual
def aP.pw (L:Nat→Nat):aP→AV→Bool
 |.int k,v=>aP.fits (.int k) v
 |.bool,v=>aP.fits .bool v
 |.str,v=>aP.fits .str v
 |.agg ps,v=>match v with
  |.agg cs=>ps.pw L cs
  |_=>false
 |.bP ps,v=>match v with
  |.bP cs=>ps.pw L cs
  |_=>false
 |.list sz p,v=>aP.fits (.list sz p) v
 |.own id sz p,v=>aP.fits (.own id sz p) v
 |.aX id sz p,v=>aP.fits (.aX id sz p) v
 |.eX id sz,v=>aP.fits (.eX id sz) v
 |.oD v,u=>eu u (v.AE L)
 |.two u v,a=>aP.fits (.two u v) a
def aQ.pw (L:Nat→Nat):aQ→List AV→Bool
 |.nil,l=>l.isEmpty
 |.cons p ps,l=>match l with
  |a :: l=>p.pw L a&&ps.pw L l
  |[]=>false
end
def aQ.K2 (L:Nat→Nat) (ps:aQ) (l:List AV):Option ps.T:=bif ps.pw L l then some (ps.bw l) else none
mutual
theorem aP.kH (L:Nat→Nat):∀ (p:aP) (a:AV),p.pw L a=(p.inst L).fits a
 |.int _,_=>rfl
 |.bool,_=>rfl
 |.str,_=>rfl
 |.agg ps,a=>by
  simp only [aP.pw,aP.inst,aP.fits];cases a <;> first | rfl | exact ps.kH L _
 |.bP ps,a=>by
  simp only [aP.pw,aP.inst,aP.fits];cases a <;> first | rfl | exact ps.kH L _
 |.list _ _,_=>rfl
 |.own _ _ _,_=>rfl
 |.aX _ _ _,_=>rfl
 |.eX _ _,_=>rfl
 |.oD _,_=>rfl
 |.two _ _,_=>rfl
theorem aQ.kH (L:Nat→Nat):∀ (ps:aQ) (l:List AV),ps.pw L l=(ps.inst L).fits l
 |.nil,_=>rfl
 |.cons p ps,l=>by
  cases l with
  |nil=>rfl
  |cons a l=>
   simp only [aQ.pw,aQ.inst,aQ.fits];rw [p.kH L a,ps.kH L l]
end
mutual
theorem aP.jC (L:Nat→Nat):∀ (p:aP) (a:AV),p.mW L (p.bw a)=(p.inst L).enc ((p.inst L).bw a)
 |.int _,_=>rfl
 |.bool,_=>rfl
 |.str,_=>rfl
 |.agg ps,a=>congrArg AV.agg (ps.jC L a.lC)
 |.bP ps,a=>congrArg AV.bP (ps.jC L a.TN)
 |.list _ _,_=>rfl
 |.own _ _ _,_=>rfl
 |.aX _ _ _,_=>rfl
 |.eX _ _,_=>rfl
 |.oD _,_=>rfl
 |.two _ _,_=>rfl
theorem aQ.jC (L:Nat→Nat):∀ (ps:aQ) (l:List AV),ps.mW L (ps.bw l)=(ps.inst L).enc ((ps.inst L).bw l)
 |.nil,_=>rfl
 |.cons p .nil,l=>by
  show [p.mW L (p.bw (fa l))]=[(p.inst L).enc ((p.inst L).bw (fa l))];rw [p.jC L]
 |.cons p (.cons q ps),l=>by
  show p.mW L (p.bw (fa l)) :: (aQ.cons q ps).mW L ((aQ.cons q ps).bw (L9 l))=(p.inst L).enc ((p.inst L).bw (fa l)) :: ((aQ.cons q ps).inst L).enc (((aQ.cons q ps).inst L).bw (L9 l));rw [p.jC L,(aQ.cons q ps).jC L]
end
mutual
theorem AV.AF {n:Nat} (L:Nat→Nat):∀ {a:AV},a.under n=true→(a.AE L).under n=true:=fun {a} h=>by
 cases a with
 |de id f off sz len=>
  unfold AV.AE;split
  ·rename_i h1;cases h1;exact h
  ·rename_i h1;cases h1
  ·exact h
 |fn f x y=>
  simp only [AV.AE,AV.under,aal] at *;exact ⟨tU L h.1,tU L h.2⟩
 |_=>exact h
theorem tU {n:Nat} (L:Nat→Nat):∀ {l:List AV},aO n l=true→aO n (Nc L l)=true
 |[],_=>rfl
 |a :: l,h=>by
  simp only [Nc,aO,aal] at *;exact ⟨AV.AF L h.1,tU L h.2⟩
end
mutual
theorem aP.kI {n:Nat} (L:Nat→Nat):∀ {p:aP},p.under n=true→(p.inst L).under n=true
 |.int _,_=>rfl
 |.bool,_=>rfl
 |.str,_=>rfl
 |.agg ps,h=>aQ.kI L (ps:=ps) h
 |.bP ps,h=>aQ.kI L (ps:=ps) h
 |.list _ _,_=>rfl
 |.own _ _ _,h=>h
 |.aX _ _ _,h=>h
 |.eX _ _,h=>h
 |.oD v,h=>AV.AF L (a:=v) h
 |.two _ _,h=>h
theorem aQ.kI {n:Nat} (L:Nat→Nat):∀ {ps:aQ},ps.under n=true→(ps.inst L).under n=true
 |.nil,_=>rfl
 |.cons p ps,h=>by
  simp only [aQ.inst,aQ.under,aal] at *;exact ⟨aP.kI L h.1,aQ.kI L h.2⟩
end
theorem AV.CO (L:Nat→Nat) (v:AV):(v.AE L).cY=v.cY:=by
 unfold AV.AE;split <;> rfl
def qM:List AV→List AV→Prop
 |[],[]=>True
 |a :: l,b :: r=>a.cY.length=b.cY.length∧qM l r
 |_,_=>False
theorem aP.rM (L L':Nat→Nat) (p:aP) (x:p.T):(p.mW L x).cY=(p.mW L' x).cY:=by
 cases p with
 |oD v=>
  show (v.AE L).cY=(v.AE L').cY;rw [AV.CO,AV.CO]
 |eX _ _=>rfl
 |_=>rfl
theorem aQ.rM (L L':Nat→Nat):∀ (ps:aQ) (x:ps.T),qM (ps.mW L x) (ps.mW L' x)
 |.nil,_=>trivial
 |.cons p .nil,x=>⟨congrArg List.length (p.rM L L' x),trivial⟩
 |.cons p (.cons q ps),x=>⟨congrArg List.length (p.rM L L' x.1),(aQ.cons q ps).rM L L' x.2⟩
theorem LY.YR:∀ {l r:List AV},LY l r→qM l r
 |[],[],_=>trivial
 |_ :: _,_ :: _,h=>⟨h.2.2.1.length,h.2.2.2.YR⟩
 |[],_ :: _,h=>h.elim
 |_ :: _,[],h=>h.elim
theorem qM.trans:∀ {l r u:List AV},qM l r→qM r u→qM l u
 |[],[],[],_,_=>trivial
 |_ :: _,_ :: _,_ :: _,h,k=>⟨h.1.trans k.1,h.2.trans k.2⟩
 |[],_ :: _,_,h,_=>h.elim
 |_ :: _,[],_,h,_=>h.elim
 |[],[],_ :: _,_,k=>k.elim
 |_ :: _,_ :: _,[],_,k=>k.elim
theorem qM.drop:∀ {l r:List AV} (n:Nat),qM l r→qM (l.drop n) (r.drop n)
 |l,r,0,h=>by simpa using h
 |[],[],_+1,_=>by simp [qM]
 |_ :: _,_ :: _,n+1,h=>by simpa using qM.drop n h.2
 |[],_ :: _,_+1,h=>h.elim
 |_ :: _,[],_+1,h=>h.elim
theorem aQ.P1 (L:Nat→Nat) (ps:aQ) {l:List AV} {x:ps.T} (h:ps.K2 L l=some x):dv l (ps.mW L x)∧LY l (ps.mW L x):=by
 unfold aQ.K2 at h;cases hf:ps.pw L l with
 |true=>
  rw [hf] at h;cases h;rw [ps.jC L];rw [ps.kH L] at hf;have hd:(ps.inst L).dec l=some ((ps.inst L).bw l):=by unfold aQ.dec; rw [hf]; rfl
  exact ⟨((ps.inst L).tG hd).1,(ps.inst L).Nb hf⟩
 |false=>rw [hf] at h; cases h
theorem aQ.H7 {n:Nat} (L:Nat→Nat) (ps:aQ) (hp:ps.under n=true) (l:List AV):aO n (ps.mW L (ps.bw l))=true:=by
 rw [ps.jC L];exact (ps.inst L).eg _ (aQ.kI L hp)
theorem aQ.K4 (L:Nat→Nat) (ps:aQ) {l:List AV} {x:ps.T} (h:ps.K2 L l=some x):x=ps.bw l:=by
 unfold aQ.K2 at h;cases hf:ps.pw L l with
 |true=>rw [hf] at h; cases h; rfl
 |false=>rw [hf] at h; cases h
end Go.Am
namespace Go.Am
open Go
inductive GJ
 |open_
 |busy
 |ret
 |ex (i:Nat)
def GJ.is:GJ→Bool→Option Code→Bool→Bool
 |.open_,false,none,false=>true
 |.busy,true,none,false=>true
 |.ret,false,some .ret,true=>true
 |.ex i,false,some (.exit j),true=>aap i j
 |_,_,_,_=>false
def GJ.b:GJ→Bool
 |.busy=>true
 |_=>false
def GJ.p:GJ→Option Code
 |.ret=>some .ret
 |.ex i=>some (.exit i)
 |_=>none
def GJ.d:GJ→Bool
 |.ret=>true
 |.ex _=>true
 |_=>false
theorem GJ.Jr {k:GJ} {b:Bool} {p:Option Code} {d:Bool} (h:k.is b p d=true):b=k.b∧p=k.p∧d=k.d:=by
 unfold GJ.is at h;split at h <;> first | exact ⟨rfl,rfl,rfl⟩ | (cases h; done) | skip
 rw [aao h];exact ⟨rfl,rfl,rfl⟩
inductive GL
 |row (n:Nat)
 |tok (loc sz:Nat) (e:TypeId)
 |dead
 |lp (k:GJ)
 |keep
 |map
 |GK
 |cg (sz:Nat) (e:TypeId)
 |aX (sz:Nat) (e:TypeId)
 |vc
 |jQ (mid:Nat)
 |gT (sz:Nat) (e:TypeId)
def bB (fs:List Nat):List AV:=fs.map fun n:Nat=>.int .i64 n
def aA (l:List AV):List Nat:=l.map fun a=>a.pM.toNat
theorem xL (fs:List Nat):aA (bB fs)=fs:=by
 induction fs with
 |nil=>rfl
 |cons n fs ih=>
  show (AV.int .i64 n).pM.toNat :: aA (bB fs)=n :: fs;rw [ih];simp [AV.pM]
theorem AG (fs:List Nat):fw (bB fs)=true:=by
 induction fs with
 |nil=>rfl
 |cons n fs ih=>exact ih
def gy (sz:Nat) (rows:List (List AV)):List AV:=rows.map fun r=>.list .gQ sz r
def aq (l:List AV):List (List AV):=l.map AV.cY
theorem FL (sz:Nat) (rows:List (List AV)):aq (gy sz rows)=rows:=by
 induction rows with
 |nil=>rfl
 |cons r rows ih=>
  show r :: aq (gy sz rows)=r :: rows;rw [ih]
def gY:List (List AV)→Bool
 |[]=>true
 |r :: l=>fw r&&gY l
theorem AH (sz:Nat):∀ rows:List (List AV),gY rows=true→Az (gy sz rows)=true
 |[],_=>rfl
 |r :: rows,h=>by
  simp only [gY,aal] at h;show (fw r&&Az (gy sz rows))=true;rw [h.1,AH sz rows h.2];rfl
def US (k:GJ):GO→GO→Bool
 |.loop _ _ _ _ _ _ _ _ _ _,.loop b p _ _ _ _ _ _ _ d=>k.is b p d
 |_,_=>false
def SN (k:GJ):GO→GO
 |.loop _ _ fn sl n ps tR bd d _=>.loop k.b k.p fn sl n ps tR bd d k.d
 |_=>.dead
def jP (es:List (AV × AV)):Bool:=fw (af es)
def DY:GO→GO→Bool
 |.tok f sz e,.tok f' bh e'=>decide (f'=f)&&(aap bh sz&&aap e' e)
 |.defers a,.defers b=>match a,b with
  |true,true=>true
  |false,false=>true
  |_,_=>false
 |.dead,_=>true
 |_,_=>false
structure ca where
 ps:aQ
 sl:List Tmp
 W:List Tmp
 bx:List (Nat × Nat)
 g:List GL
 XH:List (Tmp × Nat × Nat)
def AI (ab:bo):List Tmp→Option (List AV)
 |[]=>some []
 |t :: l=>match lk ab t with
  |.v a=>match AI ab l with
   |some r=>some (a :: r)
   |none=>none
  |_=>none
def AJ (bx:cX):List (Nat × Nat)→Option (List AV)
 |[]=>some []
 |(k,n) :: l=>match dR bx k with
  |some cs=>match AJ bx l with
   |some r=>bif aap cs.length n then some (cs++r) else none
   |none=>none
  |none=>none
def lm:List GL→List GO→Option (List AV)
 |[],_=>some []
 |.row n :: l,.row cs _ :: G=>match lm l G with
  |some r=>bif aap cs.length n then some (cs++r) else none
  |none=>none
 |.tok _ sz e :: l,.tok _ bh e' :: G=>bif aap sz bh&&aap e e' then lm l G else none
 |.dead :: l,_ :: G=>lm l G
 |.lp _ :: l,_ :: G=>lm l G
 |.keep :: l,_ :: G=>lm l G
 |.map :: l,.map es :: G=>match lm l G with
  |some r=>some (.list .gQ 2 (af es) :: r)
  |none=>none
 |.GK :: l,.iO s pos :: G=>match lm l G with
  |some r=>some (.str s :: .int .i64 pos :: r)
  |none=>none
 |.cg sz e :: l,.cg es bh e' :: G=>match lm l G with
  |some r=>bif aap sz bh&&aap e e' then some (.list .gQ bh es :: r) else none
  |none=>none
 |.aX sz e :: l,.aX fs bh e' :: G=>match lm l G with
  |some r=>bif aap sz bh&&aap e e' then some (.list .gQ 1 (bB fs) :: r) else none
  |none=>none
 |.gT sz e :: l,.gT rows bh e' :: G=>match lm l G with
  |some r=>bif aap sz bh&&aap e e' then some (.list .gQ 1 (gy bh rows) :: r) else none
  |none=>none
 |.vc :: l,.map es :: G=>match lm l G with
  |some r=>some (.list .gQ 2 (af es) :: r)
  |none=>none
 |.jQ mid :: l,.jQ mid' n left _ _ :: G=>match lm l G with
  |some r=>bif aap mid mid' then some (.int .i64 n :: .list .gQ 1 (bB left) :: r) else none
  |none=>none
 |_,_=>none
def Nd (vs:List AV) (loc:Nat):Nat:=match nth vs loc with
 |some (.list _ _ es)=>es.length
 |_=>0
def SO:GO→GO→Bool
 |.row _ e,.row _ e'=>aap e e'
 |_,_=>false
def SP:GO→GO→Bool
 |.jQ _ _ _ _ t,.jQ _ _ _ _ t'=>aap t t'
 |_,_=>false
def YS:GO→TypeId
 |.jQ _ _ _ _ t=>t
 |_=>0
def YT:GO→TypeId
 |.row _ e=>e
 |_=>0
def eh (vs:List AV):List GL→List GO→List GO→Bool
 |[],_,_=>true
 |.tok loc _ _ :: l,_ :: B,.tok f _ _ :: G=>decide (f=Nd vs loc)&&eh vs l B G
 |.tok _ _ _ :: _,_,_=>false
 |.lp k :: l,o :: B,o' :: G=>US k o o'&&eh vs l B G
 |.keep :: l,o :: B,o' :: G=>DY o o'&&eh vs l B G
 |.row _ :: l,b :: B,g :: G=>SO b g&&eh vs l B G
 |.map :: l,_ :: B,.map es :: G=>jP es&&eh vs l B G
 |.map :: _,_,_=>false
 |.GK :: l,_ :: B,_ :: G=>eh vs l B G
 |.cg _ _ :: l,_ :: B,_ :: G=>eh vs l B G
 |.aX _ _ :: l,_ :: B,_ :: G=>eh vs l B G
 |.gT _ _ :: l,_ :: B,.gT rows _ _ :: G=>gY rows&&eh vs l B G
 |.gT _ _ :: _,_,_=>false
 |.vc :: l,_ :: B,_ :: G=>eh vs l B G
 |.jQ _ :: l,b :: B,g :: G=>SP b g&&eh vs l B G
 |.dead :: l,_ :: B,_ :: G=>eh vs l B G
 |_,_,_=>false
def rN:List Tmp→List AV→bo→bo
 |t :: ts,a :: l,r=>.put t (.v a) :: rN ts l r
 |_,_,r=>r
def rO:List (Tmp × Nat × Nat)→bo→bo
 |(t,k,o) :: l,r=>.put t (.lp k o) :: rO l r
 |[],r=>r
def Js (ab:bo):List (Tmp × Nat × Nat)→Bool
 |[]=>true
 |(t,k,o) :: l=>(match lk ab t with
  |.lp k' o'=>aap k' k&&aap o' o
  |_=>false)&&Js ab l
def AK:List Tmp→bo→bo
 |t :: ts,r=>.put t .none :: AK ts r
 |[],r=>r
def xM:List (Nat × Nat)→List AV→cX→cX
 |(k,n) :: r,l,b=>(k,l.take n) :: xM r (l.drop n) b
 |[],_,b=>b
def ee (vs:List AV):List GL→List GO→List AV→List GO
 |.row n :: r,B,l=>.row (l.take n) (YT (B.headD .dead)) :: ee vs r B.tail (l.drop n)
 |.tok loc sz e :: r,B,l=>.tok (Nd vs loc) sz e :: ee vs r B.tail l
 |.dead :: r,B,l=>.dead :: ee vs r B.tail l
 |.lp k :: r,B,l=>SN k (B.headD .dead) :: ee vs r B.tail l
 |.keep :: r,B,l=>B.headD .dead :: ee vs r B.tail l
 |.map :: r,B,l=>.map (AV.entries (fa l)) :: ee vs r B.tail l.tail
 |.GK :: r,B,l=>.iO (AV.TO (fa l)) (AV.pM (fa l.tail)).toNat :: ee vs r B.tail l.tail.tail
 |.cg sz e :: r,B,l=>.cg (AV.cY (fa l)) sz e :: ee vs r B.tail l.tail
 |.aX sz e :: r,B,l=>.aX (aA (AV.cY (fa l))) sz e :: ee vs r B.tail l.tail
 |.gT sz e :: r,B,l=>.gT (aq (AV.cY (fa l))) sz e :: ee vs r B.tail l.tail
 |.vc :: r,B,l=>.map (AV.entries (fa l)) :: ee vs r B.tail l.tail
 |.jQ mid :: r,B,l=>.jQ mid (AV.pM (fa l)).toNat (aA (AV.cY (fa l.tail))) none (YS (B.headD .dead)) :: ee vs r B.tail l.tail.tail
 |[],_,_=>[]
def DZ:List (Nat × Nat)→Nat
 |[]=>0
 |(_,n) :: l=>n+DZ l
def lT:List GL→List AV→Nat→Nat
 |[],_,_=>0
 |.cg _ _ :: r,l,i=>match i with
  |0=>(AV.cY (fa l)).length
  |i+1=>lT r l.tail i
 |.row n :: r,l,i=>match i with
  |0=>0
  |i+1=>lT r (l.drop n) i
 |.map :: r,l,i=>match i with
  |0=>0
  |i+1=>lT r l.tail i
 |.GK :: r,l,i=>match i with
  |0=>0
  |i+1=>lT r l.tail.tail i
 |.aX _ _ :: r,l,i=>match i with
  |0=>0
  |i+1=>lT r l.tail i
 |.gT _ _ :: r,l,i=>match i with
  |0=>0
  |i+1=>lT r l.tail i
 |.vc :: r,l,i=>match i with
  |0=>0
  |i+1=>lT r l.tail i
 |.jQ _ :: r,l,i=>match i with
  |0=>0
  |i+1=>lT r l.tail.tail i
 |_ :: r,l,i=>match i with
  |0=>0
  |i+1=>lT r l i
def ca.sR (t:ca) (v:t.ps.T):List AV:=t.ps.mW (lT t.g (((t.ps.mW (fun _=>0) v).drop t.sl.length).drop (DZ t.bx))) v
def ca.st (t:ca) (s:St) (v:t.ps.T):St:=
 ⟨rO t.XH (rN t.sl (t.sR v) (AK t.W s.ab)),xM t.bx ((t.sR v).drop t.sl.length) s.boxes,ee (t.sR v) t.g s.G (((t.sR v).drop t.sl.length).drop (DZ t.bx)),s.marks,s.ro,s.n⟩
def Pb:List Nat→Nat→Bool
 |[],_=>false
 |a :: l,n=>aap a n || Pb l n
def XI (l:List Tmp) (W:List Tmp) (n:Nat):Bool:=Pb l n || Pb W n
def B3 (d:Nat) (l W:List Tmp):bo→Bool
 |[]=>true
 |.put t (.lp k _) :: r=>(!(aap k d) || XI l W t)&&B3 d l W r
 |_ :: r=>B3 d l W r
def wM (l W:List Tmp) (base:bo):bo→Bool
 |[]=>true
 |.put d _ :: r=>XI l W d&&wM l W base r
 |.kill d :: r=>B3 d l W base&&wM l W base r
def xi:List (Nat × Nat)→Nat→Bool
 |[],_=>false
 |(a,_) :: l,n=>aap a n || xi l n
def yS (l:List (Nat × Nat)) (base:cX):cX→Bool
 |[]=>true
 |(k,_) :: r=>(xi l k || (dR base k).isNone)&&yS l base r
def P2:List Nat→List Nat→Bool
 |[],[]=>true
 |a :: l,b :: r=>aap a b&&P2 l r
 |_,_=>false
def aP.lcl (n:Nat):aP→Bool
 |.list _ p=>p.under n
 |_=>false
def aQ.flags (n:Nat):aQ→List Bool
 |.nil=>[]
 |.cons p ps=>p.lcl n :: ps.flags n
def lM:List GL→List Bool→Bool
 |[],_=>true
 |.cg _ _ :: r,f :: l=>f&&lM r l
 |.cg _ _ :: _,[]=>false
 |.row n :: r,l=>lM r (gm n l)
 |.map :: r,l=>lM r (gm 1 l)
 |.GK :: r,l=>lM r (gm 2 l)
 |.aX _ _ :: r,l=>lM r (gm 1 l)
 |.gT _ _ :: r,l=>lM r (gm 1 l)
 |.vc :: r,f :: l=>f&&lM r l
 |.vc :: _,[]=>false
 |.jQ _ :: r,l=>lM r (gm 2 l)
 |_ :: r,l=>lM r l
def Nf (n:Nat):List GL→Bool
 |[]=>true
 |.jQ mid :: r=>aav mid n&&Nf n r
 |_ :: r=>Nf n r
def ca.ok (t:ca) (s s':St):Bool:=
 wM t.sl t.W s.ab (s'.ab.take (s'.ab.length - s.ab.length))&&yS t.bx s.boxes (s'.boxes.take (s'.boxes.length - s.boxes.length)) &&
  P2 s'.marks s.marks&&aap t.g.length s.G.length&&(t.ps.under s.G.length&&(lM t.g (gm (DZ t.bx) (gm t.sl.length (t.ps.flags s.G.length)))&&Nf s.G.length t.g))&&Js s'.ab t.XH
def ca.dec (t:ca) (s s':St):Option t.ps.T:=
 bif t.ok s s' then
  match AI s'.ab t.sl,AJ s'.boxes t.bx,lm t.g s'.G with
  |some a,some b,some c=>(t.ps.K2 (lT t.g c) (a++(b++c))).bind fun v=>bif eh (t.sR v) t.g s.G s'.G then some v else none
  |_,_,_=>none
 else none
theorem D0 {l:List Nat} {n:Nat}:Pb l n=true↔n∈l:=by
 induction l with
 |nil=>simp [Pb]
 |cons a l ih=>
  simp only [Pb,Bool.or_eq_true,Nat.beq_eq,ih,aaM];constructor
  ·rintro (h|h)
   ·exact .inl h.symm
   ·exact .inr h
  ·rintro (h|h)
   ·exact .inl h.symm
   ·exact .inr h
theorem Jt:∀ {a b:List Nat},P2 a b=true→a=b
 |[],[],_=>rfl
 |a :: l,b :: r,h=>by
  simp only [P2,aal,Nat.beq_eq] at h;rw [h.1,Jt h.2]
 |[],_ :: _,h=>by cases h
 |_ :: _,[],h=>by cases h
theorem D1 {d:Nat} {l W:List Tmp} {t off:Nat}:∀ {base:bo},B3 d l W base=true→lk base t=.lp d off→XI l W t=true
 |[],_,h=>by simp [lk] at h
 |.put t' x :: r,hn,h=>by
  by_cases e:t'=t
  ·subst e;rw [aD] at h;subst h;simp only [B3,Nat.beq_refl,Bool.not_true,Bool.false_or,aal] at hn;exact hn.1
  ·rw [aT e] at h;refine D1 (base:=r) ?_ h;cases x <;> simp only [B3,aal] at hn
   ·exact hn
   ·exact hn
   ·exact hn.2
 |.kill d' :: r,hn,h=>by
  rcases IY (l:=r) (d:=d') (t:=t) with ⟨h1,_⟩|h1
  ·rw [h1] at h;exact D1 (base:=r) hn h
  ·rw [h1] at h;cases h
theorem D2 {l W:List Tmp} {base:bo} {t:Nat} (ht:XI l W t=false):∀ {pre:bo},wM l W base pre=true→lk (pre++base) t=lk base t
 |[],_=>rfl
 |.put d x :: r,h=>by
  simp only [wM,aal] at h;have cq:d≠t:=fun e=>by rw [e,ht] at h; exact absurd h.1 (by simp)
  rw [aaL,aT cq];exact D2 ht h.2
 |.kill d :: r,h=>by
  simp only [wM,aal] at h;have ih:=D2 ht h.2;simp only [aaL,lk,ih];cases hb:lk base t with
  |lp k off=>
   by_cases e:k=d
   ·subst e;have:=D1 h.1 hb;rw [ht] at this;cases this
   ·simp [pS e]
  |_=>rfl
theorem FM {l:List (Nat × Nat)} {base:cX} {k:Nat} {cs:List AV} (hk:xi l k=false) (hb:dR base k=some cs):∀ {pre:cX},yS l base pre=true→dR (pre++base) k=some cs
 |[],_=>hb
 |(d,x) :: r,h=>by
  simp only [yS,aal] at h;have cq:d≠k:=fun e=>by
   rw [e,hk,hb] at h;exact absurd h.1 (by simp)
  rw [aaL,dR,pS cq];exact FM hk hb h.2
theorem FN {α:Type} (pre base:List α):(pre++base).take ((pre++base).length - base.length)=pre:=by
 rw [List.length_append,Nat.add_sub_cancel,aaR]
def ai.cut (R:ai) (n:Nat):ai:=⟨R.I,R.obj.take n⟩
theorem kd {R:ai} {n id:Nat} {ro:RO}:nth (R.cut n).obj id=some ro↔id < n∧nth R.obj id=some ro:=by
 simp only [ai.cut,aN,List.getElem?_take];split
 ·simp_all
 ·simp_all;omega
theorem qk (R:ai) (n:Nat):Mv R (R.cut n) n:=⟨fun _ _ h=>h,fun _ _ hl h=>kd.2 ⟨hl,h⟩⟩
section EF
variable {E:Env} {R R':ai} {w w':World} {β β':Nat→Nat} {s s':St} {a a':Act}
def AL (R:ai) (w:World) (β:Nat→Nat) (K:Nat→Prop) (ab:bo) (tmps:Array Value):Prop:=
 ∀ i,¬ K i→lk ab i≠.none→∃ c,tmps[i]?=some c∧qJ R w β (lk ab i) c
theorem AM {tmps:Array Value} {base:bo}:∀ {W:List Tmp} {K:Nat→Prop},AL R w β (fun i=>i∈W∨K i) base tmps→AL R w β K (AK W base) tmps
 |[],K,h=>fun i hi hn=>h i (by simpa using hi) hn
 |t :: W,K,h=>fun i hi hn=>by
  have ih:AL R w β (fun i=>i=t∨K i) (AK W base) tmps:=AM (W:=W) (fun j hj=>h j (fun hc=>hj (by
   rcases hc with hc|hc
   ·rcases aaM.1 hc with hc|hc
    ·exact .inr (.inl hc)
    ·exact .inl hc
   ·exact .inr (.inr hc))))
  simp only [AK] at hn ⊢;by_cases e:t=i
  ·subst e;rw [aD] at hn;exact absurd rfl hn
  ·rw [aT e] at hn ⊢;exact ih i (by simp; exact ⟨fun e'=>e e'.symm,hi⟩) hn
theorem xN {n:Nat} (m:Mv R' R n) {tmps:Array Value} {ab:bo} (hT:qW R' w β ab tmps) {base:bo}:∀ {ts:List Tmp} {K:Nat→Prop} {l l' r r':List AV},AI ab ts=some l→dv (l++r) (l'++r')→l.length=l'.length→aO n l'=true →
  AL R w β (fun i=>i∈ts∨K i) base tmps→AL R w β K (rN ts (l'++r') base) tmps
 |[],K,l,l',r,r',_,_,_,_,h=>fun i hi hn=>by
  have e:rN [] (l'++r') base=base:=rfl;rw [e] at hn ⊢;exact h i (by simpa using hi) hn
 |t :: ts,K,l,l',r,r',hg,hw,hl,hu,h=>by
  unfold AI at hg;split at hg
  ·rename_i a ha;split at hg
   ·rename_i l0 wj;cases hg;cases l' with
    |nil=>simp at hl
    |cons b l'=>
     simp only [aaL,dv] at hw;simp only [aO,aal] at hu;have ih:AL R w β (fun i=>i=t∨K i) (rN ts (l'++r') base) tmps:=xN m hT wj hw.2 (by simpa using hl) hu.2 (fun j hj=>h j (fun hc=>hj (by
      rcases hc with hc|hc
      ·rcases aaM.1 hc with hc|hc
       ·exact .inr (.inl hc)
       ·exact .inl hc
      ·exact .inr (.inr hc))))
     intro i hi hn;simp only [rN,aaL] at hn ⊢;by_cases e:t=i
     ·subst e;rw [aD] at hn ⊢;obtain ⟨c,h1,h2⟩:=hT t (by rw [ha]; simp);rw [ha] at h2;exact ⟨c,h1,Rel.move m hu.1 (hw.1 _ _ _ h2)⟩
     ·rw [aT e] at hn ⊢;exact ih i (by simp; exact ⟨fun e'=>e e'.symm,hi⟩) hn
   ·cases hg
  ·cases hg
def AN (R:ai) (w:World) (β:Nat→Nat) (k:Nat) (cs:List AV):Prop:=
 (∃ vs el,w.heap[β k]?=some (.cells ⟨vs⟩ el (0,0))∧aL R w cs vs∧(∀ v∈vs,v.oneCell'=true))∧(∀ o,¬ R.I (β k) o)∧¬ Live R (β k)
theorem rP {R:ai} {n b:Nat} (h:Live (R.cut n) b):Live R b:=by
 obtain ⟨id,ro,h1,h2⟩:=h;exact ⟨id,ro,(kd.1 h1).2,h2⟩
theorem AN.cut {n k:Nat} {cs eZ:List AV} (h:AN R w β k cs) (hw:dv cs eZ) (hu:aO n eZ=true):AN (R.cut n) w β k eZ:=by
 obtain ⟨⟨vs,el,h1,h2,h3⟩,h4,h5⟩:=h;exact ⟨⟨vs,el,h1,(hw.rel h2).move (qk R n) hu,h3⟩,h4,fun hl=>h5 (rP hl)⟩
theorem fJ {n:Nat}:∀ {l r:List AV},aO n (l++r)=(aO n l&&aO n r)
 |[],r=>by simp [aO]
 |a :: l,r=>by simp [aO,fJ (l:=l),Bool.and_assoc]
theorem dv.split:∀ {l r l':List AV},dv (l++r) l'→∃ a b,l'=a++b∧dv l a∧dv r b∧a.length=l.length
 |[],r,l',h=>⟨[],l',rfl,trivial,h,rfl⟩
 |x :: l,r,[],h=>h.elim
 |x :: l,r,y :: l',h=>by
  obtain ⟨a,b,rfl,h2,h3,h4⟩:=dv.split (l:=l) (r:=r) (l':=l') h.2;exact ⟨y :: a,b,rfl,⟨h.1,h2⟩,h3,by simp [h4]⟩
theorem FO {n:Nat} {bxs:cX} (hb:∀ k cs,dR bxs k=some cs→AN R w β k cs) {base:cX}:∀ {bx:List (Nat × Nat)} {K:Nat→Prop} {l l' r:List AV},AJ bxs bx=some l→dv l l'→aO n l'=true →
  (∀ k cs,¬ K k→xi bx k=false→dR base k=some cs→dR bxs k=some cs∧aO n cs=true) →
  ∀ k cs,¬ K k→dR (xM bx (l'++r) base) k=some cs→AN (R.cut n) w β k cs∧∃ eZ,dR bxs k=some eZ
 |[],K,l,l',r,_,_,_,h,k,cs,hK,hk=>by
  obtain ⟨h1,h2⟩:=h k cs hK rfl hk;exact ⟨(hb k cs h1).cut (dv.refl _) h2,cs,h1⟩
 |(d,m) :: bx,K,l,l',r,hg,hw,hu,h,k,cs,hK,hk=>by
  unfold AJ at hg;split at hg
  ·rename_i YF hd;split at hg
   ·rename_i l0 wj;cases hm:aap YF.length m with
    |false=>rw [hm] at hg; cases hg
    |true=>
     rw [hm] at hg;cases hg;have hm:=aao hm;obtain ⟨x,y,rfl,k1,k2,k3⟩:=hw.split;rw [fJ,aal] at hu;have e1:((x++y)++r).take m=x:=by rw [List.append_assoc,← hm,← k3,aaR]
     have e2:((x++y)++r).drop m=y++r:=by rw [List.append_assoc,← hm,← k3,aaK]
     simp only [xM,e1,e2] at hk;rcases fR hk with ⟨rfl,rfl⟩|⟨cq,hk⟩
     ·exact ⟨(hb d YF hd).cut k1 hu.1,YF,hd⟩
     ·refine FO hb (K:=fun k=>k=d∨K k) (r:=r) wj k2 hu.2 (fun k' eZ hK' h1 h2=>?_) k cs (fun hc=>?_) hk
      ·exact h k' eZ (fun hc=>hK' (.inr hc)) (by simp only [xi,h1,Bool.or_false]; exact pS (fun e=>hK' (.inl e.symm))) h2
      ·rcases hc with hc|hc
       ·exact cq hc.symm
       ·exact hK hc
   ·cases hg
  ·cases hg
def yy (n:Nat):List GL→List AV→Prop
 |[],_=>True
 |.cg _ _ :: r,l=>aO n (AV.cY (fa l))=true∧yy n r l.tail
 |.row m :: r,l=>yy n r (l.drop m)
 |.map :: r,l=>yy n r l.tail
 |.GK :: r,l=>yy n r l.tail.tail
 |.aX _ _ :: r,l=>yy n r l.tail
 |.gT _ _ :: r,l=>yy n r l.tail
 |.vc :: r,l=>aO n (AV.cY (fa l))=true∧yy n r l.tail
 |.jQ _ :: r,l=>yy n r l.tail.tail
 |_ :: r,l=>yy n r l
def rQ (n:Nat):List Bool→List AV→Prop
 |[],_=>True
 |_ :: _,[]=>True
 |f :: fl,a :: l=>(f=true→aO n a.cY=true)∧rQ n fl l
theorem rQ.drop {m:Nat}:∀ {fl:List Bool} {l:List AV} (n:Nat),rQ m fl l→rQ m (gm n fl) (l.drop n)
 |_,_,0,h=>by simpa [gm] using h
 |[],_,_+1,_=>by simp [gm,rQ]
 |_ :: fl,[],n+1,_=>by
  rw [List.drop_nil];cases gm (n+1) (_ :: fl) <;> trivial
 |_ :: fl,_ :: l,n+1,h=>by simpa [gm] using rQ.drop n h.2
theorem gz {m:Nat}:∀ (g:List GL) {fl:List Bool} {l:List AV},lM g fl=true→rQ m fl l→yy m g l
 |[],_,_,_,_=>trivial
 |.cg _ _ :: g,[],_,h,_=>by cases h
 |.cg _ _ :: g,f :: fl,[],h,_=>by
  simp only [lM,aal] at h;refine ⟨rfl,gz g (fl:=fl) h.2 ?_⟩;cases fl <;> trivial
 |.cg _ _ :: g,f :: fl,a :: l,h,k=>by
  simp only [lM,aal] at h;exact ⟨k.1 h.1,gz g h.2 k.2⟩
 |.row n :: g,fl,l,h,k=>gz g (show lM g (gm n fl)=true from h) (k.drop n)
 |.map :: g,fl,l,h,k=>by
  have:=gz g (show lM g (gm 1 fl)=true from h) (k.drop 1);rw [aaT] at this;exact this
 |.GK :: g,fl,l,h,k=>by
  have:=gz g (show lM g (gm 2 fl)=true from h) (k.drop 2);have e:l.drop 2=l.tail.tail:=by cases l with
   |nil=>rfl
   |cons a l=>cases l <;> rfl
  rw [e] at this;exact this
 |.aX _ _ :: g,fl,l,h,k=>by
  have:=gz g (show lM g (gm 1 fl)=true from h) (k.drop 1);rw [aaT] at this;exact this
 |.gT _ _ :: g,fl,l,h,k=>by
  have:=gz g (show lM g (gm 1 fl)=true from h) (k.drop 1);rw [aaT] at this;exact this
 |.jQ _ :: g,fl,l,h,k=>by
  have:=gz g (show lM g (gm 2 fl)=true from h) (k.drop 2);have e:l.drop 2=l.tail.tail:=by cases l with
   |nil=>rfl
   |cons a l=>cases l <;> rfl
  rw [e] at this;exact this
 |.vc :: g,[],_,h,_=>by cases h
 |.vc :: g,f :: fl,[],h,_=>by
  simp only [lM,aal] at h;refine ⟨rfl,gz g (fl:=fl) h.2 ?_⟩;cases fl <;> trivial
 |.vc :: g,f :: fl,a :: l,h,k=>by
  simp only [lM,aal] at h;exact ⟨k.1 h.1,gz g h.2 k.2⟩
 |.tok _ _ _ :: g,fl,l,h,k=>gz g (show lM g fl=true from h) k
 |.dead :: g,fl,l,h,k=>gz g (show lM g fl=true from h) k
 |.lp _ :: g,fl,l,h,k=>gz g (show lM g fl=true from h) k
 |.keep :: g,fl,l,h,k=>gz g (show lM g fl=true from h) k
theorem AO {n:Nat} {α:Type} {g:α→AV} (hg:∀ x,(g x).under n=true):∀ xs:List α,aO n (xs.map g)=true
 |[]=>rfl
 |x :: xs=>by simp only [aaS,aO,hg x,AO hg xs,Bool.and_self]
theorem aQ.FP (n:Nat) (L:Nat→Nat):∀ (ps:aQ) (x:ps.T),rQ n (ps.flags n) (ps.mW L x)
 |.nil,_=>trivial
 |.cons p .nil,x=>⟨fun h=>SQ L p x h,trivial⟩
 |.cons p (.cons q ps),x=>⟨fun h=>SQ L p x.1 h,(aQ.cons q ps).FP n L x.2⟩
where
 SQ (L:Nat→Nat):∀ (p:aP) (x:p.T),p.lcl n=true→aO n (p.mW L x).cY=true
  |.list _ p,x,h=>AO (fun y=>p.eg y h) _
  |.int _,_,h=>by cases h
  |.bool,_,h=>by cases h
  |.str,_,h=>by cases h
  |.agg _,_,h=>by cases h
  |.bP _,_,h=>by cases h
  |.own _ _ _,_,h=>by cases h
  |.aX _ _ _,_,h=>by cases h
  |.eX _ _,_,h=>by cases h
  |.oD _,_,h=>by cases h
  |.two _ _,_,h=>by cases h
def GOk (n:Nat):GO→GO→Prop
 |.row cs el,.row eZ el'=>el'=el∧dv cs eZ∧aO n eZ=true
 |.tok f sz e,.tok f' bh e'=>f=f'∧sz=bh∧e=e'
 |.defers a,.defers b=>a=b
 |.map es,.map es'=>(es'=es∧jP es=true)∨∃ l,es'=aG l∧lL (af es) l∧aO n l=true
 |.aX fs sz e,.aX Dr bh e'=>fs=Dr∧sz=bh∧e=e'
 |.gT rows sz e,.gT rows' bh e'=>rows=rows'∧sz=bh∧e=e'
 |.jQ mid m left _ t,.jQ mid' m' Cy cur t'=>mid=mid'∧m=m'∧left=Cy∧t=t'∧mid < n∧cur=none
 |.iO l p,.iO l' p'=>l'=l∧p'=p
 |.cg es sz e,.cg es' bh e'=>bh=sz∧e'=e∧lL es es'∧aO n es'=true
 |_,.dead=>True
 |_,_=>False
def LOk:GO→GO→GO→Prop
 |.loop _ _ fn sl n ps tR bd d _,.loop b p _ _ _ _ _ _ _ dn,go=>go=.loop b p fn sl n ps tR bd d dn
 |_,_,_=>False
theorem K5 {n:Nat} {o o':GO} (h:DY o o'=true):GOk n o' o:=by
 cases o with
 |tok f sz e=>
  cases o' with
  |tok f' bh e'=>
   simp only [DY,aal] at h;exact ⟨of_decide_eq_true h.1,aao h.2.1,aao h.2.2⟩
  |_=>cases h
 |defers a=>
  cases o' with
  |defers b=>cases a <;> cases b <;> first | rfl | cases h
  |_=>cases h
 |dead=>cases o' <;> trivial
 |_=>cases h
theorem P3 {k:GJ} {o o':GO} (h:US k o o'=true):LOk o o' (SN k o):=by
 cases o with
 |loop b p fn sl n ps tR bd d dn=>
  cases o' with
  |loop b' p' fn' XG n' YU P4 XJ d' dn'=>
   obtain ⟨rfl,rfl,rfl⟩:=GJ.Jr (show k.is b' p' dn'=true from h);rfl
  |_=>cases h
 |_=>cases h
theorem ta (a:AV):a.entries=aG a.cY:=by cases a <;> rfl
theorem iJ {n:Nat} {vs:List AV}:∀ {g:List GL} {B G:List GO} {l l':List AV},lm g G=some l→dv l l'→LY l l'→yy n g l'∧Nf n g=true→aO n l'=true→eh vs g B G=true →
  ∀ id go,nth (ee vs g B l') id=some go→∃ go',nth G id=some go'∧(GOk n go' go∨∃ LV,nth B id=some LV∧LOk LV go' go)
 |[],B,G,l,l',_,_,_,_,_,_,id,go,h=>by simp [ee,nth] at h
 |x :: g,[],G,l,l',_,_,_,_,_,ht,_,_,_=>by cases x <;> cases G <;> cases ht
 |x :: g,_ :: _,[],l,l',_,_,_,_,_,ht,_,_,_=>by cases x <;> cases ht
 |.row m :: g,b :: B,o :: G,l,l',hg,hw,hx,uf,hu,ht,id,go,h=>by
   obtain ⟨Hv,mC⟩:SO b o=true∧eh vs g B G=true:=by
    rw [← aal];cases o <;> exact ht
   cases o with
   |row cs el=>
    have kr:YT b=el:=by
     cases b <;> first | (cases Hv; done) | exact aao Hv
    change (match lm g G with
     |some r=>bif aap cs.length m then some (cs++r) else none
     |none=>none)=some l at hg
    split at hg
    ·rename_i r hr;cases hm:aap cs.length m with
     |false=>rw [hm] at hg; cases hg
     |true=>
      rw [hm] at hg;cases hg;have hm:=aao hm;obtain ⟨x,y,rfl,k1,k2,k3⟩:=hw.split;rw [fJ,aal] at hu;have e1:(x++y).take m=x:=by rw [← hm,← k3,aaR]
      have e2:(x++y).drop m=y:=by rw [← hm,← k3,aaK]
      simp only [ee,e1,e2] at h;cases id with
      |zero=>simp only [nth] at h; cases h; exact ⟨.row cs el,rfl,.inl ⟨kr,k1,hu.1⟩⟩
      |succ id=>exact iJ hr k2 (by obtain ⟨x',y',e1',k1',O8,YV⟩:=hx.split; have:=aaO e1' (by rw [k3,YV]); rw [this.2]; exact O8) (by rw [← e2]; exact uf) hu.2 mC id go h
    ·cases hg
   |_=>cases hg
 |.tok loc sz e :: g,b :: B,o :: G,l,l',hg,hw,hx,uf,hu,ht,id,go,h=>by
   cases o with
   |tok f bh e'=>
    change (bif aap sz bh&&aap e e' then lm g G else none)=some l at hg;change (decide (f=Nd vs loc)&&eh vs g B G)=true at ht;rw [aal] at ht;cases hm:(aap sz bh&&aap e e') with
    |false=>rw [hm] at hg; cases hg
    |true=>
     rw [hm] at hg;rw [aal] at hm;have q1:=aao hm.1;have q2:=aao hm.2;simp only [ee] at h;cases id with
     |zero=>
      simp only [nth] at h;cases h;exact ⟨.tok f bh e',rfl,.inl ⟨of_decide_eq_true ht.1,q1.symm,q2.symm⟩⟩
     |succ id=>exact iJ hg hw hx uf hu ht.2 id go h
   |_=>cases hg
 |.dead :: g,b :: B,o :: G,l,l',hg,hw,hx,uf,hu,ht,id,go,h=>by
   simp only [ee] at h;have Ck:lm g G=some l:=by cases o <;> exact hg
   have mC:eh vs g B G=true:=by cases o <;> exact ht
   cases id with
   |zero=>
    simp only [nth] at h;cases h;exact ⟨o,rfl,.inl (by cases o <;> trivial)⟩
   |succ id=>exact iJ Ck hw hx uf hu mC id go h
 |.lp k :: g,b :: B,o :: G,l,l',hg,hw,hx,uf,hu,ht,id,go,h=>by
   simp only [ee] at h;have Ck:lm g G=some l:=by cases o <;> exact hg
   change (US k b o&&eh vs g B G)=true at ht;rw [aal] at ht;cases id with
   |zero=>
    simp only [nth] at h;cases h;exact ⟨o,rfl,.inr ⟨b,rfl,P3 ht.1⟩⟩
   |succ id=>exact iJ Ck hw hx uf hu ht.2 id go h
 |.keep :: g,b :: B,o :: G,l,l',hg,hw,hx,uf,hu,ht,id,go,h=>by
   simp only [ee] at h;have Ck:lm g G=some l:=by cases o <;> exact hg
   change (DY b o&&eh vs g B G)=true at ht;rw [aal] at ht;cases id with
   |zero=>
    simp only [nth] at h;cases h;exact ⟨o,rfl,.inl (K5 ht.1)⟩
   |succ id=>exact iJ Ck hw hx uf hu ht.2 id go h
 |.map :: g,b :: B,o :: G,l,l',hg,hw,hx,uf,hu,ht,id,go,h=>by
   cases o with
   |map es=>
    change (match lm g G with
     |some r=>some (AV.list .gQ 2 (af es) :: r)
     |none=>none)=some l at hg
    change (jP es&&eh vs g B G)=true at ht;rw [aal] at ht;split at hg
    ·rename_i r hr;cases hg;cases l' with
     |nil=>exact hw.elim
     |cons a l'=>
      simp only [aO,aal] at hu;simp only [ee,fa,aaI] at h;cases id with
      |zero=>
       simp only [nth] at h;cases h;refine ⟨.map es,rfl,.inl (.inl ⟨?_,ht.1⟩)⟩;rw [ta,hx.2.1.1 ht.1];exact qD es
      |succ id=>exact iJ hr hw.2 hx.2.2.2 uf hu.2 ht.2 id go h
    ·cases hg
   |_=>cases hg
 |.GK :: g,b :: B,o :: G,l,l',hg,hw,hx,uf,hu,ht,id,go,h=>by
   have mC:eh vs g B G=true:=by cases o <;> exact ht
   cases o with
   |iO s pos=>
    change (match lm g G with
     |some r=>some (AV.str s :: AV.int .i64 pos :: r)
     |none=>none)=some l at hg
    split at hg
    ·rename_i r hr;cases hg
     match l',hw,hx,hu,h with
     |[],hw,_,_,_=>exact hw.elim
     |[_],hw,_,_,_=>exact hw.2.elim
     |a :: a' :: l',hw,hx,hu,h=>
      simp only [aO,aal] at hu;simp only [ee,fa,aaI] at h;have e1:=hx.1 (by simp [AV.exact]);have e2:=hx.2.2.2.1 (by simp [AV.exact]);subst e1 e2;cases id with
      |zero=>
       simp only [nth] at h;cases h;exact ⟨.iO s pos,rfl,.inl ⟨rfl,by simp [AV.pM]⟩⟩
      |succ id=>exact iJ hr hw.2.2 hx.2.2.2.2.2.2 uf hu.2.2 mC id go h
    ·cases hg
   |_=>cases hg
 |.cg sz e :: g,b :: B,o :: G,l,l',hg,hw,hx,uf,hu,ht,id,go,h=>by
   have mC:eh vs g B G=true:=by cases o <;> exact ht
   cases o with
   |cg es bh e'=>
    change (match lm g G with
     |some r=>bif aap sz bh&&aap e e' then some (AV.list .gQ bh es :: r) else none
     |none=>none)=some l at hg
    split at hg
    ·rename_i r hr;cases hm:(aap sz bh&&aap e e') with
     |false=>rw [hm] at hg; cases hg
     |true=>
     rw [hm] at hg;rw [aal] at hm;have q1:=aao hm.1;have q2:=aao hm.2;cases hg;cases l' with
     |nil=>exact hw.elim
     |cons a l'=>
      simp only [aO,aal] at hu;simp only [ee,fa,aaI] at h;cases id with
      |zero=>
       simp only [nth] at h;cases h;exact ⟨.cg es bh e',rfl,.inl ⟨q1,q2,hx.2.2.1,uf.1.1⟩⟩
      |succ id=>exact iJ hr hw.2 hx.2.2.2 ⟨uf.1.2,uf.2⟩ hu.2 mC id go h
    ·cases hg
   |_=>cases hg
 |.aX sz e :: g,b :: B,o :: G,l,l',hg,hw,hx,uf,hu,ht,id,go,h=>by
   have mC:eh vs g B G=true:=by cases o <;> exact ht
   cases o with
   |aX fs bh e'=>
    change (match lm g G with
     |some r=>bif aap sz bh&&aap e e' then some (AV.list .gQ 1 (bB fs) :: r) else none
     |none=>none)=some l at hg
    split at hg
    ·rename_i r hr;cases hm:(aap sz bh&&aap e e') with
     |false=>rw [hm] at hg; cases hg
     |true=>
     rw [hm] at hg;rw [aal] at hm;have q1:=aao hm.1;have q2:=aao hm.2;cases hg;cases l' with
     |nil=>exact hw.elim
     |cons a l'=>
      simp only [aO,aal] at hu;simp only [ee,fa,aaI] at h;cases id with
      |zero=>
       simp only [nth] at h;cases h;refine ⟨.aX fs bh e',rfl,.inl ⟨?_,q1.symm,q2.symm⟩⟩;rw [hx.2.1.1 (AG fs)];exact (xL fs).symm
      |succ id=>exact iJ hr hw.2 hx.2.2.2 uf hu.2 mC id go h
    ·cases hg
   |_=>cases hg
 |.gT sz e :: g,b :: B,o :: G,l,l',hg,hw,hx,uf,hu,ht,id,go,h=>by
   cases o with
   |gT rows bh e'=>
    change (match lm g G with
     |some r=>bif aap sz bh&&aap e e' then some (AV.list .gQ 1 (gy bh rows) :: r) else none
     |none=>none)=some l at hg
    change (gY rows&&eh vs g B G)=true at ht;rw [aal] at ht;split at hg
    ·rename_i r hr;cases hm:(aap sz bh&&aap e e') with
     |false=>rw [hm] at hg; cases hg
     |true=>
     rw [hm] at hg;rw [aal] at hm;have q1:=aao hm.1;have q2:=aao hm.2;cases hg;cases l' with
     |nil=>exact hw.elim
     |cons a l'=>
      simp only [aO,aal] at hu;simp only [ee,fa,aaI] at h;cases id with
      |zero=>
       simp only [nth] at h;cases h;refine ⟨.gT rows bh e',rfl,.inl ⟨?_,q1.symm,q2.symm⟩⟩;show rows=aq a.cY;unfold aq;rw [hx.2.1.2 (AH _ _ ht.1)];exact (FL _ rows).symm
      |succ id=>exact iJ hr hw.2 hx.2.2.2 uf hu.2 ht.2 id go h
    ·cases hg
   |_=>cases hg
 |.vc :: g,b :: B,o :: G,l,l',hg,hw,hx,uf,hu,ht,id,go,h=>by
   have mC:eh vs g B G=true:=by cases o <;> exact ht
   cases o with
   |map es=>
    change (match lm g G with
     |some r=>some (AV.list .gQ 2 (af es) :: r)
     |none=>none)=some l at hg
    split at hg
    ·rename_i r hr;cases hg;cases l' with
     |nil=>exact hw.elim
     |cons a l'=>
      simp only [aO,aal] at hu;simp only [ee,fa,aaI] at h;cases id with
      |zero=>
       simp only [nth] at h;cases h;exact ⟨.map es,rfl,.inl (.inr ⟨a.cY,ta a,hx.2.2.1,uf.1.1⟩)⟩
      |succ id=>exact iJ hr hw.2 hx.2.2.2 ⟨uf.1.2,uf.2⟩ hu.2 mC id go h
    ·cases hg
   |_=>cases hg
 |.jQ mid :: g,b :: B,o :: G,l,l',hg,hw,hx,uf,hu,ht,id,go,h=>by
   obtain ⟨Hv,mC⟩:SP b o=true∧eh vs g B G=true:=by
    rw [← aal];cases o <;> exact ht
   cases o with
   |jQ mid' k left cur t=>
    have kr:YS b=t:=by
     cases b <;> first | (cases Hv; done) | exact aao Hv
    change (match lm g G with
     |some r=>bif aap mid mid' then some (AV.int .i64 k :: AV.list .gQ 1 (bB left) :: r) else none
     |none=>none)=some l at hg
    split at hg
    ·rename_i r hr;cases hm:aap mid mid' with
     |false=>rw [hm] at hg; cases hg
     |true=>
     rw [hm] at hg;have q1:=aao hm;subst q1;cases hg;have hmp:=uf.2;simp only [Nf,aal] at hmp
     match l',hw,hx,hu,h with
     |[],hw,_,_,_=>exact hw.elim
     |[_],hw,_,_,_=>exact hw.2.elim
     |a :: a' :: l',hw,hx,hu,h=>
      simp only [aO,aal] at hu;simp only [ee,fa,aaI] at h;have e1:=hx.1 (by simp [AV.exact]);have e2:=hx.2.2.2.2.1.1 (AG left);subst e1;cases id with
      |zero=>
       simp only [nth] at h;cases h;refine ⟨.jQ mid k left cur t,rfl,.inl ⟨rfl,by simp [AV.pM],?_,kr.symm,jq hmp.1,rfl⟩⟩;rw [e2];exact (xL left).symm
      |succ id=>exact iJ hr hw.2.2 hx.2.2.2.2.2.2 ⟨uf.1,hmp.2⟩ hu.2.2 mC id go h
    ·cases hg
   |_=>cases hg
theorem dA {vs:List AV}:∀ {g:List GL} {B:List GO} {l:List AV},(ee vs g B l).length=g.length
 |[],_,_=>rfl
 |.row m :: g,B,l=>by simp [ee,dA (g:=g)]
 |.tok _ _ _ :: g,B,l=>by simp [ee,dA (g:=g)]
 |.dead :: g,B,l=>by simp [ee,dA (g:=g)]
 |.lp _ :: g,B,l=>by simp [ee,dA (g:=g)]
 |.keep :: g,B,l=>by simp [ee,dA (g:=g)]
 |.map :: g,B,l=>by simp [ee,dA (g:=g)]
 |.cg _ _ :: g,B,l=>by simp [ee,dA (g:=g)]
 |.GK :: g,B,l=>by simp [ee,dA (g:=g)]
 |.aX _ _ :: g,B,l=>by simp [ee,dA (g:=g)]
 |.gT _ _ :: g,B,l=>by simp [ee,dA (g:=g)]
 |.vc :: g,B,l=>by simp [ee,dA (g:=g)]
 |.jQ _ :: g,B,l=>by simp [ee,dA (g:=g)]
theorem iE.lok {R0:ai} {w0:World} {SR:RO} {LV go' go:GO} {ro:RO} (e:Ext R0 w0 R w) (h0:iE R0 w0 LV SR) (hle:cj SR ro) (h:iE R' w go' ro) (k:LOk LV go' go):iE R w go ro:=by
 cases LV with
 |loop b p fn sl n ps tR bd d dn=>
  cases go' with
  |loop b' p' fn' XG n' YU P4 XJ d' dn'=>
   change go=_ at k;subst k;cases SR with
   |bE bb=>
    simp only [cj] at hle;subst hle;obtain ⟨⟨r0,db0,l1,l2,l3,l4,l5,l6,l7,l8,l9,l10⟩,l11⟩:=h0;obtain ⟨⟨r,db,m1,m2,m3,m4,m5,m6,m7,m8,m9,m10⟩,m11⟩:=h;obtain ⟨r1,q1,q2,q3,q4,q5,q6⟩:=e.lp bb r0 l1;have hr:r1=r:=by
     have:=q1.symm.trans m1;injection this with this;injection this with this
    subst hr;exact ⟨⟨r1,db0,q1,m2,m3,by rw [q2]; exact qW.mono e l4,by rw [q2]; exact l5,by rw [q3]; exact l6,by rw [q4]; exact l7,by rw [q5]; exact l8,by rw [q6]; exact l9,e.bE l10⟩,l11⟩
   |none=>exact h0.elim
   |a8=>exact h0.elim
   |tok _ _ _=>exact h0.elim
   |aX _=>exact h0.elim
  |_=>exact k.elim
 |_=>exact k.elim
theorem eL.cut {n:Nat}:∀ {es:List (AV × AV)} {aH:List MapEntry},fw (af es)=true→eL R w es aH→eL (R.cut n) w es aH
 |[],[],_,_=>trivial
 |[],_ :: _,_,h=>h.elim
 |_ :: _,[],_,h=>h.elim
 |(k,v) :: es,en :: aH,he,h=>by
  simp only [af,fw,AV.exact,aax,aal] at he;exact ⟨h.1.move (qk R n) (iI n (qj he.1.1)),h.2.1.move (qk R n) (iI n (qj he.1.2)),eL.cut he.2 h.2.2⟩
theorem FQ {n:Nat} {v:AV} (h:v.under n=true) (k:v.aR=true):aO n v.cells=true:=by
 cases v <;> first | exact h | (simp [AV.aR] at k; done) | (simp only [AV.cells,aO,aax]; exact h)
theorem AP {n sz:Nat}:∀ {es es':List AV},lL es es'→dX sz es→aO n es'=true→dX sz es'∧dv (an es) (an es')∧aO n (an es')=true
 |[],[],_,_,_=>⟨(fun e he=>by simp at he),trivial,rfl⟩
 |e :: es,e' :: es',h,k,sj=>by
  obtain ⟨h1,h2⟩:=h;simp only [aO,aal] at sj;obtain ⟨q1,q2⟩:=k e (by simp);obtain ⟨i1,i2,i3⟩:=AP h2 (fun x hx=>k x (by simp [hx])) sj.2;have hc:=h1.cells q2;have ht:e'.aR=true:=by rw [h1.bP,q2]
  refine ⟨fun x hx=>?_,hc.append i2,by show aO n (e'.cells++an es')=true; rw [fJ,FQ sj.1 ht,i3]; rfl⟩;rcases aaM.1 hx with rfl|hx
  ·exact ⟨by rw [← hc.length,q1],ht⟩
  ·exact i1 x hx
 |[],_ :: _,h,_,_=>h.elim
 |_ :: _,[],h,_,_=>h.elim
theorem qM.head {l r:List AV} (h:qM l r):(AV.cY (fa l)).length=(AV.cY (fa r)).length:=by
 cases l <;> cases r <;> first | rfl | exact h.1 | exact h.elim
theorem qM.tail {l r:List AV} (h:qM l r):qM l.tail r.tail:=by
 cases l <;> cases r <;> first | exact h | exact h.2 | exact h.elim
theorem dB:∀ (g:List GL) {l r:List AV} (i:Nat),qM l r→lT g l i=lT g r i
 |[],_,_,_,_=>rfl
 |.cg _ _ :: g,l,r,0,h=>h.head
 |.cg _ _ :: g,l,r,i+1,h=>dB g i h.tail
 |.row _ :: g,l,r,0,h=>rfl
 |.row n :: g,l,r,i+1,h=>dB g i (h.drop n)
 |.map :: g,l,r,0,h=>rfl
 |.map :: g,l,r,i+1,h=>dB g i h.tail
 |.GK :: g,l,r,0,h=>rfl
 |.GK :: g,l,r,i+1,h=>dB g i h.tail.tail
 |.aX _ _ :: g,l,r,0,h=>rfl
 |.aX _ _ :: g,l,r,i+1,h=>dB g i h.tail
 |.gT _ _ :: g,l,r,0,h=>rfl
 |.gT _ _ :: g,l,r,i+1,h=>dB g i h.tail
 |.vc :: g,l,r,0,h=>rfl
 |.vc :: g,l,r,i+1,h=>dB g i h.tail
 |.jQ _ :: g,l,r,0,h=>rfl
 |.jQ _ :: g,l,r,i+1,h=>dB g i h.tail.tail
 |.tok _ _ _ :: g,l,r,0,h=>rfl
 |.tok _ _ _ :: g,l,r,i+1,h=>dB g i h
 |.dead :: g,l,r,0,h=>rfl
 |.dead :: g,l,r,i+1,h=>dB g i h
 |.lp _ :: g,l,r,0,h=>rfl
 |.lp _ :: g,l,r,i+1,h=>dB g i h
 |.keep :: g,l,r,0,h=>rfl
 |.keep :: g,l,r,i+1,h=>dB g i h
theorem eL.YW {n:Nat}:∀ {es:List (AV × AV)} {l:List AV} {aH:List MapEntry},lL (af es) l→aO n l=true→eL R w es aH→eL (R.cut n) w (aG l) aH
 |[],[],[],_,_,_=>trivial
 |[],[],_ :: _,_,_,h=>h.elim
 |[],_ :: _,_,h,_,_=>h.elim
 |(_,_) :: _,[],_,h,_,_=>h.elim
 |(_,_) :: _,_ :: _,[],_,_,h=>h.elim
 |(k,v) :: es,a :: l,en :: aH,hd,hu,h=>by
  obtain ⟨d1,d2⟩:=hd;simp only [aO,aal] at hu;have hc:=d1.cells rfl;have hl:[k,v].length=a.cells.length:=hc.length;cases a with
  |agg cs=>
   match cs,hc,hl with
   |[k',v'],hc,_=>
    have UT:aO n [k',v']=true:=hu.1;simp only [aO,aax,aal] at UT;exact ⟨(hc.1 _ _ _ h.1).move (qk R n) UT.1,(hc.2.1 _ _ _ h.2.1).move (qk R n) UT.2,eL.YW d2 hu.2 h.2.2⟩
   |[],_,hl=>simp [AV.cells] at hl
   |[_],_,hl=>simp [AV.cells] at hl
   |_ :: _ :: _ :: _,_,hl=>simp [AV.cells] at hl
  |_=>simp [AV.cells] at hl
theorem AQ {n sz:Nat}:∀ {es:List AV},gD sz es→aO n (an es)=true
 |[],_=>rfl
 |e :: es,h=>by
  have h1:=h e List.mem_cons_self;have h2:=AQ (n:=n) (sz:=sz) (es:=es) fun x hx=>h x (List.mem_cons_of_mem _ hx)
  simp only [an,fJ,h2,aax];have hk:=h1.2.2;cases e with
  |agg cs=>exact df n (show aF cs=true by simpa [AV.closed] using hk)
  |bP cs=>cases h1.2.1
  |_=>simp only [AV.cells,aO,aax]; exact iI n hk
theorem iE.gok {n:Nat} {go go':GO} {ro:RO} (h:iE R w go' ro) (k:GOk n go' go):iE (R.cut n) w go ro:=by
 cases go with
 |dead=>
  cases ro with
  |none=>trivial
  |a8=>trivial
  |bE b=>exact h.lt rfl
  |tok f b c=>exact h.lt rfl
  |aX ts=>exact fun j f b c hj=>h.lt ⟨j,f,c,hj⟩
 |row cs el=>
  cases go' with
  |row eZ el'=>
   cases ro with
   |bE b=>
    obtain ⟨vs,h1,h2,h3,h4⟩:=h;obtain ⟨rfl,k⟩:=k;exact ⟨vs,h1,(k.1.rel h2).move (qk R n) k.2,h3,h4⟩
   |none=>exact h.elim
   |a8=>exact h.elim
   |tok _ _ _=>exact h.elim
   |aX _=>exact h.elim
  |_=>exact k.elim
 |tok f sz e=>
  cases go' with
  |tok f' bh e'=>
   obtain ⟨rfl,rfl,rfl⟩:=k;cases ro with
   |bE b=>exact h.elim
   |none=>exact h.elim
   |a8=>exact h
   |tok _ _ _=>exact h
   |aX _=>exact h.elim
  |_=>exact k.elim
 |defers a=>
  cases go' with
  |defers b=>
   change b=a at k;subst k;cases ro <;> exact h
  |_=>exact k.elim
 |map es=>
  cases go' with
  |map es'=>
   cases ro with
   |bE b=>
    obtain ⟨aH,clock,h1,h2,h3⟩:=h;rcases k with ⟨rfl,k2⟩|⟨l,rfl,k2,k3⟩
    ·exact ⟨aH,clock,h1,eL.cut k2 h2,h3⟩
    ·exact ⟨aH,clock,h1,eL.YW k2 k3 h2,h3⟩
   |none=>exact h.elim
   |a8=>exact h.elim
   |tok _ _ _=>exact h.elim
   |aX _=>exact h.elim
  |_=>exact k.elim
 |aX fs sz e=>
  cases go' with
  |aX Dr bh e'=>
   obtain ⟨rfl,rfl,rfl⟩:=k;cases ro <;> exact h
  |_=>exact k.elim
 |gT rows sz e=>
  cases go' with
  |gT rows' bh e'=>
   obtain ⟨rfl,rfl,rfl⟩:=k;cases ro with
   |none=>exact h.elim
   |a8=>exact h.elim
   |bE _=>exact h.elim
   |tok _ _ _ _=>exact h.elim
   |aX ts=>
    obtain ⟨h1,h2,h3⟩:=h;refine ⟨h1,h2,fun j row t hj ht=>?_⟩;have h4:=h3 j row t hj ht;cases t with
    |a8=>exact h4
    |full _=>exact h4
    |tok f b c=>
     obtain ⟨h5,kr,cur,vs,k1,k2,k3,k4,k5,k6,k7,k8⟩:=h4;exact ⟨h5,kr,cur,vs,k1,k2,k3,k4,k5,k6.move (qk R n) (AQ kr),k7,k8⟩
  |_=>exact k.elim
 |jQ mid m left cur t=>
  cases go' with
  |jQ mid' m' Cy cur' t'=>
   obtain ⟨rfl,rfl,rfl,rfl,k,rfl⟩:=k;cases ro with
   |bE b=>obtain ⟨bm,seen,c0,h1,h2,h3,h4,h5,h6,_⟩:=h; exact ⟨bm,seen,c0,kd.2 ⟨k,h1⟩,h2,h3,h4,h5,h6,fun i hi=>by cases hi⟩
   |none=>exact h.elim
   |a8=>exact h.elim
   |tok _ _ _=>exact h.elim
   |aX _=>exact h.elim
  |_=>exact k.elim
 |iO l p=>
  cases go' with
  |iO l' p'=>
   obtain ⟨rfl,rfl⟩:=k;cases ro <;> exact h
  |_=>exact k.elim
 |cg es sz e=>
  cases go' with
  |cg es' bh e'=>
   obtain ⟨rfl,rfl,k,kc⟩:=k;cases ro with
   |bE b=>exact h.elim
   |none=>exact h.elim
   |aX _=>exact h.elim
   |a8=>
    have he:es'=[]:=h;subst he;exact List.eq_nil_of_length_eq_zero k.length.symm
   |tok f b c=>
    obtain ⟨Kx,h0,h1,cur,vs,h2,h3,h4,h5,h6,h7,h8,h9⟩:=h;obtain ⟨k1,k2,k3⟩:=AP k h1 kc;exact ⟨Kx,h0.trans k.length,k1,cur,vs,h2,h3,h4,h5,h6,(k2.rel h7).move (qk R n) k3,h8,h9⟩
  |_=>exact k.elim
 |_=>cases go' <;> exact k.elim
theorem sP.ids:∀ {l:List Nat} {ds:List Deferred},sP R l ds→∀ id∈l,id < R.obj.length
 |[],[],_,id,hi=>by simp at hi
 |x :: l,d :: ds,h,id,hi=>by
  obtain ⟨⟨b,h1,_⟩,h2⟩:=h;rcases aaM.1 hi with rfl|hi
  ·exact aU h1
  ·exact sP.ids h2 id hi
 |[],_ :: _,h,_,_=>h.elim
 |_ :: _,[],h,_,_=>h.elim
theorem sP.cut {n:Nat}:∀ {l:List Nat} {ds:List Deferred},sP R l ds→(∀ id∈l,id < n)→sP (R.cut n) l ds
 |[],[],_,_=>trivial
 |x :: l,d :: ds,h,hi=>by
  obtain ⟨⟨b,h1,h3⟩,h2⟩:=h;exact ⟨⟨b,kd.2 ⟨hi x (by simp),h1⟩,h3⟩,sP.cut h2 fun id hm=>hi id (by simp [hm])⟩
 |[],_ :: _,h,_=>h.elim
 |_ :: _,[],h,_=>h.elim
theorem xO {n:Nat} {tmps:Array Value} {ab base:bo} (hT:qW R w β ab tmps):∀ {l:List (Tmp × Nat × Nat)},Js ab l=true→qW (R.cut n) w β base tmps→qW (R.cut n) w β (rO l base) tmps
 |[],_,h=>h
 |(t,k,o) :: l,hl,h=>fun i hi=>by
  simp only [Js,aal] at hl;simp only [rO] at hi ⊢;by_cases e:t=i
  ·subst e;rw [aD];have h1:=hl.1;split at h1
   ·rename_i k' o' hk;rw [aal] at h1;have e1:=aao h1.1;have e2:=aao h1.2;subst e1 e2;obtain ⟨c,q1,q2⟩:=hT t (by rw [hk]; simp);rw [hk] at q2;exact ⟨c,q1,q2⟩
   ·cases h1
  ·rw [aT e] at hi ⊢;exact xO hT hl.2 h i hi
theorem ca.H8 {t:ca} {v:t.ps.T} (hs:aK s s') (h0:aY E R w β s a) (h:aY E R' w' β' s' a') (st:Ext R w R' w') (hd:t.dec s s'=some v) :
  aY E (R'.cut s.G.length) w' β' (t.st s v) a'∧Ext R w (R'.cut s.G.length) w'∧∀ k cs,dR (t.st s v).boxes k=some cs→∃ eZ,dR s'.boxes k=some eZ:=by
 have hlen:=h0.g.len;unfold ca.dec at hd;cases dG:t.ok s s' with
 |false=>rw [dG] at hd; cases hd
 |true=>
 rw [dG] at hd;simp only [cond_true] at hd;unfold ca.ok at dG;simp only [aal] at dG;obtain ⟨⟨⟨⟨⟨k1,k2⟩,k3⟩,k4⟩,k5,k7,k8⟩,k6⟩:=dG;obtain ⟨pre,FA⟩:=hs.sl;obtain ⟨preB,SS⟩:=hs.bx;rw [FA,FN] at k1;rw [SS,FN] at k2;have k3:=Jt k3;have k4:=aao k4;split at hd
 ·rename_i la lb lc g1 g2 g3;cases hv:t.ps.K2 (lT t.g lc) (la++(lb++lc)) with
  |none=>rw [hv] at hd; cases hd
  |some v'=>
  rw [hv] at hd;simp only [Option.bind_some] at hd;cases LW:eh (t.sR v') t.g s.G s'.G with
  |false=>rw [LW] at hd; cases hd
  |true=>
  rw [LW] at hd;cases hd;have lsl:∀ {ts:List Tmp} {l:List AV},AI s'.ab ts=some l→l.length=ts.length:=by
   intro ts
   induction ts with
   |nil=>intro l hl; simp only [AI] at hl; cases hl; rfl
   |cons t ts ih=>
    intro l hl;unfold AI at hl;split at hl
    ·split at hl
     ·rename_i hr;cases hl;simp [ih hr]
     ·cases hl
    ·cases hl
  have lbx:∀ {bx:List (Nat × Nat)} {l:List AV},AJ s'.boxes bx=some l→l.length=DZ bx:=by
   intro bx
   induction bx with
   |nil=>intro l hl; simp only [AJ] at hl; cases hl; rfl
   |cons x bx ih=>
    obtain ⟨k,m⟩:=x;intro l hl;unfold AJ at hl;split at hl
    ·split at hl
     ·rename_i cs _ _ r hr;cases hm:aap cs.length m with
      |false=>rw [hm] at hl; cases hl
      |true=>
       rw [hm] at hl;cases hl;simp only [DZ,List.length_append,ih hr,aao hm]
     ·cases hl
    ·cases hl
  obtain ⟨hw,hex⟩:=t.ps.P1 _ hv;have SU:t.sR v=t.ps.mW (lT t.g lc) v:=by
   unfold ca.sR;congr 1;funext i;have hl:=hex.YR.trans (t.ps.rM (lT t.g lc) (fun _=>0) v);have O9:=(hl.drop t.sl.length).drop (DZ t.bx);rw [← lsl g1,aaK,← lbx g2,aaK,lsl g1,lbx g2] at O9;exact (dB t.g i O9).symm
  have hu:aO s.G.length (t.sR v)=true:=by
   rw [SU,t.ps.K4 _ hv];exact t.ps.H7 _ k5 _
  rw [← SU] at hw hex;have hvs:∃ xa xb xc,t.sR v=xa++(xb++xc)∧dv la xa∧dv lb xb∧dv lc xc∧xa.length=la.length∧xb.length=lb.length∧LY lc xc:=by
   obtain ⟨xa,r,h1,h2,h3,h4⟩:=hw.split;obtain ⟨xb,xc,rfl,h6,h7,h8⟩:=h3.split;rw [h1] at hex;obtain ⟨ya,yr,g1,_,g3,g4⟩:=hex.split;obtain ⟨_,rfl⟩:=aaO g1 (by rw [h4,g4]);obtain ⟨yb,yc,k1,_,k3,k4⟩:=g3.split;obtain ⟨_,rfl⟩:=aaO k1 (by rw [h8,k4]);exact ⟨xa,xb,xc,h1,h2,h6,h7,h4,h8,k3⟩
  obtain ⟨xa,xb,xc,hx,wa,wb,wc,la1,lb1,exc⟩:=hvs;have hu':aO s.G.length xa=true∧aO s.G.length xb=true∧aO s.G.length xc=true:=by
   rw [hx,fJ,fJ] at hu;simp only [aal] at hu;exact ⟨hu.1,hu.2.1,hu.2.2⟩
  have e1:(t.sR v).drop t.sl.length=xb++xc:=by rw [hx,← lsl g1,← la1,aaK]
  have e2:(xb++xc).drop (DZ t.bx)=xc:=by rw [← lbx g2,← lb1,aaK]
  have uf:yy s.G.length t.g xc:=by
   have hf:=((aQ.FP s.G.length _ t.ps v).drop t.sl.length).drop (DZ t.bx) (l:=(t.sR v).drop t.sl.length);rw [e1,e2] at hf;exact gz t.g k7 hf
  have old:∀ {l:List AV} {cs:List Value},aL R w l cs→aO s.G.length l=true:=fun hr=>hr.under (by omega)
  have mv:=qk R' s.G.length;have hbx:∀ k cs,dR s'.boxes k=some cs→AN R' w' β' k cs:=fun k cs hk=>h.b.box k cs hk
  have bok:∀ k cs,dR (xM t.bx (xb++xc) s.boxes) k=some cs→AN (R'.cut s.G.length) w' β' k cs∧∃ eZ,dR s'.boxes k=some eZ:=fun k cs hk=>by
   refine FO (K:=fun _=>False) hbx g2 wb hu'.2.1 (fun k cs _ h1 h2=>?_) k cs (fun h=>h) hk;refine ⟨by rw [SS]; exact FM h1 h2 k2,?_⟩;obtain ⟨⟨vs,el,_,h4,_⟩,_⟩:=h0.b.box k cs h2;exact old h4
  have stG:(t.st s v).G=ee (t.sR v) t.g s.G xc:=by simp only [ca.st,e1,e2]
  have stB:(t.st s v).boxes=xM t.bx (xb++xc) s.boxes:=by simp only [ca.st,e1]
  have stS:(t.st s v).ab=rO t.XH (rN t.sl (xa++(xb++xc)) (AK t.W s.ab)):=by simp only [ca.st,hx]
  have ext:Ext R w (R'.cut s.G.length) w':=⟨st.I,st.cell,fun id ro hi=>by
   obtain ⟨jR,h1,h2⟩:=st.obj id ro hi;exact ⟨jR,kd.2 ⟨by have:=aU hi; omega,h1⟩,h2⟩,st.lp⟩
  refine ⟨⟨⟨?_,fun id go ro h1 h2=>?_,fun i j ri rj b h1 h2=>h.g.inj i j ri rj b (kd.1 h1).2 (kd.1 h2).2,h.g.wf,fun g cs hg=>(h.g.dF g cs hg).move mv (df _ (E.Dm g cs hg)),h.g.lo⟩,?_,?_,?_,?_⟩,ext,fun k cs hk=>?_⟩
  ·rw [stG,dA,k4];have:=h.g.len;have h3:s.G.length≤R'.obj.length:=by
    rcases Nat.lt_or_ge R'.obj.length s.G.length with bW|BM
    ·exfalso;have hx:R'.obj.length < R.obj.length:=by omega
     obtain ⟨jR,h1,_⟩:=st.obj R'.obj.length R.obj[R'.obj.length] (by rw [aN]; exact aaN hx);have:=aU h1;omega
    ·exact BM
   simp [ai.cut];omega
  ·rw [stG] at h1;obtain ⟨go',h3,h4⟩:=iJ g3 wc exc ⟨uf,k8⟩ hu'.2.2 LW id go h1;rcases h4 with h4|⟨LV,h5,h4⟩
   ·exact (h.g.obj id go' ro h3 (kd.1 h2).2).gok h4
   ·have bW:=aU h5;rw [← hlen] at bW;obtain ⟨SR,h6⟩:∃ SR,nth R.obj id=some SR:=⟨R.obj[id],by rw [aN]; exact aaN bW⟩;obtain ⟨jR,h7,h8⟩:=ext.obj id SR h6;have:jR=ro:=Option.some.inj (h7.symm.trans h2);subst this;exact iE.lok ext (h0.g.obj id LV SR h5 h6) h8 (h.g.obj id go' jR h3 (kd.1 h2).2) h4
  ·rw [stB];refine ⟨fun k cs hk=>(bok k cs hk).1,fun k k' cs eZ hk iZ he=>?_⟩;obtain ⟨_,c1,PO⟩:=bok k cs hk;obtain ⟨_,c2,Fs⟩:=bok k' eZ iZ;exact h.b.inj k k' c1 c2 PO Fs he
  ·rw [stS];have hT:AL (R'.cut s.G.length) w' β' (fun _=>False) (rN t.sl (xa++(xb++xc)) (AK t.W s.ab)) a'.tmps:=by
    refine xN mv h.t g1 (l':=xa) (r:=lb++lc) (r':=xb++xc) (wa.append (wb.append wc)) la1.symm hu'.1 (AM fun i hi hn=>?_);have hi1:XI t.sl t.W i=false:=by
     simp only [XI,Bool.or_eq_false_iff];refine ⟨?_,?_⟩
     ·cases hc:Pb t.sl i with
      |false=>rfl
      |true=>exact absurd (.inr (.inl (D0.1 hc))) hi
     ·cases hc:Pb t.W i with
      |false=>rfl
      |true=>exact absurd (.inl (D0.1 hc)) hi
    have hk:=D2 hi1 k1;rw [← FA] at hk;obtain ⟨c,h1,h2⟩:=h.t i (by rw [hk]; exact hn);rw [hk] at h2;refine ⟨c,h1,?_⟩;obtain ⟨c0,_,h4⟩:=h0.t i hn;revert h2 h4;cases lk s.ab i with
    |none=>exact fun _ _=>trivial
    |lp k off=>exact fun h2 _=>h2
    |v x=>exact fun h2 h4=>Rel.move mv (Rel.under (by omega) h4) h2
   exact xO h.t k6 (fun i hi=>hT i (fun h=>h) hi)
  ·show a'.tmps.size=s.n;rw [h.n,hs.n]
  ·show sP _ s.marks a'.defers;have:=h.d;rw [k3] at this;exact this.cut fun id hid=>by have:=h0.d.ids id hid; omega
  ·rw [stB] at hk;exact (bok k cs hk).2
 ·cases hd
theorem ca.EF {t:ca} {v:t.ps.T} (hs:aK s s') (h0:aY E R w β s a) (h:aY E R' w' β' s' a') (st:Step R w β s.boxes R' w' β' s'.boxes) (hd:t.dec s s'=some v) :
  aY E (R'.cut s.G.length) w' β' (t.st s v) a'∧Step R w β s.boxes (R'.cut s.G.length) w' β' (t.st s v).boxes:=by
 obtain ⟨h1,h2,h3⟩:=ca.H8 hs h0 h st.ext hd;refine ⟨h1,h2,st.os,st.tape,st.output,st.size,st.keep,fun b hb ho=>st.own b hb ?_,st.im⟩;rcases ho with ho|⟨k,cs,hk,rfl⟩
 ·exact .inl (rP ho)
 ·obtain ⟨c1,PO⟩:=h3 k cs hk;exact .inr ⟨k,c1,PO,rfl⟩
end EF
end Go.Am
