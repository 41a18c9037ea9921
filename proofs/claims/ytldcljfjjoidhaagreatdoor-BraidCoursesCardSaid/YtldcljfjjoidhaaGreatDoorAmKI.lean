/- The abstract machine: what is asked of bodies; values are brought to a short form. -/
import Derived.Test.YtldcljfjjoidhaaGreatDoorAmKH
import Derived.RangeFuncIn
import Derived.RangeFuncRecord
set_option linter.all false
namespace Go.Am
open Go
def aW (dt:Nat→Option af):Code→Bool
 | .region id ops true=>match dt id with
  | some p=>zh ops p
  | none=>false
 | .seq x y=>aW dt x&&aW dt y
 | .cond _ x y=>aW dt x&&aW dt y
 | .block _ c=>aW dt c
 | .loop c=>aW dt c
 | .scope c=>aW dt c
 | .rangeFunc _ _ a b=>aW dt a&&aW dt b
 | _=>true
structure C1 extends Env where
 dt:FuncId→Nat→Option af
 okF:FuncId→Bool
 IG:∀ f fn c,okF f=true→P.funcs[f]?=some fn→fn.body=some c→aW (dt f) c=true
def fQ {α:Type} (n:Nat) (K:Nat→α):α:=match n with
 | 0=>K 0
 | m+1=>K (Nat.succ m)
def r9 {α:Type} (n:Int) (K:Int→α):α:=match n with
 | .ofNat m=>fQ m fun m=>K (.ofNat m)
 | .negSucc m=>fQ m fun m=>K (.negSucc m)
def kN {α β:Type}:List β→(List β→α)→α
 | [],K=>K []
 | a :: l,K=>kN l fun l=>K (a :: l)
def uZ {α:Type} (v:AV) (K:AV→α):α:=match v with
 | .int k n=>r9 n fun n=>K (.int k n)
 | .bool true=>K (.bool true)
 | .bool false=>K (.bool false)
 | .list k sz es=>kN es fun es=>K (.list k sz es)
 | .str l=>kN l fun l=>K (.str l)
 | .gn id off sz len cap=>fQ off fun off=>fQ len fun len=>fQ cap fun cap=>K (.gn id off sz len cap)
 | .ptr id off=>fQ off fun off=>K (.ptr id off)
 | .agg cs=>kN cs fun cs=>K (.agg cs)
 | v=>K v
def u0 {α:Type} (l:aL) (K:aL→α):α:=match l with
 | .put d (.v a) :: l=>uZ a fun a=>K (.put d (.v a) :: l)
 | .put d (.lp k off) :: l=>fQ off fun off=>K (.put d (.lp k off) :: l)
 | l=>K l
def u4 {α:Type} (l:bK) (K:bK→α):α:=match l with
 | (d,cs) :: l=>kN cs fun cs=>K ((d,cs) :: l)
 | []=>K []
def zi {α:Type} (s:St) (K:St→α):α:=match s with
 | ⟨sl,bx,G,m,ro,n⟩=>u0 sl fun sl=>u4 bx fun bx=>kN G fun G=>K ⟨sl,bx,G,m,ro,n⟩
theorem kO {α:Type} (n:Nat) (K:Nat→α):fQ n K=K n:=by cases n <;> rfl
theorem wU {α:Type} (n:Int) (K:Int→α):r9 n K=K n:=by cases n <;> simp [r9,kO]
theorem ly {α β:Type}:∀ (l:List β) (K:List β→α),kN l K=K l
 | [],_=>rfl
 | a :: l,K=>by simp only [kN]; rw [ly]
theorem zj {α:Type} (v:AV) (K:AV→α):uZ v K=K v:=by
 unfold uZ
 split <;> simp [kO,wU,ly]
theorem zk {α:Type} (l:aL) (K:aL→α):u0 l K=K l:=by
 unfold u0
 split <;> simp [kO,zj]
theorem zl {α:Type} (l:bK) (K:bK→α):u4 l K=K l:=by
 unfold u4
 split <;> simp [ly]
theorem Bw {α:Type} (s:St) (K:St→α):zi s K=K s:=by
 obtain ⟨sl,bx,G,m,ro,n⟩:=s
 simp [zi,zk,zl,ly]
def u6:SV→SV→Bool
 | .v a,.v b=>cO a b
 | .lp k o,.lp k' o'=>Nat.beq k k'&&Nat.beq o o'
 | _,_=>false
def OL (E:Env) (f:FuncId) (ops:List Oper) (o:Oper) (s:St):Bool:=match vK ops s o with
 | some true=>match o.dst,aj E f s o with
  | some d,some (c,s')=>c&&u6 (lk s'.ae d) (lk s.ae d)
  | _,_=>false
 | some false=>true
 | none=>false
section
variable {E:Env} {f:FuncId} {s:St}
theorem um {a b:SV} (h:u6 a b=true):a=b:=by
 unfold u6 at h
 split at h
 ·rw [fL h]
 ·simp only [Bool.and_eq_true,Nat.beq_eq] at h; rw [h.1,h.2]
 ·cases h
theorem uo {ops:List Oper} {o:Oper} (h:OL E f ops o s=true):yY E f ops o s:=by
 unfold OL at h
 unfold yY
 split at h
 ·rename_i hg
  rw [hg]
  simp only
  split at h
  ·rename_i d c s' hd hs
   rw [Bool.and_eq_true] at h
   obtain ⟨rfl,h⟩:=h
   rw [hd,hs]
   exact ⟨rfl,um h⟩
  ·cases h
 ·rename_i hg
  rw [hg]
  trivial
 ·cases h
end
end Go.Am
namespace Go.Am
open Go
mutual
def AV.under (n:Nat):AV→Bool
 | .agg cs=>ax n cs
 | .aR cs=>ax n cs
 | .ep cs=>ax n cs
 | .list (.own id) _ _=>Nat.blt id n
 | .list (.aM id _) _ _=>Nat.blt id n
 | .fn _ x y=>ax n x&&ax n y
 | .iface _ v=>v.under n
 | .ptr id _=>Nat.blt id n
 | .gn id _ _ _ _=>Nat.blt id n
 | .dI id _ _ _ _=>Nat.blt id n
 | .gp id _ _ _ _ _=>Nat.blt id n
 | .map id=>Nat.blt id n
 | .yield id=>Nat.blt id n
 | _=>true
def ax (n:Nat):List AV→Bool
 | []=>true
 | a :: l=>a.under n&&ax n l
end
mutual
theorem fm (n:Nat):∀ {a:AV},a.closed=true→a.under n=true:=fun {a} h=>by
 cases a with
 | agg cs=>simp only [AV.closed,AV.under] at *; exact bH n h
 | aR cs=>simp only [AV.closed,AV.under] at *; exact bH n h
 | ep cs=>simp only [AV.closed,AV.under] at *; exact bH n h
 | list k sz es=>cases k <;> simp_all [AV.closed,AV.under,LK.closed]
 | fn f x y=>
  simp only [AV.closed,AV.under,Bool.and_eq_true] at *
  exact ⟨bH n h.1,bH n h.2⟩
 | iface t v=>simp only [AV.closed,AV.under] at *; exact fm n h
 | _=>simp_all [AV.closed,AV.under]
theorem bH (n:Nat):∀ {l:List AV},aK l=true→ax n l=true
 | [],_=>rfl
 | a :: l,h=>by
  simp only [aK,ax,Bool.and_eq_true] at *
  exact ⟨fm n h.1,bH n h.2⟩
end
theorem lz {a b:Nat} (h:Nat.blt a b=true):a < b:=Nat.le_of_ble_eq_true h
mutual
theorem ja:∀ {a:AV},a.under 0=true→a.closed=true:=fun {a} h=>by
 cases a with
 | agg cs=>simp only [AV.closed,AV.under] at *; exact cY h
 | aR cs=>simp only [AV.closed,AV.under] at *; exact cY h
 | ep cs=>simp only [AV.closed,AV.under] at *; exact cY h
 | list k sz es=>cases k <;> first | rfl | (simp [AV.under] at h)
 | fn f x y=>
  simp only [AV.closed,AV.under,Bool.and_eq_true] at *
  exact ⟨cY h.1,cY h.2⟩
 | iface t v=>simp only [AV.closed,AV.under] at *; exact ja h
 | ptr id off=>simp only [AV.under] at h; exact absurd (lz h) (Nat.not_lt_zero _)
 | gn id off sz len cap=>simp only [AV.under] at h; exact absurd (lz h) (Nat.not_lt_zero _)
 | dI id f off sz len=>simp only [AV.under] at h; exact absurd (lz h) (Nat.not_lt_zero _)
 | gp id f i off sz t=>simp only [AV.under] at h; exact absurd (lz h) (Nat.not_lt_zero _)
 | map id=>simp only [AV.under] at h; exact absurd (lz h) (Nat.not_lt_zero _)
 | yield id=>simp only [AV.under] at h; exact absurd (lz h) (Nat.not_lt_zero _)
 | _=>rfl
theorem cY:∀ {l:List AV},ax 0 l=true→aK l=true
 | [],_=>rfl
 | a :: l,h=>by
  simp only [ax,aK,Bool.and_eq_true] at *
  exact ⟨ja h.1,cY h.2⟩
end
section move
variable {R R2:ah} {w:World} {n:Nat}
structure Mv (R R2:ah) (n:Nat):Prop where
 I:∀ b o,R.I b o→R2.I b o
 obj:∀ id ro,id < n→nth R.obj id=some ro→nth R2.obj id=some ro
theorem gj {a b:Nat} (h:Nat.blt a b=true):a < b:=Nat.le_of_ble_eq_true h
theorem hU {a b:Nat} (h:a < b):Nat.blt a b=true:=Nat.ble_eq_true_of_le h
theorem uD.move (m:Mv R R2 n) {k:LK} {b o len cap:Nat} (h:uD R k b o len cap) (hk:∀ id,(k=.own id∨∃ j,k=.aM id j)→id < n):uD R2 k b o len cap:=by
 cases k with
 | nil=>exact h
 | full=>exact h
 | iy=>trivial
 | own id=>obtain ⟨ro,h1,h2⟩:=h; exact ⟨ro,m.obj id ro (hk id (.inl rfl)) h1,h2⟩
 | aM id j=>obtain ⟨ro,h1,h2⟩:=h; exact ⟨ro,m.obj id ro (hk id (.inr ⟨j,rfl⟩)) h1,h2⟩
mutual
theorem Rel.move (m:Mv R R2 n):∀ {a:AV} {c:Value},a.under n=true→Rel R w a c→Rel R2 w a c
 | _,_,_,.bool b=>.bool b
 | _,_,_,.int k i=>.int k i
 | _,_,_,.str l=>.str l
 | _,_,hb,.agg h h1=>.agg (h.move m (by simpa [AV.under] using hb)) h1
 | _,_,hb,.aR h=>.aR (h.move m (by simpa [AV.under] using hb))
 | _,_,_,.fa=>.fa
 | _,_,hb,.ptr h=>.ptr (m.obj _ _ (gj (by simpa [AV.under] using hb)) h)
 | _,_,hb,.ep h=>.ep (h.move m (by simpa [AV.under] using hb))
 | _,_,_,.gr=>.gr
 | _,_,_,.fy=>.fy
 | _,_,_,.jK=>.jK
 | _,_,hb,.jl h ho=>.jl (m.obj _ _ (gj (by simpa [AV.under] using hb)) h) ho
 | _,_,hb,.iS h ho=>.iS (m.obj _ _ (gj (by simpa [AV.under] using hb)) h) ho
 | .list k sz es,_,hb,.list h hl hc hk=>.list (h.move m) hl hc (hk.move m fun id e=>by rcases e with e | ⟨j,e⟩ <;> subst e <;> exact gj (by simpa [AV.under] using hb))
 | _,_,hb,.gn h hc=>.gn (m.obj _ _ (gj (by simpa [AV.under] using hb)) h) hc
 | _,_,hb,.gu h ho=>.gu (m.obj _ _ (gj (by simpa [AV.under] using hb)) h) ho
 | _,_,hb,.dI h ho hc=>.dI (m.obj _ _ (gj (by simpa [AV.under] using hb)) h) ho hc
 | _,_,hb,.gp h ho=>.gp (m.obj _ _ (gj (by simpa [AV.under] using hb)) h) ho
 | _,_,_,.gM=>.gM
 | _,_,hb,.map h=>.map (m.obj _ _ (gj (by simpa [AV.under] using hb)) h)
 | _,_,_,.bE=>.bE
 | _,_,hb,.fn h h'=>.fn (h.move m (by simp only [AV.under,Bool.and_eq_true] at hb; exact hb.1)) (h'.move m (by simp only [AV.under,Bool.and_eq_true] at hb; exact hb.2))
 | _,_,hb,.yield h=>.yield (m.obj _ _ (gj (by simpa [AV.under] using hb)) h)
 | _,_,_,.kj=>.kj
 | _,_,hb,.iface h=>.iface (h.move m (by simpa [AV.under] using hb))
theorem aA.move (m:Mv R R2 n):∀ {l:List AV} {cs:List Value},aA R w l cs→ax n l=true→aA R2 w l cs
 | _,_,.nil,_=>.nil
 | _,_,.cons h t,hb=>by
  simp only [ax,Bool.and_eq_true] at hb
  exact .cons (h.move m hb.1) (t.move m hb.2)
theorem ee.move (m:Mv R R2 n):∀ {b o sz:Nat} {l:List AV},ee R w b o sz l→ee R2 w b o sz l
 | _,_,_,_,.nil=>.nil
 | _,_,_,_,@ee.cons _ _ _ _ _ e _ hl ht hk h t=>.cons hl ht hk (h.move m (by
   cases e with
   | agg cs=>exact bH n (show aK cs=true by simpa [AV.closed] using hk)
   | aR cs=>simp [AV.aG] at ht
   | _=>simp only [AV.cells,ax,Bool.and_true]; exact fm n hk)) (t.move m)
theorem cG.move (m:Mv R R2 n):∀ {b o:Nat} {l:List AV},cG R w b o l→ax n l=true→cG R2 w b o l
 | _,_,_,.nil,_=>.nil
 | _,_,_,.cons hc h1 hi h t,hb=>by
  simp only [ax,Bool.and_eq_true] at hb
  exact .cons hc h1 (m.I _ _ hi) (h.move m hb.1) (t.move m hb.2)
end
theorem fZ.move {E:Env} (m:Mv R R2 n) {g:Nat} {cs:List AV} (h:fZ E R w g cs) (hu:ax n cs=true):fZ E R2 w g cs:=
 ⟨h.1.move m hu,fun hx=>⟨m.I _ _ (h.2 hx).1,(h.2 hx).2⟩⟩
mutual
theorem Rel.under (hn:R.obj.length≤n):∀ {a:AV} {c:Value},Rel R w a c→a.under n=true
 | _,_,.bool _ | _,_,.int _ _ | _,_,.str _ | _,_,.fa | _,_,.gr | _,_,.fy | _,_,.jK | _,_,.gM | _,_,.bE | _,_,.kj=>by simp [AV.under]
 | _,_,.agg h _=>by simp only [AV.under]; exact h.under hn
 | _,_,.aR h=>by simp only [AV.under]; exact h.under hn
 | _,_,.ptr h=>by simp only [AV.under]; exact hU (Nat.lt_of_lt_of_le (ba h) hn)
 | _,_,.ep h=>by simp only [AV.under]; exact h.under hn
 | _,_,.jl h _=>by simp only [AV.under]; exact hU (Nat.lt_of_lt_of_le (ba h) hn)
 | _,_,.iS h _=>by simp only [AV.under]; exact hU (Nat.lt_of_lt_of_le (ba h) hn)
 | _,_,@Rel.list _ _ k _ _ _ _ _ _ _ _ _ hk=>by
  cases k with
  | own id=>obtain ⟨ro,h1,_⟩:=hk; simp only [AV.under]; exact hU (Nat.lt_of_lt_of_le (ba h1) hn)
  | aM id j=>obtain ⟨ro,h1,_⟩:=hk; simp only [AV.under]; exact hU (Nat.lt_of_lt_of_le (ba h1) hn)
  | _=>simp [AV.under]
 | _,_,.gn h _=>by simp only [AV.under]; exact hU (Nat.lt_of_lt_of_le (ba h) hn)
 | _,_,.gu h _=>by simp only [AV.under]; exact hU (Nat.lt_of_lt_of_le (ba h) hn)
 | _,_,.dI h _ _=>by simp only [AV.under]; exact hU (Nat.lt_of_lt_of_le (ba h) hn)
 | _,_,.gp h _=>by simp only [AV.under]; exact hU (Nat.lt_of_lt_of_le (ba h) hn)
 | _,_,.map h=>by simp only [AV.under]; exact hU (Nat.lt_of_lt_of_le (ba h) hn)
 | _,_,.fn h h'=>by simp only [AV.under,Bool.and_eq_true]; exact ⟨h.under hn,h'.under hn⟩
 | _,_,.yield h=>by simp only [AV.under]; exact hU (Nat.lt_of_lt_of_le (ba h) hn)
 | _,_,.iface h=>by simp only [AV.under]; exact h.under hn
theorem aA.under (hn:R.obj.length≤n):∀ {l:List AV} {cs:List Value},aA R w l cs→ax n l=true
 | _,_,.nil=>rfl
 | _,_,.cons h t=>by simp only [ax,Bool.and_eq_true]; exact ⟨h.under hn,t.under hn⟩
theorem cG.under (hn:R.obj.length≤n):∀ {b o:Nat} {l:List AV},cG R w b o l→ax n l=true
 | _,_,_,.nil=>rfl
 | _,_,_,.cons _ _ _ h t=>by simp only [ax,Bool.and_eq_true]; exact ⟨h.under hn,t.under hn⟩
end
end move
end Go.Am
namespace Go.Am
open Go
mutual
def av.under (n:Nat):av→Bool
 | .agg ps=>ps.under n
 | .aR ps=>ps.under n
 | .own id _ _=>Nat.blt id n
 | .aM id _ _=>Nat.blt id n
 | .qm v=>v.under n
 | .two u v=>u.under n&&v.under n
 | _=>true
def aB.under (n:Nat):aB→Bool
 | .nil=>true
 | .cons p ps=>p.under n&&ps.under n
end
mutual
theorem av.cp {n:Nat}:∀ (p:av) (x:p.T),p.under n=true→(p.enc x).under n=true
 | .int k,x,_=>by simp [av.enc,AV.under]
 | .bool,x,_=>by simp [av.enc,AV.under]
 | .str,x,_=>by simp [av.enc,AV.under]
 | .agg ps,x,h=>by
  simp only [av.enc,AV.under]
  exact ps.cp x h
 | .aR ps,x,h=>by
  simp only [av.enc,AV.under]
  exact ps.cp x h
 | .list sz p,x,_=>by simp [av.enc,AV.under]
 | .own id sz p,x,h=>by
  simp only [av.enc,AV.under]
  exact h
 | .aM id sz p,x,h=>by
  simp only [av.enc,AV.under]
  exact h
 | .qm v,x,h=>by
  simp only [av.enc]
  exact h
 | .two u v,(x:Bool),h=>by
  simp only [av.under,Bool.and_eq_true] at h
  change AV.under n (bif x then v else u)=true
  cases x
  ·exact h.1
  ·exact h.2
theorem aB.cp {n:Nat}:∀ (ps:aB) (x:ps.T),ps.under n=true→ax n (ps.enc x)=true
 | .nil,x,_=>rfl
 | .cons p .nil,x,h=>by
  simp only [aB.under,Bool.and_true] at h
  simp only [aB.enc,ax,Bool.and_true]
  exact p.cp _ h
 | .cons p (.cons q ps),x,h=>by
  rw [aB.under,Bool.and_eq_true] at h
  simp only [aB.enc,ax,Bool.and_eq_true]
  exact ⟨p.cp _ h.1,(aB.cons q ps).cp _ h.2⟩
end
mutual
def AV.exact:AV→Bool
 | .bool _=>true
 | .int _ _=>true
 | .str _=>true
 | .agg cs=>dX cs
 | _=>false
def dX:List AV→Bool
 | []=>true
 | a :: l=>a.exact&&dX l
end
mutual
theorem av.fR:∀ (p:av) {a:AV},p.fits a=true→a.exact=true→p.enc (p.aX a)=a
 | .int k,a,h,e=>by
  cases a with
  | int k' n=>have hk:Jk k k'=true:=h; rw [x8 hk]; rfl
  | _=>cases h
 | .bool,a,h,e=>by
  cases a with
  | bool b=>rfl
  | _=>cases h
 | .str,a,h,e=>by
  cases a with
  | str b=>rfl
  | _=>cases h
 | .agg ps,a,h,e=>by
  cases a with
  | agg cs=>
   have e':dX cs=true:=by simpa [AV.exact] using e
   show AV.agg (ps.enc (ps.aX cs))=_
   rw [ps.fR (show ps.fits cs=true from h) e']
  | _=>cases h
 | .aR ps,a,h,e=>by cases a <;> first | (cases h; done) | simp [AV.exact] at e
 | .list sz p,a,h,e=>by cases a <;> first | (cases h; done) | simp [AV.exact] at e
 | .own id sz p,a,h,e=>by cases a <;> first | (cases h; done) | simp [AV.exact] at e
 | .aM id sz p,a,h,e=>by cases a <;> first | (cases h; done) | simp [AV.exact] at e
 | .qm u,a,h,e=>(fL (show cO a u=true from h)).symm
 | .two u v,a,h,_=>qp h
theorem aB.fR:∀ (ps:aB) {l:List AV},ps.fits l=true→dX l=true→ps.enc (ps.aX l)=l
 | .nil,l,h,_=>by
  cases l with
  | nil=>rfl
  | cons _ _=>cases h
 | .cons p .nil,l,h,e=>by
  cases l with
  | nil=>cases h
  | cons a l=>
   have h':(p.fits a&&l.isEmpty)=true:=h
   simp only [Bool.and_eq_true,List.isEmpty_iff] at h'
   obtain ⟨h1,rfl⟩:=h'
   simp only [dX,Bool.and_true] at e
   show [p.enc (p.aX a)]=_
   rw [p.fR h1 e]
 | .cons p (.cons q ps),l,h,e=>by
  cases l with
  | nil=>cases h
  | cons a l=>
   have h':(p.fits a&&(aB.cons q ps).fits l)=true:=h
   rw [Bool.and_eq_true] at h'
   simp only [dX,Bool.and_eq_true] at e
   show p.enc (p.aX a) :: (aB.cons q ps).enc ((aB.cons q ps).aX l)=_
   rw [p.fR h'.1 e.1,(aB.cons q ps).fR h'.2 e.2]
end
mutual
theorem j5:∀ {a:AV},a.exact=true→a.closed=true:=fun {a} h=>by
 cases a with
 | agg cs=>simp only [AV.exact,AV.closed] at *; exact lU h
 | _=>simp_all [AV.exact,AV.closed]
theorem lU:∀ {l:List AV},dX l=true→aK l=true
 | [],_=>rfl
 | a :: l,h=>by
  simp only [dX,aK,Bool.and_eq_true] at *
  exact ⟨j5 h.1,lU h.2⟩
end
def aq:List (AV × AV)→List AV
 | []=>[]
 | (k,v) :: l=>.agg [k,v] :: aq l
def M7:AV→AV × AV
 | .agg [k,v]=>(k,v)
 | _=>(dL,dL)
def ab:List AV→List (AV × AV)
 | []=>[]
 | a :: l=>M7 a :: ab l
def AV.entries:AV→List (AV × AV)
 | .list _ _ es=>ab es
 | _=>[]
theorem ki:∀ l:List (AV × AV),ab (aq l)=l
 | []=>rfl
 | (k,v) :: l=>by simp only [aq,ab,ki l]; rfl
def AV.C2:AV→Bool
 | .list .iy _ es=>dX es
 | _=>false
def gk:List AV→List AV→Prop
 | [],[]=>True
 | a :: l,b :: r=>fw a b∧gk l r
 | _,_=>False
theorem gk.refl:∀ l:List AV,gk l l
 | []=>trivial
 | a :: l=>⟨fw.refl a,gk.refl l⟩
theorem gk.length:∀ {l r:List AV},gk l r→l.length=r.length
 | [],[],_=>rfl
 | _ :: _,_ :: _,h=>by simp [gk.length h.2]
 | [],_ :: _,h=>h.elim
 | _ :: _,[],h=>h.elim
theorem gk.of {α:Type} {f:AV→Bool} {d:AV→α} {g:α→AV} (zV:∀ v,f v=true→fw v (g (d v))):∀ {es:List AV},allFit f es=true→gk es ((es.map d).map g)
 | [],_=>trivial
 | e :: es,h=>by
  simp only [allFit,Bool.and_eq_true] at h
  exact ⟨zV e h.1,gk.of zV h.2⟩
theorem av.wV (p:av) {a:AV} (h:p.fits a=true):gk a.cI (p.enc (p.aX a)).cI:=by
 cases p with
 | list sz p=>
  cases a with
  | list k a8 es=>
   have hb:((Nat.beq sz a8 || es.isEmpty)&&allFit p.fits es)=true:=h
   rw [Bool.and_eq_true] at hb
   exact gk.of (fun v hv=>p.bQ hv) hb.2
  | _=>cases h
 | own id sz p=>
  cases a with
  | list k a8 es=>
   cases k with
   | own fU=>
    have hb:((Nat.beq id fU&&Nat.beq sz a8)&&allFit p.fits es)=true:=h
    rw [Bool.and_eq_true] at hb
    exact gk.of (fun v hv=>p.bQ hv) hb.2
   | _=>cases h
  | _=>cases h
 | aM id sz p=>
  cases a with
  | list k a8 es=>
   cases k with
   | aM fU j=>
    have hb:((Nat.beq id fU&&Nat.beq sz a8)&&allFit p.fits es)=true:=h
    rw [Bool.and_eq_true] at hb
    exact gk.of (fun v hv=>p.bQ hv) hb.2
   | _=>cases h
  | _=>cases h
 | qm u=>rw [show a=u from fL (show cO a u=true from h)]; exact gk.refl _
 | two u v=>rw [qp h]; exact gk.refl _
 | _=>cases a <;> first | (cases h; done) | exact gk.refl _
def B1:List AV→List AV→Prop
 | [],[]=>True
 | a :: l,b :: r=>(a.exact=true→b=a)∧(a.C2=true→b.cI=a.cI)∧gk a.cI b.cI∧B1 l r
 | _,_=>False
theorem sa {f:AV→Bool} {α:Type} {d:AV→α} {g:α→AV} (zV:∀ a,f a=true→a.exact=true→g (d a)=a):∀ {es:List AV},allFit f es=true→dX es=true→(es.map d).map g=es
 | [],_,_=>rfl
 | a :: l,h,e=>by
  simp only [allFit,dX,Bool.and_eq_true] at *
  simp only [List.map_cons,zV a h.1 e.1,sa zV h.2 e.2]
theorem av.wW (p:av) {a:AV} (h:p.fits a=true) (e:a.C2=true):(p.enc (p.aX a)).cI=a.cI:=by
 cases a with
 | list k a8 es=>
  cases k with
  | iy=>
   have e':dX es=true:=e
   cases p with
   | list sz p=>
    have hb:((Nat.beq sz a8 || es.isEmpty)&&allFit p.fits es)=true:=h
    rw [Bool.and_eq_true] at hb
    show (es.map p.aX).map p.enc=_
    rw [sa (fun a=>p.fR) hb.2 e']
    rfl
   | qm u=>rw [show AV.list .iy a8 es=u from fL (show cO _ u=true from h)]; rfl
   | two u v=>rw [qp h]
   | _=>cases h
  | _=>cases e
 | _=>cases e
theorem aB.C3:∀ (ps:aB) {l:List AV},ps.fits l=true→B1 l (ps.enc (ps.aX l))
 | .nil,l,h=>by
  cases l with
  | nil=>trivial
  | cons _ _=>cases h
 | .cons p .nil,l,h=>by
  cases l with
  | nil=>cases h
  | cons a l=>
   have h':(p.fits a&&l.isEmpty)=true:=h
   simp only [Bool.and_eq_true,List.isEmpty_iff] at h'
   obtain ⟨h1,rfl⟩:=h'
   exact ⟨p.fR h1,p.wW h1,p.wV h1,trivial⟩
 | .cons p (.cons q ps),l,h=>by
  cases l with
  | nil=>cases h
  | cons a l=>
   have h':(p.fits a&&(aB.cons q ps).fits l)=true:=h
   rw [Bool.and_eq_true] at h'
   exact ⟨p.fR h'.1,p.wW h'.1,p.wV h'.1,(aB.cons q ps).C3 h'.2⟩
theorem B1.split:∀ {l r l':List AV},B1 (l++r) l'→∃ a b,l'=a++b∧B1 l a∧B1 r b∧a.length=l.length
 | [],r,l',h=>⟨[],l',rfl,trivial,h,rfl⟩
 | x :: l,r,[],h=>h.elim
 | x :: l,r,y :: l',h=>by
  obtain ⟨a,b,rfl,h2,h3,h4⟩:=B1.split (l:=l) (r:=r) (l':=l') h.2.2.2
  exact ⟨y :: a,b,rfl,⟨h.1,h.2.1,h.2.2.1,h2⟩,h3,by simp [h4]⟩
mutual
def AV.sb (L:Nat→Nat):AV→AV
 | .dI id 0 0 sz 0=>.dI id (L id) 0 sz (L id)
 | .fn f x y=>.fn f (C4 L x) (C4 L y)
 | v=>v
def C4 (L:Nat→Nat):List AV→List AV
 | []=>[]
 | a :: l=>a.sb L :: C4 L l
end
mutual
def av.inst (L:Nat→Nat):av→av
 | .agg ps=>.agg (ps.inst L)
 | .aR ps=>.aR (ps.inst L)
 | .qm v=>.qm (v.sb L)
 | p=>p
def aB.inst (L:Nat→Nat):aB→aB
 | .nil=>.nil
 | .cons p ps=>.cons (p.inst L) (ps.inst L)
end
mutual
def av.hY (L:Nat→Nat):(p:av)→p.T→AV
 | .int k,(n:Int)=>.int k n
 | .bool,(b:Bool)=>.bool b
 | .str,(s:List UInt8)=>.str s
 | .agg ps,x=>.agg (ps.hY L x)
 | .aR ps,x=>.aR (ps.hY L x)
 | .list sz p,(xs:List p.T)=>.list .iy sz (xs.map p.enc)
 | .own id sz p,(xs:List p.T)=>.list (.own id) sz (xs.map p.enc)
 | .aM id sz p,(x:Nat × List p.T)=>.list (.aM id x.1) sz (x.2.map p.enc)
 | .qm v,_=>v.sb L
 | .two u v,(b:Bool)=>bif b then v else u
def aB.hY (L:Nat→Nat):(ps:aB)→ps.T→List AV
 | .nil,_=>[]
 | .cons p .nil,x=>[p.hY L x]
 | .cons p (.cons q ps),x=>p.hY L x.1 :: (aB.cons q ps).hY L x.2
end
mutual
def av.jz (L:Nat→Nat):av→AV→Bool
 | .int k,v=>av.fits (.int k) v
 | .bool,v=>av.fits .bool v
 | .str,v=>av.fits .str v
 | .agg ps,v=>match v with
  | .agg cs=>ps.jz L cs
  | _=>false
 | .aR ps,v=>match v with
  | .aR cs=>ps.jz L cs
  | _=>false
 | .list sz p,v=>av.fits (.list sz p) v
 | .own id sz p,v=>av.fits (.own id sz p) v
 | .aM id sz p,v=>av.fits (.aM id sz p) v
 | .qm v,u=>cO u (v.sb L)
 | .two u v,a=>av.fits (.two u v) a
def aB.jz (L:Nat→Nat):aB→List AV→Bool
 | .nil,l=>l.isEmpty
 | .cons p ps,l=>match l with
  | a :: l=>p.jz L a&&ps.jz L l
  | []=>false
end
def aB.Bx (L:Nat→Nat) (ps:aB) (l:List AV):Option ps.T:=bif ps.jz L l then some (ps.aX l) else none
mutual
theorem av.fE (L:Nat→Nat):∀ (p:av) (a:AV),p.jz L a=(p.inst L).fits a
 | .int _,_=>rfl
 | .bool,_=>rfl
 | .str,_=>rfl
 | .agg ps,a=>by
  simp only [av.jz,av.inst,av.fits]
  cases a <;> first | rfl | exact ps.fE L _
 | .aR ps,a=>by
  simp only [av.jz,av.inst,av.fits]
  cases a <;> first | rfl | exact ps.fE L _
 | .list _ _,_=>rfl
 | .own _ _ _,_=>rfl
 | .aM _ _ _,_=>rfl
 | .qm _,_=>rfl
 | .two _ _,_=>rfl
theorem aB.fE (L:Nat→Nat):∀ (ps:aB) (l:List AV),ps.jz L l=(ps.inst L).fits l
 | .nil,_=>rfl
 | .cons p ps,l=>by
  cases l with
  | nil=>rfl
  | cons a l=>
   simp only [aB.jz,aB.inst,aB.fits]
   rw [p.fE L a,ps.fE L l]
end
mutual
theorem av.eY (L:Nat→Nat):∀ (p:av) (a:AV),p.hY L (p.aX a)=(p.inst L).enc ((p.inst L).aX a)
 | .int _,_=>rfl
 | .bool,_=>rfl
 | .str,_=>rfl
 | .agg ps,a=>congrArg AV.agg (ps.eY L a.fV)
 | .aR ps,a=>congrArg AV.aR (ps.eY L a.Jl)
 | .list _ _,_=>rfl
 | .own _ _ _,_=>rfl
 | .aM _ _ _,_=>rfl
 | .qm _,_=>rfl
 | .two _ _,_=>rfl
theorem aB.eY (L:Nat→Nat):∀ (ps:aB) (l:List AV),ps.hY L (ps.aX l)=(ps.inst L).enc ((ps.inst L).aX l)
 | .nil,_=>rfl
 | .cons p .nil,l=>by
  show [p.hY L (p.aX (cP l))]=[(p.inst L).enc ((p.inst L).aX (cP l))]
  rw [p.eY L]
 | .cons p (.cons q ps),l=>by
  show p.hY L (p.aX (cP l)) :: (aB.cons q ps).hY L ((aB.cons q ps).aX (B5 l))=(p.inst L).enc ((p.inst L).aX (cP l)) :: ((aB.cons q ps).inst L).enc (((aB.cons q ps).inst L).aX (B5 l))
  rw [p.eY L,(aB.cons q ps).eY L]
end
mutual
theorem AV.sd {n:Nat} (L:Nat→Nat):∀ {a:AV},a.under n=true→(a.sb L).under n=true:=fun {a} h=>by
 cases a with
 | dI id f off sz len=>
  unfold AV.sb
  split
  ·rename_i h1
   cases h1
   exact h
  ·rename_i h1
   cases h1
  ·exact h
 | fn f x y=>
  simp only [AV.sb,AV.under,Bool.and_eq_true] at *
  exact ⟨mz L h.1,mz L h.2⟩
 | _=>exact h
theorem mz {n:Nat} (L:Nat→Nat):∀ {l:List AV},ax n l=true→ax n (C4 L l)=true
 | [],_=>rfl
 | a :: l,h=>by
  simp only [C4,ax,Bool.and_eq_true] at *
  exact ⟨AV.sd L h.1,mz L h.2⟩
end
mutual
theorem av.fF {n:Nat} (L:Nat→Nat):∀ {p:av},p.under n=true→(p.inst L).under n=true
 | .int _,_=>rfl
 | .bool,_=>rfl
 | .str,_=>rfl
 | .agg ps,h=>aB.fF L (ps:=ps) h
 | .aR ps,h=>aB.fF L (ps:=ps) h
 | .list _ _,_=>rfl
 | .own _ _ _,h=>h
 | .aM _ _ _,h=>h
 | .qm v,h=>AV.sd L (a:=v) h
 | .two _ _,h=>h
theorem aB.fF {n:Nat} (L:Nat→Nat):∀ {ps:aB},ps.under n=true→(ps.inst L).under n=true
 | .nil,_=>rfl
 | .cons p ps,h=>by
  simp only [aB.inst,aB.under,Bool.and_eq_true] at *
  exact ⟨av.fF L h.1,aB.fF L h.2⟩
end
theorem AV.uq (L:Nat→Nat) (v:AV):(v.sb L).cI=v.cI:=by
 unfold AV.sb
 split <;> rfl
def kl:List AV→List AV→Prop
 | [],[]=>True
 | a :: l,b :: r=>a.cI.length=b.cI.length∧kl l r
 | _,_=>False
theorem av.kP (L L':Nat→Nat) (p:av) (x:p.T):(p.hY L x).cI=(p.hY L' x).cI:=by
 cases p with
 | qm v=>
  show (v.sb L).cI=(v.sb L').cI
  rw [AV.uq,AV.uq]
 | _=>rfl
theorem aB.kP (L L':Nat→Nat):∀ (ps:aB) (x:ps.T),kl (ps.hY L x) (ps.hY L' x)
 | .nil,_=>trivial
 | .cons p .nil,x=>⟨congrArg List.length (p.kP L L' x),trivial⟩
 | .cons p (.cons q ps),x=>⟨congrArg List.length (p.kP L L' x.1),(aB.cons q ps).kP L L' x.2⟩
theorem B1.M8:∀ {l r:List AV},B1 l r→kl l r
 | [],[],_=>trivial
 | _ :: _,_ :: _,h=>⟨h.2.2.1.length,h.2.2.2.M8⟩
 | [],_ :: _,h=>h.elim
 | _ :: _,[],h=>h.elim
theorem kl.trans:∀ {l r u:List AV},kl l r→kl r u→kl l u
 | [],[],[],_,_=>trivial
 | _ :: _,_ :: _,_ :: _,h,k=>⟨h.1.trans k.1,h.2.trans k.2⟩
 | [],_ :: _,_,h,_=>h.elim
 | _ :: _,[],_,h,_=>h.elim
 | [],[],_ :: _,_,k=>k.elim
 | _ :: _,_ :: _,[],_,k=>k.elim
theorem kl.drop:∀ {l r:List AV} (n:Nat),kl l r→kl (l.drop n) (r.drop n)
 | l,r,0,h=>by simpa using h
 | [],[],_+1,_=>by simp [kl]
 | _ :: _,_ :: _,n+1,h=>by simpa using kl.drop n h.2
 | [],_ :: _,_+1,h=>h.elim
 | _ :: _,[],_+1,h=>h.elim
theorem aB.FF (L:Nat→Nat) (ps:aB) {l:List AV} {x:ps.T} (h:ps.Bx L l=some x):bL l (ps.hY L x)∧B1 l (ps.hY L x):=by
 unfold aB.Bx at h
 cases hf:ps.jz L l with
 | true=>
  rw [hf] at h
  cases h
  rw [ps.eY L]
  rw [ps.fE L] at hf
  have hd:(ps.inst L).dec l=some ((ps.inst L).aX l):=by unfold aB.dec; rw [hf]; rfl
  exact ⟨((ps.inst L).mh hd).1,(ps.inst L).C3 hf⟩
 | false=>rw [hf] at h; cases h
theorem aB.zm {n:Nat} (L:Nat→Nat) (ps:aB) (hp:ps.under n=true) (l:List AV):ax n (ps.hY L (ps.aX l))=true:=by
 rw [ps.eY L]
 exact (ps.inst L).cp _ (aB.fF L hp)
theorem aB.By (L:Nat→Nat) (ps:aB) {l:List AV} {x:ps.T} (h:ps.Bx L l=some x):x=ps.aX l:=by
 unfold aB.Bx at h
 cases hf:ps.jz L l with
 | true=>rw [hf] at h; cases h; rfl
 | false=>rw [hf] at h; cases h
end Go.Am
namespace Go.Am
open Go
inductive xV
 | open_
 | busy
 | ret
 | ex (i:Nat)
def xV.is:xV→Bool→Option Code→Bool→Bool
 | .open_,false,none,false=>true
 | .busy,true,none,false=>true
 | .ret,false,some .ret,true=>true
 | .ex i,false,some (.exit j),true=>Nat.beq i j
 | _,_,_,_=>false
def xV.b:xV→Bool
 | .busy=>true
 | _=>false
def xV.p:xV→Option Code
 | .ret=>some .ret
 | .ex i=>some (.exit i)
 | _=>none
def xV.d:xV→Bool
 | .ret=>true
 | .ex _=>true
 | _=>false
theorem xV.Au {k:xV} {b:Bool} {p:Option Code} {d:Bool} (h:k.is b p d=true):b=k.b∧p=k.p∧d=k.d:=by
 unfold xV.is at h
 split at h <;> first | exact ⟨rfl,rfl,rfl⟩ | (cases h; done) | skip
 rw [Nat.eq_of_beq_eq_true h]
 exact ⟨rfl,rfl,rfl⟩
inductive GL
 | row (n:Nat)
 | tok (loc sz:Nat) (e:TypeId)
 | dead
 | lp (k:xV)
 | bA
 | map
 | C5
 | dw (sz:Nat) (e:TypeId)
 | aM (sz:Nat) (e:TypeId)
 | nK
 | kf (me:Nat)
def bI (fs:List Nat):List AV:=fs.map fun n:Nat=>.int .i64 n
def aH (l:List AV):List Nat:=l.map fun a=>a.iz.toNat
theorem pE (fs:List Nat):aH (bI fs)=fs:=by
 induction fs with
 | nil=>rfl
 | cons n fs ih=>
  show (AV.int .i64 n).iz.toNat :: aH (bI fs)=n :: fs
  rw [ih]
  simp [AV.iz]
theorem se (fs:List Nat):dX (bI fs)=true:=by
 induction fs with
 | nil=>rfl
 | cons n fs ih=>exact ih
def J9 (k:xV):GO→GO→Bool
 | .loop _ _ _ _ _ _ _ _ _ _,.loop b p _ _ _ _ _ _ _ d=>k.is b p d
 | _,_=>false
def IH (k:xV):GO→GO
 | .loop _ _ fn sl n ps nC bd d _=>.loop k.b k.p fn sl n ps nC bd d k.d
 | _=>.dead
def cT (es:List (AV × AV)):Bool:=dX (aq es)
def va:GO→GO→Bool
 | .tok f sz e,.tok f' a8 e'=>decide (f'=f)&&(Nat.beq a8 sz&&Nat.beq e' e)
 | .defers a,.defers b=>match a,b with
  | true,true=>true
  | false,false=>true
  | _,_=>false
 | .dead,_=>true
 | _,_=>false
structure bJ where
 ps:aB
 sl:List Tmp
 W:List Tmp
 bx:List (Nat × Nat)
 g:List GL
 LV:List (Tmp × Nat × Nat)
def sf (ae:aL):List Tmp→Option (List AV)
 | []=>some []
 | t :: l=>match lk ae t with
  | .v a=>match sf ae l with
   | some r=>some (a :: r)
   | none=>none
  | _=>none
def sh (bx:bK):List (Nat × Nat)→Option (List AV)
 | []=>some []
 | (k,n) :: l=>match cz bx k with
  | some cs=>match sh bx l with
   | some r=>bif Nat.beq cs.length n then some (cs++r) else none
   | none=>none
  | none=>none
def gB:List GL→List GO→Option (List AV)
 | [],_=>some []
 | .row n :: l,.row cs _ :: G=>match gB l G with
  | some r=>bif Nat.beq cs.length n then some (cs++r) else none
  | none=>none
 | .tok _ sz e :: l,.tok _ a8 e' :: G=>bif Nat.beq sz a8&&Nat.beq e e' then gB l G else none
 | .dead :: l,_ :: G=>gB l G
 | .lp _ :: l,_ :: G=>gB l G
 | .bA :: l,_ :: G=>gB l G
 | .map :: l,.map es :: G=>match gB l G with
  | some r=>some (.list .iy 2 (aq es) :: r)
  | none=>none
 | .C5 :: l,.eo s pos :: G=>match gB l G with
  | some r=>some (.str s :: .int .i64 pos :: r)
  | none=>none
 | .dw sz e :: l,.dw es a8 e' :: G=>match gB l G with
  | some r=>bif Nat.beq sz a8&&Nat.beq e e' then some (.list .iy a8 es :: r) else none
  | none=>none
 | .aM sz e :: l,.aM fs a8 e' :: G=>match gB l G with
  | some r=>bif Nat.beq sz a8&&Nat.beq e e' then some (.list .iy 1 (bI fs) :: r) else none
  | none=>none
 | .nK :: l,.map es :: G=>match gB l G with
  | some r=>some (.list .iy 2 (aq es) :: r)
  | none=>none
 | .kf me :: l,.kf mid' n left _ _ :: G=>match gB l G with
  | some r=>bif Nat.beq me mid' then some (.int .i64 n :: .list .iy 1 (bI left) :: r) else none
  | none=>none
 | _,_=>none
def C6 (vs:List AV) (loc:Nat):Nat:=match nth vs loc with
 | some (.list _ _ es)=>es.length
 | _=>0
def II:GO→GO→Bool
 | .row _ e,.row _ e'=>Nat.beq e e'
 | _,_=>false
def IJ:GO→GO→Bool
 | .kf _ _ _ _ t,.kf _ _ _ _ t'=>Nat.beq t t'
 | _,_=>false
def M9:GO→TypeId
 | .kf _ _ _ _ t=>t
 | _=>0
def Na:GO→TypeId
 | .row _ e=>e
 | _=>0
def cr (vs:List AV):List GL→List GO→List GO→Bool
 | [],_,_=>true
 | .tok loc _ _ :: l,_ :: B,.tok f _ _ :: G=>decide (f=C6 vs loc)&&cr vs l B G
 | .tok _ _ _ :: _,_,_=>false
 | .lp k :: l,o :: B,o' :: G=>J9 k o o'&&cr vs l B G
 | .bA :: l,o :: B,o' :: G=>va o o'&&cr vs l B G
 | .row _ :: l,b :: B,g :: G=>II b g&&cr vs l B G
 | .map :: l,_ :: B,.map es :: G=>cT es&&cr vs l B G
 | .map :: _,_,_=>false
 | .C5 :: l,_ :: B,_ :: G=>cr vs l B G
 | .dw _ _ :: l,_ :: B,_ :: G=>cr vs l B G
 | .aM _ _ :: l,_ :: B,_ :: G=>cr vs l B G
 | .nK :: l,_ :: B,_ :: G=>cr vs l B G
 | .kf _ :: l,b :: B,g :: G=>IJ b g&&cr vs l B G
 | .dead :: l,_ :: B,_ :: G=>cr vs l B G
 | _,_,_=>false
def kQ:List Tmp→List AV→aL→aL
 | t :: ts,a :: l,r=>.put t (.v a) :: kQ ts l r
 | _,_,r=>r
def kR:List (Tmp × Nat × Nat)→aL→aL
 | (t,k,o) :: l,r=>.put t (.lp k o) :: kR l r
 | [],r=>r
def Av (ae:aL):List (Tmp × Nat × Nat)→Bool
 | []=>true
 | (t,k,o) :: l=>(match lk ae t with
  | .lp k' o'=>Nat.beq k' k&&Nat.beq o' o
  | _=>false)&&Av ae l
def si:List Tmp→aL→aL
 | t :: ts,r=>.put t .none :: si ts r
 | [],r=>r
def pF:List (Nat × Nat)→List AV→bK→bK
 | (k,n) :: r,l,b=>(k,l.take n) :: pF r (l.drop n) b
 | [],_,b=>b
def cm (vs:List AV):List GL→List GO→List AV→List GO
 | .row n :: r,B,l=>.row (l.take n) (Na (B.headD .dead)) :: cm vs r B.tail (l.drop n)
 | .tok loc sz e :: r,B,l=>.tok (C6 vs loc) sz e :: cm vs r B.tail l
 | .dead :: r,B,l=>.dead :: cm vs r B.tail l
 | .lp k :: r,B,l=>IH k (B.headD .dead) :: cm vs r B.tail l
 | .bA :: r,B,l=>B.headD .dead :: cm vs r B.tail l
 | .map :: r,B,l=>.map (AV.entries (cP l)) :: cm vs r B.tail l.tail
 | .C5 :: r,B,l=>.eo (AV.Jm (cP l)) (AV.iz (cP l.tail)).toNat :: cm vs r B.tail l.tail.tail
 | .dw sz e :: r,B,l=>.dw (AV.cI (cP l)) sz e :: cm vs r B.tail l.tail
 | .aM sz e :: r,B,l=>.aM (aH (AV.cI (cP l))) sz e :: cm vs r B.tail l.tail
 | .nK :: r,B,l=>.map (AV.entries (cP l)) :: cm vs r B.tail l.tail
 | .kf me :: r,B,l=>.kf me (AV.iz (cP l)).toNat (aH (AV.cI (cP l.tail))) none (M9 (B.headD .dead)) :: cm vs r B.tail l.tail.tail
 | [],_,_=>[]
def vb:List (Nat × Nat)→Nat
 | []=>0
 | (_,n) :: l=>n+vb l
def hZ:List GL→List AV→Nat→Nat
 | [],_,_=>0
 | .dw _ _ :: r,l,i=>match i with
  | 0=>(AV.cI (cP l)).length
  | i+1=>hZ r l.tail i
 | .row n :: r,l,i=>match i with
  | 0=>0
  | i+1=>hZ r (l.drop n) i
 | .map :: r,l,i=>match i with
  | 0=>0
  | i+1=>hZ r l.tail i
 | .C5 :: r,l,i=>match i with
  | 0=>0
  | i+1=>hZ r l.tail.tail i
 | .aM _ _ :: r,l,i=>match i with
  | 0=>0
  | i+1=>hZ r l.tail i
 | .nK :: r,l,i=>match i with
  | 0=>0
  | i+1=>hZ r l.tail i
 | .kf _ :: r,l,i=>match i with
  | 0=>0
  | i+1=>hZ r l.tail.tail i
 | _ :: r,l,i=>match i with
  | 0=>0
  | i+1=>hZ r l i
def bJ.lJ (t:bJ) (v:t.ps.T):List AV:=t.ps.hY (hZ t.g (((t.ps.hY (fun _=>0) v).drop t.sl.length).drop (vb t.bx))) v
def bJ.st (t:bJ) (s:St) (v:t.ps.T):St:=
 ⟨kR t.LV (kQ t.sl (t.lJ v) (si t.W s.ae)),pF t.bx ((t.lJ v).drop t.sl.length) s.boxes,cm (t.lJ v) t.g s.G (((t.lJ v).drop t.sl.length).drop (vb t.bx)),s.marks,s.ro,s.n⟩
def E7:List Nat→Nat→Bool
 | [],_=>false
 | a :: l,n=>Nat.beq a n || E7 l n
def LW (l:List Tmp) (W:List Tmp) (n:Nat):Bool:=E7 l n || E7 W n
def tz (d:Nat) (l W:List Tmp):aL→Bool
 | []=>true
 | .put t (.lp k _) :: r=>(!(Nat.beq k d) || LW l W t)&&tz d l W r
 | _ :: r=>tz d l W r
def oL (l W:List Tmp) (base:aL):aL→Bool
 | []=>true
 | .put d _ :: r=>LW l W d&&oL l W base r
 | .kill d :: r=>tz d l W base&&oL l W base r
def pU:List (Nat × Nat)→Nat→Bool
 | [],_=>false
 | (a,_) :: l,n=>Nat.beq a n || pU l n
def qy (l:List (Nat × Nat)) (base:bK):bK→Bool
 | []=>true
 | (k,_) :: r=>(pU l k || (cz base k).isNone)&&qy l base r
def FG:List Nat→List Nat→Bool
 | [],[]=>true
 | a :: l,b :: r=>Nat.beq a b&&FG l r
 | _,_=>false
def av.Rt (n:Nat):av→Bool
 | .list _ p=>p.under n
 | _=>false
def aB.flags (n:Nat):aB→List Bool
 | .nil=>[]
 | .cons p ps=>p.Rt n :: ps.flags n
def ia:List GL→List Bool→Bool
 | [],_=>true
 | .dw _ _ :: r,f :: l=>f&&ia r l
 | .dw _ _ :: _,[]=>false
 | .row n :: r,l=>ia r (dC n l)
 | .map :: r,l=>ia r (dC 1 l)
 | .C5 :: r,l=>ia r (dC 2 l)
 | .aM _ _ :: r,l=>ia r (dC 1 l)
 | .nK :: r,f :: l=>f&&ia r l
 | .nK :: _,[]=>false
 | .kf _ :: r,l=>ia r (dC 2 l)
 | _ :: r,l=>ia r l
def C7 (n:Nat):List GL→Bool
 | []=>true
 | .kf me :: r=>Nat.blt me n&&C7 n r
 | _ :: r=>C7 n r
def bJ.ok (t:bJ) (s s':St):Bool:=
 oL t.sl t.W s.ae (s'.ae.take (s'.ae.length - s.ae.length))&&qy t.bx s.boxes (s'.boxes.take (s'.boxes.length - s.boxes.length)) &&
  FG s'.marks s.marks&&Nat.beq t.g.length s.G.length&&(t.ps.under s.G.length&&(ia t.g (dC (vb t.bx) (dC t.sl.length (t.ps.flags s.G.length)))&&C7 s.G.length t.g))&&Av s'.ae t.LV
def bJ.dec (t:bJ) (s s':St):Option t.ps.T:=
 bif t.ok s s' then
  match sf s'.ae t.sl,sh s'.boxes t.bx,gB t.g s'.G with
  | some a,some b,some c=>(t.ps.Bx (hZ t.g c) (a++(b++c))).bind fun v=>bif cr (t.lJ v) t.g s.G s'.G then some v else none
  | _,_,_=>none
 else none
theorem vc {l:List Nat} {n:Nat}:E7 l n=true↔n∈l:=by
 induction l with
 | nil=>simp [E7]
 | cons a l ih=>
  simp only [E7,Bool.or_eq_true,Nat.beq_eq,ih,List.mem_cons]
  constructor
  ·rintro (h | h)
   ·exact .inl h.symm
   ·exact .inr h
  ·rintro (h | h)
   ·exact .inl h.symm
   ·exact .inr h
theorem Aw:∀ {a b:List Nat},FG a b=true→a=b
 | [],[],_=>rfl
 | a :: l,b :: r,h=>by
  simp only [FG,Bool.and_eq_true,Nat.beq_eq] at h
  rw [h.1,Aw h.2]
 | [],_ :: _,h=>by cases h
 | _ :: _,[],h=>by cases h
theorem vd {d:Nat} {l W:List Tmp} {t off:Nat}:∀ {base:aL},tz d l W base=true→lk base t=.lp d off→LW l W t=true
 | [],_,h=>by simp [lk] at h
 | .put t' x :: r,hn,h=>by
  by_cases e:t'=t
  ·subst e
   rw [au] at h
   subst h
   simp only [tz,Nat.beq_refl,Bool.not_true,Bool.false_or,Bool.and_eq_true] at hn
   exact hn.1
  ·rw [aC e] at h
   refine vd (base:=r) ?_ h
   cases x <;> simp only [tz,Bool.and_eq_true] at hn
   ·exact hn
   ·exact hn
   ·exact hn.2
 | .kill d' :: r,hn,h=>by
  rcases zU (l:=r) (d:=d') (t:=t) with ⟨h1,_⟩ | h1
  ·rw [h1] at h
   exact vd (base:=r) hn h
  ·rw [h1] at h
   cases h
theorem vf {l W:List Tmp} {base:aL} {t:Nat} (ht:LW l W t=false):∀ {pre:aL},oL l W base pre=true→lk (pre++base) t=lk base t
 | [],_=>rfl
 | .put d x :: r,h=>by
  simp only [oL,Bool.and_eq_true] at h
  have bT:d≠t:=fun e=>by rw [e,ht] at h; exact absurd h.1 (by simp)
  rw [List.cons_append,aC bT]
  exact vf ht h.2
 | .kill d :: r,h=>by
  simp only [oL,Bool.and_eq_true] at h
  have ih:=vf ht h.2
  simp only [List.cons_append,lk,ih]
  cases hb:lk base t with
  | lp k off=>
   by_cases e:k=d
   ·subst e
    have:=vd h.1 hb
    rw [ht] at this
    cases this
   ·simp [jL e]
  | _=>rfl
theorem wX {l:List (Nat × Nat)} {base:bK} {k:Nat} {cs:List AV} (hk:pU l k=false) (hb:cz base k=some cs):∀ {pre:bK},qy l base pre=true→cz (pre++base) k=some cs
 | [],_=>hb
 | (d,x) :: r,h=>by
  simp only [qy,Bool.and_eq_true] at h
  have bT:d≠k:=fun e=>by
   rw [e,hk,hb] at h
   exact absurd h.1 (by simp)
  rw [List.cons_append,cz,jL bT]
  exact wX hk hb h.2
theorem wY {α:Type} (pre base:List α):(pre++base).take ((pre++base).length - base.length)=pre:=by
 rw [List.length_append,Nat.add_sub_cancel,List.take_left]
def ah.cut (R:ah) (n:Nat):ah:=⟨R.I,R.obj.take n⟩
theorem gC {R:ah} {n id:Nat} {ro:RO}:nth (R.cut n).obj id=some ro↔id < n∧nth R.obj id=some ro:=by
 simp only [ah.cut,aJ,List.getElem?_take]
 split
 ·simp_all
 ·simp_all
  omega
theorem kS (R:ah) (n:Nat):Mv R (R.cut n) n:=⟨fun _ _ h=>h,fun _ _ hl h=>gC.2 ⟨hl,h⟩⟩
section vJ
variable {E:Env} {R R':ah} {w w':World} {β β':Nat→Nat} {s s':St} {a a':Act}
def sj (R:ah) (w:World) (β:Nat→Nat) (K:Nat→Prop) (ae:aL) (tmps:Array Value):Prop:=
 ∀ i,¬ K i→lk ae i≠.none→∃ c,tmps[i]?=some c∧lE R w β (lk ae i) c
theorem sk {tmps:Array Value} {base:aL}:∀ {W:List Tmp} {K:Nat→Prop},sj R w β (fun i=>i∈W∨K i) base tmps→sj R w β K (si W base) tmps
 | [],K,h=>fun i hi hn=>h i (by simpa using hi) hn
 | t :: W,K,h=>fun i hi hn=>by
  have ih:sj R w β (fun i=>i=t∨K i) (si W base) tmps:=sk (W:=W) (fun j hj=>h j (fun hc=>hj (by
   rcases hc with hc | hc
   ·rcases List.mem_cons.1 hc with hc | hc
    ·exact .inr (.inl hc)
    ·exact .inl hc
   ·exact .inr (.inr hc))))
  simp only [si] at hn ⊢
  by_cases e:t=i
  ·subst e
   rw [au] at hn
   exact absurd rfl hn
  ·rw [aC e] at hn ⊢
   exact ih i (by simp; exact ⟨fun e'=>e e'.symm,hi⟩) hn
theorem pG {n:Nat} (m:Mv R' R n) {tmps:Array Value} {ae:aL} (hT:kp R' w β ae tmps) {base:aL}:∀ {ts:List Tmp} {K:Nat→Prop} {l l' r r':List AV},sf ae ts=some l→bL (l++r) (l'++r')→l.length=l'.length→ax n l'=true →
  sj R w β (fun i=>i∈ts∨K i) base tmps→sj R w β K (kQ ts (l'++r') base) tmps
 | [],K,l,l',r,r',_,_,_,_,h=>fun i hi hn=>by
  have e:kQ [] (l'++r') base=base:=rfl
  rw [e] at hn ⊢
  exact h i (by simpa using hi) hn
 | t :: ts,K,l,l',r,r',hg,hw,hl,hu,h=>by
  unfold sf at hg
  split at hg
  ·rename_i a ha
   split at hg
   ·rename_i l0 q9
    cases hg
    cases l' with
    | nil=>simp at hl
    | cons b l'=>
     simp only [List.cons_append,bL] at hw
     simp only [ax,Bool.and_eq_true] at hu
     have ih:sj R w β (fun i=>i=t∨K i) (kQ ts (l'++r') base) tmps:=pG m hT q9 hw.2 (by simpa using hl) hu.2 (fun j hj=>h j (fun hc=>hj (by
      rcases hc with hc | hc
      ·rcases List.mem_cons.1 hc with hc | hc
       ·exact .inr (.inl hc)
       ·exact .inl hc
      ·exact .inr (.inr hc))))
     intro i hi hn
     simp only [kQ,List.cons_append] at hn ⊢
     by_cases e:t=i
     ·subst e
      rw [au] at hn ⊢
      obtain ⟨c,h1,h2⟩:=hT t (by rw [ha]; simp)
      rw [ha] at h2
      exact ⟨c,h1,Rel.move m hu.1 (hw.1 _ _ _ h2)⟩
     ·rw [aC e] at hn ⊢
      exact ih i (by simp; exact ⟨fun e'=>e e'.symm,hi⟩) hn
   ·cases hg
  ·cases hg
def so (R:ah) (w:World) (β:Nat→Nat) (k:Nat) (cs:List AV):Prop:=
 (∃ vs el,w.heap[β k]?=some (.cells ⟨vs⟩ el (0,0))∧aA R w cs vs∧(∀ v∈vs,v.oneCell'=true))∧(∀ o,¬ R.I (β k) o)∧¬ Live R (β k)
theorem wZ {R:ah} {n b:Nat} (h:Live (R.cut n) b):Live R b:=by
 obtain ⟨id,ro,h1,h2⟩:=h
 exact ⟨id,ro,(gC.1 h1).2,h2⟩
theorem so.cut {n k:Nat} {cs cs':List AV} (h:so R w β k cs) (hw:bL cs cs') (hu:ax n cs'=true):so (R.cut n) w β k cs':=by
 obtain ⟨⟨vs,el,h1,h2,h3⟩,h4,h5⟩:=h
 exact ⟨⟨vs,el,h1,(hw.rel h2).move (kS R n) hu,h3⟩,h4,fun hl=>h5 (wZ hl)⟩
theorem dA {n:Nat}:∀ {l r:List AV},ax n (l++r)=(ax n l&&ax n r)
 | [],r=>by simp [ax]
 | a :: l,r=>by simp [ax,dA (l:=l),Bool.and_assoc]
theorem bL.split:∀ {l r l':List AV},bL (l++r) l'→∃ a b,l'=a++b∧bL l a∧bL r b∧a.length=l.length
 | [],r,l',h=>⟨[],l',rfl,trivial,h,rfl⟩
 | x :: l,r,[],h=>h.elim
 | x :: l,r,y :: l',h=>by
  obtain ⟨a,b,rfl,h2,h3,h4⟩:=bL.split (l:=l) (r:=r) (l':=l') h.2
  exact ⟨y :: a,b,rfl,⟨h.1,h2⟩,h3,by simp [h4]⟩
theorem xd {n:Nat} {OM:bK} (hb:∀ k cs,cz OM k=some cs→so R w β k cs) {base:bK}:∀ {bx:List (Nat × Nat)} {K:Nat→Prop} {l l' r:List AV},sh OM bx=some l→bL l l'→ax n l'=true →
  (∀ k cs,¬ K k→pU bx k=false→cz base k=some cs→cz OM k=some cs∧ax n cs=true) →
  ∀ k cs,¬ K k→cz (pF bx (l'++r) base) k=some cs→so (R.cut n) w β k cs∧∃ cs',cz OM k=some cs'
 | [],K,l,l',r,_,_,_,h,k,cs,hK,hk=>by
  obtain ⟨h1,h2⟩:=h k cs hK rfl hk
  exact ⟨(hb k cs h1).cut (bL.refl _) h2,cs,h1⟩
 | (d,m) :: bx,K,l,l',r,hg,hw,hu,h,k,cs,hK,hk=>by
  unfold sh at hg
  split at hg
  ·rename_i MS hd
   split at hg
   ·rename_i l0 q9
    cases hm:Nat.beq MS.length m with
    | false=>rw [hm] at hg; cases hg
    | true=>
     rw [hm] at hg
     cases hg
     have hm:=Nat.eq_of_beq_eq_true hm
     obtain ⟨x,y,rfl,k1,k2,k3⟩:=hw.split
     rw [dA,Bool.and_eq_true] at hu
     have e1:((x++y)++r).take m=x:=by rw [List.append_assoc,← hm,← k3,List.take_left]
     have e2:((x++y)++r).drop m=y++r:=by rw [List.append_assoc,← hm,← k3,List.drop_left]
     simp only [pF,e1,e2] at hk
     rcases cV hk with ⟨rfl,rfl⟩ | ⟨bT,hk⟩
     ·exact ⟨(hb d MS hd).cut k1 hu.1,MS,hd⟩
     ·refine xd hb (K:=fun k=>k=d∨K k) (r:=r) q9 k2 hu.2 (fun k' cs' Ru h1 h2=>?_) k cs (fun hc=>?_) hk
      ·exact h k' cs' (fun hc=>Ru (.inr hc)) (by simp only [pU,h1,Bool.or_false]; exact jL (fun e=>Ru (.inl e.symm))) h2
      ·rcases hc with hc | hc
       ·exact bT hc.symm
       ·exact hK hc
   ·cases hg
  ·cases hg
def sq (n:Nat):List GL→List AV→Prop
 | [],_=>True
 | .dw _ _ :: r,l=>ax n (AV.cI (cP l))=true∧sq n r l.tail
 | .row m :: r,l=>sq n r (l.drop m)
 | .map :: r,l=>sq n r l.tail
 | .C5 :: r,l=>sq n r l.tail.tail
 | .aM _ _ :: r,l=>sq n r l.tail
 | .nK :: r,l=>ax n (AV.cI (cP l))=true∧sq n r l.tail
 | .kf _ :: r,l=>sq n r l.tail.tail
 | _ :: r,l=>sq n r l
def kT (n:Nat):List Bool→List AV→Prop
 | [],_=>True
 | _ :: _,[]=>True
 | f :: fl,a :: l=>(f=true→ax n a.cI=true)∧kT n fl l
theorem kT.drop {m:Nat}:∀ {fl:List Bool} {l:List AV} (n:Nat),kT m fl l→kT m (dC n fl) (l.drop n)
 | _,_,0,h=>by simpa [dC] using h
 | [],_,_+1,_=>by simp [dC,kT]
 | _ :: fl,[],n+1,_=>by
  rw [List.drop_nil]
  cases dC (n+1) (_ :: fl) <;> trivial
 | _ :: fl,_ :: l,n+1,h=>by simpa [dC] using kT.drop n h.2
theorem dH {m:Nat}:∀ (g:List GL) {fl:List Bool} {l:List AV},ia g fl=true→kT m fl l→sq m g l
 | [],_,_,_,_=>trivial
 | .dw _ _ :: g,[],_,h,_=>by cases h
 | .dw _ _ :: g,f :: fl,[],h,_=>by
  simp only [ia,Bool.and_eq_true] at h
  refine ⟨rfl,dH g (fl:=fl) h.2 ?_⟩
  cases fl <;> trivial
 | .dw _ _ :: g,f :: fl,a :: l,h,k=>by
  simp only [ia,Bool.and_eq_true] at h
  exact ⟨k.1 h.1,dH g h.2 k.2⟩
 | .row n :: g,fl,l,h,k=>dH g (show ia g (dC n fl)=true from h) (k.drop n)
 | .map :: g,fl,l,h,k=>by
  have:=dH g (show ia g (dC 1 fl)=true from h) (k.drop 1)
  rw [List.drop_one] at this
  exact this
 | .C5 :: g,fl,l,h,k=>by
  have:=dH g (show ia g (dC 2 fl)=true from h) (k.drop 2)
  have e:l.drop 2=l.tail.tail:=by cases l with
   | nil=>rfl
   | cons a l=>cases l <;> rfl
  rw [e] at this
  exact this
 | .aM _ _ :: g,fl,l,h,k=>by
  have:=dH g (show ia g (dC 1 fl)=true from h) (k.drop 1)
  rw [List.drop_one] at this
  exact this
 | .kf _ :: g,fl,l,h,k=>by
  have:=dH g (show ia g (dC 2 fl)=true from h) (k.drop 2)
  have e:l.drop 2=l.tail.tail:=by cases l with
   | nil=>rfl
   | cons a l=>cases l <;> rfl
  rw [e] at this
  exact this
 | .nK :: g,[],_,h,_=>by cases h
 | .nK :: g,f :: fl,[],h,_=>by
  simp only [ia,Bool.and_eq_true] at h
  refine ⟨rfl,dH g (fl:=fl) h.2 ?_⟩
  cases fl <;> trivial
 | .nK :: g,f :: fl,a :: l,h,k=>by
  simp only [ia,Bool.and_eq_true] at h
  exact ⟨k.1 h.1,dH g h.2 k.2⟩
 | .tok _ _ _ :: g,fl,l,h,k=>dH g (show ia g fl=true from h) k
 | .dead :: g,fl,l,h,k=>dH g (show ia g fl=true from h) k
 | .lp _ :: g,fl,l,h,k=>dH g (show ia g fl=true from h) k
 | .bA :: g,fl,l,h,k=>dH g (show ia g fl=true from h) k
theorem sr {n:Nat} {α:Type} {g:α→AV} (hg:∀ x,(g x).under n=true):∀ xs:List α,ax n (xs.map g)=true
 | []=>rfl
 | x :: xs=>by simp only [List.map_cons,ax,hg x,sr hg xs,Bool.and_self]
theorem aB.xe (n:Nat) (L:Nat→Nat):∀ (ps:aB) (x:ps.T),kT n (ps.flags n) (ps.hY L x)
 | .nil,_=>trivial
 | .cons p .nil,x=>⟨fun h=>IK L p x h,trivial⟩
 | .cons p (.cons q ps),x=>⟨fun h=>IK L p x.1 h,(aB.cons q ps).xe n L x.2⟩
where
 IK (L:Nat→Nat):∀ (p:av) (x:p.T),p.Rt n=true→ax n (p.hY L x).cI=true
  | .list _ p,x,h=>sr (fun y=>p.cp y h) _
  | .int _,_,h=>by cases h
  | .bool,_,h=>by cases h
  | .str,_,h=>by cases h
  | .agg _,_,h=>by cases h
  | .aR _,_,h=>by cases h
  | .own _ _ _,_,h=>by cases h
  | .aM _ _ _,_,h=>by cases h
  | .qm _,_,h=>by cases h
  | .two _ _,_,h=>by cases h
def PK (n:Nat):GO→GO→Prop
 | .row cs el,.row cs' Ow=>Ow=el∧bL cs cs'∧ax n cs'=true
 | .tok f sz e,.tok f' a8 e'=>f=f'∧sz=a8∧e=e'
 | .defers a,.defers b=>a=b
 | .map es,.map es'=>(es'=es∧cT es=true)∨∃ l,es'=ab l∧gk (aq es) l∧ax n l=true
 | .aM fs sz e,.aM uC a8 e'=>fs=uC∧sz=a8∧e=e'
 | .kf me m left _ t,.kf mid' m' tW cur t'=>me=mid'∧m=m'∧left=tW∧t=t'∧me < n∧cur=none
 | .eo l p,.eo l' p'=>l'=l∧p'=p
 | .dw es sz e,.dw es' a8 e'=>a8=sz∧e'=e∧gk es es'∧ax n es'=true
 | _,.dead=>True
 | _,_=>False
def PL:GO→GO→GO→Prop
 | .loop _ _ fn sl n ps nC bd d _,.loop b p _ _ _ _ _ _ _ dn,go=>go=.loop b p fn sl n ps nC bd d dn
 | _,_,_=>False
theorem Bz {n:Nat} {o o':GO} (h:va o o'=true):PK n o' o:=by
 cases o with
 | tok f sz e=>
  cases o' with
  | tok f' a8 e'=>
   simp only [va,Bool.and_eq_true] at h
   exact ⟨of_decide_eq_true h.1,Nat.eq_of_beq_eq_true h.2.1,Nat.eq_of_beq_eq_true h.2.2⟩
  | _=>cases h
 | defers a=>
  cases o' with
  | defers b=>cases a <;> cases b <;> first | rfl | cases h
  | _=>cases h
 | dead=>cases o' <;> trivial
 | _=>cases h
theorem FH {k:xV} {o o':GO} (h:J9 k o o'=true):PL o o' (IH k o):=by
 cases o with
 | loop b p fn sl n ps nC bd d dn=>
  cases o' with
  | loop b' p' Nb LS n' Nc FI LX d' dn'=>
   obtain ⟨rfl,rfl,rfl⟩:=xV.Au (show k.is b' p' dn'=true from h)
   rfl
  | _=>cases h
 | _=>cases h
theorem lV (a:AV):a.entries=ab a.cI:=by cases a <;> rfl
theorem eM {n:Nat} {vs:List AV}:∀ {g:List GL} {B G:List GO} {l l':List AV},gB g G=some l→bL l l'→B1 l l'→sq n g l'∧C7 n g=true→ax n l'=true→cr vs g B G=true →
  ∀ id go,nth (cm vs g B l') id=some go→∃ go',nth G id=some go'∧(PK n go' go∨∃ BZ,nth B id=some BZ∧PL BZ go' go)
 | [],B,G,l,l',_,_,_,_,_,_,id,go,h=>by simp [cm,nth] at h
 | x :: g,[],G,l,l',_,_,_,_,_,ht,_,_,_=>by cases x <;> cases G <;> cases ht
 | x :: g,_ :: _,[],l,l',_,_,_,_,_,ht,_,_,_=>by cases x <;> cases ht
 | .row m :: g,b :: B,o :: G,l,l',hg,hw,hx,oa,hu,ht,id,go,h=>by
   obtain ⟨yH,zf⟩:II b o=true∧cr vs g B G=true:=by
    rw [← Bool.and_eq_true]
    cases o <;> exact ht
   cases o with
   | row cs el=>
    have mO:Na b=el:=by
     cases b <;> first | (cases yH; done) | exact Nat.eq_of_beq_eq_true yH
    change (match gB g G with
     | some r=>bif Nat.beq cs.length m then some (cs++r) else none
     | none=>none)=some l at hg
    split at hg
    ·rename_i r hr
     cases hm:Nat.beq cs.length m with
     | false=>rw [hm] at hg; cases hg
     | true=>
      rw [hm] at hg
      cases hg
      have hm:=Nat.eq_of_beq_eq_true hm
      obtain ⟨x,y,rfl,k1,k2,k3⟩:=hw.split
      rw [dA,Bool.and_eq_true] at hu
      have e1:(x++y).take m=x:=by rw [← hm,← k3,List.take_left]
      have e2:(x++y).drop m=y:=by rw [← hm,← k3,List.drop_left]
      simp only [cm,e1,e2] at h
      cases id with
      | zero=>simp only [nth] at h; cases h; exact ⟨.row cs el,rfl,.inl ⟨mO,k1,hu.1⟩⟩
      | succ id=>exact eM hr k2 (by obtain ⟨x',y',Rl,UK,E5,SO⟩:=hx.split; have:=List.append_inj Rl (by rw [k3,SO]); rw [this.2]; exact E5) (by rw [← e2]; exact oa) hu.2 zf id go h
    ·cases hg
   | _=>cases hg
 | .tok loc sz e :: g,b :: B,o :: G,l,l',hg,hw,hx,oa,hu,ht,id,go,h=>by
   cases o with
   | tok f a8 e'=>
    change (bif Nat.beq sz a8&&Nat.beq e e' then gB g G else none)=some l at hg
    change (decide (f=C6 vs loc)&&cr vs g B G)=true at ht
    rw [Bool.and_eq_true] at ht
    cases hm:(Nat.beq sz a8&&Nat.beq e e') with
    | false=>rw [hm] at hg; cases hg
    | true=>
     rw [hm] at hg
     rw [Bool.and_eq_true] at hm
     have q1:=Nat.eq_of_beq_eq_true hm.1
     have q2:=Nat.eq_of_beq_eq_true hm.2
     simp only [cm] at h
     cases id with
     | zero=>
      simp only [nth] at h
      cases h
      exact ⟨.tok f a8 e',rfl,.inl ⟨of_decide_eq_true ht.1,q1.symm,q2.symm⟩⟩
     | succ id=>exact eM hg hw hx oa hu ht.2 id go h
   | _=>cases hg
 | .dead :: g,b :: B,o :: G,l,l',hg,hw,hx,oa,hu,ht,id,go,h=>by
   simp only [cm] at h
   have mi:gB g G=some l:=by cases o <;> exact hg
   have zf:cr vs g B G=true:=by cases o <;> exact ht
   cases id with
   | zero=>
    simp only [nth] at h
    cases h
    exact ⟨o,rfl,.inl (by cases o <;> trivial)⟩
   | succ id=>exact eM mi hw hx oa hu zf id go h
 | .lp k :: g,b :: B,o :: G,l,l',hg,hw,hx,oa,hu,ht,id,go,h=>by
   simp only [cm] at h
   have mi:gB g G=some l:=by cases o <;> exact hg
   change (J9 k b o&&cr vs g B G)=true at ht
   rw [Bool.and_eq_true] at ht
   cases id with
   | zero=>
    simp only [nth] at h
    cases h
    exact ⟨o,rfl,.inr ⟨b,rfl,FH ht.1⟩⟩
   | succ id=>exact eM mi hw hx oa hu ht.2 id go h
 | .bA :: g,b :: B,o :: G,l,l',hg,hw,hx,oa,hu,ht,id,go,h=>by
   simp only [cm] at h
   have mi:gB g G=some l:=by cases o <;> exact hg
   change (va b o&&cr vs g B G)=true at ht
   rw [Bool.and_eq_true] at ht
   cases id with
   | zero=>
    simp only [nth] at h
    cases h
    exact ⟨o,rfl,.inl (Bz ht.1)⟩
   | succ id=>exact eM mi hw hx oa hu ht.2 id go h
 | .map :: g,b :: B,o :: G,l,l',hg,hw,hx,oa,hu,ht,id,go,h=>by
   cases o with
   | map es=>
    change (match gB g G with
     | some r=>some (AV.list .iy 2 (aq es) :: r)
     | none=>none)=some l at hg
    change (cT es&&cr vs g B G)=true at ht
    rw [Bool.and_eq_true] at ht
    split at hg
    ·rename_i r hr
     cases hg
     cases l' with
     | nil=>exact hw.elim
     | cons a l'=>
      simp only [ax,Bool.and_eq_true] at hu
      simp only [cm,cP,List.tail_cons] at h
      cases id with
      | zero=>
       simp only [nth] at h
       cases h
       refine ⟨.map es,rfl,.inl (.inl ⟨?_,ht.1⟩)⟩
       rw [lV,hx.2.1 ht.1]
       exact ki es
      | succ id=>exact eM hr hw.2 hx.2.2.2 oa hu.2 ht.2 id go h
    ·cases hg
   | _=>cases hg
 | .C5 :: g,b :: B,o :: G,l,l',hg,hw,hx,oa,hu,ht,id,go,h=>by
   have zf:cr vs g B G=true:=by cases o <;> exact ht
   cases o with
   | eo s pos=>
    change (match gB g G with
     | some r=>some (AV.str s :: AV.int .i64 pos :: r)
     | none=>none)=some l at hg
    split at hg
    ·rename_i r hr
     cases hg
     match l',hw,hx,hu,h with
     | [],hw,_,_,_=>exact hw.elim
     | [_],hw,_,_,_=>exact hw.2.elim
     | a :: a' :: l',hw,hx,hu,h=>
      simp only [ax,Bool.and_eq_true] at hu
      simp only [cm,cP,List.tail_cons] at h
      have e1:=hx.1 (by simp [AV.exact])
      have e2:=hx.2.2.2.1 (by simp [AV.exact])
      subst e1 e2
      cases id with
      | zero=>
       simp only [nth] at h
       cases h
       exact ⟨.eo s pos,rfl,.inl ⟨rfl,by simp [AV.iz]⟩⟩
      | succ id=>exact eM hr hw.2.2 hx.2.2.2.2.2.2 oa hu.2.2 zf id go h
    ·cases hg
   | _=>cases hg
 | .dw sz e :: g,b :: B,o :: G,l,l',hg,hw,hx,oa,hu,ht,id,go,h=>by
   have zf:cr vs g B G=true:=by cases o <;> exact ht
   cases o with
   | dw es a8 e'=>
    change (match gB g G with
     | some r=>bif Nat.beq sz a8&&Nat.beq e e' then some (AV.list .iy a8 es :: r) else none
     | none=>none)=some l at hg
    split at hg
    ·rename_i r hr
     cases hm:(Nat.beq sz a8&&Nat.beq e e') with
     | false=>rw [hm] at hg; cases hg
     | true=>
     rw [hm] at hg
     rw [Bool.and_eq_true] at hm
     have q1:=Nat.eq_of_beq_eq_true hm.1
     have q2:=Nat.eq_of_beq_eq_true hm.2
     cases hg
     cases l' with
     | nil=>exact hw.elim
     | cons a l'=>
      simp only [ax,Bool.and_eq_true] at hu
      simp only [cm,cP,List.tail_cons] at h
      cases id with
      | zero=>
       simp only [nth] at h
       cases h
       exact ⟨.dw es a8 e',rfl,.inl ⟨q1,q2,hx.2.2.1,oa.1.1⟩⟩
      | succ id=>exact eM hr hw.2 hx.2.2.2 ⟨oa.1.2,oa.2⟩ hu.2 zf id go h
    ·cases hg
   | _=>cases hg
 | .aM sz e :: g,b :: B,o :: G,l,l',hg,hw,hx,oa,hu,ht,id,go,h=>by
   have zf:cr vs g B G=true:=by cases o <;> exact ht
   cases o with
   | aM fs a8 e'=>
    change (match gB g G with
     | some r=>bif Nat.beq sz a8&&Nat.beq e e' then some (AV.list .iy 1 (bI fs) :: r) else none
     | none=>none)=some l at hg
    split at hg
    ·rename_i r hr
     cases hm:(Nat.beq sz a8&&Nat.beq e e') with
     | false=>rw [hm] at hg; cases hg
     | true=>
     rw [hm] at hg
     rw [Bool.and_eq_true] at hm
     have q1:=Nat.eq_of_beq_eq_true hm.1
     have q2:=Nat.eq_of_beq_eq_true hm.2
     cases hg
     cases l' with
     | nil=>exact hw.elim
     | cons a l'=>
      simp only [ax,Bool.and_eq_true] at hu
      simp only [cm,cP,List.tail_cons] at h
      cases id with
      | zero=>
       simp only [nth] at h
       cases h
       refine ⟨.aM fs a8 e',rfl,.inl ⟨?_,q1.symm,q2.symm⟩⟩
       rw [hx.2.1 (se fs)]
       exact (pE fs).symm
      | succ id=>exact eM hr hw.2 hx.2.2.2 oa hu.2 zf id go h
    ·cases hg
   | _=>cases hg
 | .nK :: g,b :: B,o :: G,l,l',hg,hw,hx,oa,hu,ht,id,go,h=>by
   have zf:cr vs g B G=true:=by cases o <;> exact ht
   cases o with
   | map es=>
    change (match gB g G with
     | some r=>some (AV.list .iy 2 (aq es) :: r)
     | none=>none)=some l at hg
    split at hg
    ·rename_i r hr
     cases hg
     cases l' with
     | nil=>exact hw.elim
     | cons a l'=>
      simp only [ax,Bool.and_eq_true] at hu
      simp only [cm,cP,List.tail_cons] at h
      cases id with
      | zero=>
       simp only [nth] at h
       cases h
       exact ⟨.map es,rfl,.inl (.inr ⟨a.cI,lV a,hx.2.2.1,oa.1.1⟩)⟩
      | succ id=>exact eM hr hw.2 hx.2.2.2 ⟨oa.1.2,oa.2⟩ hu.2 zf id go h
    ·cases hg
   | _=>cases hg
 | .kf me :: g,b :: B,o :: G,l,l',hg,hw,hx,oa,hu,ht,id,go,h=>by
   obtain ⟨yH,zf⟩:IJ b o=true∧cr vs g B G=true:=by
    rw [← Bool.and_eq_true]
    cases o <;> exact ht
   cases o with
   | kf mid' k left cur t=>
    have mO:M9 b=t:=by
     cases b <;> first | (cases yH; done) | exact Nat.eq_of_beq_eq_true yH
    change (match gB g G with
     | some r=>bif Nat.beq me mid' then some (AV.int .i64 k :: AV.list .iy 1 (bI left) :: r) else none
     | none=>none)=some l at hg
    split at hg
    ·rename_i r hr
     cases hm:Nat.beq me mid' with
     | false=>rw [hm] at hg; cases hg
     | true=>
     rw [hm] at hg
     have q1:=Nat.eq_of_beq_eq_true hm
     subst q1
     cases hg
     have PM:=oa.2
     simp only [C7,Bool.and_eq_true] at PM
     match l',hw,hx,hu,h with
     | [],hw,_,_,_=>exact hw.elim
     | [_],hw,_,_,_=>exact hw.2.elim
     | a :: a' :: l',hw,hx,hu,h=>
      simp only [ax,Bool.and_eq_true] at hu
      simp only [cm,cP,List.tail_cons] at h
      have e1:=hx.1 (by simp [AV.exact])
      have e2:=hx.2.2.2.2.1 (se left)
      subst e1
      cases id with
      | zero=>
       simp only [nth] at h
       cases h
       refine ⟨.kf me k left cur t,rfl,.inl ⟨rfl,by simp [AV.iz],?_,mO.symm,gj PM.1,rfl⟩⟩
       rw [e2]
       exact (pE left).symm
      | succ id=>exact eM hr hw.2.2 hx.2.2.2.2.2.2 ⟨oa.1,PM.2⟩ hu.2.2 zf id go h
    ·cases hg
   | _=>cases hg
theorem bV {vs:List AV}:∀ {g:List GL} {B:List GO} {l:List AV},(cm vs g B l).length=g.length
 | [],_,_=>rfl
 | .row m :: g,B,l=>by simp [cm,bV (g:=g)]
 | .tok _ _ _ :: g,B,l=>by simp [cm,bV (g:=g)]
 | .dead :: g,B,l=>by simp [cm,bV (g:=g)]
 | .lp _ :: g,B,l=>by simp [cm,bV (g:=g)]
 | .bA :: g,B,l=>by simp [cm,bV (g:=g)]
 | .map :: g,B,l=>by simp [cm,bV (g:=g)]
 | .dw _ _ :: g,B,l=>by simp [cm,bV (g:=g)]
 | .C5 :: g,B,l=>by simp [cm,bV (g:=g)]
 | .aM _ _ :: g,B,l=>by simp [cm,bV (g:=g)]
 | .nK :: g,B,l=>by simp [cm,bV (g:=g)]
 | .kf _ :: g,B,l=>by simp [cm,bV (g:=g)]
theorem eB.SP {R0:ah} {w0:World} {IL:RO} {BZ go' go:GO} {ro:RO} (e:Ext R0 w0 R w) (h0:eB R0 w0 BZ IL) (hle:bF IL ro) (h:eB R' w go' ro) (k:PL BZ go' go):eB R w go ro:=by
 cases BZ with
 | loop b p fn sl n ps nC bd d dn=>
  cases go' with
  | loop b' p' Nb LS n' Nc FI LX d' dn'=>
   change go=_ at k
   subst k
   cases IL with
   | bn bb=>
    simp only [bF] at hle
    subst hle
    obtain ⟨⟨r0,SQ,l1,l2,l3,l4,l5,l6,l7,l8,l9,l10⟩,l11⟩:=h0
    obtain ⟨⟨r,db,m1,m2,m3,m4,m5,m6,m7,m8,m9,m10⟩,m11⟩:=h
    obtain ⟨r1,q1,q2,q3,q4,q5,q6⟩:=e.lp bb r0 l1
    have hr:r1=r:=by
     have:=q1.symm.trans m1
     injection this with this
     injection this with this
    subst hr
    exact ⟨⟨r1,SQ,q1,m2,m3,by rw [q2]; exact kp.mono e l4,by rw [q2]; exact l5,by rw [q3]; exact l6,by rw [q4]; exact l7,by rw [q5]; exact l8,by rw [q6]; exact l9,e.bn l10⟩,l11⟩
   | none=>exact h0.elim
   | aZ=>exact h0.elim
   | tok _ _ _=>exact h0.elim
   | aM _=>exact h0.elim
  | _=>exact k.elim
 | _=>exact k.elim
theorem ck.cut {n:Nat}:∀ {es:List (AV × AV)} {ar:List MapEntry},dX (aq es)=true→ck R w es ar→ck (R.cut n) w es ar
 | [],[],_,_=>trivial
 | [],_ :: _,_,h=>h.elim
 | _ :: _,[],_,h=>h.elim
 | (k,v) :: es,en :: ar,he,h=>by
  simp only [aq,dX,AV.exact,Bool.and_true,Bool.and_eq_true] at he
  exact ⟨h.1.move (kS R n) (fm n (j5 he.1.1)),h.2.1.move (kS R n) (fm n (j5 he.1.2)),ck.cut he.2 h.2.2⟩
theorem xf {n:Nat} {v:AV} (h:v.under n=true) (k:v.aG=true):ax n v.cells=true:=by
 cases v <;> first | exact h | (simp [AV.aG] at k; done) | (simp only [AV.cells,ax,Bool.and_true]; exact h)
theorem ss {n sz:Nat}:∀ {es es':List AV},gk es es'→cC sz es→ax n es'=true→cC sz es'∧bL (an es) (an es')∧ax n (an es')=true
 | [],[],_,_,_=>⟨(fun e he=>by simp at he),trivial,rfl⟩
 | e :: es,e' :: es',h,k,pV=>by
  obtain ⟨h1,h2⟩:=h
  simp only [ax,Bool.and_eq_true] at pV
  obtain ⟨q1,q2⟩:=k e (by simp)
  obtain ⟨i1,i2,i3⟩:=ss h2 (fun x hx=>k x (by simp [hx])) pV.2
  have hc:=h1.cells q2
  have ht:e'.aG=true:=by rw [h1.aR,q2]
  refine ⟨fun x hx=>?_,hc.append i2,by show ax n (e'.cells++an es')=true; rw [dA,xf pV.1 ht,i3]; rfl⟩
  rcases List.mem_cons.1 hx with rfl | hx
  ·exact ⟨by rw [← hc.length,q1],ht⟩
  ·exact i1 x hx
 | [],_ :: _,h,_,_=>h.elim
 | _ :: _,[],h,_,_=>h.elim
theorem kl.head {l r:List AV} (h:kl l r):(AV.cI (cP l)).length=(AV.cI (cP r)).length:=by
 cases l <;> cases r <;> first | rfl | exact h.1 | exact h.elim
theorem kl.tail {l r:List AV} (h:kl l r):kl l.tail r.tail:=by
 cases l <;> cases r <;> first | exact h | exact h.2 | exact h.elim
theorem bW:∀ (g:List GL) {l r:List AV} (i:Nat),kl l r→hZ g l i=hZ g r i
 | [],_,_,_,_=>rfl
 | .dw _ _ :: g,l,r,0,h=>h.head
 | .dw _ _ :: g,l,r,i+1,h=>bW g i h.tail
 | .row _ :: g,l,r,0,h=>rfl
 | .row n :: g,l,r,i+1,h=>bW g i (h.drop n)
 | .map :: g,l,r,0,h=>rfl
 | .map :: g,l,r,i+1,h=>bW g i h.tail
 | .C5 :: g,l,r,0,h=>rfl
 | .C5 :: g,l,r,i+1,h=>bW g i h.tail.tail
 | .aM _ _ :: g,l,r,0,h=>rfl
 | .aM _ _ :: g,l,r,i+1,h=>bW g i h.tail
 | .nK :: g,l,r,0,h=>rfl
 | .nK :: g,l,r,i+1,h=>bW g i h.tail
 | .kf _ :: g,l,r,0,h=>rfl
 | .kf _ :: g,l,r,i+1,h=>bW g i h.tail.tail
 | .tok _ _ _ :: g,l,r,0,h=>rfl
 | .tok _ _ _ :: g,l,r,i+1,h=>bW g i h
 | .dead :: g,l,r,0,h=>rfl
 | .dead :: g,l,r,i+1,h=>bW g i h
 | .lp _ :: g,l,r,0,h=>rfl
 | .lp _ :: g,l,r,i+1,h=>bW g i h
 | .bA :: g,l,r,0,h=>rfl
 | .bA :: g,l,r,i+1,h=>bW g i h
theorem ck.Nd {n:Nat}:∀ {es:List (AV × AV)} {l:List AV} {ar:List MapEntry},gk (aq es) l→ax n l=true→ck R w es ar→ck (R.cut n) w (ab l) ar
 | [],[],[],_,_,_=>trivial
 | [],[],_ :: _,_,_,h=>h.elim
 | [],_ :: _,_,h,_,_=>h.elim
 | (_,_) :: _,[],_,h,_,_=>h.elim
 | (_,_) :: _,_ :: _,[],_,_,h=>h.elim
 | (k,v) :: es,a :: l,en :: ar,hd,hu,h=>by
  obtain ⟨d1,d2⟩:=hd
  simp only [ax,Bool.and_eq_true] at hu
  have hc:=d1.cells rfl
  have hl:[k,v].length=a.cells.length:=hc.length
  cases a with
  | agg cs=>
   match cs,hc,hl with
   | [k',v'],hc,_=>
    have Ka:ax n [k',v']=true:=hu.1
    simp only [ax,Bool.and_true,Bool.and_eq_true] at Ka
    exact ⟨(hc.1 _ _ _ h.1).move (kS R n) Ka.1,(hc.2.1 _ _ _ h.2.1).move (kS R n) Ka.2,ck.Nd d2 hu.2 h.2.2⟩
   | [],_,hl=>simp [AV.cells] at hl
   | [_],_,hl=>simp [AV.cells] at hl
   | _ :: _ :: _ :: _,_,hl=>simp [AV.cells] at hl
  | _=>simp [AV.cells] at hl
theorem eB.SR {n:Nat} {go go':GO} {ro:RO} (h:eB R w go' ro) (k:PK n go' go):eB (R.cut n) w go ro:=by
 cases go with
 | dead=>
  cases ro with
  | none=>trivial
  | aZ=>trivial
  | bn b=>exact h.lt rfl
  | tok f b c=>exact h.lt rfl
  | aM ts=>exact fun j f b c hj=>h.lt ⟨j,f,c,hj⟩
 | row cs el=>
  cases go' with
  | row cs' Ow=>
   cases ro with
   | bn b=>
    obtain ⟨vs,h1,h2,h3,h4⟩:=h
    obtain ⟨rfl,k⟩:=k
    exact ⟨vs,h1,(k.1.rel h2).move (kS R n) k.2,h3,h4⟩
   | none=>exact h.elim
   | aZ=>exact h.elim
   | tok _ _ _=>exact h.elim
   | aM _=>exact h.elim
  | _=>exact k.elim
 | tok f sz e=>
  cases go' with
  | tok f' a8 e'=>
   obtain ⟨rfl,rfl,rfl⟩:=k
   cases ro with
   | bn b=>exact h.elim
   | none=>exact h.elim
   | aZ=>exact h
   | tok _ _ _=>exact h
   | aM _=>exact h.elim
  | _=>exact k.elim
 | defers a=>
  cases go' with
  | defers b=>
   change b=a at k
   subst k
   cases ro <;> exact h
  | _=>exact k.elim
 | map es=>
  cases go' with
  | map es'=>
   cases ro with
   | bn b=>
    obtain ⟨ar,clock,h1,h2,h3⟩:=h
    rcases k with ⟨rfl,k2⟩ | ⟨l,rfl,k2,k3⟩
    ·exact ⟨ar,clock,h1,ck.cut k2 h2,h3⟩
    ·exact ⟨ar,clock,h1,ck.Nd k2 k3 h2,h3⟩
   | none=>exact h.elim
   | aZ=>exact h.elim
   | tok _ _ _=>exact h.elim
   | aM _=>exact h.elim
  | _=>exact k.elim
 | aM fs sz e=>
  cases go' with
  | aM uC a8 e'=>
   obtain ⟨rfl,rfl,rfl⟩:=k
   cases ro <;> exact h
  | _=>exact k.elim
 | kf me m left cur t=>
  cases go' with
  | kf mid' m' tW vV t'=>
   obtain ⟨rfl,rfl,rfl,rfl,k,rfl⟩:=k
   cases ro with
   | bn b=>obtain ⟨bm,seen,c0,h1,h2,h3,h4,h5,h6,_⟩:=h; exact ⟨bm,seen,c0,gC.2 ⟨k,h1⟩,h2,h3,h4,h5,h6,fun i hi=>by cases hi⟩
   | none=>exact h.elim
   | aZ=>exact h.elim
   | tok _ _ _=>exact h.elim
   | aM _=>exact h.elim
  | _=>exact k.elim
 | eo l p=>
  cases go' with
  | eo l' p'=>
   obtain ⟨rfl,rfl⟩:=k
   cases ro <;> exact h
  | _=>exact k.elim
 | dw es sz e=>
  cases go' with
  | dw es' a8 e'=>
   obtain ⟨rfl,rfl,k,kc⟩:=k
   cases ro with
   | bn b=>exact h.elim
   | none=>exact h.elim
   | aM _=>exact h.elim
   | aZ=>
    have he:es'=[]:=h
    subst he
    exact List.eq_nil_of_length_eq_zero k.length.symm
   | tok f b c=>
    obtain ⟨h0,h1,cur,vs,h2,h3,h4,h5,h6,h7,h8,h9⟩:=h
    obtain ⟨k1,k2,k3⟩:=ss k h1 kc
    exact ⟨h0.trans k.length,k1,cur,vs,h2,h3,h4,h5,h6,(k2.rel h7).move (kS R n) k3,h8,h9⟩
  | _=>exact k.elim
 | _=>cases go' <;> exact k.elim
theorem lF.ids:∀ {l:List Nat} {ds:List Deferred},lF R l ds→∀ id∈l,id < R.obj.length
 | [],[],_,id,hi=>by simp at hi
 | x :: l,d :: ds,h,id,hi=>by
  obtain ⟨⟨b,h1,_⟩,h2⟩:=h
  rcases List.mem_cons.1 hi with rfl | hi
  ·exact ba h1
  ·exact lF.ids h2 id hi
 | [],_ :: _,h,_,_=>h.elim
 | _ :: _,[],h,_,_=>h.elim
theorem lF.cut {n:Nat}:∀ {l:List Nat} {ds:List Deferred},lF R l ds→(∀ id∈l,id < n)→lF (R.cut n) l ds
 | [],[],_,_=>trivial
 | x :: l,d :: ds,h,hi=>by
  obtain ⟨⟨b,h1,h3⟩,h2⟩:=h
  exact ⟨⟨b,gC.2 ⟨hi x (by simp),h1⟩,h3⟩,lF.cut h2 fun id hm=>hi id (by simp [hm])⟩
 | [],_ :: _,h,_=>h.elim
 | _ :: _,[],h,_=>h.elim
theorem pH {n:Nat} {tmps:Array Value} {ae base:aL} (hT:kp R w β ae tmps):∀ {l:List (Tmp × Nat × Nat)},Av ae l=true→kp (R.cut n) w β base tmps→kp (R.cut n) w β (kR l base) tmps
 | [],_,h=>h
 | (t,k,o) :: l,hl,h=>fun i hi=>by
  simp only [Av,Bool.and_eq_true] at hl
  simp only [kR] at hi ⊢
  by_cases e:t=i
  ·subst e
   rw [au]
   have h1:=hl.1
   split at h1
   ·rename_i k' o' hk
    rw [Bool.and_eq_true] at h1
    have e1:=Nat.eq_of_beq_eq_true h1.1
    have e2:=Nat.eq_of_beq_eq_true h1.2
    subst e1 e2
    obtain ⟨c,q1,q2⟩:=hT t (by rw [hk]; simp)
    rw [hk] at q2
    exact ⟨c,q1,q2⟩
   ·cases h1
  ·rw [aC e] at hi ⊢
   exact pH hT hl.2 h i hi
theorem bJ.vJ {t:bJ} {v:t.ps.T} (hs:aF s s') (h0:aP E R w β s a) (h:aP E R' w' β' s' a') (st:Step R w β s.boxes R' w' β' s'.boxes) (hd:t.dec s s'=some v) :
  aP E (R'.cut s.G.length) w' β' (t.st s v) a'∧Step R w β s.boxes (R'.cut s.G.length) w' β' (t.st s v).boxes:=by
 have hlen:=h0.g.len
 unfold bJ.dec at hd
 cases da:t.ok s s' with
 | false=>rw [da] at hd; cases hd
 | true=>
 rw [da] at hd
 simp only [cond_true] at hd
 unfold bJ.ok at da
 simp only [Bool.and_eq_true] at da
 obtain ⟨⟨⟨⟨⟨k1,k2⟩,k3⟩,k4⟩,k5,k7,k8⟩,k6⟩:=da
 obtain ⟨pre,tv⟩:=hs.sl
 obtain ⟨preB,IM⟩:=hs.bx
 rw [tv,wY] at k1
 rw [IM,wY] at k2
 have k3:=Aw k3
 have k4:=Nat.eq_of_beq_eq_true k4
 split at hd
 ·rename_i la lb lc g1 g2 g3
  cases hv:t.ps.Bx (hZ t.g lc) (la++(lb++lc)) with
  | none=>rw [hv] at hd; cases hd
  | some v'=>
  rw [hv] at hd
  simp only [Option.bind_some] at hd
  cases E1:cr (t.lJ v') t.g s.G s'.G with
  | false=>rw [E1] at hd; cases hd
  | true=>
  rw [E1] at hd
  cases hd
  have PN:∀ {ts:List Tmp} {l:List AV},sf s'.ae ts=some l→l.length=ts.length:=by
   intro ts
   induction ts with
   | nil=>intro l hl; simp only [sf] at hl; cases hl; rfl
   | cons t ts ih=>
    intro l hl
    unfold sf at hl
    split at hl
    ·split at hl
     ·rename_i hr
      cases hl
      simp [ih hr]
     ·cases hl
    ·cases hl
  have PO:∀ {bx:List (Nat × Nat)} {l:List AV},sh s'.boxes bx=some l→l.length=vb bx:=by
   intro bx
   induction bx with
   | nil=>intro l hl; simp only [sh] at hl; cases hl; rfl
   | cons x bx ih=>
    obtain ⟨k,m⟩:=x
    intro l hl
    unfold sh at hl
    split at hl
    ·split at hl
     ·rename_i cs _ _ r hr
      cases hm:Nat.beq cs.length m with
      | false=>rw [hm] at hl; cases hl
      | true=>
       rw [hm] at hl
       cases hl
       simp only [vb,List.length_append,ih hr,Nat.eq_of_beq_eq_true hm]
     ·cases hl
    ·cases hl
  obtain ⟨hw,hex⟩:=t.ps.FF _ hv
  have IN:t.lJ v=t.ps.hY (hZ t.g lc) v:=by
   unfold bJ.lJ
   congr 1
   funext i
   have hl:=hex.M8.trans (t.ps.kP (hZ t.g lc) (fun _=>0) v)
   have JX:=(hl.drop t.sl.length).drop (vb t.bx)
   rw [← PN g1,List.drop_left,← PO g2,List.drop_left,PN g1,PO g2] at JX
   exact (bW t.g i JX).symm
  have hu:ax s.G.length (t.lJ v)=true:=by
   rw [IN,t.ps.By _ hv]
   exact t.ps.zm _ k5 _
  rw [← IN] at hw hex
  have PP:∃ xa xb xc,t.lJ v=xa++(xb++xc)∧bL la xa∧bL lb xb∧bL lc xc∧xa.length=la.length∧xb.length=lb.length∧B1 lc xc:=by
   obtain ⟨xa,r,h1,h2,h3,h4⟩:=hw.split
   obtain ⟨xb,xc,rfl,h6,h7,h8⟩:=h3.split
   rw [h1] at hex
   obtain ⟨ya,yr,g1,_,g3,g4⟩:=hex.split
   obtain ⟨_,rfl⟩:=List.append_inj g1 (by rw [h4,g4])
   obtain ⟨yb,yc,k1,_,k3,k4⟩:=g3.split
   obtain ⟨_,rfl⟩:=List.append_inj k1 (by rw [h8,k4])
   exact ⟨xa,xb,xc,h1,h2,h6,h7,h4,h8,k3⟩
  obtain ⟨xa,xb,xc,hx,wa,wb,wc,Rv,SS,SU⟩:=PP
  have PQ:ax s.G.length xa=true∧ax s.G.length xb=true∧ax s.G.length xc=true:=by
   rw [hx,dA,dA] at hu
   simp only [Bool.and_eq_true] at hu
   exact ⟨hu.1,hu.2.1,hu.2.2⟩
  have e1:(t.lJ v).drop t.sl.length=xb++xc:=by rw [hx,← PN g1,← Rv,List.drop_left]
  have e2:(xb++xc).drop (vb t.bx)=xc:=by rw [← PO g2,← SS,List.drop_left]
  have oa:sq s.G.length t.g xc:=by
   have hf:=((aB.xe s.G.length _ t.ps v).drop t.sl.length).drop (vb t.bx) (l:=(t.lJ v).drop t.sl.length)
   rw [e1,e2] at hf
   exact dH t.g k7 hf
  have old:∀ {l:List AV} {cs:List Value},aA R w l cs→ax s.G.length l=true:=fun hr=>hr.under (by omega)
  have mv:=kS R' s.G.length
  have Ox:∀ k cs,cz s'.boxes k=some cs→so R' w' β' k cs:=fun k cs hk=>h.b.box k cs hk
  have ON:∀ k cs,cz (pF t.bx (xb++xc) s.boxes) k=some cs→so (R'.cut s.G.length) w' β' k cs∧∃ cs',cz s'.boxes k=some cs':=fun k cs hk=>by
   refine xd (K:=fun _=>False) Ox g2 wb PQ.2.1 (fun k cs _ h1 h2=>?_) k cs (fun h=>h) hk
   refine ⟨by rw [IM]; exact wX h1 h2 k2,?_⟩
   obtain ⟨⟨vs,el,_,h4,_⟩,_⟩:=h0.b.box k cs h2
   exact old h4
  have Rw:(t.st s v).G=cm (t.lJ v) t.g s.G xc:=by simp only [bJ.st,e1,e2]
  have Rx:(t.st s v).boxes=pF t.bx (xb++xc) s.boxes:=by simp only [bJ.st,e1]
  have SX:(t.st s v).ae=kR t.LV (kQ t.sl (xa++(xb++xc)) (si t.W s.ae)):=by simp only [bJ.st,hx]
  have ext:Ext R w (R'.cut s.G.length) w':=⟨st.ext.I,st.ext.cell,fun id ro hi=>by
   obtain ⟨jg,h1,h2⟩:=st.ext.obj id ro hi
   exact ⟨jg,gC.2 ⟨by have:=ba hi; omega,h1⟩,h2⟩,st.ext.lp⟩
  refine ⟨⟨⟨?_,fun id go ro h1 h2=>?_,fun i j ri rj b h1 h2=>h.g.inj i j ri rj b (gC.1 h1).2 (gC.1 h2).2,h.g.wf,fun g cs hg=>(h.g.bY g cs hg).move mv (bH _ (E.mf g cs hg)),h.g.lo⟩,?_,?_,?_,?_⟩,?_⟩
  ·rw [Rw,bV,k4]
   have:=h.g.len
   have h3:s.G.length≤R'.obj.length:=by
    rcases Nat.lt_or_ge R'.obj.length s.G.length with bD | qO
    ·exfalso
     have hx:R'.obj.length < R.obj.length:=by omega
     obtain ⟨jg,h1,_⟩:=st.ext.obj R'.obj.length R.obj[R'.obj.length] (by rw [aJ]; exact List.getElem?_eq_getElem hx)
     have:=ba h1
     omega
    ·exact qO
   simp [ah.cut]
   omega
  ·rw [Rw] at h1
   obtain ⟨go',h3,h4⟩:=eM g3 wc SU ⟨oa,k8⟩ PQ.2.2 E1 id go h1
   rcases h4 with h4 | ⟨BZ,h5,h4⟩
   ·exact (h.g.obj id go' ro h3 (gC.1 h2).2).SR h4
   ·have bD:=ba h5
    rw [← hlen] at bD
    obtain ⟨IL,h6⟩:∃ IL,nth R.obj id=some IL:=⟨R.obj[id],by rw [aJ]; exact List.getElem?_eq_getElem bD⟩
    obtain ⟨jg,h7,h8⟩:=ext.obj id IL h6
    have:jg=ro:=Option.some.inj (h7.symm.trans h2)
    subst this
    exact eB.SP ext (h0.g.obj id BZ IL h5 h6) h8 (h.g.obj id go' jg h3 (gC.1 h2).2) h4
  ·rw [Rx]
   refine ⟨fun k cs hk=>(ON k cs hk).1,fun k k' cs cs' hk ga he=>?_⟩
   obtain ⟨_,c1,PR⟩:=ON k cs hk
   obtain ⟨_,c2,Fw⟩:=ON k' cs' ga
   exact h.b.inj k k' c1 c2 PR Fw he
  ·rw [SX]
   have hT:sj (R'.cut s.G.length) w' β' (fun _=>False) (kQ t.sl (xa++(xb++xc)) (si t.W s.ae)) a'.tmps:=by
    refine pG mv h.t g1 (l':=xa) (r:=lb++lc) (r':=xb++xc) (wa.append (wb.append wc)) Rv.symm PQ.1 (sk fun i hi hn=>?_)
    have SY:LW t.sl t.W i=false:=by
     simp only [LW,Bool.or_eq_false_iff]
     refine ⟨?_,?_⟩
     ·cases hc:E7 t.sl i with
      | false=>rfl
      | true=>exact absurd (.inr (.inl (vc.1 hc))) hi
     ·cases hc:E7 t.W i with
      | false=>rfl
      | true=>exact absurd (.inl (vc.1 hc)) hi
    have hk:=vf SY k1
    rw [← tv] at hk
    obtain ⟨c,h1,h2⟩:=h.t i (by rw [hk]; exact hn)
    rw [hk] at h2
    refine ⟨c,h1,?_⟩
    obtain ⟨c0,_,h4⟩:=h0.t i hn
    revert h2 h4
    cases lk s.ae i with
    | none=>exact fun _ _=>trivial
    | lp k off=>exact fun h2 _=>h2
    | v x=>exact fun h2 h4=>Rel.move mv (Rel.under (by omega) h4) h2
   exact pH h.t k6 (fun i hi=>hT i (fun h=>h) hi)
  ·show a'.tmps.size=s.n
   rw [h.n,hs.n]
  ·show lF _ s.marks a'.defers
   have:=h.d
   rw [k3] at this
   exact this.cut fun id hid=>by have:=h0.d.ids id hid; omega
  ·refine ⟨ext,st.os,st.tape,st.output,st.size,st.bA,fun b hb ho=>st.own b hb ?_,st.im⟩
   rcases ho with ho | ⟨k,cs,hk,rfl⟩
   ·exact .inl (wZ ho)
   ·rw [Rx] at hk
    obtain ⟨_,c1,PR⟩:=ON k cs hk
    exact .inr ⟨k,c1,PR,rfl⟩
 ·cases hd
end vJ
end Go.Am
namespace Go.Am
open Go
def eR:aL→aL
 | []=>[]
 | .put d (.lp _ _) :: l=>.put d .none :: eR l
 | .put d x :: l=>.put d x :: eR l
 | .kill _ :: l=>eR l
def SV.tz:SV→SV
 | .lp _ _=>.none
 | x=>x
theorem oM (t:Nat):∀ l:aL,lk (eR l) t=(lk l t).tz
 | []=>rfl
 | .put d x :: l=>by
  cases x <;> simp only [eR] <;> by_cases e:d=t <;> first | (subst e; rw [au,au]; rfl) | (rw [aC e,aC e]; exact oM t l)
 | .kill d :: l=>by
  simp only [eR,lk]
  rw [oM t l]
  cases lk l t with
  | lp k off=>
   by_cases e:k=d
   ·subst e; simp [SV.tz]
   ·simp [jL e,SV.tz]
  | _=>rfl
theorem j6:∀ l:aL,zT (eR l)=true
 | []=>rfl
 | .put d x :: l=>by
  cases x <;> simp only [eR,zT] <;> exact j6 l
 | .kill d :: l=>by simp only [eR]; exact j6 l
def PS (E:Env) (Q:Exit→St→Prop) (s:St) (G':List GO):Prop:=
 match nth G' (s.G.length+1) with
 | some (.loop busy pending _ _ _ _ _ _ _ done)=>(busy=false∨done=true) ∧
  match pending with
  | none=>Q .normal ⟨s.ae,s.boxes,aw G' (s.G.length+1) .dead,s.G.length :: s.marks,s.ro,s.n⟩
  | some c=>dS E c Q ⟨s.ae,s.boxes,aw G' (s.G.length+1) .dead,s.G.length :: s.marks,s.ro,s.n⟩
 | _=>False
theorem zn {busy done:Bool} (h:busy=false∨done=true):(if done=true then LoopState.done else if busy=true then LoopState.busy else LoopState.ready)≠LoopState.busy:=by
 rcases h with rfl | rfl
 ·cases done <;> simp
 ·simp
theorem dS.rangeFunc {E:Env} {Q:Exit→St→Prop} {s:St} (fp:Nat) {g:Operand} {ps:Array Tmp} {assign body:Code} (bj:s.ro=none) {f:FuncId} {first cap:List AV} (hg:aY E s.ae g=.v (.fn f first cap))
  (h:bR E f (first++[.yield (s.G.length+1)]++cap) (s.G++[.defers true]++[.loop false none fp (eR s.ae) s.n ps.toList assign body s.G.length false]) (fun _ G'=>PS E Q s G')) :
  dS E (.rangeFunc g ps assign body) Q s:=fun R w β a F hr hf=>by
 rw [bj] at hf
 have MN:F=Fence.wide:=hf
 subst MN
 refine wpIn_rangeFunc fun fn _=>?_
 have rg:=aE hr g
 rw [hg] at rg
 have Ry:Rel R w (.fn f first cap) (a.eval g):=rg
 -- the block for the deferred calls
 have MT:eB (R.add (.bn w.heap.size)) (w.alloc (.deferred (some []))) (.defers true) (.bn w.heap.size):=heap_alloc_new w _
 have h1:=hr.iV (.deferred (some [])) (.defers true) (.bn w.heap.size) (by exact fun _ h=>h) MT
 have s1:=cg hr (.deferred (some [])) (.bn w.heap.size) (by exact fun _ h=>h)
 have cZ:(w.alloc (.deferred (some []))).heap.size=w.heap.size+1:=by simp
 generalize Pr:w.alloc (.deferred (some []))=w1 at *
 generalize SZ:R.add (.bn w.heap.size)=R1 at *
 -- the loop's record
 let qd:Loop:={ state:=.ready,pending:=none,fn:=fn,tmps:=a.tmps,params:=ps,assign:=assign,body:=body,defers:=w.heap.size }
 have Ct:nth R1.obj s.G.length=some (.bn w.heap.size):=by rw [← SZ]; exact eK hr _
 have e2:Ext R1 w1 (R1.add (.bn w1.heap.size)) (w1.alloc (.loop qd)):=eJ h1.g.wf _ _
 have MU:eB (R1.add (.bn w1.heap.size)) (w1.alloc (.loop qd)) (.loop false none fp (eR s.ae) s.n ps.toList assign body s.G.length false) (.bn w1.heap.size):=by
  refine ⟨⟨qd,w.heap.size,heap_alloc_new w1 _,rfl,rfl,fun i hi=>?_,hr.n,by simp [qd],rfl,rfl,rfl,e2.bn Ct⟩,j6 _⟩
  rw [oM] at hi ⊢
  have bT:lk s.ae i≠.none:=fun e=>hi (by rw [e]; rfl)
  obtain ⟨c,k1,k2⟩:=hr.t i bT
  refine ⟨c,k1,?_⟩
  cases hx:lk s.ae i with
  | none=>exact absurd hx bT
  | lp k off=>rw [hx] at hi; exact absurd rfl hi
  | v x=>
   rw [hx] at k2
   exact Rel.mono (s1.ext.trans e2) (show Rel R w x c from k2)
 have h2:=h1.iV (.loop qd) (.loop false none fp (eR s.ae) s.n ps.toList assign body s.G.length false) (.bn w1.heap.size) (by exact fun _ h=>h) MU
 have s2:=cg h1 (.loop qd) (.bn w1.heap.size) (by exact fun _ h=>h)
 have Nf:nth (R1.add (.bn w1.heap.size)).obj (s.G.length+1)=some (.bn w1.heap.size):=by
  have:=eK h1 (.bn w1.heap.size)
  simpa [St.cJ] using this
 have st:=s1.trans s2
 generalize S0:R1.add (.bn w1.heap.size)=R2 at *
 generalize MY:a.eval g=fv at Ry
 cases Ry with
 | @fn _ _ _ vs us q1 q2=>
 refine ⟨w.heap.size+1,[{ target:=.collected w.heap.size,args:=#[] }],w1.alloc (.loop qd),{ target:=.fn (.func f) ⟨us⟩,args:=⟨vs⟩++#[.func (.yield (w.heap.size+1)) #[] #[]] },w1.alloc (.loop qd),f,
  ⟨vs++[.func (.yield (w.heap.size+1)) #[] #[]]++us⟩,w1.alloc (.loop qd),?_,?_,?_,?_,?_,?_⟩
 ·have:Fence.wide.round=none:=rfl
  rw [this,run_enterLoop_outer,Pr]
 ·simp only [resolve,MY,Deferred.ofValue,Sem.run_pure]
  simp [Act.eval]
 ·intro f' _
  exact trivial
 ·have:=nB (P:=E.P) h.1 (⟨vs++[.func (.yield (w.heap.size+1)) #[] #[]]++us⟩) (w1.alloc (.loop qd))
  simpa [invoke] using this
 ·intro hc; cases hc
 ·have hG:(s.cJ (.defers true)).cJ (.loop false none fp (eR s.ae) s.n ps.toList assign body s.G.length false)=s.bp (s.G++[.defers true]++[.loop false none fp (eR s.ae) s.n ps.toList assign body s.G.length false]):=rfl
  have S1:Rel R2 (w1.alloc (.loop qd)) (.yield (s.G.length+1)) (.func (.yield (w.heap.size+1)) #[] #[]):=by
   rw [← cZ]
   exact .yield Nf
  refine (h.2 R2 (w1.alloc (.loop qd)) _ h2.g ((((q1.mono st.ext).append (.one S1)).append (q2.mono st.ext)))).mono ?_
  intro e w3 he
  cases e with
  | panicked c=>exact he.elim
  | outgrown=>exact he.elim
  | returned c=>
   obtain ⟨r,G',R3,hQ,dp,S2,PT⟩:=he
   obtain ⟨p1,p2⟩:=h2.oG S2 PT
   unfold PS at hQ
   split at hQ
   ·rename_i busy pending ff sl nn pp nC bd dd done Kb
    obtain ⟨S3,hQ⟩:=hQ
    have Ng:nth R3.obj (s.G.length+1)=some (.bn w1.heap.size):=PT.ext.bn Nf
    obtain ⟨⟨r3,db,l1,l2,l3,_,_,_,_,_,_,_⟩,_⟩:=p1.g.obj _ _ _ Kb Ng
    have Kc:r3.state≠.busy:=by rw [l2]; exact zn S3
    have S4:w3.heap[w.heap.size+1]?=some (.loop r3):=by rw [← cZ]; exact l1
    refine ⟨r3.pending,_,run_endLoop S4 Kc,?_⟩
    rw [l3]
    -- the record is dead
    have Nh:nth R3.obj s.G.length=some (.bn w.heap.size):=PT.ext.bn (by rw [← S0] at e2 ⊢; exact e2.bn Ct)
    have key:∀ x:Obj,ll x→(∀ r,Obj.loop r3=.loop r→∃ r',x=.loop r'∧mY r r')→aP E R3 (World.put w3 w1.heap.size x) β ⟨s.ae,s.boxes,aw G' (s.G.length+1) .dead,s.G.length :: s.marks,s.ro,s.n⟩ { a with defers:=[{ target:=.collected w.heap.size,args:=#[] }]++a.defers }∧Step R w β s.boxes R3 (World.put w3 w1.heap.size x) β s.boxes:=fun x hx S5=>by
     obtain ⟨z1,z2⟩:=p1.setObj (x':=x) (go':=.dead) Ng l1 trivial hx S5 (show w1.heap.size < _ by simp [World.put]; exact aQ l1)
     exact ⟨⟨z1.g,z1.b,z1.t,z1.n,⟨⟨w.heap.size,Nh,rfl⟩,z1.d⟩⟩,(st.trans p2).trans z2⟩
    obtain ⟨z1,z2⟩:=key (.loop { r3 with state:=.exhausted,pending:=pending }) trivial (fun r e=>⟨_,rfl,by cases e; exact ⟨rfl,rfl,rfl,rfl,rfl⟩⟩)
    rw [cZ] at z1 z2
    cases pending with
    | none=>exact ⟨_,R3,β,hQ,z1,z2,rfl⟩
    | some c=>
     refine wpIn_mono (hQ R3 _ β _ Fence.wide z1 (by show bg R3 s.ro Fence.wide; rw [bj]; rfl)) ?_
     rintro e Rn Iu ⟨vY,Fe,LP,JR,uT,px,uc⟩
     exact ⟨vY,Fe,LP,JR,uT,z2.trans px,uc⟩
   ·exact hQ.elim
def zo (id:Nat) (Q:Bool→List GO→Prop):Exit→St→Prop:=fun e s=>match nth s.G id with
 | some (.loop _ _ fn sl n ps nC bd d _)=>match e with
  | .normal=>Q true (aw s.G id (.loop false none fn sl n ps nC bd d false))
  | .ret=>Q false (aw s.G id (.loop false (some .ret) fn sl n ps nC bd d true))
  | .exit i=>Q false (aw s.G id (.loop false (some (.exit i)) fn sl n ps nC bd d true))
  | _=>False
 | _=>False
def vg (E:Env) (id:Nat) (body:Code) (Q:Bool→List GO→Prop):Exit→St→Prop:=fun e s=>match e with
 | .normal=>match nth s.G id with
  | some (.loop false p fn sl n ps nC bd d false)=>dS E body (zo id Q) (s.bp (aw s.G id (.loop true p fn sl n ps nC bd d false)))
  | _=>False
 | _=>False
def su:List Tmp→List AV→aL→aL
 | t :: ts,a :: l,r=>su ts l (.put t (.v a) :: r)
 | _,_,r=>r
def St.round (id:Nat) (ae:aL) (n:Nat) (G:List GO):St:=⟨ae,[],G,[],some id,n⟩
theorem sw {R:ah} {w:World} {β:Nat→Nat}:∀ {ts:List Tmp} {l:List AV} {cs:List Value} {r:aL} {tmps:Array Value},kp R w β r tmps→aA R w l cs→l.length=ts.length→(∀ t∈ts,t < tmps.size) →
  kp R w β (su ts l r) ((ts.zip cs).foldl (fun tmps (t,a)=>tmps.setIfInBounds t a) tmps)
 | [],[],_,_,_,h,.nil,_,_=>h
 | t :: ts,a :: l,c :: cs,r,tmps,h,.cons hx hl,hlen,ht=>by
  have cZ:t < tmps.size:=ht t (by simp)
  simp only [su,List.zip_cons_cons,List.foldl_cons]
  refine sw ?_ hl (by simpa using hlen) (fun t' h'=>by simpa using ht t' (by simp [h']))
  have:=kp.put (a:={ tmps:=tmps,defers:=[] }) h (d:=t) (x:=.v a) (c:=c) cZ hx
  simpa [Act.put] using this
 | [],_ :: _,_,_,_,_,_,hlen,_=>by simp at hlen
 | _ :: _,[],_,_,_,_,_,hlen,_=>by simp at hlen
theorem zp (l:List (Tmp × Value)):∀ tmps:Array Value,(l.foldl (fun (tmps:Array Value) (x:Tmp × Value)=>tmps.setIfInBounds x.1 x.2) tmps).size=tmps.size:=by
 induction l with
 | nil=>intro _; rfl
 | cons x l ih=>intro tmps; rw [List.foldl_cons,ih]; simp
theorem gV.intro {E:Env} {id:Nat} {args:List AV} {G:List GO} {Q:Bool→List GO→Prop} {fn:FuncId} {ae:aL} {n:Nat} {ps:List Tmp} {assign body:Code} {d:Nat} {p:Option Code}
  (hG:nth G id=some (.loop false p fn ae n ps assign body d false)) (hl:args.length=ps.length) (BX:∀ t∈ps,t < n)
  (h:dS E assign (vg E id body Q) (St.round id (su ps args ae) n G)):gV E id args G Q:=fun R w cs b hg hr hb=>by
 obtain ⟨⟨r,db,l1,l2,l3,l4,l5,l6,l7,l8,l9,l10⟩,l11⟩:=hg.obj id _ _ hG hb
 have hlen:=hr.length
 refine ⟨r,l1,by rw [l6]; simp; omega,?_⟩
 have PU:Step R w (fun _=>0) dE R w (fun _=>0) dE:=Step.refl _ _ _ _
 have PV:aP E R w (fun _=>0) (St.round id (su ps args ae) n G) { tmps:=(r.params.zip ⟨cs⟩).foldl (fun tmps (t,a)=>tmps.setIfInBounds t a) r.tmps,defers:=[] }:=by
  have Ni:(r.params.zip ⟨cs⟩).foldl (fun (tmps:Array Value) (x:Tmp × Value)=>tmps.setIfInBounds x.1 x.2) r.tmps=(ps.zip cs).foldl (fun (tmps:Array Value) (x:Tmp × Value)=>tmps.setIfInBounds x.1 x.2) r.tmps:=by
   rw [← Array.foldl_toList]
   simp [l6]
  refine ⟨hg,⟨fun k cs hk=>?_,fun k k' c c' hk=>?_⟩,?_,?_,trivial⟩
  ·simp [St.round,cz] at hk
  ·simp [St.round,cz] at hk
  ·show kp _ _ _ _ _
   have:=sw (ts:=ps) (l:=args) (cs:=cs) l4 hr hl (fun t ht=>by rw [l5]; exact BX t ht)
   rw [← Ni] at this
   exact this
  ·show _=n
   have:=zp (ps.zip cs) r.tmps
   rw [← Ni] at this
   exact this.trans l5
 have MQ:∀ (k:Nat) (cs:List AV),cz (St.round id (su ps args ae) n G).boxes k≠some cs:=fun k cs hk=>by simp [St.round,cz] at hk
 rw [l7,l8]
 refine roundIn_of_wpIn trivial (wpIn_mono (h R w (fun _=>0) _ (Fence.wide.inRound b) PV ⟨b,hb,rfl⟩) ?_)
 rintro e a1 w1 ⟨s1,R1,β1,hq,tX,st1,PW⟩
 unfold vg at hq
 cases e with
 | normal=>
  simp only at hq
  split at hq
  ·rename_i p' Nb LS n' Nc FI LX d' PX
   have M2:nth R1.obj id=some (.bn b):=st1.ext.bn hb
   obtain ⟨⟨r1,S6,m1,m2,m3,m4,m5,m6,m7,m8,m9,m10⟩,m11⟩:=tX.g.obj id _ _ PX M2
   refine ⟨_,run_beginRound m1 m2,?_⟩
   obtain ⟨z1,z2⟩:=tX.setObj (x':=.loop { r1 with state:=.busy }) (go':=.loop true p' Nb LS n' Nc FI LX d' false) M2 m1 trivial trivial (fun r e=>⟨_,rfl,by cases e; exact ⟨rfl,rfl,rfl,rfl,rfl⟩⟩)
    ⟨⟨{ r1 with state:=.busy },S6,eF _ _ _ (aQ m1),rfl,m3,m4.mono (jQ (x':=.loop { r1 with state:=.busy }) m1 trivial trivial (fun r e=>⟨_,rfl,by cases e; exact ⟨rfl,rfl,rfl,rfl,rfl⟩⟩)),m5,m6,m7,m8,m9,m10⟩,m11⟩
   refine wpIn_mono (hq R1 _ β1 a1 (Fence.wide.inRound b) z1 (by show bg R1 s1.ro _; rw [PW]; exact ⟨b,M2,rfl⟩)) ?_
   rintro e2 a2 w2 ⟨s2,R2,β2,ku,wx,st2,BA⟩
   unfold zo at ku
   split at ku
   ·rename_i UL p2 OO PY n2 PZ P0 P1 d2 S7 M0
    have Nj:=(st1.trans z2).trans st2
    have B0:nth R2.obj id=some (.bn b):=Nj.ext.bn hb
    obtain ⟨⟨r2,S8,o1,o2,o3,o4,o5,o6,o7,o8,o9,Rz⟩,LY⟩:=wx.g.obj id _ _ M0 B0
    have fin:∀ (j:Option Code),uU E R w (fun b' G'=>G'=aw s2.G id (.loop false j OO PY n2 PZ P0 P1 d2 (!j.isNone))∧b'=j.isNone) (.returned (.bool j.isNone)) (w2.putObj b (.loop { r2 with state:=if j.isNone then .ready else .done,pending:=j })):=fun j=>by
     obtain ⟨y1,y2⟩:=wx.setObj (x':=.loop { r2 with state:=if j.isNone then .ready else .done,pending:=j }) (go':=.loop false j OO PY n2 PZ P0 P1 d2 (!j.isNone)) B0 o1 trivial trivial (fun r e=>⟨_,rfl,by cases e; exact ⟨rfl,rfl,rfl,rfl,rfl⟩⟩)
      ⟨⟨{ r2 with state:=if j.isNone then .ready else .done,pending:=j },S8,eF _ _ _ (aQ o1),by cases j <;> rfl,rfl,o4.mono (jQ (x':=.loop { r2 with state:=if j.isNone then .ready else .done,pending:=j }) o1 trivial trivial (fun r e=>⟨_,rfl,by cases e; exact ⟨rfl,rfl,rfl,rfl,rfl⟩⟩)),o5,o6,o7,o8,o9,Rz⟩,LY⟩
     exact ⟨_,_,R2,⟨rfl,rfl⟩,rfl,y1.g,rK (Nj.trans y2) MQ⟩
    have mk:∀ (j:Option Code),Q j.isNone (aw s2.G id (.loop false j OO PY n2 PZ P0 P1 d2 (!j.isNone)))→∃ v w',(Instr.endRound b j).run E.P w2=.ok v w'∧uU E R w Q (.returned v) w':=fun j hQ=>by
     refine ⟨_,_,run_endRound j o1,?_⟩
     obtain ⟨r',G',R',⟨h1,h2⟩,h3⟩:=fin j
     subst h1; subst h2
     exact ⟨_,_,R',hQ,h3⟩
    cases e2 with
    | normal=>exact mk none ku
    | ret=>exact mk (some .ret) ku
    | exit i=>exact mk (some (.exit i)) ku
    | _=>exact ku.elim
   ·exact ku.elim
  ·exact hq.elim
 | _=>exact hq.elim
end Go.Am
namespace Go.Am
open Go
section
variable {E:Env} {R R':ah} {w w':World} {β β':Nat→Nat} {s s':St} {a a':Act}
def aN (E:Env) (g:FuncId) (args:List AV) (Q:AV→Prop):Prop:=∀ G,bR E g args G (fun r G'=>G'=G∧Q r)
theorem aN.mono {g:FuncId} {args:List AV} {Q Q':AV→Prop} (h:aN E g args Q) (hq:∀ r,Q r→Q' r):aN E g args Q':=
 fun G=>(h G).mono fun r _ hh=>⟨hh.1,hq r hh.2⟩
theorem aN.of {g:FuncId} {args:List AV} {p:av} {Q:p.T→Prop} (hc:ax 0 args=true) (hp:p.under 0=true)
  (h:bR E g args [] (fun r _=>∃ y,p.dec r=some y∧Q y)):aN E g args (fun r=>∃ y,r=p.enc y∧Q y):=fun G=>by
 refine ⟨h.1,fun R w cs hg hl=>?_⟩
 let R0:ah:=⟨R.I,[]⟩
 have m0:Mv R R0 0:=⟨fun _ _ h=>h,fun _ _ h=>absurd h (Nat.not_lt_zero _)⟩
 have IA:cu E R0 w []:=⟨rfl,fun id go ro h1 _=>by simp [nth] at h1,fun i j ri rj b h1=>by simp [R0,nth] at h1,hg.wf,fun g cs n4=>(hg.bY g cs n4).move m0 (bH _ (E.mf g cs n4)),hg.lo⟩
 have q9:aA R0 w args cs:=hl.move m0 hc
 refine (h.2 R0 w cs IA q9).mono fun e w' he=>?_
 cases e with
 | panicked c=>exact he.elim
 | outgrown=>exact he.elim
 | returned c=>
  obtain ⟨r,G',R1,⟨y,hy,hQ⟩,dp,Kd,st⟩:=he
  have gS:∀ b,¬ Own R0 (fun _=>0) dE b:=fun b ho=>by
   obtain ⟨id,ro,h1,_⟩:=dy ho
   simp [R0,nth] at h1
  let R2:ah:=⟨R1.I,R.obj⟩
  have e:Ext R w R2 w':=⟨st.ext.I,st.ext.cell,fun id ro h=>⟨ro,h,bF.refl ro⟩,st.ext.lp⟩
  have bA:∀ b,b < w.heap.size→w'.heap[b]?=w.heap[b]?:=fun b hb=>st.bA b hb (gS b)
  have im:∀ b o,b < w.heap.size→R1.I b o→R.I b o:=fun b o hb hi=>st.im b o hi hb (gS b)
  have hd:=p.mh hy
  have m:Mv R1 R2 0:=⟨fun _ _ h=>h,fun _ _ h=>absurd h (Nat.not_lt_zero _)⟩
  refine ⟨p.enc y,G,R2,⟨rfl,y,rfl,hQ⟩,Rel.move m (p.cp y hp) (hd.eu _ _ _ dp),⟨hg.len,fun id go ro h1 h2=>?_,hg.inj,Kd.wf,fun g cs n4=>(hg.bY g cs n4).mono e,Kd.lo⟩,⟨e,st.os,st.tape,st.output,st.size,fun b hb _=>bA b hb,fun b _ ho=>?_,fun b o hi hb _=>im b o hb hi⟩⟩
  ·refine (hg.obj id go ro h1 h2).mono e (fun b hb=>bA b ?_) (fun b o hb hi=>im b o ?_ hi)
   ·exact (hg.obj id go ro h1 h2).lt hb
   ·exact (hg.obj id go ro h1 h2).lt hb
  ·exact ho
theorem dS.P2 {c:Code} {Q Q':Exit→St→Prop} (h:dS E c (fun e s'=>aF s s'∧Q' e s') s)
  (hq:∀ e s',Q' e s'→∃ (t:bJ) (v:t.ps.T),t.dec s s'=some v∧Q e (t.st s v)):dS E c Q s:=fun R w β a F hr hf=>by
 refine wpIn_mono (h R w β a F hr hf) ?_
 rintro e a' w' ⟨s',R',β',⟨hx,Py⟩,iW,iA,bj⟩
 obtain ⟨t,v,hd,hQ⟩:=hq e s' Py
 obtain ⟨h1,h2⟩:=bJ.vJ hx hr iW iA hd
 exact ⟨_,_,β',hQ,h1,h2,rfl⟩
theorem dS.eQ {c:Code} {Q:Exit→St→Prop} {l:List (Loc × Nat × TypeId)} (hs:Am.eQ l s=some s') (h:dS E c Q s'):dS E c Q s:=fun R w β a F hr hf=>by
 obtain ⟨R1,k1,k2,k3,_⟩:=gU hr hs
 refine wpIn_mono (h R1 w β a F k1 (by rw [k3]; exact hf.mono k2.ext)) ?_
 rintro e a' w' ⟨s2,R2,β2,hq,wx,st2,BA⟩
 exact ⟨s2,R2,β2,hq,wx,k2.trans st2,BA.trans k3⟩
end
end Go.Am
