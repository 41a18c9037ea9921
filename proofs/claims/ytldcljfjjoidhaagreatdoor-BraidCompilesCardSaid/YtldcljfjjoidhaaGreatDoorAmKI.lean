/- The abstract machine: what is asked of bodies; values are brought to a short form. -/
import Derived.Test.YtldcljfjjoidhaaGreatDoorAmKH
import Derived.RangeFuncIn
import Derived.RangeFuncRecord
set_option linter.all false
namespace Go.Am
open Go
def bL (dt:Nat→Option ai):Code→Bool
 | .region id ops true=>match dt id with
  | some p=>FT ops p
  | none=>false
 | .seq x y=>bL dt x&&bL dt y
 | .cond _ x y=>bL dt x&&bL dt y
 | .block _ c=>bL dt c
 | .loop c=>bL dt c
 | .scope c=>bL dt c
 | .rangeFunc _ _ a b=>bL dt a&&bL dt b
 | _=>true
structure IL extends Env where
 dt:FuncId→Nat→Option ai
 okF:FuncId→Bool
 Tk:∀ f fn c,okF f=true→P.funcs[f]?=some fn→fn.body=some c→bL (dt f) c=true
def j6 {α:Type} (n:Nat) (K:Nat→α):α:=match n with
 | 0=>K 0
 | m+1=>K (Nat.succ m)
def yw {α:Type} (n:Int) (K:Int→α):α:=match n with
 | .ofNat m=>j6 m fun m=>K (.ofNat m)
 | .negSucc m=>j6 m fun m=>K (.negSucc m)
def pH {α β:Type}:List β→(List β→α)→α
 | [],K=>K []
 | a :: l,K=>pH l fun l=>K (a :: l)
def BX {α:Type} (v:AV) (K:AV→α):α:=match v with
 | .int k n=>yw n fun n=>K (.int k n)
 | .bool true=>K (.bool true)
 | .bool false=>K (.bool false)
 | .list k sz es=>pH es fun es=>K (.list k sz es)
 | .str l=>pH l fun l=>K (.str l)
 | .kB id off sz len cap=>j6 off fun off=>j6 len fun len=>j6 cap fun cap=>K (.kB id off sz len cap)
 | .ptr id off=>j6 off fun off=>K (.ptr id off)
 | .agg cs=>pH cs fun cs=>K (.agg cs)
 | v=>K v
def BY {α:Type} (l:bj) (K:bj→α):α:=match l with
 | .put d (.v a) :: l=>BX a fun a=>K (.put d (.v a) :: l)
 | .put d (.lp k off) :: l=>j6 off fun off=>K (.put d (.lp k off) :: l)
 | l=>K l
def BZ {α:Type} (l:cP) (K:cP→α):α:=match l with
 | (d,cs) :: l=>pH cs fun cs=>K ((d,cs) :: l)
 | []=>K []
def FU {α:Type} (s:St) (K:St→α):α:=match s with
 | ⟨sl,bx,G,m,ro,n⟩=>BY sl fun sl=>BZ bx fun bx=>pH G fun G=>K ⟨sl,bx,G,m,ro,n⟩
theorem pI {α:Type} (n:Nat) (K:Nat→α):j6 n K=K n:=by cases n <;> rfl
theorem Dt {α:Type} (n:Int) (K:Int→α):yw n K=K n:=by cases n <;> simp [yw,pI]
theorem qx {α β:Type}:∀ (l:List β) (K:List β→α),pH l K=K l
 | [],_=>rfl
 | a :: l,K=>by simp only [pH]; rw [qx]
theorem FV {α:Type} (v:AV) (K:AV→α):BX v K=K v:=by
 unfold BX
 split <;> simp [pI,Dt,qx]
theorem FW {α:Type} (l:bj) (K:bj→α):BY l K=K l:=by
 unfold BY
 split <;> simp [pI,FV]
theorem FX {α:Type} (l:cP) (K:cP→α):BZ l K=K l:=by
 unfold BZ
 split <;> simp [qx]
theorem IM {α:Type} (s:St) (K:St→α):FU s K=K s:=by
 obtain ⟨sl,bx,G,m,ro,n⟩:=s
 simp [FU,FW,FX,qx]
def B0:SV→SV→Bool
 | .v a,.v b=>eH a b
 | .lp k o,.lp k' o'=>Nat.beq k k'&&Nat.beq o o'
 | _,_=>false
def bRe (E:Env) (f:FuncId) (ops:List Oper) (o:Oper) (s:St):Bool:=match CB ops s o with
 | some true=>match o.dst,ap E f s o with
  | some d,some (c,s')=>c&&B0 (lk s'.ae d) (lk s.ae d)
  | _,_=>false
 | some false=>true
 | none=>false
section
variable {E:Env} {f:FuncId} {s:St}
theorem A3 {a b:SV} (h:B0 a b=true):a=b:=by
 unfold B0 at h
 split at h
 ·rw [jV h]
 ·simp only [Bool.and_eq_true,Nat.beq_eq] at h; rw [h.1,h.2]
 ·cases h
theorem A4 {ops:List Oper} {o:Oper} (h:bRe E f ops o s=true):FJ E f ops o s:=by
 unfold bRe at h
 unfold FJ
 split at h
 ·rename_i hg
  rw [hg]
  simp only
  split at h
  ·rename_i d c s' hd hs
   rw [Bool.and_eq_true] at h
   obtain ⟨rfl,h⟩:=h
   rw [hd,hs]
   exact ⟨rfl,A3 h⟩
  ·cases h
 ·rename_i hg
  rw [hg]
  trivial
 ·cases h
end
end Go.Am
namespace Go.Am
open Go
mutual
def AV.under (n:Nat):AV→Bool
 | .agg cs=>aM n cs
 | .bp cs=>aM n cs
 | .ep cs=>aM n cs
 | .list (.own id) _ _=>Nat.blt id n
 | .list (.bk id _) _ _=>Nat.blt id n
 | .fn _ x y=>aM n x&&aM n y
 | .iface _ v=>v.under n
 | .ptr id _=>Nat.blt id n
 | .kB id _ _ _ _=>Nat.blt id n
 | .dD id _ _ _ _=>Nat.blt id n
 | .gp id _ _ _ _ _=>Nat.blt id n
 | .map id=>Nat.blt id n
 | .yield id=>Nat.blt id n
 | _=>true
def aM (n:Nat):List AV→Bool
 | []=>true
 | a :: l=>a.under n&&aM n l
end
mutual
theorem jk (n:Nat):∀ {a:AV},a.closed=true→a.under n=true:=fun {a} h=>by
 cases a with
 | agg cs=>simp only [AV.closed,AV.under] at *; exact cz n h
 | bp cs=>simp only [AV.closed,AV.under] at *; exact cz n h
 | ep cs=>simp only [AV.closed,AV.under] at *; exact cz n h
 | list k sz es=>cases k <;> simp_all [AV.closed,AV.under,LK.closed]
 | fn f x y=>
  simp only [AV.closed,AV.under,Bool.and_eq_true] at *
  exact ⟨cz n h.1,cz n h.2⟩
 | iface t v=>simp only [AV.closed,AV.under] at *; exact jk n h
 | _=>simp_all [AV.closed,AV.under]
theorem cz (n:Nat):∀ {l:List AV},bg l=true→aM n l=true
 | [],_=>rfl
 | a :: l,h=>by
  simp only [bg,aM,Bool.and_eq_true] at *
  exact ⟨jk n h.1,cz n h.2⟩
end
theorem qy {a b:Nat} (h:Nat.blt a b=true):a < b:=Nat.le_of_ble_eq_true h
mutual
theorem mH:∀ {a:AV},a.under 0=true→a.closed=true:=fun {a} h=>by
 cases a with
 | agg cs=>simp only [AV.closed,AV.under] at *; exact fG h
 | bp cs=>simp only [AV.closed,AV.under] at *; exact fG h
 | ep cs=>simp only [AV.closed,AV.under] at *; exact fG h
 | list k sz es=>cases k <;> first | rfl | (simp [AV.under] at h)
 | fn f x y=>
  simp only [AV.closed,AV.under,Bool.and_eq_true] at *
  exact ⟨fG h.1,fG h.2⟩
 | iface t v=>simp only [AV.closed,AV.under] at *; exact mH h
 | ptr id off=>simp only [AV.under] at h; exact absurd (qy h) (Nat.not_lt_zero _)
 | kB id off sz len cap=>simp only [AV.under] at h; exact absurd (qy h) (Nat.not_lt_zero _)
 | dD id f off sz len=>simp only [AV.under] at h; exact absurd (qy h) (Nat.not_lt_zero _)
 | gp id f i off sz t=>simp only [AV.under] at h; exact absurd (qy h) (Nat.not_lt_zero _)
 | map id=>simp only [AV.under] at h; exact absurd (qy h) (Nat.not_lt_zero _)
 | yield id=>simp only [AV.under] at h; exact absurd (qy h) (Nat.not_lt_zero _)
 | _=>rfl
theorem fG:∀ {l:List AV},aM 0 l=true→bg l=true
 | [],_=>rfl
 | a :: l,h=>by
  simp only [aM,bg,Bool.and_eq_true] at *
  exact ⟨mH h.1,fG h.2⟩
end
section move
variable {R R2:an} {w:World} {n:Nat}
structure Mv (R R2:an) (n:Nat):Prop where
 I:∀ b o,R.I b o→R2.I b o
 obj:∀ id ro,id < n→nth R.obj id=some ro→nth R2.obj id=some ro
theorem ku {a b:Nat} (h:Nat.blt a b=true):a < b:=Nat.le_of_ble_eq_true h
theorem lu {a b:Nat} (h:a < b):Nat.blt a b=true:=Nat.ble_eq_true_of_le h
theorem Bz.move (m:Mv R R2 n) {k:LK} {b o len cap:Nat} (h:Bz R k b o len cap) (hk:∀ id,(k=.own id∨∃ j,k=.bk id j)→id < n):Bz R2 k b o len cap:=by
 cases k with
 | nil=>exact h
 | full=>exact h
 | lQ=>trivial
 | own id=>obtain ⟨ro,h1,h2⟩:=h; exact ⟨ro,m.obj id ro (hk id (.inl rfl)) h1,h2⟩
 | bk id j=>obtain ⟨ro,h1,h2⟩:=h; exact ⟨ro,m.obj id ro (hk id (.inr ⟨j,rfl⟩)) h1,h2⟩
mutual
theorem Rel.move (m:Mv R R2 n):∀ {a:AV} {c:Value},a.under n=true→Rel R w a c→Rel R2 w a c
 | _,_,_,.bool b=>.bool b
 | _,_,_,.int k i=>.int k i
 | _,_,_,.str l=>.str l
 | _,_,hb,.agg h h1=>.agg (h.move m (by simpa [AV.under] using hb)) h1
 | _,_,hb,.bp h=>.bp (h.move m (by simpa [AV.under] using hb))
 | _,_,_,.jd=>.jd
 | _,_,hb,.ptr h=>.ptr (m.obj _ _ (ku (by simpa [AV.under] using hb)) h)
 | _,_,hb,.ep h=>.ep (h.move m (by simpa [AV.under] using hb))
 | _,_,_,.km=>.km
 | _,_,_,.jA=>.jA
 | _,_,_,.nL=>.nL
 | _,_,hb,.mV h ho=>.mV (m.obj _ _ (ku (by simpa [AV.under] using hb)) h) ho
 | _,_,hb,.mB h ho=>.mB (m.obj _ _ (ku (by simpa [AV.under] using hb)) h) ho
 | .list k sz es,_,hb,.list h hl hc hk=>.list (h.move m) hl hc (hk.move m fun id e=>by rcases e with e | ⟨j,e⟩ <;> subst e <;> exact ku (by simpa [AV.under] using hb))
 | _,_,hb,.kB h hc=>.kB (m.obj _ _ (ku (by simpa [AV.under] using hb)) h) hc
 | _,_,hb,.js h ho=>.js (m.obj _ _ (ku (by simpa [AV.under] using hb)) h) ho
 | _,_,hb,.dD h ho hc=>.dD (m.obj _ _ (ku (by simpa [AV.under] using hb)) h) ho hc
 | _,_,hb,.gp h ho=>.gp (m.obj _ _ (ku (by simpa [AV.under] using hb)) h) ho
 | _,_,_,.kX=>.kX
 | _,_,hb,.map h=>.map (m.obj _ _ (ku (by simpa [AV.under] using hb)) h)
 | _,_,_,.cI=>.cI
 | _,_,hb,.fn h h'=>.fn (h.move m (by simp only [AV.under,Bool.and_eq_true] at hb; exact hb.1)) (h'.move m (by simp only [AV.under,Bool.and_eq_true] at hb; exact hb.2))
 | _,_,hb,.yield h=>.yield (m.obj _ _ (ku (by simpa [AV.under] using hb)) h)
 | _,_,_,.oN=>.oN
 | _,_,hb,.iface h=>.iface (h.move m (by simpa [AV.under] using hb))
theorem aQ.move (m:Mv R R2 n):∀ {l:List AV} {cs:List Value},aQ R w l cs→aM n l=true→aQ R2 w l cs
 | _,_,.nil,_=>.nil
 | _,_,.cons h t,hb=>by
  simp only [aM,Bool.and_eq_true] at hb
  exact .cons (h.move m hb.1) (t.move m hb.2)
theorem gQ.move (m:Mv R R2 n):∀ {b o sz:Nat} {l:List AV},gQ R w b o sz l→gQ R2 w b o sz l
 | _,_,_,_,.nil=>.nil
 | _,_,_,_,@gQ.cons _ _ _ _ _ e _ hl ht hk h t=>.cons hl ht hk (h.move m (by
   cases e with
   | agg cs=>exact cz n (show bg cs=true by simpa [AV.closed] using hk)
   | bp cs=>simp [AV.a6] at ht
   | _=>simp only [AV.cells,aM,Bool.and_true]; exact jk n hk)) (t.move m)
theorem eN.move (m:Mv R R2 n):∀ {b o:Nat} {l:List AV},eN R w b o l→aM n l=true→eN R2 w b o l
 | _,_,_,.nil,_=>.nil
 | _,_,_,.cons hc h1 hi h t,hb=>by
  simp only [aM,Bool.and_eq_true] at hb
  exact .cons hc h1 (m.I _ _ hi) (h.move m hb.1) (t.move m hb.2)
end
theorem ko.move {E:Env} (m:Mv R R2 n) {g:Nat} {cs:List AV} (h:ko E R w g cs) (hu:aM n cs=true):ko E R2 w g cs:=
 ⟨h.1.move m hu,fun hx=>⟨m.I _ _ (h.2 hx).1,(h.2 hx).2⟩⟩
mutual
theorem Rel.under (hn:R.obj.length≤n):∀ {a:AV} {c:Value},Rel R w a c→a.under n=true
 | _,_,.bool _ | _,_,.int _ _ | _,_,.str _ | _,_,.jd | _,_,.km | _,_,.jA | _,_,.nL | _,_,.kX | _,_,.cI | _,_,.oN=>by simp [AV.under]
 | _,_,.agg h _=>by simp only [AV.under]; exact h.under hn
 | _,_,.bp h=>by simp only [AV.under]; exact h.under hn
 | _,_,.ptr h=>by simp only [AV.under]; exact lu (Nat.lt_of_lt_of_le (bR h) hn)
 | _,_,.ep h=>by simp only [AV.under]; exact h.under hn
 | _,_,.mV h _=>by simp only [AV.under]; exact lu (Nat.lt_of_lt_of_le (bR h) hn)
 | _,_,.mB h _=>by simp only [AV.under]; exact lu (Nat.lt_of_lt_of_le (bR h) hn)
 | _,_,@Rel.list _ _ k _ _ _ _ _ _ _ _ _ hk=>by
  cases k with
  | own id=>obtain ⟨ro,h1,_⟩:=hk; simp only [AV.under]; exact lu (Nat.lt_of_lt_of_le (bR h1) hn)
  | bk id j=>obtain ⟨ro,h1,_⟩:=hk; simp only [AV.under]; exact lu (Nat.lt_of_lt_of_le (bR h1) hn)
  | _=>simp [AV.under]
 | _,_,.kB h _=>by simp only [AV.under]; exact lu (Nat.lt_of_lt_of_le (bR h) hn)
 | _,_,.js h _=>by simp only [AV.under]; exact lu (Nat.lt_of_lt_of_le (bR h) hn)
 | _,_,.dD h _ _=>by simp only [AV.under]; exact lu (Nat.lt_of_lt_of_le (bR h) hn)
 | _,_,.gp h _=>by simp only [AV.under]; exact lu (Nat.lt_of_lt_of_le (bR h) hn)
 | _,_,.map h=>by simp only [AV.under]; exact lu (Nat.lt_of_lt_of_le (bR h) hn)
 | _,_,.fn h h'=>by simp only [AV.under,Bool.and_eq_true]; exact ⟨h.under hn,h'.under hn⟩
 | _,_,.yield h=>by simp only [AV.under]; exact lu (Nat.lt_of_lt_of_le (bR h) hn)
 | _,_,.iface h=>by simp only [AV.under]; exact h.under hn
theorem aQ.under (hn:R.obj.length≤n):∀ {l:List AV} {cs:List Value},aQ R w l cs→aM n l=true
 | _,_,.nil=>rfl
 | _,_,.cons h t=>by simp only [aM,Bool.and_eq_true]; exact ⟨h.under hn,t.under hn⟩
theorem eN.under (hn:R.obj.length≤n):∀ {b o:Nat} {l:List AV},eN R w b o l→aM n l=true
 | _,_,_,.nil=>rfl
 | _,_,_,.cons _ _ _ h t=>by simp only [aM,Bool.and_eq_true]; exact ⟨h.under hn,t.under hn⟩
end
end move
end Go.Am
namespace Go.Am
open Go
mutual
def aR.under (n:Nat):aR→Bool
 | .agg ps=>ps.under n
 | .bp ps=>ps.under n
 | .own id _ _=>Nat.blt id n
 | .bk id _ _=>Nat.blt id n
 | .dS v=>v.under n
 | .two u v=>u.under n&&v.under n
 | _=>true
def aT.under (n:Nat):aT→Bool
 | .nil=>true
 | .cons p ps=>p.under n&&ps.under n
end
mutual
theorem aR.dW {n:Nat}:∀ (p:aR) (x:p.T),p.under n=true→(p.enc x).under n=true
 | .int k,x,_=>by simp [aR.enc,AV.under]
 | .bool,x,_=>by simp [aR.enc,AV.under]
 | .str,x,_=>by simp [aR.enc,AV.under]
 | .agg ps,x,h=>by
  simp only [aR.enc,AV.under]
  exact ps.dW x h
 | .bp ps,x,h=>by
  simp only [aR.enc,AV.under]
  exact ps.dW x h
 | .list sz p,x,_=>by simp [aR.enc,AV.under]
 | .own id sz p,x,h=>by
  simp only [aR.enc,AV.under]
  exact h
 | .bk id sz p,x,h=>by
  simp only [aR.enc,AV.under]
  exact h
 | .dS v,x,h=>by
  simp only [aR.enc]
  exact h
 | .two u v,(x:Bool),h=>by
  simp only [aR.under,Bool.and_eq_true] at h
  change AV.under n (bif x then v else u)=true
  cases x
  ·exact h.1
  ·exact h.2
theorem aT.dW {n:Nat}:∀ (ps:aT) (x:ps.T),ps.under n=true→aM n (ps.enc x)=true
 | .nil,x,_=>rfl
 | .cons p .nil,x,h=>by
  simp only [aT.under,Bool.and_true] at h
  simp only [aT.enc,aM,Bool.and_true]
  exact p.dW _ h
 | .cons p (.cons q ps),x,h=>by
  rw [aT.under,Bool.and_eq_true] at h
  simp only [aT.enc,aM,Bool.and_eq_true]
  exact ⟨p.dW _ h.1,(aT.cons q ps).dW _ h.2⟩
end
mutual
def AV.exact:AV→Bool
 | .bool _=>true
 | .int _ _=>true
 | .str _=>true
 | .agg cs=>gI cs
 | _=>false
def gI:List AV→Bool
 | []=>true
 | a :: l=>a.exact&&gI l
end
mutual
theorem aR.j7:∀ (p:aR) {a:AV},p.fits a=true→a.exact=true→p.enc (p.bA a)=a
 | .int k,a,h,e=>by
  cases a with
  | int k' n=>have hk:Ub k k'=true:=h; rw [EW hk]; rfl
  | _=>cases h
 | .bool,a,h,e=>by
  cases a with
  | bool b=>rfl
  | _=>cases h
 | .str,a,h,e=>by
  cases a with
  | str b=>rfl
  | _=>cases h
 | .agg ps,a,h,e=>by
  cases a with
  | agg cs=>
   have e':gI cs=true:=by simpa [AV.exact] using e
   show AV.agg (ps.enc (ps.bA cs))=_
   rw [ps.j7 (show ps.fits cs=true from h) e']
  | _=>cases h
 | .bp ps,a,h,e=>by cases a <;> first | (cases h; done) | simp [AV.exact] at e
 | .list sz p,a,h,e=>by cases a <;> first | (cases h; done) | simp [AV.exact] at e
 | .own id sz p,a,h,e=>by cases a <;> first | (cases h; done) | simp [AV.exact] at e
 | .bk id sz p,a,h,e=>by cases a <;> first | (cases h; done) | simp [AV.exact] at e
 | .dS u,a,h,e=>(jV (show eH a u=true from h)).symm
 | .two u v,a,h,_=>wG h
theorem aT.j7:∀ (ps:aT) {l:List AV},ps.fits l=true→gI l=true→ps.enc (ps.bA l)=l
 | .nil,l,h,_=>by
  cases l with
  | nil=>rfl
  | cons _ _=>cases h
 | .cons p .nil,l,h,e=>by
  cases l with
  | nil=>cases h
  | cons a l=>
   have h':(p.fits a&&l.isEmpty)=true:=h
   simp only [Bool.and_eq_true,List.isEmpty_iff] at h'
   obtain ⟨h1,rfl⟩:=h'
   simp only [gI,Bool.and_true] at e
   show [p.enc (p.bA a)]=_
   rw [p.j7 h1 e]
 | .cons p (.cons q ps),l,h,e=>by
  cases l with
  | nil=>cases h
  | cons a l=>
   have h':(p.fits a&&(aT.cons q ps).fits l)=true:=h
   rw [Bool.and_eq_true] at h'
   simp only [gI,Bool.and_eq_true] at e
   show p.enc (p.bA a) :: (aT.cons q ps).enc ((aT.cons q ps).bA l)=_
   rw [p.j7 h'.1 e.1,(aT.cons q ps).j7 h'.2 e.2]
end
mutual
theorem oe:∀ {a:AV},a.exact=true→a.closed=true:=fun {a} h=>by
 cases a with
 | agg cs=>simp only [AV.exact,AV.closed] at *; exact rv h
 | _=>simp_all [AV.exact,AV.closed]
theorem rv:∀ {l:List AV},gI l=true→bg l=true
 | [],_=>rfl
 | a :: l,h=>by
  simp only [gI,bg,Bool.and_eq_true] at *
  exact ⟨oe h.1,rv h.2⟩
end
def ao:List (AV × AV)→List AV
 | []=>[]
 | (k,v) :: l=>.agg [k,v] :: ao l
def Zo:AV→AV × AV
 | .agg [k,v]=>(k,v)
 | _=>(gw,gw)
def ab:List AV→List (AV × AV)
 | []=>[]
 | a :: l=>Zo a :: ab l
def AV.entries:AV→List (AV × AV)
 | .list _ _ es=>ab es
 | _=>[]
theorem oK:∀ l:List (AV × AV),ab (ao l)=l
 | []=>rfl
 | (k,v) :: l=>by simp only [ao,ab,oK l]; rfl
def AV.KL:AV→Bool
 | .list .lQ _ es=>gI es
 | _=>false
def kv:List AV→List AV→Prop
 | [],[]=>True
 | a :: l,b :: r=>jy a b∧kv l r
 | _,_=>False
theorem kv.refl:∀ l:List AV,kv l l
 | []=>trivial
 | a :: l=>⟨jy.refl a,kv.refl l⟩
theorem kv.length:∀ {l r:List AV},kv l r→l.length=r.length
 | [],[],_=>rfl
 | _ :: _,_ :: _,h=>by simp [kv.length h.2]
 | [],_ :: _,h=>h.elim
 | _ :: _,[],h=>h.elim
theorem kv.of {α:Type} {f:AV→Bool} {d:AV→α} {g:α→AV} (GJ:∀ v,f v=true→jy v (g (d v))):∀ {es:List AV},allFit f es=true→kv es ((es.map d).map g)
 | [],_=>trivial
 | e :: es,h=>by
  simp only [allFit,Bool.and_eq_true] at h
  exact ⟨GJ e h.1,kv.of GJ h.2⟩
theorem aR.Du (p:aR) {a:AV} (h:p.fits a=true):kv a.eQ (p.enc (p.bA a)).eQ:=by
 cases p with
 | list sz p=>
  cases a with
  | list k bQ es=>
   have hb:((Nat.beq sz bQ || es.isEmpty)&&allFit p.fits es)=true:=h
   rw [Bool.and_eq_true] at hb
   exact kv.of (fun v hv=>p.dc hv) hb.2
  | _=>cases h
 | own id sz p=>
  cases a with
  | list k bQ es=>
   cases k with
   | own kf=>
    have hb:((Nat.beq id kf&&Nat.beq sz bQ)&&allFit p.fits es)=true:=h
    rw [Bool.and_eq_true] at hb
    exact kv.of (fun v hv=>p.dc hv) hb.2
   | _=>cases h
  | _=>cases h
 | bk id sz p=>
  cases a with
  | list k bQ es=>
   cases k with
   | bk kf j=>
    have hb:((Nat.beq id kf&&Nat.beq sz bQ)&&allFit p.fits es)=true:=h
    rw [Bool.and_eq_true] at hb
    exact kv.of (fun v hv=>p.dc hv) hb.2
   | _=>cases h
  | _=>cases h
 | dS u=>rw [show a=u from jV (show eH a u=true from h)]; exact kv.refl _
 | two u v=>rw [wG h]; exact kv.refl _
 | _=>cases a <;> first | (cases h; done) | exact kv.refl _
def JJ:List AV→List AV→Prop
 | [],[]=>True
 | a :: l,b :: r=>(a.exact=true→b=a)∧(a.KL=true→b.eQ=a.eQ)∧kv a.eQ b.eQ∧JJ l r
 | _,_=>False
theorem yx {f:AV→Bool} {α:Type} {d:AV→α} {g:α→AV} (GJ:∀ a,f a=true→a.exact=true→g (d a)=a):∀ {es:List AV},allFit f es=true→gI es=true→(es.map d).map g=es
 | [],_,_=>rfl
 | a :: l,h,e=>by
  simp only [allFit,gI,Bool.and_eq_true] at *
  simp only [List.map_cons,GJ a h.1 e.1,yx GJ h.2 e.2]
theorem aR.Dv (p:aR) {a:AV} (h:p.fits a=true) (e:a.KL=true):(p.enc (p.bA a)).eQ=a.eQ:=by
 cases a with
 | list k bQ es=>
  cases k with
  | lQ=>
   have e':gI es=true:=e
   cases p with
   | list sz p=>
    have hb:((Nat.beq sz bQ || es.isEmpty)&&allFit p.fits es)=true:=h
    rw [Bool.and_eq_true] at hb
    show (es.map p.bA).map p.enc=_
    rw [yx (fun a=>p.j7) hb.2 e']
    rfl
   | dS u=>rw [show AV.list .lQ bQ es=u from jV (show eH _ u=true from h)]; rfl
   | two u v=>rw [wG h]
   | _=>cases h
  | _=>cases e
 | _=>cases e
theorem aT.KM:∀ (ps:aT) {l:List AV},ps.fits l=true→JJ l (ps.enc (ps.bA l))
 | .nil,l,h=>by
  cases l with
  | nil=>trivial
  | cons _ _=>cases h
 | .cons p .nil,l,h=>by
  cases l with
  | nil=>cases h
  | cons a l=>
   have h':(p.fits a&&l.isEmpty)=true:=h
   simp only [Bool.and_eq_true,List.isEmpty_iff] at h'
   obtain ⟨h1,rfl⟩:=h'
   exact ⟨p.j7 h1,p.Dv h1,p.Du h1,trivial⟩
 | .cons p (.cons q ps),l,h=>by
  cases l with
  | nil=>cases h
  | cons a l=>
   have h':(p.fits a&&(aT.cons q ps).fits l)=true:=h
   rw [Bool.and_eq_true] at h'
   exact ⟨p.j7 h'.1,p.Dv h'.1,p.Du h'.1,(aT.cons q ps).KM h'.2⟩
theorem JJ.split:∀ {l r l':List AV},JJ (l++r) l'→∃ a b,l'=a++b∧JJ l a∧JJ r b∧a.length=l.length
 | [],r,l',h=>⟨[],l',rfl,trivial,h,rfl⟩
 | x :: l,r,[],h=>h.elim
 | x :: l,r,y :: l',h=>by
  obtain ⟨a,b,rfl,h2,h3,h4⟩:=JJ.split (l:=l) (r:=r) (l':=l') h.2.2.2
  exact ⟨y :: a,b,rfl,⟨h.1,h.2.1,h.2.2.1,h2⟩,h3,by simp [h4]⟩
mutual
def AV.yy (L:Nat→Nat):AV→AV
 | .dD id 0 0 sz 0=>.dD id (L id) 0 sz (L id)
 | .fn f x y=>.fn f (KN L x) (KN L y)
 | v=>v
def KN (L:Nat→Nat):List AV→List AV
 | []=>[]
 | a :: l=>a.yy L :: KN L l
end
mutual
def aR.inst (L:Nat→Nat):aR→aR
 | .agg ps=>.agg (ps.inst L)
 | .bp ps=>.bp (ps.inst L)
 | .dS v=>.dS (v.yy L)
 | p=>p
def aT.inst (L:Nat→Nat):aT→aT
 | .nil=>.nil
 | .cons p ps=>.cons (p.inst L) (ps.inst L)
end
mutual
def aR.lx (L:Nat→Nat):(p:aR)→p.T→AV
 | .int k,(n:Int)=>.int k n
 | .bool,(b:Bool)=>.bool b
 | .str,(s:List UInt8)=>.str s
 | .agg ps,x=>.agg (ps.lx L x)
 | .bp ps,x=>.bp (ps.lx L x)
 | .list sz p,(xs:List p.T)=>.list .lQ sz (xs.map p.enc)
 | .own id sz p,(xs:List p.T)=>.list (.own id) sz (xs.map p.enc)
 | .bk id sz p,(x:Nat × List p.T)=>.list (.bk id x.1) sz (x.2.map p.enc)
 | .dS v,_=>v.yy L
 | .two u v,(b:Bool)=>bif b then v else u
def aT.lx (L:Nat→Nat):(ps:aT)→ps.T→List AV
 | .nil,_=>[]
 | .cons p .nil,x=>[p.lx L x]
 | .cons p (.cons q ps),x=>p.lx L x.1 :: (aT.cons q ps).lx L x.2
end
mutual
def aR.np (L:Nat→Nat):aR→AV→Bool
 | .int k,v=>aR.fits (.int k) v
 | .bool,v=>aR.fits .bool v
 | .str,v=>aR.fits .str v
 | .agg ps,v=>match v with
  | .agg cs=>ps.np L cs
  | _=>false
 | .bp ps,v=>match v with
  | .bp cs=>ps.np L cs
  | _=>false
 | .list sz p,v=>aR.fits (.list sz p) v
 | .own id sz p,v=>aR.fits (.own id sz p) v
 | .bk id sz p,v=>aR.fits (.bk id sz p) v
 | .dS v,u=>eH u (v.yy L)
 | .two u v,a=>aR.fits (.two u v) a
def aT.np (L:Nat→Nat):aT→List AV→Bool
 | .nil,l=>l.isEmpty
 | .cons p ps,l=>match l with
  | a :: l=>p.np L a&&ps.np L l
  | []=>false
end
def aT.IN (L:Nat→Nat) (ps:aT) (l:List AV):Option ps.T:=bif ps.np L l then some (ps.bA l) else none
mutual
theorem aR.jI (L:Nat→Nat):∀ (p:aR) (a:AV),p.np L a=(p.inst L).fits a
 | .int _,_=>rfl
 | .bool,_=>rfl
 | .str,_=>rfl
 | .agg ps,a=>by
  simp only [aR.np,aR.inst,aR.fits]
  cases a <;> first | rfl | exact ps.jI L _
 | .bp ps,a=>by
  simp only [aR.np,aR.inst,aR.fits]
  cases a <;> first | rfl | exact ps.jI L _
 | .list _ _,_=>rfl
 | .own _ _ _,_=>rfl
 | .bk _ _ _,_=>rfl
 | .dS _,_=>rfl
 | .two _ _,_=>rfl
theorem aT.jI (L:Nat→Nat):∀ (ps:aT) (l:List AV),ps.np L l=(ps.inst L).fits l
 | .nil,_=>rfl
 | .cons p ps,l=>by
  cases l with
  | nil=>rfl
  | cons a l=>
   simp only [aT.np,aT.inst,aT.fits]
   rw [p.jI L a,ps.jI L l]
end
mutual
theorem aR.iU (L:Nat→Nat):∀ (p:aR) (a:AV),p.lx L (p.bA a)=(p.inst L).enc ((p.inst L).bA a)
 | .int _,_=>rfl
 | .bool,_=>rfl
 | .str,_=>rfl
 | .agg ps,a=>congrArg AV.agg (ps.iU L a.kh)
 | .bp ps,a=>congrArg AV.bp (ps.iU L a.Uc)
 | .list _ _,_=>rfl
 | .own _ _ _,_=>rfl
 | .bk _ _ _,_=>rfl
 | .dS _,_=>rfl
 | .two _ _,_=>rfl
theorem aT.iU (L:Nat→Nat):∀ (ps:aT) (l:List AV),ps.lx L (ps.bA l)=(ps.inst L).enc ((ps.inst L).bA l)
 | .nil,_=>rfl
 | .cons p .nil,l=>by
  show [p.lx L (p.bA (fc l))]=[(p.inst L).enc ((p.inst L).bA (fc l))]
  rw [p.iU L]
 | .cons p (.cons q ps),l=>by
  show p.lx L (p.bA (fc l)) :: (aT.cons q ps).lx L ((aT.cons q ps).bA (JR l))=(p.inst L).enc ((p.inst L).bA (fc l)) :: ((aT.cons q ps).inst L).enc (((aT.cons q ps).inst L).bA (JR l))
  rw [p.iU L,(aT.cons q ps).iU L]
end
mutual
theorem AV.yz {n:Nat} (L:Nat→Nat):∀ {a:AV},a.under n=true→(a.yy L).under n=true:=fun {a} h=>by
 cases a with
 | dD id f off sz len=>
  unfold AV.yy
  split
  ·rename_i h1
   cases h1
   exact h
  ·rename_i h1
   cases h1
  ·exact h
 | fn f x y=>
  simp only [AV.yy,AV.under,Bool.and_eq_true] at *
  exact ⟨rY L h.1,rY L h.2⟩
 | _=>exact h
theorem rY {n:Nat} (L:Nat→Nat):∀ {l:List AV},aM n l=true→aM n (KN L l)=true
 | [],_=>rfl
 | a :: l,h=>by
  simp only [KN,aM,Bool.and_eq_true] at *
  exact ⟨AV.yz L h.1,rY L h.2⟩
end
mutual
theorem aR.jJ {n:Nat} (L:Nat→Nat):∀ {p:aR},p.under n=true→(p.inst L).under n=true
 | .int _,_=>rfl
 | .bool,_=>rfl
 | .str,_=>rfl
 | .agg ps,h=>aT.jJ L (ps:=ps) h
 | .bp ps,h=>aT.jJ L (ps:=ps) h
 | .list _ _,_=>rfl
 | .own _ _ _,h=>h
 | .bk _ _ _,h=>h
 | .dS v,h=>AV.yz L (a:=v) h
 | .two _ _,h=>h
theorem aT.jJ {n:Nat} (L:Nat→Nat):∀ {ps:aT},ps.under n=true→(ps.inst L).under n=true
 | .nil,_=>rfl
 | .cons p ps,h=>by
  simp only [aT.inst,aT.under,Bool.and_eq_true] at *
  exact ⟨aR.jJ L h.1,aT.jJ L h.2⟩
end
theorem AV.A5 (L:Nat→Nat) (v:AV):(v.yy L).eQ=v.eQ:=by
 unfold AV.yy
 split <;> rfl
def oQ:List AV→List AV→Prop
 | [],[]=>True
 | a :: l,b :: r=>a.eQ.length=b.eQ.length∧oQ l r
 | _,_=>False
theorem aR.pJ (L L':Nat→Nat) (p:aR) (x:p.T):(p.lx L x).eQ=(p.lx L' x).eQ:=by
 cases p with
 | dS v=>
  show (v.yy L).eQ=(v.yy L').eQ
  rw [AV.A5,AV.A5]
 | _=>rfl
theorem aT.pJ (L L':Nat→Nat):∀ (ps:aT) (x:ps.T),oQ (ps.lx L x) (ps.lx L' x)
 | .nil,_=>trivial
 | .cons p .nil,x=>⟨congrArg List.length (p.pJ L L' x),trivial⟩
 | .cons p (.cons q ps),x=>⟨congrArg List.length (p.pJ L L' x.1),(aT.cons q ps).pJ L L' x.2⟩
theorem JJ.Zp:∀ {l r:List AV},JJ l r→oQ l r
 | [],[],_=>trivial
 | _ :: _,_ :: _,h=>⟨h.2.2.1.length,h.2.2.2.Zp⟩
 | [],_ :: _,h=>h.elim
 | _ :: _,[],h=>h.elim
theorem oQ.trans:∀ {l r u:List AV},oQ l r→oQ r u→oQ l u
 | [],[],[],_,_=>trivial
 | _ :: _,_ :: _,_ :: _,h,k=>⟨h.1.trans k.1,h.2.trans k.2⟩
 | [],_ :: _,_,h,_=>h.elim
 | _ :: _,[],_,h,_=>h.elim
 | [],[],_ :: _,_,k=>k.elim
 | _ :: _,_ :: _,[],_,k=>k.elim
theorem oQ.drop:∀ {l r:List AV} (n:Nat),oQ l r→oQ (l.drop n) (r.drop n)
 | l,r,0,h=>by simpa using h
 | [],[],_+1,_=>by simp [oQ]
 | _ :: _,_ :: _,n+1,h=>by simpa using oQ.drop n h.2
 | [],_ :: _,_+1,h=>h.elim
 | _ :: _,[],_+1,h=>h.elim
theorem aT.OT (L:Nat→Nat) (ps:aT) {l:List AV} {x:ps.T} (h:ps.IN L l=some x):cQ l (ps.lx L x)∧JJ l (ps.lx L x):=by
 unfold aT.IN at h
 cases hf:ps.np L l with
 | true=>
  rw [hf] at h
  cases h
  rw [ps.iU L]
  rw [ps.jI L] at hf
  have hd:(ps.inst L).dec l=some ((ps.inst L).bA l):=by unfold aT.dec; rw [hf]; rfl
  exact ⟨((ps.inst L).rK hd).1,(ps.inst L).KM hf⟩
 | false=>rw [hf] at h; cases h
theorem aT.FY {n:Nat} (L:Nat→Nat) (ps:aT) (hp:ps.under n=true) (l:List AV):aM n (ps.lx L (ps.bA l))=true:=by
 rw [ps.iU L]
 exact (ps.inst L).dW _ (aT.jJ L hp)
theorem aT.IP (L:Nat→Nat) (ps:aT) {l:List AV} {x:ps.T} (h:ps.IN L l=some x):x=ps.bA l:=by
 unfold aT.IN at h
 cases hf:ps.np L l with
 | true=>rw [hf] at h; cases h; rfl
 | false=>rw [hf] at h; cases h
end Go.Am
namespace Go.Am
open Go
inductive EJ
 | open_
 | busy
 | ret
 | ex (i:Nat)
def EJ.is:EJ→Bool→Option Code→Bool→Bool
 | .open_,false,none,false=>true
 | .busy,true,none,false=>true
 | .ret,false,some .ret,true=>true
 | .ex i,false,some (.exit j),true=>Nat.beq i j
 | _,_,_,_=>false
def EJ.b:EJ→Bool
 | .busy=>true
 | _=>false
def EJ.p:EJ→Option Code
 | .ret=>some .ret
 | .ex i=>some (.exit i)
 | _=>none
def EJ.d:EJ→Bool
 | .ret=>true
 | .ex _=>true
 | _=>false
theorem EJ.Hi {k:EJ} {b:Bool} {p:Option Code} {d:Bool} (h:k.is b p d=true):b=k.b∧p=k.p∧d=k.d:=by
 unfold EJ.is at h
 split at h <;> first | exact ⟨rfl,rfl,rfl⟩ | (cases h; done) | skip
 rw [Nat.eq_of_beq_eq_true h]
 exact ⟨rfl,rfl,rfl⟩
inductive GL
 | row (n:Nat)
 | tok (loc sz:Nat) (e:TypeId)
 | dead
 | lp (k:EJ)
 | bJ
 | map
 | KO
 | dw (sz:Nat) (e:TypeId)
 | bk (sz:Nat) (e:TypeId)
 | tc
 | oG (rJ:Nat)
def cM (fs:List Nat):List AV:=fs.map fun n:Nat=>.int .i64 n
def ba (l:List AV):List Nat:=l.map fun a=>a.lR.toNat
theorem vE (fs:List Nat):ba (cM fs)=fs:=by
 induction fs with
 | nil=>rfl
 | cons n fs ih=>
  show (AV.int .i64 n).lR.toNat :: ba (cM fs)=n :: fs
  rw [ih]
  simp [AV.lR]
theorem yA (fs:List Nat):gI (cM fs)=true:=by
 induction fs with
 | nil=>rfl
 | cons n fs ih=>exact ih
def UZ (k:EJ):GO→GO→Bool
 | .loop _ _ _ _ _ _ _ _ _ _,.loop b p _ _ _ _ _ _ _ d=>k.is b p d
 | _,_=>false
def Tl (k:EJ):GO→GO
 | .loop _ _ fn sl n ps sX bd d _=>.loop k.b k.p fn sl n ps sX bd d k.d
 | _=>.dead
def bS (es:List (AV × AV)):Bool:=gI (ao es)
def B1:GO→GO→Bool
 | .tok f sz e,.tok f' bQ e'=>decide (f'=f)&&(Nat.beq bQ sz&&Nat.beq e' e)
 | .defers a,.defers b=>match a,b with
  | true,true=>true
  | false,false=>true
  | _,_=>false
 | .dead,_=>true
 | _,_=>false
structure cO where
 ps:aT
 sl:List Tmp
 W:List Tmp
 bx:List (Nat × Nat)
 g:List GL
 X9:List (Tmp × Nat × Nat)
def yB (ae:bj):List Tmp→Option (List AV)
 | []=>some []
 | t :: l=>match lk ae t with
  | .v a=>match yB ae l with
   | some r=>some (a :: r)
   | none=>none
  | _=>none
def yC (bx:cP):List (Nat × Nat)→Option (List AV)
 | []=>some []
 | (k,n) :: l=>match dO bx k with
  | some cs=>match yC bx l with
   | some r=>bif Nat.beq cs.length n then some (cs++r) else none
   | none=>none
  | none=>none
def kI:List GL→List GO→Option (List AV)
 | [],_=>some []
 | .row n :: l,.row cs _ :: G=>match kI l G with
  | some r=>bif Nat.beq cs.length n then some (cs++r) else none
  | none=>none
 | .tok _ sz e :: l,.tok _ bQ e' :: G=>bif Nat.beq sz bQ&&Nat.beq e e' then kI l G else none
 | .dead :: l,_ :: G=>kI l G
 | .lp _ :: l,_ :: G=>kI l G
 | .bJ :: l,_ :: G=>kI l G
 | .map :: l,.map es :: G=>match kI l G with
  | some r=>some (.list .lQ 2 (ao es) :: r)
  | none=>none
 | .KO :: l,.gZ s pos :: G=>match kI l G with
  | some r=>some (.str s :: .int .i64 pos :: r)
  | none=>none
 | .dw sz e :: l,.dw es bQ e' :: G=>match kI l G with
  | some r=>bif Nat.beq sz bQ&&Nat.beq e e' then some (.list .lQ bQ es :: r) else none
  | none=>none
 | .bk sz e :: l,.bk fs bQ e' :: G=>match kI l G with
  | some r=>bif Nat.beq sz bQ&&Nat.beq e e' then some (.list .lQ 1 (cM fs) :: r) else none
  | none=>none
 | .tc :: l,.map es :: G=>match kI l G with
  | some r=>some (.list .lQ 2 (ao es) :: r)
  | none=>none
 | .oG rJ :: l,.oG mid' n left _ _ :: G=>match kI l G with
  | some r=>bif Nat.beq rJ mid' then some (.int .i64 n :: .list .lQ 1 (cM left) :: r) else none
  | none=>none
 | _,_=>none
def KP (vs:List AV) (loc:Nat):Nat:=match nth vs loc with
 | some (.list _ _ es)=>es.length
 | _=>0
def Tm:GO→GO→Bool
 | .row _ e,.row _ e'=>Nat.beq e e'
 | _,_=>false
def Tn:GO→GO→Bool
 | .oG _ _ _ _ t,.oG _ _ _ _ t'=>Nat.beq t t'
 | _,_=>false
def Zq:GO→TypeId
 | .oG _ _ _ _ t=>t
 | _=>0
def Zr:GO→TypeId
 | .row _ e=>e
 | _=>0
def dX (vs:List AV):List GL→List GO→List GO→Bool
 | [],_,_=>true
 | .tok loc _ _ :: l,_ :: B,.tok f _ _ :: G=>decide (f=KP vs loc)&&dX vs l B G
 | .tok _ _ _ :: _,_,_=>false
 | .lp k :: l,o :: B,o' :: G=>UZ k o o'&&dX vs l B G
 | .bJ :: l,o :: B,o' :: G=>B1 o o'&&dX vs l B G
 | .row _ :: l,b :: B,g :: G=>Tm b g&&dX vs l B G
 | .map :: l,_ :: B,.map es :: G=>bS es&&dX vs l B G
 | .map :: _,_,_=>false
 | .KO :: l,_ :: B,_ :: G=>dX vs l B G
 | .dw _ _ :: l,_ :: B,_ :: G=>dX vs l B G
 | .bk _ _ :: l,_ :: B,_ :: G=>dX vs l B G
 | .tc :: l,_ :: B,_ :: G=>dX vs l B G
 | .oG _ :: l,b :: B,g :: G=>Tn b g&&dX vs l B G
 | .dead :: l,_ :: B,_ :: G=>dX vs l B G
 | _,_,_=>false
def pK:List Tmp→List AV→bj→bj
 | t :: ts,a :: l,r=>.put t (.v a) :: pK ts l r
 | _,_,r=>r
def pL:List (Tmp × Nat × Nat)→bj→bj
 | (t,k,o) :: l,r=>.put t (.lp k o) :: pL l r
 | [],r=>r
def Hj (ae:bj):List (Tmp × Nat × Nat)→Bool
 | []=>true
 | (t,k,o) :: l=>(match lk ae t with
  | .lp k' o'=>Nat.beq k' k&&Nat.beq o' o
  | _=>false)&&Hj ae l
def yD:List Tmp→bj→bj
 | t :: ts,r=>.put t .none :: yD ts r
 | [],r=>r
def vF:List (Nat × Nat)→List AV→cP→cP
 | (k,n) :: r,l,b=>(k,l.take n) :: vF r (l.drop n) b
 | [],_,b=>b
def dR (vs:List AV):List GL→List GO→List AV→List GO
 | .row n :: r,B,l=>.row (l.take n) (Zr (B.headD .dead)) :: dR vs r B.tail (l.drop n)
 | .tok loc sz e :: r,B,l=>.tok (KP vs loc) sz e :: dR vs r B.tail l
 | .dead :: r,B,l=>.dead :: dR vs r B.tail l
 | .lp k :: r,B,l=>Tl k (B.headD .dead) :: dR vs r B.tail l
 | .bJ :: r,B,l=>B.headD .dead :: dR vs r B.tail l
 | .map :: r,B,l=>.map (AV.entries (fc l)) :: dR vs r B.tail l.tail
 | .KO :: r,B,l=>.gZ (AV.Ud (fc l)) (AV.lR (fc l.tail)).toNat :: dR vs r B.tail l.tail.tail
 | .dw sz e :: r,B,l=>.dw (AV.eQ (fc l)) sz e :: dR vs r B.tail l.tail
 | .bk sz e :: r,B,l=>.bk (ba (AV.eQ (fc l))) sz e :: dR vs r B.tail l.tail
 | .tc :: r,B,l=>.map (AV.entries (fc l)) :: dR vs r B.tail l.tail
 | .oG rJ :: r,B,l=>.oG rJ (AV.lR (fc l)).toNat (ba (AV.eQ (fc l.tail))) none (Zq (B.headD .dead)) :: dR vs r B.tail l.tail.tail
 | [],_,_=>[]
def B2:List (Nat × Nat)→Nat
 | []=>0
 | (_,n) :: l=>n+B2 l
def ly:List GL→List AV→Nat→Nat
 | [],_,_=>0
 | .dw _ _ :: r,l,i=>match i with
  | 0=>(AV.eQ (fc l)).length
  | i+1=>ly r l.tail i
 | .row n :: r,l,i=>match i with
  | 0=>0
  | i+1=>ly r (l.drop n) i
 | .map :: r,l,i=>match i with
  | 0=>0
  | i+1=>ly r l.tail i
 | .KO :: r,l,i=>match i with
  | 0=>0
  | i+1=>ly r l.tail.tail i
 | .bk _ _ :: r,l,i=>match i with
  | 0=>0
  | i+1=>ly r l.tail i
 | .tc :: r,l,i=>match i with
  | 0=>0
  | i+1=>ly r l.tail i
 | .oG _ :: r,l,i=>match i with
  | 0=>0
  | i+1=>ly r l.tail.tail i
 | _ :: r,l,i=>match i with
  | 0=>0
  | i+1=>ly r l i
def cO.qS (t:cO) (v:t.ps.T):List AV:=t.ps.lx (ly t.g (((t.ps.lx (fun _=>0) v).drop t.sl.length).drop (B2 t.bx))) v
def cO.st (t:cO) (s:St) (v:t.ps.T):St:=
 ⟨pL t.X9 (pK t.sl (t.qS v) (yD t.W s.ae)),vF t.bx ((t.qS v).drop t.sl.length) s.boxes,dR (t.qS v) t.g s.G (((t.qS v).drop t.sl.length).drop (B2 t.bx)),s.marks,s.ro,s.n⟩
def Of:List Nat→Nat→Bool
 | [],_=>false
 | a :: l,n=>Nat.beq a n || Of l n
def Ya (l:List Tmp) (W:List Tmp) (n:Nat):Bool:=Of l n || Of W n
def Ah (d:Nat) (l W:List Tmp):bj→Bool
 | []=>true
 | .put t (.lp k _) :: r=>(!(Nat.beq k d) || Ya l W t)&&Ah d l W r
 | _ :: r=>Ah d l W r
def uy (l W:List Tmp) (base:bj):bj→Bool
 | []=>true
 | .put d _ :: r=>Ya l W d&&uy l W base r
 | .kill d :: r=>Ah d l W base&&uy l W base r
def vW:List (Nat × Nat)→Nat→Bool
 | [],_=>false
 | (a,_) :: l,n=>Nat.beq a n || vW l n
def wN (l:List (Nat × Nat)) (base:cP):cP→Bool
 | []=>true
 | (k,_) :: r=>(vW l k || (dO base k).isNone)&&wN l base r
def OU:List Nat→List Nat→Bool
 | [],[]=>true
 | a :: l,b :: r=>Nat.beq a b&&OU l r
 | _,_=>false
def aR.lcl (n:Nat):aR→Bool
 | .list _ p=>p.under n
 | _=>false
def aT.flags (n:Nat):aT→List Bool
 | .nil=>[]
 | .cons p ps=>p.lcl n :: ps.flags n
def lz:List GL→List Bool→Bool
 | [],_=>true
 | .dw _ _ :: r,f :: l=>f&&lz r l
 | .dw _ _ :: _,[]=>false
 | .row n :: r,l=>lz r (gd n l)
 | .map :: r,l=>lz r (gd 1 l)
 | .KO :: r,l=>lz r (gd 2 l)
 | .bk _ _ :: r,l=>lz r (gd 1 l)
 | .tc :: r,f :: l=>f&&lz r l
 | .tc :: _,[]=>false
 | .oG _ :: r,l=>lz r (gd 2 l)
 | _ :: r,l=>lz r l
def KQ (n:Nat):List GL→Bool
 | []=>true
 | .oG rJ :: r=>Nat.blt rJ n&&KQ n r
 | _ :: r=>KQ n r
def cO.ok (t:cO) (s s':St):Bool:=
 uy t.sl t.W s.ae (s'.ae.take (s'.ae.length - s.ae.length))&&wN t.bx s.boxes (s'.boxes.take (s'.boxes.length - s.boxes.length)) &&
  OU s'.marks s.marks&&Nat.beq t.g.length s.G.length&&(t.ps.under s.G.length&&(lz t.g (gd (B2 t.bx) (gd t.sl.length (t.ps.flags s.G.length)))&&KQ s.G.length t.g))&&Hj s'.ae t.X9
def cO.dec (t:cO) (s s':St):Option t.ps.T:=
 bif t.ok s s' then
  match yB s'.ae t.sl,yC s'.boxes t.bx,kI t.g s'.G with
  | some a,some b,some c=>(t.ps.IN (ly t.g c) (a++(b++c))).bind fun v=>bif dX (t.qS v) t.g s.G s'.G then some v else none
  | _,_,_=>none
 else none
theorem B3 {l:List Nat} {n:Nat}:Of l n=true↔n∈l:=by
 induction l with
 | nil=>simp [Of]
 | cons a l ih=>
  simp only [Of,Bool.or_eq_true,Nat.beq_eq,ih,List.mem_cons]
  constructor
  ·rintro (h | h)
   ·exact .inl h.symm
   ·exact .inr h
  ·rintro (h | h)
   ·exact .inl h.symm
   ·exact .inr h
theorem Hk:∀ {a b:List Nat},OU a b=true→a=b
 | [],[],_=>rfl
 | a :: l,b :: r,h=>by
  simp only [OU,Bool.and_eq_true,Nat.beq_eq] at h
  rw [h.1,Hk h.2]
 | [],_ :: _,h=>by cases h
 | _ :: _,[],h=>by cases h
theorem B4 {d:Nat} {l W:List Tmp} {t off:Nat}:∀ {base:bj},Ah d l W base=true→lk base t=.lp d off→Ya l W t=true
 | [],_,h=>by simp [lk] at h
 | .put t' x :: r,hn,h=>by
  by_cases e:t'=t
  ·subst e
   rw [aG] at h
   subst h
   simp only [Ah,Nat.beq_refl,Bool.not_true,Bool.false_or,Bool.and_eq_true] at hn
   exact hn.1
  ·rw [aW e] at h
   refine B4 (base:=r) ?_ h
   cases x <;> simp only [Ah,Bool.and_eq_true] at hn
   ·exact hn
   ·exact hn
   ·exact hn.2
 | .kill d' :: r,hn,h=>by
  rcases GI (l:=r) (d:=d') (t:=t) with ⟨h1,_⟩ | h1
  ·rw [h1] at h
   exact B4 (base:=r) hn h
  ·rw [h1] at h
   cases h
theorem B5 {l W:List Tmp} {base:bj} {t:Nat} (ht:Ya l W t=false):∀ {pre:bj},uy l W base pre=true→lk (pre++base) t=lk base t
 | [],_=>rfl
 | .put d x :: r,h=>by
  simp only [uy,Bool.and_eq_true] at h
  have cD:d≠t:=fun e=>by rw [e,ht] at h; exact absurd h.1 (by simp)
  rw [List.cons_append,aW cD]
  exact B5 ht h.2
 | .kill d :: r,h=>by
  simp only [uy,Bool.and_eq_true] at h
  have ih:=B5 ht h.2
  simp only [List.cons_append,lk,ih]
  cases hb:lk base t with
  | lp k off=>
   by_cases e:k=d
   ·subst e
    have:=B4 h.1 hb
    rw [ht] at this
    cases this
   ·simp [nN e]
  | _=>rfl
theorem Dw {l:List (Nat × Nat)} {base:cP} {k:Nat} {cs:List AV} (hk:vW l k=false) (hb:dO base k=some cs):∀ {pre:cP},wN l base pre=true→dO (pre++base) k=some cs
 | [],_=>hb
 | (d,x) :: r,h=>by
  simp only [wN,Bool.and_eq_true] at h
  have cD:d≠k:=fun e=>by
   rw [e,hk,hb] at h
   exact absurd h.1 (by simp)
  rw [List.cons_append,dO,nN cD]
  exact Dw hk hb h.2
theorem Dx {α:Type} (pre base:List α):(pre++base).take ((pre++base).length - base.length)=pre:=by
 rw [List.length_append,Nat.add_sub_cancel,List.take_left]
def an.cut (R:an) (n:Nat):an:=⟨R.I,R.obj.take n⟩
theorem kJ {R:an} {n id:Nat} {ro:RO}:nth (R.cut n).obj id=some ro↔id < n∧nth R.obj id=some ro:=by
 simp only [an.cut,bf,List.getElem?_take]
 split
 ·simp_all
 ·simp_all
  omega
theorem pM (R:an) (n:Nat):Mv R (R.cut n) n:=⟨fun _ _ h=>h,fun _ _ hl h=>kJ.2 ⟨hl,h⟩⟩
section AW
variable {E:Env} {R R':an} {w w':World} {β β':Nat→Nat} {s s':St} {a a':Act}
def yF (R:an) (w:World) (β:Nat→Nat) (K:Nat→Prop) (ae:bj) (tmps:Array Value):Prop:=
 ∀ i,¬ K i→lk ae i≠.none→∃ c,tmps[i]?=some c∧qP R w β (lk ae i) c
theorem yG {tmps:Array Value} {base:bj}:∀ {W:List Tmp} {K:Nat→Prop},yF R w β (fun i=>i∈W∨K i) base tmps→yF R w β K (yD W base) tmps
 | [],K,h=>fun i hi hn=>h i (by simpa using hi) hn
 | t :: W,K,h=>fun i hi hn=>by
  have ih:yF R w β (fun i=>i=t∨K i) (yD W base) tmps:=yG (W:=W) (fun j hj=>h j (fun hc=>hj (by
   rcases hc with hc | hc
   ·rcases List.mem_cons.1 hc with hc | hc
    ·exact .inr (.inl hc)
    ·exact .inl hc
   ·exact .inr (.inr hc))))
  simp only [yD] at hn ⊢
  by_cases e:t=i
  ·subst e
   rw [aG] at hn
   exact absurd rfl hn
  ·rw [aW e] at hn ⊢
   exact ih i (by simp; exact ⟨fun e'=>e e'.symm,hi⟩) hn
theorem vG {n:Nat} (m:Mv R' R n) {tmps:Array Value} {ae:bj} (hT:oX R' w β ae tmps) {base:bj}:∀ {ts:List Tmp} {K:Nat→Prop} {l l' r r':List AV},yB ae ts=some l→cQ (l++r) (l'++r')→l.length=l'.length→aM n l'=true →
  yF R w β (fun i=>i∈ts∨K i) base tmps→yF R w β K (pK ts (l'++r') base) tmps
 | [],K,l,l',r,r',_,_,_,_,h=>fun i hi hn=>by
  have e:pK [] (l'++r') base=base:=rfl
  rw [e] at hn ⊢
  exact h i (by simpa using hi) hn
 | t :: ts,K,l,l',r,r',hg,hw,hl,hu,h=>by
  unfold yB at hg
  split at hg
  ·rename_i a ha
   split at hg
   ·rename_i l0 xD
    cases hg
    cases l' with
    | nil=>simp at hl
    | cons b l'=>
     simp only [List.cons_append,cQ] at hw
     simp only [aM,Bool.and_eq_true] at hu
     have ih:yF R w β (fun i=>i=t∨K i) (pK ts (l'++r') base) tmps:=vG m hT xD hw.2 (by simpa using hl) hu.2 (fun j hj=>h j (fun hc=>hj (by
      rcases hc with hc | hc
      ·rcases List.mem_cons.1 hc with hc | hc
       ·exact .inr (.inl hc)
       ·exact .inl hc
      ·exact .inr (.inr hc))))
     intro i hi hn
     simp only [pK,List.cons_append] at hn ⊢
     by_cases e:t=i
     ·subst e
      rw [aG] at hn ⊢
      obtain ⟨c,h1,h2⟩:=hT t (by rw [ha]; simp)
      rw [ha] at h2
      exact ⟨c,h1,Rel.move m hu.1 (hw.1 _ _ _ h2)⟩
     ·rw [aW e] at hn ⊢
      exact ih i (by simp; exact ⟨fun e'=>e e'.symm,hi⟩) hn
   ·cases hg
  ·cases hg
def yH (R:an) (w:World) (β:Nat→Nat) (k:Nat) (cs:List AV):Prop:=
 (∃ vs el,w.heap[β k]?=some (.cells ⟨vs⟩ el (0,0))∧aQ R w cs vs∧(∀ v∈vs,v.oneCell'=true))∧(∀ o,¬ R.I (β k) o)∧¬ Live R (β k)
theorem Dy {R:an} {n b:Nat} (h:Live (R.cut n) b):Live R b:=by
 obtain ⟨id,ro,h1,h2⟩:=h
 exact ⟨id,ro,(kJ.1 h1).2,h2⟩
theorem yH.cut {n k:Nat} {cs cs':List AV} (h:yH R w β k cs) (hw:cQ cs cs') (hu:aM n cs'=true):yH (R.cut n) w β k cs':=by
 obtain ⟨⟨vs,el,h1,h2,h3⟩,h4,h5⟩:=h
 exact ⟨⟨vs,el,h1,(hw.rel h2).move (pM R n) hu,h3⟩,h4,fun hl=>h5 (Dy hl)⟩
theorem ga {n:Nat}:∀ {l r:List AV},aM n (l++r)=(aM n l&&aM n r)
 | [],r=>by simp [aM]
 | a :: l,r=>by simp [aM,ga (l:=l),Bool.and_assoc]
theorem cQ.split:∀ {l r l':List AV},cQ (l++r) l'→∃ a b,l'=a++b∧cQ l a∧cQ r b∧a.length=l.length
 | [],r,l',h=>⟨[],l',rfl,trivial,h,rfl⟩
 | x :: l,r,[],h=>h.elim
 | x :: l,r,y :: l',h=>by
  obtain ⟨a,b,rfl,h2,h3,h4⟩:=cQ.split (l:=l) (r:=r) (l':=l') h.2
  exact ⟨y :: a,b,rfl,⟨h.1,h2⟩,h3,by simp [h4]⟩
theorem Dz {n:Nat} {bxs:cP} (hb:∀ k cs,dO bxs k=some cs→yH R w β k cs) {base:cP}:∀ {bx:List (Nat × Nat)} {K:Nat→Prop} {l l' r:List AV},yC bxs bx=some l→cQ l l'→aM n l'=true →
  (∀ k cs,¬ K k→vW bx k=false→dO base k=some cs→dO bxs k=some cs∧aM n cs=true) →
  ∀ k cs,¬ K k→dO (vF bx (l'++r) base) k=some cs→yH (R.cut n) w β k cs∧∃ cs',dO bxs k=some cs'
 | [],K,l,l',r,_,_,_,h,k,cs,hK,hk=>by
  obtain ⟨h1,h2⟩:=h k cs hK rfl hk
  exact ⟨(hb k cs h1).cut (cQ.refl _) h2,cs,h1⟩
 | (d,m) :: bx,K,l,l',r,hg,hw,hu,h,k,cs,hK,hk=>by
  unfold yC at hg
  split at hg
  ·rename_i Zb hd
   split at hg
   ·rename_i l0 xD
    cases hm:Nat.beq Zb.length m with
    | false=>rw [hm] at hg; cases hg
    | true=>
     rw [hm] at hg
     cases hg
     have hm:=Nat.eq_of_beq_eq_true hm
     obtain ⟨x,y,rfl,k1,k2,k3⟩:=hw.split
     rw [ga,Bool.and_eq_true] at hu
     have e1:((x++y)++r).take m=x:=by rw [List.append_assoc,← hm,← k3,List.take_left]
     have e2:((x++y)++r).drop m=y++r:=by rw [List.append_assoc,← hm,← k3,List.drop_left]
     simp only [vF,e1,e2] at hk
     rcases fC hk with ⟨rfl,rfl⟩ | ⟨cD,hk⟩
     ·exact ⟨(hb d Zb hd).cut k1 hu.1,Zb,hd⟩
     ·refine Dz hb (K:=fun k=>k=d∨K k) (r:=r) xD k2 hu.2 (fun k' cs' hK' h1 h2=>?_) k cs (fun hc=>?_) hk
      ·exact h k' cs' (fun hc=>hK' (.inr hc)) (by simp only [vW,h1,Bool.or_false]; exact nN (fun e=>hK' (.inl e.symm))) h2
      ·rcases hc with hc | hc
       ·exact cD hc.symm
       ·exact hK hc
   ·cases hg
  ·cases hg
def yI (n:Nat):List GL→List AV→Prop
 | [],_=>True
 | .dw _ _ :: r,l=>aM n (AV.eQ (fc l))=true∧yI n r l.tail
 | .row m :: r,l=>yI n r (l.drop m)
 | .map :: r,l=>yI n r l.tail
 | .KO :: r,l=>yI n r l.tail.tail
 | .bk _ _ :: r,l=>yI n r l.tail
 | .tc :: r,l=>aM n (AV.eQ (fc l))=true∧yI n r l.tail
 | .oG _ :: r,l=>yI n r l.tail.tail
 | _ :: r,l=>yI n r l
def pN (n:Nat):List Bool→List AV→Prop
 | [],_=>True
 | _ :: _,[]=>True
 | f :: fl,a :: l=>(f=true→aM n a.eQ=true)∧pN n fl l
theorem pN.drop {m:Nat}:∀ {fl:List Bool} {l:List AV} (n:Nat),pN m fl l→pN m (gd n fl) (l.drop n)
 | _,_,0,h=>by simpa [gd] using h
 | [],_,_+1,_=>by simp [gd,pN]
 | _ :: fl,[],n+1,_=>by
  rw [List.drop_nil]
  cases gd (n+1) (_ :: fl) <;> trivial
 | _ :: fl,_ :: l,n+1,h=>by simpa [gd] using pN.drop n h.2
theorem gj {m:Nat}:∀ (g:List GL) {fl:List Bool} {l:List AV},lz g fl=true→pN m fl l→yI m g l
 | [],_,_,_,_=>trivial
 | .dw _ _ :: g,[],_,h,_=>by cases h
 | .dw _ _ :: g,f :: fl,[],h,_=>by
  simp only [lz,Bool.and_eq_true] at h
  refine ⟨rfl,gj g (fl:=fl) h.2 ?_⟩
  cases fl <;> trivial
 | .dw _ _ :: g,f :: fl,a :: l,h,k=>by
  simp only [lz,Bool.and_eq_true] at h
  exact ⟨k.1 h.1,gj g h.2 k.2⟩
 | .row n :: g,fl,l,h,k=>gj g (show lz g (gd n fl)=true from h) (k.drop n)
 | .map :: g,fl,l,h,k=>by
  have:=gj g (show lz g (gd 1 fl)=true from h) (k.drop 1)
  rw [List.drop_one] at this
  exact this
 | .KO :: g,fl,l,h,k=>by
  have:=gj g (show lz g (gd 2 fl)=true from h) (k.drop 2)
  have e:l.drop 2=l.tail.tail:=by cases l with
   | nil=>rfl
   | cons a l=>cases l <;> rfl
  rw [e] at this
  exact this
 | .bk _ _ :: g,fl,l,h,k=>by
  have:=gj g (show lz g (gd 1 fl)=true from h) (k.drop 1)
  rw [List.drop_one] at this
  exact this
 | .oG _ :: g,fl,l,h,k=>by
  have:=gj g (show lz g (gd 2 fl)=true from h) (k.drop 2)
  have e:l.drop 2=l.tail.tail:=by cases l with
   | nil=>rfl
   | cons a l=>cases l <;> rfl
  rw [e] at this
  exact this
 | .tc :: g,[],_,h,_=>by cases h
 | .tc :: g,f :: fl,[],h,_=>by
  simp only [lz,Bool.and_eq_true] at h
  refine ⟨rfl,gj g (fl:=fl) h.2 ?_⟩
  cases fl <;> trivial
 | .tc :: g,f :: fl,a :: l,h,k=>by
  simp only [lz,Bool.and_eq_true] at h
  exact ⟨k.1 h.1,gj g h.2 k.2⟩
 | .tok _ _ _ :: g,fl,l,h,k=>gj g (show lz g fl=true from h) k
 | .dead :: g,fl,l,h,k=>gj g (show lz g fl=true from h) k
 | .lp _ :: g,fl,l,h,k=>gj g (show lz g fl=true from h) k
 | .bJ :: g,fl,l,h,k=>gj g (show lz g fl=true from h) k
theorem yJ {n:Nat} {α:Type} {g:α→AV} (hg:∀ x,(g x).under n=true):∀ xs:List α,aM n (xs.map g)=true
 | []=>rfl
 | x :: xs=>by simp only [List.map_cons,aM,hg x,yJ hg xs,Bool.and_self]
theorem aT.DA (n:Nat) (L:Nat→Nat):∀ (ps:aT) (x:ps.T),pN n (ps.flags n) (ps.lx L x)
 | .nil,_=>trivial
 | .cons p .nil,x=>⟨fun h=>To L p x h,trivial⟩
 | .cons p (.cons q ps),x=>⟨fun h=>To L p x.1 h,(aT.cons q ps).DA n L x.2⟩
where
 To (L:Nat→Nat):∀ (p:aR) (x:p.T),p.lcl n=true→aM n (p.lx L x).eQ=true
  | .list _ p,x,h=>yJ (fun y=>p.dW y h) _
  | .int _,_,h=>by cases h
  | .bool,_,h=>by cases h
  | .str,_,h=>by cases h
  | .agg _,_,h=>by cases h
  | .bp _,_,h=>by cases h
  | .own _ _ _,_,h=>by cases h
  | .bk _ _ _,_,h=>by cases h
  | .dS _,_,h=>by cases h
  | .two _ _,_,h=>by cases h
def GOk (n:Nat):GO→GO→Prop
 | .row cs el,.row cs' el'=>el'=el∧cQ cs cs'∧aM n cs'=true
 | .tok f sz e,.tok f' bQ e'=>f=f'∧sz=bQ∧e=e'
 | .defers a,.defers b=>a=b
 | .map es,.map es'=>(es'=es∧bS es=true)∨∃ l,es'=ab l∧kv (ao es) l∧aM n l=true
 | .bk fs sz e,.bk By bQ e'=>fs=By∧sz=bQ∧e=e'
 | .oG rJ m left _ t,.oG mid' m' AM cur t'=>rJ=mid'∧m=m'∧left=AM∧t=t'∧rJ < n∧cur=none
 | .gZ l p,.gZ l' p'=>l'=l∧p'=p
 | .dw es sz e,.dw es' bQ e'=>bQ=sz∧e'=e∧kv es es'∧aM n es'=true
 | _,.dead=>True
 | _,_=>False
def LOk:GO→GO→GO→Prop
 | .loop _ _ fn sl n ps sX bd d _,.loop b p _ _ _ _ _ _ _ dn,go=>go=.loop b p fn sl n ps sX bd d dn
 | _,_,_=>False
theorem IQ {n:Nat} {o o':GO} (h:B1 o o'=true):GOk n o' o:=by
 cases o with
 | tok f sz e=>
  cases o' with
  | tok f' bQ e'=>
   simp only [B1,Bool.and_eq_true] at h
   exact ⟨of_decide_eq_true h.1,Nat.eq_of_beq_eq_true h.2.1,Nat.eq_of_beq_eq_true h.2.2⟩
  | _=>cases h
 | defers a=>
  cases o' with
  | defers b=>cases a <;> cases b <;> first | rfl | cases h
  | _=>cases h
 | dead=>cases o' <;> trivial
 | _=>cases h
theorem OV {k:EJ} {o o':GO} (h:UZ k o o'=true):LOk o o' (Tl k o):=by
 cases o with
 | loop b p fn sl n ps sX bd d dn=>
  cases o' with
  | loop b' p' Zs X7 n' Zt OW Yb d' dn'=>
   obtain ⟨rfl,rfl,rfl⟩:=EJ.Hi (show k.is b' p' dn'=true from h)
   rfl
  | _=>cases h
 | _=>cases h
theorem rA (a:AV):a.entries=ab a.eQ:=by cases a <;> rfl
theorem iB {n:Nat} {vs:List AV}:∀ {g:List GL} {B G:List GO} {l l':List AV},kI g G=some l→cQ l l'→JJ l l'→yI n g l'∧KQ n g=true→aM n l'=true→dX vs g B G=true →
  ∀ id go,nth (dR vs g B l') id=some go→∃ go',nth G id=some go'∧(GOk n go' go∨∃ JI,nth B id=some JI∧LOk JI go' go)
 | [],B,G,l,l',_,_,_,_,_,_,id,go,h=>by simp [dR,nth] at h
 | x :: g,[],G,l,l',_,_,_,_,_,ht,_,_,_=>by cases x <;> cases G <;> cases ht
 | x :: g,_ :: _,[],l,l',_,_,_,_,_,ht,_,_,_=>by cases x <;> cases ht
 | .row m :: g,b :: B,o :: G,l,l',hg,hw,hx,tS,hu,ht,id,go,h=>by
   obtain ⟨Fq,FQ⟩:Tm b o=true∧dX vs g B G=true:=by
    rw [← Bool.and_eq_true]
    cases o <;> exact ht
   cases o with
   | row cs el=>
    have qj:Zr b=el:=by
     cases b <;> first | (cases Fq; done) | exact Nat.eq_of_beq_eq_true Fq
    change (match kI g G with
     | some r=>bif Nat.beq cs.length m then some (cs++r) else none
     | none=>none)=some l at hg
    split at hg
    ·rename_i r hr
     cases hm:Nat.beq cs.length m with
     | false=>rw [hm] at hg; cases hg
     | true=>
      rw [hm] at hg
      cases hg
      have hm:=Nat.eq_of_beq_eq_true hm
      obtain ⟨x,y,rfl,k1,k2,k3⟩:=hw.split
      rw [ga,Bool.and_eq_true] at hu
      have e1:(x++y).take m=x:=by rw [← hm,← k3,List.take_left]
      have e2:(x++y).drop m=y:=by rw [← hm,← k3,List.drop_left]
      simp only [dR,e1,e2] at h
      cases id with
      | zero=>simp only [nth] at h; cases h; exact ⟨.row cs el,rfl,.inl ⟨qj,k1,hu.1⟩⟩
      | succ id=>exact iB hr k2 (by obtain ⟨x',y',e1',k1',Od,k3'⟩:=hx.split; have:=List.append_inj e1' (by rw [k3,k3']); rw [this.2]; exact Od) (by rw [← e2]; exact tS) hu.2 FQ id go h
    ·cases hg
   | _=>cases hg
 | .tok loc sz e :: g,b :: B,o :: G,l,l',hg,hw,hx,tS,hu,ht,id,go,h=>by
   cases o with
   | tok f bQ e'=>
    change (bif Nat.beq sz bQ&&Nat.beq e e' then kI g G else none)=some l at hg
    change (decide (f=KP vs loc)&&dX vs g B G)=true at ht
    rw [Bool.and_eq_true] at ht
    cases hm:(Nat.beq sz bQ&&Nat.beq e e') with
    | false=>rw [hm] at hg; cases hg
    | true=>
     rw [hm] at hg
     rw [Bool.and_eq_true] at hm
     have q1:=Nat.eq_of_beq_eq_true hm.1
     have q2:=Nat.eq_of_beq_eq_true hm.2
     simp only [dR] at h
     cases id with
     | zero=>
      simp only [nth] at h
      cases h
      exact ⟨.tok f bQ e',rfl,.inl ⟨of_decide_eq_true ht.1,q1.symm,q2.symm⟩⟩
     | succ id=>exact iB hg hw hx tS hu ht.2 id go h
   | _=>cases hg
 | .dead :: g,b :: B,o :: G,l,l',hg,hw,hx,tS,hu,ht,id,go,h=>by
   simp only [dR] at h
   have rL:kI g G=some l:=by cases o <;> exact hg
   have FQ:dX vs g B G=true:=by cases o <;> exact ht
   cases id with
   | zero=>
    simp only [nth] at h
    cases h
    exact ⟨o,rfl,.inl (by cases o <;> trivial)⟩
   | succ id=>exact iB rL hw hx tS hu FQ id go h
 | .lp k :: g,b :: B,o :: G,l,l',hg,hw,hx,tS,hu,ht,id,go,h=>by
   simp only [dR] at h
   have rL:kI g G=some l:=by cases o <;> exact hg
   change (UZ k b o&&dX vs g B G)=true at ht
   rw [Bool.and_eq_true] at ht
   cases id with
   | zero=>
    simp only [nth] at h
    cases h
    exact ⟨o,rfl,.inr ⟨b,rfl,OV ht.1⟩⟩
   | succ id=>exact iB rL hw hx tS hu ht.2 id go h
 | .bJ :: g,b :: B,o :: G,l,l',hg,hw,hx,tS,hu,ht,id,go,h=>by
   simp only [dR] at h
   have rL:kI g G=some l:=by cases o <;> exact hg
   change (B1 b o&&dX vs g B G)=true at ht
   rw [Bool.and_eq_true] at ht
   cases id with
   | zero=>
    simp only [nth] at h
    cases h
    exact ⟨o,rfl,.inl (IQ ht.1)⟩
   | succ id=>exact iB rL hw hx tS hu ht.2 id go h
 | .map :: g,b :: B,o :: G,l,l',hg,hw,hx,tS,hu,ht,id,go,h=>by
   cases o with
   | map es=>
    change (match kI g G with
     | some r=>some (AV.list .lQ 2 (ao es) :: r)
     | none=>none)=some l at hg
    change (bS es&&dX vs g B G)=true at ht
    rw [Bool.and_eq_true] at ht
    split at hg
    ·rename_i r hr
     cases hg
     cases l' with
     | nil=>exact hw.elim
     | cons a l'=>
      simp only [aM,Bool.and_eq_true] at hu
      simp only [dR,fc,List.tail_cons] at h
      cases id with
      | zero=>
       simp only [nth] at h
       cases h
       refine ⟨.map es,rfl,.inl (.inl ⟨?_,ht.1⟩)⟩
       rw [rA,hx.2.1 ht.1]
       exact oK es
      | succ id=>exact iB hr hw.2 hx.2.2.2 tS hu.2 ht.2 id go h
    ·cases hg
   | _=>cases hg
 | .KO :: g,b :: B,o :: G,l,l',hg,hw,hx,tS,hu,ht,id,go,h=>by
   have FQ:dX vs g B G=true:=by cases o <;> exact ht
   cases o with
   | gZ s pos=>
    change (match kI g G with
     | some r=>some (AV.str s :: AV.int .i64 pos :: r)
     | none=>none)=some l at hg
    split at hg
    ·rename_i r hr
     cases hg
     match l',hw,hx,hu,h with
     | [],hw,_,_,_=>exact hw.elim
     | [_],hw,_,_,_=>exact hw.2.elim
     | a :: a' :: l',hw,hx,hu,h=>
      simp only [aM,Bool.and_eq_true] at hu
      simp only [dR,fc,List.tail_cons] at h
      have e1:=hx.1 (by simp [AV.exact])
      have e2:=hx.2.2.2.1 (by simp [AV.exact])
      subst e1 e2
      cases id with
      | zero=>
       simp only [nth] at h
       cases h
       exact ⟨.gZ s pos,rfl,.inl ⟨rfl,by simp [AV.lR]⟩⟩
      | succ id=>exact iB hr hw.2.2 hx.2.2.2.2.2.2 tS hu.2.2 FQ id go h
    ·cases hg
   | _=>cases hg
 | .dw sz e :: g,b :: B,o :: G,l,l',hg,hw,hx,tS,hu,ht,id,go,h=>by
   have FQ:dX vs g B G=true:=by cases o <;> exact ht
   cases o with
   | dw es bQ e'=>
    change (match kI g G with
     | some r=>bif Nat.beq sz bQ&&Nat.beq e e' then some (AV.list .lQ bQ es :: r) else none
     | none=>none)=some l at hg
    split at hg
    ·rename_i r hr
     cases hm:(Nat.beq sz bQ&&Nat.beq e e') with
     | false=>rw [hm] at hg; cases hg
     | true=>
     rw [hm] at hg
     rw [Bool.and_eq_true] at hm
     have q1:=Nat.eq_of_beq_eq_true hm.1
     have q2:=Nat.eq_of_beq_eq_true hm.2
     cases hg
     cases l' with
     | nil=>exact hw.elim
     | cons a l'=>
      simp only [aM,Bool.and_eq_true] at hu
      simp only [dR,fc,List.tail_cons] at h
      cases id with
      | zero=>
       simp only [nth] at h
       cases h
       exact ⟨.dw es bQ e',rfl,.inl ⟨q1,q2,hx.2.2.1,tS.1.1⟩⟩
      | succ id=>exact iB hr hw.2 hx.2.2.2 ⟨tS.1.2,tS.2⟩ hu.2 FQ id go h
    ·cases hg
   | _=>cases hg
 | .bk sz e :: g,b :: B,o :: G,l,l',hg,hw,hx,tS,hu,ht,id,go,h=>by
   have FQ:dX vs g B G=true:=by cases o <;> exact ht
   cases o with
   | bk fs bQ e'=>
    change (match kI g G with
     | some r=>bif Nat.beq sz bQ&&Nat.beq e e' then some (AV.list .lQ 1 (cM fs) :: r) else none
     | none=>none)=some l at hg
    split at hg
    ·rename_i r hr
     cases hm:(Nat.beq sz bQ&&Nat.beq e e') with
     | false=>rw [hm] at hg; cases hg
     | true=>
     rw [hm] at hg
     rw [Bool.and_eq_true] at hm
     have q1:=Nat.eq_of_beq_eq_true hm.1
     have q2:=Nat.eq_of_beq_eq_true hm.2
     cases hg
     cases l' with
     | nil=>exact hw.elim
     | cons a l'=>
      simp only [aM,Bool.and_eq_true] at hu
      simp only [dR,fc,List.tail_cons] at h
      cases id with
      | zero=>
       simp only [nth] at h
       cases h
       refine ⟨.bk fs bQ e',rfl,.inl ⟨?_,q1.symm,q2.symm⟩⟩
       rw [hx.2.1 (yA fs)]
       exact (vE fs).symm
      | succ id=>exact iB hr hw.2 hx.2.2.2 tS hu.2 FQ id go h
    ·cases hg
   | _=>cases hg
 | .tc :: g,b :: B,o :: G,l,l',hg,hw,hx,tS,hu,ht,id,go,h=>by
   have FQ:dX vs g B G=true:=by cases o <;> exact ht
   cases o with
   | map es=>
    change (match kI g G with
     | some r=>some (AV.list .lQ 2 (ao es) :: r)
     | none=>none)=some l at hg
    split at hg
    ·rename_i r hr
     cases hg
     cases l' with
     | nil=>exact hw.elim
     | cons a l'=>
      simp only [aM,Bool.and_eq_true] at hu
      simp only [dR,fc,List.tail_cons] at h
      cases id with
      | zero=>
       simp only [nth] at h
       cases h
       exact ⟨.map es,rfl,.inl (.inr ⟨a.eQ,rA a,hx.2.2.1,tS.1.1⟩)⟩
      | succ id=>exact iB hr hw.2 hx.2.2.2 ⟨tS.1.2,tS.2⟩ hu.2 FQ id go h
    ·cases hg
   | _=>cases hg
 | .oG rJ :: g,b :: B,o :: G,l,l',hg,hw,hx,tS,hu,ht,id,go,h=>by
   obtain ⟨Fq,FQ⟩:Tn b o=true∧dX vs g B G=true:=by
    rw [← Bool.and_eq_true]
    cases o <;> exact ht
   cases o with
   | oG mid' k left cur t=>
    have qj:Zq b=t:=by
     cases b <;> first | (cases Fq; done) | exact Nat.eq_of_beq_eq_true Fq
    change (match kI g G with
     | some r=>bif Nat.beq rJ mid' then some (AV.int .i64 k :: AV.list .lQ 1 (cM left) :: r) else none
     | none=>none)=some l at hg
    split at hg
    ·rename_i r hr
     cases hm:Nat.beq rJ mid' with
     | false=>rw [hm] at hg; cases hg
     | true=>
     rw [hm] at hg
     have q1:=Nat.eq_of_beq_eq_true hm
     subst q1
     cases hg
     have hmp:=tS.2
     simp only [KQ,Bool.and_eq_true] at hmp
     match l',hw,hx,hu,h with
     | [],hw,_,_,_=>exact hw.elim
     | [_],hw,_,_,_=>exact hw.2.elim
     | a :: a' :: l',hw,hx,hu,h=>
      simp only [aM,Bool.and_eq_true] at hu
      simp only [dR,fc,List.tail_cons] at h
      have e1:=hx.1 (by simp [AV.exact])
      have e2:=hx.2.2.2.2.1 (yA left)
      subst e1
      cases id with
      | zero=>
       simp only [nth] at h
       cases h
       refine ⟨.oG rJ k left cur t,rfl,.inl ⟨rfl,by simp [AV.lR],?_,qj.symm,ku hmp.1,rfl⟩⟩
       rw [e2]
       exact (vE left).symm
      | succ id=>exact iB hr hw.2.2 hx.2.2.2.2.2.2 ⟨tS.1,hmp.2⟩ hu.2.2 FQ id go h
    ·cases hg
   | _=>cases hg
theorem di {vs:List AV}:∀ {g:List GL} {B:List GO} {l:List AV},(dR vs g B l).length=g.length
 | [],_,_=>rfl
 | .row m :: g,B,l=>by simp [dR,di (g:=g)]
 | .tok _ _ _ :: g,B,l=>by simp [dR,di (g:=g)]
 | .dead :: g,B,l=>by simp [dR,di (g:=g)]
 | .lp _ :: g,B,l=>by simp [dR,di (g:=g)]
 | .bJ :: g,B,l=>by simp [dR,di (g:=g)]
 | .map :: g,B,l=>by simp [dR,di (g:=g)]
 | .dw _ _ :: g,B,l=>by simp [dR,di (g:=g)]
 | .KO :: g,B,l=>by simp [dR,di (g:=g)]
 | .bk _ _ :: g,B,l=>by simp [dR,di (g:=g)]
 | .tc :: g,B,l=>by simp [dR,di (g:=g)]
 | .oG _ :: g,B,l=>by simp [dR,di (g:=g)]
theorem ic.lok {R0:an} {w0:World} {Tp:RO} {JI go' go:GO} {ro:RO} (e:Ext R0 w0 R w) (h0:ic R0 w0 JI Tp) (hle:cJ Tp ro) (h:ic R' w go' ro) (k:LOk JI go' go):ic R w go ro:=by
 cases JI with
 | loop b p fn sl n ps sX bd d dn=>
  cases go' with
  | loop b' p' Zs X7 n' Zt OW Yb d' dn'=>
   change go=_ at k
   subst k
   cases Tp with
   | b9 bb=>
    simp only [cJ] at hle
    subst hle
    obtain ⟨⟨r0,db0,l1,l2,l3,l4,l5,l6,l7,l8,l9,l10⟩,l11⟩:=h0
    obtain ⟨⟨r,db,m1,m2,m3,m4,m5,m6,m7,m8,m9,m10⟩,m11⟩:=h
    obtain ⟨r1,q1,q2,q3,q4,q5,q6⟩:=e.lp bb r0 l1
    have hr:r1=r:=by
     have:=q1.symm.trans m1
     injection this with this
     injection this with this
    subst hr
    exact ⟨⟨r1,db0,q1,m2,m3,by rw [q2]; exact oX.mono e l4,by rw [q2]; exact l5,by rw [q3]; exact l6,by rw [q4]; exact l7,by rw [q5]; exact l8,by rw [q6]; exact l9,e.b9 l10⟩,l11⟩
   | none=>exact h0.elim
   | bN=>exact h0.elim
   | tok _ _ _=>exact h0.elim
   | bk _=>exact h0.elim
  | _=>exact k.elim
 | _=>exact k.elim
theorem dP.cut {n:Nat}:∀ {es:List (AV × AV)} {aC:List MapEntry},gI (ao es)=true→dP R w es aC→dP (R.cut n) w es aC
 | [],[],_,_=>trivial
 | [],_ :: _,_,h=>h.elim
 | _ :: _,[],_,h=>h.elim
 | (k,v) :: es,en :: aC,he,h=>by
  simp only [ao,gI,AV.exact,Bool.and_true,Bool.and_eq_true] at he
  exact ⟨h.1.move (pM R n) (jk n (oe he.1.1)),h.2.1.move (pM R n) (jk n (oe he.1.2)),dP.cut he.2 h.2.2⟩
theorem DB {n:Nat} {v:AV} (h:v.under n=true) (k:v.a6=true):aM n v.cells=true:=by
 cases v <;> first | exact h | (simp [AV.a6] at k; done) | (simp only [AV.cells,aM,Bool.and_true]; exact h)
theorem yK {n sz:Nat}:∀ {es es':List AV},kv es es'→dU sz es→aM n es'=true→dU sz es'∧cQ (av es) (av es')∧aM n (av es')=true
 | [],[],_,_,_=>⟨(fun e he=>by simp at he),trivial,rfl⟩
 | e :: es,e' :: es',h,k,vX=>by
  obtain ⟨h1,h2⟩:=h
  simp only [aM,Bool.and_eq_true] at vX
  obtain ⟨q1,q2⟩:=k e (by simp)
  obtain ⟨i1,i2,i3⟩:=yK h2 (fun x hx=>k x (by simp [hx])) vX.2
  have hc:=h1.cells q2
  have ht:e'.a6=true:=by rw [h1.bp,q2]
  refine ⟨fun x hx=>?_,hc.append i2,by show aM n (e'.cells++av es')=true; rw [ga,DB vX.1 ht,i3]; rfl⟩
  rcases List.mem_cons.1 hx with rfl | hx
  ·exact ⟨by rw [← hc.length,q1],ht⟩
  ·exact i1 x hx
 | [],_ :: _,h,_,_=>h.elim
 | _ :: _,[],h,_,_=>h.elim
theorem oQ.head {l r:List AV} (h:oQ l r):(AV.eQ (fc l)).length=(AV.eQ (fc r)).length:=by
 cases l <;> cases r <;> first | rfl | exact h.1 | exact h.elim
theorem oQ.tail {l r:List AV} (h:oQ l r):oQ l.tail r.tail:=by
 cases l <;> cases r <;> first | exact h | exact h.2 | exact h.elim
theorem dj:∀ (g:List GL) {l r:List AV} (i:Nat),oQ l r→ly g l i=ly g r i
 | [],_,_,_,_=>rfl
 | .dw _ _ :: g,l,r,0,h=>h.head
 | .dw _ _ :: g,l,r,i+1,h=>dj g i h.tail
 | .row _ :: g,l,r,0,h=>rfl
 | .row n :: g,l,r,i+1,h=>dj g i (h.drop n)
 | .map :: g,l,r,0,h=>rfl
 | .map :: g,l,r,i+1,h=>dj g i h.tail
 | .KO :: g,l,r,0,h=>rfl
 | .KO :: g,l,r,i+1,h=>dj g i h.tail.tail
 | .bk _ _ :: g,l,r,0,h=>rfl
 | .bk _ _ :: g,l,r,i+1,h=>dj g i h.tail
 | .tc :: g,l,r,0,h=>rfl
 | .tc :: g,l,r,i+1,h=>dj g i h.tail
 | .oG _ :: g,l,r,0,h=>rfl
 | .oG _ :: g,l,r,i+1,h=>dj g i h.tail.tail
 | .tok _ _ _ :: g,l,r,0,h=>rfl
 | .tok _ _ _ :: g,l,r,i+1,h=>dj g i h
 | .dead :: g,l,r,0,h=>rfl
 | .dead :: g,l,r,i+1,h=>dj g i h
 | .lp _ :: g,l,r,0,h=>rfl
 | .lp _ :: g,l,r,i+1,h=>dj g i h
 | .bJ :: g,l,r,0,h=>rfl
 | .bJ :: g,l,r,i+1,h=>dj g i h
theorem dP.Zu {n:Nat}:∀ {es:List (AV × AV)} {l:List AV} {aC:List MapEntry},kv (ao es) l→aM n l=true→dP R w es aC→dP (R.cut n) w (ab l) aC
 | [],[],[],_,_,_=>trivial
 | [],[],_ :: _,_,_,h=>h.elim
 | [],_ :: _,_,h,_,_=>h.elim
 | (_,_) :: _,[],_,h,_,_=>h.elim
 | (_,_) :: _,_ :: _,[],_,_,h=>h.elim
 | (k,v) :: es,a :: l,en :: aC,hd,hu,h=>by
  obtain ⟨d1,d2⟩:=hd
  simp only [aM,Bool.and_eq_true] at hu
  have hc:=d1.cells rfl
  have hl:[k,v].length=a.cells.length:=hc.length
  cases a with
  | agg cs=>
   match cs,hc,hl with
   | [k',v'],hc,_=>
    have U0:aM n [k',v']=true:=hu.1
    simp only [aM,Bool.and_true,Bool.and_eq_true] at U0
    exact ⟨(hc.1 _ _ _ h.1).move (pM R n) U0.1,(hc.2.1 _ _ _ h.2.1).move (pM R n) U0.2,dP.Zu d2 hu.2 h.2.2⟩
   | [],_,hl=>simp [AV.cells] at hl
   | [_],_,hl=>simp [AV.cells] at hl
   | _ :: _ :: _ :: _,_,hl=>simp [AV.cells] at hl
  | _=>simp [AV.cells] at hl
theorem ic.gok {n:Nat} {go go':GO} {ro:RO} (h:ic R w go' ro) (k:GOk n go' go):ic (R.cut n) w go ro:=by
 cases go with
 | dead=>
  cases ro with
  | none=>trivial
  | bN=>trivial
  | b9 b=>exact h.lt rfl
  | tok f b c=>exact h.lt rfl
  | bk ts=>exact fun j f b c hj=>h.lt ⟨j,f,c,hj⟩
 | row cs el=>
  cases go' with
  | row cs' el'=>
   cases ro with
   | b9 b=>
    obtain ⟨vs,h1,h2,h3,h4⟩:=h
    obtain ⟨rfl,k⟩:=k
    exact ⟨vs,h1,(k.1.rel h2).move (pM R n) k.2,h3,h4⟩
   | none=>exact h.elim
   | bN=>exact h.elim
   | tok _ _ _=>exact h.elim
   | bk _=>exact h.elim
  | _=>exact k.elim
 | tok f sz e=>
  cases go' with
  | tok f' bQ e'=>
   obtain ⟨rfl,rfl,rfl⟩:=k
   cases ro with
   | b9 b=>exact h.elim
   | none=>exact h.elim
   | bN=>exact h
   | tok _ _ _=>exact h
   | bk _=>exact h.elim
  | _=>exact k.elim
 | defers a=>
  cases go' with
  | defers b=>
   change b=a at k
   subst k
   cases ro <;> exact h
  | _=>exact k.elim
 | map es=>
  cases go' with
  | map es'=>
   cases ro with
   | b9 b=>
    obtain ⟨aC,clock,h1,h2,h3⟩:=h
    rcases k with ⟨rfl,k2⟩ | ⟨l,rfl,k2,k3⟩
    ·exact ⟨aC,clock,h1,dP.cut k2 h2,h3⟩
    ·exact ⟨aC,clock,h1,dP.Zu k2 k3 h2,h3⟩
   | none=>exact h.elim
   | bN=>exact h.elim
   | tok _ _ _=>exact h.elim
   | bk _=>exact h.elim
  | _=>exact k.elim
 | bk fs sz e=>
  cases go' with
  | bk By bQ e'=>
   obtain ⟨rfl,rfl,rfl⟩:=k
   cases ro <;> exact h
  | _=>exact k.elim
 | oG rJ m left cur t=>
  cases go' with
  | oG mid' m' AM CP t'=>
   obtain ⟨rfl,rfl,rfl,rfl,k,rfl⟩:=k
   cases ro with
   | b9 b=>obtain ⟨bm,seen,c0,h1,h2,h3,h4,h5,h6,_⟩:=h; exact ⟨bm,seen,c0,kJ.2 ⟨k,h1⟩,h2,h3,h4,h5,h6,fun i hi=>by cases hi⟩
   | none=>exact h.elim
   | bN=>exact h.elim
   | tok _ _ _=>exact h.elim
   | bk _=>exact h.elim
  | _=>exact k.elim
 | gZ l p=>
  cases go' with
  | gZ l' p'=>
   obtain ⟨rfl,rfl⟩:=k
   cases ro <;> exact h
  | _=>exact k.elim
 | dw es sz e=>
  cases go' with
  | dw es' bQ e'=>
   obtain ⟨rfl,rfl,k,kc⟩:=k
   cases ro with
   | b9 b=>exact h.elim
   | none=>exact h.elim
   | bk _=>exact h.elim
   | bN=>
    have he:es'=[]:=h
    subst he
    exact List.eq_nil_of_length_eq_zero k.length.symm
   | tok f b c=>
    obtain ⟨h0,h1,cur,vs,h2,h3,h4,h5,h6,h7,h8,h9⟩:=h
    obtain ⟨k1,k2,k3⟩:=yK k h1 kc
    exact ⟨h0.trans k.length,k1,cur,vs,h2,h3,h4,h5,h6,(k2.rel h7).move (pM R n) k3,h8,h9⟩
  | _=>exact k.elim
 | _=>cases go' <;> exact k.elim
theorem qQ.ids:∀ {l:List Nat} {ds:List Deferred},qQ R l ds→∀ id∈l,id < R.obj.length
 | [],[],_,id,hi=>by simp at hi
 | x :: l,d :: ds,h,id,hi=>by
  obtain ⟨⟨b,h1,_⟩,h2⟩:=h
  rcases List.mem_cons.1 hi with rfl | hi
  ·exact bR h1
  ·exact qQ.ids h2 id hi
 | [],_ :: _,h,_,_=>h.elim
 | _ :: _,[],h,_,_=>h.elim
theorem qQ.cut {n:Nat}:∀ {l:List Nat} {ds:List Deferred},qQ R l ds→(∀ id∈l,id < n)→qQ (R.cut n) l ds
 | [],[],_,_=>trivial
 | x :: l,d :: ds,h,hi=>by
  obtain ⟨⟨b,h1,h3⟩,h2⟩:=h
  exact ⟨⟨b,kJ.2 ⟨hi x (by simp),h1⟩,h3⟩,qQ.cut h2 fun id hm=>hi id (by simp [hm])⟩
 | [],_ :: _,h,_=>h.elim
 | _ :: _,[],h,_=>h.elim
theorem vH {n:Nat} {tmps:Array Value} {ae base:bj} (hT:oX R w β ae tmps):∀ {l:List (Tmp × Nat × Nat)},Hj ae l=true→oX (R.cut n) w β base tmps→oX (R.cut n) w β (pL l base) tmps
 | [],_,h=>h
 | (t,k,o) :: l,hl,h=>fun i hi=>by
  simp only [Hj,Bool.and_eq_true] at hl
  simp only [pL] at hi ⊢
  by_cases e:t=i
  ·subst e
   rw [aG]
   have h1:=hl.1
   split at h1
   ·rename_i k' o' hk
    rw [Bool.and_eq_true] at h1
    have e1:=Nat.eq_of_beq_eq_true h1.1
    have e2:=Nat.eq_of_beq_eq_true h1.2
    subst e1 e2
    obtain ⟨c,q1,q2⟩:=hT t (by rw [hk]; simp)
    rw [hk] at q2
    exact ⟨c,q1,q2⟩
   ·cases h1
  ·rw [aW e] at hi ⊢
   exact vH hT hl.2 h i hi
theorem cO.AW {t:cO} {v:t.ps.T} (hs:aY s s') (h0:bo E R w β s a) (h:bo E R' w' β' s' a') (st:Step R w β s.boxes R' w' β' s'.boxes) (hd:t.dec s s'=some v) :
  bo E (R'.cut s.G.length) w' β' (t.st s v) a'∧Step R w β s.boxes (R'.cut s.G.length) w' β' (t.st s v).boxes:=by
 have hlen:=h0.g.len
 unfold cO.dec at hd
 cases eD:t.ok s s' with
 | false=>rw [eD] at hd; cases hd
 | true=>
 rw [eD] at hd
 simp only [cond_true] at hd
 unfold cO.ok at eD
 simp only [Bool.and_eq_true] at eD
 obtain ⟨⟨⟨⟨⟨k1,k2⟩,k3⟩,k4⟩,k5,k7,k8⟩,k6⟩:=eD
 obtain ⟨pre,Ad⟩:=hs.sl
 obtain ⟨preB,Tq⟩:=hs.bx
 rw [Ad,Dx] at k1
 rw [Tq,Dx] at k2
 have k3:=Hk k3
 have k4:=Nat.eq_of_beq_eq_true k4
 split at hd
 ·rename_i la lb lc g1 g2 g3
  cases hv:t.ps.IN (ly t.g lc) (la++(lb++lc)) with
  | none=>rw [hv] at hd; cases hd
  | some v'=>
  rw [hv] at hd
  simp only [Option.bind_some] at hd
  cases EG:dX (t.qS v') t.g s.G s'.G with
  | false=>rw [EG] at hd; cases hd
  | true=>
  rw [EG] at hd
  cases hd
  have lsl:∀ {ts:List Tmp} {l:List AV},yB s'.ae ts=some l→l.length=ts.length:=by
   intro ts
   induction ts with
   | nil=>intro l hl; simp only [yB] at hl; cases hl; rfl
   | cons t ts ih=>
    intro l hl
    unfold yB at hl
    split at hl
    ·split at hl
     ·rename_i hr
      cases hl
      simp [ih hr]
     ·cases hl
    ·cases hl
  have lbx:∀ {bx:List (Nat × Nat)} {l:List AV},yC s'.boxes bx=some l→l.length=B2 bx:=by
   intro bx
   induction bx with
   | nil=>intro l hl; simp only [yC] at hl; cases hl; rfl
   | cons x bx ih=>
    obtain ⟨k,m⟩:=x
    intro l hl
    unfold yC at hl
    split at hl
    ·split at hl
     ·rename_i cs _ _ r hr
      cases hm:Nat.beq cs.length m with
      | false=>rw [hm] at hl; cases hl
      | true=>
       rw [hm] at hl
       cases hl
       simp only [B2,List.length_append,ih hr,Nat.eq_of_beq_eq_true hm]
     ·cases hl
    ·cases hl
  obtain ⟨hw,hex⟩:=t.ps.OT _ hv
  have Tr:t.qS v=t.ps.lx (ly t.g lc) v:=by
   unfold cO.qS
   congr 1
   funext i
   have hl:=hex.Zp.trans (t.ps.pJ (ly t.g lc) (fun _=>0) v)
   have s9:=(hl.drop t.sl.length).drop (B2 t.bx)
   rw [← lsl g1,List.drop_left,← lbx g2,List.drop_left,lsl g1,lbx g2] at s9
   exact (dj t.g i s9).symm
  have hu:aM s.G.length (t.qS v)=true:=by
   rw [Tr,t.ps.IP _ hv]
   exact t.ps.FY _ k5 _
  rw [← Tr] at hw hex
  have U1:∃ xa xb xc,t.qS v=xa++(xb++xc)∧cQ la xa∧cQ lb xb∧cQ lc xc∧xa.length=la.length∧xb.length=lb.length∧JJ lc xc:=by
   obtain ⟨xa,r,h1,h2,h3,h4⟩:=hw.split
   obtain ⟨xb,xc,rfl,h6,h7,h8⟩:=h3.split
   rw [h1] at hex
   obtain ⟨ya,yr,g1,_,g3,g4⟩:=hex.split
   obtain ⟨_,rfl⟩:=List.append_inj g1 (by rw [h4,g4])
   obtain ⟨yb,yc,k1,_,k3,k4⟩:=g3.split
   obtain ⟨_,rfl⟩:=List.append_inj k1 (by rw [h8,k4])
   exact ⟨xa,xb,xc,h1,h2,h6,h7,h4,h8,k3⟩
  obtain ⟨xa,xb,xc,hx,wa,wb,wc,la1,lb1,exc⟩:=U1
  have hu':aM s.G.length xa=true∧aM s.G.length xb=true∧aM s.G.length xc=true:=by
   rw [hx,ga,ga] at hu
   simp only [Bool.and_eq_true] at hu
   exact ⟨hu.1,hu.2.1,hu.2.2⟩
  have e1:(t.qS v).drop t.sl.length=xb++xc:=by rw [hx,← lsl g1,← la1,List.drop_left]
  have e2:(xb++xc).drop (B2 t.bx)=xc:=by rw [← lbx g2,← lb1,List.drop_left]
  have tS:yI s.G.length t.g xc:=by
   have hf:=((aT.DA s.G.length _ t.ps v).drop t.sl.length).drop (B2 t.bx) (l:=(t.qS v).drop t.sl.length)
   rw [e1,e2] at hf
   exact gj t.g k7 hf
  have old:∀ {l:List AV} {cs:List Value},aQ R w l cs→aM s.G.length l=true:=fun hr=>hr.under (by omega)
  have mv:=pM R' s.G.length
  have hbx:∀ k cs,dO s'.boxes k=some cs→yH R' w' β' k cs:=fun k cs hk=>h.b.box k cs hk
  have bok:∀ k cs,dO (vF t.bx (xb++xc) s.boxes) k=some cs→yH (R'.cut s.G.length) w' β' k cs∧∃ cs',dO s'.boxes k=some cs':=fun k cs hk=>by
   refine Dz (K:=fun _=>False) hbx g2 wb hu'.2.1 (fun k cs _ h1 h2=>?_) k cs (fun h=>h) hk
   refine ⟨by rw [Tq]; exact Dw h1 h2 k2,?_⟩
   obtain ⟨⟨vs,el,_,h4,_⟩,_⟩:=h0.b.box k cs h2
   exact old h4
  have stG:(t.st s v).G=dR (t.qS v) t.g s.G xc:=by simp only [cO.st,e1,e2]
  have stB:(t.st s v).boxes=vF t.bx (xb++xc) s.boxes:=by simp only [cO.st,e1]
  have stS:(t.st s v).ae=pL t.X9 (pK t.sl (xa++(xb++xc)) (yD t.W s.ae)):=by simp only [cO.st,hx]
  have ext:Ext R w (R'.cut s.G.length) w':=⟨st.ext.I,st.ext.cell,fun id ro hi=>by
   obtain ⟨mQ,h1,h2⟩:=st.ext.obj id ro hi
   exact ⟨mQ,kJ.2 ⟨by have:=bR hi; omega,h1⟩,h2⟩,st.ext.lp⟩
  refine ⟨⟨⟨?_,fun id go ro h1 h2=>?_,fun i j ri rj b h1 h2=>h.g.inj i j ri rj b (kJ.1 h1).2 (kJ.1 h2).2,h.g.wf,fun g cs hg=>(h.g.cm g cs hg).move mv (cz _ (E.oV g cs hg)),h.g.lo⟩,?_,?_,?_,?_⟩,?_⟩
  ·rw [stG,di,k4]
   have:=h.g.len
   have h3:s.G.length≤R'.obj.length:=by
    rcases Nat.lt_or_ge R'.obj.length s.G.length with cu | qi
    ·exfalso
     have hx:R'.obj.length < R.obj.length:=by omega
     obtain ⟨mQ,h1,_⟩:=st.ext.obj R'.obj.length R.obj[R'.obj.length] (by rw [bf]; exact List.getElem?_eq_getElem hx)
     have:=bR h1
     omega
    ·exact qi
   simp [an.cut]
   omega
  ·rw [stG] at h1
   obtain ⟨go',h3,h4⟩:=iB g3 wc exc ⟨tS,k8⟩ hu'.2.2 EG id go h1
   rcases h4 with h4 | ⟨JI,h5,h4⟩
   ·exact (h.g.obj id go' ro h3 (kJ.1 h2).2).gok h4
   ·have cu:=bR h5
    rw [← hlen] at cu
    obtain ⟨Tp,h6⟩:∃ Tp,nth R.obj id=some Tp:=⟨R.obj[id],by rw [bf]; exact List.getElem?_eq_getElem cu⟩
    obtain ⟨mQ,h7,h8⟩:=ext.obj id Tp h6
    have:mQ=ro:=Option.some.inj (h7.symm.trans h2)
    subst this
    exact ic.lok ext (h0.g.obj id JI Tp h5 h6) h8 (h.g.obj id go' mQ h3 (kJ.1 h2).2) h4
  ·rw [stB]
   refine ⟨fun k cs hk=>(bok k cs hk).1,fun k k' cs cs' hk jg he=>?_⟩
   obtain ⟨_,c1,Hl⟩:=bok k cs hk
   obtain ⟨_,c2,EI⟩:=bok k' cs' jg
   exact h.b.inj k k' c1 c2 Hl EI he
  ·rw [stS]
   have hT:yF (R'.cut s.G.length) w' β' (fun _=>False) (pK t.sl (xa++(xb++xc)) (yD t.W s.ae)) a'.tmps:=by
    refine vG mv h.t g1 (l':=xa) (r:=lb++lc) (r':=xb++xc) (wa.append (wb.append wc)) la1.symm hu'.1 (yG fun i hi hn=>?_)
    have hi1:Ya t.sl t.W i=false:=by
     simp only [Ya,Bool.or_eq_false_iff]
     refine ⟨?_,?_⟩
     ·cases hc:Of t.sl i with
      | false=>rfl
      | true=>exact absurd (.inr (.inl (B3.1 hc))) hi
     ·cases hc:Of t.W i with
      | false=>rfl
      | true=>exact absurd (.inl (B3.1 hc)) hi
    have hk:=B5 hi1 k1
    rw [← Ad] at hk
    obtain ⟨c,h1,h2⟩:=h.t i (by rw [hk]; exact hn)
    rw [hk] at h2
    refine ⟨c,h1,?_⟩
    obtain ⟨c0,_,h4⟩:=h0.t i hn
    revert h2 h4
    cases lk s.ae i with
    | none=>exact fun _ _=>trivial
    | lp k off=>exact fun h2 _=>h2
    | v x=>exact fun h2 h4=>Rel.move mv (Rel.under (by omega) h4) h2
   exact vH h.t k6 (fun i hi=>hT i (fun h=>h) hi)
  ·show a'.tmps.size=s.n
   rw [h.n,hs.n]
  ·show qQ _ s.marks a'.defers
   have:=h.d
   rw [k3] at this
   exact this.cut fun id hid=>by have:=h0.d.ids id hid; omega
  ·refine ⟨ext,st.os,st.tape,st.output,st.size,st.bJ,fun b hb ho=>st.own b hb ?_,st.im⟩
   rcases ho with ho | ⟨k,cs,hk,rfl⟩
   ·exact .inl (Dy ho)
   ·rw [stB] at hk
    obtain ⟨_,c1,Hl⟩:=bok k cs hk
    exact .inr ⟨k,c1,Hl,rfl⟩
 ·cases hd
end AW
end Go.Am
namespace Go.Am
open Go
def iJ:bj→bj
 | []=>[]
 | .put d (.lp _ _) :: l=>.put d .none :: iJ l
 | .put d x :: l=>.put d x :: iJ l
 | .kill _ :: l=>iJ l
def SV.Ah:SV→SV
 | .lp _ _=>.none
 | x=>x
theorem uz (t:Nat):∀ l:bj,lk (iJ l) t=(lk l t).Ah
 | []=>rfl
 | .put d x :: l=>by
  cases x <;> simp only [iJ] <;> by_cases e:d=t <;> first | (subst e; rw [aG,aG]; rfl) | (rw [aW e,aW e]; exact uz t l)
 | .kill d :: l=>by
  simp only [iJ,lk]
  rw [uz t l]
  cases lk l t with
  | lp k off=>
   by_cases e:k=d
   ·subst e; simp [SV.Ah]
   ·simp [nN e,SV.Ah]
  | _=>rfl
theorem og:∀ l:bj,GH (iJ l)=true
 | []=>rfl
 | .put d x :: l=>by
  cases x <;> simp only [iJ,GH] <;> exact og l
 | .kill d :: l=>by simp only [iJ]; exact og l
def rfQ (E:Env) (Q:Exit→St→Prop) (s:St) (G':List GO):Prop:=
 match nth G' (s.G.length+1) with
 | some (.loop busy pending _ _ _ _ _ _ _ done)=>(busy=false∨done=true) ∧
  match pending with
  | none=>Q .normal ⟨s.ae,s.boxes,aF G' (s.G.length+1) .dead,s.G.length :: s.marks,s.ro,s.n⟩
  | some c=>gE E c Q ⟨s.ae,s.boxes,aF G' (s.G.length+1) .dead,s.G.length :: s.marks,s.ro,s.n⟩
 | _=>False
theorem FZ {busy done:Bool} (h:busy=false∨done=true):(if done=true then LoopState.done else if busy=true then LoopState.busy else LoopState.ready)≠LoopState.busy:=by
 rcases h with rfl | rfl
 ·cases done <;> simp
 ·simp
theorem gE.rangeFunc {E:Env} {Q:Exit→St→Prop} {s:St} (fp:Nat) {g:Operand} {ps:Array Tmp} {assign body:Code} (bU:s.ro=none) {f:FuncId} {first cap:List AV} (hg:bM E s.ae g=.v (.fn f first cap))
  (h:cB E f (first++[.yield (s.G.length+1)]++cap) (s.G++[.defers true]++[.loop false none fp (iJ s.ae) s.n ps.toList assign body s.G.length false]) (fun _ G'=>rfQ E Q s G')) :
  gE E (.rangeFunc g ps assign body) Q s:=fun R w β a F hr hf=>by
 rw [bU] at hf
 have Y8:F=Fence.wide:=hf
 subst Y8
 refine wpIn_rangeFunc fun fn _=>?_
 have rg:=aX hr g
 rw [hg] at rg
 have rg':Rel R w (.fn f first cap) (a.eval g):=rg
 -- the block for the deferred calls
 have Tg:ic (R.add (.b9 w.heap.size)) (w.alloc (.deferred (some []))) (.defers true) (.b9 w.heap.size):=heap_alloc_new w _
 have h1:=hr.mD (.deferred (some [])) (.defers true) (.b9 w.heap.size) (by exact fun _ h=>h) Tg
 have s1:=dh hr (.deferred (some [])) (.b9 w.heap.size) (by exact fun _ h=>h)
 have fu:(w.alloc (.deferred (some []))).heap.size=w.heap.size+1:=by simp
 generalize hw1:w.alloc (.deferred (some []))=w1 at *
 generalize hR1:R.add (.b9 w.heap.size)=R1 at *
 -- the loop's record
 let wu:Loop:={ state:=.ready,pending:=none,fn:=fn,tmps:=a.tmps,params:=ps,assign:=assign,body:=body,defers:=w.heap.size }
 have Ke:nth R1.obj s.G.length=some (.b9 w.heap.size):=by rw [← hR1]; exact gS hr _
 have e2:Ext R1 w1 (R1.add (.b9 w1.heap.size)) (w1.alloc (.loop wu)):=iz h1.g.wf _ _
 have Zc:ic (R1.add (.b9 w1.heap.size)) (w1.alloc (.loop wu)) (.loop false none fp (iJ s.ae) s.n ps.toList assign body s.G.length false) (.b9 w1.heap.size):=by
  refine ⟨⟨wu,w.heap.size,heap_alloc_new w1 _,rfl,rfl,fun i hi=>?_,hr.n,by simp [wu],rfl,rfl,rfl,e2.b9 Ke⟩,og _⟩
  rw [uz] at hi ⊢
  have cD:lk s.ae i≠.none:=fun e=>hi (by rw [e]; rfl)
  obtain ⟨c,k1,k2⟩:=hr.t i cD
  refine ⟨c,k1,?_⟩
  cases hx:lk s.ae i with
  | none=>exact absurd hx cD
  | lp k off=>rw [hx] at hi; exact absurd rfl hi
  | v x=>
   rw [hx] at k2
   exact Rel.mono (s1.ext.trans e2) (show Rel R w x c from k2)
 have h2:=h1.mD (.loop wu) (.loop false none fp (iJ s.ae) s.n ps.toList assign body s.G.length false) (.b9 w1.heap.size) (by exact fun _ h=>h) Zc
 have s2:=dh h1 (.loop wu) (.b9 w1.heap.size) (by exact fun _ h=>h)
 have Zv:nth (R1.add (.b9 w1.heap.size)).obj (s.G.length+1)=some (.b9 w1.heap.size):=by
  have:=gS h1 (.b9 w1.heap.size)
  simpa [St.eL] using this
 have st:=s1.trans s2
 generalize hR2:R1.add (.b9 w1.heap.size)=R2 at *
 generalize Zg:a.eval g=fv at rg'
 cases rg' with
 | @fn _ _ _ vs us q1 q2=>
 refine ⟨w.heap.size+1,[{ target:=.collected w.heap.size,args:=#[] }],w1.alloc (.loop wu),{ target:=.fn (.func f) ⟨us⟩,args:=⟨vs⟩++#[.func (.yield (w.heap.size+1)) #[] #[]] },w1.alloc (.loop wu),f,
  ⟨vs++[.func (.yield (w.heap.size+1)) #[] #[]]++us⟩,w1.alloc (.loop wu),?_,?_,?_,?_,?_,?_⟩
 ·have:Fence.wide.round=none:=rfl
  rw [this,run_enterLoop_outer,hw1]
 ·simp only [resolve,Zg,Deferred.ofValue,Sem.run_pure]
  simp [Act.eval]
 ·intro f' _
  exact trivial
 ·have:=nX (P:=E.P) h.1 (⟨vs++[.func (.yield (w.heap.size+1)) #[] #[]]++us⟩) (w1.alloc (.loop wu))
  simpa [invoke] using this
 ·intro hc; cases hc
 ·have hG:(s.eL (.defers true)).eL (.loop false none fp (iJ s.ae) s.n ps.toList assign body s.G.length false)=s.cg (s.G++[.defers true]++[.loop false none fp (iJ s.ae) s.n ps.toList assign body s.G.length false]):=rfl
  have Yc:Rel R2 (w1.alloc (.loop wu)) (.yield (s.G.length+1)) (.func (.yield (w.heap.size+1)) #[] #[]):=by
   rw [← fu]
   exact .yield Zv
  refine (h.2 R2 (w1.alloc (.loop wu)) _ h2.g ((((q1.mono st.ext).append (.one Yc)).append (q2.mono st.ext)))).mono ?_
  intro e w3 he
  cases e with
  | panicked c=>exact he.elim
  | outgrown=>exact he.elim
  | returned c=>
   obtain ⟨r,G',R3,hQ,fb,hg3,st3⟩:=he
   obtain ⟨p1,p2⟩:=h2.ur hg3 st3
   unfold rfQ at hQ
   split at hQ
   ·rename_i busy pending ff sl nn pp sX bd dd done U2
    obtain ⟨hbd,hQ⟩:=hQ
    have Zw:nth R3.obj (s.G.length+1)=some (.b9 w1.heap.size):=st3.ext.b9 Zv
    obtain ⟨⟨r3,db,l1,l2,l3,_,_,_,_,_,_,_⟩,_⟩:=p1.g.obj _ _ _ U2 Zw
    have U3:r3.state≠.busy:=by rw [l2]; exact FZ hbd
    have l1':w3.heap[w.heap.size+1]?=some (.loop r3):=by rw [← fu]; exact l1
    refine ⟨r3.pending,_,run_endLoop l1' U3,?_⟩
    rw [l3]
    -- the record is dead
    have Zx:nth R3.obj s.G.length=some (.b9 w.heap.size):=st3.ext.b9 (by rw [← hR2] at e2 ⊢; exact e2.b9 Ke)
    have key:∀ x:Obj,qm x→(∀ r,Obj.loop r3=.loop r→∃ r',x=.loop r'∧sD r r')→bo E R3 (World.put w3 w1.heap.size x) β ⟨s.ae,s.boxes,aF G' (s.G.length+1) .dead,s.G.length :: s.marks,s.ro,s.n⟩ { a with defers:=[{ target:=.collected w.heap.size,args:=#[] }]++a.defers }∧Step R w β s.boxes R3 (World.put w3 w1.heap.size x) β s.boxes:=fun x hx hlx=>by
     obtain ⟨z1,z2⟩:=p1.setObj (x':=x) (go':=.dead) Zw l1 trivial hx hlx (show w1.heap.size < _ by simp [World.put]; exact bn l1)
     exact ⟨⟨z1.g,z1.b,z1.t,z1.n,⟨⟨w.heap.size,Zx,rfl⟩,z1.d⟩⟩,(st.trans p2).trans z2⟩
    obtain ⟨z1,z2⟩:=key (.loop { r3 with state:=.exhausted,pending:=pending }) trivial (fun r e=>⟨_,rfl,by cases e; exact ⟨rfl,rfl,rfl,rfl,rfl⟩⟩)
    rw [fu] at z1 z2
    cases pending with
    | none=>exact ⟨_,R3,β,hQ,z1,z2,rfl⟩
    | some c=>
     refine wpIn_mono (hQ R3 _ β _ Fence.wide z1 (by show bY R3 s.ro Fence.wide; rw [bU]; rfl)) ?_
     rintro e a'' S8 ⟨CS,Ou,X4,UJ,BR,vy,AS⟩
     exact ⟨CS,Ou,X4,UJ,BR,z2.trans vy,AS⟩
   ·exact hQ.elim
def F0 (id:Nat) (Q:Bool→List GO→Prop):Exit→St→Prop:=fun e s=>match nth s.G id with
 | some (.loop _ _ fn sl n ps sX bd d _)=>match e with
  | .normal=>Q true (aF s.G id (.loop false none fn sl n ps sX bd d false))
  | .ret=>Q false (aF s.G id (.loop false (some .ret) fn sl n ps sX bd d true))
  | .exit i=>Q false (aF s.G id (.loop false (some (.exit i)) fn sl n ps sX bd d true))
  | _=>False
 | _=>False
def B6 (E:Env) (id:Nat) (body:Code) (Q:Bool→List GO→Prop):Exit→St→Prop:=fun e s=>match e with
 | .normal=>match nth s.G id with
  | some (.loop false p fn sl n ps sX bd d false)=>gE E body (F0 id Q) (s.cg (aF s.G id (.loop true p fn sl n ps sX bd d false)))
  | _=>False
 | _=>False
def yL:List Tmp→List AV→bj→bj
 | t :: ts,a :: l,r=>yL ts l (.put t (.v a) :: r)
 | _,_,r=>r
def St.round (id:Nat) (ae:bj) (n:Nat) (G:List GO):St:=⟨ae,[],G,[],some id,n⟩
theorem yM {R:an} {w:World} {β:Nat→Nat}:∀ {ts:List Tmp} {l:List AV} {cs:List Value} {r:bj} {tmps:Array Value},oX R w β r tmps→aQ R w l cs→l.length=ts.length→(∀ t∈ts,t < tmps.size) →
  oX R w β (yL ts l r) ((ts.zip cs).foldl (fun tmps (t,a)=>tmps.setIfInBounds t a) tmps)
 | [],[],_,_,_,h,.nil,_,_=>h
 | t :: ts,a :: l,c :: cs,r,tmps,h,.cons hx hl,hlen,ht=>by
  have fu:t < tmps.size:=ht t (by simp)
  simp only [yL,List.zip_cons_cons,List.foldl_cons]
  refine yM ?_ hl (by simpa using hlen) (fun t' h'=>by simpa using ht t' (by simp [h']))
  have:=oX.put (a:={ tmps:=tmps,defers:=[] }) h (d:=t) (x:=.v a) (c:=c) fu hx
  simpa [Act.put] using this
 | [],_ :: _,_,_,_,_,_,hlen,_=>by simp at hlen
 | _ :: _,[],_,_,_,_,_,hlen,_=>by simp at hlen
theorem F1 (l:List (Tmp × Value)):∀ tmps:Array Value,(l.foldl (fun (tmps:Array Value) (x:Tmp × Value)=>tmps.setIfInBounds x.1 x.2) tmps).size=tmps.size:=by
 induction l with
 | nil=>intro _; rfl
 | cons x l ih=>intro tmps; rw [List.foldl_cons,ih]; simp
theorem li.intro {E:Env} {id:Nat} {args:List AV} {G:List GO} {Q:Bool→List GO→Prop} {fn:FuncId} {ae:bj} {n:Nat} {ps:List Tmp} {assign body:Code} {d:Nat} {p:Option Code}
  (hG:nth G id=some (.loop false p fn ae n ps assign body d false)) (hl:args.length=ps.length) (JG:∀ t∈ps,t < n)
  (h:gE E assign (B6 E id body Q) (St.round id (yL ps args ae) n G)):li E id args G Q:=fun R w cs b hg hr hb=>by
 obtain ⟨⟨r,db,l1,l2,l3,l4,l5,l6,l7,l8,l9,l10⟩,l11⟩:=hg.obj id _ _ hG hb
 have hlen:=hr.length
 refine ⟨r,l1,by rw [l6]; simp; omega,?_⟩
 have adk:Step R w (fun _=>0) fS R w (fun _=>0) fS:=Step.refl _ _ _ _
 have adl:bo E R w (fun _=>0) (St.round id (yL ps args ae) n G) { tmps:=(r.params.zip ⟨cs⟩).foldl (fun tmps (t,a)=>tmps.setIfInBounds t a) r.tmps,defers:=[] }:=by
  have Zy:(r.params.zip ⟨cs⟩).foldl (fun (tmps:Array Value) (x:Tmp × Value)=>tmps.setIfInBounds x.1 x.2) r.tmps=(ps.zip cs).foldl (fun (tmps:Array Value) (x:Tmp × Value)=>tmps.setIfInBounds x.1 x.2) r.tmps:=by
   rw [← Array.foldl_toList]
   simp [l6]
  refine ⟨hg,⟨fun k cs hk=>?_,fun k k' c c' hk=>?_⟩,?_,?_,trivial⟩
  ·simp [St.round,dO] at hk
  ·simp [St.round,dO] at hk
  ·show oX _ _ _ _ _
   have:=yM (ts:=ps) (l:=args) (cs:=cs) l4 hr hl (fun t ht=>by rw [l5]; exact JG t ht)
   rw [← Zy] at this
   exact this
  ·show _=n
   have:=F1 (ps.zip cs) r.tmps
   rw [← Zy] at this
   exact this.trans l5
 have UF:∀ (k:Nat) (cs:List AV),dO (St.round id (yL ps args ae) n G).boxes k≠some cs:=fun k cs hk=>by simp [St.round,dO] at hk
 rw [l7,l8]
 refine roundIn_of_wpIn trivial (wpIn_mono (h R w (fun _=>0) _ (Fence.wide.inRound b) adl ⟨b,hb,rfl⟩) ?_)
 rintro e a1 w1 ⟨s1,R1,β1,hq,AN,st1,adm⟩
 unfold B6 at hq
 cases e with
 | normal=>
  simp only at hq
  split at hq
  ·rename_i p' Zs X7 n' Zt OW Yb d' hG1
   have IF:nth R1.obj id=some (.b9 b):=st1.ext.b9 hb
   obtain ⟨⟨r1,db1,m1,m2,m3,m4,m5,m6,m7,m8,m9,m10⟩,m11⟩:=AN.g.obj id _ _ hG1 IF
   refine ⟨_,run_beginRound m1 m2,?_⟩
   obtain ⟨z1,z2⟩:=AN.setObj (x':=.loop { r1 with state:=.busy }) (go':=.loop true p' Zs X7 n' Zt OW Yb d' false) IF m1 trivial trivial (fun r e=>⟨_,rfl,by cases e; exact ⟨rfl,rfl,rfl,rfl,rfl⟩⟩)
    ⟨⟨{ r1 with state:=.busy },db1,il _ _ _ (bn m1),rfl,m3,m4.mono (nS (x':=.loop { r1 with state:=.busy }) m1 trivial trivial (fun r e=>⟨_,rfl,by cases e; exact ⟨rfl,rfl,rfl,rfl,rfl⟩⟩)),m5,m6,m7,m8,m9,m10⟩,m11⟩
   refine wpIn_mono (hq R1 _ β1 a1 (Fence.wide.inRound b) z1 (by show bY R1 s1.ro _; rw [adm]; exact ⟨b,IF,rfl⟩)) ?_
   rintro e2 a2 w2 ⟨s2,R2,β2,pf,C5,st2,IR⟩
   unfold F0 at pf
   split at pf
   ·rename_i bu2 p2 fn2 sl2 n2 ps2 as2 bd2 d2 dn2 Zi
    have Zz:=(st1.trans z2).trans st2
    have AX:nth R2.obj id=some (.b9 b):=Zz.ext.b9 hb
    obtain ⟨⟨r2,db2,o1,o2,o3,o4,o5,o6,o7,o8,o9,IS⟩,rZ⟩:=C5.g.obj id _ _ Zi AX
    have fin:∀ (j:Option Code),BS E R w (fun b' G'=>G'=aF s2.G id (.loop false j fn2 sl2 n2 ps2 as2 bd2 d2 (!j.isNone))∧b'=j.isNone) (.returned (.bool j.isNone)) (w2.putObj b (.loop { r2 with state:=if j.isNone then .ready else .done,pending:=j })):=fun j=>by
     obtain ⟨y1,y2⟩:=C5.setObj (x':=.loop { r2 with state:=if j.isNone then .ready else .done,pending:=j }) (go':=.loop false j fn2 sl2 n2 ps2 as2 bd2 d2 (!j.isNone)) AX o1 trivial trivial (fun r e=>⟨_,rfl,by cases e; exact ⟨rfl,rfl,rfl,rfl,rfl⟩⟩)
      ⟨⟨{ r2 with state:=if j.isNone then .ready else .done,pending:=j },db2,il _ _ _ (bn o1),by cases j <;> rfl,rfl,o4.mono (nS (x':=.loop { r2 with state:=if j.isNone then .ready else .done,pending:=j }) o1 trivial trivial (fun r e=>⟨_,rfl,by cases e; exact ⟨rfl,rfl,rfl,rfl,rfl⟩⟩)),o5,o6,o7,o8,o9,IS⟩,rZ⟩
     exact ⟨_,_,R2,⟨rfl,rfl⟩,rfl,y1.g,xY (Zz.trans y2) UF⟩
    have mk:∀ (j:Option Code),Q j.isNone (aF s2.G id (.loop false j fn2 sl2 n2 ps2 as2 bd2 d2 (!j.isNone)))→∃ v w',(Instr.endRound b j).run E.P w2=.ok v w'∧BS E R w Q (.returned v) w':=fun j hQ=>by
     refine ⟨_,_,run_endRound j o1,?_⟩
     obtain ⟨r',G',R',⟨h1,h2⟩,h3⟩:=fin j
     subst h1; subst h2
     exact ⟨_,_,R',hQ,h3⟩
    cases e2 with
    | normal=>exact mk none pf
    | ret=>exact mk (some .ret) pf
    | exit i=>exact mk (some (.exit i)) pf
    | _=>exact pf.elim
   ·exact pf.elim
  ·exact hq.elim
 | _=>exact hq.elim
end Go.Am
namespace Go.Am
open Go
section
variable {E:Env} {R R':an} {w w':World} {β β':Nat→Nat} {s s':St} {a a':Act}
def a7 (E:Env) (g:FuncId) (args:List AV) (Q:AV→Prop):Prop:=∀ G,cB E g args G (fun r G'=>G'=G∧Q r)
theorem a7.mono {g:FuncId} {args:List AV} {Q Q':AV→Prop} (h:a7 E g args Q) (hq:∀ r,Q r→Q' r):a7 E g args Q':=
 fun G=>(h G).mono fun r _ hh=>⟨hh.1,hq r hh.2⟩
theorem a7.of {g:FuncId} {args:List AV} {p:aR} {Q:p.T→Prop} (hc:aM 0 args=true) (hp:p.under 0=true)
  (h:cB E g args [] (fun r _=>∃ y,p.dec r=some y∧Q y)):a7 E g args (fun r=>∃ y,r=p.enc y∧Q y):=fun G=>by
 refine ⟨h.1,fun R w cs hg hl=>?_⟩
 let R0:an:=⟨R.I,[]⟩
 have m0:Mv R R0 0:=⟨fun _ _ h=>h,fun _ _ h=>absurd h (Nat.not_lt_zero _)⟩
 have N7:dQ E R0 w []:=⟨rfl,fun id go ro h1 _=>by simp [nth] at h1,fun i j ri rj b h1=>by simp [R0,nth] at h1,hg.wf,fun g cs rO=>(hg.cm g cs rO).move m0 (cz _ (E.oV g cs rO)),hg.lo⟩
 have xD:aQ R0 w args cs:=hl.move m0 hc
 refine (h.2 R0 w cs N7 xD).mono fun e w' he=>?_
 cases e with
 | panicked c=>exact he.elim
 | outgrown=>exact he.elim
 | returned c=>
  obtain ⟨r,G',R1,⟨y,hy,hQ⟩,fb,OX,st⟩:=he
  have jX:∀ b,¬ Own R0 (fun _=>0) fS b:=fun b ho=>by
   obtain ⟨id,ro,h1,_⟩:=fE ho
   simp [R0,nth] at h1
  let R2:an:=⟨R1.I,R.obj⟩
  have e:Ext R w R2 w':=⟨st.ext.I,st.ext.cell,fun id ro h=>⟨ro,h,cJ.refl ro⟩,st.ext.lp⟩
  have bJ:∀ b,b < w.heap.size→w'.heap[b]?=w.heap[b]?:=fun b hb=>st.bJ b hb (jX b)
  have im:∀ b o,b < w.heap.size→R1.I b o→R.I b o:=fun b o hb hi=>st.im b o hi hb (jX b)
  have hd:=p.rK hy
  have m:Mv R1 R2 0:=⟨fun _ _ h=>h,fun _ _ h=>absurd h (Nat.not_lt_zero _)⟩
  refine ⟨p.enc y,G,R2,⟨rfl,y,rfl,hQ⟩,Rel.move m (p.dW y hp) (hd.ia _ _ _ fb),⟨hg.len,fun id go ro h1 h2=>?_,hg.inj,OX.wf,fun g cs rO=>(hg.cm g cs rO).mono e,OX.lo⟩,⟨e,st.os,st.tape,st.output,st.size,fun b hb _=>bJ b hb,fun b _ ho=>?_,fun b o hi hb _=>im b o hb hi⟩⟩
  ·refine (hg.obj id go ro h1 h2).mono e (fun b hb=>bJ b ?_) (fun b o hb hi=>im b o ?_ hi)
   ·exact (hg.obj id go ro h1 h2).lt hb
   ·exact (hg.obj id go ro h1 h2).lt hb
  ·exact ho
theorem gE.ads {c:Code} {Q Q':Exit→St→Prop} (h:gE E c (fun e s'=>aY s s'∧Q' e s') s)
  (hq:∀ e s',Q' e s'→∃ (t:cO) (v:t.ps.T),t.dec s s'=some v∧Q e (t.st s v)):gE E c Q s:=fun R w β a F hr hf=>by
 refine wpIn_mono (h R w β a F hr hf) ?_
 rintro e a' w' ⟨s',R',β',⟨hx,hq'⟩,kQ,lT,bU⟩
 obtain ⟨t,v,hd,hQ⟩:=hq e s' hq'
 obtain ⟨h1,h2⟩:=cO.AW hx hr kQ lT hd
 exact ⟨_,_,β',hQ,h1,h2,rfl⟩
theorem gE.iI {c:Code} {Q:Exit→St→Prop} {l:List (Loc × Nat × TypeId)} (hs:Am.iI l s=some s') (h:gE E c Q s'):gE E c Q s:=fun R w β a F hr hf=>by
 obtain ⟨R1,k1,k2,k3,_⟩:=lh hr hs
 refine wpIn_mono (h R1 w β a F k1 (by rw [k3]; exact hf.mono k2.ext)) ?_
 rintro e a' w' ⟨s2,R2,β2,hq,C5,st2,IR⟩
 exact ⟨s2,R2,β2,hq,C5,k2.trans st2,IR.trans k3⟩
end
end Go.Am
