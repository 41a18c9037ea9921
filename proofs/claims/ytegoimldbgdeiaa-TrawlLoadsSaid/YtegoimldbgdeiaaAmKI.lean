/- The abstract machine: what is asked of bodies; values are brought to a short form. -/
import Derived.Test.YtegoimldbgdeiaaAmKH
import Derived.RangeFuncIn
import Derived.RangeFuncRecord
import Derived.RangeFuncNested
set_option linter.all false
namespace Go.Am
open Go
def bh (dt:Nat→Option aC):Code→Bool
 | .region id ops true=>match dt id with
  | some p=>BL ops p
  | none=>false
 | .seq x y=>bh dt x&&bh dt y
 | .cond _ x y=>bh dt x&&bh dt y
 | .block _ c=>bh dt c
 | .loop c=>bh dt c
 | .scope c=>bh dt c
 | .rangeFunc _ _ a b=>bh dt a&&bh dt b
 | _=>true
structure Lz extends Env where
 dt:FuncId→Nat→Option aC
 okF:FuncId→Bool
 JN:∀ f fn c,okF f=true→P.funcs[f]?=some fn→fn.body=some c→bh (dt f) c=true
def iL {α:Type} (n:Nat) (K:Nat→α):α:=match n with
 | 0=>K 0
 | m+1=>K (Nat.succ m)
def uz {α:Type} (n:Int) (K:Int→α):α:=match n with
 | .ofNat m=>iL m fun m=>K (.ofNat m)
 | .negSucc m=>iL m fun m=>K (.negSucc m)
def nu {α β:Type}:List β→(List β→α)→α
 | [],K=>K []
 | a :: l,K=>nu l fun l=>K (a :: l)
def xV {α:Type} (v:AV) (K:AV→α):α:=match v with
 | .int k n=>uz n fun n=>K (.int k n)
 | .bool true=>K (.bool true)
 | .bool false=>K (.bool false)
 | .list k sz es=>nu es fun es=>K (.list k sz es)
 | .str l=>nu l fun l=>K (.str l)
 | .iQ id off sz len cap=>iL off fun off=>iL len fun len=>iL cap fun cap=>K (.iQ id off sz len cap)
 | .ptr id off=>iL off fun off=>K (.ptr id off)
 | .agg cs=>nu cs fun cs=>K (.agg cs)
 | v=>K v
def xW {α:Type} (l:aT) (K:aT→α):α:=match l with
 | .put d (.v a) :: l=>xV a fun a=>K (.put d (.v a) :: l)
 | .put d (.lp k off) :: l=>iL off fun off=>K (.put d (.lp k off) :: l)
 | l=>K l
def xX {α:Type} (l:cm) (K:cm→α):α:=match l with
 | (d,cs) :: l=>nu cs fun cs=>K ((d,cs) :: l)
 | []=>K []
def BM {α:Type} (s:St) (K:St→α):α:=match s with
 | ⟨sl,bx,G,m,ro,n⟩=>xW sl fun sl=>xX bx fun bx=>nu G fun G=>K ⟨sl,bx,G,m,ro,n⟩
theorem nw {α:Type} (n:Nat) (K:Nat→α):iL n K=K n:=by cases n <;> rfl
theorem zS {α:Type} (n:Int) (K:Int→α):uz n K=K n:=by cases n <;> simp [uz,nw]
theorem n5 {α β:Type}:∀ (l:List β) (K:List β→α),nu l K=K l
 | [],_=>rfl
 | a :: l,K=>by simp only [nu]; rw [n5]
theorem BN {α:Type} (v:AV) (K:AV→α):xV v K=K v:=by
 unfold xV
 split <;> simp [nw,zS,n5]
theorem BO {α:Type} (l:aT) (K:aT→α):xW l K=K l:=by
 unfold xW
 split <;> simp [nw,BN]
theorem BP {α:Type} (l:cm) (K:cm→α):xX l K=K l:=by
 unfold xX
 split <;> simp [n5]
theorem Eb {α:Type} (s:St) (K:St→α):BM s K=K s:=by
 obtain ⟨sl,bx,G,m,ro,n⟩:=s
 simp [BM,BO,BP,n5]
def xY:SV→SV→Bool
 | .v a,.v b=>dx a b
 | .lp k o,.lp k' o'=>Nat.beq k k'&&Nat.beq o o'
 | _,_=>false
def QR (E:Env) (f:FuncId) (ops:List Oper) (o:Oper) (s:St):Bool:=match yP ops s o with
 | some true=>match o.dst,ak E f s o with
  | some d,some (c,s')=>c&&xY (lk s'.ae d) (lk s.ae d)
  | _,_=>false
 | some false=>true
 | none=>false
section
variable {E:Env} {f:FuncId} {s:St}
theorem wT {a b:SV} (h:xY a b=true):a=b:=by
 unfold xY at h
 split at h
 ·rw [iF h]
 ·simp only [Bool.and_eq_true,Nat.beq_eq] at h; rw [h.1,h.2]
 ·cases h
theorem wU {ops:List Oper} {o:Oper} (h:QR E f ops o s=true):BD E f ops o s:=by
 unfold QR at h
 unfold BD
 split at h
 ·rename_i hg
  rw [hg]
  simp only
  split at h
  ·rename_i d c s' hd hs
   rw [Bool.and_eq_true] at h
   obtain ⟨rfl,h⟩:=h
   rw [hd,hs]
   exact ⟨rfl,wT h⟩
  ·cases h
 ·rename_i hg
  rw [hg]
  trivial
 ·cases h
end
end Go.Am
namespace Go.Am
open Go
mutual
def AV.under (n:Nat):AV→Bool
 | .agg cs=>aA n cs
 | .bi cs=>aA n cs
 | .ep cs=>aA n cs
 | .list (.own id) _ _=>Nat.blt id n
 | .list (.aU id _) _ _=>Nat.blt id n
 | .fn _ x y=>aA n x&&aA n y
 | .iface _ v=>v.under n
 | .ptr id _=>Nat.blt id n
 | .iQ id _ _ _ _=>Nat.blt id n
 | .dL id _ _ _ _=>Nat.blt id n
 | .gp id _ _ _ _ _=>Nat.blt id n
 | .map id=>Nat.blt id n
 | .yield id=>Nat.blt id n
 | _=>true
def aA (n:Nat):List AV→Bool
 | []=>true
 | a :: l=>a.under n&&aA n l
end
mutual
theorem gU (n:Nat):∀ {a:AV},a.closed=true→a.under n=true:=fun {a} h=>by
 cases a with
 | agg cs=>simp only [AV.closed,AV.under] at *; exact cz n h
 | bi cs=>simp only [AV.closed,AV.under] at *; exact cz n h
 | ep cs=>simp only [AV.closed,AV.under] at *; exact cz n h
 | list k sz es=>cases k <;> simp_all [AV.closed,AV.under,LK.closed]
 | fn f x y=>
  simp only [AV.closed,AV.under,Bool.and_eq_true] at *
  exact ⟨cz n h.1,cz n h.2⟩
 | iface t v=>simp only [AV.closed,AV.under] at *; exact gU n h
 | _=>simp_all [AV.closed,AV.under]
theorem cz (n:Nat):∀ {l:List AV},aN l=true→aA n l=true
 | [],_=>rfl
 | a :: l,h=>by
  simp only [aN,aA,Bool.and_eq_true] at *
  exact ⟨gU n h.1,cz n h.2⟩
end
theorem n6 {a b:Nat} (h:Nat.blt a b=true):a < b:=Nat.le_of_ble_eq_true h
mutual
theorem kX:∀ {a:AV},a.under 0=true→a.closed=true:=fun {a} h=>by
 cases a with
 | agg cs=>simp only [AV.closed,AV.under] at *; exact eC h
 | bi cs=>simp only [AV.closed,AV.under] at *; exact eC h
 | ep cs=>simp only [AV.closed,AV.under] at *; exact eC h
 | list k sz es=>cases k <;> first | rfl | (simp [AV.under] at h)
 | fn f x y=>
  simp only [AV.closed,AV.under,Bool.and_eq_true] at *
  exact ⟨eC h.1,eC h.2⟩
 | iface t v=>simp only [AV.closed,AV.under] at *; exact kX h
 | ptr id off=>simp only [AV.under] at h; exact absurd (n6 h) (Nat.not_lt_zero _)
 | iQ id off sz len cap=>simp only [AV.under] at h; exact absurd (n6 h) (Nat.not_lt_zero _)
 | dL id f off sz len=>simp only [AV.under] at h; exact absurd (n6 h) (Nat.not_lt_zero _)
 | gp id f i off sz t=>simp only [AV.under] at h; exact absurd (n6 h) (Nat.not_lt_zero _)
 | map id=>simp only [AV.under] at h; exact absurd (n6 h) (Nat.not_lt_zero _)
 | yield id=>simp only [AV.under] at h; exact absurd (n6 h) (Nat.not_lt_zero _)
 | _=>rfl
theorem eC:∀ {l:List AV},aA 0 l=true→aN l=true
 | [],_=>rfl
 | a :: l,h=>by
  simp only [aA,aN,Bool.and_eq_true] at *
  exact ⟨kX h.1,eC h.2⟩
end
section move
variable {R R2:aj} {w:World} {n:Nat}
structure Mv (R R2:aj) (n:Nat):Prop where
 I:∀ b o,R.I b o→R2.I b o
 obj:∀ id ro,id < n→nth R.obj id=some ro→nth R2.obj id=some ro
theorem jf {a b:Nat} (h:Nat.blt a b=true):a < b:=Nat.le_of_ble_eq_true h
theorem j4 {a b:Nat} (h:a < b):Nat.blt a b=true:=Nat.ble_eq_true_of_le h
theorem xu.move (m:Mv R R2 n) {k:LK} {b o len cap:Nat} (h:xu R k b o len cap) (hk:∀ id,(k=.own id∨∃ j,k=.aU id j)→id < n):xu R2 k b o len cap:=by
 cases k with
 | nil=>exact h
 | full=>exact h
 | kq=>trivial
 | own id=>obtain ⟨ro,h1,h2⟩:=h; exact ⟨ro,m.obj id ro (hk id (.inl rfl)) h1,h2⟩
 | aU id j=>obtain ⟨ro,h1,h2⟩:=h; exact ⟨ro,m.obj id ro (hk id (.inr ⟨j,rfl⟩)) h1,h2⟩
mutual
theorem Rel.move (m:Mv R R2 n):∀ {a:AV} {c:Value},a.under n=true→Rel R w a c→Rel R2 w a c
 | _,_,_,.bool b=>.bool b
 | _,_,_,.int k i=>.int k i
 | _,_,_,.str l=>.str l
 | _,_,hb,.agg h h1=>.agg (h.move m (by simpa [AV.under] using hb)) h1
 | _,_,hb,.bi h=>.bi (h.move m (by simpa [AV.under] using hb))
 | _,_,_,.lg=>.lg
 | _,_,hb,.ptr h=>.ptr (m.obj _ _ (jf (by simpa [AV.under] using hb)) h)
 | _,_,hb,.ep h=>.ep (h.move m (by simpa [AV.under] using hb))
 | _,_,_,.iE=>.iE
 | _,_,_,.hY=>.hY
 | _,_,_,.lQ=>.lQ
 | _,_,hb,.lR h ho=>.lR (m.obj _ _ (jf (by simpa [AV.under] using hb)) h) ho
 | _,_,hb,.kS h ho=>.kS (m.obj _ _ (jf (by simpa [AV.under] using hb)) h) ho
 | .list k sz es,_,hb,.list h hl hc hk=>.list (h.move m) hl hc (hk.move m fun id e=>by rcases e with e | ⟨j,e⟩ <;> subst e <;> exact jf (by simpa [AV.under] using hb))
 | _,_,hb,.iQ h hc=>.iQ (m.obj _ _ (jf (by simpa [AV.under] using hb)) h) hc
 | _,_,hb,.iW h ho=>.iW (m.obj _ _ (jf (by simpa [AV.under] using hb)) h) ho
 | _,_,hb,.dL h ho hc=>.dL (m.obj _ _ (jf (by simpa [AV.under] using hb)) h) ho hc
 | _,_,hb,.gp h ho=>.gp (m.obj _ _ (jf (by simpa [AV.under] using hb)) h) ho
 | _,_,_,.jq=>.jq
 | _,_,hb,.map h=>.map (m.obj _ _ (jf (by simpa [AV.under] using hb)) h)
 | _,_,_,.dq=>.dq
 | _,_,hb,.fn h h'=>.fn (h.move m (by simp only [AV.under,Bool.and_eq_true] at hb; exact hb.1)) (h'.move m (by simp only [AV.under,Bool.and_eq_true] at hb; exact hb.2))
 | _,_,hb,.yield h=>.yield (m.obj _ _ (jf (by simpa [AV.under] using hb)) h)
 | _,_,_,.oo=>.oo
 | _,_,hb,.iface h=>.iface (h.move m (by simpa [AV.under] using hb))
theorem aE.move (m:Mv R R2 n):∀ {l:List AV} {cs:List Value},aE R w l cs→aA n l=true→aE R2 w l cs
 | _,_,.nil,_=>.nil
 | _,_,.cons h t,hb=>by
  simp only [aA,Bool.and_eq_true] at hb
  exact .cons (h.move m hb.1) (t.move m hb.2)
theorem gd.move (m:Mv R R2 n):∀ {b o sz:Nat} {l:List AV},gd R w b o sz l→gd R2 w b o sz l
 | _,_,_,_,.nil=>.nil
 | _,_,_,_,@gd.cons _ _ _ _ _ e _ hl ht hk h t=>.cons hl ht hk (h.move m (by
   cases e with
   | agg cs=>exact cz n (show aN cs=true by simpa [AV.closed] using hk)
   | bi cs=>simp [AV.aL] at ht
   | _=>simp only [AV.cells,aA,Bool.and_true]; exact gU n hk)) (t.move m)
theorem eg.move (m:Mv R R2 n):∀ {b o:Nat} {l:List AV},eg R w b o l→aA n l=true→eg R2 w b o l
 | _,_,_,.nil,_=>.nil
 | _,_,_,.cons hc h1 hi h t,hb=>by
  simp only [aA,Bool.and_eq_true] at hb
  exact .cons hc h1 (m.I _ _ hi) (h.move m hb.1) (t.move m hb.2)
end
theorem kU.move {E:Env} (m:Mv R R2 n) {g:Nat} {cs:List AV} (h:kU E R w g cs) (hu:aA n cs=true):kU E R2 w g cs:=
 ⟨h.1.move m hu,fun hx=>⟨m.I _ _ (h.2 hx).1,(h.2 hx).2⟩⟩
mutual
theorem Rel.under (hn:R.obj.length≤n):∀ {a:AV} {c:Value},Rel R w a c→a.under n=true
 | _,_,.bool _ | _,_,.int _ _ | _,_,.str _ | _,_,.lg | _,_,.iE | _,_,.hY | _,_,.lQ | _,_,.jq | _,_,.dq | _,_,.oo=>by simp [AV.under]
 | _,_,.agg h _=>by simp only [AV.under]; exact h.under hn
 | _,_,.bi h=>by simp only [AV.under]; exact h.under hn
 | _,_,.ptr h=>by simp only [AV.under]; exact j4 (Nat.lt_of_lt_of_le (bo h) hn)
 | _,_,.ep h=>by simp only [AV.under]; exact h.under hn
 | _,_,.lR h _=>by simp only [AV.under]; exact j4 (Nat.lt_of_lt_of_le (bo h) hn)
 | _,_,.kS h _=>by simp only [AV.under]; exact j4 (Nat.lt_of_lt_of_le (bo h) hn)
 | _,_,@Rel.list _ _ k _ _ _ _ _ _ _ _ _ hk=>by
  cases k with
  | own id=>obtain ⟨ro,h1,_⟩:=hk; simp only [AV.under]; exact j4 (Nat.lt_of_lt_of_le (bo h1) hn)
  | aU id j=>obtain ⟨ro,h1,_⟩:=hk; simp only [AV.under]; exact j4 (Nat.lt_of_lt_of_le (bo h1) hn)
  | _=>simp [AV.under]
 | _,_,.iQ h _=>by simp only [AV.under]; exact j4 (Nat.lt_of_lt_of_le (bo h) hn)
 | _,_,.iW h _=>by simp only [AV.under]; exact j4 (Nat.lt_of_lt_of_le (bo h) hn)
 | _,_,.dL h _ _=>by simp only [AV.under]; exact j4 (Nat.lt_of_lt_of_le (bo h) hn)
 | _,_,.gp h _=>by simp only [AV.under]; exact j4 (Nat.lt_of_lt_of_le (bo h) hn)
 | _,_,.map h=>by simp only [AV.under]; exact j4 (Nat.lt_of_lt_of_le (bo h) hn)
 | _,_,.fn h h'=>by simp only [AV.under,Bool.and_eq_true]; exact ⟨h.under hn,h'.under hn⟩
 | _,_,.yield h=>by simp only [AV.under]; exact j4 (Nat.lt_of_lt_of_le (bo h) hn)
 | _,_,.iface h=>by simp only [AV.under]; exact h.under hn
theorem aE.under (hn:R.obj.length≤n):∀ {l:List AV} {cs:List Value},aE R w l cs→aA n l=true
 | _,_,.nil=>rfl
 | _,_,.cons h t=>by simp only [aA,Bool.and_eq_true]; exact ⟨h.under hn,t.under hn⟩
theorem eg.under (hn:R.obj.length≤n):∀ {b o:Nat} {l:List AV},eg R w b o l→aA n l=true
 | _,_,_,.nil=>rfl
 | _,_,_,.cons _ _ _ h t=>by simp only [aA,Bool.and_eq_true]; exact ⟨h.under hn,t.under hn⟩
end
end move
end Go.Am
namespace Go.Am
open Go
mutual
def ah.under (n:Nat):ah→Bool
 | .agg ps=>ps.under n
 | .bi ps=>ps.under n
 | .own id _ _=>Nat.blt id n
 | .aU id _ _=>Nat.blt id n
 | .pz v=>v.under n
 | .two u v=>u.under n&&v.under n
 | _=>true
def aD.under (n:Nat):aD→Bool
 | .nil=>true
 | .cons p ps=>p.under n&&ps.under n
end
mutual
theorem ah.cJ {n:Nat}:∀ (p:ah) (x:p.T),p.under n=true→(p.enc x).under n=true
 | .int k,x,_=>by simp [ah.enc,AV.under]
 | .bool,x,_=>by simp [ah.enc,AV.under]
 | .str,x,_=>by simp [ah.enc,AV.under]
 | .agg ps,x,h=>by
  simp only [ah.enc,AV.under]
  exact ps.cJ x h
 | .bi ps,x,h=>by
  simp only [ah.enc,AV.under]
  exact ps.cJ x h
 | .list sz p,x,_=>by simp [ah.enc,AV.under]
 | .own id sz p,x,h=>by
  simp only [ah.enc,AV.under]
  exact h
 | .aU id sz p,x,h=>by
  simp only [ah.enc,AV.under]
  exact h
 | .pz v,x,h=>by
  simp only [ah.enc]
  exact h
 | .two u v,(x:Bool),h=>by
  simp only [ah.under,Bool.and_eq_true] at h
  change AV.under n (bif x then v else u)=true
  cases x
  ·exact h.1
  ·exact h.2
theorem aD.cJ {n:Nat}:∀ (ps:aD) (x:ps.T),ps.under n=true→aA n (ps.enc x)=true
 | .nil,x,_=>rfl
 | .cons p .nil,x,h=>by
  simp only [aD.under,Bool.and_true] at h
  simp only [aD.enc,aA,Bool.and_true]
  exact p.cJ _ h
 | .cons p (.cons q ps),x,h=>by
  rw [aD.under,Bool.and_eq_true] at h
  simp only [aD.enc,aA,Bool.and_eq_true]
  exact ⟨p.cJ _ h.1,(aD.cons q ps).cJ _ h.2⟩
end
mutual
def AV.exact:AV→Bool
 | .bool _=>true
 | .int _ _=>true
 | .str _=>true
 | .agg cs=>fK cs
 | _=>false
def fK:List AV→Bool
 | []=>true
 | a :: l=>a.exact&&fK l
end
mutual
theorem ah.iM:∀ (p:ah) {a:AV},p.fits a=true→a.exact=true→p.enc (p.a8 a)=a
 | .int k,a,h,e=>by
  cases a with
  | int k' n=>have hk:NM k k'=true:=h; rw [AS hk]; rfl
  | _=>cases h
 | .bool,a,h,e=>by
  cases a with
  | bool b=>rfl
  | _=>cases h
 | .str,a,h,e=>by
  cases a with
  | str b=>rfl
  | _=>cases h
 | .agg ps,a,h,e=>by
  cases a with
  | agg cs=>
   have e':fK cs=true:=by simpa [AV.exact] using e
   show AV.agg (ps.enc (ps.a8 cs))=_
   rw [ps.iM (show ps.fits cs=true from h) e']
  | _=>cases h
 | .bi ps,a,h,e=>by cases a <;> first | (cases h; done) | simp [AV.exact] at e
 | .list sz p,a,h,e=>by cases a <;> first | (cases h; done) | simp [AV.exact] at e
 | .own id sz p,a,h,e=>by cases a <;> first | (cases h; done) | simp [AV.exact] at e
 | .aU id sz p,a,h,e=>by cases a <;> first | (cases h; done) | simp [AV.exact] at e
 | .pz u,a,h,e=>(iF (show dx a u=true from h)).symm
 | .two u v,a,h,_=>sQ h
theorem aD.iM:∀ (ps:aD) {l:List AV},ps.fits l=true→fK l=true→ps.enc (ps.a8 l)=l
 | .nil,l,h,_=>by
  cases l with
  | nil=>rfl
  | cons _ _=>cases h
 | .cons p .nil,l,h,e=>by
  cases l with
  | nil=>cases h
  | cons a l=>
   have h':(p.fits a&&l.isEmpty)=true:=h
   simp only [Bool.and_eq_true,List.isEmpty_iff] at h'
   obtain ⟨h1,rfl⟩:=h'
   simp only [fK,Bool.and_true] at e
   show [p.enc (p.a8 a)]=_
   rw [p.iM h1 e]
 | .cons p (.cons q ps),l,h,e=>by
  cases l with
  | nil=>cases h
  | cons a l=>
   have h':(p.fits a&&(aD.cons q ps).fits l)=true:=h
   rw [Bool.and_eq_true] at h'
   simp only [fK,Bool.and_eq_true] at e
   show p.enc (p.a8 a) :: (aD.cons q ps).enc ((aD.cons q ps).a8 l)=_
   rw [p.iM h'.1 e.1,(aD.cons q ps).iM h'.2 e.2]
end
mutual
theorem mo:∀ {a:AV},a.exact=true→a.closed=true:=fun {a} h=>by
 cases a with
 | agg cs=>simp only [AV.exact,AV.closed] at *; exact oI h
 | _=>simp_all [AV.exact,AV.closed]
theorem oI:∀ {l:List AV},fK l=true→aN l=true
 | [],_=>rfl
 | a :: l,h=>by
  simp only [fK,aN,Bool.and_eq_true] at *
  exact ⟨mo h.1,oI h.2⟩
end
def af:List (AV × AV)→List AV
 | []=>[]
 | (k,v) :: l=>.agg [k,v] :: af l
def Pj:AV→AV × AV
 | .agg [k,v]=>(k,v)
 | _=>(fA,fA)
def ab:List AV→List (AV × AV)
 | []=>[]
 | a :: l=>Pj a :: ab l
def AV.entries:AV→List (AV × AV)
 | .list _ _ es=>ab es
 | _=>[]
theorem mC:∀ l:List (AV × AV),ab (af l)=l
 | []=>rfl
 | (k,v) :: l=>by simp only [af,ab,mC l]; rfl
def AV.FP:AV→Bool
 | .list .kq _ es=>fK es
 | _=>false
def jg:List AV→List AV→Prop
 | [],[]=>True
 | a :: l,b :: r=>hU a b∧jg l r
 | _,_=>False
theorem jg.refl:∀ l:List AV,jg l l
 | []=>trivial
 | a :: l=>⟨hU.refl a,jg.refl l⟩
theorem jg.length:∀ {l r:List AV},jg l r→l.length=r.length
 | [],[],_=>rfl
 | _ :: _,_ :: _,h=>by simp [jg.length h.2]
 | [],_ :: _,h=>h.elim
 | _ :: _,[],h=>h.elim
theorem jg.of {α:Type} {f:AV→Bool} {d:AV→α} {g:α→AV} (Cx:∀ v,f v=true→hU v (g (d v))):∀ {es:List AV},allFit f es=true→jg es ((es.map d).map g)
 | [],_=>trivial
 | e :: es,h=>by
  simp only [allFit,Bool.and_eq_true] at h
  exact ⟨Cx e h.1,jg.of Cx h.2⟩
theorem ah.zT (p:ah) {a:AV} (h:p.fits a=true):jg a.dB (p.enc (p.a8 a)).dB:=by
 cases p with
 | list sz p=>
  cases a with
  | list k bk es=>
   have hb:((Nat.beq sz bk || es.isEmpty)&&allFit p.fits es)=true:=h
   rw [Bool.and_eq_true] at hb
   exact jg.of (fun v hv=>p.cA hv) hb.2
  | _=>cases h
 | own id sz p=>
  cases a with
  | list k bk es=>
   cases k with
   | own iR=>
    have hb:((Nat.beq id iR&&Nat.beq sz bk)&&allFit p.fits es)=true:=h
    rw [Bool.and_eq_true] at hb
    exact jg.of (fun v hv=>p.cA hv) hb.2
   | _=>cases h
  | _=>cases h
 | aU id sz p=>
  cases a with
  | list k bk es=>
   cases k with
   | aU iR j=>
    have hb:((Nat.beq id iR&&Nat.beq sz bk)&&allFit p.fits es)=true:=h
    rw [Bool.and_eq_true] at hb
    exact jg.of (fun v hv=>p.cA hv) hb.2
   | _=>cases h
  | _=>cases h
 | pz u=>rw [show a=u from iF (show dx a u=true from h)]; exact jg.refl _
 | two u v=>rw [sQ h]; exact jg.refl _
 | _=>cases a <;> first | (cases h; done) | exact jg.refl _
def EP:List AV→List AV→Prop
 | [],[]=>True
 | a :: l,b :: r=>(a.exact=true→b=a)∧(a.FP=true→b.dB=a.dB)∧jg a.dB b.dB∧EP l r
 | _,_=>False
theorem uA {f:AV→Bool} {α:Type} {d:AV→α} {g:α→AV} (Cx:∀ a,f a=true→a.exact=true→g (d a)=a):∀ {es:List AV},allFit f es=true→fK es=true→(es.map d).map g=es
 | [],_,_=>rfl
 | a :: l,h,e=>by
  simp only [allFit,fK,Bool.and_eq_true] at *
  simp only [List.map_cons,Cx a h.1 e.1,uA Cx h.2 e.2]
theorem ah.zU (p:ah) {a:AV} (h:p.fits a=true) (e:a.FP=true):(p.enc (p.a8 a)).dB=a.dB:=by
 cases a with
 | list k bk es=>
  cases k with
  | kq=>
   have e':fK es=true:=e
   cases p with
   | list sz p=>
    have hb:((Nat.beq sz bk || es.isEmpty)&&allFit p.fits es)=true:=h
    rw [Bool.and_eq_true] at hb
    show (es.map p.a8).map p.enc=_
    rw [uA (fun a=>p.iM) hb.2 e']
    rfl
   | pz u=>rw [show AV.list .kq bk es=u from iF (show dx _ u=true from h)]; rfl
   | two u v=>rw [sQ h]
   | _=>cases h
  | _=>cases e
 | _=>cases e
theorem aD.FQ:∀ (ps:aD) {l:List AV},ps.fits l=true→EP l (ps.enc (ps.a8 l))
 | .nil,l,h=>by
  cases l with
  | nil=>trivial
  | cons _ _=>cases h
 | .cons p .nil,l,h=>by
  cases l with
  | nil=>cases h
  | cons a l=>
   have h':(p.fits a&&l.isEmpty)=true:=h
   simp only [Bool.and_eq_true,List.isEmpty_iff] at h'
   obtain ⟨h1,rfl⟩:=h'
   exact ⟨p.iM h1,p.zU h1,p.zT h1,trivial⟩
 | .cons p (.cons q ps),l,h=>by
  cases l with
  | nil=>cases h
  | cons a l=>
   have h':(p.fits a&&(aD.cons q ps).fits l)=true:=h
   rw [Bool.and_eq_true] at h'
   exact ⟨p.iM h'.1,p.zU h'.1,p.zT h'.1,(aD.cons q ps).FQ h'.2⟩
theorem EP.split:∀ {l r l':List AV},EP (l++r) l'→∃ a b,l'=a++b∧EP l a∧EP r b∧a.length=l.length
 | [],r,l',h=>⟨[],l',rfl,trivial,h,rfl⟩
 | x :: l,r,[],h=>h.elim
 | x :: l,r,y :: l',h=>by
  obtain ⟨a,b,rfl,h2,h3,h4⟩:=EP.split (l:=l) (r:=r) (l':=l') h.2.2.2
  exact ⟨y :: a,b,rfl,⟨h.1,h.2.1,h.2.2.1,h2⟩,h3,by simp [h4]⟩
mutual
def AV.uB (L:Nat→Nat):AV→AV
 | .dL id 0 0 sz 0=>.dL id (L id) 0 sz (L id)
 | .fn f x y=>.fn f (FR L x) (FR L y)
 | v=>v
def FR (L:Nat→Nat):List AV→List AV
 | []=>[]
 | a :: l=>a.uB L :: FR L l
end
mutual
def ah.inst (L:Nat→Nat):ah→ah
 | .agg ps=>.agg (ps.inst L)
 | .bi ps=>.bi (ps.inst L)
 | .pz v=>.pz (v.uB L)
 | p=>p
def aD.inst (L:Nat→Nat):aD→aD
 | .nil=>.nil
 | .cons p ps=>.cons (p.inst L) (ps.inst L)
end
mutual
def ah.j5 (L:Nat→Nat):(p:ah)→p.T→AV
 | .int k,(n:Int)=>.int k n
 | .bool,(b:Bool)=>.bool b
 | .str,(s:List UInt8)=>.str s
 | .agg ps,x=>.agg (ps.j5 L x)
 | .bi ps,x=>.bi (ps.j5 L x)
 | .list sz p,(xs:List p.T)=>.list .kq sz (xs.map p.enc)
 | .own id sz p,(xs:List p.T)=>.list (.own id) sz (xs.map p.enc)
 | .aU id sz p,(x:Nat × List p.T)=>.list (.aU id x.1) sz (x.2.map p.enc)
 | .pz v,_=>v.uB L
 | .two u v,(b:Bool)=>bif b then v else u
def aD.j5 (L:Nat→Nat):(ps:aD)→ps.T→List AV
 | .nil,_=>[]
 | .cons p .nil,x=>[p.j5 L x]
 | .cons p (.cons q ps),x=>p.j5 L x.1 :: (aD.cons q ps).j5 L x.2
end
mutual
def ah.lB (L:Nat→Nat):ah→AV→Bool
 | .int k,v=>ah.fits (.int k) v
 | .bool,v=>ah.fits .bool v
 | .str,v=>ah.fits .str v
 | .agg ps,v=>match v with
  | .agg cs=>ps.lB L cs
  | _=>false
 | .bi ps,v=>match v with
  | .bi cs=>ps.lB L cs
  | _=>false
 | .list sz p,v=>ah.fits (.list sz p) v
 | .own id sz p,v=>ah.fits (.own id sz p) v
 | .aU id sz p,v=>ah.fits (.aU id sz p) v
 | .pz v,u=>dx u (v.uB L)
 | .two u v,a=>ah.fits (.two u v) a
def aD.lB (L:Nat→Nat):aD→List AV→Bool
 | .nil,l=>l.isEmpty
 | .cons p ps,l=>match l with
  | a :: l=>p.lB L a&&ps.lB L l
  | []=>false
end
def aD.Ec (L:Nat→Nat) (ps:aD) (l:List AV):Option ps.T:=bif ps.lB L l then some (ps.a8 l) else none
mutual
theorem ah.il (L:Nat→Nat):∀ (p:ah) (a:AV),p.lB L a=(p.inst L).fits a
 | .int _,_=>rfl
 | .bool,_=>rfl
 | .str,_=>rfl
 | .agg ps,a=>by
  simp only [ah.lB,ah.inst,ah.fits]
  cases a <;> first | rfl | exact ps.il L _
 | .bi ps,a=>by
  simp only [ah.lB,ah.inst,ah.fits]
  cases a <;> first | rfl | exact ps.il L _
 | .list _ _,_=>rfl
 | .own _ _ _,_=>rfl
 | .aU _ _ _,_=>rfl
 | .pz _,_=>rfl
 | .two _ _,_=>rfl
theorem aD.il (L:Nat→Nat):∀ (ps:aD) (l:List AV),ps.lB L l=(ps.inst L).fits l
 | .nil,_=>rfl
 | .cons p ps,l=>by
  cases l with
  | nil=>rfl
  | cons a l=>
   simp only [aD.lB,aD.inst,aD.fits]
   rw [p.il L a,ps.il L l]
end
mutual
theorem ah.gF (L:Nat→Nat):∀ (p:ah) (a:AV),p.j5 L (p.a8 a)=(p.inst L).enc ((p.inst L).a8 a)
 | .int _,_=>rfl
 | .bool,_=>rfl
 | .str,_=>rfl
 | .agg ps,a=>congrArg AV.agg (ps.gF L a.iT)
 | .bi ps,a=>congrArg AV.bi (ps.gF L a.KG)
 | .list _ _,_=>rfl
 | .own _ _ _,_=>rfl
 | .aU _ _ _,_=>rfl
 | .pz _,_=>rfl
 | .two _ _,_=>rfl
theorem aD.gF (L:Nat→Nat):∀ (ps:aD) (l:List AV),ps.j5 L (ps.a8 l)=(ps.inst L).enc ((ps.inst L).a8 l)
 | .nil,_=>rfl
 | .cons p .nil,l=>by
  show [p.j5 L (p.a8 (dN l))]=[(p.inst L).enc ((p.inst L).a8 (dN l))]
  rw [p.gF L]
 | .cons p (.cons q ps),l=>by
  show p.j5 L (p.a8 (dN l)) :: (aD.cons q ps).j5 L ((aD.cons q ps).a8 (ER l))=(p.inst L).enc ((p.inst L).a8 (dN l)) :: ((aD.cons q ps).inst L).enc (((aD.cons q ps).inst L).a8 (ER l))
  rw [p.gF L,(aD.cons q ps).gF L]
end
mutual
theorem AV.uC {n:Nat} (L:Nat→Nat):∀ {a:AV},a.under n=true→(a.uB L).under n=true:=fun {a} h=>by
 cases a with
 | dL id f off sz len=>
  unfold AV.uB
  split
  ·rename_i h1
   cases h1
   exact h
  ·rename_i h1
   cases h1
  ·exact h
 | fn f x y=>
  simp only [AV.uB,AV.under,Bool.and_eq_true] at *
  exact ⟨pi L h.1,pi L h.2⟩
 | _=>exact h
theorem pi {n:Nat} (L:Nat→Nat):∀ {l:List AV},aA n l=true→aA n (FR L l)=true
 | [],_=>rfl
 | a :: l,h=>by
  simp only [FR,aA,Bool.and_eq_true] at *
  exact ⟨AV.uC L h.1,pi L h.2⟩
end
mutual
theorem ah.iq {n:Nat} (L:Nat→Nat):∀ {p:ah},p.under n=true→(p.inst L).under n=true
 | .int _,_=>rfl
 | .bool,_=>rfl
 | .str,_=>rfl
 | .agg ps,h=>aD.iq L (ps:=ps) h
 | .bi ps,h=>aD.iq L (ps:=ps) h
 | .list _ _,_=>rfl
 | .own _ _ _,h=>h
 | .aU _ _ _,h=>h
 | .pz v,h=>AV.uC L (a:=v) h
 | .two _ _,h=>h
theorem aD.iq {n:Nat} (L:Nat→Nat):∀ {ps:aD},ps.under n=true→(ps.inst L).under n=true
 | .nil,_=>rfl
 | .cons p ps,h=>by
  simp only [aD.inst,aD.under,Bool.and_eq_true] at *
  exact ⟨ah.iq L h.1,aD.iq L h.2⟩
end
theorem AV.wV (L:Nat→Nat) (v:AV):(v.uB L).dB=v.dB:=by
 unfold AV.uB
 split <;> rfl
def mE:List AV→List AV→Prop
 | [],[]=>True
 | a :: l,b :: r=>a.dB.length=b.dB.length∧mE l r
 | _,_=>False
theorem ah.ny (L L':Nat→Nat) (p:ah) (x:p.T):(p.j5 L x).dB=(p.j5 L' x).dB:=by
 cases p with
 | pz v=>
  show (v.uB L).dB=(v.uB L').dB
  rw [AV.wV,AV.wV]
 | _=>rfl
theorem aD.ny (L L':Nat→Nat):∀ (ps:aD) (x:ps.T),mE (ps.j5 L x) (ps.j5 L' x)
 | .nil,_=>trivial
 | .cons p .nil,x=>⟨congrArg List.length (p.ny L L' x),trivial⟩
 | .cons p (.cons q ps),x=>⟨congrArg List.length (p.ny L L' x.1),(aD.cons q ps).ny L L' x.2⟩
theorem EP.Pk:∀ {l r:List AV},EP l r→mE l r
 | [],[],_=>trivial
 | _ :: _,_ :: _,h=>⟨h.2.2.1.length,h.2.2.2.Pk⟩
 | [],_ :: _,h=>h.elim
 | _ :: _,[],h=>h.elim
theorem mE.trans:∀ {l r u:List AV},mE l r→mE r u→mE l u
 | [],[],[],_,_=>trivial
 | _ :: _,_ :: _,_ :: _,h,k=>⟨h.1.trans k.1,h.2.trans k.2⟩
 | [],_ :: _,_,h,_=>h.elim
 | _ :: _,[],_,h,_=>h.elim
 | [],[],_ :: _,_,k=>k.elim
 | _ :: _,_ :: _,[],_,k=>k.elim
theorem mE.drop:∀ {l r:List AV} (n:Nat),mE l r→mE (l.drop n) (r.drop n)
 | l,r,0,h=>by simpa using h
 | [],[],_+1,_=>by simp [mE]
 | _ :: _,_ :: _,n+1,h=>by simpa using mE.drop n h.2
 | [],_ :: _,_+1,h=>h.elim
 | _ :: _,[],_+1,h=>h.elim
theorem aD.H5 (L:Nat→Nat) (ps:aD) {l:List AV} {x:ps.T} (h:ps.Ec L l=some x):cg l (ps.j5 L x)∧EP l (ps.j5 L x):=by
 unfold aD.Ec at h
 cases hf:ps.lB L l with
 | true=>
  rw [hf] at h
  cases h
  rw [ps.gF L]
  rw [ps.il L] at hf
  have hd:(ps.inst L).dec l=some ((ps.inst L).a8 l):=by unfold aD.dec; rw [hf]; rfl
  exact ⟨((ps.inst L).oU hd).1,(ps.inst L).FQ hf⟩
 | false=>rw [hf] at h; cases h
theorem aD.BQ {n:Nat} (L:Nat→Nat) (ps:aD) (hp:ps.under n=true) (l:List AV):aA n (ps.j5 L (ps.a8 l))=true:=by
 rw [ps.gF L]
 exact (ps.inst L).cJ _ (aD.iq L hp)
theorem aD.Ed (L:Nat→Nat) (ps:aD) {l:List AV} {x:ps.T} (h:ps.Ec L l=some x):x=ps.a8 l:=by
 unfold aD.Ec at h
 cases hf:ps.lB L l with
 | true=>rw [hf] at h; cases h; rfl
 | false=>rw [hf] at h; cases h
end Go.Am
namespace Go.Am
open Go
inductive AI
 | open_
 | busy
 | ret
 | ex (i:Nat)
def AI.is:AI→Bool→Option Code→Bool→Bool
 | .open_,false,none,false=>true
 | .busy,true,none,false=>true
 | .ret,false,some .ret,true=>true
 | .ex i,false,some (.exit j),true=>Nat.beq i j
 | _,_,_,_=>false
def AI.b:AI→Bool
 | .busy=>true
 | _=>false
def AI.p:AI→Option Code
 | .ret=>some .ret
 | .ex i=>some (.exit i)
 | _=>none
def AI.d:AI→Bool
 | .ret=>true
 | .ex _=>true
 | _=>false
theorem AI.CX {k:AI} {b:Bool} {p:Option Code} {d:Bool} (h:k.is b p d=true):b=k.b∧p=k.p∧d=k.d:=by
 unfold AI.is at h
 split at h <;> first | exact ⟨rfl,rfl,rfl⟩ | (cases h; done) | skip
 rw [Nat.eq_of_beq_eq_true h]
 exact ⟨rfl,rfl,rfl⟩
inductive GL
 | row (n:Nat)
 | tok (loc sz:Nat) (e:TypeId)
 | dead
 | lp (k:AI)
 | aW
 | map
 | AJ
 | du (sz:Nat) (e:TypeId)
 | aU (sz:Nat) (e:TypeId)
 | qk
 | gN (oP:Nat)
def aS (fs:List Nat):List AV:=fs.map fun n:Nat=>.int .i64 n
def aq (l:List AV):List Nat:=l.map fun a=>a.oQ.toNat
theorem r9 (fs:List Nat):aq (aS fs)=fs:=by
 induction fs with
 | nil=>rfl
 | cons n fs ih=>
  show (AV.int .i64 n).oQ.toNat :: aq (aS fs)=n :: fs
  rw [ih]
  simp [AV.oQ]
theorem uD (fs:List Nat):fK (aS fs)=true:=by
 induction fs with
 | nil=>rfl
 | cons n fs ih=>exact ih
def LA (k:AI):GO→GO→Bool
 | .loop _ _ _ _ _ _ _ _ _ _,.loop b p _ _ _ _ _ _ _ d=>k.is b p d
 | _,_=>false
def JO (k:AI):GO→GO
 | .loop _ _ fn sl n ps pf bd d _=>.loop k.b k.p fn sl n ps pf bd d k.d
 | _=>.dead
def aH (es:List (AV × AV)):Bool:=fK (af es)
def xZ:GO→GO→Bool
 | .tok f sz e,.tok f' bk e'=>decide (f'=f)&&(Nat.beq bk sz&&Nat.beq e' e)
 | .defers a,.defers b=>match a,b with
  | true,true=>true
  | false,false=>true
  | _,_=>false
 | .dead,_=>true
 | _,_=>false
structure bU where
 ps:aD
 sl:List Tmp
 W:List Tmp
 bx:List (Nat × Nat)
 g:List GL
 N3:List (Tmp × Nat × Nat)
def uE (ae:aT):List Tmp→Option (List AV)
 | []=>some []
 | t :: l=>match lk ae t with
  | .v a=>match uE ae l with
   | some r=>some (a :: r)
   | none=>none
  | _=>none
def uF (bx:cm):List (Nat × Nat)→Option (List AV)
 | []=>some []
 | (k,n) :: l=>match de bx k with
  | some cs=>match uF bx l with
   | some r=>bif Nat.beq cs.length n then some (cs++r) else none
   | none=>none
  | none=>none
def jx:List GL→List GO→Option (List AV)
 | [],_=>some []
 | .row n :: l,.row cs _ :: G=>match jx l G with
  | some r=>bif Nat.beq cs.length n then some (cs++r) else none
  | none=>none
 | .tok _ sz e :: l,.tok _ bk e' :: G=>bif Nat.beq sz bk&&Nat.beq e e' then jx l G else none
 | .dead :: l,_ :: G=>jx l G
 | .lp _ :: l,_ :: G=>jx l G
 | .aW :: l,_ :: G=>jx l G
 | .map :: l,.map es :: G=>match jx l G with
  | some r=>some (.list .kq 2 (af es) :: r)
  | none=>none
 | .AJ :: l,.fU s pos :: G=>match jx l G with
  | some r=>some (.str s :: .int .i64 pos :: r)
  | none=>none
 | .du sz e :: l,.du es bk e' :: G=>match jx l G with
  | some r=>bif Nat.beq sz bk&&Nat.beq e e' then some (.list .kq bk es :: r) else none
  | none=>none
 | .aU sz e :: l,.aU fs bk e' :: G=>match jx l G with
  | some r=>bif Nat.beq sz bk&&Nat.beq e e' then some (.list .kq 1 (aS fs) :: r) else none
  | none=>none
 | .qk :: l,.map es :: G=>match jx l G with
  | some r=>some (.list .kq 2 (af es) :: r)
  | none=>none
 | .gN oP :: l,.gN mid' n left _ _ :: G=>match jx l G with
  | some r=>bif Nat.beq oP mid' then some (.int .i64 n :: .list .kq 1 (aS left) :: r) else none
  | none=>none
 | _,_=>none
def FT (vs:List AV) (loc:Nat):Nat:=match nth vs loc with
 | some (.list _ _ es)=>es.length
 | _=>0
def JP:GO→GO→Bool
 | .row _ e,.row _ e'=>Nat.beq e e'
 | _,_=>false
def JQ:GO→GO→Bool
 | .gN _ _ _ _ t,.gN _ _ _ _ t'=>Nat.beq t t'
 | _,_=>false
def Pl:GO→TypeId
 | .gN _ _ _ _ t=>t
 | _=>0
def Pm:GO→TypeId
 | .row _ e=>e
 | _=>0
def dc (vs:List AV):List GL→List GO→List GO→Bool
 | [],_,_=>true
 | .tok loc _ _ :: l,_ :: B,.tok f _ _ :: G=>decide (f=FT vs loc)&&dc vs l B G
 | .tok _ _ _ :: _,_,_=>false
 | .lp k :: l,o :: B,o' :: G=>LA k o o'&&dc vs l B G
 | .aW :: l,o :: B,o' :: G=>xZ o o'&&dc vs l B G
 | .row _ :: l,b :: B,g :: G=>JP b g&&dc vs l B G
 | .map :: l,_ :: B,.map es :: G=>aH es&&dc vs l B G
 | .map :: _,_,_=>false
 | .AJ :: l,_ :: B,_ :: G=>dc vs l B G
 | .du _ _ :: l,_ :: B,_ :: G=>dc vs l B G
 | .aU _ _ :: l,_ :: B,_ :: G=>dc vs l B G
 | .qk :: l,_ :: B,_ :: G=>dc vs l B G
 | .gN _ :: l,b :: B,g :: G=>JQ b g&&dc vs l B G
 | .dead :: l,_ :: B,_ :: G=>dc vs l B G
 | _,_,_=>false
def nA:List Tmp→List AV→aT→aT
 | t :: ts,a :: l,r=>.put t (.v a) :: nA ts l r
 | _,_,r=>r
def nB:List (Tmp × Nat × Nat)→aT→aT
 | (t,k,o) :: l,r=>.put t (.lp k o) :: nB l r
 | [],r=>r
def CY (ae:aT):List (Tmp × Nat × Nat)→Bool
 | []=>true
 | (t,k,o) :: l=>(match lk ae t with
  | .lp k' o'=>Nat.beq k' k&&Nat.beq o' o
  | _=>false)&&CY ae l
def uG:List Tmp→aT→aT
 | t :: ts,r=>.put t .none :: uG ts r
 | [],r=>r
def sa:List (Nat × Nat)→List AV→cm→cm
 | (k,n) :: r,l,b=>(k,l.take n) :: sa r (l.drop n) b
 | [],_,b=>b
def cV (vs:List AV):List GL→List GO→List AV→List GO
 | .row n :: r,B,l=>.row (l.take n) (Pm (B.headD .dead)) :: cV vs r B.tail (l.drop n)
 | .tok loc sz e :: r,B,l=>.tok (FT vs loc) sz e :: cV vs r B.tail l
 | .dead :: r,B,l=>.dead :: cV vs r B.tail l
 | .lp k :: r,B,l=>JO k (B.headD .dead) :: cV vs r B.tail l
 | .aW :: r,B,l=>B.headD .dead :: cV vs r B.tail l
 | .map :: r,B,l=>.map (AV.entries (dN l)) :: cV vs r B.tail l.tail
 | .AJ :: r,B,l=>.fU (AV.KH (dN l)) (AV.oQ (dN l.tail)).toNat :: cV vs r B.tail l.tail.tail
 | .du sz e :: r,B,l=>.du (AV.dB (dN l)) sz e :: cV vs r B.tail l.tail
 | .aU sz e :: r,B,l=>.aU (aq (AV.dB (dN l))) sz e :: cV vs r B.tail l.tail
 | .qk :: r,B,l=>.map (AV.entries (dN l)) :: cV vs r B.tail l.tail
 | .gN oP :: r,B,l=>.gN oP (AV.oQ (dN l)).toNat (aq (AV.dB (dN l.tail))) none (Pl (B.headD .dead)) :: cV vs r B.tail l.tail.tail
 | [],_,_=>[]
def yd:List (Nat × Nat)→Nat
 | []=>0
 | (_,n) :: l=>n+yd l
def j6:List GL→List AV→Nat→Nat
 | [],_,_=>0
 | .du _ _ :: r,l,i=>match i with
  | 0=>(AV.dB (dN l)).length
  | i+1=>j6 r l.tail i
 | .row n :: r,l,i=>match i with
  | 0=>0
  | i+1=>j6 r (l.drop n) i
 | .map :: r,l,i=>match i with
  | 0=>0
  | i+1=>j6 r l.tail i
 | .AJ :: r,l,i=>match i with
  | 0=>0
  | i+1=>j6 r l.tail.tail i
 | .aU _ _ :: r,l,i=>match i with
  | 0=>0
  | i+1=>j6 r l.tail i
 | .qk :: r,l,i=>match i with
  | 0=>0
  | i+1=>j6 r l.tail i
 | .gN _ :: r,l,i=>match i with
  | 0=>0
  | i+1=>j6 r l.tail.tail i
 | _ :: r,l,i=>match i with
  | 0=>0
  | i+1=>j6 r l i
def bU.ow (t:bU) (v:t.ps.T):List AV:=t.ps.j5 (j6 t.g (((t.ps.j5 (fun _=>0) v).drop t.sl.length).drop (yd t.bx))) v
def bU.st (t:bU) (s:St) (v:t.ps.T):St:=
 ⟨nB t.N3 (nA t.sl (t.ow v) (uG t.W s.ae)),sa t.bx ((t.ow v).drop t.sl.length) s.boxes,cV (t.ow v) t.g s.G (((t.ow v).drop t.sl.length).drop (yd t.bx)),s.marks,s.ro,s.n⟩
def Ht:List Nat→Nat→Bool
 | [],_=>false
 | a :: l,n=>Nat.beq a n || Ht l n
def N4 (l:List Tmp) (W:List Tmp) (n:Nat):Bool:=Ht l n || Ht W n
def vO (d:Nat) (l W:List Tmp):aT→Bool
 | []=>true
 | .put t (.lp k _) :: r=>(!(Nat.beq k d) || N4 l W t)&&vO d l W r
 | _ :: r=>vO d l W r
def rq (l W:List Tmp) (base:aT):aT→Bool
 | []=>true
 | .put d _ :: r=>N4 l W d&&rq l W base r
 | .kill d :: r=>vO d l W base&&rq l W base r
def sr:List (Nat × Nat)→Nat→Bool
 | [],_=>false
 | (a,_) :: l,n=>Nat.beq a n || sr l n
def sX (l:List (Nat × Nat)) (base:cm):cm→Bool
 | []=>true
 | (k,_) :: r=>(sr l k || (de base k).isNone)&&sX l base r
def H6:List Nat→List Nat→Bool
 | [],[]=>true
 | a :: l,b :: r=>Nat.beq a b&&H6 l r
 | _,_=>false
def ah.T8 (n:Nat):ah→Bool
 | .list _ p=>p.under n
 | _=>false
def aD.flags (n:Nat):aD→List Bool
 | .nil=>[]
 | .cons p ps=>p.T8 n :: ps.flags n
def j7:List GL→List Bool→Bool
 | [],_=>true
 | .du _ _ :: r,f :: l=>f&&j7 r l
 | .du _ _ :: _,[]=>false
 | .row n :: r,l=>j7 r (fg n l)
 | .map :: r,l=>j7 r (fg 1 l)
 | .AJ :: r,l=>j7 r (fg 2 l)
 | .aU _ _ :: r,l=>j7 r (fg 1 l)
 | .qk :: r,f :: l=>f&&j7 r l
 | .qk :: _,[]=>false
 | .gN _ :: r,l=>j7 r (fg 2 l)
 | _ :: r,l=>j7 r l
def FU (n:Nat):List GL→Bool
 | []=>true
 | .gN oP :: r=>Nat.blt oP n&&FU n r
 | _ :: r=>FU n r
def bU.ok (t:bU) (s s':St):Bool:=
 rq t.sl t.W s.ae (s'.ae.take (s'.ae.length - s.ae.length))&&sX t.bx s.boxes (s'.boxes.take (s'.boxes.length - s.boxes.length)) &&
  H6 s'.marks s.marks&&Nat.beq t.g.length s.G.length&&(t.ps.under s.G.length&&(j7 t.g (fg (yd t.bx) (fg t.sl.length (t.ps.flags s.G.length)))&&FU s.G.length t.g))&&CY s'.ae t.N3
def bU.dec (t:bU) (s s':St):Option t.ps.T:=
 bif t.ok s s' then
  match uE s'.ae t.sl,uF s'.boxes t.bx,jx t.g s'.G with
  | some a,some b,some c=>(t.ps.Ec (j6 t.g c) (a++(b++c))).bind fun v=>bif dc (t.ow v) t.g s.G s'.G then some v else none
  | _,_,_=>none
 else none
theorem ye {l:List Nat} {n:Nat}:Ht l n=true↔n∈l:=by
 induction l with
 | nil=>simp [Ht]
 | cons a l ih=>
  simp only [Ht,Bool.or_eq_true,Nat.beq_eq,ih,List.mem_cons]
  constructor
  ·rintro (h | h)
   ·exact .inl h.symm
   ·exact .inr h
  ·rintro (h | h)
   ·exact .inl h.symm
   ·exact .inr h
theorem CZ:∀ {a b:List Nat},H6 a b=true→a=b
 | [],[],_=>rfl
 | a :: l,b :: r,h=>by
  simp only [H6,Bool.and_eq_true,Nat.beq_eq] at h
  rw [h.1,CZ h.2]
 | [],_ :: _,h=>by cases h
 | _ :: _,[],h=>by cases h
theorem yf {d:Nat} {l W:List Tmp} {t off:Nat}:∀ {base:aT},vO d l W base=true→lk base t=.lp d off→N4 l W t=true
 | [],_,h=>by simp [lk] at h
 | .put t' x :: r,hn,h=>by
  by_cases e:t'=t
  ·subst e
   rw [aw] at h
   subst h
   simp only [vO,Nat.beq_refl,Bool.not_true,Bool.false_or,Bool.and_eq_true] at hn
   exact hn.1
  ·rw [aG e] at h
   refine yf (base:=r) ?_ h
   cases x <;> simp only [vO,Bool.and_eq_true] at hn
   ·exact hn
   ·exact hn
   ·exact hn.2
 | .kill d' :: r,hn,h=>by
  rcases Cw (l:=r) (d:=d') (t:=t) with ⟨h1,_⟩ | h1
  ·rw [h1] at h
   exact yf (base:=r) hn h
  ·rw [h1] at h
   cases h
theorem yg {l W:List Tmp} {base:aT} {t:Nat} (ht:N4 l W t=false):∀ {pre:aT},rq l W base pre=true→lk (pre++base) t=lk base t
 | [],_=>rfl
 | .put d x :: r,h=>by
  simp only [rq,Bool.and_eq_true] at h
  have cr:d≠t:=fun e=>by rw [e,ht] at h; exact absurd h.1 (by simp)
  rw [List.cons_append,aG cr]
  exact yg ht h.2
 | .kill d :: r,h=>by
  simp only [rq,Bool.and_eq_true] at h
  have ih:=yg ht h.2
  simp only [List.cons_append,lk,ih]
  cases hb:lk base t with
  | lp k off=>
   by_cases e:k=d
   ·subst e
    have:=yf h.1 hb
    rw [ht] at this
    cases this
   ·simp [lS e]
  | _=>rfl
theorem zV {l:List (Nat × Nat)} {base:cm} {k:Nat} {cs:List AV} (hk:sr l k=false) (hb:de base k=some cs):∀ {pre:cm},sX l base pre=true→de (pre++base) k=some cs
 | [],_=>hb
 | (d,x) :: r,h=>by
  simp only [sX,Bool.and_eq_true] at h
  have cr:d≠k:=fun e=>by
   rw [e,hk,hb] at h
   exact absurd h.1 (by simp)
  rw [List.cons_append,de,lS cr]
  exact zV hk hb h.2
theorem zW {α:Type} (pre base:List α):(pre++base).take ((pre++base).length - base.length)=pre:=by
 rw [List.length_append,Nat.add_sub_cancel,List.take_left]
def aj.cut (R:aj) (n:Nat):aj:=⟨R.I,R.obj.take n⟩
theorem jy {R:aj} {n id:Nat} {ro:RO}:nth (R.cut n).obj id=some ro↔id < n∧nth R.obj id=some ro:=by
 simp only [aj.cut,aR,List.getElem?_take]
 split
 ·simp_all
 ·simp_all
  omega
theorem nC (R:aj) (n:Nat):Mv R (R.cut n) n:=⟨fun _ _ h=>h,fun _ _ hl h=>jy.2 ⟨hl,h⟩⟩
section xQ
variable {E:Env} {R R':aj} {w w':World} {β β':Nat→Nat} {s s':St} {a a':Act}
def uH (R:aj) (w:World) (β:Nat→Nat) (K:Nat→Prop) (ae:aT) (tmps:Array Value):Prop:=
 ∀ i,¬ K i→lk ae i≠.none→∃ c,tmps[i]?=some c∧ou R w β (lk ae i) c
theorem uI {tmps:Array Value} {base:aT}:∀ {W:List Tmp} {K:Nat→Prop},uH R w β (fun i=>i∈W∨K i) base tmps→uH R w β K (uG W base) tmps
 | [],K,h=>fun i hi hn=>h i (by simpa using hi) hn
 | t :: W,K,h=>fun i hi hn=>by
  have ih:uH R w β (fun i=>i=t∨K i) (uG W base) tmps:=uI (W:=W) (fun j hj=>h j (fun hc=>hj (by
   rcases hc with hc | hc
   ·rcases List.mem_cons.1 hc with hc | hc
    ·exact .inr (.inl hc)
    ·exact .inl hc
   ·exact .inr (.inr hc))))
  simp only [uG] at hn ⊢
  by_cases e:t=i
  ·subst e
   rw [aw] at hn
   exact absurd rfl hn
  ·rw [aG e] at hn ⊢
   exact ih i (by simp; exact ⟨fun e'=>e e'.symm,hi⟩) hn
theorem sb {n:Nat} (m:Mv R' R n) {tmps:Array Value} {ae:aT} (hT:mM R' w β ae tmps) {base:aT}:∀ {ts:List Tmp} {K:Nat→Prop} {l l' r r':List AV},uE ae ts=some l→cg (l++r) (l'++r')→l.length=l'.length→aA n l'=true →
  uH R w β (fun i=>i∈ts∨K i) base tmps→uH R w β K (nA ts (l'++r') base) tmps
 | [],K,l,l',r,r',_,_,_,_,h=>fun i hi hn=>by
  have e:nA [] (l'++r') base=base:=rfl
  rw [e] at hn ⊢
  exact h i (by simpa using hi) hn
 | t :: ts,K,l,l',r,r',hg,hw,hl,hu,h=>by
  unfold uE at hg
  split at hg
  ·rename_i a ha
   split at hg
   ·rename_i l0 sx
    cases hg
    cases l' with
    | nil=>simp at hl
    | cons b l'=>
     simp only [List.cons_append,cg] at hw
     simp only [aA,Bool.and_eq_true] at hu
     have ih:uH R w β (fun i=>i=t∨K i) (nA ts (l'++r') base) tmps:=sb m hT sx hw.2 (by simpa using hl) hu.2 (fun j hj=>h j (fun hc=>hj (by
      rcases hc with hc | hc
      ·rcases List.mem_cons.1 hc with hc | hc
       ·exact .inr (.inl hc)
       ·exact .inl hc
      ·exact .inr (.inr hc))))
     intro i hi hn
     simp only [nA,List.cons_append] at hn ⊢
     by_cases e:t=i
     ·subst e
      rw [aw] at hn ⊢
      obtain ⟨c,h1,h2⟩:=hT t (by rw [ha]; simp)
      rw [ha] at h2
      exact ⟨c,h1,Rel.move m hu.1 (hw.1 _ _ _ h2)⟩
     ·rw [aG e] at hn ⊢
      exact ih i (by simp; exact ⟨fun e'=>e e'.symm,hi⟩) hn
   ·cases hg
  ·cases hg
def uJ (R:aj) (w:World) (β:Nat→Nat) (k:Nat) (cs:List AV):Prop:=
 (∃ vs el,w.heap[β k]?=some (.cells ⟨vs⟩ el (0,0))∧aE R w cs vs∧(∀ v∈vs,v.oneCell'=true))∧(∀ o,¬ R.I (β k) o)∧¬ Live R (β k)
theorem zX {R:aj} {n b:Nat} (h:Live (R.cut n) b):Live R b:=by
 obtain ⟨id,ro,h1,h2⟩:=h
 exact ⟨id,ro,(jy.1 h1).2,h2⟩
theorem uJ.cut {n k:Nat} {cs eM:List AV} (h:uJ R w β k cs) (hw:cg cs eM) (hu:aA n eM=true):uJ (R.cut n) w β k eM:=by
 obtain ⟨⟨vs,el,h1,h2,h3⟩,h4,h5⟩:=h
 exact ⟨⟨vs,el,h1,(hw.rel h2).move (nC R n) hu,h3⟩,h4,fun hl=>h5 (zX hl)⟩
theorem fa {n:Nat}:∀ {l r:List AV},aA n (l++r)=(aA n l&&aA n r)
 | [],r=>by simp [aA]
 | a :: l,r=>by simp [aA,fa (l:=l),Bool.and_assoc]
theorem cg.split:∀ {l r l':List AV},cg (l++r) l'→∃ a b,l'=a++b∧cg l a∧cg r b∧a.length=l.length
 | [],r,l',h=>⟨[],l',rfl,trivial,h,rfl⟩
 | x :: l,r,[],h=>h.elim
 | x :: l,r,y :: l',h=>by
  obtain ⟨a,b,rfl,h2,h3,h4⟩:=cg.split (l:=l) (r:=r) (l':=l') h.2
  exact ⟨y :: a,b,rfl,⟨h.1,h2⟩,h3,by simp [h4]⟩
theorem zY {n:Nat} {QS:cm} (hb:∀ k cs,de QS k=some cs→uJ R w β k cs) {base:cm}:∀ {bx:List (Nat × Nat)} {K:Nat→Prop} {l l' r:List AV},uF QS bx=some l→cg l l'→aA n l'=true →
  (∀ k cs,¬ K k→sr bx k=false→de base k=some cs→de QS k=some cs∧aA n cs=true) →
  ∀ k cs,¬ K k→de (sa bx (l'++r) base) k=some cs→uJ (R.cut n) w β k cs∧∃ eM,de QS k=some eM
 | [],K,l,l',r,_,_,_,h,k,cs,hK,hk=>by
  obtain ⟨h1,h2⟩:=h k cs hK rfl hk
  exact ⟨(hb k cs h1).cut (cg.refl _) h2,cs,h1⟩
 | (d,m) :: bx,K,l,l',r,hg,hw,hu,h,k,cs,hK,hk=>by
  unfold uF at hg
  split at hg
  ·rename_i O6 hd
   split at hg
   ·rename_i l0 sx
    cases hm:Nat.beq O6.length m with
    | false=>rw [hm] at hg; cases hg
    | true=>
     rw [hm] at hg
     cases hg
     have hm:=Nat.eq_of_beq_eq_true hm
     obtain ⟨x,y,rfl,k1,k2,k3⟩:=hw.split
     rw [fa,Bool.and_eq_true] at hu
     have e1:((x++y)++r).take m=x:=by rw [List.append_assoc,← hm,← k3,List.take_left]
     have e2:((x++y)++r).drop m=y++r:=by rw [List.append_assoc,← hm,← k3,List.drop_left]
     simp only [sa,e1,e2] at hk
     rcases eu hk with ⟨rfl,rfl⟩ | ⟨cr,hk⟩
     ·exact ⟨(hb d O6 hd).cut k1 hu.1,O6,hd⟩
     ·refine zY hb (K:=fun k=>k=d∨K k) (r:=r) sx k2 hu.2 (fun k' eM T9 h1 h2=>?_) k cs (fun hc=>?_) hk
      ·exact h k' eM (fun hc=>T9 (.inr hc)) (by simp only [sr,h1,Bool.or_false]; exact lS (fun e=>T9 (.inl e.symm))) h2
      ·rcases hc with hc | hc
       ·exact cr hc.symm
       ·exact hK hc
   ·cases hg
  ·cases hg
def uK (n:Nat):List GL→List AV→Prop
 | [],_=>True
 | .du _ _ :: r,l=>aA n (AV.dB (dN l))=true∧uK n r l.tail
 | .row m :: r,l=>uK n r (l.drop m)
 | .map :: r,l=>uK n r l.tail
 | .AJ :: r,l=>uK n r l.tail.tail
 | .aU _ _ :: r,l=>uK n r l.tail
 | .qk :: r,l=>aA n (AV.dB (dN l))=true∧uK n r l.tail
 | .gN _ :: r,l=>uK n r l.tail.tail
 | _ :: r,l=>uK n r l
def nD (n:Nat):List Bool→List AV→Prop
 | [],_=>True
 | _ :: _,[]=>True
 | f :: fl,a :: l=>(f=true→aA n a.dB=true)∧nD n fl l
theorem nD.drop {m:Nat}:∀ {fl:List Bool} {l:List AV} (n:Nat),nD m fl l→nD m (fg n fl) (l.drop n)
 | _,_,0,h=>by simpa [fg] using h
 | [],_,_+1,_=>by simp [fg,nD]
 | _ :: fl,[],n+1,_=>by
  rw [List.drop_nil]
  cases fg (n+1) (_ :: fl) <;> trivial
 | _ :: fl,_ :: l,n+1,h=>by simpa [fg] using nD.drop n h.2
theorem ft {m:Nat}:∀ (g:List GL) {fl:List Bool} {l:List AV},j7 g fl=true→nD m fl l→uK m g l
 | [],_,_,_,_=>trivial
 | .du _ _ :: g,[],_,h,_=>by cases h
 | .du _ _ :: g,f :: fl,[],h,_=>by
  simp only [j7,Bool.and_eq_true] at h
  refine ⟨rfl,ft g (fl:=fl) h.2 ?_⟩
  cases fl <;> trivial
 | .du _ _ :: g,f :: fl,a :: l,h,k=>by
  simp only [j7,Bool.and_eq_true] at h
  exact ⟨k.1 h.1,ft g h.2 k.2⟩
 | .row n :: g,fl,l,h,k=>ft g (show j7 g (fg n fl)=true from h) (k.drop n)
 | .map :: g,fl,l,h,k=>by
  have:=ft g (show j7 g (fg 1 fl)=true from h) (k.drop 1)
  rw [List.drop_one] at this
  exact this
 | .AJ :: g,fl,l,h,k=>by
  have:=ft g (show j7 g (fg 2 fl)=true from h) (k.drop 2)
  have e:l.drop 2=l.tail.tail:=by cases l with
   | nil=>rfl
   | cons a l=>cases l <;> rfl
  rw [e] at this
  exact this
 | .aU _ _ :: g,fl,l,h,k=>by
  have:=ft g (show j7 g (fg 1 fl)=true from h) (k.drop 1)
  rw [List.drop_one] at this
  exact this
 | .gN _ :: g,fl,l,h,k=>by
  have:=ft g (show j7 g (fg 2 fl)=true from h) (k.drop 2)
  have e:l.drop 2=l.tail.tail:=by cases l with
   | nil=>rfl
   | cons a l=>cases l <;> rfl
  rw [e] at this
  exact this
 | .qk :: g,[],_,h,_=>by cases h
 | .qk :: g,f :: fl,[],h,_=>by
  simp only [j7,Bool.and_eq_true] at h
  refine ⟨rfl,ft g (fl:=fl) h.2 ?_⟩
  cases fl <;> trivial
 | .qk :: g,f :: fl,a :: l,h,k=>by
  simp only [j7,Bool.and_eq_true] at h
  exact ⟨k.1 h.1,ft g h.2 k.2⟩
 | .tok _ _ _ :: g,fl,l,h,k=>ft g (show j7 g fl=true from h) k
 | .dead :: g,fl,l,h,k=>ft g (show j7 g fl=true from h) k
 | .lp _ :: g,fl,l,h,k=>ft g (show j7 g fl=true from h) k
 | .aW :: g,fl,l,h,k=>ft g (show j7 g fl=true from h) k
theorem uL {n:Nat} {α:Type} {g:α→AV} (hg:∀ x,(g x).under n=true):∀ xs:List α,aA n (xs.map g)=true
 | []=>rfl
 | x :: xs=>by simp only [List.map_cons,aA,hg x,uL hg xs,Bool.and_self]
theorem aD.zZ (n:Nat) (L:Nat→Nat):∀ (ps:aD) (x:ps.T),nD n (ps.flags n) (ps.j5 L x)
 | .nil,_=>trivial
 | .cons p .nil,x=>⟨fun h=>JR L p x h,trivial⟩
 | .cons p (.cons q ps),x=>⟨fun h=>JR L p x.1 h,(aD.cons q ps).zZ n L x.2⟩
where
 JR (L:Nat→Nat):∀ (p:ah) (x:p.T),p.T8 n=true→aA n (p.j5 L x).dB=true
  | .list _ p,x,h=>uL (fun y=>p.cJ y h) _
  | .int _,_,h=>by cases h
  | .bool,_,h=>by cases h
  | .str,_,h=>by cases h
  | .agg _,_,h=>by cases h
  | .bi _,_,h=>by cases h
  | .own _ _ _,_,h=>by cases h
  | .aU _ _ _,_,h=>by cases h
  | .pz _,_,h=>by cases h
  | .two _ _,_,h=>by cases h
def RZ (n:Nat):GO→GO→Prop
 | .row cs el,.row eM QE=>QE=el∧cg cs eM∧aA n eM=true
 | .tok f sz e,.tok f' bk e'=>f=f'∧sz=bk∧e=e'
 | .defers a,.defers b=>a=b
 | .map es,.map es'=>(es'=es∧aH es=true)∨∃ l,es'=ab l∧jg (af es) l∧aA n l=true
 | .aU fs sz e,.aU xr bk e'=>fs=xr∧sz=bk∧e=e'
 | .gN oP m left _ t,.gN mid' m' wF cur t'=>oP=mid'∧m=m'∧left=wF∧t=t'∧oP < n∧cur=none
 | .fU l p,.fU l' p'=>l'=l∧p'=p
 | .du es sz e,.du es' bk e'=>bk=sz∧e'=e∧jg es es'∧aA n es'=true
 | _,.dead=>True
 | _,_=>False
def R4:GO→GO→GO→Prop
 | .loop _ _ fn sl n ps pf bd d _,.loop b p _ _ _ _ _ _ _ dn,go=>go=.loop b p fn sl n ps pf bd d dn
 | _,_,_=>False
theorem Ee {n:Nat} {o o':GO} (h:xZ o o'=true):RZ n o' o:=by
 cases o with
 | tok f sz e=>
  cases o' with
  | tok f' bk e'=>
   simp only [xZ,Bool.and_eq_true] at h
   exact ⟨of_decide_eq_true h.1,Nat.eq_of_beq_eq_true h.2.1,Nat.eq_of_beq_eq_true h.2.2⟩
  | _=>cases h
 | defers a=>
  cases o' with
  | defers b=>cases a <;> cases b <;> first | rfl | cases h
  | _=>cases h
 | dead=>cases o' <;> trivial
 | _=>cases h
theorem H7 {k:AI} {o o':GO} (h:LA k o o'=true):R4 o o' (JO k o):=by
 cases o with
 | loop b p fn sl n ps pf bd d dn=>
  cases o' with
  | loop b' p' R5 N1 n' Pn H8 N5 d' dn'=>
   obtain ⟨rfl,rfl,rfl⟩:=AI.CX (show k.is b' p' dn'=true from h)
   rfl
  | _=>cases h
 | _=>cases h
theorem oJ (a:AV):a.entries=ab a.dB:=by cases a <;> rfl
theorem gv {n:Nat} {vs:List AV}:∀ {g:List GL} {B G:List GO} {l l':List AV},jx g G=some l→cg l l'→EP l l'→uK n g l'∧FU n g=true→aA n l'=true→dc vs g B G=true →
  ∀ id go,nth (cV vs g B l') id=some go→∃ go',nth G id=some go'∧(RZ n go' go∨∃ EM,nth B id=some EM∧R4 EM go' go)
 | [],B,G,l,l',_,_,_,_,_,_,id,go,h=>by simp [cV,nth] at h
 | x :: g,[],G,l,l',_,_,_,_,_,ht,_,_,_=>by cases x <;> cases G <;> cases ht
 | x :: g,_ :: _,[],l,l',_,_,_,_,_,ht,_,_,_=>by cases x <;> cases ht
 | .row m :: g,b :: B,o :: G,l,l',hg,hw,hx,qK,hu,ht,id,go,h=>by
   obtain ⟨DU,zM⟩:JP b o=true∧dc vs g B G=true:=by
    rw [← Bool.and_eq_true]
    cases o <;> exact ht
   cases o with
   | row cs el=>
    have nQ:Pm b=el:=by
     cases b <;> first | (cases DU; done) | exact Nat.eq_of_beq_eq_true DU
    change (match jx g G with
     | some r=>bif Nat.beq cs.length m then some (cs++r) else none
     | none=>none)=some l at hg
    split at hg
    ·rename_i r hr
     cases hm:Nat.beq cs.length m with
     | false=>rw [hm] at hg; cases hg
     | true=>
      rw [hm] at hg
      cases hg
      have hm:=Nat.eq_of_beq_eq_true hm
      obtain ⟨x,y,rfl,k1,k2,k3⟩:=hw.split
      rw [fa,Bool.and_eq_true] at hu
      have e1:(x++y).take m=x:=by rw [← hm,← k3,List.take_left]
      have e2:(x++y).drop m=y:=by rw [← hm,← k3,List.drop_left]
      simp only [cV,e1,e2] at h
      cases id with
      | zero=>simp only [nth] at h; cases h; exact ⟨.row cs el,rfl,.inl ⟨nQ,k1,hu.1⟩⟩
      | succ id=>exact gv hr k2 (by obtain ⟨x',y',TY,XO,Hq,VJ⟩:=hx.split; have:=List.append_inj TY (by rw [k3,VJ]); rw [this.2]; exact Hq) (by rw [← e2]; exact qK) hu.2 zM id go h
    ·cases hg
   | _=>cases hg
 | .tok loc sz e :: g,b :: B,o :: G,l,l',hg,hw,hx,qK,hu,ht,id,go,h=>by
   cases o with
   | tok f bk e'=>
    change (bif Nat.beq sz bk&&Nat.beq e e' then jx g G else none)=some l at hg
    change (decide (f=FT vs loc)&&dc vs g B G)=true at ht
    rw [Bool.and_eq_true] at ht
    cases hm:(Nat.beq sz bk&&Nat.beq e e') with
    | false=>rw [hm] at hg; cases hg
    | true=>
     rw [hm] at hg
     rw [Bool.and_eq_true] at hm
     have q1:=Nat.eq_of_beq_eq_true hm.1
     have q2:=Nat.eq_of_beq_eq_true hm.2
     simp only [cV] at h
     cases id with
     | zero=>
      simp only [nth] at h
      cases h
      exact ⟨.tok f bk e',rfl,.inl ⟨of_decide_eq_true ht.1,q1.symm,q2.symm⟩⟩
     | succ id=>exact gv hg hw hx qK hu ht.2 id go h
   | _=>cases hg
 | .dead :: g,b :: B,o :: G,l,l',hg,hw,hx,qK,hu,ht,id,go,h=>by
   simp only [cV] at h
   have yL:jx g G=some l:=by cases o <;> exact hg
   have zM:dc vs g B G=true:=by cases o <;> exact ht
   cases id with
   | zero=>
    simp only [nth] at h
    cases h
    exact ⟨o,rfl,.inl (by cases o <;> trivial)⟩
   | succ id=>exact gv yL hw hx qK hu zM id go h
 | .lp k :: g,b :: B,o :: G,l,l',hg,hw,hx,qK,hu,ht,id,go,h=>by
   simp only [cV] at h
   have yL:jx g G=some l:=by cases o <;> exact hg
   change (LA k b o&&dc vs g B G)=true at ht
   rw [Bool.and_eq_true] at ht
   cases id with
   | zero=>
    simp only [nth] at h
    cases h
    exact ⟨o,rfl,.inr ⟨b,rfl,H7 ht.1⟩⟩
   | succ id=>exact gv yL hw hx qK hu ht.2 id go h
 | .aW :: g,b :: B,o :: G,l,l',hg,hw,hx,qK,hu,ht,id,go,h=>by
   simp only [cV] at h
   have yL:jx g G=some l:=by cases o <;> exact hg
   change (xZ b o&&dc vs g B G)=true at ht
   rw [Bool.and_eq_true] at ht
   cases id with
   | zero=>
    simp only [nth] at h
    cases h
    exact ⟨o,rfl,.inl (Ee ht.1)⟩
   | succ id=>exact gv yL hw hx qK hu ht.2 id go h
 | .map :: g,b :: B,o :: G,l,l',hg,hw,hx,qK,hu,ht,id,go,h=>by
   cases o with
   | map es=>
    change (match jx g G with
     | some r=>some (AV.list .kq 2 (af es) :: r)
     | none=>none)=some l at hg
    change (aH es&&dc vs g B G)=true at ht
    rw [Bool.and_eq_true] at ht
    split at hg
    ·rename_i r hr
     cases hg
     cases l' with
     | nil=>exact hw.elim
     | cons a l'=>
      simp only [aA,Bool.and_eq_true] at hu
      simp only [cV,dN,List.tail_cons] at h
      cases id with
      | zero=>
       simp only [nth] at h
       cases h
       refine ⟨.map es,rfl,.inl (.inl ⟨?_,ht.1⟩)⟩
       rw [oJ,hx.2.1 ht.1]
       exact mC es
      | succ id=>exact gv hr hw.2 hx.2.2.2 qK hu.2 ht.2 id go h
    ·cases hg
   | _=>cases hg
 | .AJ :: g,b :: B,o :: G,l,l',hg,hw,hx,qK,hu,ht,id,go,h=>by
   have zM:dc vs g B G=true:=by cases o <;> exact ht
   cases o with
   | fU s pos=>
    change (match jx g G with
     | some r=>some (AV.str s :: AV.int .i64 pos :: r)
     | none=>none)=some l at hg
    split at hg
    ·rename_i r hr
     cases hg
     match l',hw,hx,hu,h with
     | [],hw,_,_,_=>exact hw.elim
     | [_],hw,_,_,_=>exact hw.2.elim
     | a :: a' :: l',hw,hx,hu,h=>
      simp only [aA,Bool.and_eq_true] at hu
      simp only [cV,dN,List.tail_cons] at h
      have e1:=hx.1 (by simp [AV.exact])
      have e2:=hx.2.2.2.1 (by simp [AV.exact])
      subst e1 e2
      cases id with
      | zero=>
       simp only [nth] at h
       cases h
       exact ⟨.fU s pos,rfl,.inl ⟨rfl,by simp [AV.oQ]⟩⟩
      | succ id=>exact gv hr hw.2.2 hx.2.2.2.2.2.2 qK hu.2.2 zM id go h
    ·cases hg
   | _=>cases hg
 | .du sz e :: g,b :: B,o :: G,l,l',hg,hw,hx,qK,hu,ht,id,go,h=>by
   have zM:dc vs g B G=true:=by cases o <;> exact ht
   cases o with
   | du es bk e'=>
    change (match jx g G with
     | some r=>bif Nat.beq sz bk&&Nat.beq e e' then some (AV.list .kq bk es :: r) else none
     | none=>none)=some l at hg
    split at hg
    ·rename_i r hr
     cases hm:(Nat.beq sz bk&&Nat.beq e e') with
     | false=>rw [hm] at hg; cases hg
     | true=>
     rw [hm] at hg
     rw [Bool.and_eq_true] at hm
     have q1:=Nat.eq_of_beq_eq_true hm.1
     have q2:=Nat.eq_of_beq_eq_true hm.2
     cases hg
     cases l' with
     | nil=>exact hw.elim
     | cons a l'=>
      simp only [aA,Bool.and_eq_true] at hu
      simp only [cV,dN,List.tail_cons] at h
      cases id with
      | zero=>
       simp only [nth] at h
       cases h
       exact ⟨.du es bk e',rfl,.inl ⟨q1,q2,hx.2.2.1,qK.1.1⟩⟩
      | succ id=>exact gv hr hw.2 hx.2.2.2 ⟨qK.1.2,qK.2⟩ hu.2 zM id go h
    ·cases hg
   | _=>cases hg
 | .aU sz e :: g,b :: B,o :: G,l,l',hg,hw,hx,qK,hu,ht,id,go,h=>by
   have zM:dc vs g B G=true:=by cases o <;> exact ht
   cases o with
   | aU fs bk e'=>
    change (match jx g G with
     | some r=>bif Nat.beq sz bk&&Nat.beq e e' then some (AV.list .kq 1 (aS fs) :: r) else none
     | none=>none)=some l at hg
    split at hg
    ·rename_i r hr
     cases hm:(Nat.beq sz bk&&Nat.beq e e') with
     | false=>rw [hm] at hg; cases hg
     | true=>
     rw [hm] at hg
     rw [Bool.and_eq_true] at hm
     have q1:=Nat.eq_of_beq_eq_true hm.1
     have q2:=Nat.eq_of_beq_eq_true hm.2
     cases hg
     cases l' with
     | nil=>exact hw.elim
     | cons a l'=>
      simp only [aA,Bool.and_eq_true] at hu
      simp only [cV,dN,List.tail_cons] at h
      cases id with
      | zero=>
       simp only [nth] at h
       cases h
       refine ⟨.aU fs bk e',rfl,.inl ⟨?_,q1.symm,q2.symm⟩⟩
       rw [hx.2.1 (uD fs)]
       exact (r9 fs).symm
      | succ id=>exact gv hr hw.2 hx.2.2.2 qK hu.2 zM id go h
    ·cases hg
   | _=>cases hg
 | .qk :: g,b :: B,o :: G,l,l',hg,hw,hx,qK,hu,ht,id,go,h=>by
   have zM:dc vs g B G=true:=by cases o <;> exact ht
   cases o with
   | map es=>
    change (match jx g G with
     | some r=>some (AV.list .kq 2 (af es) :: r)
     | none=>none)=some l at hg
    split at hg
    ·rename_i r hr
     cases hg
     cases l' with
     | nil=>exact hw.elim
     | cons a l'=>
      simp only [aA,Bool.and_eq_true] at hu
      simp only [cV,dN,List.tail_cons] at h
      cases id with
      | zero=>
       simp only [nth] at h
       cases h
       exact ⟨.map es,rfl,.inl (.inr ⟨a.dB,oJ a,hx.2.2.1,qK.1.1⟩)⟩
      | succ id=>exact gv hr hw.2 hx.2.2.2 ⟨qK.1.2,qK.2⟩ hu.2 zM id go h
    ·cases hg
   | _=>cases hg
 | .gN oP :: g,b :: B,o :: G,l,l',hg,hw,hx,qK,hu,ht,id,go,h=>by
   obtain ⟨DU,zM⟩:JQ b o=true∧dc vs g B G=true:=by
    rw [← Bool.and_eq_true]
    cases o <;> exact ht
   cases o with
   | gN mid' k left cur t=>
    have nQ:Pl b=t:=by
     cases b <;> first | (cases DU; done) | exact Nat.eq_of_beq_eq_true DU
    change (match jx g G with
     | some r=>bif Nat.beq oP mid' then some (AV.int .i64 k :: AV.list .kq 1 (aS left) :: r) else none
     | none=>none)=some l at hg
    split at hg
    ·rename_i r hr
     cases hm:Nat.beq oP mid' with
     | false=>rw [hm] at hg; cases hg
     | true=>
     rw [hm] at hg
     have q1:=Nat.eq_of_beq_eq_true hm
     subst q1
     cases hg
     have R6:=qK.2
     simp only [FU,Bool.and_eq_true] at R6
     match l',hw,hx,hu,h with
     | [],hw,_,_,_=>exact hw.elim
     | [_],hw,_,_,_=>exact hw.2.elim
     | a :: a' :: l',hw,hx,hu,h=>
      simp only [aA,Bool.and_eq_true] at hu
      simp only [cV,dN,List.tail_cons] at h
      have e1:=hx.1 (by simp [AV.exact])
      have e2:=hx.2.2.2.2.1 (uD left)
      subst e1
      cases id with
      | zero=>
       simp only [nth] at h
       cases h
       refine ⟨.gN oP k left cur t,rfl,.inl ⟨rfl,by simp [AV.oQ],?_,nQ.symm,jf R6.1,rfl⟩⟩
       rw [e2]
       exact (r9 left).symm
      | succ id=>exact gv hr hw.2.2 hx.2.2.2.2.2.2 ⟨qK.1,R6.2⟩ hu.2.2 zM id go h
    ·cases hg
   | _=>cases hg
theorem cG {vs:List AV}:∀ {g:List GL} {B:List GO} {l:List AV},(cV vs g B l).length=g.length
 | [],_,_=>rfl
 | .row m :: g,B,l=>by simp [cV,cG (g:=g)]
 | .tok _ _ _ :: g,B,l=>by simp [cV,cG (g:=g)]
 | .dead :: g,B,l=>by simp [cV,cG (g:=g)]
 | .lp _ :: g,B,l=>by simp [cV,cG (g:=g)]
 | .aW :: g,B,l=>by simp [cV,cG (g:=g)]
 | .map :: g,B,l=>by simp [cV,cG (g:=g)]
 | .du _ _ :: g,B,l=>by simp [cV,cG (g:=g)]
 | .AJ :: g,B,l=>by simp [cV,cG (g:=g)]
 | .aU _ _ :: g,B,l=>by simp [cV,cG (g:=g)]
 | .qk :: g,B,l=>by simp [cV,cG (g:=g)]
 | .gN _ :: g,B,l=>by simp [cV,cG (g:=g)]
theorem fX.VK {R0:aj} {w0:World} {JS:RO} {EM go' go:GO} {ro:RO} (e:Ext R0 w0 R w) (h0:fX R0 w0 EM JS) (hle:b9 JS ro) (h:fX R' w go' ro) (k:R4 EM go' go):fX R w go ro:=by
 cases EM with
 | loop b p fn sl n ps pf bd d dn=>
  cases go' with
  | loop b' p' R5 N1 n' Pn H8 N5 d' dn'=>
   change go=_ at k
   subst k
   cases JS with
   | bp bb=>
    simp only [b9] at hle
    subst hle
    obtain ⟨⟨r0,R7,l1,l2,l3,l4,l5,l6,l7,l8,l9,Ua⟩,l11⟩:=h0
    obtain ⟨⟨r,db,m1,m2,m3,m4,m5,m6,m7,m8,m9,m10⟩,m11⟩:=h
    obtain ⟨r1,q1,q2,q3,q4,q5,q6⟩:=e.lp bb r0 l1
    have hr:r1=r:=by
     have:=q1.symm.trans m1
     injection this with this
     injection this with this
    subst hr
    exact ⟨⟨r1,R7,q1,m2,m3,by rw [q2]; exact mM.mono e l4,by rw [q2]; exact l5,by rw [q3]; exact l6,by rw [q4]; exact l7,by rw [q5]; exact l8,by rw [q6]; exact l9,e.bp Ua⟩,l11⟩
   | none=>exact h0.elim
   | bj=>exact h0.elim
   | tok _ _ _=>exact h0.elim
   | aU _=>exact h0.elim
  | _=>exact k.elim
 | _=>exact k.elim
theorem cU.cut {n:Nat}:∀ {es:List (AV × AV)} {av:List MapEntry},fK (af es)=true→cU R w es av→cU (R.cut n) w es av
 | [],[],_,_=>trivial
 | [],_ :: _,_,h=>h.elim
 | _ :: _,[],_,h=>h.elim
 | (k,v) :: es,en :: av,he,h=>by
  simp only [af,fK,AV.exact,Bool.and_true,Bool.and_eq_true] at he
  exact ⟨h.1.move (nC R n) (gU n (mo he.1.1)),h.2.1.move (nC R n) (gU n (mo he.1.2)),cU.cut he.2 h.2.2⟩
theorem z6 {n:Nat} {v:AV} (h:v.under n=true) (k:v.aL=true):aA n v.cells=true:=by
 cases v <;> first | exact h | (simp [AV.aL] at k; done) | (simp only [AV.cells,aA,Bool.and_true]; exact h)
theorem uM {n sz:Nat}:∀ {es es':List AV},jg es es'→dg sz es→aA n es'=true→dg sz es'∧cg (ar es) (ar es')∧aA n (ar es')=true
 | [],[],_,_,_=>⟨(fun e he=>by simp at he),trivial,rfl⟩
 | e :: es,e' :: es',h,k,pM=>by
  obtain ⟨h1,h2⟩:=h
  simp only [aA,Bool.and_eq_true] at pM
  obtain ⟨q1,q2⟩:=k e (by simp)
  obtain ⟨i1,i2,i3⟩:=uM h2 (fun x hx=>k x (by simp [hx])) pM.2
  have hc:=h1.cells q2
  have ht:e'.aL=true:=by rw [h1.bi,q2]
  refine ⟨fun x hx=>?_,hc.append i2,by show aA n (e'.cells++ar es')=true; rw [fa,z6 pM.1 ht,i3]; rfl⟩
  rcases List.mem_cons.1 hx with rfl | hx
  ·exact ⟨by rw [← hc.length,q1],ht⟩
  ·exact i1 x hx
 | [],_ :: _,h,_,_=>h.elim
 | _ :: _,[],h,_,_=>h.elim
theorem mE.head {l r:List AV} (h:mE l r):(AV.dB (dN l)).length=(AV.dB (dN r)).length:=by
 cases l <;> cases r <;> first | rfl | exact h.1 | exact h.elim
theorem mE.tail {l r:List AV} (h:mE l r):mE l.tail r.tail:=by
 cases l <;> cases r <;> first | exact h | exact h.2 | exact h.elim
theorem cH:∀ (g:List GL) {l r:List AV} (i:Nat),mE l r→j6 g l i=j6 g r i
 | [],_,_,_,_=>rfl
 | .du _ _ :: g,l,r,0,h=>h.head
 | .du _ _ :: g,l,r,i+1,h=>cH g i h.tail
 | .row _ :: g,l,r,0,h=>rfl
 | .row n :: g,l,r,i+1,h=>cH g i (h.drop n)
 | .map :: g,l,r,0,h=>rfl
 | .map :: g,l,r,i+1,h=>cH g i h.tail
 | .AJ :: g,l,r,0,h=>rfl
 | .AJ :: g,l,r,i+1,h=>cH g i h.tail.tail
 | .aU _ _ :: g,l,r,0,h=>rfl
 | .aU _ _ :: g,l,r,i+1,h=>cH g i h.tail
 | .qk :: g,l,r,0,h=>rfl
 | .qk :: g,l,r,i+1,h=>cH g i h.tail
 | .gN _ :: g,l,r,0,h=>rfl
 | .gN _ :: g,l,r,i+1,h=>cH g i h.tail.tail
 | .tok _ _ _ :: g,l,r,0,h=>rfl
 | .tok _ _ _ :: g,l,r,i+1,h=>cH g i h
 | .dead :: g,l,r,0,h=>rfl
 | .dead :: g,l,r,i+1,h=>cH g i h
 | .lp _ :: g,l,r,0,h=>rfl
 | .lp _ :: g,l,r,i+1,h=>cH g i h
 | .aW :: g,l,r,0,h=>rfl
 | .aW :: g,l,r,i+1,h=>cH g i h
theorem cU.Po {n:Nat}:∀ {es:List (AV × AV)} {l:List AV} {av:List MapEntry},jg (af es) l→aA n l=true→cU R w es av→cU (R.cut n) w (ab l) av
 | [],[],[],_,_,_=>trivial
 | [],[],_ :: _,_,_,h=>h.elim
 | [],_ :: _,_,h,_,_=>h.elim
 | (_,_) :: _,[],_,h,_,_=>h.elim
 | (_,_) :: _,_ :: _,[],_,_,h=>h.elim
 | (k,v) :: es,a :: l,en :: av,hd,hu,h=>by
  obtain ⟨d1,d2⟩:=hd
  simp only [aA,Bool.and_eq_true] at hu
  have hc:=d1.cells rfl
  have hl:[k,v].length=a.cells.length:=hc.length
  cases a with
  | agg cs=>
   match cs,hc,hl with
   | [k',v'],hc,_=>
    have LB:aA n [k',v']=true:=hu.1
    simp only [aA,Bool.and_true,Bool.and_eq_true] at LB
    exact ⟨(hc.1 _ _ _ h.1).move (nC R n) LB.1,(hc.2.1 _ _ _ h.2.1).move (nC R n) LB.2,cU.Po d2 hu.2 h.2.2⟩
   | [],_,hl=>simp [AV.cells] at hl
   | [_],_,hl=>simp [AV.cells] at hl
   | _ :: _ :: _ :: _,_,hl=>simp [AV.cells] at hl
  | _=>simp [AV.cells] at hl
theorem fX.VL {n:Nat} {go go':GO} {ro:RO} (h:fX R w go' ro) (k:RZ n go' go):fX (R.cut n) w go ro:=by
 cases go with
 | dead=>
  cases ro with
  | none=>trivial
  | bj=>trivial
  | bp b=>exact h.lt rfl
  | tok f b c=>exact h.lt rfl
  | aU ts=>exact fun j f b c hj=>h.lt ⟨j,f,c,hj⟩
 | row cs el=>
  cases go' with
  | row eM QE=>
   cases ro with
   | bp b=>
    obtain ⟨vs,h1,h2,h3,h4⟩:=h
    obtain ⟨rfl,k⟩:=k
    exact ⟨vs,h1,(k.1.rel h2).move (nC R n) k.2,h3,h4⟩
   | none=>exact h.elim
   | bj=>exact h.elim
   | tok _ _ _=>exact h.elim
   | aU _=>exact h.elim
  | _=>exact k.elim
 | tok f sz e=>
  cases go' with
  | tok f' bk e'=>
   obtain ⟨rfl,rfl,rfl⟩:=k
   cases ro with
   | bp b=>exact h.elim
   | none=>exact h.elim
   | bj=>exact h
   | tok _ _ _=>exact h
   | aU _=>exact h.elim
  | _=>exact k.elim
 | defers a=>
  cases go' with
  | defers b=>
   change b=a at k
   subst k
   cases ro <;> exact h
  | _=>exact k.elim
 | map es=>
  cases go' with
  | map es'=>
   cases ro with
   | bp b=>
    obtain ⟨av,clock,h1,h2,h3⟩:=h
    rcases k with ⟨rfl,k2⟩ | ⟨l,rfl,k2,k3⟩
    ·exact ⟨av,clock,h1,cU.cut k2 h2,h3⟩
    ·exact ⟨av,clock,h1,cU.Po k2 k3 h2,h3⟩
   | none=>exact h.elim
   | bj=>exact h.elim
   | tok _ _ _=>exact h.elim
   | aU _=>exact h.elim
  | _=>exact k.elim
 | aU fs sz e=>
  cases go' with
  | aU xr bk e'=>
   obtain ⟨rfl,rfl,rfl⟩:=k
   cases ro <;> exact h
  | _=>exact k.elim
 | gN oP m left cur t=>
  cases go' with
  | gN mid' m' wF ze t'=>
   obtain ⟨rfl,rfl,rfl,rfl,k,rfl⟩:=k
   cases ro with
   | bp b=>obtain ⟨bm,seen,c0,h1,h2,h3,h4,h5,h6,_⟩:=h; exact ⟨bm,seen,c0,jy.2 ⟨k,h1⟩,h2,h3,h4,h5,h6,fun i hi=>by cases hi⟩
   | none=>exact h.elim
   | bj=>exact h.elim
   | tok _ _ _=>exact h.elim
   | aU _=>exact h.elim
  | _=>exact k.elim
 | fU l p=>
  cases go' with
  | fU l' p'=>
   obtain ⟨rfl,rfl⟩:=k
   cases ro <;> exact h
  | _=>exact k.elim
 | du es sz e=>
  cases go' with
  | du es' bk e'=>
   obtain ⟨rfl,rfl,k,kc⟩:=k
   cases ro with
   | bp b=>exact h.elim
   | none=>exact h.elim
   | aU _=>exact h.elim
   | bj=>
    have he:es'=[]:=h
    subst he
    exact List.eq_nil_of_length_eq_zero k.length.symm
   | tok f b c=>
    obtain ⟨h0,h1,cur,vs,h2,h3,h4,h5,h6,h7,h8,h9⟩:=h
    obtain ⟨k1,k2,k3⟩:=uM k h1 kc
    exact ⟨h0.trans k.length,k1,cur,vs,h2,h3,h4,h5,h6,(k2.rel h7).move (nC R n) k3,h8,h9⟩
  | _=>exact k.elim
 | _=>cases go' <;> exact k.elim
theorem ov.ids:∀ {l:List Nat} {ds:List Deferred},ov R l ds→∀ id∈l,id < R.obj.length
 | [],[],_,id,hi=>by simp at hi
 | x :: l,d :: ds,h,id,hi=>by
  obtain ⟨⟨b,h1,_⟩,h2⟩:=h
  rcases List.mem_cons.1 hi with rfl | hi
  ·exact bo h1
  ·exact ov.ids h2 id hi
 | [],_ :: _,h,_,_=>h.elim
 | _ :: _,[],h,_,_=>h.elim
theorem ov.cut {n:Nat}:∀ {l:List Nat} {ds:List Deferred},ov R l ds→(∀ id∈l,id < n)→ov (R.cut n) l ds
 | [],[],_,_=>trivial
 | x :: l,d :: ds,h,hi=>by
  obtain ⟨⟨b,h1,h3⟩,h2⟩:=h
  exact ⟨⟨b,jy.2 ⟨hi x (by simp),h1⟩,h3⟩,ov.cut h2 fun id hm=>hi id (by simp [hm])⟩
 | [],_ :: _,h,_=>h.elim
 | _ :: _,[],h,_=>h.elim
theorem sd {n:Nat} {tmps:Array Value} {ae base:aT} (hT:mM R w β ae tmps):∀ {l:List (Tmp × Nat × Nat)},CY ae l=true→mM (R.cut n) w β base tmps→mM (R.cut n) w β (nB l base) tmps
 | [],_,h=>h
 | (t,k,o) :: l,hl,h=>fun i hi=>by
  simp only [CY,Bool.and_eq_true] at hl
  simp only [nB] at hi ⊢
  by_cases e:t=i
  ·subst e
   rw [aw]
   have h1:=hl.1
   split at h1
   ·rename_i k' o' hk
    rw [Bool.and_eq_true] at h1
    have e1:=Nat.eq_of_beq_eq_true h1.1
    have e2:=Nat.eq_of_beq_eq_true h1.2
    subst e1 e2
    obtain ⟨c,q1,q2⟩:=hT t (by rw [hk]; simp)
    rw [hk] at q2
    exact ⟨c,q1,q2⟩
   ·cases h1
  ·rw [aG e] at hi ⊢
   exact sd hT hl.2 h i hi
theorem bU.xQ {t:bU} {v:t.ps.T} (hs:aJ s s') (h0:aV E R w β s a) (h:aV E R' w' β' s' a') (st:Step R w β s.boxes R' w' β' s'.boxes) (hd:t.dec s s'=some v) :
  aV E (R'.cut s.G.length) w' β' (t.st s v) a'∧Step R w β s.boxes (R'.cut s.G.length) w' β' (t.st s v).boxes:=by
 have hlen:=h0.g.len
 unfold bU.dec at hd
 cases eT:t.ok s s' with
 | false=>rw [eT] at hd; cases hd
 | true=>
 rw [eT] at hd
 simp only [cond_true] at hd
 unfold bU.ok at eT
 simp only [Bool.and_eq_true] at eT
 obtain ⟨⟨⟨⟨⟨k1,k2⟩,k3⟩,k4⟩,k5,k7,k8⟩,k6⟩:=eT
 obtain ⟨pre,zK⟩:=hs.sl
 obtain ⟨preB,JU⟩:=hs.bx
 rw [zK,zW] at k1
 rw [JU,zW] at k2
 have k3:=CZ k3
 have k4:=Nat.eq_of_beq_eq_true k4
 split at hd
 ·rename_i la lb lc g1 g2 g3
  cases hv:t.ps.Ec (j6 t.g lc) (la++(lb++lc)) with
  | none=>rw [hv] at hd; cases hd
  | some v'=>
  rw [hv] at hd
  simp only [Option.bind_some] at hd
  cases Hn:dc (t.ow v') t.g s.G s'.G with
  | false=>rw [Hn] at hd; cases hd
  | true=>
  rw [Hn] at hd
  cases hd
  have R8:∀ {ts:List Tmp} {l:List AV},uE s'.ae ts=some l→l.length=ts.length:=by
   intro ts
   induction ts with
   | nil=>intro l hl; simp only [uE] at hl; cases hl; rfl
   | cons t ts ih=>
    intro l hl
    unfold uE at hl
    split at hl
    ·split at hl
     ·rename_i hr
      cases hl
      simp [ih hr]
     ·cases hl
    ·cases hl
  have R9:∀ {bx:List (Nat × Nat)} {l:List AV},uF s'.boxes bx=some l→l.length=yd bx:=by
   intro bx
   induction bx with
   | nil=>intro l hl; simp only [uF] at hl; cases hl; rfl
   | cons x bx ih=>
    obtain ⟨k,m⟩:=x
    intro l hl
    unfold uF at hl
    split at hl
    ·split at hl
     ·rename_i cs _ _ r hr
      cases hm:Nat.beq cs.length m with
      | false=>rw [hm] at hl; cases hl
      | true=>
       rw [hm] at hl
       cases hl
       simp only [yd,List.length_append,ih hr,Nat.eq_of_beq_eq_true hm]
     ·cases hl
    ·cases hl
  obtain ⟨hw,hex⟩:=t.ps.H5 _ hv
  have JV:t.ow v=t.ps.j5 (j6 t.g lc) v:=by
   unfold bU.ow
   congr 1
   funext i
   have hl:=hex.Pk.trans (t.ps.ny (j6 t.g lc) (fun _=>0) v)
   have HX:=(hl.drop t.sl.length).drop (yd t.bx)
   rw [← R8 g1,List.drop_left,← R9 g2,List.drop_left,R8 g1,R9 g2] at HX
   exact (cH t.g i HX).symm
  have hu:aA s.G.length (t.ow v)=true:=by
   rw [JV,t.ps.Ed _ hv]
   exact t.ps.BQ _ k5 _
  rw [← JV] at hw hex
  have Sa:∃ xa xb xc,t.ow v=xa++(xb++xc)∧cg la xa∧cg lb xb∧cg lc xc∧xa.length=la.length∧xb.length=lb.length∧EP lc xc:=by
   obtain ⟨xa,r,h1,h2,h3,h4⟩:=hw.split
   obtain ⟨xb,xc,rfl,h6,h7,h8⟩:=h3.split
   rw [h1] at hex
   obtain ⟨ya,yr,g1,_,g3,g4⟩:=hex.split
   obtain ⟨_,rfl⟩:=List.append_inj g1 (by rw [h4,g4])
   obtain ⟨yb,yc,k1,_,k3,k4⟩:=g3.split
   obtain ⟨_,rfl⟩:=List.append_inj k1 (by rw [h8,k4])
   exact ⟨xa,xb,xc,h1,h2,h6,h7,h4,h8,k3⟩
  obtain ⟨xa,xb,xc,hx,wa,wb,wc,Ub,VM,VN⟩:=Sa
  have Sb:aA s.G.length xa=true∧aA s.G.length xb=true∧aA s.G.length xc=true:=by
   rw [hx,fa,fa] at hu
   simp only [Bool.and_eq_true] at hu
   exact ⟨hu.1,hu.2.1,hu.2.2⟩
  have e1:(t.ow v).drop t.sl.length=xb++xc:=by rw [hx,← R8 g1,← Ub,List.drop_left]
  have e2:(xb++xc).drop (yd t.bx)=xc:=by rw [← R9 g2,← VM,List.drop_left]
  have qK:uK s.G.length t.g xc:=by
   have hf:=((aD.zZ s.G.length _ t.ps v).drop t.sl.length).drop (yd t.bx) (l:=(t.ow v).drop t.sl.length)
   rw [e1,e2] at hf
   exact ft t.g k7 hf
  have old:∀ {l:List AV} {cs:List Value},aE R w l cs→aA s.G.length l=true:=fun hr=>hr.under (by omega)
  have mv:=nC R' s.G.length
  have QF:∀ k cs,de s'.boxes k=some cs→uJ R' w' β' k cs:=fun k cs hk=>h.b.box k cs hk
  have QT:∀ k cs,de (sa t.bx (xb++xc) s.boxes) k=some cs→uJ (R'.cut s.G.length) w' β' k cs∧∃ eM,de s'.boxes k=some eM:=fun k cs hk=>by
   refine zY (K:=fun _=>False) QF g2 wb Sb.2.1 (fun k cs _ h1 h2=>?_) k cs (fun h=>h) hk
   refine ⟨by rw [JU]; exact zV h1 h2 k2,?_⟩
   obtain ⟨⟨vs,el,_,h4,_⟩,_⟩:=h0.b.box k cs h2
   exact old h4
  have Uc:(t.st s v).G=cV (t.ow v) t.g s.G xc:=by simp only [bU.st,e1,e2]
  have Ud:(t.st s v).boxes=sa t.bx (xb++xc) s.boxes:=by simp only [bU.st,e1]
  have VO:(t.st s v).ae=nB t.N3 (nA t.sl (xa++(xb++xc)) (uG t.W s.ae)):=by simp only [bU.st,hx]
  have ext:Ext R w (R'.cut s.G.length) w':=⟨st.ext.I,st.ext.cell,fun id ro hi=>by
   obtain ⟨lf,h1,h2⟩:=st.ext.obj id ro hi
   exact ⟨lf,jy.2 ⟨by have:=bo hi; omega,h1⟩,h2⟩,st.ext.lp⟩
  refine ⟨⟨⟨?_,fun id go ro h1 h2=>?_,fun i j ri rj b h1 h2=>h.g.inj i j ri rj b (jy.1 h1).2 (jy.1 h2).2,h.g.wf,fun g cs hg=>(h.g.dC g cs hg).move mv (cz _ (E.xn g cs hg)),h.g.lo⟩,?_,?_,?_,?_⟩,?_⟩
  ·rw [Uc,cG,k4]
   have:=h.g.len
   have h3:s.G.length≤R'.obj.length:=by
    rcases Nat.lt_or_ge R'.obj.length s.G.length with bK | yJ
    ·exfalso
     have hx:R'.obj.length < R.obj.length:=by omega
     obtain ⟨lf,h1,_⟩:=st.ext.obj R'.obj.length R.obj[R'.obj.length] (by rw [aR]; exact List.getElem?_eq_getElem hx)
     have:=bo h1
     omega
    ·exact yJ
   simp [aj.cut]
   omega
  ·rw [Uc] at h1
   obtain ⟨go',h3,h4⟩:=gv g3 wc VN ⟨qK,k8⟩ Sb.2.2 Hn id go h1
   rcases h4 with h4 | ⟨EM,h5,h4⟩
   ·exact (h.g.obj id go' ro h3 (jy.1 h2).2).VL h4
   ·have bK:=bo h5
    rw [← hlen] at bK
    obtain ⟨JS,h6⟩:∃ JS,nth R.obj id=some JS:=⟨R.obj[id],by rw [aR]; exact List.getElem?_eq_getElem bK⟩
    obtain ⟨lf,h7,h8⟩:=ext.obj id JS h6
    have:lf=ro:=Option.some.inj (h7.symm.trans h2)
    subst this
    exact fX.VK ext (h0.g.obj id EM JS h5 h6) h8 (h.g.obj id go' lf h3 (jy.1 h2).2) h4
  ·rw [Ud]
   refine ⟨fun k cs hk=>(QT k cs hk).1,fun k k' cs eM hk iY he=>?_⟩
   obtain ⟨_,c1,Sc⟩:=QT k cs hk
   obtain ⟨_,c2,HS⟩:=QT k' eM iY
   exact h.b.inj k k' c1 c2 Sc HS he
  ·rw [VO]
   have hT:uH (R'.cut s.G.length) w' β' (fun _=>False) (nA t.sl (xa++(xb++xc)) (uG t.W s.ae)) a'.tmps:=by
    refine sb mv h.t g1 (l':=xa) (r:=lb++lc) (r':=xb++xc) (wa.append (wb.append wc)) Ub.symm Sb.1 (uI fun i hi hn=>?_)
    have VP:N4 t.sl t.W i=false:=by
     simp only [N4,Bool.or_eq_false_iff]
     refine ⟨?_,?_⟩
     ·cases hc:Ht t.sl i with
      | false=>rfl
      | true=>exact absurd (.inr (.inl (ye.1 hc))) hi
     ·cases hc:Ht t.W i with
      | false=>rfl
      | true=>exact absurd (.inl (ye.1 hc)) hi
    have hk:=yg VP k1
    rw [← zK] at hk
    obtain ⟨c,h1,h2⟩:=h.t i (by rw [hk]; exact hn)
    rw [hk] at h2
    refine ⟨c,h1,?_⟩
    obtain ⟨c0,_,h4⟩:=h0.t i hn
    revert h2 h4
    cases lk s.ae i with
    | none=>exact fun _ _=>trivial
    | lp k off=>exact fun h2 _=>h2
    | v x=>exact fun h2 h4=>Rel.move mv (Rel.under (by omega) h4) h2
   exact sd h.t k6 (fun i hi=>hT i (fun h=>h) hi)
  ·show a'.tmps.size=s.n
   rw [h.n,hs.n]
  ·show ov _ s.marks a'.defers
   have:=h.d
   rw [k3] at this
   exact this.cut fun id bE=>by have:=h0.d.ids id bE; omega
  ·refine ⟨ext,st.os,st.tape,st.output,st.size,st.aW,fun b hb ho=>st.own b hb ?_,st.im⟩
   rcases ho with ho | ⟨k,cs,hk,rfl⟩
   ·exact .inl (zX ho)
   ·rw [Ud] at hk
    obtain ⟨_,c1,Sc⟩:=QT k cs hk
    exact .inr ⟨k,c1,Sc,rfl⟩
 ·cases hd
end xQ
end Go.Am
namespace Go.Am
open Go
def eR:aT→aT
 | []=>[]
 | .put d (.lp _ _) :: l=>.put d .none :: eR l
 | .put d x :: l=>.put d x :: eR l
 | .kill _ :: l=>eR l
def SV.vO:SV→SV
 | .lp _ _=>.none
 | x=>x
theorem n7 (t:Nat):∀ l:aT,lk (eR l) t=(lk l t).vO
 | []=>rfl
 | .put d x :: l=>by
  cases x <;> simp only [eR] <;> by_cases e:d=t <;> first | (subst e; rw [aw,aw]; rfl) | (rw [aG e,aG e]; exact n7 t l)
 | .kill d :: l=>by
  simp only [eR,lk]
  rw [n7 t l]
  cases lk l t with
  | lp k off=>
   by_cases e:k=d
   ·subst e; simp [SV.vO]
   ·simp [lS e,SV.vO]
  | _=>rfl
theorem jz:∀ l:aT,Cv (eR l)=true
 | []=>rfl
 | .put d x :: l=>by
  cases x <;> simp only [eR,Cv] <;> exact jz l
 | .kill d :: l=>by simp only [eR]; exact jz l
def Sd (E:Env) (Q:Exit→St→Prop) (s:St) (G':List GO):Prop:=
 match nth G' (s.G.length+1) with
 | some (.loop busy pending _ _ _ _ _ _ _ done)=>(busy=false∨done=true) ∧
  match pending with
  | none=>Q .normal ⟨s.ae,s.boxes,ax G' (s.G.length+1) .dead,s.G.length :: s.marks,s.ro,s.n⟩
  | some c=>eQ E c Q ⟨s.ae,s.boxes,ax G' (s.G.length+1) .dead,s.G.length :: s.marks,s.ro,s.n⟩
 | _=>False
theorem uN {busy done:Bool} (h:busy=false∨done=true):(if done=true then LoopState.done else if busy=true then LoopState.busy else LoopState.ready)≠LoopState.busy:=by
 rcases h with rfl | rfl
 ·cases done <;> simp
 ·simp
theorem eQ.rangeFunc {E:Env} {Q:Exit→St→Prop} {s:St} (fp:Nat) {g:Operand} {ps:Array Tmp} {assign body:Code} (bA:s.ro=none) {f:FuncId} {first cap:List AV} (hg:bc E s.ae g=.v (.fn f first cap))
  (h:cB E f (first++[.yield (s.G.length+1)]++cap) (s.G++[.defers true]++[.loop false none fp (eR s.ae) s.n ps.toList assign body s.G.length false]) (fun _ G'=>Sd E Q s G')) :
  eQ E (.rangeFunc g ps assign body) Q s:=fun R w β a F hr hf=>by
 rw [bA] at hf
 have O3:F=Fence.wide:=hf
 subst O3
 refine wpIn_rangeFunc fun fn _=>?_
 have rg:=aI hr g
 rw [hg] at rg
 have Pp:Rel R w (.fn f first cap) (a.eval g):=rg
 -- the block for the deferred calls
 have O7:fX (R.add (.bp w.heap.size)) (w.alloc (.deferred (some []))) (.defers true) (.bp w.heap.size):=heap_alloc_new w _
 have h1:=hr.jO (.deferred (some [])) (.defers true) (.bp w.heap.size) (by exact fun _ h=>h) O7
 have s1:=cn hr (.deferred (some [])) (.bp w.heap.size) (by exact fun _ h=>h)
 have eA:(w.alloc (.deferred (some []))).heap.size=w.heap.size+1:=by simp
 generalize RB:w.alloc (.deferred (some []))=w1 at *
 generalize VQ:R.add (.bp w.heap.size)=R1 at *
 -- the loop's record
 let jh:Loop:={ state:=.ready,pending:=none,fn:=fn,tmps:=a.tmps,params:=ps,assign:=assign,body:=body,defers:=w.heap.size }
 have Fg:nth R1.obj s.G.length=some (.bp w.heap.size):=by rw [← VQ]; exact fj hr _
 have e2:Ext R1 w1 (R1.add (.bp w1.heap.size)) (w1.alloc (.loop jh)):=fP h1.g.wf _ _
 have Li:fX (R1.add (.bp w1.heap.size)) (w1.alloc (.loop jh)) (.loop false none fp (eR s.ae) s.n ps.toList assign body s.G.length false) (.bp w1.heap.size):=by
  refine ⟨⟨jh,w.heap.size,heap_alloc_new w1 _,rfl,rfl,fun i hi=>?_,hr.n,by simp [jh],rfl,rfl,rfl,e2.bp Fg⟩,jz _⟩
  rw [n7] at hi ⊢
  have cr:lk s.ae i≠.none:=fun e=>hi (by rw [e]; rfl)
  obtain ⟨c,k1,k2⟩:=hr.t i cr
  refine ⟨c,k1,?_⟩
  cases hx:lk s.ae i with
  | none=>exact absurd hx cr
  | lp k off=>rw [hx] at hi; exact absurd rfl hi
  | v x=>
   rw [hx] at k2
   exact Rel.mono (s1.ext.trans e2) (show Rel R w x c from k2)
 have h2:=h1.jO (.loop jh) (.loop false none fp (eR s.ae) s.n ps.toList assign body s.G.length false) (.bp w1.heap.size) (by exact fun _ h=>h) Li
 have s2:=cn h1 (.loop jh) (.bp w1.heap.size) (by exact fun _ h=>h)
 have FV:nth (R1.add (.bp w1.heap.size)).obj (s.G.length+1)=some (.bp w1.heap.size):=by
  have:=fj h1 (.bp w1.heap.size)
  simpa [St.dy] using this
 have st:=s1.trans s2
 generalize Ue:R1.add (.bp w1.heap.size)=R2 at *
 generalize Lm:a.eval g=fv at Pp
 cases Pp with
 | @fn _ _ _ vs us q1 q2=>
 refine ⟨w.heap.size+1,[{ target:=.collected w.heap.size,args:=#[] }],w1.alloc (.loop jh),{ target:=.fn (.func f) ⟨us⟩,args:=⟨vs⟩++#[.func (.yield (w.heap.size+1)) #[] #[]] },w1.alloc (.loop jh),f,
  ⟨vs++[.func (.yield (w.heap.size+1)) #[] #[]]++us⟩,w1.alloc (.loop jh),?_,?_,?_,?_,?_,?_⟩
 ·have:Fence.wide.round=none:=rfl
  rw [this,run_enterLoop_outer,RB]
 ·simp only [resolve,Lm,Deferred.ofValue,Sem.run_pure]
  simp [Act.eval]
 ·intro f' _
  exact trivial
 ·have:=mf (P:=E.P) h.1 (⟨vs++[.func (.yield (w.heap.size+1)) #[] #[]]++us⟩) (w1.alloc (.loop jh))
  simpa [invoke] using this
 ·intro hc; cases hc
 ·have hG:(s.dy (.defers true)).dy (.loop false none fp (eR s.ae) s.n ps.toList assign body s.G.length false)=s.bF (s.G++[.defers true]++[.loop false none fp (eR s.ae) s.n ps.toList assign body s.G.length false]):=rfl
  have Se:Rel R2 (w1.alloc (.loop jh)) (.yield (s.G.length+1)) (.func (.yield (w.heap.size+1)) #[] #[]):=by
   rw [← eA]
   exact .yield FV
  refine (h.2 R2 (w1.alloc (.loop jh)) _ h2.g ((((q1.mono st.ext).append (.one Se)).append (q2.mono st.ext)))).mono ?_
  intro e w3 he
  cases e with
  | panicked c=>exact he.elim
  | outgrown=>exact he.elim
  | returned c=>
   obtain ⟨r,G',R3,hQ,dv,Sf,LC⟩:=he
   obtain ⟨p1,p2⟩:=h2.nT Sf LC
   unfold Sd at hQ
   split at hQ
   ·rename_i busy pending ff sl nn pp pf bd dd done BR
    obtain ⟨Sg,hQ⟩:=hQ
    have FW:nth R3.obj (s.G.length+1)=some (.bp w1.heap.size):=LC.ext.bp FV
    obtain ⟨⟨r3,db,l1,l2,l3,_,_,_,_,_,_,_⟩,_⟩:=p1.g.obj _ _ _ BR FW
    have BS:r3.state≠.busy:=by rw [l2]; exact uN Sg
    have VR:w3.heap[w.heap.size+1]?=some (.loop r3):=by rw [← eA]; exact l1
    refine ⟨r3.pending,_,run_endLoop VR BS,?_⟩
    rw [l3]
    -- the record is dead
    have Pq:nth R3.obj s.G.length=some (.bp w.heap.size):=LC.ext.bp (by rw [← Ue] at e2 ⊢; exact e2.bp Fg)
    have key:∀ x:Obj,lZ x→(∀ r,Obj.loop r3=.loop r→∃ r',x=.loop r'∧mK r r')→aV E R3 (World.put w3 w1.heap.size x) β ⟨s.ae,s.boxes,ax G' (s.G.length+1) .dead,s.G.length :: s.marks,s.ro,s.n⟩ { a with defers:=[{ target:=.collected w.heap.size,args:=#[] }]++a.defers }∧Step R w β s.boxes R3 (World.put w3 w1.heap.size x) β s.boxes:=fun x hx Sh=>by
     obtain ⟨z1,z2⟩:=p1.setObj (x':=x) (go':=.dead) FW l1 trivial hx Sh (show w1.heap.size < _ by simp [World.put]; exact aZ l1)
     exact ⟨⟨z1.g,z1.b,z1.t,z1.n,⟨⟨w.heap.size,Pq,rfl⟩,z1.d⟩⟩,(st.trans p2).trans z2⟩
    obtain ⟨z1,z2⟩:=key (.loop { r3 with state:=.exhausted,pending:=pending }) trivial (fun r e=>⟨_,rfl,by cases e; exact ⟨rfl,rfl,rfl,rfl,rfl⟩⟩)
    rw [eA] at z1 z2
    cases pending with
    | none=>exact ⟨_,R3,β,hQ,z1,z2,rfl⟩
    | some c=>
     refine wpIn_mono (hQ R3 _ β _ Fence.wide z1 (by show bn R3 s.ro Fence.wide; rw [bA]; rfl)) ?_
     rintro e RL HD ⟨xH,EU,JJ,Fx,tW,oG,rW⟩
     exact ⟨xH,EU,JJ,Fx,tW,z2.trans oG,rW⟩
   ·exact hQ.elim
def LD (E:Env) (Q:Exit→St→Prop) (s:St) (G':List GO):Prop:=
 match nth G' s.G.length with
 | some (.loop busy pending _ _ _ _ _ _ _ done)=>(busy=false∨done=true) ∧
  match pending with
  | none=>Q .normal ⟨s.ae,s.boxes,ax G' s.G.length .dead,s.marks,s.ro,s.n⟩
  | some c=>eQ E c Q ⟨s.ae,s.boxes,ax G' s.G.length .dead,s.marks,s.ro,s.n⟩
 | _=>False
theorem eQ.BT {E:Env} {Q:Exit→St→Prop} {s:St} (fp:Nat) {g:Operand} {ps:Array Tmp} {assign body:Code} {id:Nat} (bA:s.ro=some id)
  {Uf:Bool} {p0:Option Code} {Ug:FuncId} {Uh:aT} {n0:Nat} {Ui:List Tmp} {Uj Uk:Code} {d0:Nat} {Ul:Bool} (bE:nth s.G id=some (.loop Uf p0 Ug Uh n0 Ui Uj Uk d0 Ul))
  {f:FuncId} {first cap:List AV} (hg:bc E s.ae g=.v (.fn f first cap))
  (h:cB E f (first++[.yield s.G.length]++cap) (s.G++[.loop false none fp (eR s.ae) s.n ps.toList assign body d0 false]) (fun _ G'=>LD E Q s G')) :
  eQ E (.rangeFunc g ps assign body) Q s:=fun R w β a F hr hf=>by
 rw [bA] at hf
 obtain ⟨b0,Um,hF⟩:=hf
 subst hF
 obtain ⟨⟨r0,R7,x1,x2,x3,x4,x5,x6,x7,x8,x9,VS⟩,x11⟩:=hr.g.obj _ _ _ bE Um
 refine wpIn_rangeFunc fun fn _=>?_
 have rg:=aI hr g
 rw [hg] at rg
 have Pp:Rel R w (.fn f first cap) (a.eval g):=rg
 -- the loop's record
 let jh:Loop:={ state:=.ready,pending:=none,fn:=fn,tmps:=a.tmps,params:=ps,assign:=assign,body:=body,defers:=r0.defers }
 have e2:Ext R w (R.add (.bp w.heap.size)) (w.alloc (.loop jh)):=fP hr.g.wf _ _
 have Li:fX (R.add (.bp w.heap.size)) (w.alloc (.loop jh)) (.loop false none fp (eR s.ae) s.n ps.toList assign body d0 false) (.bp w.heap.size):=by
  refine ⟨⟨jh,R7,heap_alloc_new w _,rfl,rfl,fun i hi=>?_,hr.n,by simp [jh],rfl,rfl,x9,e2.bp VS⟩,jz _⟩
  rw [n7] at hi ⊢
  have cr:lk s.ae i≠.none:=fun e=>hi (by rw [e]; rfl)
  obtain ⟨c,k1,k2⟩:=hr.t i cr
  refine ⟨c,k1,?_⟩
  cases hx:lk s.ae i with
  | none=>exact absurd hx cr
  | lp k off=>rw [hx] at hi; exact absurd rfl hi
  | v x=>
   rw [hx] at k2
   exact Rel.mono e2 (show Rel R w x c from k2)
 have h2:=hr.jO (.loop jh) (.loop false none fp (eR s.ae) s.n ps.toList assign body d0 false) (.bp w.heap.size) (by exact fun _ h=>h) Li
 have st:=cn hr (.loop jh) (.bp w.heap.size) (by exact fun _ h=>h)
 have FV:nth (R.add (.bp w.heap.size)).obj s.G.length=some (.bp w.heap.size):=fj hr _
 generalize Ue:R.add (.bp w.heap.size)=R2 at *
 generalize Lm:a.eval g=fv at Pp
 cases Pp with
 | @fn _ _ _ vs us q1 q2=>
 refine ⟨w.heap.size,[],w.alloc (.loop jh),{ target:=.fn (.func f) ⟨us⟩,args:=⟨vs⟩++#[.func (.yield w.heap.size) #[] #[]] },w.alloc (.loop jh),f,
  ⟨vs++[.func (.yield w.heap.size) #[] #[]]++us⟩,w.alloc (.loop jh),?_,?_,?_,?_,?_,?_⟩
 ·have:(Fence.wide.inRound b0).round=some b0:=rfl
  rw [this]
  exact run_enterLoop_inner x1 _ _ _ _ _
 ·simp only [resolve,Lm,Deferred.ofValue,Sem.run_pure]
  simp [Act.eval]
 ·intro f' _
  exact trivial
 ·have:=mf (P:=E.P) h.1 (⟨vs++[.func (.yield w.heap.size) #[] #[]]++us⟩) (w.alloc (.loop jh))
  simpa [invoke] using this
 ·intro hc; cases hc
 ·have Se:Rel R2 (w.alloc (.loop jh)) (.yield s.G.length) (.func (.yield w.heap.size) #[] #[]):=.yield FV
  have wW:=(h.2 R2 (w.alloc (.loop jh)) _ h2.g ((((q1.mono st.ext).append (.one Se)).append (q2.mono st.ext))))
  refine CallsIn.mono (F:=Fence.wide.inRound b0) wW ?_
  intro e w3 he
  cases e with
  | panicked c=>exact he.elim
  | outgrown=>exact he.elim
  | returned c=>
   obtain ⟨r,G',R3,hQ,dv,Sf,LC⟩:=he
   obtain ⟨p1,p2⟩:=h2.nT Sf LC
   unfold LD at hQ
   split at hQ
   ·rename_i busy pending ff sl nn pp pf bd dd done BR
    obtain ⟨Sg,hQ⟩:=hQ
    have FW:nth R3.obj s.G.length=some (.bp w.heap.size):=LC.ext.bp FV
    obtain ⟨⟨r3,db,l1,l2,l3,_,_,_,_,_,_,_⟩,_⟩:=p1.g.obj _ _ _ BR FW
    have BS:r3.state≠.busy:=by rw [l2]; exact uN Sg
    refine ⟨r3.pending,_,run_endLoop l1 BS,?_⟩
    rw [l3]
    have key:∀ x:Obj,lZ x→(∀ r,Obj.loop r3=.loop r→∃ r',x=.loop r'∧mK r r')→aV E R3 (World.put w3 w.heap.size x) β ⟨s.ae,s.boxes,ax G' s.G.length .dead,s.marks,s.ro,s.n⟩ { a with defers:=[]++a.defers }∧Step R w β s.boxes R3 (World.put w3 w.heap.size x) β s.boxes:=fun x hx Sh=>by
     obtain ⟨z1,z2⟩:=p1.setObj (x':=x) (go':=.dead) FW l1 trivial hx Sh (show w.heap.size < _ by simp [World.put]; exact aZ l1)
     exact ⟨⟨z1.g,z1.b,z1.t,z1.n,z1.d⟩,(st.trans p2).trans z2⟩
    obtain ⟨z1,z2⟩:=key (.loop { r3 with state:=.exhausted,pending:=pending }) trivial (fun r e=>⟨_,rfl,by cases e; exact ⟨rfl,rfl,rfl,rfl,rfl⟩⟩)
    cases pending with
    | none=>exact ⟨_,R3,β,hQ,z1,z2,rfl⟩
    | some c=>
     refine wpIn_mono (hQ R3 _ β _ (Fence.wide.inRound b0) z1 (by show bn R3 s.ro _; rw [bA]; exact ⟨b0,LC.ext.bp (e2.bp Um),rfl⟩)) ?_
     rintro e RL HD ⟨xH,EU,JJ,Fx,tW,oG,rW⟩
     exact ⟨xH,EU,JJ,Fx,tW,z2.trans oG,rW⟩
   ·exact hQ.elim
def BU (id:Nat) (Q:Bool→List GO→Prop):Exit→St→Prop:=fun e s=>match nth s.G id with
 | some (.loop _ _ fn sl n ps pf bd d _)=>match e with
  | .normal=>Q true (ax s.G id (.loop false none fn sl n ps pf bd d false))
  | .ret=>Q false (ax s.G id (.loop false (some .ret) fn sl n ps pf bd d true))
  | .exit i=>Q false (ax s.G id (.loop false (some (.exit i)) fn sl n ps pf bd d true))
  | _=>False
 | _=>False
def yh (E:Env) (id:Nat) (body:Code) (Q:Bool→List GO→Prop):Exit→St→Prop:=fun e s=>match e with
 | .normal=>match nth s.G id with
  | some (.loop false p fn sl n ps pf bd d false)=>eQ E body (BU id Q) (s.bF (ax s.G id (.loop true p fn sl n ps pf bd d false)))
  | _=>False
 | _=>False
def uO:List Tmp→List AV→aT→aT
 | t :: ts,a :: l,r=>uO ts l (.put t (.v a) :: r)
 | _,_,r=>r
def St.round (id:Nat) (ae:aT) (n:Nat) (G:List GO):St:=⟨ae,[],G,[],some id,n⟩
theorem uP {R:aj} {w:World} {β:Nat→Nat}:∀ {ts:List Tmp} {l:List AV} {cs:List Value} {r:aT} {tmps:Array Value},mM R w β r tmps→aE R w l cs→l.length=ts.length→(∀ t∈ts,t < tmps.size) →
  mM R w β (uO ts l r) ((ts.zip cs).foldl (fun tmps (t,a)=>tmps.setIfInBounds t a) tmps)
 | [],[],_,_,_,h,.nil,_,_=>h
 | t :: ts,a :: l,c :: cs,r,tmps,h,.cons hx hl,hlen,ht=>by
  have eA:t < tmps.size:=ht t (by simp)
  simp only [uO,List.zip_cons_cons,List.foldl_cons]
  refine uP ?_ hl (by simpa using hlen) (fun t' h'=>by simpa using ht t' (by simp [h']))
  have:=mM.put (a:={ tmps:=tmps,defers:=[] }) h (d:=t) (x:=.v a) (c:=c) eA hx
  simpa [Act.put] using this
 | [],_ :: _,_,_,_,_,_,hlen,_=>by simp at hlen
 | _ :: _,[],_,_,_,_,_,hlen,_=>by simp at hlen
theorem BV (l:List (Tmp × Value)):∀ tmps:Array Value,(l.foldl (fun (tmps:Array Value) (x:Tmp × Value)=>tmps.setIfInBounds x.1 x.2) tmps).size=tmps.size:=by
 induction l with
 | nil=>intro _; rfl
 | cons x l ih=>intro tmps; rw [List.foldl_cons,ih]; simp
theorem jV.intro {E:Env} {id:Nat} {args:List AV} {G:List GO} {Q:Bool→List GO→Prop} {fn:FuncId} {ae:aT} {n:Nat} {ps:List Tmp} {assign body:Code} {d:Nat} {p:Option Code}
  (hG:nth G id=some (.loop false p fn ae n ps assign body d false)) (hl:args.length=ps.length) (EJ:∀ t∈ps,t < n)
  (h:eQ E assign (yh E id body Q) (St.round id (uO ps args ae) n G)):jV E id args G Q:=fun R w cs b hg hr hb=>by
 obtain ⟨⟨r,db,l1,l2,l3,l4,l5,l6,l7,l8,l9,Ua⟩,l11⟩:=hg.obj id _ _ hG hb
 have hlen:=hr.length
 refine ⟨r,l1,by rw [l6]; simp; omega,?_⟩
 have Si:Step R w (fun _=>0) fm R w (fun _=>0) fm:=Step.refl _ _ _ _
 have Sj:aV E R w (fun _=>0) (St.round id (uO ps args ae) n G) { tmps:=(r.params.zip ⟨cs⟩).foldl (fun tmps (t,a)=>tmps.setIfInBounds t a) r.tmps,defers:=[] }:=by
  have Pr:(r.params.zip ⟨cs⟩).foldl (fun (tmps:Array Value) (x:Tmp × Value)=>tmps.setIfInBounds x.1 x.2) r.tmps=(ps.zip cs).foldl (fun (tmps:Array Value) (x:Tmp × Value)=>tmps.setIfInBounds x.1 x.2) r.tmps:=by
   rw [← Array.foldl_toList]
   simp [l6]
  refine ⟨hg,⟨fun k cs hk=>?_,fun k k' c c' hk=>?_⟩,?_,?_,trivial⟩
  ·simp [St.round,de] at hk
  ·simp [St.round,de] at hk
  ·show mM _ _ _ _ _
   have:=uP (ts:=ps) (l:=args) (cs:=cs) l4 hr hl (fun t ht=>by rw [l5]; exact EJ t ht)
   rw [← Pr] at this
   exact this
  ·show _=n
   have:=BV (ps.zip cs) r.tmps
   rw [← Pr] at this
   exact this.trans l5
 have Lf:∀ (k:Nat) (cs:List AV),de (St.round id (uO ps args ae) n G).boxes k≠some cs:=fun k cs hk=>by simp [St.round,de] at hk
 rw [l7,l8]
 refine roundIn_of_wpIn trivial (wpIn_mono (h R w (fun _=>0) _ (Fence.wide.inRound b) Sj ⟨b,hb,rfl⟩) ?_)
 rintro e a1 w1 ⟨s1,R1,β1,hq,AH,Un,Sk⟩
 unfold yh at hq
 cases e with
 | normal=>
  simp only at hq
  split at hq
  ·rename_i p' R5 N1 n' Pn H8 N5 d' Sl
   have Pe:nth R1.obj id=some (.bp b):=Un.ext.bp hb
   obtain ⟨⟨r1,VT,m1,m2,m3,m4,m5,m6,m7,m8,m9,m10⟩,m11⟩:=AH.g.obj id _ _ Sl Pe
   refine ⟨_,run_beginRound m1 m2,?_⟩
   obtain ⟨z1,z2⟩:=AH.setObj (x':=.loop { r1 with state:=.busy }) (go':=.loop true p' R5 N1 n' Pn H8 N5 d' false) Pe m1 trivial trivial (fun r e=>⟨_,rfl,by cases e; exact ⟨rfl,rfl,rfl,rfl,rfl⟩⟩)
    ⟨⟨{ r1 with state:=.busy },VT,gi _ _ _ (aZ m1),rfl,m3,m4.mono (ma (x':=.loop { r1 with state:=.busy }) m1 trivial trivial (fun r e=>⟨_,rfl,by cases e; exact ⟨rfl,rfl,rfl,rfl,rfl⟩⟩)),m5,m6,m7,m8,m9,m10⟩,m11⟩
   refine wpIn_mono (hq R1 _ β1 a1 (Fence.wide.inRound b) z1 (by show bn R1 s1.ro _; rw [Sk]; exact ⟨b,Pe,rfl⟩)) ?_
   rintro e2 a2 w2 ⟨s2,R2,β2,mR,wJ,EQ,z7⟩
   unfold BU at mR
   split at mR
   ·rename_i XP p2 QU Ps n2 Sm Sn So d2 VU Pc
    have Pt:=(Un.trans z2).trans EQ
    have EO:nth R2.obj id=some (.bp b):=Pt.ext.bp hb
    obtain ⟨⟨r2,VV,o1,o2,o3,o4,o5,o6,o7,o8,o9,JW⟩,pj⟩:=wJ.g.obj id _ _ Pc EO
    have fin:∀ (j:Option Code),xP E R w (fun b' G'=>G'=ax s2.G id (.loop false j QU Ps n2 Sm Sn So d2 (!j.isNone))∧b'=j.isNone) (.returned (.bool j.isNone)) (w2.putObj b (.loop { r2 with state:=if j.isNone then .ready else .done,pending:=j })):=fun j=>by
     obtain ⟨y1,y2⟩:=wJ.setObj (x':=.loop { r2 with state:=if j.isNone then .ready else .done,pending:=j }) (go':=.loop false j QU Ps n2 Sm Sn So d2 (!j.isNone)) EO o1 trivial trivial (fun r e=>⟨_,rfl,by cases e; exact ⟨rfl,rfl,rfl,rfl,rfl⟩⟩)
      ⟨⟨{ r2 with state:=if j.isNone then .ready else .done,pending:=j },VV,gi _ _ _ (aZ o1),by cases j <;> rfl,rfl,o4.mono (ma (x':=.loop { r2 with state:=if j.isNone then .ready else .done,pending:=j }) o1 trivial trivial (fun r e=>⟨_,rfl,by cases e; exact ⟨rfl,rfl,rfl,rfl,rfl⟩⟩)),o5,o6,o7,o8,o9,JW⟩,pj⟩
     exact ⟨_,_,R2,⟨rfl,rfl⟩,rfl,y1.g,ua (Pt.trans y2) Lf⟩
    have mk:∀ (j:Option Code),Q j.isNone (ax s2.G id (.loop false j QU Ps n2 Sm Sn So d2 (!j.isNone)))→∃ v w',(Instr.endRound b j).run E.P w2=.ok v w'∧xP E R w Q (.returned v) w':=fun j hQ=>by
     refine ⟨_,_,run_endRound j o1,?_⟩
     obtain ⟨r',G',R',⟨h1,h2⟩,h3⟩:=fin j
     subst h1; subst h2
     exact ⟨_,_,R',hQ,h3⟩
    cases e2 with
    | normal=>exact mk none mR
    | ret=>exact mk (some .ret) mR
    | exit i=>exact mk (some (.exit i)) mR
    | _=>exact mR.elim
   ·exact mR.elim
  ·exact hq.elim
 | _=>exact hq.elim
end Go.Am
