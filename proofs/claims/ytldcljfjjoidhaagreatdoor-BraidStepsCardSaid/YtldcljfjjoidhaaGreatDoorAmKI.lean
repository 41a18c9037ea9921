/- The abstract machine: what is asked of bodies; values are brought to a short form. -/
import Derived.Test.YtldcljfjjoidhaaGreatDoorAmKH
import Derived.RangeFuncIn
import Derived.RangeFuncRecord
set_option linter.all false
namespace Go.Am
open Go
def bA (dt:Nat→Option af):Code→Bool
 | .region id ops true=>match dt id with
  | some p=>Dw ops p
  | none=>false
 | .seq x y=>bA dt x&&bA dt y
 | .cond _ x y=>bA dt x&&bA dt y
 | .block _ c=>bA dt c
 | .loop c=>bA dt c
 | .scope c=>bA dt c
 | .rangeFunc _ _ a b=>bA dt a&&bA dt b
 | _=>true
structure Gm extends Env where
 dt:FuncId→Nat→Option af
 okF:FuncId→Bool
 P4:∀ f fn c,okF f=true→P.funcs[f]?=some fn→fn.body=some c→bA (dt f) c=true
def iJ {α:Type} (n:Nat) (K:Nat→α):α:=match n with
 | 0=>K 0
 | m+1=>K (Nat.succ m)
def vA {α:Type} (n:Int) (K:Int→α):α:=match n with
 | .ofNat m=>iJ m fun m=>K (.ofNat m)
 | .negSucc m=>iJ m fun m=>K (.negSucc m)
def nE {α β:Type}:List β→(List β→α)→α
 | [],K=>K []
 | a :: l,K=>nE l fun l=>K (a :: l)
def zF {α:Type} (v:AV) (K:AV→α):α:=match v with
 | .int k n=>vA n fun n=>K (.int k n)
 | .bool true=>K (.bool true)
 | .bool false=>K (.bool false)
 | .list k sz es=>nE es fun es=>K (.list k sz es)
 | .str l=>nE l fun l=>K (.str l)
 | .jh id off sz len cap=>iJ off fun off=>iJ len fun len=>iJ cap fun cap=>K (.jh id off sz len cap)
 | .ptr id off=>iJ off fun off=>K (.ptr id off)
 | .agg cs=>nE cs fun cs=>K (.agg cs)
 | v=>K v
def zG {α:Type} (l:a8) (K:a8→α):α:=match l with
 | .put d (.v a) :: l=>zF a fun a=>K (.put d (.v a) :: l)
 | .put d (.lp k off) :: l=>iJ off fun off=>K (.put d (.lp k off) :: l)
 | l=>K l
def zH {α:Type} (l:cw) (K:cw→α):α:=match l with
 | (d,cs) :: l=>nE cs fun cs=>K ((d,cs) :: l)
 | []=>K []
def Dx {α:Type} (s:St) (K:St→α):α:=match s with
 | ⟨sl,bx,G,m,ro,n⟩=>zG sl fun sl=>zH bx fun bx=>nE G fun G=>K ⟨sl,bx,G,m,ro,n⟩
theorem nF {α:Type} (n:Nat) (K:Nat→α):iJ n K=K n:=by cases n <;> rfl
theorem Bx {α:Type} (n:Int) (K:Int→α):vA n K=K n:=by cases n <;> simp [vA,nF]
theorem oB {α β:Type}:∀ (l:List β) (K:List β→α),nE l K=K l
 | [],_=>rfl
 | a :: l,K=>by simp only [nE]; rw [oB]
theorem Dy {α:Type} (v:AV) (K:AV→α):zF v K=K v:=by
 unfold zF
 split <;> simp [nF,Bx,oB]
theorem Dz {α:Type} (l:a8) (K:a8→α):zG l K=K l:=by
 unfold zG
 split <;> simp [nF,Dy]
theorem DA {α:Type} (l:cw) (K:cw→α):zH l K=K l:=by
 unfold zH
 split <;> simp [oB]
theorem Gn {α:Type} (s:St) (K:St→α):Dx s K=K s:=by
 obtain ⟨sl,bx,G,m,ro,n⟩:=s
 simp [Dx,Dz,DA,oB]
def zI:SV→SV→Bool
 | .v a,.v b=>dK a b
 | .lp k o,.lp k' o'=>Nat.beq k k'&&Nat.beq o o'
 | _,_=>false
def X7 (E:Env) (f:FuncId) (ops:List Oper) (o:Oper) (s:St):Bool:=match AG ops s o with
 | some true=>match o.dst,ap E f s o with
  | some d,some (c,s')=>c&&zI (lk s'.ae d) (lk s.ae d)
  | _,_=>false
 | some false=>true
 | none=>false
section
variable {E:Env} {f:FuncId} {s:St}
theorem yC {a b:SV} (h:zI a b=true):a=b:=by
 unfold zI at h
 split at h
 ·rw [iC h]
 ·simp only [Bool.and_eq_true,Nat.beq_eq] at h; rw [h.1,h.2]
 ·cases h
theorem yD {ops:List Oper} {o:Oper} (h:X7 E f ops o s=true):Dn E f ops o s:=by
 unfold X7 at h
 unfold Dn
 split at h
 ·rename_i hg
  rw [hg]
  simp only
  split at h
  ·rename_i d c s' hd hs
   rw [Bool.and_eq_true] at h
   obtain ⟨rfl,h⟩:=h
   rw [hd,hs]
   exact ⟨rfl,yC h⟩
  ·cases h
 ·rename_i hg
  rw [hg]
  trivial
 ·cases h
end
end Go.Am
namespace Go.Am
open Go
mutual
def AV.under (n:Nat):AV→Bool
 | .agg cs=>aC n cs
 | .bf cs=>aC n cs
 | .ep cs=>aC n cs
 | .list (.own id) _ _=>Nat.blt id n
 | .list (.ba id _) _ _=>Nat.blt id n
 | .fn _ x y=>aC n x&&aC n y
 | .iface _ v=>v.under n
 | .ptr id _=>Nat.blt id n
 | .jh id _ _ _ _=>Nat.blt id n
 | .dA id _ _ _ _=>Nat.blt id n
 | .gp id _ _ _ _ _=>Nat.blt id n
 | .map id=>Nat.blt id n
 | .yield id=>Nat.blt id n
 | _=>true
def aC (n:Nat):List AV→Bool
 | []=>true
 | a :: l=>a.under n&&aC n l
end
mutual
theorem gN (n:Nat):∀ {a:AV},a.closed=true→a.under n=true:=fun {a} h=>by
 cases a with
 | agg cs=>simp only [AV.closed,AV.under] at *; exact cb n h
 | bf cs=>simp only [AV.closed,AV.under] at *; exact cb n h
 | ep cs=>simp only [AV.closed,AV.under] at *; exact cb n h
 | list k sz es=>cases k <;> simp_all [AV.closed,AV.under,LK.closed]
 | fn f x y=>
  simp only [AV.closed,AV.under,Bool.and_eq_true] at *
  exact ⟨cb n h.1,cb n h.2⟩
 | iface t v=>simp only [AV.closed,AV.under] at *; exact gN n h
 | _=>simp_all [AV.closed,AV.under]
theorem cb (n:Nat):∀ {l:List AV},aB l=true→aC n l=true
 | [],_=>rfl
 | a :: l,h=>by
  simp only [aB,aC,Bool.and_eq_true] at *
  exact ⟨gN n h.1,cb n h.2⟩
end
theorem oC {a b:Nat} (h:Nat.blt a b=true):a < b:=Nat.le_of_ble_eq_true h
mutual
theorem kT:∀ {a:AV},a.under 0=true→a.closed=true:=fun {a} h=>by
 cases a with
 | agg cs=>simp only [AV.closed,AV.under] at *; exact ee h
 | bf cs=>simp only [AV.closed,AV.under] at *; exact ee h
 | ep cs=>simp only [AV.closed,AV.under] at *; exact ee h
 | list k sz es=>cases k <;> first | rfl | (simp [AV.under] at h)
 | fn f x y=>
  simp only [AV.closed,AV.under,Bool.and_eq_true] at *
  exact ⟨ee h.1,ee h.2⟩
 | iface t v=>simp only [AV.closed,AV.under] at *; exact kT h
 | ptr id off=>simp only [AV.under] at h; exact absurd (oC h) (Nat.not_lt_zero _)
 | jh id off sz len cap=>simp only [AV.under] at h; exact absurd (oC h) (Nat.not_lt_zero _)
 | dA id f off sz len=>simp only [AV.under] at h; exact absurd (oC h) (Nat.not_lt_zero _)
 | gp id f i off sz t=>simp only [AV.under] at h; exact absurd (oC h) (Nat.not_lt_zero _)
 | map id=>simp only [AV.under] at h; exact absurd (oC h) (Nat.not_lt_zero _)
 | yield id=>simp only [AV.under] at h; exact absurd (oC h) (Nat.not_lt_zero _)
 | _=>rfl
theorem ee:∀ {l:List AV},aC 0 l=true→aB l=true
 | [],_=>rfl
 | a :: l,h=>by
  simp only [aC,aB,Bool.and_eq_true] at *
  exact ⟨kT h.1,ee h.2⟩
end
section move
variable {R R2:ak} {w:World} {n:Nat}
structure Mv (R R2:ak) (n:Nat):Prop where
 I:∀ b o,R.I b o→R2.I b o
 obj:∀ id ro,id < n→nth R.obj id=some ro→nth R2.obj id=some ro
theorem jc {a b:Nat} (h:Nat.blt a b=true):a < b:=Nat.le_of_ble_eq_true h
theorem jT {a b:Nat} (h:a < b):Nat.blt a b=true:=Nat.ble_eq_true_of_le h
theorem zg.move (m:Mv R R2 n) {k:LK} {b o len cap:Nat} (h:zg R k b o len cap) (hk:∀ id,(k=.own id∨∃ j,k=.ba id j)→id < n):zg R2 k b o len cap:=by
 cases k with
 | nil=>exact h
 | full=>exact h
 | ki=>trivial
 | own id=>obtain ⟨ro,h1,h2⟩:=h; exact ⟨ro,m.obj id ro (hk id (.inl rfl)) h1,h2⟩
 | ba id j=>obtain ⟨ro,h1,h2⟩:=h; exact ⟨ro,m.obj id ro (hk id (.inr ⟨j,rfl⟩)) h1,h2⟩
mutual
theorem Rel.move (m:Mv R R2 n):∀ {a:AV} {c:Value},a.under n=true→Rel R w a c→Rel R2 w a c
 | _,_,_,.bool b=>.bool b
 | _,_,_,.int k i=>.int k i
 | _,_,_,.str l=>.str l
 | _,_,hb,.agg h h1=>.agg (h.move m (by simpa [AV.under] using hb)) h1
 | _,_,hb,.bf h=>.bf (h.move m (by simpa [AV.under] using hb))
 | _,_,_,.gG=>.gG
 | _,_,hb,.ptr h=>.ptr (m.obj _ _ (jc (by simpa [AV.under] using hb)) h)
 | _,_,hb,.ep h=>.ep (h.move m (by simpa [AV.under] using hb))
 | _,_,_,.jj=>.jj
 | _,_,_,.hY=>.hY
 | _,_,_,.lU=>.lU
 | _,_,hb,.ln h ho=>.ln (m.obj _ _ (jc (by simpa [AV.under] using hb)) h) ho
 | _,_,hb,.kL h ho=>.kL (m.obj _ _ (jc (by simpa [AV.under] using hb)) h) ho
 | .list k sz es,_,hb,.list h hl hc hk=>.list (h.move m) hl hc (hk.move m fun id e=>by rcases e with e | ⟨j,e⟩ <;> subst e <;> exact jc (by simpa [AV.under] using hb))
 | _,_,hb,.jh h hc=>.jh (m.obj _ _ (jc (by simpa [AV.under] using hb)) h) hc
 | _,_,hb,.iB h ho=>.iB (m.obj _ _ (jc (by simpa [AV.under] using hb)) h) ho
 | _,_,hb,.dA h ho hc=>.dA (m.obj _ _ (jc (by simpa [AV.under] using hb)) h) ho hc
 | _,_,hb,.gp h ho=>.gp (m.obj _ _ (jc (by simpa [AV.under] using hb)) h) ho
 | _,_,_,.jE=>.jE
 | _,_,hb,.map h=>.map (m.obj _ _ (jc (by simpa [AV.under] using hb)) h)
 | _,_,_,.cm=>.cm
 | _,_,hb,.fn h h'=>.fn (h.move m (by simp only [AV.under,Bool.and_eq_true] at hb; exact hb.1)) (h'.move m (by simp only [AV.under,Bool.and_eq_true] at hb; exact hb.2))
 | _,_,hb,.yield h=>.yield (m.obj _ _ (jc (by simpa [AV.under] using hb)) h)
 | _,_,_,.mN=>.mN
 | _,_,hb,.iface h=>.iface (h.move m (by simpa [AV.under] using hb))
theorem aH.move (m:Mv R R2 n):∀ {l:List AV} {cs:List Value},aH R w l cs→aC n l=true→aH R2 w l cs
 | _,_,.nil,_=>.nil
 | _,_,.cons h t,hb=>by
  simp only [aC,Bool.and_eq_true] at hb
  exact .cons (h.move m hb.1) (t.move m hb.2)
theorem fx.move (m:Mv R R2 n):∀ {b o sz:Nat} {l:List AV},fx R w b o sz l→fx R2 w b o sz l
 | _,_,_,_,.nil=>.nil
 | _,_,_,_,@fx.cons _ _ _ _ _ e _ hl ht hk h t=>.cons hl ht hk (h.move m (by
   cases e with
   | agg cs=>exact cb n (show aB cs=true by simpa [AV.closed] using hk)
   | bf cs=>simp [AV.aQ] at ht
   | _=>simp only [AV.cells,aC,Bool.and_true]; exact gN n hk)) (t.move m)
theorem dx.move (m:Mv R R2 n):∀ {b o:Nat} {l:List AV},dx R w b o l→aC n l=true→dx R2 w b o l
 | _,_,_,.nil,_=>.nil
 | _,_,_,.cons hc h1 hi h t,hb=>by
  simp only [aC,Bool.and_eq_true] at hb
  exact .cons hc h1 (m.I _ _ hi) (h.move m hb.1) (t.move m hb.2)
end
theorem iX.move {E:Env} (m:Mv R R2 n) {g:Nat} {cs:List AV} (h:iX E R w g cs) (hu:aC n cs=true):iX E R2 w g cs:=
 ⟨h.1.move m hu,fun hx=>⟨m.I _ _ (h.2 hx).1,(h.2 hx).2⟩⟩
mutual
theorem Rel.under (hn:R.obj.length≤n):∀ {a:AV} {c:Value},Rel R w a c→a.under n=true
 | _,_,.bool _ | _,_,.int _ _ | _,_,.str _ | _,_,.gG | _,_,.jj | _,_,.hY | _,_,.lU | _,_,.jE | _,_,.cm | _,_,.mN=>by simp [AV.under]
 | _,_,.agg h _=>by simp only [AV.under]; exact h.under hn
 | _,_,.bf h=>by simp only [AV.under]; exact h.under hn
 | _,_,.ptr h=>by simp only [AV.under]; exact jT (Nat.lt_of_lt_of_le (bJ h) hn)
 | _,_,.ep h=>by simp only [AV.under]; exact h.under hn
 | _,_,.ln h _=>by simp only [AV.under]; exact jT (Nat.lt_of_lt_of_le (bJ h) hn)
 | _,_,.kL h _=>by simp only [AV.under]; exact jT (Nat.lt_of_lt_of_le (bJ h) hn)
 | _,_,@Rel.list _ _ k _ _ _ _ _ _ _ _ _ hk=>by
  cases k with
  | own id=>obtain ⟨ro,h1,_⟩:=hk; simp only [AV.under]; exact jT (Nat.lt_of_lt_of_le (bJ h1) hn)
  | ba id j=>obtain ⟨ro,h1,_⟩:=hk; simp only [AV.under]; exact jT (Nat.lt_of_lt_of_le (bJ h1) hn)
  | _=>simp [AV.under]
 | _,_,.jh h _=>by simp only [AV.under]; exact jT (Nat.lt_of_lt_of_le (bJ h) hn)
 | _,_,.iB h _=>by simp only [AV.under]; exact jT (Nat.lt_of_lt_of_le (bJ h) hn)
 | _,_,.dA h _ _=>by simp only [AV.under]; exact jT (Nat.lt_of_lt_of_le (bJ h) hn)
 | _,_,.gp h _=>by simp only [AV.under]; exact jT (Nat.lt_of_lt_of_le (bJ h) hn)
 | _,_,.map h=>by simp only [AV.under]; exact jT (Nat.lt_of_lt_of_le (bJ h) hn)
 | _,_,.fn h h'=>by simp only [AV.under,Bool.and_eq_true]; exact ⟨h.under hn,h'.under hn⟩
 | _,_,.yield h=>by simp only [AV.under]; exact jT (Nat.lt_of_lt_of_le (bJ h) hn)
 | _,_,.iface h=>by simp only [AV.under]; exact h.under hn
theorem aH.under (hn:R.obj.length≤n):∀ {l:List AV} {cs:List Value},aH R w l cs→aC n l=true
 | _,_,.nil=>rfl
 | _,_,.cons h t=>by simp only [aC,Bool.and_eq_true]; exact ⟨h.under hn,t.under hn⟩
theorem dx.under (hn:R.obj.length≤n):∀ {b o:Nat} {l:List AV},dx R w b o l→aC n l=true
 | _,_,_,.nil=>rfl
 | _,_,_,.cons _ _ _ h t=>by simp only [aC,Bool.and_eq_true]; exact ⟨h.under hn,t.under hn⟩
end
end move
end Go.Am
namespace Go.Am
open Go
mutual
def aj.under (n:Nat):aj→Bool
 | .agg ps=>ps.under n
 | .bf ps=>ps.under n
 | .own id _ _=>Nat.blt id n
 | .ba id _ _=>Nat.blt id n
 | .fk v=>v.under n
 | .two u v=>u.under n&&v.under n
 | _=>true
def aJ.under (n:Nat):aJ→Bool
 | .nil=>true
 | .cons p ps=>p.under n&&ps.under n
end
mutual
theorem aj.di {n:Nat}:∀ (p:aj) (x:p.T),p.under n=true→(p.enc x).under n=true
 | .int k,x,_=>by simp [aj.enc,AV.under]
 | .bool,x,_=>by simp [aj.enc,AV.under]
 | .str,x,_=>by simp [aj.enc,AV.under]
 | .agg ps,x,h=>by
  simp only [aj.enc,AV.under]
  exact ps.di x h
 | .bf ps,x,h=>by
  simp only [aj.enc,AV.under]
  exact ps.di x h
 | .list sz p,x,_=>by simp [aj.enc,AV.under]
 | .own id sz p,x,h=>by
  simp only [aj.enc,AV.under]
  exact h
 | .ba id sz p,x,h=>by
  simp only [aj.enc,AV.under]
  exact h
 | .fk v,x,h=>by
  simp only [aj.enc]
  exact h
 | .two u v,(x:Bool),h=>by
  simp only [aj.under,Bool.and_eq_true] at h
  change AV.under n (bif x then v else u)=true
  cases x
  ·exact h.1
  ·exact h.2
theorem aJ.di {n:Nat}:∀ (ps:aJ) (x:ps.T),ps.under n=true→aC n (ps.enc x)=true
 | .nil,x,_=>rfl
 | .cons p .nil,x,h=>by
  simp only [aJ.under,Bool.and_true] at h
  simp only [aJ.enc,aC,Bool.and_true]
  exact p.di _ h
 | .cons p (.cons q ps),x,h=>by
  rw [aJ.under,Bool.and_eq_true] at h
  simp only [aJ.enc,aC,Bool.and_eq_true]
  exact ⟨p.di _ h.1,(aJ.cons q ps).di _ h.2⟩
end
mutual
def AV.exact:AV→Bool
 | .bool _=>true
 | .int _ _=>true
 | .str _=>true
 | .agg cs=>fh cs
 | _=>false
def fh:List AV→Bool
 | []=>true
 | a :: l=>a.exact&&fh l
end
mutual
theorem aj.iK:∀ (p:aj) {a:AV},p.fits a=true→a.exact=true→p.enc (p.bn a)=a
 | .int k,a,h,e=>by
  cases a with
  | int k' n=>have hk:QQ k k'=true:=h; rw [CE hk]; rfl
  | _=>cases h
 | .bool,a,h,e=>by
  cases a with
  | bool b=>rfl
  | _=>cases h
 | .str,a,h,e=>by
  cases a with
  | str b=>rfl
  | _=>cases h
 | .agg ps,a,h,e=>by
  cases a with
  | agg cs=>
   have e':fh cs=true:=by simpa [AV.exact] using e
   show AV.agg (ps.enc (ps.bn cs))=_
   rw [ps.iK (show ps.fits cs=true from h) e']
  | _=>cases h
 | .bf ps,a,h,e=>by cases a <;> first | (cases h; done) | simp [AV.exact] at e
 | .list sz p,a,h,e=>by cases a <;> first | (cases h; done) | simp [AV.exact] at e
 | .own id sz p,a,h,e=>by cases a <;> first | (cases h; done) | simp [AV.exact] at e
 | .ba id sz p,a,h,e=>by cases a <;> first | (cases h; done) | simp [AV.exact] at e
 | .fk u,a,h,e=>(iC (show dK a u=true from h)).symm
 | .two u v,a,h,_=>tV h
theorem aJ.iK:∀ (ps:aJ) {l:List AV},ps.fits l=true→fh l=true→ps.enc (ps.bn l)=l
 | .nil,l,h,_=>by
  cases l with
  | nil=>rfl
  | cons _ _=>cases h
 | .cons p .nil,l,h,e=>by
  cases l with
  | nil=>cases h
  | cons a l=>
   have h':(p.fits a&&l.isEmpty)=true:=h
   simp only [Bool.and_eq_true,List.isEmpty_iff] at h'
   obtain ⟨h1,rfl⟩:=h'
   simp only [fh,Bool.and_true] at e
   show [p.enc (p.bn a)]=_
   rw [p.iK h1 e]
 | .cons p (.cons q ps),l,h,e=>by
  cases l with
  | nil=>cases h
  | cons a l=>
   have h':(p.fits a&&(aJ.cons q ps).fits l)=true:=h
   rw [Bool.and_eq_true] at h'
   simp only [fh,Bool.and_eq_true] at e
   show p.enc (p.bn a) :: (aJ.cons q ps).enc ((aJ.cons q ps).bn l)=_
   rw [p.iK h'.1 e.1,(aJ.cons q ps).iK h'.2 e.2]
end
mutual
theorem ms:∀ {a:AV},a.exact=true→a.closed=true:=fun {a} h=>by
 cases a with
 | agg cs=>simp only [AV.exact,AV.closed] at *; exact pc h
 | _=>simp_all [AV.exact,AV.closed]
theorem pc:∀ {l:List AV},fh l=true→aB l=true
 | [],_=>rfl
 | a :: l,h=>by
  simp only [fh,aB,Bool.and_eq_true] at *
  exact ⟨ms h.1,pc h.2⟩
end
def ai:List (AV × AV)→List AV
 | []=>[]
 | (k,v) :: l=>.agg [k,v] :: ai l
def VZ:AV→AV × AV
 | .agg [k,v]=>(k,v)
 | _=>(eX,eX)
def ab:List AV→List (AV × AV)
 | []=>[]
 | a :: l=>VZ a :: ab l
def AV.entries:AV→List (AV × AV)
 | .list _ _ es=>ab es
 | _=>[]
theorem mM:∀ l:List (AV × AV),ab (ai l)=l
 | []=>rfl
 | (k,v) :: l=>by simp only [ai,ab,mM l]; rfl
def AV.Ip:AV→Bool
 | .list .ki _ es=>fh es
 | _=>false
def jd:List AV→List AV→Prop
 | [],[]=>True
 | a :: l,b :: r=>hU a b∧jd l r
 | _,_=>False
theorem jd.refl:∀ l:List AV,jd l l
 | []=>trivial
 | a :: l=>⟨hU.refl a,jd.refl l⟩
theorem jd.length:∀ {l r:List AV},jd l r→l.length=r.length
 | [],[],_=>rfl
 | _ :: _,_ :: _,h=>by simp [jd.length h.2]
 | [],_ :: _,h=>h.elim
 | _ :: _,[],h=>h.elim
theorem jd.of {α:Type} {f:AV→Bool} {d:AV→α} {g:α→AV} (Er:∀ v,f v=true→hU v (g (d v))):∀ {es:List AV},allFit f es=true→jd es ((es.map d).map g)
 | [],_=>trivial
 | e :: es,h=>by
  simp only [allFit,Bool.and_eq_true] at h
  exact ⟨Er e h.1,jd.of Er h.2⟩
theorem aj.By (p:aj) {a:AV} (h:p.fits a=true):jd a.dB (p.enc (p.bn a)).dB:=by
 cases p with
 | list sz p=>
  cases a with
  | list k bI es=>
   have hb:((Nat.beq sz bI || es.isEmpty)&&allFit p.fits es)=true:=h
   rw [Bool.and_eq_true] at hb
   exact jd.of (fun v hv=>p.cH hv) hb.2
  | _=>cases h
 | own id sz p=>
  cases a with
  | list k bI es=>
   cases k with
   | own iS=>
    have hb:((Nat.beq id iS&&Nat.beq sz bI)&&allFit p.fits es)=true:=h
    rw [Bool.and_eq_true] at hb
    exact jd.of (fun v hv=>p.cH hv) hb.2
   | _=>cases h
  | _=>cases h
 | ba id sz p=>
  cases a with
  | list k bI es=>
   cases k with
   | ba iS j=>
    have hb:((Nat.beq id iS&&Nat.beq sz bI)&&allFit p.fits es)=true:=h
    rw [Bool.and_eq_true] at hb
    exact jd.of (fun v hv=>p.cH hv) hb.2
   | _=>cases h
  | _=>cases h
 | fk u=>rw [show a=u from iC (show dK a u=true from h)]; exact jd.refl _
 | two u v=>rw [tV h]; exact jd.refl _
 | _=>cases a <;> first | (cases h; done) | exact jd.refl _
def Hj:List AV→List AV→Prop
 | [],[]=>True
 | a :: l,b :: r=>(a.exact=true→b=a)∧(a.Ip=true→b.dB=a.dB)∧jd a.dB b.dB∧Hj l r
 | _,_=>False
theorem vB {f:AV→Bool} {α:Type} {d:AV→α} {g:α→AV} (Er:∀ a,f a=true→a.exact=true→g (d a)=a):∀ {es:List AV},allFit f es=true→fh es=true→(es.map d).map g=es
 | [],_,_=>rfl
 | a :: l,h,e=>by
  simp only [allFit,fh,Bool.and_eq_true] at *
  simp only [List.map_cons,Er a h.1 e.1,vB Er h.2 e.2]
theorem aj.Bz (p:aj) {a:AV} (h:p.fits a=true) (e:a.Ip=true):(p.enc (p.bn a)).dB=a.dB:=by
 cases a with
 | list k bI es=>
  cases k with
  | ki=>
   have e':fh es=true:=e
   cases p with
   | list sz p=>
    have hb:((Nat.beq sz bI || es.isEmpty)&&allFit p.fits es)=true:=h
    rw [Bool.and_eq_true] at hb
    show (es.map p.bn).map p.enc=_
    rw [vB (fun a=>p.iK) hb.2 e']
    rfl
   | fk u=>rw [show AV.list .ki bI es=u from iC (show dK _ u=true from h)]; rfl
   | two u v=>rw [tV h]
   | _=>cases h
  | _=>cases e
 | _=>cases e
theorem aJ.Iq:∀ (ps:aJ) {l:List AV},ps.fits l=true→Hj l (ps.enc (ps.bn l))
 | .nil,l,h=>by
  cases l with
  | nil=>trivial
  | cons _ _=>cases h
 | .cons p .nil,l,h=>by
  cases l with
  | nil=>cases h
  | cons a l=>
   have h':(p.fits a&&l.isEmpty)=true:=h
   simp only [Bool.and_eq_true,List.isEmpty_iff] at h'
   obtain ⟨h1,rfl⟩:=h'
   exact ⟨p.iK h1,p.Bz h1,p.By h1,trivial⟩
 | .cons p (.cons q ps),l,h=>by
  cases l with
  | nil=>cases h
  | cons a l=>
   have h':(p.fits a&&(aJ.cons q ps).fits l)=true:=h
   rw [Bool.and_eq_true] at h'
   exact ⟨p.iK h'.1,p.Bz h'.1,p.By h'.1,(aJ.cons q ps).Iq h'.2⟩
theorem Hj.split:∀ {l r l':List AV},Hj (l++r) l'→∃ a b,l'=a++b∧Hj l a∧Hj r b∧a.length=l.length
 | [],r,l',h=>⟨[],l',rfl,trivial,h,rfl⟩
 | x :: l,r,[],h=>h.elim
 | x :: l,r,y :: l',h=>by
  obtain ⟨a,b,rfl,h2,h3,h4⟩:=Hj.split (l:=l) (r:=r) (l':=l') h.2.2.2
  exact ⟨y :: a,b,rfl,⟨h.1,h.2.1,h.2.2.1,h2⟩,h3,by simp [h4]⟩
mutual
def AV.vC (L:Nat→Nat):AV→AV
 | .dA id 0 0 sz 0=>.dA id (L id) 0 sz (L id)
 | .fn f x y=>.fn f (Ir L x) (Ir L y)
 | v=>v
def Ir (L:Nat→Nat):List AV→List AV
 | []=>[]
 | a :: l=>a.vC L :: Ir L l
end
mutual
def aj.inst (L:Nat→Nat):aj→aj
 | .agg ps=>.agg (ps.inst L)
 | .bf ps=>.bf (ps.inst L)
 | .fk v=>.fk (v.vC L)
 | p=>p
def aJ.inst (L:Nat→Nat):aJ→aJ
 | .nil=>.nil
 | .cons p ps=>.cons (p.inst L) (ps.inst L)
end
mutual
def aj.jU (L:Nat→Nat):(p:aj)→p.T→AV
 | .int k,(n:Int)=>.int k n
 | .bool,(b:Bool)=>.bool b
 | .str,(s:List UInt8)=>.str s
 | .agg ps,x=>.agg (ps.jU L x)
 | .bf ps,x=>.bf (ps.jU L x)
 | .list sz p,(xs:List p.T)=>.list .ki sz (xs.map p.enc)
 | .own id sz p,(xs:List p.T)=>.list (.own id) sz (xs.map p.enc)
 | .ba id sz p,(x:Nat × List p.T)=>.list (.ba id x.1) sz (x.2.map p.enc)
 | .fk v,_=>v.vC L
 | .two u v,(b:Bool)=>bif b then v else u
def aJ.jU (L:Nat→Nat):(ps:aJ)→ps.T→List AV
 | .nil,_=>[]
 | .cons p .nil,x=>[p.jU L x]
 | .cons p (.cons q ps),x=>p.jU L x.1 :: (aJ.cons q ps).jU L x.2
end
mutual
def aj.lE (L:Nat→Nat):aj→AV→Bool
 | .int k,v=>aj.fits (.int k) v
 | .bool,v=>aj.fits .bool v
 | .str,v=>aj.fits .str v
 | .agg ps,v=>match v with
  | .agg cs=>ps.lE L cs
  | _=>false
 | .bf ps,v=>match v with
  | .bf cs=>ps.lE L cs
  | _=>false
 | .list sz p,v=>aj.fits (.list sz p) v
 | .own id sz p,v=>aj.fits (.own id sz p) v
 | .ba id sz p,v=>aj.fits (.ba id sz p) v
 | .fk v,u=>dK u (v.vC L)
 | .two u v,a=>aj.fits (.two u v) a
def aJ.lE (L:Nat→Nat):aJ→List AV→Bool
 | .nil,l=>l.isEmpty
 | .cons p ps,l=>match l with
  | a :: l=>p.lE L a&&ps.lE L l
  | []=>false
end
def aJ.Gp (L:Nat→Nat) (ps:aJ) (l:List AV):Option ps.T:=bif ps.lE L l then some (ps.bn l) else none
mutual
theorem aj.ik (L:Nat→Nat):∀ (p:aj) (a:AV),p.lE L a=(p.inst L).fits a
 | .int _,_=>rfl
 | .bool,_=>rfl
 | .str,_=>rfl
 | .agg ps,a=>by
  simp only [aj.lE,aj.inst,aj.fits]
  cases a <;> first | rfl | exact ps.ik L _
 | .bf ps,a=>by
  simp only [aj.lE,aj.inst,aj.fits]
  cases a <;> first | rfl | exact ps.ik L _
 | .list _ _,_=>rfl
 | .own _ _ _,_=>rfl
 | .ba _ _ _,_=>rfl
 | .fk _,_=>rfl
 | .two _ _,_=>rfl
theorem aJ.ik (L:Nat→Nat):∀ (ps:aJ) (l:List AV),ps.lE L l=(ps.inst L).fits l
 | .nil,_=>rfl
 | .cons p ps,l=>by
  cases l with
  | nil=>rfl
  | cons a l=>
   simp only [aJ.lE,aJ.inst,aJ.fits]
   rw [p.ik L a,ps.ik L l]
end
mutual
theorem aj.gA (L:Nat→Nat):∀ (p:aj) (a:AV),p.jU L (p.bn a)=(p.inst L).enc ((p.inst L).bn a)
 | .int _,_=>rfl
 | .bool,_=>rfl
 | .str,_=>rfl
 | .agg ps,a=>congrArg AV.agg (ps.gA L a.iT)
 | .bf ps,a=>congrArg AV.bf (ps.gA L a.QR)
 | .list _ _,_=>rfl
 | .own _ _ _,_=>rfl
 | .ba _ _ _,_=>rfl
 | .fk _,_=>rfl
 | .two _ _,_=>rfl
theorem aJ.gA (L:Nat→Nat):∀ (ps:aJ) (l:List AV),ps.jU L (ps.bn l)=(ps.inst L).enc ((ps.inst L).bn l)
 | .nil,_=>rfl
 | .cons p .nil,l=>by
  show [p.jU L (p.bn (dL l))]=[(p.inst L).enc ((p.inst L).bn (dL l))]
  rw [p.gA L]
 | .cons p (.cons q ps),l=>by
  show p.jU L (p.bn (dL l)) :: (aJ.cons q ps).jU L ((aJ.cons q ps).bn (Hn l))=(p.inst L).enc ((p.inst L).bn (dL l)) :: ((aJ.cons q ps).inst L).enc (((aJ.cons q ps).inst L).bn (Hn l))
  rw [p.gA L,(aJ.cons q ps).gA L]
end
mutual
theorem AV.vD {n:Nat} (L:Nat→Nat):∀ {a:AV},a.under n=true→(a.vC L).under n=true:=fun {a} h=>by
 cases a with
 | dA id f off sz len=>
  unfold AV.vC
  split
  ·rename_i h1
   cases h1
   exact h
  ·rename_i h1
   cases h1
  ·exact h
 | fn f x y=>
  simp only [AV.vC,AV.under,Bool.and_eq_true] at *
  exact ⟨pJ L h.1,pJ L h.2⟩
 | _=>exact h
theorem pJ {n:Nat} (L:Nat→Nat):∀ {l:List AV},aC n l=true→aC n (Ir L l)=true
 | [],_=>rfl
 | a :: l,h=>by
  simp only [Ir,aC,Bool.and_eq_true] at *
  exact ⟨AV.vD L h.1,pJ L h.2⟩
end
mutual
theorem aj.il {n:Nat} (L:Nat→Nat):∀ {p:aj},p.under n=true→(p.inst L).under n=true
 | .int _,_=>rfl
 | .bool,_=>rfl
 | .str,_=>rfl
 | .agg ps,h=>aJ.il L (ps:=ps) h
 | .bf ps,h=>aJ.il L (ps:=ps) h
 | .list _ _,_=>rfl
 | .own _ _ _,h=>h
 | .ba _ _ _,h=>h
 | .fk v,h=>AV.vD L (a:=v) h
 | .two _ _,h=>h
theorem aJ.il {n:Nat} (L:Nat→Nat):∀ {ps:aJ},ps.under n=true→(ps.inst L).under n=true
 | .nil,_=>rfl
 | .cons p ps,h=>by
  simp only [aJ.inst,aJ.under,Bool.and_eq_true] at *
  exact ⟨aj.il L h.1,aJ.il L h.2⟩
end
theorem AV.yF (L:Nat→Nat) (v:AV):(v.vC L).dB=v.dB:=by
 unfold AV.vC
 split <;> rfl
def mP:List AV→List AV→Prop
 | [],[]=>True
 | a :: l,b :: r=>a.dB.length=b.dB.length∧mP l r
 | _,_=>False
theorem aj.nG (L L':Nat→Nat) (p:aj) (x:p.T):(p.jU L x).dB=(p.jU L' x).dB:=by
 cases p with
 | fk v=>
  show (v.vC L).dB=(v.vC L').dB
  rw [AV.yF,AV.yF]
 | _=>rfl
theorem aJ.nG (L L':Nat→Nat):∀ (ps:aJ) (x:ps.T),mP (ps.jU L x) (ps.jU L' x)
 | .nil,_=>trivial
 | .cons p .nil,x=>⟨congrArg List.length (p.nG L L' x),trivial⟩
 | .cons p (.cons q ps),x=>⟨congrArg List.length (p.nG L L' x.1),(aJ.cons q ps).nG L L' x.2⟩
theorem Hj.V0:∀ {l r:List AV},Hj l r→mP l r
 | [],[],_=>trivial
 | _ :: _,_ :: _,h=>⟨h.2.2.1.length,h.2.2.2.V0⟩
 | [],_ :: _,h=>h.elim
 | _ :: _,[],h=>h.elim
theorem mP.trans:∀ {l r u:List AV},mP l r→mP r u→mP l u
 | [],[],[],_,_=>trivial
 | _ :: _,_ :: _,_ :: _,h,k=>⟨h.1.trans k.1,h.2.trans k.2⟩
 | [],_ :: _,_,h,_=>h.elim
 | _ :: _,[],_,h,_=>h.elim
 | [],[],_ :: _,_,k=>k.elim
 | _ :: _,_ :: _,[],_,k=>k.elim
theorem mP.drop:∀ {l r:List AV} (n:Nat),mP l r→mP (l.drop n) (r.drop n)
 | l,r,0,h=>by simpa using h
 | [],[],_+1,_=>by simp [mP]
 | _ :: _,_ :: _,n+1,h=>by simpa using mP.drop n h.2
 | [],_ :: _,_+1,h=>h.elim
 | _ :: _,[],_+1,h=>h.elim
theorem aJ.LW (L:Nat→Nat) (ps:aJ) {l:List AV} {x:ps.T} (h:ps.Gp L l=some x):cz l (ps.jU L x)∧Hj l (ps.jU L x):=by
 unfold aJ.Gp at h
 cases hf:ps.lE L l with
 | true=>
  rw [hf] at h
  cases h
  rw [ps.gA L]
  rw [ps.ik L] at hf
  have hd:(ps.inst L).dec l=some ((ps.inst L).bn l):=by unfold aJ.dec; rw [hf]; rfl
  exact ⟨((ps.inst L).pu hd).1,(ps.inst L).Iq hf⟩
 | false=>rw [hf] at h; cases h
theorem aJ.DB {n:Nat} (L:Nat→Nat) (ps:aJ) (hp:ps.under n=true) (l:List AV):aC n (ps.jU L (ps.bn l))=true:=by
 rw [ps.gA L]
 exact (ps.inst L).di _ (aJ.il L hp)
theorem aJ.Gq (L:Nat→Nat) (ps:aJ) {l:List AV} {x:ps.T} (h:ps.Gp L l=some x):x=ps.bn l:=by
 unfold aJ.Gp at h
 cases hf:ps.lE L l with
 | true=>rw [hf] at h; cases h; rfl
 | false=>rw [hf] at h; cases h
end Go.Am
namespace Go.Am
open Go
inductive Cu
 | open_
 | busy
 | ret
 | ex (i:Nat)
def Cu.is:Cu→Bool→Option Code→Bool→Bool
 | .open_,false,none,false=>true
 | .busy,true,none,false=>true
 | .ret,false,some .ret,true=>true
 | .ex i,false,some (.exit j),true=>Nat.beq i j
 | _,_,_,_=>false
def Cu.b:Cu→Bool
 | .busy=>true
 | _=>false
def Cu.p:Cu→Option Code
 | .ret=>some .ret
 | .ex i=>some (.exit i)
 | _=>none
def Cu.d:Cu→Bool
 | .ret=>true
 | .ex _=>true
 | _=>false
theorem Cu.EU {k:Cu} {b:Bool} {p:Option Code} {d:Bool} (h:k.is b p d=true):b=k.b∧p=k.p∧d=k.d:=by
 unfold Cu.is at h
 split at h <;> first | exact ⟨rfl,rfl,rfl⟩ | (cases h; done) | skip
 rw [Nat.eq_of_beq_eq_true h]
 exact ⟨rfl,rfl,rfl⟩
inductive GL
 | row (n:Nat)
 | tok (loc sz:Nat) (e:TypeId)
 | dead
 | lp (k:Cu)
 | bp
 | map
 | Is
 | cS (sz:Nat) (e:TypeId)
 | ba (sz:Nat) (e:TypeId)
 | qJ
 | mJ (pt:Nat)
def cq (fs:List Nat):List AV:=fs.map fun n:Nat=>.int .i64 n
def aU (l:List AV):List Nat:=l.map fun a=>a.kj.toNat
theorem s7 (fs:List Nat):aU (cq fs)=fs:=by
 induction fs with
 | nil=>rfl
 | cons n fs ih=>
  show (AV.int .i64 n).kj.toNat :: aU (cq fs)=n :: fs
  rw [ih]
  simp [AV.kj]
theorem vE (fs:List Nat):fh (cq fs)=true:=by
 induction fs with
 | nil=>rfl
 | cons n fs ih=>exact ih
def RD (k:Cu):GO→GO→Bool
 | .loop _ _ _ _ _ _ _ _ _ _,.loop b p _ _ _ _ _ _ _ d=>k.is b p d
 | _,_=>false
def P5 (k:Cu):GO→GO
 | .loop _ _ fn sl n ps qB bd d _=>.loop k.b k.p fn sl n ps qB bd d k.d
 | _=>.dead
def aV (es:List (AV × AV)):Bool:=fh (ai es)
def zJ:GO→GO→Bool
 | .tok f sz e,.tok f' bI e'=>decide (f'=f)&&(Nat.beq bI sz&&Nat.beq e' e)
 | .defers a,.defers b=>match a,b with
  | true,true=>true
  | false,false=>true
  | _,_=>false
 | .dead,_=>true
 | _,_=>false
structure cu where
 ps:aJ
 sl:List Tmp
 W:List Tmp
 bx:List (Nat × Nat)
 g:List GL
 UN:List (Tmp × Nat × Nat)
def vF (ae:a8):List Tmp→Option (List AV)
 | []=>some []
 | t :: l=>match lk ae t with
  | .v a=>match vF ae l with
   | some r=>some (a :: r)
   | none=>none
  | _=>none
def vG (bx:cw):List (Nat × Nat)→Option (List AV)
 | []=>some []
 | (k,n) :: l=>match dm bx k with
  | some cs=>match vG bx l with
   | some r=>bif Nat.beq cs.length n then some (cs++r) else none
   | none=>none
  | none=>none
def jq:List GL→List GO→Option (List AV)
 | [],_=>some []
 | .row n :: l,.row cs _ :: G=>match jq l G with
  | some r=>bif Nat.beq cs.length n then some (cs++r) else none
  | none=>none
 | .tok _ sz e :: l,.tok _ bI e' :: G=>bif Nat.beq sz bI&&Nat.beq e e' then jq l G else none
 | .dead :: l,_ :: G=>jq l G
 | .lp _ :: l,_ :: G=>jq l G
 | .bp :: l,_ :: G=>jq l G
 | .map :: l,.map es :: G=>match jq l G with
  | some r=>some (.list .ki 2 (ai es) :: r)
  | none=>none
 | .Is :: l,.fG s pos :: G=>match jq l G with
  | some r=>some (.str s :: .int .i64 pos :: r)
  | none=>none
 | .cS sz e :: l,.cS es bI e' :: G=>match jq l G with
  | some r=>bif Nat.beq sz bI&&Nat.beq e e' then some (.list .ki bI es :: r) else none
  | none=>none
 | .ba sz e :: l,.ba fs bI e' :: G=>match jq l G with
  | some r=>bif Nat.beq sz bI&&Nat.beq e e' then some (.list .ki 1 (cq fs) :: r) else none
  | none=>none
 | .qJ :: l,.map es :: G=>match jq l G with
  | some r=>some (.list .ki 2 (ai es) :: r)
  | none=>none
 | .mJ pt :: l,.mJ mid' n left _ _ :: G=>match jq l G with
  | some r=>bif Nat.beq pt mid' then some (.int .i64 n :: .list .ki 1 (cq left) :: r) else none
  | none=>none
 | _,_=>none
def It (vs:List AV) (loc:Nat):Nat:=match nth vs loc with
 | some (.list _ _ es)=>es.length
 | _=>0
def P6:GO→GO→Bool
 | .row _ e,.row _ e'=>Nat.beq e e'
 | _,_=>false
def P7:GO→GO→Bool
 | .mJ _ _ _ _ t,.mJ _ _ _ _ t'=>Nat.beq t t'
 | _,_=>false
def V1:GO→TypeId
 | .mJ _ _ _ _ t=>t
 | _=>0
def V2:GO→TypeId
 | .row _ e=>e
 | _=>0
def dj (vs:List AV):List GL→List GO→List GO→Bool
 | [],_,_=>true
 | .tok loc _ _ :: l,_ :: B,.tok f _ _ :: G=>decide (f=It vs loc)&&dj vs l B G
 | .tok _ _ _ :: _,_,_=>false
 | .lp k :: l,o :: B,o' :: G=>RD k o o'&&dj vs l B G
 | .bp :: l,o :: B,o' :: G=>zJ o o'&&dj vs l B G
 | .row _ :: l,b :: B,g :: G=>P6 b g&&dj vs l B G
 | .map :: l,_ :: B,.map es :: G=>aV es&&dj vs l B G
 | .map :: _,_,_=>false
 | .Is :: l,_ :: B,_ :: G=>dj vs l B G
 | .cS _ _ :: l,_ :: B,_ :: G=>dj vs l B G
 | .ba _ _ :: l,_ :: B,_ :: G=>dj vs l B G
 | .qJ :: l,_ :: B,_ :: G=>dj vs l B G
 | .mJ _ :: l,b :: B,g :: G=>P7 b g&&dj vs l B G
 | .dead :: l,_ :: B,_ :: G=>dj vs l B G
 | _,_,_=>false
def nH:List Tmp→List AV→a8→a8
 | t :: ts,a :: l,r=>.put t (.v a) :: nH ts l r
 | _,_,r=>r
def nI:List (Tmp × Nat × Nat)→a8→a8
 | (t,k,o) :: l,r=>.put t (.lp k o) :: nI l r
 | [],r=>r
def EV (ae:a8):List (Tmp × Nat × Nat)→Bool
 | []=>true
 | (t,k,o) :: l=>(match lk ae t with
  | .lp k' o'=>Nat.beq k' k&&Nat.beq o' o
  | _=>false)&&EV ae l
def vH:List Tmp→a8→a8
 | t :: ts,r=>.put t .none :: vH ts r
 | [],r=>r
def s8:List (Nat × Nat)→List AV→cw→cw
 | (k,n) :: r,l,b=>(k,l.take n) :: s8 r (l.drop n) b
 | [],_,b=>b
def df (vs:List AV):List GL→List GO→List AV→List GO
 | .row n :: r,B,l=>.row (l.take n) (V2 (B.headD .dead)) :: df vs r B.tail (l.drop n)
 | .tok loc sz e :: r,B,l=>.tok (It vs loc) sz e :: df vs r B.tail l
 | .dead :: r,B,l=>.dead :: df vs r B.tail l
 | .lp k :: r,B,l=>P5 k (B.headD .dead) :: df vs r B.tail l
 | .bp :: r,B,l=>B.headD .dead :: df vs r B.tail l
 | .map :: r,B,l=>.map (AV.entries (dL l)) :: df vs r B.tail l.tail
 | .Is :: r,B,l=>.fG (AV.QS (dL l)) (AV.kj (dL l.tail)).toNat :: df vs r B.tail l.tail.tail
 | .cS sz e :: r,B,l=>.cS (AV.dB (dL l)) sz e :: df vs r B.tail l.tail
 | .ba sz e :: r,B,l=>.ba (aU (AV.dB (dL l))) sz e :: df vs r B.tail l.tail
 | .qJ :: r,B,l=>.map (AV.entries (dL l)) :: df vs r B.tail l.tail
 | .mJ pt :: r,B,l=>.mJ pt (AV.kj (dL l)).toNat (aU (AV.dB (dL l.tail))) none (V1 (B.headD .dead)) :: df vs r B.tail l.tail.tail
 | [],_,_=>[]
def zK:List (Nat × Nat)→Nat
 | []=>0
 | (_,n) :: l=>n+zK l
def jV:List GL→List AV→Nat→Nat
 | [],_,_=>0
 | .cS _ _ :: r,l,i=>match i with
  | 0=>(AV.dB (dL l)).length
  | i+1=>jV r l.tail i
 | .row n :: r,l,i=>match i with
  | 0=>0
  | i+1=>jV r (l.drop n) i
 | .map :: r,l,i=>match i with
  | 0=>0
  | i+1=>jV r l.tail i
 | .Is :: r,l,i=>match i with
  | 0=>0
  | i+1=>jV r l.tail.tail i
 | .ba _ _ :: r,l,i=>match i with
  | 0=>0
  | i+1=>jV r l.tail i
 | .qJ :: r,l,i=>match i with
  | 0=>0
  | i+1=>jV r l.tail i
 | .mJ _ :: r,l,i=>match i with
  | 0=>0
  | i+1=>jV r l.tail.tail i
 | _ :: r,l,i=>match i with
  | 0=>0
  | i+1=>jV r l i
def cu.oP (t:cu) (v:t.ps.T):List AV:=t.ps.jU (jV t.g (((t.ps.jU (fun _=>0) v).drop t.sl.length).drop (zK t.bx))) v
def cu.st (t:cu) (s:St) (v:t.ps.T):St:=
 ⟨nI t.UN (nH t.sl (t.oP v) (vH t.W s.ae)),s8 t.bx ((t.oP v).drop t.sl.length) s.boxes,df (t.oP v) t.g s.G (((t.oP v).drop t.sl.length).drop (zK t.bx)),s.marks,s.ro,s.n⟩
def Ln:List Nat→Nat→Bool
 | [],_=>false
 | a :: l,n=>Nat.beq a n || Ln l n
def UO (l:List Tmp) (W:List Tmp) (n:Nat):Bool:=Ln l n || Ln W n
def xD (d:Nat) (l W:List Tmp):a8→Bool
 | []=>true
 | .put t (.lp k _) :: r=>(!(Nat.beq k d) || UO l W t)&&xD d l W r
 | _ :: r=>xD d l W r
def rZ (l W:List Tmp) (base:a8):a8→Bool
 | []=>true
 | .put d _ :: r=>UO l W d&&rZ l W base r
 | .kill d :: r=>xD d l W base&&rZ l W base r
def tz:List (Nat × Nat)→Nat→Bool
 | [],_=>false
 | (a,_) :: l,n=>Nat.beq a n || tz l n
def ub (l:List (Nat × Nat)) (base:cw):cw→Bool
 | []=>true
 | (k,_) :: r=>(tz l k || (dm base k).isNone)&&ub l base r
def LX:List Nat→List Nat→Bool
 | [],[]=>true
 | a :: l,b :: r=>Nat.beq a b&&LX l r
 | _,_=>false
def aj.lcl (n:Nat):aj→Bool
 | .list _ p=>p.under n
 | _=>false
def aJ.flags (n:Nat):aJ→List Bool
 | .nil=>[]
 | .cons p ps=>p.lcl n :: ps.flags n
def jW:List GL→List Bool→Bool
 | [],_=>true
 | .cS _ _ :: r,f :: l=>f&&jW r l
 | .cS _ _ :: _,[]=>false
 | .row n :: r,l=>jW r (eN n l)
 | .map :: r,l=>jW r (eN 1 l)
 | .Is :: r,l=>jW r (eN 2 l)
 | .ba _ _ :: r,l=>jW r (eN 1 l)
 | .qJ :: r,f :: l=>f&&jW r l
 | .qJ :: _,[]=>false
 | .mJ _ :: r,l=>jW r (eN 2 l)
 | _ :: r,l=>jW r l
def Iu (n:Nat):List GL→Bool
 | []=>true
 | .mJ pt :: r=>Nat.blt pt n&&Iu n r
 | _ :: r=>Iu n r
def cu.ok (t:cu) (s s':St):Bool:=
 rZ t.sl t.W s.ae (s'.ae.take (s'.ae.length - s.ae.length))&&ub t.bx s.boxes (s'.boxes.take (s'.boxes.length - s.boxes.length)) &&
  LX s'.marks s.marks&&Nat.beq t.g.length s.G.length&&(t.ps.under s.G.length&&(jW t.g (eN (zK t.bx) (eN t.sl.length (t.ps.flags s.G.length)))&&Iu s.G.length t.g))&&EV s'.ae t.UN
def cu.dec (t:cu) (s s':St):Option t.ps.T:=
 bif t.ok s s' then
  match vF s'.ae t.sl,vG s'.boxes t.bx,jq t.g s'.G with
  | some a,some b,some c=>(t.ps.Gp (jV t.g c) (a++(b++c))).bind fun v=>bif dj (t.oP v) t.g s.G s'.G then some v else none
  | _,_,_=>none
 else none
theorem zL {l:List Nat} {n:Nat}:Ln l n=true↔n∈l:=by
 induction l with
 | nil=>simp [Ln]
 | cons a l ih=>
  simp only [Ln,Bool.or_eq_true,Nat.beq_eq,ih,List.mem_cons]
  constructor
  ·rintro (h | h)
   ·exact .inl h.symm
   ·exact .inr h
  ·rintro (h | h)
   ·exact .inl h.symm
   ·exact .inr h
theorem EW:∀ {a b:List Nat},LX a b=true→a=b
 | [],[],_=>rfl
 | a :: l,b :: r,h=>by
  simp only [LX,Bool.and_eq_true,Nat.beq_eq] at h
  rw [h.1,EW h.2]
 | [],_ :: _,h=>by cases h
 | _ :: _,[],h=>by cases h
theorem zM {d:Nat} {l W:List Tmp} {t off:Nat}:∀ {base:a8},xD d l W base=true→lk base t=.lp d off→UO l W t=true
 | [],_,h=>by simp [lk] at h
 | .put t' x :: r,hn,h=>by
  by_cases e:t'=t
  ·subst e
   rw [ay] at h
   subst h
   simp only [xD,Nat.beq_refl,Bool.not_true,Bool.false_or,Bool.and_eq_true] at hn
   exact hn.1
  ·rw [aK e] at h
   refine zM (base:=r) ?_ h
   cases x <;> simp only [xD,Bool.and_eq_true] at hn
   ·exact hn
   ·exact hn
   ·exact hn.2
 | .kill d' :: r,hn,h=>by
  rcases Ep (l:=r) (d:=d') (t:=t) with ⟨h1,_⟩ | h1
  ·rw [h1] at h
   exact zM (base:=r) hn h
  ·rw [h1] at h
   cases h
theorem zN {l W:List Tmp} {base:a8} {t:Nat} (ht:UO l W t=false):∀ {pre:a8},rZ l W base pre=true→lk (pre++base) t=lk base t
 | [],_=>rfl
 | .put d x :: r,h=>by
  simp only [rZ,Bool.and_eq_true] at h
  have cA:d≠t:=fun e=>by rw [e,ht] at h; exact absurd h.1 (by simp)
  rw [List.cons_append,aK cA]
  exact zN ht h.2
 | .kill d :: r,h=>by
  simp only [rZ,Bool.and_eq_true] at h
  have ih:=zN ht h.2
  simp only [List.cons_append,lk,ih]
  cases hb:lk base t with
  | lp k off=>
   by_cases e:k=d
   ·subst e
    have:=zM h.1 hb
    rw [ht] at this
    cases this
   ·simp [lV e]
  | _=>rfl
theorem BA {l:List (Nat × Nat)} {base:cw} {k:Nat} {cs:List AV} (hk:tz l k=false) (hb:dm base k=some cs):∀ {pre:cw},ub l base pre=true→dm (pre++base) k=some cs
 | [],_=>hb
 | (d,x) :: r,h=>by
  simp only [ub,Bool.and_eq_true] at h
  have cA:d≠k:=fun e=>by
   rw [e,hk,hb] at h
   exact absurd h.1 (by simp)
  rw [List.cons_append,dm,lV cA]
  exact BA hk hb h.2
theorem BB {α:Type} (pre base:List α):(pre++base).take ((pre++base).length - base.length)=pre:=by
 rw [List.length_append,Nat.add_sub_cancel,List.take_left]
def ak.cut (R:ak) (n:Nat):ak:=⟨R.I,R.obj.take n⟩
theorem jr {R:ak} {n id:Nat} {ro:RO}:nth (R.cut n).obj id=some ro↔id < n∧nth R.obj id=some ro:=by
 simp only [ak.cut,aX,List.getElem?_take]
 split
 ·simp_all
 ·simp_all
  omega
theorem nJ (R:ak) (n:Nat):Mv R (R.cut n) n:=⟨fun _ _ h=>h,fun _ _ hl h=>jr.2 ⟨hl,h⟩⟩
section AF
variable {E:Env} {R R':ak} {w w':World} {β β':Nat→Nat} {s s':St} {a a':Act}
def vI (R:ak) (w:World) (β:Nat→Nat) (K:Nat→Prop) (ae:a8) (tmps:Array Value):Prop:=
 ∀ i,¬ K i→lk ae i≠.none→∃ c,tmps[i]?=some c∧oK R w β (lk ae i) c
theorem vJ {tmps:Array Value} {base:a8}:∀ {W:List Tmp} {K:Nat→Prop},vI R w β (fun i=>i∈W∨K i) base tmps→vI R w β K (vH W base) tmps
 | [],K,h=>fun i hi hn=>h i (by simpa using hi) hn
 | t :: W,K,h=>fun i hi hn=>by
  have ih:vI R w β (fun i=>i=t∨K i) (vH W base) tmps:=vJ (W:=W) (fun j hj=>h j (fun hc=>hj (by
   rcases hc with hc | hc
   ·rcases List.mem_cons.1 hc with hc | hc
    ·exact .inr (.inl hc)
    ·exact .inl hc
   ·exact .inr (.inr hc))))
  simp only [vH] at hn ⊢
  by_cases e:t=i
  ·subst e
   rw [ay] at hn
   exact absurd rfl hn
  ·rw [aK e] at hn ⊢
   exact ih i (by simp; exact ⟨fun e'=>e e'.symm,hi⟩) hn
theorem s9 {n:Nat} (m:Mv R' R n) {tmps:Array Value} {ae:a8} (hT:mV R' w β ae tmps) {base:a8}:∀ {ts:List Tmp} {K:Nat→Prop} {l l' r r':List AV},vF ae ts=some l→cz (l++r) (l'++r')→l.length=l'.length→aC n l'=true →
  vI R w β (fun i=>i∈ts∨K i) base tmps→vI R w β K (nH ts (l'++r') base) tmps
 | [],K,l,l',r,r',_,_,_,_,h=>fun i hi hn=>by
  have e:nH [] (l'++r') base=base:=rfl
  rw [e] at hn ⊢
  exact h i (by simpa using hi) hn
 | t :: ts,K,l,l',r,r',hg,hw,hl,hu,h=>by
  unfold vF at hg
  split at hg
  ·rename_i a ha
   split at hg
   ·rename_i l0 rM
    cases hg
    cases l' with
    | nil=>simp at hl
    | cons b l'=>
     simp only [List.cons_append,cz] at hw
     simp only [aC,Bool.and_eq_true] at hu
     have ih:vI R w β (fun i=>i=t∨K i) (nH ts (l'++r') base) tmps:=s9 m hT rM hw.2 (by simpa using hl) hu.2 (fun j hj=>h j (fun hc=>hj (by
      rcases hc with hc | hc
      ·rcases List.mem_cons.1 hc with hc | hc
       ·exact .inr (.inl hc)
       ·exact .inl hc
      ·exact .inr (.inr hc))))
     intro i hi hn
     simp only [nH,List.cons_append] at hn ⊢
     by_cases e:t=i
     ·subst e
      rw [ay] at hn ⊢
      obtain ⟨c,h1,h2⟩:=hT t (by rw [ha]; simp)
      rw [ha] at h2
      exact ⟨c,h1,Rel.move m hu.1 (hw.1 _ _ _ h2)⟩
     ·rw [aK e] at hn ⊢
      exact ih i (by simp; exact ⟨fun e'=>e e'.symm,hi⟩) hn
   ·cases hg
  ·cases hg
def vK (R:ak) (w:World) (β:Nat→Nat) (k:Nat) (cs:List AV):Prop:=
 (∃ vs el,w.heap[β k]?=some (.cells ⟨vs⟩ el (0,0))∧aH R w cs vs∧(∀ v∈vs,v.oneCell'=true))∧(∀ o,¬ R.I (β k) o)∧¬ Live R (β k)
theorem BC {R:ak} {n b:Nat} (h:Live (R.cut n) b):Live R b:=by
 obtain ⟨id,ro,h1,h2⟩:=h
 exact ⟨id,ro,(jr.1 h1).2,h2⟩
theorem vK.cut {n k:Nat} {cs cs':List AV} (h:vK R w β k cs) (hw:cz cs cs') (hu:aC n cs'=true):vK (R.cut n) w β k cs':=by
 obtain ⟨⟨vs,el,h1,h2,h3⟩,h4,h5⟩:=h
 exact ⟨⟨vs,el,h1,(hw.rel h2).move (nJ R n) hu,h3⟩,h4,fun hl=>h5 (BC hl)⟩
theorem eL {n:Nat}:∀ {l r:List AV},aC n (l++r)=(aC n l&&aC n r)
 | [],r=>by simp [aC]
 | a :: l,r=>by simp [aC,eL (l:=l),Bool.and_assoc]
theorem cz.split:∀ {l r l':List AV},cz (l++r) l'→∃ a b,l'=a++b∧cz l a∧cz r b∧a.length=l.length
 | [],r,l',h=>⟨[],l',rfl,trivial,h,rfl⟩
 | x :: l,r,[],h=>h.elim
 | x :: l,r,y :: l',h=>by
  obtain ⟨a,b,rfl,h2,h3,h4⟩:=cz.split (l:=l) (r:=r) (l':=l') h.2
  exact ⟨y :: a,b,rfl,⟨h.1,h2⟩,h3,by simp [h4]⟩
theorem BD {n:Nat} {X8:cw} (hb:∀ k cs,dm X8 k=some cs→vK R w β k cs) {base:cw}:∀ {bx:List (Nat × Nat)} {K:Nat→Prop} {l l' r:List AV},vG X8 bx=some l→cz l l'→aC n l'=true →
  (∀ k cs,¬ K k→tz bx k=false→dm base k=some cs→dm X8 k=some cs∧aC n cs=true) →
  ∀ k cs,¬ K k→dm (s8 bx (l'++r) base) k=some cs→vK (R.cut n) w β k cs∧∃ cs',dm X8 k=some cs'
 | [],K,l,l',r,_,_,_,h,k,cs,hK,hk=>by
  obtain ⟨h1,h2⟩:=h k cs hK rfl hk
  exact ⟨(hb k cs h1).cut (cz.refl _) h2,cs,h1⟩
 | (d,m) :: bx,K,l,l',r,hg,hw,hu,h,k,cs,hK,hk=>by
  unfold vG at hg
  split at hg
  ·rename_i VM hd
   split at hg
   ·rename_i l0 rM
    cases hm:Nat.beq VM.length m with
    | false=>rw [hm] at hg; cases hg
    | true=>
     rw [hm] at hg
     cases hg
     have hm:=Nat.eq_of_beq_eq_true hm
     obtain ⟨x,y,rfl,k1,k2,k3⟩:=hw.split
     rw [eL,Bool.and_eq_true] at hu
     have e1:((x++y)++r).take m=x:=by rw [List.append_assoc,← hm,← k3,List.take_left]
     have e2:((x++y)++r).drop m=y++r:=by rw [List.append_assoc,← hm,← k3,List.drop_left]
     simp only [s8,e1,e2] at hk
     rcases dW hk with ⟨rfl,rfl⟩ | ⟨cA,hk⟩
     ·exact ⟨(hb d VM hd).cut k1 hu.1,VM,hd⟩
     ·refine BD hb (K:=fun k=>k=d∨K k) (r:=r) rM k2 hu.2 (fun k' cs' hK' h1 h2=>?_) k cs (fun hc=>?_) hk
      ·exact h k' cs' (fun hc=>hK' (.inr hc)) (by simp only [tz,h1,Bool.or_false]; exact lV (fun e=>hK' (.inl e.symm))) h2
      ·rcases hc with hc | hc
       ·exact cA hc.symm
       ·exact hK hc
   ·cases hg
  ·cases hg
def vL (n:Nat):List GL→List AV→Prop
 | [],_=>True
 | .cS _ _ :: r,l=>aC n (AV.dB (dL l))=true∧vL n r l.tail
 | .row m :: r,l=>vL n r (l.drop m)
 | .map :: r,l=>vL n r l.tail
 | .Is :: r,l=>vL n r l.tail.tail
 | .ba _ _ :: r,l=>vL n r l.tail
 | .qJ :: r,l=>aC n (AV.dB (dL l))=true∧vL n r l.tail
 | .mJ _ :: r,l=>vL n r l.tail.tail
 | _ :: r,l=>vL n r l
def nK (n:Nat):List Bool→List AV→Prop
 | [],_=>True
 | _ :: _,[]=>True
 | f :: fl,a :: l=>(f=true→aC n a.dB=true)∧nK n fl l
theorem nK.drop {m:Nat}:∀ {fl:List Bool} {l:List AV} (n:Nat),nK m fl l→nK m (eN n fl) (l.drop n)
 | _,_,0,h=>by simpa [eN] using h
 | [],_,_+1,_=>by simp [eN,nK]
 | _ :: fl,[],n+1,_=>by
  rw [List.drop_nil]
  cases eN (n+1) (_ :: fl) <;> trivial
 | _ :: fl,_ :: l,n+1,h=>by simpa [eN] using nK.drop n h.2
theorem eQ {m:Nat}:∀ (g:List GL) {fl:List Bool} {l:List AV},jW g fl=true→nK m fl l→vL m g l
 | [],_,_,_,_=>trivial
 | .cS _ _ :: g,[],_,h,_=>by cases h
 | .cS _ _ :: g,f :: fl,[],h,_=>by
  simp only [jW,Bool.and_eq_true] at h
  refine ⟨rfl,eQ g (fl:=fl) h.2 ?_⟩
  cases fl <;> trivial
 | .cS _ _ :: g,f :: fl,a :: l,h,k=>by
  simp only [jW,Bool.and_eq_true] at h
  exact ⟨k.1 h.1,eQ g h.2 k.2⟩
 | .row n :: g,fl,l,h,k=>eQ g (show jW g (eN n fl)=true from h) (k.drop n)
 | .map :: g,fl,l,h,k=>by
  have:=eQ g (show jW g (eN 1 fl)=true from h) (k.drop 1)
  rw [List.drop_one] at this
  exact this
 | .Is :: g,fl,l,h,k=>by
  have:=eQ g (show jW g (eN 2 fl)=true from h) (k.drop 2)
  have e:l.drop 2=l.tail.tail:=by cases l with
   | nil=>rfl
   | cons a l=>cases l <;> rfl
  rw [e] at this
  exact this
 | .ba _ _ :: g,fl,l,h,k=>by
  have:=eQ g (show jW g (eN 1 fl)=true from h) (k.drop 1)
  rw [List.drop_one] at this
  exact this
 | .mJ _ :: g,fl,l,h,k=>by
  have:=eQ g (show jW g (eN 2 fl)=true from h) (k.drop 2)
  have e:l.drop 2=l.tail.tail:=by cases l with
   | nil=>rfl
   | cons a l=>cases l <;> rfl
  rw [e] at this
  exact this
 | .qJ :: g,[],_,h,_=>by cases h
 | .qJ :: g,f :: fl,[],h,_=>by
  simp only [jW,Bool.and_eq_true] at h
  refine ⟨rfl,eQ g (fl:=fl) h.2 ?_⟩
  cases fl <;> trivial
 | .qJ :: g,f :: fl,a :: l,h,k=>by
  simp only [jW,Bool.and_eq_true] at h
  exact ⟨k.1 h.1,eQ g h.2 k.2⟩
 | .tok _ _ _ :: g,fl,l,h,k=>eQ g (show jW g fl=true from h) k
 | .dead :: g,fl,l,h,k=>eQ g (show jW g fl=true from h) k
 | .lp _ :: g,fl,l,h,k=>eQ g (show jW g fl=true from h) k
 | .bp :: g,fl,l,h,k=>eQ g (show jW g fl=true from h) k
theorem vM {n:Nat} {α:Type} {g:α→AV} (hg:∀ x,(g x).under n=true):∀ xs:List α,aC n (xs.map g)=true
 | []=>rfl
 | x :: xs=>by simp only [List.map_cons,aC,hg x,vM hg xs,Bool.and_self]
theorem ta {α:Type} {g:α→AV} (hg:∀ x,(g x).closed=true):∀ xs:List α,aB (xs.map g)=true
 | []=>rfl
 | x :: xs=>by simp only [List.map_cons,aB,hg x,ta hg xs,Bool.and_self]
theorem aJ.BE (n:Nat) (L:Nat→Nat):∀ (ps:aJ) (x:ps.T),nK n (ps.flags n) (ps.jU L x)
 | .nil,_=>trivial
 | .cons p .nil,x=>⟨fun h=>P8 L p x h,trivial⟩
 | .cons p (.cons q ps),x=>⟨fun h=>P8 L p x.1 h,(aJ.cons q ps).BE n L x.2⟩
where
 P8 (L:Nat→Nat):∀ (p:aj) (x:p.T),p.lcl n=true→aC n (p.jU L x).dB=true
  | .list _ p,x,h=>vM (fun y=>p.di y h) _
  | .int _,_,h=>by cases h
  | .bool,_,h=>by cases h
  | .str,_,h=>by cases h
  | .agg _,_,h=>by cases h
  | .bf _,_,h=>by cases h
  | .own _ _ _,_,h=>by cases h
  | .ba _ _ _,_,h=>by cases h
  | .fk _,_,h=>by cases h
  | .two _ _,_,h=>by cases h
def Zk (n:Nat):GO→GO→Prop
 | .row cs el,.row cs' XS=>XS=el∧cz cs cs'∧aC n cs'=true
 | .tok f sz e,.tok f' bI e'=>f=f'∧sz=bI∧e=e'
 | .defers a,.defers b=>a=b
 | .map es,.map es'=>(es'=es∧aV es=true)∨∃ l,es'=ab l∧jd (ai es) l∧aC n l=true
 | .ba fs sz e,.ba zf bI e'=>fs=zf∧sz=bI∧e=e'
 | .mJ pt m left _ t,.mJ mid' m' ym cur t'=>pt=mid'∧m=m'∧left=ym∧t=t'∧pt < n∧cur=none
 | .fG l p,.fG l' p'=>l'=l∧p'=p
 | .cS es sz e,.cS es' bI e'=>bI=sz∧e'=e∧jd es es'∧aC n es'=true
 | _,.dead=>True
 | _,_=>False
def Zl:GO→GO→GO→Prop
 | .loop _ _ fn sl n ps qB bd d _,.loop b p _ _ _ _ _ _ _ dn,go=>go=.loop b p fn sl n ps qB bd d dn
 | _,_,_=>False
theorem Gr {n:Nat} {o o':GO} (h:zJ o o'=true):Zk n o' o:=by
 cases o with
 | tok f sz e=>
  cases o' with
  | tok f' bI e'=>
   simp only [zJ,Bool.and_eq_true] at h
   exact ⟨of_decide_eq_true h.1,Nat.eq_of_beq_eq_true h.2.1,Nat.eq_of_beq_eq_true h.2.2⟩
  | _=>cases h
 | defers a=>
  cases o' with
  | defers b=>cases a <;> cases b <;> first | rfl | cases h
  | _=>cases h
 | dead=>cases o' <;> trivial
 | _=>cases h
theorem LY {k:Cu} {o o':GO} (h:RD k o o'=true):Zl o o' (P5 k o):=by
 cases o with
 | loop b p fn sl n ps qB bd d dn=>
  cases o' with
  | loop b' p' V3 UL n' V4 LZ UP d' dn'=>
   obtain ⟨rfl,rfl,rfl⟩:=Cu.EU (show k.is b' p' dn'=true from h)
   rfl
  | _=>cases h
 | _=>cases h
theorem pd (a:AV):a.entries=ab a.dB:=by cases a <;> rfl
theorem gd {n:Nat} {vs:List AV}:∀ {g:List GL} {B G:List GO} {l l':List AV},jq g G=some l→cz l l'→Hj l l'→vL n g l'∧Iu n g=true→aC n l'=true→dj vs g B G=true →
  ∀ id go,nth (df vs g B l') id=some go→∃ go',nth G id=some go'∧(Zk n go' go∨∃ Hg,nth B id=some Hg∧Zl Hg go' go)
 | [],B,G,l,l',_,_,_,_,_,_,id,go,h=>by simp [df,nth] at h
 | x :: g,[],G,l,l',_,_,_,_,_,ht,_,_,_=>by cases x <;> cases G <;> cases ht
 | x :: g,_ :: _,[],l,l',_,_,_,_,_,ht,_,_,_=>by cases x <;> cases ht
 | .row m :: g,b :: B,o :: G,l,l',hg,hw,hx,ru,hu,ht,id,go,h=>by
   obtain ⟨C6,Br⟩:P6 b o=true∧dj vs g B G=true:=by
    rw [← Bool.and_eq_true]
    cases o <;> exact ht
   cases o with
   | row cs el=>
    have oQ:V2 b=el:=by
     cases b <;> first | (cases C6; done) | exact Nat.eq_of_beq_eq_true C6
    change (match jq g G with
     | some r=>bif Nat.beq cs.length m then some (cs++r) else none
     | none=>none)=some l at hg
    split at hg
    ·rename_i r hr
     cases hm:Nat.beq cs.length m with
     | false=>rw [hm] at hg; cases hg
     | true=>
      rw [hm] at hg
      cases hg
      have hm:=Nat.eq_of_beq_eq_true hm
      obtain ⟨x,y,rfl,k1,k2,k3⟩:=hw.split
      rw [eL,Bool.and_eq_true] at hu
      have e1:(x++y).take m=x:=by rw [← hm,← k3,List.take_left]
      have e2:(x++y).drop m=y:=by rw [← hm,← k3,List.drop_left]
      simp only [df,e1,e2] at h
      cases id with
      | zero=>simp only [nth] at h; cases h; exact ⟨.row cs el,rfl,.inl ⟨oQ,k1,hu.1⟩⟩
      | succ id=>exact gd hr k2 (by obtain ⟨x',y',e1',k1',Ll,k3'⟩:=hx.split; have:=List.append_inj e1' (by rw [k3,k3']); rw [this.2]; exact Ll) (by rw [← e2]; exact ru) hu.2 Br id go h
    ·cases hg
   | _=>cases hg
 | .tok loc sz e :: g,b :: B,o :: G,l,l',hg,hw,hx,ru,hu,ht,id,go,h=>by
   cases o with
   | tok f bI e'=>
    change (bif Nat.beq sz bI&&Nat.beq e e' then jq g G else none)=some l at hg
    change (decide (f=It vs loc)&&dj vs g B G)=true at ht
    rw [Bool.and_eq_true] at ht
    cases hm:(Nat.beq sz bI&&Nat.beq e e') with
    | false=>rw [hm] at hg; cases hg
    | true=>
     rw [hm] at hg
     rw [Bool.and_eq_true] at hm
     have q1:=Nat.eq_of_beq_eq_true hm.1
     have q2:=Nat.eq_of_beq_eq_true hm.2
     simp only [df] at h
     cases id with
     | zero=>
      simp only [nth] at h
      cases h
      exact ⟨.tok f bI e',rfl,.inl ⟨of_decide_eq_true ht.1,q1.symm,q2.symm⟩⟩
     | succ id=>exact gd hg hw hx ru hu ht.2 id go h
   | _=>cases hg
 | .dead :: g,b :: B,o :: G,l,l',hg,hw,hx,ru,hu,ht,id,go,h=>by
   simp only [df] at h
   have pw:jq g G=some l:=by cases o <;> exact hg
   have Br:dj vs g B G=true:=by cases o <;> exact ht
   cases id with
   | zero=>
    simp only [nth] at h
    cases h
    exact ⟨o,rfl,.inl (by cases o <;> trivial)⟩
   | succ id=>exact gd pw hw hx ru hu Br id go h
 | .lp k :: g,b :: B,o :: G,l,l',hg,hw,hx,ru,hu,ht,id,go,h=>by
   simp only [df] at h
   have pw:jq g G=some l:=by cases o <;> exact hg
   change (RD k b o&&dj vs g B G)=true at ht
   rw [Bool.and_eq_true] at ht
   cases id with
   | zero=>
    simp only [nth] at h
    cases h
    exact ⟨o,rfl,.inr ⟨b,rfl,LY ht.1⟩⟩
   | succ id=>exact gd pw hw hx ru hu ht.2 id go h
 | .bp :: g,b :: B,o :: G,l,l',hg,hw,hx,ru,hu,ht,id,go,h=>by
   simp only [df] at h
   have pw:jq g G=some l:=by cases o <;> exact hg
   change (zJ b o&&dj vs g B G)=true at ht
   rw [Bool.and_eq_true] at ht
   cases id with
   | zero=>
    simp only [nth] at h
    cases h
    exact ⟨o,rfl,.inl (Gr ht.1)⟩
   | succ id=>exact gd pw hw hx ru hu ht.2 id go h
 | .map :: g,b :: B,o :: G,l,l',hg,hw,hx,ru,hu,ht,id,go,h=>by
   cases o with
   | map es=>
    change (match jq g G with
     | some r=>some (AV.list .ki 2 (ai es) :: r)
     | none=>none)=some l at hg
    change (aV es&&dj vs g B G)=true at ht
    rw [Bool.and_eq_true] at ht
    split at hg
    ·rename_i r hr
     cases hg
     cases l' with
     | nil=>exact hw.elim
     | cons a l'=>
      simp only [aC,Bool.and_eq_true] at hu
      simp only [df,dL,List.tail_cons] at h
      cases id with
      | zero=>
       simp only [nth] at h
       cases h
       refine ⟨.map es,rfl,.inl (.inl ⟨?_,ht.1⟩)⟩
       rw [pd,hx.2.1 ht.1]
       exact mM es
      | succ id=>exact gd hr hw.2 hx.2.2.2 ru hu.2 ht.2 id go h
    ·cases hg
   | _=>cases hg
 | .Is :: g,b :: B,o :: G,l,l',hg,hw,hx,ru,hu,ht,id,go,h=>by
   have Br:dj vs g B G=true:=by cases o <;> exact ht
   cases o with
   | fG s pos=>
    change (match jq g G with
     | some r=>some (AV.str s :: AV.int .i64 pos :: r)
     | none=>none)=some l at hg
    split at hg
    ·rename_i r hr
     cases hg
     match l',hw,hx,hu,h with
     | [],hw,_,_,_=>exact hw.elim
     | [_],hw,_,_,_=>exact hw.2.elim
     | a :: a' :: l',hw,hx,hu,h=>
      simp only [aC,Bool.and_eq_true] at hu
      simp only [df,dL,List.tail_cons] at h
      have e1:=hx.1 (by simp [AV.exact])
      have e2:=hx.2.2.2.1 (by simp [AV.exact])
      subst e1 e2
      cases id with
      | zero=>
       simp only [nth] at h
       cases h
       exact ⟨.fG s pos,rfl,.inl ⟨rfl,by simp [AV.kj]⟩⟩
      | succ id=>exact gd hr hw.2.2 hx.2.2.2.2.2.2 ru hu.2.2 Br id go h
    ·cases hg
   | _=>cases hg
 | .cS sz e :: g,b :: B,o :: G,l,l',hg,hw,hx,ru,hu,ht,id,go,h=>by
   have Br:dj vs g B G=true:=by cases o <;> exact ht
   cases o with
   | cS es bI e'=>
    change (match jq g G with
     | some r=>bif Nat.beq sz bI&&Nat.beq e e' then some (AV.list .ki bI es :: r) else none
     | none=>none)=some l at hg
    split at hg
    ·rename_i r hr
     cases hm:(Nat.beq sz bI&&Nat.beq e e') with
     | false=>rw [hm] at hg; cases hg
     | true=>
     rw [hm] at hg
     rw [Bool.and_eq_true] at hm
     have q1:=Nat.eq_of_beq_eq_true hm.1
     have q2:=Nat.eq_of_beq_eq_true hm.2
     cases hg
     cases l' with
     | nil=>exact hw.elim
     | cons a l'=>
      simp only [aC,Bool.and_eq_true] at hu
      simp only [df,dL,List.tail_cons] at h
      cases id with
      | zero=>
       simp only [nth] at h
       cases h
       exact ⟨.cS es bI e',rfl,.inl ⟨q1,q2,hx.2.2.1,ru.1.1⟩⟩
      | succ id=>exact gd hr hw.2 hx.2.2.2 ⟨ru.1.2,ru.2⟩ hu.2 Br id go h
    ·cases hg
   | _=>cases hg
 | .ba sz e :: g,b :: B,o :: G,l,l',hg,hw,hx,ru,hu,ht,id,go,h=>by
   have Br:dj vs g B G=true:=by cases o <;> exact ht
   cases o with
   | ba fs bI e'=>
    change (match jq g G with
     | some r=>bif Nat.beq sz bI&&Nat.beq e e' then some (AV.list .ki 1 (cq fs) :: r) else none
     | none=>none)=some l at hg
    split at hg
    ·rename_i r hr
     cases hm:(Nat.beq sz bI&&Nat.beq e e') with
     | false=>rw [hm] at hg; cases hg
     | true=>
     rw [hm] at hg
     rw [Bool.and_eq_true] at hm
     have q1:=Nat.eq_of_beq_eq_true hm.1
     have q2:=Nat.eq_of_beq_eq_true hm.2
     cases hg
     cases l' with
     | nil=>exact hw.elim
     | cons a l'=>
      simp only [aC,Bool.and_eq_true] at hu
      simp only [df,dL,List.tail_cons] at h
      cases id with
      | zero=>
       simp only [nth] at h
       cases h
       refine ⟨.ba fs bI e',rfl,.inl ⟨?_,q1.symm,q2.symm⟩⟩
       rw [hx.2.1 (vE fs)]
       exact (s7 fs).symm
      | succ id=>exact gd hr hw.2 hx.2.2.2 ru hu.2 Br id go h
    ·cases hg
   | _=>cases hg
 | .qJ :: g,b :: B,o :: G,l,l',hg,hw,hx,ru,hu,ht,id,go,h=>by
   have Br:dj vs g B G=true:=by cases o <;> exact ht
   cases o with
   | map es=>
    change (match jq g G with
     | some r=>some (AV.list .ki 2 (ai es) :: r)
     | none=>none)=some l at hg
    split at hg
    ·rename_i r hr
     cases hg
     cases l' with
     | nil=>exact hw.elim
     | cons a l'=>
      simp only [aC,Bool.and_eq_true] at hu
      simp only [df,dL,List.tail_cons] at h
      cases id with
      | zero=>
       simp only [nth] at h
       cases h
       exact ⟨.map es,rfl,.inl (.inr ⟨a.dB,pd a,hx.2.2.1,ru.1.1⟩)⟩
      | succ id=>exact gd hr hw.2 hx.2.2.2 ⟨ru.1.2,ru.2⟩ hu.2 Br id go h
    ·cases hg
   | _=>cases hg
 | .mJ pt :: g,b :: B,o :: G,l,l',hg,hw,hx,ru,hu,ht,id,go,h=>by
   obtain ⟨C6,Br⟩:P7 b o=true∧dj vs g B G=true:=by
    rw [← Bool.and_eq_true]
    cases o <;> exact ht
   cases o with
   | mJ mid' k left cur t=>
    have oQ:V1 b=t:=by
     cases b <;> first | (cases C6; done) | exact Nat.eq_of_beq_eq_true C6
    change (match jq g G with
     | some r=>bif Nat.beq pt mid' then some (AV.int .i64 k :: AV.list .ki 1 (cq left) :: r) else none
     | none=>none)=some l at hg
    split at hg
    ·rename_i r hr
     cases hm:Nat.beq pt mid' with
     | false=>rw [hm] at hg; cases hg
     | true=>
     rw [hm] at hg
     have q1:=Nat.eq_of_beq_eq_true hm
     subst q1
     cases hg
     have Zm:=ru.2
     simp only [Iu,Bool.and_eq_true] at Zm
     match l',hw,hx,hu,h with
     | [],hw,_,_,_=>exact hw.elim
     | [_],hw,_,_,_=>exact hw.2.elim
     | a :: a' :: l',hw,hx,hu,h=>
      simp only [aC,Bool.and_eq_true] at hu
      simp only [df,dL,List.tail_cons] at h
      have e1:=hx.1 (by simp [AV.exact])
      have e2:=hx.2.2.2.2.1 (vE left)
      subst e1
      cases id with
      | zero=>
       simp only [nth] at h
       cases h
       refine ⟨.mJ pt k left cur t,rfl,.inl ⟨rfl,by simp [AV.kj],?_,oQ.symm,jc Zm.1,rfl⟩⟩
       rw [e2]
       exact (s7 left).symm
      | succ id=>exact gd hr hw.2.2 hx.2.2.2.2.2.2 ⟨ru.1,Zm.2⟩ hu.2.2 Br id go h
    ·cases hg
   | _=>cases hg
theorem cJ {vs:List AV}:∀ {g:List GL} {B:List GO} {l:List AV},(df vs g B l).length=g.length
 | [],_,_=>rfl
 | .row m :: g,B,l=>by simp [df,cJ (g:=g)]
 | .tok _ _ _ :: g,B,l=>by simp [df,cJ (g:=g)]
 | .dead :: g,B,l=>by simp [df,cJ (g:=g)]
 | .lp _ :: g,B,l=>by simp [df,cJ (g:=g)]
 | .bp :: g,B,l=>by simp [df,cJ (g:=g)]
 | .map :: g,B,l=>by simp [df,cJ (g:=g)]
 | .cS _ _ :: g,B,l=>by simp [df,cJ (g:=g)]
 | .Is :: g,B,l=>by simp [df,cJ (g:=g)]
 | .ba _ _ :: g,B,l=>by simp [df,cJ (g:=g)]
 | .qJ :: g,B,l=>by simp [df,cJ (g:=g)]
 | .mJ _ :: g,B,l=>by simp [df,cJ (g:=g)]
theorem fP.lok {R0:ak} {w0:World} {P9:RO} {Hg go' go:GO} {ro:RO} (e:Ext R0 w0 R w) (h0:fP R0 w0 Hg P9) (hle:ck P9 ro) (h:fP R' w go' ro) (k:Zl Hg go' go):fP R w go ro:=by
 cases Hg with
 | loop b p fn sl n ps qB bd d dn=>
  cases go' with
  | loop b' p' V3 UL n' V4 LZ UP d' dn'=>
   change go=_ at k
   subst k
   cases P9 with
   | bU bb=>
    simp only [ck] at hle
    subst hle
    obtain ⟨⟨r0,db0,l1,l2,l3,l4,l5,l6,l7,l8,l9,l10⟩,l11⟩:=h0
    obtain ⟨⟨r,db,m1,m2,m3,m4,m5,m6,m7,m8,m9,m10⟩,m11⟩:=h
    obtain ⟨r1,q1,q2,q3,q4,q5,q6⟩:=e.lp bb r0 l1
    have hr:r1=r:=by
     have:=q1.symm.trans m1
     injection this with this
     injection this with this
    subst hr
    exact ⟨⟨r1,db0,q1,m2,m3,by rw [q2]; exact mV.mono e l4,by rw [q2]; exact l5,by rw [q3]; exact l6,by rw [q4]; exact l7,by rw [q5]; exact l8,by rw [q6]; exact l9,e.bU l10⟩,l11⟩
   | none=>exact h0.elim
   | bC=>exact h0.elim
   | tok _ _ _=>exact h0.elim
   | ba _=>exact h0.elim
  | _=>exact k.elim
 | _=>exact k.elim
theorem dc.cut {n:Nat}:∀ {es:List (AV × AV)} {aw:List MapEntry},fh (ai es)=true→dc R w es aw→dc (R.cut n) w es aw
 | [],[],_,_=>trivial
 | [],_ :: _,_,h=>h.elim
 | _ :: _,[],_,h=>h.elim
 | (k,v) :: es,en :: aw,he,h=>by
  simp only [ai,fh,AV.exact,Bool.and_true,Bool.and_eq_true] at he
  exact ⟨h.1.move (nJ R n) (gN n (ms he.1.1)),h.2.1.move (nJ R n) (gN n (ms he.1.2)),dc.cut he.2 h.2.2⟩
theorem BF {n:Nat} {v:AV} (h:v.under n=true) (k:v.aQ=true):aC n v.cells=true:=by
 cases v <;> first | exact h | (simp [AV.aQ] at k; done) | (simp only [AV.cells,aC,Bool.and_true]; exact h)
theorem vN {n sz:Nat}:∀ {es es':List AV},jd es es'→dp sz es→aC n es'=true→dp sz es'∧cz (ar es) (ar es')∧aC n (ar es')=true
 | [],[],_,_,_=>⟨(fun e he=>by simp at he),trivial,rfl⟩
 | e :: es,e' :: es',h,k,tA=>by
  obtain ⟨h1,h2⟩:=h
  simp only [aC,Bool.and_eq_true] at tA
  obtain ⟨q1,q2⟩:=k e (by simp)
  obtain ⟨i1,i2,i3⟩:=vN h2 (fun x hx=>k x (by simp [hx])) tA.2
  have hc:=h1.cells q2
  have ht:e'.aQ=true:=by rw [h1.bf,q2]
  refine ⟨fun x hx=>?_,hc.append i2,by show aC n (e'.cells++ar es')=true; rw [eL,BF tA.1 ht,i3]; rfl⟩
  rcases List.mem_cons.1 hx with rfl | hx
  ·exact ⟨by rw [← hc.length,q1],ht⟩
  ·exact i1 x hx
 | [],_ :: _,h,_,_=>h.elim
 | _ :: _,[],h,_,_=>h.elim
theorem mP.head {l r:List AV} (h:mP l r):(AV.dB (dL l)).length=(AV.dB (dL r)).length:=by
 cases l <;> cases r <;> first | rfl | exact h.1 | exact h.elim
theorem mP.tail {l r:List AV} (h:mP l r):mP l.tail r.tail:=by
 cases l <;> cases r <;> first | exact h | exact h.2 | exact h.elim
theorem cK:∀ (g:List GL) {l r:List AV} (i:Nat),mP l r→jV g l i=jV g r i
 | [],_,_,_,_=>rfl
 | .cS _ _ :: g,l,r,0,h=>h.head
 | .cS _ _ :: g,l,r,i+1,h=>cK g i h.tail
 | .row _ :: g,l,r,0,h=>rfl
 | .row n :: g,l,r,i+1,h=>cK g i (h.drop n)
 | .map :: g,l,r,0,h=>rfl
 | .map :: g,l,r,i+1,h=>cK g i h.tail
 | .Is :: g,l,r,0,h=>rfl
 | .Is :: g,l,r,i+1,h=>cK g i h.tail.tail
 | .ba _ _ :: g,l,r,0,h=>rfl
 | .ba _ _ :: g,l,r,i+1,h=>cK g i h.tail
 | .qJ :: g,l,r,0,h=>rfl
 | .qJ :: g,l,r,i+1,h=>cK g i h.tail
 | .mJ _ :: g,l,r,0,h=>rfl
 | .mJ _ :: g,l,r,i+1,h=>cK g i h.tail.tail
 | .tok _ _ _ :: g,l,r,0,h=>rfl
 | .tok _ _ _ :: g,l,r,i+1,h=>cK g i h
 | .dead :: g,l,r,0,h=>rfl
 | .dead :: g,l,r,i+1,h=>cK g i h
 | .lp _ :: g,l,r,0,h=>rfl
 | .lp _ :: g,l,r,i+1,h=>cK g i h
 | .bp :: g,l,r,0,h=>rfl
 | .bp :: g,l,r,i+1,h=>cK g i h
theorem dc.V5 {n:Nat}:∀ {es:List (AV × AV)} {l:List AV} {aw:List MapEntry},jd (ai es) l→aC n l=true→dc R w es aw→dc (R.cut n) w (ab l) aw
 | [],[],[],_,_,_=>trivial
 | [],[],_ :: _,_,_,h=>h.elim
 | [],_ :: _,_,h,_,_=>h.elim
 | (_,_) :: _,[],_,h,_,_=>h.elim
 | (_,_) :: _,_ :: _,[],_,_,h=>h.elim
 | (k,v) :: es,a :: l,en :: aw,hd,hu,h=>by
  obtain ⟨d1,d2⟩:=hd
  simp only [aC,Bool.and_eq_true] at hu
  have hc:=d1.cells rfl
  have hl:[k,v].length=a.cells.length:=hc.length
  cases a with
  | agg cs=>
   match cs,hc,hl with
   | [k',v'],hc,_=>
    have RE:aC n [k',v']=true:=hu.1
    simp only [aC,Bool.and_true,Bool.and_eq_true] at RE
    exact ⟨(hc.1 _ _ _ h.1).move (nJ R n) RE.1,(hc.2.1 _ _ _ h.2.1).move (nJ R n) RE.2,dc.V5 d2 hu.2 h.2.2⟩
   | [],_,hl=>simp [AV.cells] at hl
   | [_],_,hl=>simp [AV.cells] at hl
   | _ :: _ :: _ :: _,_,hl=>simp [AV.cells] at hl
  | _=>simp [AV.cells] at hl
theorem fP.gok {n:Nat} {go go':GO} {ro:RO} (h:fP R w go' ro) (k:Zk n go' go):fP (R.cut n) w go ro:=by
 cases go with
 | dead=>
  cases ro with
  | none=>trivial
  | bC=>trivial
  | bU b=>exact h.lt rfl
  | tok f b c=>exact h.lt rfl
  | ba ts=>exact fun j f b c hj=>h.lt ⟨j,f,c,hj⟩
 | row cs el=>
  cases go' with
  | row cs' XS=>
   cases ro with
   | bU b=>
    obtain ⟨vs,h1,h2,h3,h4⟩:=h
    obtain ⟨rfl,k⟩:=k
    exact ⟨vs,h1,(k.1.rel h2).move (nJ R n) k.2,h3,h4⟩
   | none=>exact h.elim
   | bC=>exact h.elim
   | tok _ _ _=>exact h.elim
   | ba _=>exact h.elim
  | _=>exact k.elim
 | tok f sz e=>
  cases go' with
  | tok f' bI e'=>
   obtain ⟨rfl,rfl,rfl⟩:=k
   cases ro with
   | bU b=>exact h.elim
   | none=>exact h.elim
   | bC=>exact h
   | tok _ _ _=>exact h
   | ba _=>exact h.elim
  | _=>exact k.elim
 | defers a=>
  cases go' with
  | defers b=>
   change b=a at k
   subst k
   cases ro <;> exact h
  | _=>exact k.elim
 | map es=>
  cases go' with
  | map es'=>
   cases ro with
   | bU b=>
    obtain ⟨aw,clock,h1,h2,h3⟩:=h
    rcases k with ⟨rfl,k2⟩ | ⟨l,rfl,k2,k3⟩
    ·exact ⟨aw,clock,h1,dc.cut k2 h2,h3⟩
    ·exact ⟨aw,clock,h1,dc.V5 k2 k3 h2,h3⟩
   | none=>exact h.elim
   | bC=>exact h.elim
   | tok _ _ _=>exact h.elim
   | ba _=>exact h.elim
  | _=>exact k.elim
 | ba fs sz e=>
  cases go' with
  | ba zf bI e'=>
   obtain ⟨rfl,rfl,rfl⟩:=k
   cases ro <;> exact h
  | _=>exact k.elim
 | mJ pt m left cur t=>
  cases go' with
  | mJ mid' m' ym AS t'=>
   obtain ⟨rfl,rfl,rfl,rfl,k,rfl⟩:=k
   cases ro with
   | bU b=>obtain ⟨bm,seen,c0,h1,h2,h3,h4,h5,h6,_⟩:=h; exact ⟨bm,seen,c0,jr.2 ⟨k,h1⟩,h2,h3,h4,h5,h6,fun i hi=>by cases hi⟩
   | none=>exact h.elim
   | bC=>exact h.elim
   | tok _ _ _=>exact h.elim
   | ba _=>exact h.elim
  | _=>exact k.elim
 | fG l p=>
  cases go' with
  | fG l' p'=>
   obtain ⟨rfl,rfl⟩:=k
   cases ro <;> exact h
  | _=>exact k.elim
 | cS es sz e=>
  cases go' with
  | cS es' bI e'=>
   obtain ⟨rfl,rfl,k,kc⟩:=k
   cases ro with
   | bU b=>exact h.elim
   | none=>exact h.elim
   | ba _=>exact h.elim
   | bC=>
    have he:es'=[]:=h
    subst he
    exact List.eq_nil_of_length_eq_zero k.length.symm
   | tok f b c=>
    obtain ⟨h0,h1,cur,vs,h2,h3,h4,h5,h6,h7,h8,h9⟩:=h
    obtain ⟨k1,k2,k3⟩:=vN k h1 kc
    exact ⟨h0.trans k.length,k1,cur,vs,h2,h3,h4,h5,h6,(k2.rel h7).move (nJ R n) k3,h8,h9⟩
  | _=>exact k.elim
 | _=>cases go' <;> exact k.elim
theorem oL.ids:∀ {l:List Nat} {ds:List Deferred},oL R l ds→∀ id∈l,id < R.obj.length
 | [],[],_,id,hi=>by simp at hi
 | x :: l,d :: ds,h,id,hi=>by
  obtain ⟨⟨b,h1,_⟩,h2⟩:=h
  rcases List.mem_cons.1 hi with rfl | hi
  ·exact bJ h1
  ·exact oL.ids h2 id hi
 | [],_ :: _,h,_,_=>h.elim
 | _ :: _,[],h,_,_=>h.elim
theorem oL.cut {n:Nat}:∀ {l:List Nat} {ds:List Deferred},oL R l ds→(∀ id∈l,id < n)→oL (R.cut n) l ds
 | [],[],_,_=>trivial
 | x :: l,d :: ds,h,hi=>by
  obtain ⟨⟨b,h1,h3⟩,h2⟩:=h
  exact ⟨⟨b,jr.2 ⟨hi x (by simp),h1⟩,h3⟩,oL.cut h2 fun id hm=>hi id (by simp [hm])⟩
 | [],_ :: _,h,_=>h.elim
 | _ :: _,[],h,_=>h.elim
theorem tc {n:Nat} {tmps:Array Value} {ae base:a8} (hT:mV R w β ae tmps):∀ {l:List (Tmp × Nat × Nat)},EV ae l=true→mV (R.cut n) w β base tmps→mV (R.cut n) w β (nI l base) tmps
 | [],_,h=>h
 | (t,k,o) :: l,hl,h=>fun i hi=>by
  simp only [EV,Bool.and_eq_true] at hl
  simp only [nI] at hi ⊢
  by_cases e:t=i
  ·subst e
   rw [ay]
   have h1:=hl.1
   split at h1
   ·rename_i k' o' hk
    rw [Bool.and_eq_true] at h1
    have e1:=Nat.eq_of_beq_eq_true h1.1
    have e2:=Nat.eq_of_beq_eq_true h1.2
    subst e1 e2
    obtain ⟨c,q1,q2⟩:=hT t (by rw [hk]; simp)
    rw [hk] at q2
    exact ⟨c,q1,q2⟩
   ·cases h1
  ·rw [aK e] at hi ⊢
   exact tc hT hl.2 h i hi
theorem cu.AF {t:cu} {v:t.ps.T} (hs:aO s s') (h0:bg E R w β s a) (h:bg E R' w' β' s' a') (st:Step R w β s.boxes R' w' β' s'.boxes) (hd:t.dec s s'=some v) :
  bg E (R'.cut s.G.length) w' β' (t.st s v) a'∧Step R w β s.boxes (R'.cut s.G.length) w' β' (t.st s v).boxes:=by
 have hlen:=h0.g.len
 unfold cu.dec at hd
 cases dY:t.ok s s' with
 | false=>rw [dY] at hd; cases hd
 | true=>
 rw [dY] at hd
 simp only [cond_true] at hd
 unfold cu.ok at dY
 simp only [Bool.and_eq_true] at dY
 obtain ⟨⟨⟨⟨⟨k1,k2⟩,k3⟩,k4⟩,k5,k7,k8⟩,k6⟩:=dY
 obtain ⟨pre,xA⟩:=hs.sl
 obtain ⟨preB,Qa⟩:=hs.bx
 rw [xA,BB] at k1
 rw [Qa,BB] at k2
 have k3:=EW k3
 have k4:=Nat.eq_of_beq_eq_true k4
 split at hd
 ·rename_i la lb lc g1 g2 g3
  cases hv:t.ps.Gp (jV t.g lc) (la++(lb++lc)) with
  | none=>rw [hv] at hd; cases hd
  | some v'=>
  rw [hv] at hd
  simp only [Option.bind_some] at hd
  cases F0:dj (t.oP v') t.g s.G s'.G with
  | false=>rw [F0] at hd; cases hd
  | true=>
  rw [F0] at hd
  cases hd
  have Zn:∀ {ts:List Tmp} {l:List AV},vF s'.ae ts=some l→l.length=ts.length:=by
   intro ts
   induction ts with
   | nil=>intro l hl; simp only [vF] at hl; cases hl; rfl
   | cons t ts ih=>
    intro l hl
    unfold vF at hl
    split at hl
    ·split at hl
     ·rename_i hr
      cases hl
      simp [ih hr]
     ·cases hl
    ·cases hl
  have Zo:∀ {bx:List (Nat × Nat)} {l:List AV},vG s'.boxes bx=some l→l.length=zK bx:=by
   intro bx
   induction bx with
   | nil=>intro l hl; simp only [vG] at hl; cases hl; rfl
   | cons x bx ih=>
    obtain ⟨k,m⟩:=x
    intro l hl
    unfold vG at hl
    split at hl
    ·split at hl
     ·rename_i cs _ _ r hr
      cases hm:Nat.beq cs.length m with
      | false=>rw [hm] at hl; cases hl
      | true=>
       rw [hm] at hl
       cases hl
       simp only [zK,List.length_append,ih hr,Nat.eq_of_beq_eq_true hm]
     ·cases hl
    ·cases hl
  obtain ⟨hw,hex⟩:=t.ps.LW _ hv
  have Qb:t.oP v=t.ps.jU (jV t.g lc) v:=by
   unfold cu.oP
   congr 1
   funext i
   have hl:=hex.V0.trans (t.ps.nG (jV t.g lc) (fun _=>0) v)
   have Ii:=(hl.drop t.sl.length).drop (zK t.bx)
   rw [← Zn g1,List.drop_left,← Zo g2,List.drop_left,Zn g1,Zo g2] at Ii
   exact (cK t.g i Ii).symm
  have hu:aC s.G.length (t.oP v)=true:=by
   rw [Qb,t.ps.Gq _ hv]
   exact t.ps.DB _ k5 _
  rw [← Qb] at hw hex
  have V6:∃ xa xb xc,t.oP v=xa++(xb++xc)∧cz la xa∧cz lb xb∧cz lc xc∧xa.length=la.length∧xb.length=lb.length∧Hj lc xc:=by
   obtain ⟨xa,r,h1,h2,h3,h4⟩:=hw.split
   obtain ⟨xb,xc,rfl,h6,h7,h8⟩:=h3.split
   rw [h1] at hex
   obtain ⟨ya,yr,g1,_,g3,g4⟩:=hex.split
   obtain ⟨_,rfl⟩:=List.append_inj g1 (by rw [h4,g4])
   obtain ⟨yb,yc,k1,_,k3,k4⟩:=g3.split
   obtain ⟨_,rfl⟩:=List.append_inj k1 (by rw [h8,k4])
   exact ⟨xa,xb,xc,h1,h2,h6,h7,h4,h8,k3⟩
  obtain ⟨xa,xb,xc,hx,wa,wb,wc,la1,lb1,exc⟩:=V6
  have Zp:aC s.G.length xa=true∧aC s.G.length xb=true∧aC s.G.length xc=true:=by
   rw [hx,eL,eL] at hu
   simp only [Bool.and_eq_true] at hu
   exact ⟨hu.1,hu.2.1,hu.2.2⟩
  have e1:(t.oP v).drop t.sl.length=xb++xc:=by rw [hx,← Zn g1,← la1,List.drop_left]
  have e2:(xb++xc).drop (zK t.bx)=xc:=by rw [← Zo g2,← lb1,List.drop_left]
  have ru:vL s.G.length t.g xc:=by
   have hf:=((aJ.BE s.G.length _ t.ps v).drop t.sl.length).drop (zK t.bx) (l:=(t.oP v).drop t.sl.length)
   rw [e1,e2] at hf
   exact eQ t.g k7 hf
  have old:∀ {l:List AV} {cs:List Value},aH R w l cs→aC s.G.length l=true:=fun hr=>hr.under (by omega)
  have mv:=nJ R' s.G.length
  have XU:∀ k cs,dm s'.boxes k=some cs→vK R' w' β' k cs:=fun k cs hk=>h.b.box k cs hk
  have X9:∀ k cs,dm (s8 t.bx (xb++xc) s.boxes) k=some cs→vK (R'.cut s.G.length) w' β' k cs∧∃ cs',dm s'.boxes k=some cs':=fun k cs hk=>by
   refine BD (K:=fun _=>False) XU g2 wb Zp.2.1 (fun k cs _ h1 h2=>?_) k cs (fun h=>h) hk
   refine ⟨by rw [Qa]; exact BA h1 h2 k2,?_⟩
   obtain ⟨⟨vs,el,_,h4,_⟩,_⟩:=h0.b.box k cs h2
   exact old h4
  have stG:(t.st s v).G=df (t.oP v) t.g s.G xc:=by simp only [cu.st,e1,e2]
  have stB:(t.st s v).boxes=s8 t.bx (xb++xc) s.boxes:=by simp only [cu.st,e1]
  have stS:(t.st s v).ae=nI t.UN (nH t.sl (xa++(xb++xc)) (vH t.W s.ae)):=by simp only [cu.st,hx]
  have ext:Ext R w (R'.cut s.G.length) w':=⟨st.ext.I,st.ext.cell,fun id ro hi=>by
   obtain ⟨k9,h1,h2⟩:=st.ext.obj id ro hi
   exact ⟨k9,jr.2 ⟨by have:=bJ hi; omega,h1⟩,h2⟩,st.ext.lp⟩
  refine ⟨⟨⟨?_,fun id go ro h1 h2=>?_,fun i j ri rj b h1 h2=>h.g.inj i j ri rj b (jr.1 h1).2 (jr.1 h2).2,h.g.wf,fun g cs hg=>(h.g.bY g cs hg).move mv (cb _ (E.mT g cs hg)),h.g.lo⟩,?_,?_,?_,?_⟩,?_⟩
  ·rw [stG,cJ,k4]
   have:=h.g.len
   have h3:s.G.length≤R'.obj.length:=by
    rcases Nat.lt_or_ge R'.obj.length s.G.length with bM | kN
    ·exfalso
     have hx:R'.obj.length < R.obj.length:=by omega
     obtain ⟨k9,h1,_⟩:=st.ext.obj R'.obj.length R.obj[R'.obj.length] (by rw [aX]; exact List.getElem?_eq_getElem hx)
     have:=bJ h1
     omega
    ·exact kN
   simp [ak.cut]
   omega
  ·rw [stG] at h1
   obtain ⟨go',h3,h4⟩:=gd g3 wc exc ⟨ru,k8⟩ Zp.2.2 F0 id go h1
   rcases h4 with h4 | ⟨Hg,h5,h4⟩
   ·exact (h.g.obj id go' ro h3 (jr.1 h2).2).gok h4
   ·have bM:=bJ h5
    rw [← hlen] at bM
    obtain ⟨P9,h6⟩:∃ P9,nth R.obj id=some P9:=⟨R.obj[id],by rw [aX]; exact List.getElem?_eq_getElem bM⟩
    obtain ⟨k9,h7,h8⟩:=ext.obj id P9 h6
    have:k9=ro:=Option.some.inj (h7.symm.trans h2)
    subst this
    exact fP.lok ext (h0.g.obj id Hg P9 h5 h6) h8 (h.g.obj id go' k9 h3 (jr.1 h2).2) h4
  ·rw [stB]
   refine ⟨fun k cs hk=>(X9 k cs hk).1,fun k k' cs cs' hk gX he=>?_⟩
   obtain ⟨_,c1,DC⟩:=X9 k cs hk
   obtain ⟨_,c2,LM⟩:=X9 k' cs' gX
   exact h.b.inj k k' c1 c2 DC LM he
  ·rw [stS]
   have hT:vI (R'.cut s.G.length) w' β' (fun _=>False) (nH t.sl (xa++(xb++xc)) (vH t.W s.ae)) a'.tmps:=by
    refine s9 mv h.t g1 (l':=xa) (r:=lb++lc) (r':=xb++xc) (wa.append (wb.append wc)) la1.symm Zp.1 (vJ fun i hi hn=>?_)
    have hi1:UO t.sl t.W i=false:=by
     simp only [UO,Bool.or_eq_false_iff]
     refine ⟨?_,?_⟩
     ·cases hc:Ln t.sl i with
      | false=>rfl
      | true=>exact absurd (.inr (.inl (zL.1 hc))) hi
     ·cases hc:Ln t.W i with
      | false=>rfl
      | true=>exact absurd (.inl (zL.1 hc)) hi
    have hk:=zN hi1 k1
    rw [← xA] at hk
    obtain ⟨c,h1,h2⟩:=h.t i (by rw [hk]; exact hn)
    rw [hk] at h2
    refine ⟨c,h1,?_⟩
    obtain ⟨c0,_,h4⟩:=h0.t i hn
    revert h2 h4
    cases lk s.ae i with
    | none=>exact fun _ _=>trivial
    | lp k off=>exact fun h2 _=>h2
    | v x=>exact fun h2 h4=>Rel.move mv (Rel.under (by omega) h4) h2
   exact tc h.t k6 (fun i hi=>hT i (fun h=>h) hi)
  ·show a'.tmps.size=s.n
   rw [h.n,hs.n]
  ·show oL _ s.marks a'.defers
   have:=h.d
   rw [k3] at this
   exact this.cut fun id hid=>by have:=h0.d.ids id hid; omega
  ·refine ⟨ext,st.os,st.tape,st.output,st.size,st.bp,fun b hb ho=>st.own b hb ?_,st.im⟩
   rcases ho with ho | ⟨k,cs,hk,rfl⟩
   ·exact .inl (BC ho)
   ·rw [stB] at hk
    obtain ⟨_,c1,DC⟩:=X9 k cs hk
    exact .inr ⟨k,c1,DC,rfl⟩
 ·cases hd
end AF
end Go.Am
namespace Go.Am
open Go
def gq:a8→a8
 | []=>[]
 | .put d (.lp _ _) :: l=>.put d .none :: gq l
 | .put d x :: l=>.put d x :: gq l
 | .kill _ :: l=>gq l
def SV.xD:SV→SV
 | .lp _ _=>.none
 | x=>x
theorem r7 (t:Nat):∀ l:a8,lk (gq l) t=(lk l t).xD
 | []=>rfl
 | .put d x :: l=>by
  cases x <;> simp only [gq] <;> by_cases e:d=t <;> first | (subst e; rw [ay,ay]; rfl) | (rw [aK e,aK e]; exact r7 t l)
 | .kill d :: l=>by
  simp only [gq,lk]
  rw [r7 t l]
  cases lk l t with
  | lp k off=>
   by_cases e:k=d
   ·subst e; simp [SV.xD]
   ·simp [lV e,SV.xD]
  | _=>rfl
theorem mu:∀ l:a8,Eo (gq l)=true
 | []=>rfl
 | .put d x :: l=>by
  cases x <;> simp only [gq,Eo] <;> exact mu l
 | .kill d :: l=>by simp only [gq]; exact mu l
def Zq (E:Env) (Q:Exit→St→Prop) (s:St) (G':List GO):Prop:=
 match nth G' (s.G.length+1) with
 | some (.loop busy pending _ _ _ _ _ _ _ done)=>(busy=false∨done=true) ∧
  match pending with
  | none=>Q .normal ⟨s.ae,s.boxes,aA G' (s.G.length+1) .dead,s.G.length :: s.marks,s.ro,s.n⟩
  | some c=>fb E c Q ⟨s.ae,s.boxes,aA G' (s.G.length+1) .dead,s.G.length :: s.marks,s.ro,s.n⟩
 | _=>False
theorem DD {busy done:Bool} (h:busy=false∨done=true):(if done=true then LoopState.done else if busy=true then LoopState.busy else LoopState.ready)≠LoopState.busy:=by
 rcases h with rfl | rfl
 ·cases done <;> simp
 ·simp
theorem fb.rangeFunc {E:Env} {Q:Exit→St→Prop} {s:St} (fp:Nat) {g:Operand} {ps:Array Tmp} {assign body:Code} (bP:s.ro=none) {f:FuncId} {first cap:List AV} (hg:bB E s.ae g=.v (.fn f first cap))
  (h:cp E f (first++[.yield (s.G.length+1)]++cap) (s.G++[.defers true]++[.loop false none fp (gq s.ae) s.n ps.toList assign body s.G.length false]) (fun _ G'=>Zq E Q s G')) :
  fb E (.rangeFunc g ps assign body) Q s:=fun R w β a F hr hf=>by
 rw [bP] at hf
 have VH:F=Fence.wide:=hf
 subst VH
 refine wpIn_rangeFunc fun fn _=>?_
 have rg:=aN hr g
 rw [hg] at rg
 have rg':Rel R w (.fn f first cap) (a.eval g):=rg
 -- the block for the deferred calls
 have HZ:fP (R.add (.bU w.heap.size)) (w.alloc (.deferred (some []))) (.defers true) (.bU w.heap.size):=heap_alloc_new w _
 have h1:=hr.kO (.deferred (some [])) (.defers true) (.bU w.heap.size) (by exact fun _ h=>h) HZ
 have s1:=cX hr (.deferred (some [])) (.bU w.heap.size) (by exact fun _ h=>h)
 have dV:(w.alloc (.deferred (some []))).heap.size=w.heap.size+1:=by simp
 generalize Y1:w.alloc (.deferred (some []))=w1 at *
 generalize hR1:R.add (.bU w.heap.size)=R1 at *
 -- the loop's record
 let tN:Loop:={ state:=.ready,pending:=none,fn:=fn,tmps:=a.tmps,params:=ps,assign:=assign,body:=body,defers:=w.heap.size }
 have HJ:nth R1.obj s.G.length=some (.bU w.heap.size):=by rw [← hR1]; exact ga hr _
 have e2:Ext R1 w1 (R1.add (.bU w1.heap.size)) (w1.alloc (.loop tN)):=fZ h1.g.wf _ _
 have VN:fP (R1.add (.bU w1.heap.size)) (w1.alloc (.loop tN)) (.loop false none fp (gq s.ae) s.n ps.toList assign body s.G.length false) (.bU w1.heap.size):=by
  refine ⟨⟨tN,w.heap.size,heap_alloc_new w1 _,rfl,rfl,fun i hi=>?_,hr.n,by simp [tN],rfl,rfl,rfl,e2.bU HJ⟩,mu _⟩
  rw [r7] at hi ⊢
  have cA:lk s.ae i≠.none:=fun e=>hi (by rw [e]; rfl)
  obtain ⟨c,k1,k2⟩:=hr.t i cA
  refine ⟨c,k1,?_⟩
  cases hx:lk s.ae i with
  | none=>exact absurd hx cA
  | lp k off=>rw [hx] at hi; exact absurd rfl hi
  | v x=>
   rw [hx] at k2
   exact Rel.mono (s1.ext.trans e2) (show Rel R w x c from k2)
 have h2:=h1.kO (.loop tN) (.loop false none fp (gq s.ae) s.n ps.toList assign body s.G.length false) (.bU w1.heap.size) (by exact fun _ h=>h) VN
 have s2:=cX h1 (.loop tN) (.bU w1.heap.size) (by exact fun _ h=>h)
 have V7:nth (R1.add (.bU w1.heap.size)).obj (s.G.length+1)=some (.bU w1.heap.size):=by
  have:=ga h1 (.bU w1.heap.size)
  simpa [St.dC] using this
 have st:=s1.trans s2
 generalize hR2:R1.add (.bU w1.heap.size)=R2 at *
 generalize VR:a.eval g=fv at rg'
 cases rg' with
 | @fn _ _ _ vs us q1 q2=>
 refine ⟨w.heap.size+1,[{ target:=.collected w.heap.size,args:=#[] }],w1.alloc (.loop tN),{ target:=.fn (.func f) ⟨us⟩,args:=⟨vs⟩++#[.func (.yield (w.heap.size+1)) #[] #[]] },w1.alloc (.loop tN),f,
  ⟨vs++[.func (.yield (w.heap.size+1)) #[] #[]]++us⟩,w1.alloc (.loop tN),?_,?_,?_,?_,?_,?_⟩
 ·have:Fence.wide.round=none:=rfl
  rw [this,run_enterLoop_outer,Y1]
 ·simp only [resolve,VR,Deferred.ofValue,Sem.run_pure]
  simp [Act.eval]
 ·intro f' _
  exact trivial
 ·have:=mh (P:=E.P) h.1 (⟨vs++[.func (.yield (w.heap.size+1)) #[] #[]]++us⟩) (w1.alloc (.loop tN))
  simpa [invoke] using this
 ·intro hc; cases hc
 ·have hG:(s.dC (.defers true)).dC (.loop false none fp (gq s.ae) s.n ps.toList assign body s.G.length false)=s.bW (s.G++[.defers true]++[.loop false none fp (gq s.ae) s.n ps.toList assign body s.G.length false]):=rfl
  have Ya:Rel R2 (w1.alloc (.loop tN)) (.yield (s.G.length+1)) (.func (.yield (w.heap.size+1)) #[] #[]):=by
   rw [← dV]
   exact .yield V7
  refine (h.2 R2 (w1.alloc (.loop tN)) _ h2.g ((((q1.mono st.ext).append (.one Ya)).append (q2.mono st.ext)))).mono ?_
  intro e w3 he
  cases e with
  | panicked c=>exact he.elim
  | outgrown=>exact he.elim
  | returned c=>
   obtain ⟨r,G',R3,hQ,dS,hg3,Zr⟩:=he
   obtain ⟨p1,p2⟩:=h2.rU hg3 Zr
   unfold Zq at hQ
   split at hQ
   ·rename_i busy pending ff sl nn pp qB bd dd done RG
    obtain ⟨hbd,hQ⟩:=hQ
    have V8:nth R3.obj (s.G.length+1)=some (.bU w1.heap.size):=Zr.ext.bU V7
    obtain ⟨⟨r3,db,l1,l2,l3,_,_,_,_,_,_,_⟩,_⟩:=p1.g.obj _ _ _ RG V8
    have RH:r3.state≠.busy:=by rw [l2]; exact DD hbd
    have l1':w3.heap[w.heap.size+1]?=some (.loop r3):=by rw [← dV]; exact l1
    refine ⟨r3.pending,_,run_endLoop l1' RH,?_⟩
    rw [l3]
    -- the record is dead
    have V9:nth R3.obj s.G.length=some (.bU w.heap.size):=Zr.ext.bU (by rw [← hR2] at e2 ⊢; exact e2.bU HJ)
    have key:∀ x:Obj,oo x→(∀ r,Obj.loop r3=.loop r→∃ r',x=.loop r'∧qf r r')→bg E R3 (World.put w3 w1.heap.size x) β ⟨s.ae,s.boxes,aA G' (s.G.length+1) .dead,s.G.length :: s.marks,s.ro,s.n⟩ { a with defers:=[{ target:=.collected w.heap.size,args:=#[] }]++a.defers }∧Step R w β s.boxes R3 (World.put w3 w1.heap.size x) β s.boxes:=fun x hx hlx=>by
     obtain ⟨z1,z2⟩:=p1.setObj (x':=x) (go':=.dead) V8 l1 trivial hx hlx (show w1.heap.size < _ by simp [World.put]; exact bh l1)
     exact ⟨⟨z1.g,z1.b,z1.t,z1.n,⟨⟨w.heap.size,V9,rfl⟩,z1.d⟩⟩,(st.trans p2).trans z2⟩
    obtain ⟨z1,z2⟩:=key (.loop { r3 with state:=.exhausted,pending:=pending }) trivial (fun r e=>⟨_,rfl,by cases e; exact ⟨rfl,rfl,rfl,rfl,rfl⟩⟩)
    rw [dV] at z1 z2
    cases pending with
    | none=>exact ⟨_,R3,β,hQ,z1,z2,rfl⟩
    | some c=>
     refine wpIn_mono (hQ R3 _ β _ Fence.wide z1 (by show bQ R3 s.ro Fence.wide; rw [bP]; rfl)) ?_
     rintro e a'' PU ⟨AW,Lw,UI,Ro,zy,sW,yt⟩
     exact ⟨AW,Lw,UI,Ro,zy,z2.trans sW,yt⟩
   ·exact hQ.elim
def DE (id:Nat) (Q:Bool→List GO→Prop):Exit→St→Prop:=fun e s=>match nth s.G id with
 | some (.loop _ _ fn sl n ps qB bd d _)=>match e with
  | .normal=>Q true (aA s.G id (.loop false none fn sl n ps qB bd d false))
  | .ret=>Q false (aA s.G id (.loop false (some .ret) fn sl n ps qB bd d true))
  | .exit i=>Q false (aA s.G id (.loop false (some (.exit i)) fn sl n ps qB bd d true))
  | _=>False
 | _=>False
def zO (E:Env) (id:Nat) (body:Code) (Q:Bool→List GO→Prop):Exit→St→Prop:=fun e s=>match e with
 | .normal=>match nth s.G id with
  | some (.loop false p fn sl n ps qB bd d false)=>fb E body (DE id Q) (s.bW (aA s.G id (.loop true p fn sl n ps qB bd d false)))
  | _=>False
 | _=>False
def vO:List Tmp→List AV→a8→a8
 | t :: ts,a :: l,r=>vO ts l (.put t (.v a) :: r)
 | _,_,r=>r
def St.round (id:Nat) (ae:a8) (n:Nat) (G:List GO):St:=⟨ae,[],G,[],some id,n⟩
theorem vP {R:ak} {w:World} {β:Nat→Nat}:∀ {ts:List Tmp} {l:List AV} {cs:List Value} {r:a8} {tmps:Array Value},mV R w β r tmps→aH R w l cs→l.length=ts.length→(∀ t∈ts,t < tmps.size) →
  mV R w β (vO ts l r) ((ts.zip cs).foldl (fun tmps (t,a)=>tmps.setIfInBounds t a) tmps)
 | [],[],_,_,_,h,.nil,_,_=>h
 | t :: ts,a :: l,c :: cs,r,tmps,h,.cons hx hl,hlen,ht=>by
  have dV:t < tmps.size:=ht t (by simp)
  simp only [vO,List.zip_cons_cons,List.foldl_cons]
  refine vP ?_ hl (by simpa using hlen) (fun t' h'=>by simpa using ht t' (by simp [h']))
  have:=mV.put (a:={ tmps:=tmps,defers:=[] }) h (d:=t) (x:=.v a) (c:=c) dV hx
  simpa [Act.put] using this
 | [],_ :: _,_,_,_,_,_,hlen,_=>by simp at hlen
 | _ :: _,[],_,_,_,_,_,hlen,_=>by simp at hlen
theorem DF (l:List (Tmp × Value)):∀ tmps:Array Value,(l.foldl (fun (tmps:Array Value) (x:Tmp × Value)=>tmps.setIfInBounds x.1 x.2) tmps).size=tmps.size:=by
 induction l with
 | nil=>intro _; rfl
 | cons x l ih=>intro tmps; rw [List.foldl_cons,ih]; simp
theorem jN.intro {E:Env} {id:Nat} {args:List AV} {G:List GO} {Q:Bool→List GO→Prop} {fn:FuncId} {ae:a8} {n:Nat} {ps:List Tmp} {assign body:Code} {d:Nat} {p:Option Code}
  (hG:nth G id=some (.loop false p fn ae n ps assign body d false)) (hl:args.length=ps.length) (He:∀ t∈ps,t < n)
  (h:fb E assign (zO E id body Q) (St.round id (vO ps args ae) n G)):jN E id args G Q:=fun R w cs b hg hr hb=>by
 obtain ⟨⟨r,db,l1,l2,l3,l4,l5,l6,l7,l8,l9,l10⟩,l11⟩:=hg.obj id _ _ hG hb
 have hlen:=hr.length
 refine ⟨r,l1,by rw [l6]; simp; omega,?_⟩
 have Zs:Step R w (fun _=>0) eD R w (fun _=>0) eD:=Step.refl _ _ _ _
 have Zt:bg E R w (fun _=>0) (St.round id (vO ps args ae) n G) { tmps:=(r.params.zip ⟨cs⟩).foldl (fun tmps (t,a)=>tmps.setIfInBounds t a) r.tmps,defers:=[] }:=by
  have Wa:(r.params.zip ⟨cs⟩).foldl (fun (tmps:Array Value) (x:Tmp × Value)=>tmps.setIfInBounds x.1 x.2) r.tmps=(ps.zip cs).foldl (fun (tmps:Array Value) (x:Tmp × Value)=>tmps.setIfInBounds x.1 x.2) r.tmps:=by
   rw [← Array.foldl_toList]
   simp [l6]
  refine ⟨hg,⟨fun k cs hk=>?_,fun k k' c c' hk=>?_⟩,?_,?_,trivial⟩
  ·simp [St.round,dm] at hk
  ·simp [St.round,dm] at hk
  ·show mV _ _ _ _ _
   have:=vP (ts:=ps) (l:=args) (cs:=cs) l4 hr hl (fun t ht=>by rw [l5]; exact He t ht)
   rw [← Wa] at this
   exact this
  ·show _=n
   have:=DF (ps.zip cs) r.tmps
   rw [← Wa] at this
   exact this.trans l5
 have VK:∀ (k:Nat) (cs:List AV),dm (St.round id (vO ps args ae) n G).boxes k≠some cs:=fun k cs hk=>by simp [St.round,dm] at hk
 rw [l7,l8]
 refine roundIn_of_wpIn trivial (wpIn_mono (h R w (fun _=>0) _ (Fence.wide.inRound b) Zt ⟨b,hb,rfl⟩) ?_)
 rintro e a1 w1 ⟨s1,R1,β1,hq,uZ,st1,Zu⟩
 unfold zO at hq
 cases e with
 | normal=>
  simp only at hq
  split at hq
  ·rename_i p' V3 UL n' V4 LZ UP d' Zv
   have Ij:nth R1.obj id=some (.bU b):=st1.ext.bU hb
   obtain ⟨⟨r1,db1,m1,m2,m3,m4,m5,m6,m7,m8,m9,m10⟩,m11⟩:=uZ.g.obj id _ _ Zv Ij
   refine ⟨_,run_beginRound m1 m2,?_⟩
   obtain ⟨z1,z2⟩:=uZ.setObj (x':=.loop { r1 with state:=.busy }) (go':=.loop true p' V3 UL n' V4 LZ UP d' false) Ij m1 trivial trivial (fun r e=>⟨_,rfl,by cases e; exact ⟨rfl,rfl,rfl,rfl,rfl⟩⟩)
    ⟨⟨{ r1 with state:=.busy },db1,fT _ _ _ (bh m1),rfl,m3,m4.mono (mb (x':=.loop { r1 with state:=.busy }) m1 trivial trivial (fun r e=>⟨_,rfl,by cases e; exact ⟨rfl,rfl,rfl,rfl,rfl⟩⟩)),m5,m6,m7,m8,m9,m10⟩,m11⟩
   refine wpIn_mono (hq R1 _ β1 a1 (Fence.wide.inRound b) z1 (by show bQ R1 s1.ro _; rw [Zu]; exact ⟨b,Ij,rfl⟩)) ?_
   rintro e2 a2 w2 ⟨s2,R2,β2,mZ,A9,st2,Gs⟩
   unfold DE at mZ
   split at mZ
   ·rename_i bu2 p2 Yb Zw n2 Zx Zy Zz d2 dn2 VT
    have Wb:=(st1.trans z2).trans st2
    have Hi:nth R2.obj id=some (.bU b):=Wb.ext.bU hb
    obtain ⟨⟨r2,db2,o1,o2,o3,o4,o5,o6,o7,o8,o9,Iv⟩,qK⟩:=A9.g.obj id _ _ VT Hi
    have fin:∀ (j:Option Code),zz E R w (fun b' G'=>G'=aA s2.G id (.loop false j Yb Zw n2 Zx Zy Zz d2 (!j.isNone))∧b'=j.isNone) (.returned (.bool j.isNone)) (w2.putObj b (.loop { r2 with state:=if j.isNone then .ready else .done,pending:=j })):=fun j=>by
     obtain ⟨y1,y2⟩:=A9.setObj (x':=.loop { r2 with state:=if j.isNone then .ready else .done,pending:=j }) (go':=.loop false j Yb Zw n2 Zx Zy Zz d2 (!j.isNone)) Hi o1 trivial trivial (fun r e=>⟨_,rfl,by cases e; exact ⟨rfl,rfl,rfl,rfl,rfl⟩⟩)
      ⟨⟨{ r2 with state:=if j.isNone then .ready else .done,pending:=j },db2,fT _ _ _ (bh o1),by cases j <;> rfl,rfl,o4.mono (mb (x':=.loop { r2 with state:=if j.isNone then .ready else .done,pending:=j }) o1 trivial trivial (fun r e=>⟨_,rfl,by cases e; exact ⟨rfl,rfl,rfl,rfl,rfl⟩⟩)),o5,o6,o7,o8,o9,Iv⟩,qK⟩
     exact ⟨_,_,R2,⟨rfl,rfl⟩,rfl,y1.g,vh (Wb.trans y2) VK⟩
    have mk:∀ (j:Option Code),Q j.isNone (aA s2.G id (.loop false j Yb Zw n2 Zx Zy Zz d2 (!j.isNone)))→∃ v w',(Instr.endRound b j).run E.P w2=.ok v w'∧zz E R w Q (.returned v) w':=fun j hQ=>by
     refine ⟨_,_,run_endRound j o1,?_⟩
     obtain ⟨r',G',R',⟨h1,h2⟩,h3⟩:=fin j
     subst h1; subst h2
     exact ⟨_,_,R',hQ,h3⟩
    cases e2 with
    | normal=>exact mk none mZ
    | ret=>exact mk (some .ret) mZ
    | exit i=>exact mk (some (.exit i)) mZ
    | _=>exact mZ.elim
   ·exact mZ.elim
  ·exact hq.elim
 | _=>exact hq.elim
end Go.Am
namespace Go.Am
open Go
section
variable {E:Env} {R R':ak} {w w':World} {β β':Nat→Nat} {s s':St} {a a':Act}
def aR (E:Env) (g:FuncId) (args:List AV) (Q:AV→Prop):Prop:=∀ G,cp E g args G (fun r G'=>G'=G∧Q r)
theorem aR.mono {g:FuncId} {args:List AV} {Q Q':AV→Prop} (h:aR E g args Q) (hq:∀ r,Q r→Q' r):aR E g args Q':=
 fun G=>(h G).mono fun r _ hh=>⟨hh.1,hq r hh.2⟩
theorem aR.of {g:FuncId} {args:List AV} {p:aj} {Q:p.T→Prop} (hc:aC 0 args=true) (hp:p.under 0=true)
  (h:cp E g args [] (fun r _=>∃ y,p.dec r=some y∧Q y)):aR E g args (fun r=>∃ y,r=p.enc y∧Q y):=fun G=>by
 refine ⟨h.1,fun R w cs hg hl=>?_⟩
 let R0:ak:=⟨R.I,[]⟩
 have m0:Mv R R0 0:=⟨fun _ _ h=>h,fun _ _ h=>absurd h (Nat.not_lt_zero _)⟩
 have Lf:de E R0 w []:=⟨rfl,fun id go ro h1 _=>by simp [nth] at h1,fun i j ri rj b h1=>by simp [R0,nth] at h1,hg.wf,fun g cs py=>(hg.bY g cs py).move m0 (cb _ (E.mT g cs py)),hg.lo⟩
 have rM:aH R0 w args cs:=hl.move m0 hc
 refine (h.2 R0 w cs Lf rM).mono fun e w' he=>?_
 cases e with
 | panicked c=>exact he.elim
 | outgrown=>exact he.elim
 | returned c=>
  obtain ⟨r,G',R1,⟨y,hy,hQ⟩,dS,L0,st⟩:=he
  have iE:∀ b,¬ Own R0 (fun _=>0) eD b:=fun b ho=>by
   obtain ⟨id,ro,h1,_⟩:=dZ ho
   simp [R0,nth] at h1
  let R2:ak:=⟨R1.I,R.obj⟩
  have e:Ext R w R2 w':=⟨st.ext.I,st.ext.cell,fun id ro h=>⟨ro,h,ck.refl ro⟩,st.ext.lp⟩
  have bp:∀ b,b < w.heap.size→w'.heap[b]?=w.heap[b]?:=fun b hb=>st.bp b hb (iE b)
  have im:∀ b o,b < w.heap.size→R1.I b o→R.I b o:=fun b o hb hi=>st.im b o hi hb (iE b)
  have hd:=p.pu hy
  have m:Mv R1 R2 0:=⟨fun _ _ h=>h,fun _ _ h=>absurd h (Nat.not_lt_zero _)⟩
  refine ⟨p.enc y,G,R2,⟨rfl,y,rfl,hQ⟩,Rel.move m (p.di y hp) (hd.fM _ _ _ dS),⟨hg.len,fun id go ro h1 h2=>?_,hg.inj,L0.wf,fun g cs py=>(hg.bY g cs py).mono e,L0.lo⟩,⟨e,st.os,st.tape,st.output,st.size,fun b hb _=>bp b hb,fun b _ ho=>?_,fun b o hi hb _=>im b o hb hi⟩⟩
  ·refine (hg.obj id go ro h1 h2).mono e (fun b hb=>bp b ?_) (fun b o hb hi=>im b o ?_ hi)
   ·exact (hg.obj id go ro h1 h2).lt hb
   ·exact (hg.obj id go ro h1 h2).lt hb
  ·exact ho
theorem fb.ZA {c:Code} {Q Q':Exit→St→Prop} (h:fb E c (fun e s'=>aO s s'∧Q' e s') s)
  (hq:∀ e s',Q' e s'→∃ (t:cu) (v:t.ps.T),t.dec s s'=some v∧Q e (t.st s v)):fb E c Q s:=fun R w β a F hr hf=>by
 refine wpIn_mono (h R w β a F hr hf) ?_
 rintro e a' w' ⟨s',R',β',⟨hx,Y7⟩,kP,kn,bP⟩
 obtain ⟨t,v,hd,hQ⟩:=hq e s' Y7
 obtain ⟨h1,h2⟩:=cu.AF hx hr kP kn hd
 exact ⟨_,_,β',hQ,h1,h2,rfl⟩
theorem fb.gn {c:Code} {Q:Exit→St→Prop} {l:List (Loc × Nat × TypeId)} (hs:Am.gn l s=some s') (h:fb E c Q s'):fb E c Q s:=fun R w β a F hr hf=>by
 obtain ⟨R1,k1,k2,k3,_⟩:=jM hr hs
 refine wpIn_mono (h R1 w β a F k1 (by rw [k3]; exact hf.mono k2.ext)) ?_
 rintro e a' w' ⟨s2,R2,β2,hq,A9,st2,Gs⟩
 exact ⟨s2,R2,β2,hq,A9,k2.trans st2,Gs.trans k3⟩
end
end Go.Am
