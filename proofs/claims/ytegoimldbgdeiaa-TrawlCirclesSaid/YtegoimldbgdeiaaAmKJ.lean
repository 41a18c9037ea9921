/- The abstract machine: what is asked of bodies; values are brought to a short form. -/
import Derived.Test.YtegoimldbgdeiaaAmKI
import Derived.RangeFuncIn
import Derived.RangeFuncRecord
import Derived.RangeFuncNested
set_option linter.all false
open Bool renaming and_eq_true→aae, and_true→aav
open Go.Deferred renaming ofValue→acg
open Go.Fence renaming wide→aay
open Go.LoopState renaming busy→acG
open List renaming drop_left→aaA, tail_cons→aaK, cons_append→aaM, mem_cons→aaP, getElem?_eq_getElem→aaT, append_inj→aa0, take_left→aa6
open Nat renaming eq_of_beq_eq_true→aal, beq→aas, lt_of_lt_of_le→aat, blt→aau, not_lt_zero→aax, le_of_ble_eq_true→aa3
namespace Go.Am
open Go
def bW (dt:Nat→Option aJ):Code→Bool
 |.region id ops true=>match dt id with
  |some p=>Ly ops p
  |none=>false
 |.seq x y=>bW dt x&&bW dt y
 |.cond _ x y=>bW dt x&&bW dt y
 |.block _ c=>bW dt c
 |.loop c=>bW dt c
 |.scope c=>bW dt c
 |.rangeFunc _ _ a b=>bW dt a&&bW dt b
 |_=>true
structure Zr extends Env where
 dt:FuncId→Nat→Option aJ
 okF:FuncId→Bool
 Xu:∀ f fn c,okF f=true→P.funcs[f]?=some fn→fn.body=some c→bW (dt f) c=true
def mG {α:Type} (n:Nat) (K:Nat→α):α:=match n with
 |0=>K 0
 |m+1=>K (Nat.succ m)
def C0 {α:Type} (n:Int) (K:Int→α):α:=match n with
 |.ofNat m=>mG m fun m=>K (.ofNat m)
 |.negSucc m=>mG m fun m=>K (.negSucc m)
def uc {α β:Type}:List β→(List β→α)→α
 |[],K=>K []
 |a :: l,K=>uc l fun l=>K (a :: l)
def G4 {α:Type} (v:AV) (K:AV→α):α:=match v with
 |.int k n=>C0 n fun n=>K (.int k n)
 |.bool true=>K (.bool true)
 |.bool false=>K (.bool false)
 |.list k sz es=>uc es fun es=>K (.list k sz es)
 |.str l=>uc l fun l=>K (.str l)
 |.oA id off sz len cap=>mG off fun off=>mG len fun len=>mG cap fun cap=>K (.oA id off sz len cap)
 |.ptr id off=>mG off fun off=>K (.ptr id off)
 |.agg cs=>uc cs fun cs=>K (.agg cs)
 |v=>K v
def G5 {α:Type} (l:bp) (K:bp→α):α:=match l with
 |.put d (.v a) :: l=>G4 a fun a=>K (.put d (.v a) :: l)
 |.put d (.lp k off) :: l=>mG off fun off=>K (.put d (.lp k off) :: l)
 |l=>K l
def G6 {α:Type} (l:dy) (K:dy→α):α:=match l with
 |(d,cs) :: l=>uc cs fun cs=>K ((d,cs) :: l)
 |[]=>K []
def Lz {α:Type} (s:St) (K:St→α):α:=match s with
 |⟨sl,bx,G,m,ro,n⟩=>G5 sl fun sl=>G6 bx fun bx=>uc G fun G=>K ⟨sl,bx,G,m,ro,n⟩
theorem ug {α:Type} (n:Nat) (K:Nat→α):mG n K=K n:=by cases n <;> rfl
theorem IX {α:Type} (n:Int) (K:Int→α):C0 n K=K n:=by cases n <;> simp [C0,ug]
theorem vc {α β:Type}:∀ (l:List β) (K:List β→α),uc l K=K l
 |[],_=>rfl
 |a :: l,K=>by simp only [uc]; rw [vc]
theorem LA {α:Type} (v:AV) (K:AV→α):G4 v K=K v:=by
 unfold G4;split <;> simp [ug,IX,vc]
theorem LB {α:Type} (l:bp) (K:bp→α):G5 l K=K l:=by
 unfold G5;split <;> simp [ug,LA]
theorem LC {α:Type} (l:dy) (K:dy→α):G6 l K=K l:=by
 unfold G6;split <;> simp [vc]
theorem Pe {α:Type} (s:St) (K:St→α):Lz s K=K s:=by
 obtain ⟨sl,bx,G,m,ro,n⟩:=s;simp [Lz,LB,LC,vc]
def G7:SV→SV→Bool
 |.v a,.v b=>eV a b
 |.lp k o,.lp k' o'=>aas k k'&&aas o o'
 |_,_=>false
def bRe (E:Env) (f:FuncId) (ops:List Oper) (o:Oper) (s:St):Bool:=match HU ops s o with
 |some true=>match o.dst,an E f s o with
  |some d,some (c,s')=>c&&G7 (lk s'.af d) (lk s.af d)
  |_,_=>false
 |some false=>true
 |none=>false
section
variable {E:Env} {f:FuncId} {s:St}
theorem FC {a b:SV} (h:G7 a b=true):a=b:=by
 unfold G7 at h;split at h
 ·rw [mA h]
 ·simp only [aae,Nat.beq_eq] at h; rw [h.1,h.2]
 ·cases h
theorem FD {ops:List Oper} {o:Oper} (h:bRe E f ops o s=true):Lp E f ops o s:=by
 unfold bRe at h;unfold Lp;split at h
 ·rename_i hg;rw [hg];simp only;split at h
  ·rename_i d c s' hd hs;rw [aae] at h;obtain ⟨rfl,h⟩:=h;rw [hd,hs];exact ⟨rfl,FC h⟩
  ·cases h
 ·rename_i hg;rw [hg];trivial
 ·cases h
end
end Go.Am
namespace Go.Am
open Go
mutual
def AV.under (n:Nat):AV→Bool
 |.agg cs=>aR n cs
 |.bG cs=>aR n cs
 |.ep cs=>aR n cs
 |.list (.own id) _ _=>aau id n
 |.list (.bt id _) _ _=>aau id n
 |.fn _ x y=>aR n x&&aR n y
 |.iface _ v=>v.under n
 |.ptr id _=>aau id n
 |.oA id _ _ _ _=>aau id n
 |.eH id _ _ _ _=>aau id n
 |.gp id _ _ _ _ _=>aau id n
 |.map id=>aau id n
 |.yield id=>aau id n
 |_=>true
def aR (n:Nat):List AV→Bool
 |[]=>true
 |a :: l=>a.under n&&aR n l
end
mutual
theorem kW (n:Nat):∀ {a:AV},a.closed=true→a.under n=true:=fun {a} h=>by
 cases a with
 |agg cs=>simp only [AV.closed,AV.under] at *; exact ee n h
 |bG cs=>simp only [AV.closed,AV.under] at *; exact ee n h
 |ep cs=>simp only [AV.closed,AV.under] at *; exact ee n h
 |list k sz es=>cases k <;> simp_all [AV.closed,AV.under,LK.closed]
 |fn f x y=>
  simp only [AV.closed,AV.under,aae] at *;exact ⟨ee n h.1,ee n h.2⟩
 |iface t v=>simp only [AV.closed,AV.under] at *; exact kW n h
 |_=>simp_all [AV.closed,AV.under]
theorem ee (n:Nat):∀ {l:List AV},aN l=true→aR n l=true
 |[],_=>rfl
 |a :: l,h=>by
  simp only [aN,aR,aae] at *;exact ⟨kW n h.1,ee n h.2⟩
end
theorem vd {a b:Nat} (h:aau a b=true):a < b:=aa3 h
mutual
theorem qB:∀ {a:AV},a.under 0=true→a.closed=true:=fun {a} h=>by
 cases a with
 |agg cs=>simp only [AV.closed,AV.under] at *; exact gN h
 |bG cs=>simp only [AV.closed,AV.under] at *; exact gN h
 |ep cs=>simp only [AV.closed,AV.under] at *; exact gN h
 |list k sz es=>cases k <;> first | rfl | (simp [AV.under] at h)
 |fn f x y=>
  simp only [AV.closed,AV.under,aae] at *;exact ⟨gN h.1,gN h.2⟩
 |iface t v=>simp only [AV.closed,AV.under] at *; exact qB h
 |ptr id off=>simp only [AV.under] at h; exact absurd (vd h) (aax _)
 |oA id off sz len cap=>simp only [AV.under] at h; exact absurd (vd h) (aax _)
 |eH id f off sz len=>simp only [AV.under] at h; exact absurd (vd h) (aax _)
 |gp id f i off sz t=>simp only [AV.under] at h; exact absurd (vd h) (aax _)
 |map id=>simp only [AV.under] at h; exact absurd (vd h) (aax _)
 |yield id=>simp only [AV.under] at h; exact absurd (vd h) (aax _)
 |_=>rfl
theorem gN:∀ {l:List AV},aR 0 l=true→aN l=true
 |[],_=>rfl
 |a :: l,h=>by
  simp only [aR,aN,aae] at *;exact ⟨qB h.1,gN h.2⟩
end
section move
variable {R R2:aj} {w:World} {n:Nat}
structure Mv (R R2:aj) (n:Nat):Prop where
 I:∀ b o,R.I b o→R2.I b o
 obj:∀ id ro,id < n→nth R.obj id=some ro→nth R2.obj id=some ro
theorem nt {a b:Nat} (h:aau a b=true):a < b:=aa3 h
theorem oO {a b:Nat} (h:a < b):aau a b=true:=Nat.ble_eq_true_of_le h
theorem Gy.move (m:Mv R R2 n) {k:LK} {b o len cap:Nat} (h:Gy R k b o len cap) (hk:∀ id,(k=.own id∨∃ j,k=.bt id j)→id < n):Gy R2 k b o len cap:=by
 cases k with
 |nil=>exact h
 |full=>exact h
 |gZ=>trivial
 |own id=>obtain ⟨ro,h1,h2⟩:=h; exact ⟨ro,m.obj id ro (hk id (.inl rfl)) h1,h2⟩
 |bt id j=>obtain ⟨ro,h1,h2⟩:=h; exact ⟨ro,m.obj id ro (hk id (.inr ⟨j,rfl⟩)) h1,h2⟩
mutual
theorem Rel.move (m:Mv R R2 n):∀ {a:AV} {c:Value},a.under n=true→Rel R w a c→Rel R2 w a c
 |_,_,_,.bool b=>.bool b
 |_,_,_,.int k i=>.int k i
 |_,_,_,.str l=>.str l
 |_,_,hb,.agg h h1=>.agg (h.move m (by simpa [AV.under] using hb)) h1
 |_,_,hb,.bG h=>.bG (h.move m (by simpa [AV.under] using hb))
 |_,_,_,.ql=>.ql
 |_,_,hb,.ptr h=>.ptr (m.obj _ _ (nt (by simpa [AV.under] using hb)) h)
 |_,_,hb,.ep h=>.ep (h.move m (by simpa [AV.under] using hb))
 |_,_,_,.lF=>.lF
 |_,_,_,.kS=>.kS
 |_,_,_,.qt=>.qt
 |_,_,hb,.nP h ho=>.nP (m.obj _ _ (nt (by simpa [AV.under] using hb)) h) ho
 |_,_,hb,.pP h ho=>.pP (m.obj _ _ (nt (by simpa [AV.under] using hb)) h) ho
 |.list k sz es,_,hb,.list h hl hc hk=>.list (h.move m) hl hc (hk.move m fun id e=>by rcases e with e | ⟨j,e⟩ <;> subst e <;> exact nt (by simpa [AV.under] using hb))
 |_,_,hb,.oA h hc=>.oA (m.obj _ _ (nt (by simpa [AV.under] using hb)) h) hc
 |_,_,hb,.nh h ho=>.nh (m.obj _ _ (nt (by simpa [AV.under] using hb)) h) ho
 |_,_,hb,.eH h ho hc=>.eH (m.obj _ _ (nt (by simpa [AV.under] using hb)) h) ho hc
 |_,_,hb,.gp h ho=>.gp (m.obj _ _ (nt (by simpa [AV.under] using hb)) h) ho
 |_,_,_,.nL=>.nL
 |_,_,hb,.map h=>.map (m.obj _ _ (nt (by simpa [AV.under] using hb)) h)
 |_,_,_,.fC=>.fC
 |_,_,hb,.fn h h'=>.fn (h.move m (by simp only [AV.under,aae] at hb; exact hb.1)) (h'.move m (by simp only [AV.under,aae] at hb; exact hb.2))
 |_,_,hb,.yield h=>.yield (m.obj _ _ (nt (by simpa [AV.under] using hb)) h)
 |_,_,_,.vz=>.vz
 |_,_,hb,.iface h=>.iface (h.move m (by simpa [AV.under] using hb))
theorem aW.move (m:Mv R R2 n):∀ {l:List AV} {cs:List Value},aW R w l cs→aR n l=true→aW R2 w l cs
 |_,_,.nil,_=>.nil
 |_,_,.cons h t,hb=>by
  simp only [aR,aae] at hb;exact .cons (h.move m hb.1) (t.move m hb.2)
theorem jO.move (m:Mv R R2 n):∀ {b o sz:Nat} {l:List AV},jO R w b o sz l→jO R2 w b o sz l
 |_,_,_,_,.nil=>.nil
 |_,_,_,_,@jO.cons _ _ _ _ _ e _ hl ht hk h t=>.cons hl ht hk (h.move m (by
   cases e with
   |agg cs=>exact ee n (show aN cs=true by simpa [AV.closed] using hk)
   |bG cs=>simp [AV.ba] at ht
   |_=>simp only [AV.cells,aR,aav]; exact kW n hk)) (t.move m)
theorem gz.move (m:Mv R R2 n):∀ {b o:Nat} {l:List AV},gz R w b o l→aR n l=true→gz R2 w b o l
 |_,_,_,.nil,_=>.nil
 |_,_,_,.cons hc h1 hi h t,hb=>by
  simp only [aR,aae] at hb;exact .cons hc h1 (m.I _ _ hi) (h.move m hb.1) (t.move m hb.2)
end
theorem qw.move {E:Env} (m:Mv R R2 n) {g:Nat} {cs:List AV} (h:qw E R w g cs) (hu:aR n cs=true):qw E R2 w g cs:=
 ⟨h.1.move m hu,fun hx=>⟨m.I _ _ (h.2 hx).1,(h.2 hx).2⟩⟩
mutual
theorem Rel.under (hn:R.obj.length≤n):∀ {a:AV} {c:Value},Rel R w a c→a.under n=true
 |_,_,.bool _ | _,_,.int _ _ | _,_,.str _ | _,_,.ql | _,_,.lF | _,_,.kS | _,_,.qt | _,_,.nL | _,_,.fC | _,_,.vz=>by simp [AV.under]
 |_,_,.agg h _=>by simp only [AV.under]; exact h.under hn
 |_,_,.bG h=>by simp only [AV.under]; exact h.under hn
 |_,_,.ptr h=>by simp only [AV.under]; exact oO (aat (bA h) hn)
 |_,_,.ep h=>by simp only [AV.under]; exact h.under hn
 |_,_,.nP h _=>by simp only [AV.under]; exact oO (aat (bA h) hn)
 |_,_,.pP h _=>by simp only [AV.under]; exact oO (aat (bA h) hn)
 |_,_,@Rel.list _ _ k _ _ _ _ _ _ _ _ _ hk=>by
  cases k with
  |own id=>obtain ⟨ro,h1,_⟩:=hk; simp only [AV.under]; exact oO (aat (bA h1) hn)
  |bt id j=>obtain ⟨ro,h1,_⟩:=hk; simp only [AV.under]; exact oO (aat (bA h1) hn)
  |_=>simp [AV.under]
 |_,_,.oA h _=>by simp only [AV.under]; exact oO (aat (bA h) hn)
 |_,_,.nh h _=>by simp only [AV.under]; exact oO (aat (bA h) hn)
 |_,_,.eH h _ _=>by simp only [AV.under]; exact oO (aat (bA h) hn)
 |_,_,.gp h _=>by simp only [AV.under]; exact oO (aat (bA h) hn)
 |_,_,.map h=>by simp only [AV.under]; exact oO (aat (bA h) hn)
 |_,_,.fn h h'=>by simp only [AV.under,aae]; exact ⟨h.under hn,h'.under hn⟩
 |_,_,.yield h=>by simp only [AV.under]; exact oO (aat (bA h) hn)
 |_,_,.iface h=>by simp only [AV.under]; exact h.under hn
theorem aW.under (hn:R.obj.length≤n):∀ {l:List AV} {cs:List Value},aW R w l cs→aR n l=true
 |_,_,.nil=>rfl
 |_,_,.cons h t=>by simp only [aR,aae]; exact ⟨h.under hn,t.under hn⟩
theorem gz.under (hn:R.obj.length≤n):∀ {b o:Nat} {l:List AV},gz R w b o l→aR n l=true
 |_,_,_,.nil=>rfl
 |_,_,_,.cons _ _ _ h t=>by simp only [aR,aae]; exact ⟨h.under hn,t.under hn⟩
end
end move
end Go.Am
namespace Go.Am
open Go
mutual
def aL.under (n:Nat):aL→Bool
 |.agg ps=>ps.under n
 |.bG ps=>ps.under n
 |.own id _ _=>aau id n
 |.bt id _ _=>aau id n
 |.mw v=>v.under n
 |.two u v=>u.under n&&v.under n
 |_=>true
def aU.under (n:Nat):aU→Bool
 |.nil=>true
 |.cons p ps=>p.under n&&ps.under n
end
mutual
theorem aL.eK {n:Nat}:∀ (p:aL) (x:p.T),p.under n=true→(p.enc x).under n=true
 |.int k,x,_=>by simp [aL.enc,AV.under]
 |.bool,x,_=>by simp [aL.enc,AV.under]
 |.str,x,_=>by simp [aL.enc,AV.under]
 |.agg ps,x,h=>by
  simp only [aL.enc,AV.under];exact ps.eK x h
 |.bG ps,x,h=>by
  simp only [aL.enc,AV.under];exact ps.eK x h
 |.list sz p,x,_=>by simp [aL.enc,AV.under]
 |.own id sz p,x,h=>by
  simp only [aL.enc,AV.under];exact h
 |.bt id sz p,x,h=>by
  simp only [aL.enc,AV.under];exact h
 |.mw v,x,h=>by
  simp only [aL.enc];exact h
 |.two u v,(x:Bool),h=>by
  simp only [aL.under,aae] at h;change AV.under n (bif x then v else u)=true;cases x
  ·exact h.1
  ·exact h.2
theorem aU.eK {n:Nat}:∀ (ps:aU) (x:ps.T),ps.under n=true→aR n (ps.enc x)=true
 |.nil,x,_=>rfl
 |.cons p .nil,x,h=>by
  simp only [aU.under,aav] at h;simp only [aU.enc,aR,aav];exact p.eK _ h
 |.cons p (.cons q ps),x,h=>by
  rw [aU.under,aae] at h;simp only [aU.enc,aR,aae];exact ⟨p.eK _ h.1,(aU.cons q ps).eK _ h.2⟩
end
mutual
def AV.exact:AV→Bool
 |.bool _=>true
 |.int _ _=>true
 |.str _=>true
 |.agg cs=>jk cs
 |_=>false
def jk:List AV→Bool
 |[]=>true
 |a :: l=>a.exact&&jk l
end
mutual
theorem aL.mH:∀ (p:aL) {a:AV},p.fits a=true→a.exact=true→p.enc (p.bB a)=a
 |.int k,a,h,e=>by
  cases a with
  |int k' n=>have hk:kEq k k'=true:=h; rw [KB hk]; rfl
  |_=>cases h
 |.bool,a,h,e=>by
  cases a with
  |bool b=>rfl
  |_=>cases h
 |.str,a,h,e=>by
  cases a with
  |str b=>rfl
  |_=>cases h
 |.agg ps,a,h,e=>by
  cases a with
  |agg cs=>
   have e':jk cs=true:=by simpa [AV.exact] using e
   show AV.agg (ps.enc (ps.bB cs))=_;rw [ps.mH (show ps.fits cs=true from h) e']
  |_=>cases h
 |.bG ps,a,h,e=>by cases a <;> first | (cases h; done) | simp [AV.exact] at e
 |.list sz p,a,h,e=>by cases a <;> first | (cases h; done) | simp [AV.exact] at e
 |.own id sz p,a,h,e=>by cases a <;> first | (cases h; done) | simp [AV.exact] at e
 |.bt id sz p,a,h,e=>by cases a <;> first | (cases h; done) | simp [AV.exact] at e
 |.mw u,a,h,e=>(mA (show eV a u=true from h)).symm
 |.two u v,a,h,_=>BA h
theorem aU.mH:∀ (ps:aU) {l:List AV},ps.fits l=true→jk l=true→ps.enc (ps.bB l)=l
 |.nil,l,h,_=>by
  cases l with
  |nil=>rfl
  |cons _ _=>cases h
 |.cons p .nil,l,h,e=>by
  cases l with
  |nil=>cases h
  |cons a l=>
   have h':(p.fits a&&l.isEmpty)=true:=h;simp only [aae,List.isEmpty_iff] at h';obtain ⟨h1,rfl⟩:=h';simp only [jk,aav] at e;show [p.enc (p.bB a)]=_;rw [p.mH h1 e]
 |.cons p (.cons q ps),l,h,e=>by
  cases l with
  |nil=>cases h
  |cons a l=>
   have h':(p.fits a&&(aU.cons q ps).fits l)=true:=h;rw [aae] at h';simp only [jk,aae] at e;show p.enc (p.bB a) :: (aU.cons q ps).enc ((aU.cons q ps).bB l)=_;rw [p.mH h'.1 e.1,(aU.cons q ps).mH h'.2 e.2]
end
mutual
theorem sG:∀ {a:AV},a.exact=true→a.closed=true:=fun {a} h=>by
 cases a with
 |agg cs=>simp only [AV.exact,AV.closed] at *; exact vP h
 |_=>simp_all [AV.exact,AV.closed]
theorem vP:∀ {l:List AV},jk l=true→aN l=true
 |[],_=>rfl
 |a :: l,h=>by
  simp only [jk,aN,aae] at *;exact ⟨sG h.1,vP h.2⟩
end
def ab:List (AV × AV)→List AV
 |[]=>[]
 |(k,v) :: l=>.agg [k,v] :: ab l
def aeb:AV→AV × AV
 |.agg [k,v]=>(k,v)
 |_=>(jd,jd)
def ar:List AV→List (AV × AV)
 |[]=>[]
 |a :: l=>aeb a :: ar l
def AV.entries:AV→List (AV × AV)
 |.list _ _ es=>ar es
 |_=>[]
theorem s8:∀ l:List (AV × AV),ar (ab l)=l
 |[]=>rfl
 |(k,v) :: l=>by simp only [ab,ar,s8 l]; rfl
def AV.Rq:AV→Bool
 |.list .gZ _ es=>jk es
 |_=>false
def nu:List AV→List AV→Prop
 |[],[]=>True
 |a :: l,b :: r=>lC a b∧nu l r
 |_,_=>False
theorem nu.refl:∀ l:List AV,nu l l
 |[]=>trivial
 |a :: l=>⟨lC.refl a,nu.refl l⟩
theorem nu.length:∀ {l r:List AV},nu l r→l.length=r.length
 |[],[],_=>rfl
 |_ :: _,_ :: _,h=>by simp [nu.length h.2]
 |[],_ :: _,h=>h.elim
 |_ :: _,[],h=>h.elim
theorem nu.of {α:Type} {f:AV→Bool} {d:AV→α} {g:α→AV} (MJ:∀ v,f v=true→lC v (g (d v))):∀ {es:List AV},allFit f es=true→nu es ((es.map d).map g)
 |[],_=>trivial
 |e :: es,h=>by
  simp only [allFit,aae] at h;exact ⟨MJ e h.1,nu.of MJ h.2⟩
theorem aL.IY (p:aL) {a:AV} (h:p.fits a=true):nu a.fK (p.enc (p.bB a)).fK:=by
 cases p with
 |list sz p=>
  cases a with
  |list k cL es=>
   have hb:((aas sz cL || es.isEmpty)&&allFit p.fits es)=true:=h;rw [aae] at hb;exact nu.of (fun v hv=>p.eg hv) hb.2
  |_=>cases h
 |own id sz p=>
  cases a with
  |list k cL es=>
   cases k with
   |own nN=>
    have hb:((aas id nN&&aas sz cL)&&allFit p.fits es)=true:=h;rw [aae] at hb;exact nu.of (fun v hv=>p.eg hv) hb.2
   |_=>cases h
  |_=>cases h
 |bt id sz p=>
  cases a with
  |list k cL es=>
   cases k with
   |bt nN j=>
    have hb:((aas id nN&&aas sz cL)&&allFit p.fits es)=true:=h;rw [aae] at hb;exact nu.of (fun v hv=>p.eg hv) hb.2
   |_=>cases h
  |_=>cases h
 |mw u=>rw [show a=u from mA (show eV a u=true from h)]; exact nu.refl _
 |two u v=>rw [BA h]; exact nu.refl _
 |_=>cases a <;> first | (cases h; done) | exact nu.refl _
def Qo:List AV→List AV→Prop
 |[],[]=>True
 |a :: l,b :: r=>(a.exact=true→b=a)∧(a.Rq=true→b.fK=a.fK)∧nu a.fK b.fK∧Qo l r
 |_,_=>False
theorem C1 {f:AV→Bool} {α:Type} {d:AV→α} {g:α→AV} (MJ:∀ a,f a=true→a.exact=true→g (d a)=a):∀ {es:List AV},allFit f es=true→jk es=true→(es.map d).map g=es
 |[],_,_=>rfl
 |a :: l,h,e=>by
  simp only [allFit,jk,aae] at *;simp only [List.map_cons,MJ a h.1 e.1,C1 MJ h.2 e.2]
theorem aL.IZ (p:aL) {a:AV} (h:p.fits a=true) (e:a.Rq=true):(p.enc (p.bB a)).fK=a.fK:=by
 cases a with
 |list k cL es=>
  cases k with
  |gZ=>
   have e':jk es=true:=e;cases p with
   |list sz p=>
    have hb:((aas sz cL || es.isEmpty)&&allFit p.fits es)=true:=h;rw [aae] at hb;show (es.map p.bB).map p.enc=_;rw [C1 (fun a=>p.mH) hb.2 e'];rfl
   |mw u=>rw [show AV.list .gZ cL es=u from mA (show eV _ u=true from h)]; rfl
   |two u v=>rw [BA h]
   |_=>cases h
  |_=>cases e
 |_=>cases e
theorem aU.Rr:∀ (ps:aU) {l:List AV},ps.fits l=true→Qo l (ps.enc (ps.bB l))
 |.nil,l,h=>by
  cases l with
  |nil=>trivial
  |cons _ _=>cases h
 |.cons p .nil,l,h=>by
  cases l with
  |nil=>cases h
  |cons a l=>
   have h':(p.fits a&&l.isEmpty)=true:=h;simp only [aae,List.isEmpty_iff] at h';obtain ⟨h1,rfl⟩:=h';exact ⟨p.mH h1,p.IZ h1,p.IY h1,trivial⟩
 |.cons p (.cons q ps),l,h=>by
  cases l with
  |nil=>cases h
  |cons a l=>
   have h':(p.fits a&&(aU.cons q ps).fits l)=true:=h;rw [aae] at h';exact ⟨p.mH h'.1,p.IZ h'.1,p.IY h'.1,(aU.cons q ps).Rr h'.2⟩
theorem Qo.split:∀ {l r l':List AV},Qo (l++r) l'→∃ a b,l'=a++b∧Qo l a∧Qo r b∧a.length=l.length
 |[],r,l',h=>⟨[],l',rfl,trivial,h,rfl⟩
 |x :: l,r,[],h=>h.elim
 |x :: l,r,y :: l',h=>by
  obtain ⟨a,b,rfl,h2,h3,h4⟩:=Qo.split (l:=l) (r:=r) (l':=l') h.2.2.2;exact ⟨y :: a,b,rfl,⟨h.1,h.2.1,h.2.2.1,h2⟩,h3,by simp [h4]⟩
mutual
def AV.C2 (L:Nat→Nat):AV→AV
 |.eH id 0 0 sz 0=>.eH id (L id) 0 sz (L id)
 |.fn f x y=>.fn f (Rs L x) (Rs L y)
 |v=>v
def Rs (L:Nat→Nat):List AV→List AV
 |[]=>[]
 |a :: l=>a.C2 L :: Rs L l
end
mutual
def aL.inst (L:Nat→Nat):aL→aL
 |.agg ps=>.agg (ps.inst L)
 |.bG ps=>.bG (ps.inst L)
 |.mw v=>.mw (v.C2 L)
 |p=>p
def aU.inst (L:Nat→Nat):aU→aU
 |.nil=>.nil
 |.cons p ps=>.cons (p.inst L) (ps.inst L)
end
mutual
def aL.oP (L:Nat→Nat):(p:aL)→p.T→AV
 |.int k,(n:Int)=>.int k n
 |.bool,(b:Bool)=>.bool b
 |.str,(s:List UInt8)=>.str s
 |.agg ps,x=>.agg (ps.oP L x)
 |.bG ps,x=>.bG (ps.oP L x)
 |.list sz p,(xs:List p.T)=>.list .gZ sz (xs.map p.enc)
 |.own id sz p,(xs:List p.T)=>.list (.own id) sz (xs.map p.enc)
 |.bt id sz p,(x:Nat × List p.T)=>.list (.bt id x.1) sz (x.2.map p.enc)
 |.mw v,_=>v.C2 L
 |.two u v,(b:Bool)=>bif b then v else u
def aU.oP (L:Nat→Nat):(ps:aU)→ps.T→List AV
 |.nil,_=>[]
 |.cons p .nil,x=>[p.oP L x]
 |.cons p (.cons q ps),x=>p.oP L x.1 :: (aU.cons q ps).oP L x.2
end
mutual
def aL.rb (L:Nat→Nat):aL→AV→Bool
 |.int k,v=>aL.fits (.int k) v
 |.bool,v=>aL.fits .bool v
 |.str,v=>aL.fits .str v
 |.agg ps,v=>match v with
  |.agg cs=>ps.rb L cs
  |_=>false
 |.bG ps,v=>match v with
  |.bG cs=>ps.rb L cs
  |_=>false
 |.list sz p,v=>aL.fits (.list sz p) v
 |.own id sz p,v=>aL.fits (.own id sz p) v
 |.bt id sz p,v=>aL.fits (.bt id sz p) v
 |.mw v,u=>eV u (v.C2 L)
 |.two u v,a=>aL.fits (.two u v) a
def aU.rb (L:Nat→Nat):aU→List AV→Bool
 |.nil,l=>l.isEmpty
 |.cons p ps,l=>match l with
  |a :: l=>p.rb L a&&ps.rb L l
  |[]=>false
end
def aU.Pf (L:Nat→Nat) (ps:aU) (l:List AV):Option ps.T:=bif ps.rb L l then some (ps.bB l) else none
mutual
theorem aL.lP (L:Nat→Nat):∀ (p:aL) (a:AV),p.rb L a=(p.inst L).fits a
 |.int _,_=>rfl
 |.bool,_=>rfl
 |.str,_=>rfl
 |.agg ps,a=>by
  simp only [aL.rb,aL.inst,aL.fits];cases a <;> first | rfl | exact ps.lP L _
 |.bG ps,a=>by
  simp only [aL.rb,aL.inst,aL.fits];cases a <;> first | rfl | exact ps.lP L _
 |.list _ _,_=>rfl
 |.own _ _ _,_=>rfl
 |.bt _ _ _,_=>rfl
 |.mw _,_=>rfl
 |.two _ _,_=>rfl
theorem aU.lP (L:Nat→Nat):∀ (ps:aU) (l:List AV),ps.rb L l=(ps.inst L).fits l
 |.nil,_=>rfl
 |.cons p ps,l=>by
  cases l with
  |nil=>rfl
  |cons a l=>
   simp only [aU.rb,aU.inst,aU.fits];rw [p.lP L a,ps.lP L l]
end
mutual
theorem aL.kA (L:Nat→Nat):∀ (p:aL) (a:AV),p.oP L (p.bB a)=(p.inst L).enc ((p.inst L).bB a)
 |.int _,_=>rfl
 |.bool,_=>rfl
 |.str,_=>rfl
 |.agg ps,a=>congrArg AV.agg (ps.kA L a.mZ)
 |.bG ps,a=>congrArg AV.bG (ps.kA L a.YA)
 |.list _ _,_=>rfl
 |.own _ _ _,_=>rfl
 |.bt _ _ _,_=>rfl
 |.mw _,_=>rfl
 |.two _ _,_=>rfl
theorem aU.kA (L:Nat→Nat):∀ (ps:aU) (l:List AV),ps.oP L (ps.bB l)=(ps.inst L).enc ((ps.inst L).bB l)
 |.nil,_=>rfl
 |.cons p .nil,l=>by
  show [p.oP L (p.bB (fU l))]=[(p.inst L).enc ((p.inst L).bB (fU l))];rw [p.kA L]
 |.cons p (.cons q ps),l=>by
  show p.oP L (p.bB (fU l)) :: (aU.cons q ps).oP L ((aU.cons q ps).bB (Qz l))=(p.inst L).enc ((p.inst L).bB (fU l)) :: ((aU.cons q ps).inst L).enc (((aU.cons q ps).inst L).bB (Qz l));rw [p.kA L,(aU.cons q ps).kA L]
end
mutual
theorem AV.C3 {n:Nat} (L:Nat→Nat):∀ {a:AV},a.under n=true→(a.C2 L).under n=true:=fun {a} h=>by
 cases a with
 |eH id f off sz len=>
  unfold AV.C2;split
  ·rename_i h1;cases h1;exact h
  ·rename_i h1;cases h1
  ·exact h
 |fn f x y=>
  simp only [AV.C2,AV.under,aae] at *;exact ⟨wJ L h.1,wJ L h.2⟩
 |_=>exact h
theorem wJ {n:Nat} (L:Nat→Nat):∀ {l:List AV},aR n l=true→aR n (Rs L l)=true
 |[],_=>rfl
 |a :: l,h=>by
  simp only [Rs,aR,aae] at *;exact ⟨AV.C3 L h.1,wJ L h.2⟩
end
mutual
theorem aL.lQ {n:Nat} (L:Nat→Nat):∀ {p:aL},p.under n=true→(p.inst L).under n=true
 |.int _,_=>rfl
 |.bool,_=>rfl
 |.str,_=>rfl
 |.agg ps,h=>aU.lQ L (ps:=ps) h
 |.bG ps,h=>aU.lQ L (ps:=ps) h
 |.list _ _,_=>rfl
 |.own _ _ _,h=>h
 |.bt _ _ _,h=>h
 |.mw v,h=>AV.C3 L (a:=v) h
 |.two _ _,h=>h
theorem aU.lQ {n:Nat} (L:Nat→Nat):∀ {ps:aU},ps.under n=true→(ps.inst L).under n=true
 |.nil,_=>rfl
 |.cons p ps,h=>by
  simp only [aU.inst,aU.under,aae] at *;exact ⟨aL.lQ L h.1,aU.lQ L h.2⟩
end
theorem AV.FE (L:Nat→Nat) (v:AV):(v.C2 L).fK=v.fK:=by
 unfold AV.C2;split <;> rfl
def to:List AV→List AV→Prop
 |[],[]=>True
 |a :: l,b :: r=>a.fK.length=b.fK.length∧to l r
 |_,_=>False
theorem aL.uh (L L':Nat→Nat) (p:aL) (x:p.T):(p.oP L x).fK=(p.oP L' x).fK:=by
 cases p with
 |mw v=>
  show (v.C2 L).fK=(v.C2 L').fK;rw [AV.FE,AV.FE]
 |_=>rfl
theorem aU.uh (L L':Nat→Nat):∀ (ps:aU) (x:ps.T),to (ps.oP L x) (ps.oP L' x)
 |.nil,_=>trivial
 |.cons p .nil,x=>⟨congrArg List.length (p.uh L L' x),trivial⟩
 |.cons p (.cons q ps),x=>⟨congrArg List.length (p.uh L L' x.1),(aU.cons q ps).uh L L' x.2⟩
theorem Qo.aec:∀ {l r:List AV},Qo l r→to l r
 |[],[],_=>trivial
 |_ :: _,_ :: _,h=>⟨h.2.2.1.length,h.2.2.2.aec⟩
 |[],_ :: _,h=>h.elim
 |_ :: _,[],h=>h.elim
theorem to.trans:∀ {l r u:List AV},to l r→to r u→to l u
 |[],[],[],_,_=>trivial
 |_ :: _,_ :: _,_ :: _,h,k=>⟨h.1.trans k.1,h.2.trans k.2⟩
 |[],_ :: _,_,h,_=>h.elim
 |_ :: _,[],_,h,_=>h.elim
 |[],[],_ :: _,_,k=>k.elim
 |_ :: _,_ :: _,[],_,k=>k.elim
theorem to.drop:∀ {l r:List AV} (n:Nat),to l r→to (l.drop n) (r.drop n)
 |l,r,0,h=>by simpa using h
 |[],[],_+1,_=>by simp [to]
 |_ :: _,_ :: _,n+1,h=>by simpa using to.drop n h.2
 |[],_ :: _,_+1,h=>h.elim
 |_ :: _,[],_+1,h=>h.elim
theorem aU.U0 (L:Nat→Nat) (ps:aU) {l:List AV} {x:ps.T} (h:ps.Pf L l=some x):dM l (ps.oP L x)∧Qo l (ps.oP L x):=by
 unfold aU.Pf at h;cases hf:ps.rb L l with
 |true=>
  rw [hf] at h;cases h;rw [ps.kA L];rw [ps.lP L] at hf;have hd:(ps.inst L).dec l=some ((ps.inst L).bB l):=by unfold aU.dec; rw [hf]; rfl
  exact ⟨((ps.inst L).wu hd).1,(ps.inst L).Rr hf⟩
 |false=>rw [hf] at h; cases h
theorem aU.LD {n:Nat} (L:Nat→Nat) (ps:aU) (hp:ps.under n=true) (l:List AV):aR n (ps.oP L (ps.bB l))=true:=by
 rw [ps.kA L];exact (ps.inst L).eK _ (aU.lQ L hp)
theorem aU.Pg (L:Nat→Nat) (ps:aU) {l:List AV} {x:ps.T} (h:ps.Pf L l=some x):x=ps.bB l:=by
 unfold aU.Pf at h;cases hf:ps.rb L l with
 |true=>rw [hf] at h; cases h; rfl
 |false=>rw [hf] at h; cases h
end Go.Am
namespace Go.Am
open Go
inductive Kn
 |open_
 |busy
 |ret
 |ex (i:Nat)
def Kn.is:Kn→Bool→Option Code→Bool→Bool
 |.open_,false,none,false=>true
 |.busy,true,none,false=>true
 |.ret,false,some .ret,true=>true
 |.ex i,false,some (.exit j),true=>aas i j
 |_,_,_,_=>false
def Kn.b:Kn→Bool
 |.busy=>true
 |_=>false
def Kn.p:Kn→Option Code
 |.ret=>some .ret
 |.ex i=>some (.exit i)
 |_=>none
def Kn.d:Kn→Bool
 |.ret=>true
 |.ex _=>true
 |_=>false
theorem Kn.M9 {k:Kn} {b:Bool} {p:Option Code} {d:Bool} (h:k.is b p d=true):b=k.b∧p=k.p∧d=k.d:=by
 unfold Kn.is at h;split at h <;> first | exact ⟨rfl,rfl,rfl⟩ | (cases h; done) | skip
 rw [aal h];exact ⟨rfl,rfl,rfl⟩
inductive GL
 |row (n:Nat)
 |tok (loc sz:Nat) (e:TypeId)
 |dead
 |lp (k:Kn)
 |bh
 |map
 |Ko
 |bF (sz:Nat) (e:TypeId)
 |bt (sz:Nat) (e:TypeId)
 |xY
 |kP (wj:Nat)
def bw (fs:List Nat):List AV:=fs.map fun n:Nat=>.int .i64 n
def aA (l:List AV):List Nat:=l.map fun a=>a.AZ.toNat
theorem Az (fs:List Nat):aA (bw fs)=fs:=by
 induction fs with
 |nil=>rfl
 |cons n fs ih=>
  show (AV.int .i64 n).AZ.toNat :: aA (bw fs)=n :: fs;rw [ih];simp [AV.AZ]
theorem C4 (fs:List Nat):jk (bw fs)=true:=by
 induction fs with
 |nil=>rfl
 |cons n fs ih=>exact ih
def Zs (k:Kn):GO→GO→Bool
 |.loop _ _ _ _ _ _ _ _ _ _,.loop b p _ _ _ _ _ _ _ d=>k.is b p d
 |_,_=>false
def Xv (k:Kn):GO→GO
 |.loop _ _ fn sl n ps wG bd d _=>.loop k.b k.p fn sl n ps wG bd d k.d
 |_=>.dead
def iz (es:List (AV × AV)):Bool:=jk (ab es)
def G8:GO→GO→Bool
 |.tok f sz e,.tok f' cL e'=>decide (f'=f)&&(aas cL sz&&aas e' e)
 |.defers a,.defers b=>match a,b with
  |true,true=>true
  |false,false=>true
  |_,_=>false
 |.dead,_=>true
 |_,_=>false
structure cr where
 ps:aU
 sl:List Tmp
 W:List Tmp
 bx:List (Nat × Nat)
 g:List GL
 lps:List (Tmp × Nat × Nat)
def C5 (af:bp):List Tmp→Option (List AV)
 |[]=>some []
 |t :: l=>match lk af t with
  |.v a=>match C5 af l with
   |some r=>some (a :: r)
   |none=>none
  |_=>none
def C6 (bx:dy):List (Nat × Nat)→Option (List AV)
 |[]=>some []
 |(k,n) :: l=>match eJ bx k with
  |some cs=>match C6 bx l with
   |some r=>bif aas cs.length n then some (cs++r) else none
   |none=>none
  |none=>none
def nW:List GL→List GO→Option (List AV)
 |[],_=>some []
 |.row n :: l,.row cs _ :: G=>match nW l G with
  |some r=>bif aas cs.length n then some (cs++r) else none
  |none=>none
 |.tok _ sz e :: l,.tok _ cL e' :: G=>bif aas sz cL&&aas e e' then nW l G else none
 |.dead :: l,_ :: G=>nW l G
 |.lp _ :: l,_ :: G=>nW l G
 |.bh :: l,_ :: G=>nW l G
 |.map :: l,.map es :: G=>match nW l G with
  |some r=>some (.list .gZ 2 (ab es) :: r)
  |none=>none
 |.Ko :: l,.jF s pos :: G=>match nW l G with
  |some r=>some (.str s :: .int .i64 pos :: r)
  |none=>none
 |.bF sz e :: l,.bF es cL e' :: G=>match nW l G with
  |some r=>bif aas sz cL&&aas e e' then some (.list .gZ cL es :: r) else none
  |none=>none
 |.bt sz e :: l,.bt fs cL e' :: G=>match nW l G with
  |some r=>bif aas sz cL&&aas e e' then some (.list .gZ 1 (bw fs) :: r) else none
  |none=>none
 |.xY :: l,.map es :: G=>match nW l G with
  |some r=>some (.list .gZ 2 (ab es) :: r)
  |none=>none
 |.kP wj :: l,.kP mid' n left _ _ :: G=>match nW l G with
  |some r=>bif aas wj mid' then some (.int .i64 n :: .list .gZ 1 (bw left) :: r) else none
  |none=>none
 |_,_=>none
def Rt (vs:List AV) (loc:Nat):Nat:=match nth vs loc with
 |some (.list _ _ es)=>es.length
 |_=>0
def Xw:GO→GO→Bool
 |.row _ e,.row _ e'=>aas e e'
 |_,_=>false
def Xx:GO→GO→Bool
 |.kP _ _ _ _ t,.kP _ _ _ _ t'=>aas t t'
 |_,_=>false
def aed:GO→TypeId
 |.kP _ _ _ _ t=>t
 |_=>0
def aee:GO→TypeId
 |.row _ e=>e
 |_=>0
def fu (vs:List AV):List GL→List GO→List GO→Bool
 |[],_,_=>true
 |.tok loc _ _ :: l,_ :: B,.tok f _ _ :: G=>decide (f=Rt vs loc)&&fu vs l B G
 |.tok _ _ _ :: _,_,_=>false
 |.lp k :: l,o :: B,o' :: G=>Zs k o o'&&fu vs l B G
 |.bh :: l,o :: B,o' :: G=>G8 o o'&&fu vs l B G
 |.row _ :: l,b :: B,g :: G=>Xw b g&&fu vs l B G
 |.map :: l,_ :: B,.map es :: G=>iz es&&fu vs l B G
 |.map :: _,_,_=>false
 |.Ko :: l,_ :: B,_ :: G=>fu vs l B G
 |.bF _ _ :: l,_ :: B,_ :: G=>fu vs l B G
 |.bt _ _ :: l,_ :: B,_ :: G=>fu vs l B G
 |.xY :: l,_ :: B,_ :: G=>fu vs l B G
 |.kP _ :: l,b :: B,g :: G=>Xx b g&&fu vs l B G
 |.dead :: l,_ :: B,_ :: G=>fu vs l B G
 |_,_,_=>false
def ui:List Tmp→List AV→bp→bp
 |t :: ts,a :: l,r=>.put t (.v a) :: ui ts l r
 |_,_,r=>r
def uj:List (Tmp × Nat × Nat)→bp→bp
 |(t,k,o) :: l,r=>.put t (.lp k o) :: uj l r
 |[],r=>r
def Na (af:bp):List (Tmp × Nat × Nat)→Bool
 |[]=>true
 |(t,k,o) :: l=>(match lk af t with
  |.lp k' o'=>aas k' k&&aas o' o
  |_=>false)&&Na af l
def C7:List Tmp→bp→bp
 |t :: ts,r=>.put t .none :: C7 ts r
 |[],r=>r
def AA:List (Nat × Nat)→List AV→dy→dy
 |(k,n) :: r,l,b=>(k,l.take n) :: AA r (l.drop n) b
 |[],_,b=>b
def fg (vs:List AV):List GL→List GO→List AV→List GO
 |.row n :: r,B,l=>.row (l.take n) (aee (B.headD .dead)) :: fg vs r B.tail (l.drop n)
 |.tok loc sz e :: r,B,l=>.tok (Rt vs loc) sz e :: fg vs r B.tail l
 |.dead :: r,B,l=>.dead :: fg vs r B.tail l
 |.lp k :: r,B,l=>Xv k (B.headD .dead) :: fg vs r B.tail l
 |.bh :: r,B,l=>B.headD .dead :: fg vs r B.tail l
 |.map :: r,B,l=>.map (AV.entries (fU l)) :: fg vs r B.tail l.tail
 |.Ko :: r,B,l=>.jF (AV.YB (fU l)) (AV.AZ (fU l.tail)).toNat :: fg vs r B.tail l.tail.tail
 |.bF sz e :: r,B,l=>.bF (AV.fK (fU l)) sz e :: fg vs r B.tail l.tail
 |.bt sz e :: r,B,l=>.bt (aA (AV.fK (fU l))) sz e :: fg vs r B.tail l.tail
 |.xY :: r,B,l=>.map (AV.entries (fU l)) :: fg vs r B.tail l.tail
 |.kP wj :: r,B,l=>.kP wj (AV.AZ (fU l)).toNat (aA (AV.fK (fU l.tail))) none (aed (B.headD .dead)) :: fg vs r B.tail l.tail.tail
 |[],_,_=>[]
def G9:List (Nat × Nat)→Nat
 |[]=>0
 |(_,n) :: l=>n+G9 l
def oQ:List GL→List AV→Nat→Nat
 |[],_,_=>0
 |.bF _ _ :: r,l,i=>match i with
  |0=>(AV.fK (fU l)).length
  |i+1=>oQ r l.tail i
 |.row n :: r,l,i=>match i with
  |0=>0
  |i+1=>oQ r (l.drop n) i
 |.map :: r,l,i=>match i with
  |0=>0
  |i+1=>oQ r l.tail i
 |.Ko :: r,l,i=>match i with
  |0=>0
  |i+1=>oQ r l.tail.tail i
 |.bt _ _ :: r,l,i=>match i with
  |0=>0
  |i+1=>oQ r l.tail i
 |.xY :: r,l,i=>match i with
  |0=>0
  |i+1=>oQ r l.tail i
 |.kP _ :: r,l,i=>match i with
  |0=>0
  |i+1=>oQ r l.tail.tail i
 |_ :: r,l,i=>match i with
  |0=>0
  |i+1=>oQ r l i
def cr.vC (t:cr) (v:t.ps.T):List AV:=t.ps.oP (oQ t.g (((t.ps.oP (fun _=>0) v).drop t.sl.length).drop (G9 t.bx))) v
def cr.st (t:cr) (s:St) (v:t.ps.T):St:=
 ⟨uj t.lps (ui t.sl (t.vC v) (C7 t.W s.af)),AA t.bx ((t.vC v).drop t.sl.length) s.boxes,fg (t.vC v) t.g s.G (((t.vC v).drop t.sl.length).drop (G9 t.bx)),s.marks,s.ro,s.n⟩
def HV:List Nat→Nat→Bool
 |[],_=>false
 |a :: l,n=>aas a n || HV l n
def inK (l:List Tmp) (W:List Tmp) (n:Nat):Bool:=HV l n || HV W n
def ET (d:Nat) (l W:List Tmp):bp→Bool
 |[]=>true
 |.put t (.lp k _) :: r=>(!(aas k d) || inK l W t)&&ET d l W r
 |_ :: r=>ET d l W r
def zG (l W:List Tmp) (base:bp):bp→Bool
 |[]=>true
 |.put d _ :: r=>inK l W d&&zG l W base r
 |.kill d :: r=>ET d l W base&&zG l W base r
def Af:List (Nat × Nat)→Nat→Bool
 |[],_=>false
 |(a,_) :: l,n=>aas a n || Af l n
def BG (l:List (Nat × Nat)) (base:dy):dy→Bool
 |[]=>true
 |(k,_) :: r=>(Af l k || (eJ base k).isNone)&&BG l base r
def U1:List Nat→List Nat→Bool
 |[],[]=>true
 |a :: l,b :: r=>aas a b&&U1 l r
 |_,_=>false
def aL.lcl (n:Nat):aL→Bool
 |.list _ p=>p.under n
 |_=>false
def aU.flags (n:Nat):aU→List Bool
 |.nil=>[]
 |.cons p ps=>p.lcl n :: ps.flags n
def oR:List GL→List Bool→Bool
 |[],_=>true
 |.bF _ _ :: r,f :: l=>f&&oR r l
 |.bF _ _ :: _,[]=>false
 |.row n :: r,l=>oR r (iU n l)
 |.map :: r,l=>oR r (iU 1 l)
 |.Ko :: r,l=>oR r (iU 2 l)
 |.bt _ _ :: r,l=>oR r (iU 1 l)
 |.xY :: r,f :: l=>f&&oR r l
 |.xY :: _,[]=>false
 |.kP _ :: r,l=>oR r (iU 2 l)
 |_ :: r,l=>oR r l
def Ru (n:Nat):List GL→Bool
 |[]=>true
 |.kP wj :: r=>aau wj n&&Ru n r
 |_ :: r=>Ru n r
def cr.ok (t:cr) (s s':St):Bool:=
 zG t.sl t.W s.af (s'.af.take (s'.af.length - s.af.length))&&BG t.bx s.boxes (s'.boxes.take (s'.boxes.length - s.boxes.length)) &&
  U1 s'.marks s.marks&&aas t.g.length s.G.length&&(t.ps.under s.G.length&&(oR t.g (iU (G9 t.bx) (iU t.sl.length (t.ps.flags s.G.length)))&&Ru s.G.length t.g))&&Na s'.af t.lps
def cr.dec (t:cr) (s s':St):Option t.ps.T:=
 bif t.ok s s' then
  match C5 s'.af t.sl,C6 s'.boxes t.bx,nW t.g s'.G with
  |some a,some b,some c=>(t.ps.Pf (oQ t.g c) (a++(b++c))).bind fun v=>bif fu (t.vC v) t.g s.G s'.G then some v else none
  |_,_,_=>none
 else none
theorem Ha {l:List Nat} {n:Nat}:HV l n=true↔n∈l:=by
 induction l with
 |nil=>simp [HV]
 |cons a l ih=>
  simp only [HV,Bool.or_eq_true,Nat.beq_eq,ih,aaP];constructor
  ·rintro (h|h)
   ·exact .inl h.symm
   ·exact .inr h
  ·rintro (h|h)
   ·exact .inl h.symm
   ·exact .inr h
theorem Nb:∀ {a b:List Nat},U1 a b=true→a=b
 |[],[],_=>rfl
 |a :: l,b :: r,h=>by
  simp only [U1,aae,Nat.beq_eq] at h;rw [h.1,Nb h.2]
 |[],_ :: _,h=>by cases h
 |_ :: _,[],h=>by cases h
theorem Hb {d:Nat} {l W:List Tmp} {t off:Nat}:∀ {base:bp},ET d l W base=true→lk base t=.lp d off→inK l W t=true
 |[],_,h=>by simp [lk] at h
 |.put t' x :: r,hn,h=>by
  by_cases e:t'=t
  ·subst e;rw [aG] at h;subst h;simp only [ET,Nat.beq_refl,Bool.not_true,Bool.false_or,aae] at hn;exact hn.1
  ·rw [aX e] at h;refine Hb (base:=r) ?_ h;cases x <;> simp only [ET,aae] at hn
   ·exact hn
   ·exact hn
   ·exact hn.2
 |.kill d' :: r,hn,h=>by
  rcases MI (l:=r) (d:=d') (t:=t) with ⟨h1,_⟩|h1
  ·rw [h1] at h;exact Hb (base:=r) hn h
  ·rw [h1] at h;cases h
theorem Hc {l W:List Tmp} {base:bp} {t:Nat} (ht:inK l W t=false):∀ {pre:bp},zG l W base pre=true→lk (pre++base) t=lk base t
 |[],_=>rfl
 |.put d x :: r,h=>by
  simp only [zG,aae] at h;have du:d≠t:=fun e=>by rw [e,ht] at h; exact absurd h.1 (by simp)
  rw [aaM,aX du];exact Hc ht h.2
 |.kill d :: r,h=>by
  simp only [zG,aae] at h;have ih:=Hc ht h.2;simp only [aaM,lk,ih];cases hb:lk base t with
  |lp k off=>
   by_cases e:k=d
   ·subst e;have:=Hb h.1 hb;rw [ht] at this;cases this
   ·simp [rW e]
  |_=>rfl
theorem I0 {l:List (Nat × Nat)} {base:dy} {k:Nat} {cs:List AV} (hk:Af l k=false) (hb:eJ base k=some cs):∀ {pre:dy},BG l base pre=true→eJ (pre++base) k=some cs
 |[],_=>hb
 |(d,x) :: r,h=>by
  simp only [BG,aae] at h;have du:d≠k:=fun e=>by
   rw [e,hk,hb] at h;exact absurd h.1 (by simp)
  rw [aaM,eJ,rW du];exact I0 hk hb h.2
theorem I1 {α:Type} (pre base:List α):(pre++base).take ((pre++base).length - base.length)=pre:=by
 rw [List.length_append,Nat.add_sub_cancel,aa6]
def aj.cut (R:aj) (n:Nat):aj:=⟨R.I,R.obj.take n⟩
theorem kX {R:aj} {n id:Nat} {ro:RO}:nth (R.cut n).obj id=some ro↔id < n∧nth R.obj id=some ro:=by
 simp only [aj.cut,bg,List.getElem?_take];split
 ·simp_all
 ·simp_all;omega
theorem uk (R:aj) (n:Nat):Mv R (R.cut n) n:=⟨fun _ _ h=>h,fun _ _ hl h=>kX.2 ⟨hl,h⟩⟩
section HT
variable {E:Env} {R R':aj} {w w':World} {β β':Nat→Nat} {s s':St} {a a':Act}
def C8 (R:aj) (w:World) (β:Nat→Nat) (K:Nat→Prop) (af:bp) (tmps:Array Value):Prop:=
 ∀ i,¬ K i→lk af i≠.none→∃ c,tmps[i]?=some c∧tD R w β (lk af i) c
theorem C9 {tmps:Array Value} {base:bp}:∀ {W:List Tmp} {K:Nat→Prop},C8 R w β (fun i=>i∈W∨K i) base tmps→C8 R w β K (C7 W base) tmps
 |[],K,h=>fun i hi hn=>h i (by simpa using hi) hn
 |t :: W,K,h=>fun i hi hn=>by
  have ih:C8 R w β (fun i=>i=t∨K i) (C7 W base) tmps:=C9 (W:=W) (fun j hj=>h j (fun hc=>hj (by
   rcases hc with hc|hc
   ·rcases aaP.1 hc with hc|hc
    ·exact .inr (.inl hc)
    ·exact .inl hc
   ·exact .inr (.inr hc))))
  simp only [C7] at hn ⊢;by_cases e:t=i
  ·subst e;rw [aG] at hn;exact absurd rfl hn
  ·rw [aX e] at hn ⊢;exact ih i (by simp; exact ⟨fun e'=>e e'.symm,hi⟩) hn
theorem AB {n:Nat} (m:Mv R' R n) {tmps:Array Value} {af:bp} (hT:tE R' w β af tmps) {base:bp}:∀ {ts:List Tmp} {K:Nat→Prop} {l l' r r':List AV},C5 af ts=some l→dM (l++r) (l'++r')→l.length=l'.length→aR n l'=true →
  C8 R w β (fun i=>i∈ts∨K i) base tmps→C8 R w β K (ui ts (l'++r') base) tmps
 |[],K,l,l',r,r',_,_,_,_,h=>fun i hi hn=>by
  have e:ui [] (l'++r') base=base:=rfl;rw [e] at hn ⊢;exact h i (by simpa using hi) hn
 |t :: ts,K,l,l',r,r',hg,hw,hl,hu,h=>by
  unfold C5 at hg;split at hg
  ·rename_i a ha;split at hg
   ·rename_i l0 A3;cases hg;cases l' with
    |nil=>simp at hl
    |cons b l'=>
     simp only [aaM,dM] at hw;simp only [aR,aae] at hu;have ih:C8 R w β (fun i=>i=t∨K i) (ui ts (l'++r') base) tmps:=AB m hT A3 hw.2 (by simpa using hl) hu.2 (fun j hj=>h j (fun hc=>hj (by
      rcases hc with hc|hc
      ·rcases aaP.1 hc with hc|hc
       ·exact .inr (.inl hc)
       ·exact .inl hc
      ·exact .inr (.inr hc))))
     intro i hi hn;simp only [ui,aaM] at hn ⊢;by_cases e:t=i
     ·subst e;rw [aG] at hn ⊢;obtain ⟨c,h1,h2⟩:=hT t (by rw [ha]; simp);rw [ha] at h2;exact ⟨c,h1,Rel.move m hu.1 (hw.1 _ _ _ h2)⟩
     ·rw [aX e] at hn ⊢;exact ih i (by simp; exact ⟨fun e'=>e e'.symm,hi⟩) hn
   ·cases hg
  ·cases hg
def Da (R:aj) (w:World) (β:Nat→Nat) (k:Nat) (cs:List AV):Prop:=
 (∃ vs el,w.heap[β k]?=some (.cells ⟨vs⟩ el (0,0))∧aW R w cs vs∧(∀ v∈vs,v.oneCell'=true))∧(∀ o,¬ R.I (β k) o)∧¬ Live R (β k)
theorem uo {R:aj} {n b:Nat} (h:Live (R.cut n) b):Live R b:=by
 obtain ⟨id,ro,h1,h2⟩:=h;exact ⟨id,ro,(kX.1 h1).2,h2⟩
theorem Da.cut {n k:Nat} {cs gr:List AV} (h:Da R w β k cs) (hw:dM cs gr) (hu:aR n gr=true):Da (R.cut n) w β k gr:=by
 obtain ⟨⟨vs,el,h1,h2,h3⟩,h4,h5⟩:=h;exact ⟨⟨vs,el,h1,(hw.rel h2).move (uk R n) hu,h3⟩,h4,fun hl=>h5 (uo hl)⟩
theorem iH {n:Nat}:∀ {l r:List AV},aR n (l++r)=(aR n l&&aR n r)
 |[],r=>by simp [aR]
 |a :: l,r=>by simp [aR,iH (l:=l),Bool.and_assoc]
theorem dM.split:∀ {l r l':List AV},dM (l++r) l'→∃ a b,l'=a++b∧dM l a∧dM r b∧a.length=l.length
 |[],r,l',h=>⟨[],l',rfl,trivial,h,rfl⟩
 |x :: l,r,[],h=>h.elim
 |x :: l,r,y :: l',h=>by
  obtain ⟨a,b,rfl,h2,h3,h4⟩:=dM.split (l:=l) (r:=r) (l':=l') h.2;exact ⟨y :: a,b,rfl,⟨h.1,h2⟩,h3,by simp [h4]⟩
theorem I2 {n:Nat} {bxs:dy} (hb:∀ k cs,eJ bxs k=some cs→Da R w β k cs) {base:dy}:∀ {bx:List (Nat × Nat)} {K:Nat→Prop} {l l' r:List AV},C6 bxs bx=some l→dM l l'→aR n l'=true →
  (∀ k cs,¬ K k→Af bx k=false→eJ base k=some cs→eJ bxs k=some cs∧aR n cs=true) →
  ∀ k cs,¬ K k→eJ (AA bx (l'++r) base) k=some cs→Da (R.cut n) w β k cs∧∃ gr,eJ bxs k=some gr
 |[],K,l,l',r,_,_,_,h,k,cs,hK,hk=>by
  obtain ⟨h1,h2⟩:=h k cs hK rfl hk;exact ⟨(hb k cs h1).cut (dM.refl _) h2,cs,h1⟩
 |(d,m) :: bx,K,l,l',r,hg,hw,hu,h,k,cs,hK,hk=>by
  unfold C6 at hg;split at hg
  ·rename_i cs0 hd;split at hg
   ·rename_i l0 A3;cases hm:aas cs0.length m with
    |false=>rw [hm] at hg; cases hg
    |true=>
     rw [hm] at hg;cases hg;have hm:=aal hm;obtain ⟨x,y,rfl,k1,k2,k3⟩:=hw.split;rw [iH,aae] at hu;have e1:((x++y)++r).take m=x:=by rw [List.append_assoc,← hm,← k3,aa6]
     have e2:((x++y)++r).drop m=y++r:=by rw [List.append_assoc,← hm,← k3,aaA]
     simp only [AA,e1,e2] at hk;rcases gH hk with ⟨rfl,rfl⟩|⟨du,hk⟩
     ·exact ⟨(hb d cs0 hd).cut k1 hu.1,cs0,hd⟩
     ·refine I2 hb (K:=fun k=>k=d∨K k) (r:=r) A3 k2 hu.2 (fun k' gr hK' h1 h2=>?_) k cs (fun hc=>?_) hk
      ·exact h k' gr (fun hc=>hK' (.inr hc)) (by simp only [Af,h1,Bool.or_false]; exact rW (fun e=>hK' (.inl e.symm))) h2
      ·rcases hc with hc|hc
       ·exact du hc.symm
       ·exact hK hc
   ·cases hg
  ·cases hg
def Db (n:Nat):List GL→List AV→Prop
 |[],_=>True
 |.bF _ _ :: r,l=>aR n (AV.fK (fU l))=true∧Db n r l.tail
 |.row m :: r,l=>Db n r (l.drop m)
 |.map :: r,l=>Db n r l.tail
 |.Ko :: r,l=>Db n r l.tail.tail
 |.bt _ _ :: r,l=>Db n r l.tail
 |.xY :: r,l=>aR n (AV.fK (fU l))=true∧Db n r l.tail
 |.kP _ :: r,l=>Db n r l.tail.tail
 |_ :: r,l=>Db n r l
def uq (n:Nat):List Bool→List AV→Prop
 |[],_=>True
 |_ :: _,[]=>True
 |f :: fl,a :: l=>(f=true→aR n a.fK=true)∧uq n fl l
theorem uq.drop {m:Nat}:∀ {fl:List Bool} {l:List AV} (n:Nat),uq m fl l→uq m (iU n fl) (l.drop n)
 |_,_,0,h=>by simpa [iU] using h
 |[],_,_+1,_=>by simp [iU,uq]
 |_ :: fl,[],n+1,_=>by
  rw [List.drop_nil];cases iU (n+1) (_ :: fl) <;> trivial
 |_ :: fl,_ :: l,n+1,h=>by simpa [iU] using uq.drop n h.2
theorem iZ {m:Nat}:∀ (g:List GL) {fl:List Bool} {l:List AV},oR g fl=true→uq m fl l→Db m g l
 |[],_,_,_,_=>trivial
 |.bF _ _ :: g,[],_,h,_=>by cases h
 |.bF _ _ :: g,f :: fl,[],h,_=>by
  simp only [oR,aae] at h;refine ⟨rfl,iZ g (fl:=fl) h.2 ?_⟩;cases fl <;> trivial
 |.bF _ _ :: g,f :: fl,a :: l,h,k=>by
  simp only [oR,aae] at h;exact ⟨k.1 h.1,iZ g h.2 k.2⟩
 |.row n :: g,fl,l,h,k=>iZ g (show oR g (iU n fl)=true from h) (k.drop n)
 |.map :: g,fl,l,h,k=>by
  have:=iZ g (show oR g (iU 1 fl)=true from h) (k.drop 1);rw [List.drop_one] at this;exact this
 |.Ko :: g,fl,l,h,k=>by
  have:=iZ g (show oR g (iU 2 fl)=true from h) (k.drop 2);have e:l.drop 2=l.tail.tail:=by cases l with
   |nil=>rfl
   |cons a l=>cases l <;> rfl
  rw [e] at this;exact this
 |.bt _ _ :: g,fl,l,h,k=>by
  have:=iZ g (show oR g (iU 1 fl)=true from h) (k.drop 1);rw [List.drop_one] at this;exact this
 |.kP _ :: g,fl,l,h,k=>by
  have:=iZ g (show oR g (iU 2 fl)=true from h) (k.drop 2);have e:l.drop 2=l.tail.tail:=by cases l with
   |nil=>rfl
   |cons a l=>cases l <;> rfl
  rw [e] at this;exact this
 |.xY :: g,[],_,h,_=>by cases h
 |.xY :: g,f :: fl,[],h,_=>by
  simp only [oR,aae] at h;refine ⟨rfl,iZ g (fl:=fl) h.2 ?_⟩;cases fl <;> trivial
 |.xY :: g,f :: fl,a :: l,h,k=>by
  simp only [oR,aae] at h;exact ⟨k.1 h.1,iZ g h.2 k.2⟩
 |.tok _ _ _ :: g,fl,l,h,k=>iZ g (show oR g fl=true from h) k
 |.dead :: g,fl,l,h,k=>iZ g (show oR g fl=true from h) k
 |.lp _ :: g,fl,l,h,k=>iZ g (show oR g fl=true from h) k
 |.bh :: g,fl,l,h,k=>iZ g (show oR g fl=true from h) k
theorem Dc {n:Nat} {α:Type} {g:α→AV} (hg:∀ x,(g x).under n=true):∀ xs:List α,aR n (xs.map g)=true
 |[]=>rfl
 |x :: xs=>by simp only [List.map_cons,aR,hg x,Dc hg xs,Bool.and_self]
theorem aU.I3 (n:Nat) (L:Nat→Nat):∀ (ps:aU) (x:ps.T),uq n (ps.flags n) (ps.oP L x)
 |.nil,_=>trivial
 |.cons p .nil,x=>⟨fun h=>Xy L p x h,trivial⟩
 |.cons p (.cons q ps),x=>⟨fun h=>Xy L p x.1 h,(aU.cons q ps).I3 n L x.2⟩
where
 Xy (L:Nat→Nat):∀ (p:aL) (x:p.T),p.lcl n=true→aR n (p.oP L x).fK=true
  |.list _ p,x,h=>Dc (fun y=>p.eK y h) _
  |.int _,_,h=>by cases h
  |.bool,_,h=>by cases h
  |.str,_,h=>by cases h
  |.agg _,_,h=>by cases h
  |.bG _,_,h=>by cases h
  |.own _ _ _,_,h=>by cases h
  |.bt _ _ _,_,h=>by cases h
  |.mw _,_,h=>by cases h
  |.two _ _,_,h=>by cases h
def GOk (n:Nat):GO→GO→Prop
 |.row cs el,.row gr el'=>el'=el∧dM cs gr∧aR n gr=true
 |.tok f sz e,.tok f' cL e'=>f=f'∧sz=cL∧e=e'
 |.defers a,.defers b=>a=b
 |.map es,.map es'=>(es'=es∧iz es=true)∨∃ l,es'=ar l∧nu (ab es) l∧aR n l=true
 |.bt fs sz e,.bt Gx cL e'=>fs=Gx∧sz=cL∧e=e'
 |.kP wj m left _ t,.kP mid' m' Fp cur t'=>wj=mid'∧m=m'∧left=Fp∧t=t'∧wj < n∧cur=none
 |.jF l p,.jF l' p'=>l'=l∧p'=p
 |.bF es sz e,.bF es' cL e'=>cL=sz∧e'=e∧nu es es'∧aR n es'=true
 |_,.dead=>True
 |_,_=>False
def LOk:GO→GO→GO→Prop
 |.loop _ _ fn sl n ps wG bd d _,.loop b p _ _ _ _ _ _ _ dn,go=>go=.loop b p fn sl n ps wG bd d dn
 |_,_,_=>False
theorem Ph {n:Nat} {o o':GO} (h:G8 o o'=true):GOk n o' o:=by
 cases o with
 |tok f sz e=>
  cases o' with
  |tok f' cL e'=>
   simp only [G8,aae] at h;exact ⟨of_decide_eq_true h.1,aal h.2.1,aal h.2.2⟩
  |_=>cases h
 |defers a=>
  cases o' with
  |defers b=>cases a <;> cases b <;> first | rfl | cases h
  |_=>cases h
 |dead=>cases o' <;> trivial
 |_=>cases h
theorem U2 {k:Kn} {o o':GO} (h:Zs k o o'=true):LOk o o' (Xv k o):=by
 cases o with
 |loop b p fn sl n ps wG bd d dn=>
  cases o' with
  |loop b' p' fn' sl' n' ps' U3 bd' d' dn'=>
   obtain ⟨rfl,rfl,rfl⟩:=Kn.M9 (show k.is b' p' dn'=true from h);rfl
  |_=>cases h
 |_=>cases h
theorem vQ (a:AV):a.entries=ar a.fK:=by cases a <;> rfl
theorem ka {n:Nat} {vs:List AV}:∀ {g:List GL} {B G:List GO} {l l':List AV},nW g G=some l→dM l l'→Qo l l'→Db n g l'∧Ru n g=true→aR n l'=true→fu vs g B G=true →
  ∀ id go,nth (fg vs g B l') id=some go→∃ go',nth G id=some go'∧(GOk n go' go∨∃ Ql,nth B id=some Ql∧LOk Ql go' go)
 |[],B,G,l,l',_,_,_,_,_,_,id,go,h=>by simp [fg,nth] at h
 |x :: g,[],G,l,l',_,_,_,_,_,ht,_,_,_=>by cases x <;> cases G <;> cases ht
 |x :: g,_ :: _,[],l,l',_,_,_,_,_,ht,_,_,_=>by cases x <;> cases ht
 |.row m :: g,b :: B,o :: G,l,l',hg,hw,hx,yX,hu,ht,id,go,h=>by
   obtain ⟨OV,ES⟩:Xw b o=true∧fu vs g B G=true:=by
    rw [← aae];cases o <;> exact ht
   cases o with
   |row cs el=>
    have qQ:aee b=el:=by
     cases b <;> first | (cases OV; done) | exact aal OV
    change (match nW g G with
     |some r=>bif aas cs.length m then some (cs++r) else none
     |none=>none)=some l at hg
    split at hg
    ·rename_i r hr;cases hm:aas cs.length m with
     |false=>rw [hm] at hg; cases hg
     |true=>
      rw [hm] at hg;cases hg;have hm:=aal hm;obtain ⟨x,y,rfl,k1,k2,k3⟩:=hw.split;rw [iH,aae] at hu;have e1:(x++y).take m=x:=by rw [← hm,← k3,aa6]
      have e2:(x++y).drop m=y:=by rw [← hm,← k3,aaA]
      simp only [fg,e1,e2] at h;cases id with
      |zero=>simp only [nth] at h; cases h; exact ⟨.row cs el,rfl,.inl ⟨qQ,k1,hu.1⟩⟩
      |succ id=>exact ka hr k2 (by obtain ⟨x',y',e1',k1',T8,k3'⟩:=hx.split; have:=aa0 e1' (by rw [k3,k3']); rw [this.2]; exact T8) (by rw [← e2]; exact yX) hu.2 ES id go h
    ·cases hg
   |_=>cases hg
 |.tok loc sz e :: g,b :: B,o :: G,l,l',hg,hw,hx,yX,hu,ht,id,go,h=>by
   cases o with
   |tok f cL e'=>
    change (bif aas sz cL&&aas e e' then nW g G else none)=some l at hg;change (decide (f=Rt vs loc)&&fu vs g B G)=true at ht;rw [aae] at ht;cases hm:(aas sz cL&&aas e e') with
    |false=>rw [hm] at hg; cases hg
    |true=>
     rw [hm] at hg;rw [aae] at hm;have q1:=aal hm.1;have q2:=aal hm.2;simp only [fg] at h;cases id with
     |zero=>
      simp only [nth] at h;cases h;exact ⟨.tok f cL e',rfl,.inl ⟨of_decide_eq_true ht.1,q1.symm,q2.symm⟩⟩
     |succ id=>exact ka hg hw hx yX hu ht.2 id go h
   |_=>cases hg
 |.dead :: g,b :: B,o :: G,l,l',hg,hw,hx,yX,hu,ht,id,go,h=>by
   simp only [fg] at h;have Kh:nW g G=some l:=by cases o <;> exact hg
   have ES:fu vs g B G=true:=by cases o <;> exact ht
   cases id with
   |zero=>
    simp only [nth] at h;cases h;exact ⟨o,rfl,.inl (by cases o <;> trivial)⟩
   |succ id=>exact ka Kh hw hx yX hu ES id go h
 |.lp k :: g,b :: B,o :: G,l,l',hg,hw,hx,yX,hu,ht,id,go,h=>by
   simp only [fg] at h;have Kh:nW g G=some l:=by cases o <;> exact hg
   change (Zs k b o&&fu vs g B G)=true at ht;rw [aae] at ht;cases id with
   |zero=>
    simp only [nth] at h;cases h;exact ⟨o,rfl,.inr ⟨b,rfl,U2 ht.1⟩⟩
   |succ id=>exact ka Kh hw hx yX hu ht.2 id go h
 |.bh :: g,b :: B,o :: G,l,l',hg,hw,hx,yX,hu,ht,id,go,h=>by
   simp only [fg] at h;have Kh:nW g G=some l:=by cases o <;> exact hg
   change (G8 b o&&fu vs g B G)=true at ht;rw [aae] at ht;cases id with
   |zero=>
    simp only [nth] at h;cases h;exact ⟨o,rfl,.inl (Ph ht.1)⟩
   |succ id=>exact ka Kh hw hx yX hu ht.2 id go h
 |.map :: g,b :: B,o :: G,l,l',hg,hw,hx,yX,hu,ht,id,go,h=>by
   cases o with
   |map es=>
    change (match nW g G with
     |some r=>some (AV.list .gZ 2 (ab es) :: r)
     |none=>none)=some l at hg
    change (iz es&&fu vs g B G)=true at ht;rw [aae] at ht;split at hg
    ·rename_i r hr;cases hg;cases l' with
     |nil=>exact hw.elim
     |cons a l'=>
      simp only [aR,aae] at hu;simp only [fg,fU,aaK] at h;cases id with
      |zero=>
       simp only [nth] at h;cases h;refine ⟨.map es,rfl,.inl (.inl ⟨?_,ht.1⟩)⟩;rw [vQ,hx.2.1 ht.1];exact s8 es
      |succ id=>exact ka hr hw.2 hx.2.2.2 yX hu.2 ht.2 id go h
    ·cases hg
   |_=>cases hg
 |.Ko :: g,b :: B,o :: G,l,l',hg,hw,hx,yX,hu,ht,id,go,h=>by
   have ES:fu vs g B G=true:=by cases o <;> exact ht
   cases o with
   |jF s pos=>
    change (match nW g G with
     |some r=>some (AV.str s :: AV.int .i64 pos :: r)
     |none=>none)=some l at hg
    split at hg
    ·rename_i r hr;cases hg
     match l',hw,hx,hu,h with
     |[],hw,_,_,_=>exact hw.elim
     |[_],hw,_,_,_=>exact hw.2.elim
     |a :: a' :: l',hw,hx,hu,h=>
      simp only [aR,aae] at hu;simp only [fg,fU,aaK] at h;have e1:=hx.1 (by simp [AV.exact]);have e2:=hx.2.2.2.1 (by simp [AV.exact]);subst e1 e2;cases id with
      |zero=>
       simp only [nth] at h;cases h;exact ⟨.jF s pos,rfl,.inl ⟨rfl,by simp [AV.AZ]⟩⟩
      |succ id=>exact ka hr hw.2.2 hx.2.2.2.2.2.2 yX hu.2.2 ES id go h
    ·cases hg
   |_=>cases hg
 |.bF sz e :: g,b :: B,o :: G,l,l',hg,hw,hx,yX,hu,ht,id,go,h=>by
   have ES:fu vs g B G=true:=by cases o <;> exact ht
   cases o with
   |bF es cL e'=>
    change (match nW g G with
     |some r=>bif aas sz cL&&aas e e' then some (AV.list .gZ cL es :: r) else none
     |none=>none)=some l at hg
    split at hg
    ·rename_i r hr;cases hm:(aas sz cL&&aas e e') with
     |false=>rw [hm] at hg; cases hg
     |true=>
     rw [hm] at hg;rw [aae] at hm;have q1:=aal hm.1;have q2:=aal hm.2;cases hg;cases l' with
     |nil=>exact hw.elim
     |cons a l'=>
      simp only [aR,aae] at hu;simp only [fg,fU,aaK] at h;cases id with
      |zero=>
       simp only [nth] at h;cases h;exact ⟨.bF es cL e',rfl,.inl ⟨q1,q2,hx.2.2.1,yX.1.1⟩⟩
      |succ id=>exact ka hr hw.2 hx.2.2.2 ⟨yX.1.2,yX.2⟩ hu.2 ES id go h
    ·cases hg
   |_=>cases hg
 |.bt sz e :: g,b :: B,o :: G,l,l',hg,hw,hx,yX,hu,ht,id,go,h=>by
   have ES:fu vs g B G=true:=by cases o <;> exact ht
   cases o with
   |bt fs cL e'=>
    change (match nW g G with
     |some r=>bif aas sz cL&&aas e e' then some (AV.list .gZ 1 (bw fs) :: r) else none
     |none=>none)=some l at hg
    split at hg
    ·rename_i r hr;cases hm:(aas sz cL&&aas e e') with
     |false=>rw [hm] at hg; cases hg
     |true=>
     rw [hm] at hg;rw [aae] at hm;have q1:=aal hm.1;have q2:=aal hm.2;cases hg;cases l' with
     |nil=>exact hw.elim
     |cons a l'=>
      simp only [aR,aae] at hu;simp only [fg,fU,aaK] at h;cases id with
      |zero=>
       simp only [nth] at h;cases h;refine ⟨.bt fs cL e',rfl,.inl ⟨?_,q1.symm,q2.symm⟩⟩;rw [hx.2.1 (C4 fs)];exact (Az fs).symm
      |succ id=>exact ka hr hw.2 hx.2.2.2 yX hu.2 ES id go h
    ·cases hg
   |_=>cases hg
 |.xY :: g,b :: B,o :: G,l,l',hg,hw,hx,yX,hu,ht,id,go,h=>by
   have ES:fu vs g B G=true:=by cases o <;> exact ht
   cases o with
   |map es=>
    change (match nW g G with
     |some r=>some (AV.list .gZ 2 (ab es) :: r)
     |none=>none)=some l at hg
    split at hg
    ·rename_i r hr;cases hg;cases l' with
     |nil=>exact hw.elim
     |cons a l'=>
      simp only [aR,aae] at hu;simp only [fg,fU,aaK] at h;cases id with
      |zero=>
       simp only [nth] at h;cases h;exact ⟨.map es,rfl,.inl (.inr ⟨a.fK,vQ a,hx.2.2.1,yX.1.1⟩)⟩
      |succ id=>exact ka hr hw.2 hx.2.2.2 ⟨yX.1.2,yX.2⟩ hu.2 ES id go h
    ·cases hg
   |_=>cases hg
 |.kP wj :: g,b :: B,o :: G,l,l',hg,hw,hx,yX,hu,ht,id,go,h=>by
   obtain ⟨OV,ES⟩:Xx b o=true∧fu vs g B G=true:=by
    rw [← aae];cases o <;> exact ht
   cases o with
   |kP mid' k left cur t=>
    have qQ:aed b=t:=by
     cases b <;> first | (cases OV; done) | exact aal OV
    change (match nW g G with
     |some r=>bif aas wj mid' then some (AV.int .i64 k :: AV.list .gZ 1 (bw left) :: r) else none
     |none=>none)=some l at hg
    split at hg
    ·rename_i r hr;cases hm:aas wj mid' with
     |false=>rw [hm] at hg; cases hg
     |true=>
     rw [hm] at hg;have q1:=aal hm;subst q1;cases hg;have hmp:=yX.2;simp only [Ru,aae] at hmp
     match l',hw,hx,hu,h with
     |[],hw,_,_,_=>exact hw.elim
     |[_],hw,_,_,_=>exact hw.2.elim
     |a :: a' :: l',hw,hx,hu,h=>
      simp only [aR,aae] at hu;simp only [fg,fU,aaK] at h;have e1:=hx.1 (by simp [AV.exact]);have e2:=hx.2.2.2.2.1 (C4 left);subst e1;cases id with
      |zero=>
       simp only [nth] at h;cases h;refine ⟨.kP wj k left cur t,rfl,.inl ⟨rfl,by simp [AV.AZ],?_,qQ.symm,nt hmp.1,rfl⟩⟩;rw [e2];exact (Az left).symm
      |succ id=>exact ka hr hw.2.2 hx.2.2.2.2.2.2 ⟨yX.1,hmp.2⟩ hu.2.2 ES id go h
    ·cases hg
   |_=>cases hg
theorem eC {vs:List AV}:∀ {g:List GL} {B:List GO} {l:List AV},(fg vs g B l).length=g.length
 |[],_,_=>rfl
 |.row m :: g,B,l=>by simp [fg,eC (g:=g)]
 |.tok _ _ _ :: g,B,l=>by simp [fg,eC (g:=g)]
 |.dead :: g,B,l=>by simp [fg,eC (g:=g)]
 |.lp _ :: g,B,l=>by simp [fg,eC (g:=g)]
 |.bh :: g,B,l=>by simp [fg,eC (g:=g)]
 |.map :: g,B,l=>by simp [fg,eC (g:=g)]
 |.bF _ _ :: g,B,l=>by simp [fg,eC (g:=g)]
 |.Ko :: g,B,l=>by simp [fg,eC (g:=g)]
 |.bt _ _ :: g,B,l=>by simp [fg,eC (g:=g)]
 |.xY :: g,B,l=>by simp [fg,eC (g:=g)]
 |.kP _ :: g,B,l=>by simp [fg,eC (g:=g)]
theorem jw.lok {R0:aj} {w0:World} {Xz:RO} {Ql go' go:GO} {ro:RO} (e:Ext R0 w0 R w) (h0:jw R0 w0 Ql Xz) (hle:di Xz ro) (h:jw R' w go' ro) (k:LOk Ql go' go):jw R w go ro:=by
 cases Ql with
 |loop b p fn sl n ps wG bd d dn=>
  cases go' with
  |loop b' p' fn' sl' n' ps' U3 bd' d' dn'=>
   change go=_ at k;subst k;cases Xz with
   |cu bb=>
    simp only [di] at hle;subst hle;obtain ⟨⟨r0,db0,l1,l2,l3,l4,l5,l6,l7,l8,l9,l10⟩,l11⟩:=h0;obtain ⟨⟨r,db,m1,m2,m3,m4,m5,m6,m7,m8,m9,m10⟩,m11⟩:=h;obtain ⟨r1,q1,q2,q3,q4,q5,q6⟩:=e.lp bb r0 l1;have hr:r1=r:=by
     have:=q1.symm.trans m1;injection this with this;injection this with this
    subst hr;exact ⟨⟨r1,db0,q1,m2,m3,by rw [q2]; exact tE.mono e l4,by rw [q2]; exact l5,by rw [q3]; exact l6,by rw [q4]; exact l7,by rw [q5]; exact l8,by rw [q6]; exact l9,e.cu l10⟩,l11⟩
   |none=>exact h0.elim
   |bL=>exact h0.elim
   |tok _ _ _=>exact h0.elim
   |bt _=>exact h0.elim
  |_=>exact k.elim
 |_=>exact k.elim
theorem fc.cut {n:Nat}:∀ {es:List (AV × AV)} {aI:List MapEntry},jk (ab es)=true→fc R w es aI→fc (R.cut n) w es aI
 |[],[],_,_=>trivial
 |[],_ :: _,_,h=>h.elim
 |_ :: _,[],_,h=>h.elim
 |(k,v) :: es,en :: aI,he,h=>by
  simp only [ab,jk,AV.exact,aav,aae] at he;exact ⟨h.1.move (uk R n) (kW n (sG he.1.1)),h.2.1.move (uk R n) (kW n (sG he.1.2)),fc.cut he.2 h.2.2⟩
theorem I4 {n:Nat} {v:AV} (h:v.under n=true) (k:v.ba=true):aR n v.cells=true:=by
 cases v <;> first | exact h | (simp [AV.ba] at k; done) | (simp only [AV.cells,aR,aav]; exact h)
theorem Dd {n sz:Nat}:∀ {es es':List AV},nu es es'→eW sz es→aR n es'=true→eW sz es'∧dM (aC es) (aC es')∧aR n (aC es')=true
 |[],[],_,_,_=>⟨(fun e he=>by simp at he),trivial,rfl⟩
 |e :: es,e' :: es',h,k,xq=>by
  obtain ⟨h1,h2⟩:=h;simp only [aR,aae] at xq;obtain ⟨q1,q2⟩:=k e (by simp);obtain ⟨i1,i2,i3⟩:=Dd h2 (fun x hx=>k x (by simp [hx])) xq.2;have hc:=h1.cells q2;have ht:e'.ba=true:=by rw [h1.bG,q2]
  refine ⟨fun x hx=>?_,hc.append i2,by show aR n (e'.cells++aC es')=true; rw [iH,I4 xq.1 ht,i3]; rfl⟩;rcases aaP.1 hx with rfl|hx
  ·exact ⟨by rw [← hc.length,q1],ht⟩
  ·exact i1 x hx
 |[],_ :: _,h,_,_=>h.elim
 |_ :: _,[],h,_,_=>h.elim
theorem to.head {l r:List AV} (h:to l r):(AV.fK (fU l)).length=(AV.fK (fU r)).length:=by
 cases l <;> cases r <;> first | rfl | exact h.1 | exact h.elim
theorem to.tail {l r:List AV} (h:to l r):to l.tail r.tail:=by
 cases l <;> cases r <;> first | exact h | exact h.2 | exact h.elim
theorem eD:∀ (g:List GL) {l r:List AV} (i:Nat),to l r→oQ g l i=oQ g r i
 |[],_,_,_,_=>rfl
 |.bF _ _ :: g,l,r,0,h=>h.head
 |.bF _ _ :: g,l,r,i+1,h=>eD g i h.tail
 |.row _ :: g,l,r,0,h=>rfl
 |.row n :: g,l,r,i+1,h=>eD g i (h.drop n)
 |.map :: g,l,r,0,h=>rfl
 |.map :: g,l,r,i+1,h=>eD g i h.tail
 |.Ko :: g,l,r,0,h=>rfl
 |.Ko :: g,l,r,i+1,h=>eD g i h.tail.tail
 |.bt _ _ :: g,l,r,0,h=>rfl
 |.bt _ _ :: g,l,r,i+1,h=>eD g i h.tail
 |.xY :: g,l,r,0,h=>rfl
 |.xY :: g,l,r,i+1,h=>eD g i h.tail
 |.kP _ :: g,l,r,0,h=>rfl
 |.kP _ :: g,l,r,i+1,h=>eD g i h.tail.tail
 |.tok _ _ _ :: g,l,r,0,h=>rfl
 |.tok _ _ _ :: g,l,r,i+1,h=>eD g i h
 |.dead :: g,l,r,0,h=>rfl
 |.dead :: g,l,r,i+1,h=>eD g i h
 |.lp _ :: g,l,r,0,h=>rfl
 |.lp _ :: g,l,r,i+1,h=>eD g i h
 |.bh :: g,l,r,0,h=>rfl
 |.bh :: g,l,r,i+1,h=>eD g i h
theorem fc.aeg {n:Nat}:∀ {es:List (AV × AV)} {l:List AV} {aI:List MapEntry},nu (ab es) l→aR n l=true→fc R w es aI→fc (R.cut n) w (ar l) aI
 |[],[],[],_,_,_=>trivial
 |[],[],_ :: _,_,_,h=>h.elim
 |[],_ :: _,_,h,_,_=>h.elim
 |(_,_) :: _,[],_,h,_,_=>h.elim
 |(_,_) :: _,_ :: _,[],_,_,h=>h.elim
 |(k,v) :: es,a :: l,en :: aI,hd,hu,h=>by
  obtain ⟨d1,d2⟩:=hd;simp only [aR,aae] at hu;have hc:=d1.cells rfl;have hl:[k,v].length=a.cells.length:=hc.length;cases a with
  |agg cs=>
   match cs,hc,hl with
   |[k',v'],hc,_=>
    have Zt:aR n [k',v']=true:=hu.1;simp only [aR,aav,aae] at Zt;exact ⟨(hc.1 _ _ _ h.1).move (uk R n) Zt.1,(hc.2.1 _ _ _ h.2.1).move (uk R n) Zt.2,fc.aeg d2 hu.2 h.2.2⟩
   |[],_,hl=>simp [AV.cells] at hl
   |[_],_,hl=>simp [AV.cells] at hl
   |_ :: _ :: _ :: _,_,hl=>simp [AV.cells] at hl
  |_=>simp [AV.cells] at hl
theorem jw.gok {n:Nat} {go go':GO} {ro:RO} (h:jw R w go' ro) (k:GOk n go' go):jw (R.cut n) w go ro:=by
 cases go with
 |dead=>
  cases ro with
  |none=>trivial
  |bL=>trivial
  |cu b=>exact h.lt rfl
  |tok f b c=>exact h.lt rfl
  |bt ts=>exact fun j f b c hj=>h.lt ⟨j,f,c,hj⟩
 |row cs el=>
  cases go' with
  |row gr el'=>
   cases ro with
   |cu b=>
    obtain ⟨vs,h1,h2,h3,h4⟩:=h;obtain ⟨rfl,k⟩:=k;exact ⟨vs,h1,(k.1.rel h2).move (uk R n) k.2,h3,h4⟩
   |none=>exact h.elim
   |bL=>exact h.elim
   |tok _ _ _=>exact h.elim
   |bt _=>exact h.elim
  |_=>exact k.elim
 |tok f sz e=>
  cases go' with
  |tok f' cL e'=>
   obtain ⟨rfl,rfl,rfl⟩:=k;cases ro with
   |cu b=>exact h.elim
   |none=>exact h.elim
   |bL=>exact h
   |tok _ _ _=>exact h
   |bt _=>exact h.elim
  |_=>exact k.elim
 |defers a=>
  cases go' with
  |defers b=>
   change b=a at k;subst k;cases ro <;> exact h
  |_=>exact k.elim
 |map es=>
  cases go' with
  |map es'=>
   cases ro with
   |cu b=>
    obtain ⟨aI,clock,h1,h2,h3⟩:=h;rcases k with ⟨rfl,k2⟩|⟨l,rfl,k2,k3⟩
    ·exact ⟨aI,clock,h1,fc.cut k2 h2,h3⟩
    ·exact ⟨aI,clock,h1,fc.aeg k2 k3 h2,h3⟩
   |none=>exact h.elim
   |bL=>exact h.elim
   |tok _ _ _=>exact h.elim
   |bt _=>exact h.elim
  |_=>exact k.elim
 |bt fs sz e=>
  cases go' with
  |bt Gx cL e'=>
   obtain ⟨rfl,rfl,rfl⟩:=k;cases ro <;> exact h
  |_=>exact k.elim
 |kP wj m left cur t=>
  cases go' with
  |kP mid' m' Fp Ie t'=>
   obtain ⟨rfl,rfl,rfl,rfl,k,rfl⟩:=k;cases ro with
   |cu b=>obtain ⟨bm,seen,c0,h1,h2,h3,h4,h5,h6,_⟩:=h; exact ⟨bm,seen,c0,kX.2 ⟨k,h1⟩,h2,h3,h4,h5,h6,fun i hi=>by cases hi⟩
   |none=>exact h.elim
   |bL=>exact h.elim
   |tok _ _ _=>exact h.elim
   |bt _=>exact h.elim
  |_=>exact k.elim
 |jF l p=>
  cases go' with
  |jF l' p'=>
   obtain ⟨rfl,rfl⟩:=k;cases ro <;> exact h
  |_=>exact k.elim
 |bF es sz e=>
  cases go' with
  |bF es' cL e'=>
   obtain ⟨rfl,rfl,k,kc⟩:=k;cases ro with
   |cu b=>exact h.elim
   |none=>exact h.elim
   |bt _=>exact h.elim
   |bL=>
    have he:es'=[]:=h;subst he;exact List.eq_nil_of_length_eq_zero k.length.symm
   |tok f b c=>
    obtain ⟨TZ,h0,h1,cur,vs,h2,h3,h4,h5,h6,h7,h8,h9⟩:=h;obtain ⟨k1,k2,k3⟩:=Dd k h1 kc;exact ⟨TZ,h0.trans k.length,k1,cur,vs,h2,h3,h4,h5,h6,(k2.rel h7).move (uk R n) k3,h8,h9⟩
  |_=>exact k.elim
 |_=>cases go' <;> exact k.elim
theorem vB.ids:∀ {l:List Nat} {ds:List Deferred},vB R l ds→∀ id∈l,id < R.obj.length
 |[],[],_,id,hi=>by simp at hi
 |x :: l,d :: ds,h,id,hi=>by
  obtain ⟨⟨b,h1,_⟩,h2⟩:=h;rcases aaP.1 hi with rfl|hi
  ·exact bA h1
  ·exact vB.ids h2 id hi
 |[],_ :: _,h,_,_=>h.elim
 |_ :: _,[],h,_,_=>h.elim
theorem vB.cut {n:Nat}:∀ {l:List Nat} {ds:List Deferred},vB R l ds→(∀ id∈l,id < n)→vB (R.cut n) l ds
 |[],[],_,_=>trivial
 |x :: l,d :: ds,h,hi=>by
  obtain ⟨⟨b,h1,h3⟩,h2⟩:=h;exact ⟨⟨b,kX.2 ⟨hi x (by simp),h1⟩,h3⟩,vB.cut h2 fun id hm=>hi id (by simp [hm])⟩
 |[],_ :: _,h,_=>h.elim
 |_ :: _,[],h,_=>h.elim
theorem AD {n:Nat} {tmps:Array Value} {af base:bp} (hT:tE R w β af tmps):∀ {l:List (Tmp × Nat × Nat)},Na af l=true→tE (R.cut n) w β base tmps→tE (R.cut n) w β (uj l base) tmps
 |[],_,h=>h
 |(t,k,o) :: l,hl,h=>fun i hi=>by
  simp only [Na,aae] at hl;simp only [uj] at hi ⊢;by_cases e:t=i
  ·subst e;rw [aG];have h1:=hl.1;split at h1
   ·rename_i k' o' hk;rw [aae] at h1;have e1:=aal h1.1;have e2:=aal h1.2;subst e1 e2;obtain ⟨c,q1,q2⟩:=hT t (by rw [hk]; simp);rw [hk] at q2;exact ⟨c,q1,q2⟩
   ·cases h1
  ·rw [aX e] at hi ⊢;exact AD hT hl.2 h i hi
theorem cr.Zu {t:cr} {v:t.ps.T} (hs:aP s s') (h0:bk E R w β s a) (h:bk E R' w' β' s' a') (st:Ext R w R' w') (hd:t.dec s s'=some v) :
  bk E (R'.cut s.G.length) w' β' (t.st s v) a'∧Ext R w (R'.cut s.G.length) w'∧∀ k cs,eJ (t.st s v).boxes k=some cs→∃ gr,eJ s'.boxes k=some gr:=by
 have hlen:=h0.g.len;unfold cr.dec at hd;cases gJ:t.ok s s' with
 |false=>rw [gJ] at hd; cases hd
 |true=>
 rw [gJ] at hd;simp only [cond_true] at hd;unfold cr.ok at gJ;simp only [aae] at gJ;obtain ⟨⟨⟨⟨⟨k1,k2⟩,k3⟩,k4⟩,k5,k7,k8⟩,k6⟩:=gJ;obtain ⟨pre,IQ⟩:=hs.sl;obtain ⟨preB,XA⟩:=hs.bx;rw [IQ,I1] at k1;rw [XA,I1] at k2;have k3:=Nb k3;have k4:=aal k4;split at hd
 ·rename_i la lb lc g1 g2 g3;cases hv:t.ps.Pf (oQ t.g lc) (la++(lb++lc)) with
  |none=>rw [hv] at hd; cases hd
  |some v'=>
  rw [hv] at hd;simp only [Option.bind_some] at hd;cases T1:fu (t.vC v') t.g s.G s'.G with
  |false=>rw [T1] at hd; cases hd
  |true=>
  rw [T1] at hd;cases hd;have lsl:∀ {ts:List Tmp} {l:List AV},C5 s'.af ts=some l→l.length=ts.length:=by
   intro ts
   induction ts with
   |nil=>intro l hl; simp only [C5] at hl; cases hl; rfl
   |cons t ts ih=>
    intro l hl;unfold C5 at hl;split at hl
    ·split at hl
     ·rename_i hr;cases hl;simp [ih hr]
     ·cases hl
    ·cases hl
  have lbx:∀ {bx:List (Nat × Nat)} {l:List AV},C6 s'.boxes bx=some l→l.length=G9 bx:=by
   intro bx
   induction bx with
   |nil=>intro l hl; simp only [C6] at hl; cases hl; rfl
   |cons x bx ih=>
    obtain ⟨k,m⟩:=x;intro l hl;unfold C6 at hl;split at hl
    ·split at hl
     ·rename_i cs _ _ r hr;cases hm:aas cs.length m with
      |false=>rw [hm] at hl; cases hl
      |true=>
       rw [hm] at hl;cases hl;simp only [G9,List.length_append,ih hr,aal hm]
     ·cases hl
    ·cases hl
  obtain ⟨hw,hex⟩:=t.ps.U0 _ hv;have XB:t.vC v=t.ps.oP (oQ t.g lc) v:=by
   unfold cr.vC;congr 1;funext i;have hl:=hex.aec.trans (t.ps.uh (oQ t.g lc) (fun _=>0) v);have UT:=(hl.drop t.sl.length).drop (G9 t.bx);rw [← lsl g1,aaA,← lbx g2,aaA,lsl g1,lbx g2] at UT;exact (eD t.g i UT).symm
  have hu:aR s.G.length (t.vC v)=true:=by
   rw [XB,t.ps.Pg _ hv];exact t.ps.LD _ k5 _
  rw [← XB] at hw hex;have hvs:∃ xa xb xc,t.vC v=xa++(xb++xc)∧dM la xa∧dM lb xb∧dM lc xc∧xa.length=la.length∧xb.length=lb.length∧Qo lc xc:=by
   obtain ⟨xa,r,h1,h2,h3,h4⟩:=hw.split;obtain ⟨xb,xc,rfl,h6,h7,h8⟩:=h3.split;rw [h1] at hex;obtain ⟨ya,yr,g1,_,g3,g4⟩:=hex.split;obtain ⟨_,rfl⟩:=aa0 g1 (by rw [h4,g4]);obtain ⟨yb,yc,k1,_,k3,k4⟩:=g3.split;obtain ⟨_,rfl⟩:=aa0 k1 (by rw [h8,k4]);exact ⟨xa,xb,xc,h1,h2,h6,h7,h4,h8,k3⟩
  obtain ⟨xa,xb,xc,hx,wa,wb,wc,la1,lb1,exc⟩:=hvs;have hu':aR s.G.length xa=true∧aR s.G.length xb=true∧aR s.G.length xc=true:=by
   rw [hx,iH,iH] at hu;simp only [aae] at hu;exact ⟨hu.1,hu.2.1,hu.2.2⟩
  have e1:(t.vC v).drop t.sl.length=xb++xc:=by rw [hx,← lsl g1,← la1,aaA]
  have e2:(xb++xc).drop (G9 t.bx)=xc:=by rw [← lbx g2,← lb1,aaA]
  have yX:Db s.G.length t.g xc:=by
   have hf:=((aU.I3 s.G.length _ t.ps v).drop t.sl.length).drop (G9 t.bx) (l:=(t.vC v).drop t.sl.length);rw [e1,e2] at hf;exact iZ t.g k7 hf
  have old:∀ {l:List AV} {cs:List Value},aW R w l cs→aR s.G.length l=true:=fun hr=>hr.under (by omega)
  have mv:=uk R' s.G.length;have hbx:∀ k cs,eJ s'.boxes k=some cs→Da R' w' β' k cs:=fun k cs hk=>h.b.box k cs hk
  have bok:∀ k cs,eJ (AA t.bx (xb++xc) s.boxes) k=some cs→Da (R'.cut s.G.length) w' β' k cs∧∃ gr,eJ s'.boxes k=some gr:=fun k cs hk=>by
   refine I2 (K:=fun _=>False) hbx g2 wb hu'.2.1 (fun k cs _ h1 h2=>?_) k cs (fun h=>h) hk;refine ⟨by rw [XA]; exact I0 h1 h2 k2,?_⟩;obtain ⟨⟨vs,el,_,h4,_⟩,_⟩:=h0.b.box k cs h2;exact old h4
  have stG:(t.st s v).G=fg (t.vC v) t.g s.G xc:=by simp only [cr.st,e1,e2]
  have stB:(t.st s v).boxes=AA t.bx (xb++xc) s.boxes:=by simp only [cr.st,e1]
  have stS:(t.st s v).af=uj t.lps (ui t.sl (xa++(xb++xc)) (C7 t.W s.af)):=by simp only [cr.st,hx]
  have ext:Ext R w (R'.cut s.G.length) w':=⟨st.I,st.cell,fun id ro hi=>by
   obtain ⟨qM,h1,h2⟩:=st.obj id ro hi;exact ⟨qM,kX.2 ⟨by have:=bA hi; omega,h1⟩,h2⟩,st.lp⟩
  refine ⟨⟨⟨?_,fun id go ro h1 h2=>?_,fun i j ri rj b h1 h2=>h.g.inj i j ri rj b (kX.1 h1).2 (kX.1 h2).2,h.g.wf,fun g cs hg=>(h.g.fm g cs hg).move mv (ee _ (E.Gt g cs hg)),h.g.lo⟩,?_,?_,?_,?_⟩,ext,fun k cs hk=>?_⟩
  ·rw [stG,eC,k4];have:=h.g.len;have h3:s.G.length≤R'.obj.length:=by
    rcases Nat.lt_or_ge R'.obj.length s.G.length with cI|Fc
    ·exfalso;have hx:R'.obj.length < R.obj.length:=by omega
     obtain ⟨qM,h1,_⟩:=st.obj R'.obj.length R.obj[R'.obj.length] (by rw [bg]; exact aaT hx);have:=bA h1;omega
    ·exact Fc
   simp [aj.cut];omega
  ·rw [stG] at h1;obtain ⟨go',h3,h4⟩:=ka g3 wc exc ⟨yX,k8⟩ hu'.2.2 T1 id go h1;rcases h4 with h4|⟨Ql,h5,h4⟩
   ·exact (h.g.obj id go' ro h3 (kX.1 h2).2).gok h4
   ·have cI:=bA h5;rw [← hlen] at cI;obtain ⟨Xz,h6⟩:∃ Xz,nth R.obj id=some Xz:=⟨R.obj[id],by rw [bg]; exact aaT cI⟩;obtain ⟨qM,h7,h8⟩:=ext.obj id Xz h6;have:qM=ro:=Option.some.inj (h7.symm.trans h2);subst this;exact jw.lok ext (h0.g.obj id Ql Xz h5 h6) h8 (h.g.obj id go' qM h3 (kX.1 h2).2) h4
  ·rw [stB];refine ⟨fun k cs hk=>(bok k cs hk).1,fun k k' cs gr hk kT he=>?_⟩;obtain ⟨_,c1,UL⟩:=bok k cs hk;obtain ⟨_,c2,O5⟩:=bok k' gr kT;exact h.b.inj k k' c1 c2 UL O5 he
  ·rw [stS];have hT:C8 (R'.cut s.G.length) w' β' (fun _=>False) (ui t.sl (xa++(xb++xc)) (C7 t.W s.af)) a'.tmps:=by
    refine AB mv h.t g1 (l':=xa) (r:=lb++lc) (r':=xb++xc) (wa.append (wb.append wc)) la1.symm hu'.1 (C9 fun i hi hn=>?_);have hi1:inK t.sl t.W i=false:=by
     simp only [inK,Bool.or_eq_false_iff];refine ⟨?_,?_⟩
     ·cases hc:HV t.sl i with
      |false=>rfl
      |true=>exact absurd (.inr (.inl (Ha.1 hc))) hi
     ·cases hc:HV t.W i with
      |false=>rfl
      |true=>exact absurd (.inl (Ha.1 hc)) hi
    have hk:=Hc hi1 k1;rw [← IQ] at hk;obtain ⟨c,h1,h2⟩:=h.t i (by rw [hk]; exact hn);rw [hk] at h2;refine ⟨c,h1,?_⟩;obtain ⟨c0,_,h4⟩:=h0.t i hn;revert h2 h4;cases lk s.af i with
    |none=>exact fun _ _=>trivial
    |lp k off=>exact fun h2 _=>h2
    |v x=>exact fun h2 h4=>Rel.move mv (Rel.under (by omega) h4) h2
   exact AD h.t k6 (fun i hi=>hT i (fun h=>h) hi)
  ·show a'.tmps.size=s.n;rw [h.n,hs.n]
  ·show vB _ s.marks a'.defers;have:=h.d;rw [k3] at this;exact this.cut fun id bV=>by have:=h0.d.ids id bV; omega
  ·rw [stB] at hk;exact (bok k cs hk).2
 ·cases hd
theorem cr.HT {t:cr} {v:t.ps.T} (hs:aP s s') (h0:bk E R w β s a) (h:bk E R' w' β' s' a') (st:Step R w β s.boxes R' w' β' s'.boxes) (hd:t.dec s s'=some v) :
  bk E (R'.cut s.G.length) w' β' (t.st s v) a'∧Step R w β s.boxes (R'.cut s.G.length) w' β' (t.st s v).boxes:=by
 obtain ⟨h1,h2,h3⟩:=cr.Zu hs h0 h st.ext hd;refine ⟨h1,h2,st.os,st.tape,st.output,st.size,st.bh,fun b hb ho=>st.own b hb ?_,st.im⟩;rcases ho with ho|⟨k,cs,hk,rfl⟩
 ·exact .inl (uo ho)
 ·obtain ⟨c1,UL⟩:=h3 k cs hk;exact .inr ⟨k,c1,UL,rfl⟩
end HT
end Go.Am
namespace Go.Am
open Go
def ib:bp→bp
 |[]=>[]
 |.put d (.lp _ _) :: l=>.put d .none :: ib l
 |.put d x :: l=>.put d x :: ib l
 |.kill _ :: l=>ib l
def SV.ET:SV→SV
 |.lp _ _=>.none
 |x=>x
theorem vf (t:Nat):∀ l:bp,lk (ib l) t=(lk l t).ET
 |[]=>rfl
 |.put d x :: l=>by
  cases x <;> simp only [ib] <;> by_cases e:d=t <;> first | (subst e; rw [aG,aG]; rfl) | (rw [aX e,aX e]; exact vf t l)
 |.kill d :: l=>by
  simp only [ib,lk];rw [vf t l];cases lk l t with
  |lp k off=>
   by_cases e:k=d
   ·subst e; simp [SV.ET]
   ·simp [rW e,SV.ET]
  |_=>rfl
theorem nX:∀ l:bp,MG (ib l)=true
 |[]=>rfl
 |.put d x :: l=>by
  cases x <;> simp only [ib,MG] <;> exact nX l
 |.kill d :: l=>by simp only [ib]; exact nX l
def rfQ (E:Env) (Q:Exit→St→Prop) (s:St) (G':List GO):Prop:=
 match nth G' (s.G.length+1) with
 |some (.loop busy pending _ _ _ _ _ _ _ done)=>(busy=false∨done=true) ∧
  match pending with
  |none=>Q .normal ⟨s.af,s.boxes,aE G' (s.G.length+1) .dead,s.G.length :: s.marks,s.ro,s.n⟩
  |some c=>gY E c Q ⟨s.af,s.boxes,aE G' (s.G.length+1) .dead,s.G.length :: s.marks,s.ro,s.n⟩
 |_=>False
theorem De {busy done:Bool} (h:busy=false∨done=true):(if done=true then LoopState.done else if busy=true then acG else LoopState.ready)≠acG:=by
 rcases h with rfl|rfl
 ·cases done <;> simp
 ·simp
theorem gY.rangeFunc {E:Env} {Q:Exit→St→Prop} {s:St} (fp:Nat) {g:Operand} {ps:Array Tmp} {assign body:Code} (bD:s.ro=none) {f:FuncId} {first cap:List AV} (hg:bJ E s.af g=.v (.fn f first cap))
  (h:dT E f (first++[.yield (s.G.length+1)]++cap) (s.G++[.defers true]++[.loop false none fp (ib s.af) s.n ps.toList assign body s.G.length false]) (fun _ G'=>rfQ E Q s G')) :
  gY E (.rangeFunc g ps assign body) Q s:=fun R w β a F hr hf=>by
 rw [bD] at hf;have hf':F=aay:=hf;subst hf';refine wpIn_rangeFunc fun fn _=>?_
 have rg:=aY hr g;rw [hg] at rg;have rg':Rel R w (.fn f first cap) (a.eval g):=rg
 -- the block for the deferred calls
 have hd1:jw (R.add (.cu w.heap.size)) (w.alloc (.deferred (some []))) (.defers true) (.cu w.heap.size):=heap_alloc_new w _;have h1:=hr.oE (.deferred (some [])) (.defers true) (.cu w.heap.size) (by exact fun _ h=>h) hd1;have s1:=dP hr (.deferred (some [])) (.cu w.heap.size) (by exact fun _ h=>h);have gX:(w.alloc (.deferred (some []))).heap.size=w.heap.size+1:=by simp
 generalize hw1:w.alloc (.deferred (some []))=w1 at *;generalize hR1:R.add (.cu w.heap.size)=R1 at *
 -- the loop's record
 let nw:Loop:={ state:=.ready,pending:=none,fn:=fn,tmps:=a.tmps,params:=ps,assign:=assign,body:=body,defers:=w.heap.size }
 have QW:nth R1.obj s.G.length=some (.cu w.heap.size):=by rw [← hR1]; exact iW hr _
 have e2:Ext R1 w1 (R1.add (.cu w1.heap.size)) (w1.alloc (.loop nw)):=jx h1.g.wf _ _;have Y7:jw (R1.add (.cu w1.heap.size)) (w1.alloc (.loop nw)) (.loop false none fp (ib s.af) s.n ps.toList assign body s.G.length false) (.cu w1.heap.size):=by
  refine ⟨⟨nw,w.heap.size,heap_alloc_new w1 _,rfl,rfl,fun i hi=>?_,hr.n,by simp [nw],rfl,rfl,rfl,e2.cu QW⟩,nX _⟩;rw [vf] at hi ⊢;have du:lk s.af i≠.none:=fun e=>hi (by rw [e]; rfl)
  obtain ⟨c,k1,k2⟩:=hr.t i du;refine ⟨c,k1,?_⟩;cases hx:lk s.af i with
  |none=>exact absurd hx du
  |lp k off=>rw [hx] at hi; exact absurd rfl hi
  |v x=>
   rw [hx] at k2;exact Rel.mono (s1.ext.trans e2) (show Rel R w x c from k2)
 have h2:=h1.oE (.loop nw) (.loop false none fp (ib s.af) s.n ps.toList assign body s.G.length false) (.cu w1.heap.size) (by exact fun _ h=>h) Y7;have s2:=dP h1 (.loop nw) (.cu w1.heap.size) (by exact fun _ h=>h);have Rv:nth (R1.add (.cu w1.heap.size)).obj (s.G.length+1)=some (.cu w1.heap.size):=by
  have:=iW h1 (.cu w1.heap.size);simpa [St.fq] using this
 have st:=s1.trans s2;generalize hR2:R1.add (.cu w1.heap.size)=R2 at *;generalize Ze:a.eval g=fv at rg';cases rg' with
 | @fn _ _ _ vs us q1 q2=>
 refine ⟨w.heap.size+1,[{ target:=.collected w.heap.size,args:=#[] }],w1.alloc (.loop nw),{ target:=.fn (.func f) ⟨us⟩,args:=⟨vs⟩++#[.func (.yield (w.heap.size+1)) #[] #[]] },w1.alloc (.loop nw),f,
  ⟨vs++[.func (.yield (w.heap.size+1)) #[] #[]]++us⟩,w1.alloc (.loop nw),?_,?_,?_,?_,?_,?_⟩
 ·have:aay.round=none:=rfl;rw [this,run_enterLoop_outer,hw1]
 ·simp only [resolve,Ze,acg,Sem.run_pure];simp [Act.eval]
 ·intro f' _;exact trivial
 ·have:=sr (P:=E.P) h.1 (⟨vs++[.func (.yield (w.heap.size+1)) #[] #[]]++us⟩) (w1.alloc (.loop nw));simpa [invoke] using this
 ·intro hc; cases hc
 ·have hG:(s.fq (.defers true)).fq (.loop false none fp (ib s.af) s.n ps.toList assign body s.G.length false)=s.cj (s.G++[.defers true]++[.loop false none fp (ib s.af) s.n ps.toList assign body s.G.length false]):=rfl;have hyl:Rel R2 (w1.alloc (.loop nw)) (.yield (s.G.length+1)) (.func (.yield (w.heap.size+1)) #[] #[]):=by
   rw [← gX];exact .yield Rv
  refine (h.2 R2 (w1.alloc (.loop nw)) _ h2.g ((((q1.mono st.ext).append (.one hyl)).append (q2.mono st.ext)))).mono ?_;intro e w3 he;cases e with
  |panicked c=>exact he.elim
  |outgrown=>exact he.elim
  |returned c=>
   obtain ⟨r,G',R3,hQ,fT,hg3,U4⟩:=he;obtain ⟨p1,p2⟩:=h2.uV hg3 U4;unfold rfQ at hQ;split at hQ
   ·rename_i busy pending ff sl nn pp wG bd dd done Hd;obtain ⟨hbd,hQ⟩:=hQ;have Rw:nth R3.obj (s.G.length+1)=some (.cu w1.heap.size):=U4.ext.cu Rv;obtain ⟨⟨r3,db,l1,l2,l3,_,_,_,_,_,_,_⟩,_⟩:=p1.g.obj _ _ _ Hd Rw;have LF:r3.state≠.busy:=by rw [l2]; exact De hbd
    have l1':w3.heap[w.heap.size+1]?=some (.loop r3):=by rw [← gX]; exact l1
    refine ⟨r3.pending,_,run_endLoop l1' LF,?_⟩;rw [l3]
    -- the record is dead
    have aei:nth R3.obj s.G.length=some (.cu w.heap.size):=U4.ext.cu (by rw [← hR2] at e2 ⊢; exact e2.cu QW);have key:∀ x:Obj,sh x→(∀ r,Obj.loop r3=.loop r→∃ r',x=.loop r'∧tC r r')→bk E R3 (World.put w3 w1.heap.size x) β ⟨s.af,s.boxes,aE G' (s.G.length+1) .dead,s.G.length :: s.marks,s.ro,s.n⟩ { a with defers:=[{ target:=.collected w.heap.size,args:=#[] }]++a.defers }∧Step R w β s.boxes R3 (World.put w3 w1.heap.size x) β s.boxes:=fun x hx hlx=>by
     obtain ⟨z1,z2⟩:=p1.setObj (x':=x) (go':=.dead) Rw l1 trivial hx hlx (show w1.heap.size < _ by simp [World.put]; exact bE l1);exact ⟨⟨z1.g,z1.b,z1.t,z1.n,⟨⟨w.heap.size,aei,rfl⟩,z1.d⟩⟩,(st.trans p2).trans z2⟩
    obtain ⟨z1,z2⟩:=key (.loop { r3 with state:=.exhausted,pending:=pending }) trivial (fun r e=>⟨_,rfl,by cases e; exact ⟨rfl,rfl,rfl,rfl,rfl⟩⟩);rw [gX] at z1 z2;cases pending with
    |none=>exact ⟨_,R3,β,hQ,z1,z2,rfl⟩
    |some c=>
     refine wpIn_mono (hQ R3 _ β _ aay z1 (by show cw R3 s.ro aay; rw [bD]; rfl)) ?_;rintro e a'' Us ⟨GJ,QD,Xq,Q9,CE,vN,As⟩;exact ⟨GJ,QD,Xq,Q9,CE,z2.trans vN,As⟩
   ·exact hQ.elim
def Zv (E:Env) (Q:Exit→St→Prop) (s:St) (G':List GO):Prop:=
 match nth G' s.G.length with
 |some (.loop busy pending _ _ _ _ _ _ _ done)=>(busy=false∨done=true) ∧
  match pending with
  |none=>Q .normal ⟨s.af,s.boxes,aE G' s.G.length .dead,s.marks,s.ro,s.n⟩
  |some c=>gY E c Q ⟨s.af,s.boxes,aE G' s.G.length .dead,s.marks,s.ro,s.n⟩
 |_=>False
theorem gY.LG {E:Env} {Q:Exit→St→Prop} {s:St} (fp:Nat) {g:Operand} {ps:Array Tmp} {assign body:Code} {id:Nat} (bD:s.ro=some id)
  {bu0:Bool} {p0:Option Code} {fn0:FuncId} {sl0:bp} {n0:Nat} {ps0:List Tmp} {as0 bd0:Code} {d0:Nat} {dn0:Bool} (bV:nth s.G id=some (.loop bu0 p0 fn0 sl0 n0 ps0 as0 bd0 d0 dn0))
  {f:FuncId} {first cap:List AV} (hg:bJ E s.af g=.v (.fn f first cap))
  (h:dT E f (first++[.yield s.G.length]++cap) (s.G++[.loop false none fp (ib s.af) s.n ps.toList assign body d0 false]) (fun _ G'=>Zv E Q s G')) :
  gY E (.rangeFunc g ps assign body) Q s:=fun R w β a F hr hf=>by
 rw [bD] at hf;obtain ⟨b0,Rx,hF⟩:=hf;subst hF;obtain ⟨⟨r0,db0,x1,x2,x3,x4,x5,x6,x7,x8,x9,x10⟩,x11⟩:=hr.g.obj _ _ _ bV Rx;refine wpIn_rangeFunc fun fn _=>?_
 have rg:=aY hr g;rw [hg] at rg;have rg':Rel R w (.fn f first cap) (a.eval g):=rg
 -- the loop's record
 let nw:Loop:={ state:=.ready,pending:=none,fn:=fn,tmps:=a.tmps,params:=ps,assign:=assign,body:=body,defers:=r0.defers }
 have e2:Ext R w (R.add (.cu w.heap.size)) (w.alloc (.loop nw)):=jx hr.g.wf _ _;have Y7:jw (R.add (.cu w.heap.size)) (w.alloc (.loop nw)) (.loop false none fp (ib s.af) s.n ps.toList assign body d0 false) (.cu w.heap.size):=by
  refine ⟨⟨nw,db0,heap_alloc_new w _,rfl,rfl,fun i hi=>?_,hr.n,by simp [nw],rfl,rfl,x9,e2.cu x10⟩,nX _⟩;rw [vf] at hi ⊢;have du:lk s.af i≠.none:=fun e=>hi (by rw [e]; rfl)
  obtain ⟨c,k1,k2⟩:=hr.t i du;refine ⟨c,k1,?_⟩;cases hx:lk s.af i with
  |none=>exact absurd hx du
  |lp k off=>rw [hx] at hi; exact absurd rfl hi
  |v x=>
   rw [hx] at k2;exact Rel.mono e2 (show Rel R w x c from k2)
 have h2:=hr.oE (.loop nw) (.loop false none fp (ib s.af) s.n ps.toList assign body d0 false) (.cu w.heap.size) (by exact fun _ h=>h) Y7;have st:=dP hr (.loop nw) (.cu w.heap.size) (by exact fun _ h=>h);have Rv:nth (R.add (.cu w.heap.size)).obj s.G.length=some (.cu w.heap.size):=iW hr _;generalize hR2:R.add (.cu w.heap.size)=R2 at *;generalize Ze:a.eval g=fv at rg';cases rg' with
 | @fn _ _ _ vs us q1 q2=>
 refine ⟨w.heap.size,[],w.alloc (.loop nw),{ target:=.fn (.func f) ⟨us⟩,args:=⟨vs⟩++#[.func (.yield w.heap.size) #[] #[]] },w.alloc (.loop nw),f,
  ⟨vs++[.func (.yield w.heap.size) #[] #[]]++us⟩,w.alloc (.loop nw),?_,?_,?_,?_,?_,?_⟩
 ·have:(aay.inRound b0).round=some b0:=rfl;rw [this];exact run_enterLoop_inner x1 _ _ _ _ _
 ·simp only [resolve,Ze,acg,Sem.run_pure];simp [Act.eval]
 ·intro f' _;exact trivial
 ·have:=sr (P:=E.P) h.1 (⟨vs++[.func (.yield w.heap.size) #[] #[]]++us⟩) (w.alloc (.loop nw));simpa [invoke] using this
 ·intro hc; cases hc
 ·have hyl:Rel R2 (w.alloc (.loop nw)) (.yield s.G.length) (.func (.yield w.heap.size) #[] #[]):=.yield Rv;have FF:=(h.2 R2 (w.alloc (.loop nw)) _ h2.g ((((q1.mono st.ext).append (.one hyl)).append (q2.mono st.ext))));refine CallsIn.mono (F:=aay.inRound b0) FF ?_;intro e w3 he;cases e with
  |panicked c=>exact he.elim
  |outgrown=>exact he.elim
  |returned c=>
   obtain ⟨r,G',R3,hQ,fT,hg3,U4⟩:=he;obtain ⟨p1,p2⟩:=h2.uV hg3 U4;unfold Zv at hQ;split at hQ
   ·rename_i busy pending ff sl nn pp wG bd dd done Hd;obtain ⟨hbd,hQ⟩:=hQ;have Rw:nth R3.obj s.G.length=some (.cu w.heap.size):=U4.ext.cu Rv;obtain ⟨⟨r3,db,l1,l2,l3,_,_,_,_,_,_,_⟩,_⟩:=p1.g.obj _ _ _ Hd Rw;have LF:r3.state≠.busy:=by rw [l2]; exact De hbd
    refine ⟨r3.pending,_,run_endLoop l1 LF,?_⟩;rw [l3];have key:∀ x:Obj,sh x→(∀ r,Obj.loop r3=.loop r→∃ r',x=.loop r'∧tC r r')→bk E R3 (World.put w3 w.heap.size x) β ⟨s.af,s.boxes,aE G' s.G.length .dead,s.marks,s.ro,s.n⟩ { a with defers:=[]++a.defers }∧Step R w β s.boxes R3 (World.put w3 w.heap.size x) β s.boxes:=fun x hx hlx=>by
     obtain ⟨z1,z2⟩:=p1.setObj (x':=x) (go':=.dead) Rw l1 trivial hx hlx (show w.heap.size < _ by simp [World.put]; exact bE l1);exact ⟨⟨z1.g,z1.b,z1.t,z1.n,z1.d⟩,(st.trans p2).trans z2⟩
    obtain ⟨z1,z2⟩:=key (.loop { r3 with state:=.exhausted,pending:=pending }) trivial (fun r e=>⟨_,rfl,by cases e; exact ⟨rfl,rfl,rfl,rfl,rfl⟩⟩);cases pending with
    |none=>exact ⟨_,R3,β,hQ,z1,z2,rfl⟩
    |some c=>
     refine wpIn_mono (hQ R3 _ β _ (aay.inRound b0) z1 (by show cw R3 s.ro _; rw [bD]; exact ⟨b0,U4.ext.cu (e2.cu Rx),rfl⟩)) ?_;rintro e a'' Us ⟨GJ,QD,Xq,Q9,CE,vN,As⟩;exact ⟨GJ,QD,Xq,Q9,CE,z2.trans vN,As⟩
   ·exact hQ.elim
def LH (id:Nat) (Q:Bool→List GO→Prop):Exit→St→Prop:=fun e s=>match nth s.G id with
 |some (.loop _ _ fn sl n ps wG bd d _)=>match e with
  |.normal=>Q true (aE s.G id (.loop false none fn sl n ps wG bd d false))
  |.ret=>Q false (aE s.G id (.loop false (some .ret) fn sl n ps wG bd d true))
  |.exit i=>Q false (aE s.G id (.loop false (some (.exit i)) fn sl n ps wG bd d true))
  |_=>False
 |_=>False
def He (E:Env) (id:Nat) (body:Code) (Q:Bool→List GO→Prop):Exit→St→Prop:=fun e s=>match e with
 |.normal=>match nth s.G id with
  |some (.loop false p fn sl n ps wG bd d false)=>gY E body (LH id Q) (s.cj (aE s.G id (.loop true p fn sl n ps wG bd d false)))
  |_=>False
 |_=>False
def Df:List Tmp→List AV→bp→bp
 |t :: ts,a :: l,r=>Df ts l (.put t (.v a) :: r)
 |_,_,r=>r
def St.round (id:Nat) (af:bp) (n:Nat) (G:List GO):St:=⟨af,[],G,[],some id,n⟩
theorem Dg {R:aj} {w:World} {β:Nat→Nat}:∀ {ts:List Tmp} {l:List AV} {cs:List Value} {r:bp} {tmps:Array Value},tE R w β r tmps→aW R w l cs→l.length=ts.length→(∀ t∈ts,t < tmps.size) →
  tE R w β (Df ts l r) ((ts.zip cs).foldl (fun tmps (t,a)=>tmps.setIfInBounds t a) tmps)
 |[],[],_,_,_,h,.nil,_,_=>h
 |t :: ts,a :: l,c :: cs,r,tmps,h,.cons hx hl,hlen,ht=>by
  have gX:t < tmps.size:=ht t (by simp);simp only [Df,List.zip_cons_cons,List.foldl_cons];refine Dg ?_ hl (by simpa using hlen) (fun t' h'=>by simpa using ht t' (by simp [h']));have:=tE.put (a:={ tmps:=tmps,defers:=[] }) h (d:=t) (x:=.v a) (c:=c) gX hx;simpa [Act.put] using this
 |[],_ :: _,_,_,_,_,_,hlen,_=>by simp at hlen
 |_ :: _,[],_,_,_,_,_,hlen,_=>by simp at hlen
theorem LI (l:List (Tmp × Value)):∀ tmps:Array Value,(l.foldl (fun (tmps:Array Value) (x:Tmp × Value)=>tmps.setIfInBounds x.1 x.2) tmps).size=tmps.size:=by
 induction l with
 |nil=>intro _; rfl
 |cons x l ih=>intro tmps; rw [List.foldl_cons,ih]; simp
theorem oJ.intro {E:Env} {id:Nat} {args:List AV} {G:List GO} {Q:Bool→List GO→Prop} {fn:FuncId} {af:bp} {n:Nat} {ps:List Tmp} {assign body:Code} {d:Nat} {p:Option Code}
  (hG:nth G id=some (.loop false p fn af n ps assign body d false)) (hl:args.length=ps.length) (Qk:∀ t∈ps,t < n)
  (h:gY E assign (He E id body Q) (St.round id (Df ps args af) n G)):oJ E id args G Q:=fun R w cs b hg hr hb=>by
 obtain ⟨⟨r,db,l1,l2,l3,l4,l5,l6,l7,l8,l9,l10⟩,l11⟩:=hg.obj id _ _ hG hb;have hlen:=hr.length;refine ⟨r,l1,by rw [l6]; simp; omega,?_⟩;have ah2:Step R w (fun _=>0) jG R w (fun _=>0) jG:=Step.refl _ _ _ _;have ah3:bk E R w (fun _=>0) (St.round id (Df ps args af) n G) { tmps:=(r.params.zip ⟨cs⟩).foldl (fun tmps (t,a)=>tmps.setIfInBounds t a) r.tmps,defers:=[] }:=by
  have aej:(r.params.zip ⟨cs⟩).foldl (fun (tmps:Array Value) (x:Tmp × Value)=>tmps.setIfInBounds x.1 x.2) r.tmps=(ps.zip cs).foldl (fun (tmps:Array Value) (x:Tmp × Value)=>tmps.setIfInBounds x.1 x.2) r.tmps:=by
   rw [← Array.foldl_toList];simp [l6]
  refine ⟨hg,⟨fun k cs hk=>?_,fun k k' c c' hk=>?_⟩,?_,?_,trivial⟩
  ·simp [St.round,eJ] at hk
  ·simp [St.round,eJ] at hk
  ·show tE _ _ _ _ _;have:=Dg (ts:=ps) (l:=args) (cs:=cs) l4 hr hl (fun t ht=>by rw [l5]; exact Qk t ht);rw [← aej] at this;exact this
  ·show _=n;have:=LI (ps.zip cs) r.tmps;rw [← aej] at this;exact this.trans l5
 have UM:∀ (k:Nat) (cs:List AV),eJ (St.round id (Df ps args af) n G).boxes k≠some cs:=fun k cs hk=>by simp [St.round,eJ] at hk
 rw [l7,l8];refine roundIn_of_wpIn trivial (wpIn_mono (h R w (fun _=>0) _ (aay.inRound b) ah3 ⟨b,hb,rfl⟩) ?_);rintro e a1 w1 ⟨s1,R1,β1,hq,Kl,st1,ah4⟩;unfold He at hq;cases e with
 |normal=>
  simp only at hq;split at hq
  ·rename_i p' fn' sl' n' ps' U3 bd' d' hG1;have M1:nth R1.obj id=some (.cu b):=st1.ext.cu hb;obtain ⟨⟨r1,db1,m1,m2,m3,m4,m5,m6,m7,m8,m9,m10⟩,m11⟩:=Kl.g.obj id _ _ hG1 M1;refine ⟨_,run_beginRound m1 m2,?_⟩;obtain ⟨z1,z2⟩:=Kl.setObj (x':=.loop { r1 with state:=.busy }) (go':=.loop true p' fn' sl' n' ps' U3 bd' d' false) M1 m1 trivial trivial (fun r e=>⟨_,rfl,by cases e; exact ⟨rfl,rfl,rfl,rfl,rfl⟩⟩)
    ⟨⟨{ r1 with state:=.busy },db1,jT _ _ _ (bE m1),rfl,m3,m4.mono (si (x':=.loop { r1 with state:=.busy }) m1 trivial trivial (fun r e=>⟨_,rfl,by cases e; exact ⟨rfl,rfl,rfl,rfl,rfl⟩⟩)),m5,m6,m7,m8,m9,m10⟩,m11⟩
   refine wpIn_mono (hq R1 _ β1 a1 (aay.inRound b) z1 (by show cw R1 s1.ro _; rw [ah4]; exact ⟨b,M1,rfl⟩)) ?_;rintro e2 a2 w2 ⟨s2,R2,β2,nR,Fu,AE,Hf⟩;unfold LH at nR;split at nR
   ·rename_i bu2 p2 fn2 sl2 n2 ps2 as2 bd2 d2 dn2 hG2;have ael:=(st1.trans z2).trans AE;have O8:nth R2.obj id=some (.cu b):=ael.ext.cu hb;obtain ⟨⟨r2,db2,o1,o2,o3,o4,o5,o6,o7,o8,o9,eL⟩,vR⟩:=Fu.g.obj id _ _ hG2 O8;have fin:∀ (j:Option Code),GV E R w (fun b' G'=>G'=aE s2.G id (.loop false j fn2 sl2 n2 ps2 as2 bd2 d2 (!j.isNone))∧b'=j.isNone) (.returned (.bool j.isNone)) (w2.putObj b (.loop { r2 with state:=if j.isNone then .ready else .done,pending:=j })):=fun j=>by
     obtain ⟨y1,y2⟩:=Fu.setObj (x':=.loop { r2 with state:=if j.isNone then .ready else .done,pending:=j }) (go':=.loop false j fn2 sl2 n2 ps2 as2 bd2 d2 (!j.isNone)) O8 o1 trivial trivial (fun r e=>⟨_,rfl,by cases e; exact ⟨rfl,rfl,rfl,rfl,rfl⟩⟩)
      ⟨⟨{ r2 with state:=if j.isNone then .ready else .done,pending:=j },db2,jT _ _ _ (bE o1),by cases j <;> rfl,rfl,o4.mono (si (x':=.loop { r2 with state:=if j.isNone then .ready else .done,pending:=j }) o1 trivial trivial (fun r e=>⟨_,rfl,by cases e; exact ⟨rfl,rfl,rfl,rfl,rfl⟩⟩)),o5,o6,o7,o8,o9,eL⟩,vR⟩
     exact ⟨_,_,R2,⟨rfl,rfl⟩,rfl,y1.g,CI (ael.trans y2) UM⟩
    have mk:∀ (j:Option Code),Q j.isNone (aE s2.G id (.loop false j fn2 sl2 n2 ps2 as2 bd2 d2 (!j.isNone)))→∃ v w',(Instr.endRound b j).run E.P w2=.ok v w'∧GV E R w Q (.returned v) w':=fun j hQ=>by
     refine ⟨_,_,run_endRound j o1,?_⟩;obtain ⟨r',G',R',⟨h1,h2⟩,h3⟩:=fin j;subst h1; subst h2;exact ⟨_,_,R',hQ,h3⟩
    cases e2 with
    |normal=>exact mk none nR
    |ret=>exact mk (some .ret) nR
    |exit i=>exact mk (some (.exit i)) nR
    |_=>exact nR.elim
   ·exact nR.elim
  ·exact hq.elim
 |_=>exact hq.elim
end Go.Am
