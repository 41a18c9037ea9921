/- The abstract machine: what is asked of bodies; values are brought to a short form. -/
import Derived.Test.YtldcljfjjoidhaaGreatDoorAmKH
import Derived.RangeFuncIn
import Derived.RangeFuncRecord
set_option linter.all false
open Bool renaming and_eq_true→aad, and_true→abi
open Go.Fence renaming wide→abq
open Go.LoopState renaming busy→abC
open List renaming drop_left→abj, tail_cons→abn, cons_append→abo, mem_cons→abp, getElem?_eq_getElem→abr, append_inj→abt, take_left→abv
open Nat renaming eq_of_beq_eq_true→aao, beq→aau, lt_of_lt_of_le→aaB, not_lt_zero→aaO, blt→aaY, le_of_ble_eq_true→abu
namespace Go.Am
open Go
def bL (dt:Nat→Option af):Code→Bool
 |.region id ops true=>match dt id with
  |some p=>Ir ops p
  |none=>false
 |.seq x y=>bL dt x&&bL dt y
 |.cond _ x y=>bL dt x&&bL dt y
 |.block _ c=>bL dt c
 |.loop c=>bL dt c
 |.scope c=>bL dt c
 |.rangeFunc _ _ a b=>bL dt a&&bL dt b
 |_=>true
structure Lt extends Env where
 dt:FuncId→Nat→Option af
 okF:FuncId→Bool
 WT:∀ f fn c,okF f=true→P.funcs[f]?=some fn→fn.body=some c→bL (dt f) c=true
def kH {α:Type} (n:Nat) (K:Nat→α):α:=match n with
 |0=>K 0
 |m+1=>K (Nat.succ m)
def zX {α:Type} (n:Int) (K:Int→α):α:=match n with
 |.ofNat m=>kH m fun m=>K (.ofNat m)
 |.negSucc m=>kH m fun m=>K (.negSucc m)
def qM {α β:Type}:List β→(List β→α)→α
 |[],K=>K []
 |a :: l,K=>qM l fun l=>K (a :: l)
def DV {α:Type} (v:AV) (K:AV→α):α:=match v with
 |.int k n=>zX n fun n=>K (.int k n)
 |.bool true=>K (.bool true)
 |.bool false=>K (.bool false)
 |.list k sz es=>qM es fun es=>K (.list k sz es)
 |.str l=>qM l fun l=>K (.str l)
 |.lz id off sz len cap=>kH off fun off=>kH len fun len=>kH cap fun cap=>K (.lz id off sz len cap)
 |.ptr id off=>kH off fun off=>K (.ptr id off)
 |.agg cs=>qM cs fun cs=>K (.agg cs)
 |v=>K v
def DW {α:Type} (l:bk) (K:bk→α):α:=match l with
 |.put d (.v a) :: l=>DV a fun a=>K (.put d (.v a) :: l)
 |.put d (.lp k off) :: l=>kH off fun off=>K (.put d (.lp k off) :: l)
 |l=>K l
def DX {α:Type} (l:dc) (K:dc→α):α:=match l with
 |(d,cs) :: l=>qM cs fun cs=>K ((d,cs) :: l)
 |[]=>K []
def Is {α:Type} (s:St) (K:St→α):α:=match s with
 |⟨sl,bx,G,m,ro,n⟩=>DW sl fun sl=>DX bx fun bx=>qM G fun G=>K ⟨sl,bx,G,m,ro,n⟩
theorem qN {α:Type} (n:Nat) (K:Nat→α):kH n K=K n:=by cases n <;> rfl
theorem FL {α:Type} (n:Int) (K:Int→α):zX n K=K n:=by cases n <;> simp [zX,qN]
theorem rT {α β:Type}:∀ (l:List β) (K:List β→α),qM l K=K l
 |[],_=>rfl
 |a :: l,K=>by simp only [qM]; rw [rT]
theorem It {α:Type} (v:AV) (K:AV→α):DV v K=K v:=by
 unfold DV;split <;> simp [qN,FL,rT]
theorem Iu {α:Type} (l:bk) (K:bk→α):DW l K=K l:=by
 unfold DW;split <;> simp [qN,It]
theorem Iv {α:Type} (l:dc) (K:dc→α):DX l K=K l:=by
 unfold DX;split <;> simp [rT]
theorem Lu {α:Type} (s:St) (K:St→α):Is s K=K s:=by
 obtain ⟨sl,bx,G,m,ro,n⟩:=s;simp [Is,Iu,Iv,rT]
def DY:SV→SV→Bool
 |.v a,.v b=>fa a b
 |.lp k o,.lp k' o'=>aau k k'&&aau o o'
 |_,_=>false
def bRe (E:Env) (f:FuncId) (ops:List Oper) (o:Oper) (s:St):Bool:=match ES ops s o with
 |some true=>match o.dst,an E f s o with
  |some d,some (c,s')=>c&&DY (lk s'.ab d) (lk s.ab d)
  |_,_=>false
 |some false=>true
 |none=>false
section
variable {E:Env} {f:FuncId} {s:St}
theorem CL {a b:SV} (h:DY a b=true):a=b:=by
 unfold DY at h;split at h
 ·rw [kB h]
 ·simp only [aad,Nat.beq_eq] at h; rw [h.1,h.2]
 ·cases h
theorem CM {ops:List Oper} {o:Oper} (h:bRe E f ops o s=true):Ig E f ops o s:=by
 unfold bRe at h;unfold Ig;split at h
 ·rename_i hg;rw [hg];simp only;split at h
  ·rename_i d c s' hd hs;rw [aad] at h;obtain ⟨rfl,h⟩:=h;rw [hd,hs];exact ⟨rfl,CL h⟩
  ·cases h
 ·rename_i hg;rw [hg];trivial
 ·cases h
end
end Go.Am
namespace Go.Am
open Go
mutual
def AV.under (n:Nat):AV→Bool
 |.agg cs=>aI n cs
 |.bu cs=>aI n cs
 |.ep cs=>aI n cs
 |.list (.own id) _ _=>aaY id n
 |.list (.bF id _) _ _=>aaY id n
 |.fn _ x y=>aI n x&&aI n y
 |.iface _ v=>v.under n
 |.ptr id _=>aaY id n
 |.lz id _ _ _ _=>aaY id n
 |.dM id _ _ _ _=>aaY id n
 |.gp id _ _ _ _ _=>aaY id n
 |.map id=>aaY id n
 |.yield id=>aaY id n
 |_=>true
def aI (n:Nat):List AV→Bool
 |[]=>true
 |a :: l=>a.under n&&aI n l
end
mutual
theorem jQ (n:Nat):∀ {a:AV},a.closed=true→a.under n=true:=fun {a} h=>by
 cases a with
 |agg cs=>simp only [AV.closed,AV.under] at *; exact cN n h
 |bu cs=>simp only [AV.closed,AV.under] at *; exact cN n h
 |ep cs=>simp only [AV.closed,AV.under] at *; exact cN n h
 |list k sz es=>cases k <;> simp_all [AV.closed,AV.under,LK.closed]
 |fn f x y=>
  simp only [AV.closed,AV.under,aad] at *;exact ⟨cN n h.1,cN n h.2⟩
 |iface t v=>simp only [AV.closed,AV.under] at *; exact jQ n h
 |_=>simp_all [AV.closed,AV.under]
theorem cN (n:Nat):∀ {l:List AV},bg l=true→aI n l=true
 |[],_=>rfl
 |a :: l,h=>by
  simp only [bg,aI,aad] at *;exact ⟨jQ n h.1,cN n h.2⟩
end
theorem rU {a b:Nat} (h:aaY a b=true):a < b:=abu h
mutual
theorem nJ:∀ {a:AV},a.under 0=true→a.closed=true:=fun {a} h=>by
 cases a with
 |agg cs=>simp only [AV.closed,AV.under] at *; exact gb h
 |bu cs=>simp only [AV.closed,AV.under] at *; exact gb h
 |ep cs=>simp only [AV.closed,AV.under] at *; exact gb h
 |list k sz es=>cases k <;> first | rfl | (simp [AV.under] at h)
 |fn f x y=>
  simp only [AV.closed,AV.under,aad] at *;exact ⟨gb h.1,gb h.2⟩
 |iface t v=>simp only [AV.closed,AV.under] at *; exact nJ h
 |ptr id off=>simp only [AV.under] at h; exact absurd (rU h) (aaO _)
 |lz id off sz len cap=>simp only [AV.under] at h; exact absurd (rU h) (aaO _)
 |dM id f off sz len=>simp only [AV.under] at h; exact absurd (rU h) (aaO _)
 |gp id f i off sz t=>simp only [AV.under] at h; exact absurd (rU h) (aaO _)
 |map id=>simp only [AV.under] at h; exact absurd (rU h) (aaO _)
 |yield id=>simp only [AV.under] at h; exact absurd (rU h) (aaO _)
 |_=>rfl
theorem gb:∀ {l:List AV},aI 0 l=true→bg l=true
 |[],_=>rfl
 |a :: l,h=>by
  simp only [aI,bg,aad] at *;exact ⟨nJ h.1,gb h.2⟩
end
section move
variable {R R2:ak} {w:World} {n:Nat}
structure Mv (R R2:ak) (n:Nat):Prop where
 I:∀ b o,R.I b o→R2.I b o
 obj:∀ id ro,id < n→nth R.obj id=some ro→nth R2.obj id=some ro
theorem lm {a b:Nat} (h:aaY a b=true):a < b:=abu h
theorem mo {a b:Nat} (h:a < b):aaY a b=true:=Nat.ble_eq_true_of_le h
theorem Dx.move (m:Mv R R2 n) {k:LK} {b o len cap:Nat} (h:Dx R k b o len cap) (hk:∀ id,(k=.own id∨∃ j,k=.bF id j)→id < n):Dx R2 k b o len cap:=by
 cases k with
 |nil=>exact h
 |full=>exact h
 |lM=>trivial
 |own id=>obtain ⟨ro,h1,h2⟩:=h; exact ⟨ro,m.obj id ro (hk id (.inl rfl)) h1,h2⟩
 |bF id j=>obtain ⟨ro,h1,h2⟩:=h; exact ⟨ro,m.obj id ro (hk id (.inr ⟨j,rfl⟩)) h1,h2⟩
mutual
theorem Rel.move (m:Mv R R2 n):∀ {a:AV} {c:Value},a.under n=true→Rel R w a c→Rel R2 w a c
 |_,_,_,.bool b=>.bool b
 |_,_,_,.int k i=>.int k i
 |_,_,_,.str l=>.str l
 |_,_,hb,.agg h h1=>.agg (h.move m (by simpa [AV.under] using hb)) h1
 |_,_,hb,.bu h=>.bu (h.move m (by simpa [AV.under] using hb))
 |_,_,_,.jI=>.jI
 |_,_,hb,.ptr h=>.ptr (m.obj _ _ (lm (by simpa [AV.under] using hb)) h)
 |_,_,hb,.ep h=>.ep (h.move m (by simpa [AV.under] using hb))
 |_,_,_,.mb=>.mb
 |_,_,_,.j9=>.j9
 |_,_,_,.oW=>.oW
 |_,_,hb,.oa h ho=>.oa (m.obj _ _ (lm (by simpa [AV.under] using hb)) h) ho
 |_,_,hb,.oX h ho=>.oX (m.obj _ _ (lm (by simpa [AV.under] using hb)) h) ho
 |.list k sz es,_,hb,.list h hl hc hk=>.list (h.move m) hl hc (hk.move m fun id e=>by rcases e with e | ⟨j,e⟩ <;> subst e <;> exact lm (by simpa [AV.under] using hb))
 |_,_,hb,.lz h hc=>.lz (m.obj _ _ (lm (by simpa [AV.under] using hb)) h) hc
 |_,_,hb,.jX h ho=>.jX (m.obj _ _ (lm (by simpa [AV.under] using hb)) h) ho
 |_,_,hb,.dM h ho hc=>.dM (m.obj _ _ (lm (by simpa [AV.under] using hb)) h) ho hc
 |_,_,hb,.gp h ho=>.gp (m.obj _ _ (lm (by simpa [AV.under] using hb)) h) ho
 |_,_,_,.lX=>.lX
 |_,_,hb,.map h=>.map (m.obj _ _ (lm (by simpa [AV.under] using hb)) h)
 |_,_,_,.cY=>.cY
 |_,_,hb,.fn h h'=>.fn (h.move m (by simp only [AV.under,aad] at hb; exact hb.1)) (h'.move m (by simp only [AV.under,aad] at hb; exact hb.2))
 |_,_,hb,.yield h=>.yield (m.obj _ _ (lm (by simpa [AV.under] using hb)) h)
 |_,_,_,.qb=>.qb
 |_,_,hb,.iface h=>.iface (h.move m (by simpa [AV.under] using hb))
theorem aP.move (m:Mv R R2 n):∀ {l:List AV} {cs:List Value},aP R w l cs→aI n l=true→aP R2 w l cs
 |_,_,.nil,_=>.nil
 |_,_,.cons h t,hb=>by
  simp only [aI,aad] at hb;exact .cons (h.move m hb.1) (t.move m hb.2)
theorem iu.move (m:Mv R R2 n):∀ {b o sz:Nat} {l:List AV},iu R w b o sz l→iu R2 w b o sz l
 |_,_,_,_,.nil=>.nil
 |_,_,_,_,@iu.cons _ _ _ _ _ e _ hl ht hk h t=>.cons hl ht hk (h.move m (by
   cases e with
   |agg cs=>exact cN n (show bg cs=true by simpa [AV.closed] using hk)
   |bu cs=>simp [AV.ba] at ht
   |_=>simp only [AV.cells,aI,abi]; exact jQ n hk)) (t.move m)
theorem fk.move (m:Mv R R2 n):∀ {b o:Nat} {l:List AV},fk R w b o l→aI n l=true→fk R2 w b o l
 |_,_,_,.nil,_=>.nil
 |_,_,_,.cons hc h1 hi h t,hb=>by
  simp only [aI,aad] at hb;exact .cons hc h1 (m.I _ _ hi) (h.move m hb.1) (t.move m hb.2)
end
theorem lg.move {E:Env} (m:Mv R R2 n) {g:Nat} {cs:List AV} (h:lg E R w g cs) (hu:aI n cs=true):lg E R2 w g cs:=
 ⟨h.1.move m hu,fun hx=>⟨m.I _ _ (h.2 hx).1,(h.2 hx).2⟩⟩
mutual
theorem Rel.under (hn:R.obj.length≤n):∀ {a:AV} {c:Value},Rel R w a c→a.under n=true
 |_,_,.bool _ | _,_,.int _ _ | _,_,.str _ | _,_,.jI | _,_,.mb | _,_,.j9 | _,_,.oW | _,_,.lX | _,_,.cY | _,_,.qb=>by simp [AV.under]
 |_,_,.agg h _=>by simp only [AV.under]; exact h.under hn
 |_,_,.bu h=>by simp only [AV.under]; exact h.under hn
 |_,_,.ptr h=>by simp only [AV.under]; exact mo (aaB (cg h) hn)
 |_,_,.ep h=>by simp only [AV.under]; exact h.under hn
 |_,_,.oa h _=>by simp only [AV.under]; exact mo (aaB (cg h) hn)
 |_,_,.oX h _=>by simp only [AV.under]; exact mo (aaB (cg h) hn)
 |_,_,@Rel.list _ _ k _ _ _ _ _ _ _ _ _ hk=>by
  cases k with
  |own id=>obtain ⟨ro,h1,_⟩:=hk; simp only [AV.under]; exact mo (aaB (cg h1) hn)
  |bF id j=>obtain ⟨ro,h1,_⟩:=hk; simp only [AV.under]; exact mo (aaB (cg h1) hn)
  |_=>simp [AV.under]
 |_,_,.lz h _=>by simp only [AV.under]; exact mo (aaB (cg h) hn)
 |_,_,.jX h _=>by simp only [AV.under]; exact mo (aaB (cg h) hn)
 |_,_,.dM h _ _=>by simp only [AV.under]; exact mo (aaB (cg h) hn)
 |_,_,.gp h _=>by simp only [AV.under]; exact mo (aaB (cg h) hn)
 |_,_,.map h=>by simp only [AV.under]; exact mo (aaB (cg h) hn)
 |_,_,.fn h h'=>by simp only [AV.under,aad]; exact ⟨h.under hn,h'.under hn⟩
 |_,_,.yield h=>by simp only [AV.under]; exact mo (aaB (cg h) hn)
 |_,_,.iface h=>by simp only [AV.under]; exact h.under hn
theorem aP.under (hn:R.obj.length≤n):∀ {l:List AV} {cs:List Value},aP R w l cs→aI n l=true
 |_,_,.nil=>rfl
 |_,_,.cons h t=>by simp only [aI,aad]; exact ⟨h.under hn,t.under hn⟩
theorem fk.under (hn:R.obj.length≤n):∀ {b o:Nat} {l:List AV},fk R w b o l→aI n l=true
 |_,_,_,.nil=>rfl
 |_,_,_,.cons _ _ _ h t=>by simp only [aI,aad]; exact ⟨h.under hn,t.under hn⟩
end
end move
end Go.Am
namespace Go.Am
open Go
mutual
def aO.under (n:Nat):aO→Bool
 |.agg ps=>ps.under n
 |.bu ps=>ps.under n
 |.own id _ _=>aaY id n
 |.bF id _ _=>aaY id n
 |.dO v=>v.under n
 |.two u v=>u.under n&&v.under n
 |_=>true
def aQ.under (n:Nat):aQ→Bool
 |.nil=>true
 |.cons p ps=>p.under n&&ps.under n
end
mutual
theorem aO.eK {n:Nat}:∀ (p:aO) (x:p.T),p.under n=true→(p.enc x).under n=true
 |.int k,x,_=>by simp [aO.enc,AV.under]
 |.bool,x,_=>by simp [aO.enc,AV.under]
 |.str,x,_=>by simp [aO.enc,AV.under]
 |.agg ps,x,h=>by
  simp only [aO.enc,AV.under];exact ps.eK x h
 |.bu ps,x,h=>by
  simp only [aO.enc,AV.under];exact ps.eK x h
 |.list sz p,x,_=>by simp [aO.enc,AV.under]
 |.own id sz p,x,h=>by
  simp only [aO.enc,AV.under];exact h
 |.bF id sz p,x,h=>by
  simp only [aO.enc,AV.under];exact h
 |.dO v,x,h=>by
  simp only [aO.enc];exact h
 |.two u v,(x:Bool),h=>by
  simp only [aO.under,aad] at h;change AV.under n (bif x then v else u)=true;cases x
  ·exact h.1
  ·exact h.2
theorem aQ.eK {n:Nat}:∀ (ps:aQ) (x:ps.T),ps.under n=true→aI n (ps.enc x)=true
 |.nil,x,_=>rfl
 |.cons p .nil,x,h=>by
  simp only [aQ.under,abi] at h;simp only [aQ.enc,aI,abi];exact p.eK _ h
 |.cons p (.cons q ps),x,h=>by
  rw [aQ.under,aad] at h;simp only [aQ.enc,aI,aad];exact ⟨p.eK _ h.1,(aQ.cons q ps).eK _ h.2⟩
end
mutual
def AV.exact:AV→Bool
 |.bool _=>true
 |.int _ _=>true
 |.str _=>true
 |.agg cs=>ib cs
 |_=>false
def ib:List AV→Bool
 |[]=>true
 |a :: l=>a.exact&&ib l
end
mutual
theorem aO.kI:∀ (p:aO) {a:AV},p.fits a=true→a.exact=true→p.enc (p.bC a)=a
 |.int k,a,h,e=>by
  cases a with
  |int k' n=>have hk:XF k k'=true:=h; rw [Hr hk]; rfl
  |_=>cases h
 |.bool,a,h,e=>by
  cases a with
  |bool b=>rfl
  |_=>cases h
 |.str,a,h,e=>by
  cases a with
  |str b=>rfl
  |_=>cases h
 |.agg ps,a,h,e=>by
  cases a with
  |agg cs=>
   have e':ib cs=true:=by simpa [AV.exact] using e
   show AV.agg (ps.enc (ps.bC cs))=_;rw [ps.kI (show ps.fits cs=true from h) e']
  |_=>cases h
 |.bu ps,a,h,e=>by cases a <;> first | (cases h; done) | simp [AV.exact] at e
 |.list sz p,a,h,e=>by cases a <;> first | (cases h; done) | simp [AV.exact] at e
 |.own id sz p,a,h,e=>by cases a <;> first | (cases h; done) | simp [AV.exact] at e
 |.bF id sz p,a,h,e=>by cases a <;> first | (cases h; done) | simp [AV.exact] at e
 |.dO u,a,h,e=>(kB (show fa a u=true from h)).symm
 |.two u v,a,h,_=>yk h
theorem aQ.kI:∀ (ps:aQ) {l:List AV},ps.fits l=true→ib l=true→ps.enc (ps.bC l)=l
 |.nil,l,h,_=>by
  cases l with
  |nil=>rfl
  |cons _ _=>cases h
 |.cons p .nil,l,h,e=>by
  cases l with
  |nil=>cases h
  |cons a l=>
   have h':(p.fits a&&l.isEmpty)=true:=h;simp only [aad,List.isEmpty_iff] at h';obtain ⟨h1,rfl⟩:=h';simp only [ib,abi] at e;show [p.enc (p.bC a)]=_;rw [p.kI h1 e]
 |.cons p (.cons q ps),l,h,e=>by
  cases l with
  |nil=>cases h
  |cons a l=>
   have h':(p.fits a&&(aQ.cons q ps).fits l)=true:=h;rw [aad] at h';simp only [ib,aad] at e;show p.enc (p.bC a) :: (aQ.cons q ps).enc ((aQ.cons q ps).bC l)=_;rw [p.kI h'.1 e.1,(aQ.cons q ps).kI h'.2 e.2]
end
mutual
theorem pD:∀ {a:AV},a.exact=true→a.closed=true:=fun {a} h=>by
 cases a with
 |agg cs=>simp only [AV.exact,AV.closed] at *; exact sF h
 |_=>simp_all [AV.exact,AV.closed]
theorem sF:∀ {l:List AV},ib l=true→bg l=true
 |[],_=>rfl
 |a :: l,h=>by
  simp only [ib,bg,aad] at *;exact ⟨pD h.1,sF h.2⟩
end
def ah:List (AV × AV)→List AV
 |[]=>[]
 |(k,v) :: l=>.agg [k,v] :: ah l
def ac3:AV→AV × AV
 |.agg [k,v]=>(k,v)
 |_=>(gW,gW)
def ar:List AV→List (AV × AV)
 |[]=>[]
 |a :: l=>ac3 a :: ar l
def AV.entries:AV→List (AV × AV)
 |.list _ _ es=>ar es
 |_=>[]
theorem p9:∀ l:List (AV × AV),ar (ah l)=l
 |[]=>rfl
 |(k,v) :: l=>by simp only [ah,ar,p9 l]; rfl
def AV.Nz:AV→Bool
 |.list .lM _ es=>ib es
 |_=>false
def ln:List AV→List AV→Prop
 |[],[]=>True
 |a :: l,b :: r=>j7 a b∧ln l r
 |_,_=>False
theorem ln.refl:∀ l:List AV,ln l l
 |[]=>trivial
 |a :: l=>⟨j7.refl a,ln.refl l⟩
theorem ln.length:∀ {l r:List AV},ln l r→l.length=r.length
 |[],[],_=>rfl
 |_ :: _,_ :: _,h=>by simp [ln.length h.2]
 |[],_ :: _,h=>h.elim
 |_ :: _,[],h=>h.elim
theorem ln.of {α:Type} {f:AV→Bool} {d:AV→α} {g:α→AV} (Jn:∀ v,f v=true→j7 v (g (d v))):∀ {es:List AV},allFit f es=true→ln es ((es.map d).map g)
 |[],_=>trivial
 |e :: es,h=>by
  simp only [allFit,aad] at h;exact ⟨Jn e h.1,ln.of Jn h.2⟩
theorem aO.FM (p:aO) {a:AV} (h:p.fits a=true):ln a.ft (p.enc (p.bC a)).ft:=by
 cases p with
 |list sz p=>
  cases a with
  |list k bT es=>
   have hb:((aau sz bT || es.isEmpty)&&allFit p.fits es)=true:=h;rw [aad] at hb;exact ln.of (fun v hv=>p.dL hv) hb.2
  |_=>cases h
 |own id sz p=>
  cases a with
  |list k bT es=>
   cases k with
   |own kV=>
    have hb:((aau id kV&&aau sz bT)&&allFit p.fits es)=true:=h;rw [aad] at hb;exact ln.of (fun v hv=>p.dL hv) hb.2
   |_=>cases h
  |_=>cases h
 |bF id sz p=>
  cases a with
  |list k bT es=>
   cases k with
   |bF kV j=>
    have hb:((aau id kV&&aau sz bT)&&allFit p.fits es)=true:=h;rw [aad] at hb;exact ln.of (fun v hv=>p.dL hv) hb.2
   |_=>cases h
  |_=>cases h
 |dO u=>rw [show a=u from kB (show fa a u=true from h)]; exact ln.refl _
 |two u v=>rw [yk h]; exact ln.refl _
 |_=>cases a <;> first | (cases h; done) | exact ln.refl _
def Mx:List AV→List AV→Prop
 |[],[]=>True
 |a :: l,b :: r=>(a.exact=true→b=a)∧(a.Nz=true→b.ft=a.ft)∧ln a.ft b.ft∧Mx l r
 |_,_=>False
theorem zY {f:AV→Bool} {α:Type} {d:AV→α} {g:α→AV} (Jn:∀ a,f a=true→a.exact=true→g (d a)=a):∀ {es:List AV},allFit f es=true→ib es=true→(es.map d).map g=es
 |[],_,_=>rfl
 |a :: l,h,e=>by
  simp only [allFit,ib,aad] at *;simp only [List.map_cons,Jn a h.1 e.1,zY Jn h.2 e.2]
theorem aO.FN (p:aO) {a:AV} (h:p.fits a=true) (e:a.Nz=true):(p.enc (p.bC a)).ft=a.ft:=by
 cases a with
 |list k bT es=>
  cases k with
  |lM=>
   have e':ib es=true:=e;cases p with
   |list sz p=>
    have hb:((aau sz bT || es.isEmpty)&&allFit p.fits es)=true:=h;rw [aad] at hb;show (es.map p.bC).map p.enc=_;rw [zY (fun a=>p.kI) hb.2 e'];rfl
   |dO u=>rw [show AV.list .lM bT es=u from kB (show fa _ u=true from h)]; rfl
   |two u v=>rw [yk h]
   |_=>cases h
  |_=>cases e
 |_=>cases e
theorem aQ.NA:∀ (ps:aQ) {l:List AV},ps.fits l=true→Mx l (ps.enc (ps.bC l))
 |.nil,l,h=>by
  cases l with
  |nil=>trivial
  |cons _ _=>cases h
 |.cons p .nil,l,h=>by
  cases l with
  |nil=>cases h
  |cons a l=>
   have h':(p.fits a&&l.isEmpty)=true:=h;simp only [aad,List.isEmpty_iff] at h';obtain ⟨h1,rfl⟩:=h';exact ⟨p.kI h1,p.FN h1,p.FM h1,trivial⟩
 |.cons p (.cons q ps),l,h=>by
  cases l with
  |nil=>cases h
  |cons a l=>
   have h':(p.fits a&&(aQ.cons q ps).fits l)=true:=h;rw [aad] at h';exact ⟨p.kI h'.1,p.FN h'.1,p.FM h'.1,(aQ.cons q ps).NA h'.2⟩
theorem Mx.split:∀ {l r l':List AV},Mx (l++r) l'→∃ a b,l'=a++b∧Mx l a∧Mx r b∧a.length=l.length
 |[],r,l',h=>⟨[],l',rfl,trivial,h,rfl⟩
 |x :: l,r,[],h=>h.elim
 |x :: l,r,y :: l',h=>by
  obtain ⟨a,b,rfl,h2,h3,h4⟩:=Mx.split (l:=l) (r:=r) (l':=l') h.2.2.2;exact ⟨y :: a,b,rfl,⟨h.1,h.2.1,h.2.2.1,h2⟩,h3,by simp [h4]⟩
mutual
def AV.zZ (L:Nat→Nat):AV→AV
 |.dM id 0 0 sz 0=>.dM id (L id) 0 sz (L id)
 |.fn f x y=>.fn f (NB L x) (NB L y)
 |v=>v
def NB (L:Nat→Nat):List AV→List AV
 |[]=>[]
 |a :: l=>a.zZ L :: NB L l
end
mutual
def aO.inst (L:Nat→Nat):aO→aO
 |.agg ps=>.agg (ps.inst L)
 |.bu ps=>.bu (ps.inst L)
 |.dO v=>.dO (v.zZ L)
 |p=>p
def aQ.inst (L:Nat→Nat):aQ→aQ
 |.nil=>.nil
 |.cons p ps=>.cons (p.inst L) (ps.inst L)
end
mutual
def aO.mq (L:Nat→Nat):(p:aO)→p.T→AV
 |.int k,(n:Int)=>.int k n
 |.bool,(b:Bool)=>.bool b
 |.str,(s:List UInt8)=>.str s
 |.agg ps,x=>.agg (ps.mq L x)
 |.bu ps,x=>.bu (ps.mq L x)
 |.list sz p,(xs:List p.T)=>.list .lM sz (xs.map p.enc)
 |.own id sz p,(xs:List p.T)=>.list (.own id) sz (xs.map p.enc)
 |.bF id sz p,(x:Nat × List p.T)=>.list (.bF id x.1) sz (x.2.map p.enc)
 |.dO v,_=>v.zZ L
 |.two u v,(b:Bool)=>bif b then v else u
def aQ.mq (L:Nat→Nat):(ps:aQ)→ps.T→List AV
 |.nil,_=>[]
 |.cons p .nil,x=>[p.mq L x]
 |.cons p (.cons q ps),x=>p.mq L x.1 :: (aQ.cons q ps).mq L x.2
end
mutual
def aO.oz (L:Nat→Nat):aO→AV→Bool
 |.int k,v=>aO.fits (.int k) v
 |.bool,v=>aO.fits .bool v
 |.str,v=>aO.fits .str v
 |.agg ps,v=>match v with
  |.agg cs=>ps.oz L cs
  |_=>false
 |.bu ps,v=>match v with
  |.bu cs=>ps.oz L cs
  |_=>false
 |.list sz p,v=>aO.fits (.list sz p) v
 |.own id sz p,v=>aO.fits (.own id sz p) v
 |.bF id sz p,v=>aO.fits (.bF id sz p) v
 |.dO v,u=>fa u (v.zZ L)
 |.two u v,a=>aO.fits (.two u v) a
def aQ.oz (L:Nat→Nat):aQ→List AV→Bool
 |.nil,l=>l.isEmpty
 |.cons p ps,l=>match l with
  |a :: l=>p.oz L a&&ps.oz L l
  |[]=>false
end
def aQ.Lv (L:Nat→Nat) (ps:aQ) (l:List AV):Option ps.T:=bif ps.oz L l then some (ps.bC l) else none
mutual
theorem aO.ki (L:Nat→Nat):∀ (p:aO) (a:AV),p.oz L a=(p.inst L).fits a
 |.int _,_=>rfl
 |.bool,_=>rfl
 |.str,_=>rfl
 |.agg ps,a=>by
  simp only [aO.oz,aO.inst,aO.fits];cases a <;> first | rfl | exact ps.ki L _
 |.bu ps,a=>by
  simp only [aO.oz,aO.inst,aO.fits];cases a <;> first | rfl | exact ps.ki L _
 |.list _ _,_=>rfl
 |.own _ _ _,_=>rfl
 |.bF _ _ _,_=>rfl
 |.dO _,_=>rfl
 |.two _ _,_=>rfl
theorem aQ.ki (L:Nat→Nat):∀ (ps:aQ) (l:List AV),ps.oz L l=(ps.inst L).fits l
 |.nil,_=>rfl
 |.cons p ps,l=>by
  cases l with
  |nil=>rfl
  |cons a l=>
   simp only [aQ.oz,aQ.inst,aQ.fits];rw [p.ki L a,ps.ki L l]
end
mutual
theorem aO.jx (L:Nat→Nat):∀ (p:aO) (a:AV),p.mq L (p.bC a)=(p.inst L).enc ((p.inst L).bC a)
 |.int _,_=>rfl
 |.bool,_=>rfl
 |.str,_=>rfl
 |.agg ps,a=>congrArg AV.agg (ps.jx L a.kX)
 |.bu ps,a=>congrArg AV.bu (ps.jx L a.XG)
 |.list _ _,_=>rfl
 |.own _ _ _,_=>rfl
 |.bF _ _ _,_=>rfl
 |.dO _,_=>rfl
 |.two _ _,_=>rfl
theorem aQ.jx (L:Nat→Nat):∀ (ps:aQ) (l:List AV),ps.mq L (ps.bC l)=(ps.inst L).enc ((ps.inst L).bC l)
 |.nil,_=>rfl
 |.cons p .nil,l=>by
  show [p.mq L (p.bC (fH l))]=[(p.inst L).enc ((p.inst L).bC (fH l))];rw [p.jx L]
 |.cons p (.cons q ps),l=>by
  show p.mq L (p.bC (fH l)) :: (aQ.cons q ps).mq L ((aQ.cons q ps).bC (ME l))=(p.inst L).enc ((p.inst L).bC (fH l)) :: ((aQ.cons q ps).inst L).enc (((aQ.cons q ps).inst L).bC (ME l));rw [p.jx L,(aQ.cons q ps).jx L]
end
mutual
theorem AV.z6 {n:Nat} (L:Nat→Nat):∀ {a:AV},a.under n=true→(a.zZ L).under n=true:=fun {a} h=>by
 cases a with
 |dM id f off sz len=>
  unfold AV.zZ;split
  ·rename_i h1;cases h1;exact h
  ·rename_i h1;cases h1
  ·exact h
 |fn f x y=>
  simp only [AV.zZ,AV.under,aad] at *;exact ⟨ta L h.1,ta L h.2⟩
 |_=>exact h
theorem ta {n:Nat} (L:Nat→Nat):∀ {l:List AV},aI n l=true→aI n (NB L l)=true
 |[],_=>rfl
 |a :: l,h=>by
  simp only [NB,aI,aad] at *;exact ⟨AV.z6 L h.1,ta L h.2⟩
end
mutual
theorem aO.kj {n:Nat} (L:Nat→Nat):∀ {p:aO},p.under n=true→(p.inst L).under n=true
 |.int _,_=>rfl
 |.bool,_=>rfl
 |.str,_=>rfl
 |.agg ps,h=>aQ.kj L (ps:=ps) h
 |.bu ps,h=>aQ.kj L (ps:=ps) h
 |.list _ _,_=>rfl
 |.own _ _ _,h=>h
 |.bF _ _ _,h=>h
 |.dO v,h=>AV.z6 L (a:=v) h
 |.two _ _,h=>h
theorem aQ.kj {n:Nat} (L:Nat→Nat):∀ {ps:aQ},ps.under n=true→(ps.inst L).under n=true
 |.nil,_=>rfl
 |.cons p ps,h=>by
  simp only [aQ.inst,aQ.under,aad] at *;exact ⟨aO.kj L h.1,aQ.kj L h.2⟩
end
theorem AV.CN (L:Nat→Nat) (v:AV):(v.zZ L).ft=v.ft:=by
 unfold AV.zZ;split <;> rfl
def qd:List AV→List AV→Prop
 |[],[]=>True
 |a :: l,b :: r=>a.ft.length=b.ft.length∧qd l r
 |_,_=>False
theorem aO.qO (L L':Nat→Nat) (p:aO) (x:p.T):(p.mq L x).ft=(p.mq L' x).ft:=by
 cases p with
 |dO v=>
  show (v.zZ L).ft=(v.zZ L').ft;rw [AV.CN,AV.CN]
 |_=>rfl
theorem aQ.qO (L L':Nat→Nat):∀ (ps:aQ) (x:ps.T),qd (ps.mq L x) (ps.mq L' x)
 |.nil,_=>trivial
 |.cons p .nil,x=>⟨congrArg List.length (p.qO L L' x),trivial⟩
 |.cons p (.cons q ps),x=>⟨congrArg List.length (p.qO L L' x.1),(aQ.cons q ps).qO L L' x.2⟩
theorem Mx.ac4:∀ {l r:List AV},Mx l r→qd l r
 |[],[],_=>trivial
 |_ :: _,_ :: _,h=>⟨h.2.2.1.length,h.2.2.2.ac4⟩
 |[],_ :: _,h=>h.elim
 |_ :: _,[],h=>h.elim
theorem qd.trans:∀ {l r u:List AV},qd l r→qd r u→qd l u
 |[],[],[],_,_=>trivial
 |_ :: _,_ :: _,_ :: _,h,k=>⟨h.1.trans k.1,h.2.trans k.2⟩
 |[],_ :: _,_,h,_=>h.elim
 |_ :: _,[],_,h,_=>h.elim
 |[],[],_ :: _,_,k=>k.elim
 |_ :: _,_ :: _,[],_,k=>k.elim
theorem qd.drop:∀ {l r:List AV} (n:Nat),qd l r→qd (l.drop n) (r.drop n)
 |l,r,0,h=>by simpa using h
 |[],[],_+1,_=>by simp [qd]
 |_ :: _,_ :: _,n+1,h=>by simpa using qd.drop n h.2
 |[],_ :: _,_+1,h=>h.elim
 |_ :: _,[],_+1,h=>h.elim
theorem aQ.Sl (L:Nat→Nat) (ps:aQ) {l:List AV} {x:ps.T} (h:ps.Lv L l=some x):de l (ps.mq L x)∧Mx l (ps.mq L x):=by
 unfold aQ.Lv at h;cases hf:ps.oz L l with
 |true=>
  rw [hf] at h;cases h;rw [ps.jx L];rw [ps.ki L] at hf;have hd:(ps.inst L).dec l=some ((ps.inst L).bC l):=by unfold aQ.dec; rw [hf]; rfl
  exact ⟨((ps.inst L).sT hd).1,(ps.inst L).NA hf⟩
 |false=>rw [hf] at h; cases h
theorem aQ.Iw {n:Nat} (L:Nat→Nat) (ps:aQ) (hp:ps.under n=true) (l:List AV):aI n (ps.mq L (ps.bC l))=true:=by
 rw [ps.jx L];exact (ps.inst L).eK _ (aQ.kj L hp)
theorem aQ.Lw (L:Nat→Nat) (ps:aQ) {l:List AV} {x:ps.T} (h:ps.Lv L l=some x):x=ps.bC l:=by
 unfold aQ.Lv at h;cases hf:ps.oz L l with
 |true=>rw [hf] at h; cases h; rfl
 |false=>rw [hf] at h; cases h
end Go.Am
namespace Go.Am
open Go
inductive Hg
 |open_
 |busy
 |ret
 |ex (i:Nat)
def Hg.is:Hg→Bool→Option Code→Bool→Bool
 |.open_,false,none,false=>true
 |.busy,true,none,false=>true
 |.ret,false,some .ret,true=>true
 |.ex i,false,some (.exit j),true=>aau i j
 |_,_,_,_=>false
def Hg.b:Hg→Bool
 |.busy=>true
 |_=>false
def Hg.p:Hg→Option Code
 |.ret=>some .ret
 |.ex i=>some (.exit i)
 |_=>none
def Hg.d:Hg→Bool
 |.ret=>true
 |.ex _=>true
 |_=>false
theorem Hg.JP {k:Hg} {b:Bool} {p:Option Code} {d:Bool} (h:k.is b p d=true):b=k.b∧p=k.p∧d=k.d:=by
 unfold Hg.is at h;split at h <;> first | exact ⟨rfl,rfl,rfl⟩ | (cases h; done) | skip
 rw [aao h];exact ⟨rfl,rfl,rfl⟩
inductive GL
 |row (n:Nat)
 |tok (loc sz:Nat) (e:TypeId)
 |dead
 |lp (k:Hg)
 |bJ
 |map
 |ND
 |dv (sz:Nat) (e:TypeId)
 |bF (sz:Nat) (e:TypeId)
 |ux
 |pY (sR:Nat)
def c7 (fs:List Nat):List AV:=fs.map fun n:Nat=>.int .i64 n
def bc (l:List AV):List Nat:=l.map fun a=>a.mN.toNat
theorem xf (fs:List Nat):bc (c7 fs)=fs:=by
 induction fs with
 |nil=>rfl
 |cons n fs ih=>
  show (AV.int .i64 n).mN.toNat :: bc (c7 fs)=n :: fs;rw [ih];simp [AV.mN]
theorem z7 (fs:List Nat):ib (c7 fs)=true:=by
 induction fs with
 |nil=>rfl
 |cons n fs ih=>exact ih
def Yx (k:Hg):GO→GO→Bool
 |.loop _ _ _ _ _ _ _ _ _ _,.loop b p _ _ _ _ _ _ _ d=>k.is b p d
 |_,_=>false
def WU (k:Hg):GO→GO
 |.loop _ _ fn sl n ps uk bd d _=>.loop k.b k.p fn sl n ps uk bd d k.d
 |_=>.dead
def dP (es:List (AV × AV)):Bool:=ib (ah es)
def DZ:GO→GO→Bool
 |.tok f sz e,.tok f' bT e'=>decide (f'=f)&&(aau bT sz&&aau e' e)
 |.defers a,.defers b=>match a,b with
  |true,true=>true
  |false,false=>true
  |_,_=>false
 |.dead,_=>true
 |_,_=>false
structure da where
 ps:aQ
 sl:List Tmp
 W:List Tmp
 bx:List (Nat × Nat)
 g:List GL
 lps:List (Tmp × Nat × Nat)
def z8 (ab:bk):List Tmp→Option (List AV)
 |[]=>some []
 |t :: l=>match lk ab t with
  |.v a=>match z8 ab l with
   |some r=>some (a :: r)
   |none=>none
  |_=>none
def Aa (bx:dc):List (Nat × Nat)→Option (List AV)
 |[]=>some []
 |(k,n) :: l=>match eF bx k with
  |some cs=>match Aa bx l with
   |some r=>bif aau cs.length n then some (cs++r) else none
   |none=>none
  |none=>none
def lG:List GL→List GO→Option (List AV)
 |[],_=>some []
 |.row n :: l,.row cs _ :: G=>match lG l G with
  |some r=>bif aau cs.length n then some (cs++r) else none
  |none=>none
 |.tok _ sz e :: l,.tok _ bT e' :: G=>bif aau sz bT&&aau e e' then lG l G else none
 |.dead :: l,_ :: G=>lG l G
 |.lp _ :: l,_ :: G=>lG l G
 |.bJ :: l,_ :: G=>lG l G
 |.map :: l,.map es :: G=>match lG l G with
  |some r=>some (.list .lM 2 (ah es) :: r)
  |none=>none
 |.ND :: l,.iI s pos :: G=>match lG l G with
  |some r=>some (.str s :: .int .i64 pos :: r)
  |none=>none
 |.dv sz e :: l,.dv es bT e' :: G=>match lG l G with
  |some r=>bif aau sz bT&&aau e e' then some (.list .lM bT es :: r) else none
  |none=>none
 |.bF sz e :: l,.bF fs bT e' :: G=>match lG l G with
  |some r=>bif aau sz bT&&aau e e' then some (.list .lM 1 (c7 fs) :: r) else none
  |none=>none
 |.ux :: l,.map es :: G=>match lG l G with
  |some r=>some (.list .lM 2 (ah es) :: r)
  |none=>none
 |.pY sR :: l,.pY mid' n left _ _ :: G=>match lG l G with
  |some r=>bif aau sR mid' then some (.int .i64 n :: .list .lM 1 (c7 left) :: r) else none
  |none=>none
 |_,_=>none
def NE (vs:List AV) (loc:Nat):Nat:=match nth vs loc with
 |some (.list _ _ es)=>es.length
 |_=>0
def WV:GO→GO→Bool
 |.row _ e,.row _ e'=>aau e e'
 |_,_=>false
def WW:GO→GO→Bool
 |.pY _ _ _ _ t,.pY _ _ _ _ t'=>aau t t'
 |_,_=>false
def ac5:GO→TypeId
 |.pY _ _ _ _ t=>t
 |_=>0
def ac6:GO→TypeId
 |.row _ e=>e
 |_=>0
def eN (vs:List AV):List GL→List GO→List GO→Bool
 |[],_,_=>true
 |.tok loc _ _ :: l,_ :: B,.tok f _ _ :: G=>decide (f=NE vs loc)&&eN vs l B G
 |.tok _ _ _ :: _,_,_=>false
 |.lp k :: l,o :: B,o' :: G=>Yx k o o'&&eN vs l B G
 |.bJ :: l,o :: B,o' :: G=>DZ o o'&&eN vs l B G
 |.row _ :: l,b :: B,g :: G=>WV b g&&eN vs l B G
 |.map :: l,_ :: B,.map es :: G=>dP es&&eN vs l B G
 |.map :: _,_,_=>false
 |.ND :: l,_ :: B,_ :: G=>eN vs l B G
 |.dv _ _ :: l,_ :: B,_ :: G=>eN vs l B G
 |.bF _ _ :: l,_ :: B,_ :: G=>eN vs l B G
 |.ux :: l,_ :: B,_ :: G=>eN vs l B G
 |.pY _ :: l,b :: B,g :: G=>WW b g&&eN vs l B G
 |.dead :: l,_ :: B,_ :: G=>eN vs l B G
 |_,_,_=>false
def qP:List Tmp→List AV→bk→bk
 |t :: ts,a :: l,r=>.put t (.v a) :: qP ts l r
 |_,_,r=>r
def qQ:List (Tmp × Nat × Nat)→bk→bk
 |(t,k,o) :: l,r=>.put t (.lp k o) :: qQ l r
 |[],r=>r
def JQ (ab:bk):List (Tmp × Nat × Nat)→Bool
 |[]=>true
 |(t,k,o) :: l=>(match lk ab t with
  |.lp k' o'=>aau k' k&&aau o' o
  |_=>false)&&JQ ab l
def Ab:List Tmp→bk→bk
 |t :: ts,r=>.put t .none :: Ab ts r
 |[],r=>r
def xg:List (Nat × Nat)→List AV→dc→dc
 |(k,n) :: r,l,b=>(k,l.take n) :: xg r (l.drop n) b
 |[],_,b=>b
def eL (vs:List AV):List GL→List GO→List AV→List GO
 |.row n :: r,B,l=>.row (l.take n) (ac6 (B.headD .dead)) :: eL vs r B.tail (l.drop n)
 |.tok loc sz e :: r,B,l=>.tok (NE vs loc) sz e :: eL vs r B.tail l
 |.dead :: r,B,l=>.dead :: eL vs r B.tail l
 |.lp k :: r,B,l=>WU k (B.headD .dead) :: eL vs r B.tail l
 |.bJ :: r,B,l=>B.headD .dead :: eL vs r B.tail l
 |.map :: r,B,l=>.map (AV.entries (fH l)) :: eL vs r B.tail l.tail
 |.ND :: r,B,l=>.iI (AV.XH (fH l)) (AV.mN (fH l.tail)).toNat :: eL vs r B.tail l.tail.tail
 |.dv sz e :: r,B,l=>.dv (AV.ft (fH l)) sz e :: eL vs r B.tail l.tail
 |.bF sz e :: r,B,l=>.bF (bc (AV.ft (fH l))) sz e :: eL vs r B.tail l.tail
 |.ux :: r,B,l=>.map (AV.entries (fH l)) :: eL vs r B.tail l.tail
 |.pY sR :: r,B,l=>.pY sR (AV.mN (fH l)).toNat (bc (AV.ft (fH l.tail))) none (ac5 (B.headD .dead)) :: eL vs r B.tail l.tail.tail
 |[],_,_=>[]
def D0:List (Nat × Nat)→Nat
 |[]=>0
 |(_,n) :: l=>n+D0 l
def mr:List GL→List AV→Nat→Nat
 |[],_,_=>0
 |.dv _ _ :: r,l,i=>match i with
  |0=>(AV.ft (fH l)).length
  |i+1=>mr r l.tail i
 |.row n :: r,l,i=>match i with
  |0=>0
  |i+1=>mr r (l.drop n) i
 |.map :: r,l,i=>match i with
  |0=>0
  |i+1=>mr r l.tail i
 |.ND :: r,l,i=>match i with
  |0=>0
  |i+1=>mr r l.tail.tail i
 |.bF _ _ :: r,l,i=>match i with
  |0=>0
  |i+1=>mr r l.tail i
 |.ux :: r,l,i=>match i with
  |0=>0
  |i+1=>mr r l.tail i
 |.pY _ :: r,l,i=>match i with
  |0=>0
  |i+1=>mr r l.tail.tail i
 |_ :: r,l,i=>match i with
  |0=>0
  |i+1=>mr r l i
def da.ss (t:da) (v:t.ps.T):List AV:=t.ps.mq (mr t.g (((t.ps.mq (fun _=>0) v).drop t.sl.length).drop (D0 t.bx))) v
def da.st (t:da) (s:St) (v:t.ps.T):St:=
 ⟨qQ t.lps (qP t.sl (t.ss v) (Ab t.W s.ab)),xg t.bx ((t.ss v).drop t.sl.length) s.boxes,eL (t.ss v) t.g s.G (((t.ss v).drop t.sl.length).drop (D0 t.bx)),s.marks,s.ro,s.n⟩
def Ru:List Nat→Nat→Bool
 |[],_=>false
 |a :: l,n=>aau a n || Ru l n
def inK (l:List Tmp) (W:List Tmp) (n:Nat):Bool:=Ru l n || Ru W n
def BU (d:Nat) (l W:List Tmp):bk→Bool
 |[]=>true
 |.put t (.lp k _) :: r=>(!(aau k d) || inK l W t)&&BU d l W r
 |_ :: r=>BU d l W r
def vG (l W:List Tmp) (base:bk):bk→Bool
 |[]=>true
 |.put d _ :: r=>inK l W d&&vG l W base r
 |.kill d :: r=>BU d l W base&&vG l W base r
def xI:List (Nat × Nat)→Nat→Bool
 |[],_=>false
 |(a,_) :: l,n=>aau a n || xI l n
def yw (l:List (Nat × Nat)) (base:dc):dc→Bool
 |[]=>true
 |(k,_) :: r=>(xI l k || (eF base k).isNone)&&yw l base r
def Sm:List Nat→List Nat→Bool
 |[],[]=>true
 |a :: l,b :: r=>aau a b&&Sm l r
 |_,_=>false
def aO.lcl (n:Nat):aO→Bool
 |.list _ p=>p.under n
 |_=>false
def aQ.flags (n:Nat):aQ→List Bool
 |.nil=>[]
 |.cons p ps=>p.lcl n :: ps.flags n
def ms:List GL→List Bool→Bool
 |[],_=>true
 |.dv _ _ :: r,f :: l=>f&&ms r l
 |.dv _ _ :: _,[]=>false
 |.row n :: r,l=>ms r (gM n l)
 |.map :: r,l=>ms r (gM 1 l)
 |.ND :: r,l=>ms r (gM 2 l)
 |.bF _ _ :: r,l=>ms r (gM 1 l)
 |.ux :: r,f :: l=>f&&ms r l
 |.ux :: _,[]=>false
 |.pY _ :: r,l=>ms r (gM 2 l)
 |_ :: r,l=>ms r l
def NF (n:Nat):List GL→Bool
 |[]=>true
 |.pY sR :: r=>aaY sR n&&NF n r
 |_ :: r=>NF n r
def da.ok (t:da) (s s':St):Bool:=
 vG t.sl t.W s.ab (s'.ab.take (s'.ab.length - s.ab.length))&&yw t.bx s.boxes (s'.boxes.take (s'.boxes.length - s.boxes.length)) &&
  Sm s'.marks s.marks&&aau t.g.length s.G.length&&(t.ps.under s.G.length&&(ms t.g (gM (D0 t.bx) (gM t.sl.length (t.ps.flags s.G.length)))&&NF s.G.length t.g))&&JQ s'.ab t.lps
def da.dec (t:da) (s s':St):Option t.ps.T:=
 bif t.ok s s' then
  match z8 s'.ab t.sl,Aa s'.boxes t.bx,lG t.g s'.G with
  |some a,some b,some c=>(t.ps.Lv (mr t.g c) (a++(b++c))).bind fun v=>bif eN (t.ss v) t.g s.G s'.G then some v else none
  |_,_,_=>none
 else none
theorem D3 {l:List Nat} {n:Nat}:Ru l n=true↔n∈l:=by
 induction l with
 |nil=>simp [Ru]
 |cons a l ih=>
  simp only [Ru,Bool.or_eq_true,Nat.beq_eq,ih,abp];constructor
  ·rintro (h|h)
   ·exact .inl h.symm
   ·exact .inr h
  ·rintro (h|h)
   ·exact .inl h.symm
   ·exact .inr h
theorem JR:∀ {a b:List Nat},Sm a b=true→a=b
 |[],[],_=>rfl
 |a :: l,b :: r,h=>by
  simp only [Sm,aad,Nat.beq_eq] at h;rw [h.1,JR h.2]
 |[],_ :: _,h=>by cases h
 |_ :: _,[],h=>by cases h
theorem D4 {d:Nat} {l W:List Tmp} {t off:Nat}:∀ {base:bk},BU d l W base=true→lk base t=.lp d off→inK l W t=true
 |[],_,h=>by simp [lk] at h
 |.put t' x :: r,hn,h=>by
  by_cases e:t'=t
  ·subst e;rw [aC] at h;subst h;simp only [BU,Nat.beq_refl,Bool.not_true,Bool.false_or,aad] at hn;exact hn.1
  ·rw [aW e] at h;refine D4 (base:=r) ?_ h;cases x <;> simp only [BU,aad] at hn
   ·exact hn
   ·exact hn
   ·exact hn.2
 |.kill d' :: r,hn,h=>by
  rcases Jm (l:=r) (d:=d') (t:=t) with ⟨h1,_⟩|h1
  ·rw [h1] at h;exact D4 (base:=r) hn h
  ·rw [h1] at h;cases h
theorem D5 {l W:List Tmp} {base:bk} {t:Nat} (ht:inK l W t=false):∀ {pre:bk},vG l W base pre=true→lk (pre++base) t=lk base t
 |[],_=>rfl
 |.put d x :: r,h=>by
  simp only [vG,aad] at h;have cK:d≠t:=fun e=>by rw [e,ht] at h; exact absurd h.1 (by simp)
  rw [abo,aW cK];exact D5 ht h.2
 |.kill d :: r,h=>by
  simp only [vG,aad] at h;have ih:=D5 ht h.2;simp only [abo,lk,ih];cases hb:lk base t with
  |lp k off=>
   by_cases e:k=d
   ·subst e;have:=D4 h.1 hb;rw [ht] at this;cases this
   ·simp [oY e]
  |_=>rfl
theorem FO {l:List (Nat × Nat)} {base:dc} {k:Nat} {cs:List AV} (hk:xI l k=false) (hb:eF base k=some cs):∀ {pre:dc},yw l base pre=true→eF (pre++base) k=some cs
 |[],_=>hb
 |(d,x) :: r,h=>by
  simp only [yw,aad] at h;have cK:d≠k:=fun e=>by
   rw [e,hk,hb] at h;exact absurd h.1 (by simp)
  rw [abo,eF,oY cK];exact FO hk hb h.2
theorem FP {α:Type} (pre base:List α):(pre++base).take ((pre++base).length - base.length)=pre:=by
 rw [List.length_append,Nat.add_sub_cancel,abv]
def ak.cut (R:ak) (n:Nat):ak:=⟨R.I,R.obj.take n⟩
theorem lH {R:ak} {n id:Nat} {ro:RO}:nth (R.cut n).obj id=some ro↔id < n∧nth R.obj id=some ro:=by
 simp only [ak.cut,bj,List.getElem?_take];split
 ·simp_all
 ·simp_all;omega
theorem qR (R:ak) (n:Nat):Mv R (R.cut n) n:=⟨fun _ _ h=>h,fun _ _ hl h=>lH.2 ⟨hl,h⟩⟩
section CF
variable {E:Env} {R R':ak} {w w':World} {β β':Nat→Nat} {s s':St} {a a':Act}
def Ac (R:ak) (w:World) (β:Nat→Nat) (K:Nat→Prop) (ab:bk) (tmps:Array Value):Prop:=
 ∀ i,¬ K i→lk ab i≠.none→∃ c,tmps[i]?=some c∧si R w β (lk ab i) c
theorem Ad {tmps:Array Value} {base:bk}:∀ {W:List Tmp} {K:Nat→Prop},Ac R w β (fun i=>i∈W∨K i) base tmps→Ac R w β K (Ab W base) tmps
 |[],K,h=>fun i hi hn=>h i (by simpa using hi) hn
 |t :: W,K,h=>fun i hi hn=>by
  have ih:Ac R w β (fun i=>i=t∨K i) (Ab W base) tmps:=Ad (W:=W) (fun j hj=>h j (fun hc=>hj (by
   rcases hc with hc|hc
   ·rcases abp.1 hc with hc|hc
    ·exact .inr (.inl hc)
    ·exact .inl hc
   ·exact .inr (.inr hc))))
  simp only [Ab] at hn ⊢;by_cases e:t=i
  ·subst e;rw [aC] at hn;exact absurd rfl hn
  ·rw [aW e] at hn ⊢;exact ih i (by simp; exact ⟨fun e'=>e e'.symm,hi⟩) hn
theorem xh {n:Nat} (m:Mv R' R n) {tmps:Array Value} {ab:bk} (hT:qj R' w β ab tmps) {base:bk}:∀ {ts:List Tmp} {K:Nat→Prop} {l l' r r':List AV},z8 ab ts=some l→de (l++r) (l'++r')→l.length=l'.length→aI n l'=true →
  Ac R w β (fun i=>i∈ts∨K i) base tmps→Ac R w β K (qP ts (l'++r') base) tmps
 |[],K,l,l',r,r',_,_,_,_,h=>fun i hi hn=>by
  have e:qP [] (l'++r') base=base:=rfl;rw [e] at hn ⊢;exact h i (by simpa using hi) hn
 |t :: ts,K,l,l',r,r',hg,hw,hl,hu,h=>by
  unfold z8 at hg;split at hg
  ·rename_i a ha;split at hg
   ·rename_i l0 zl;cases hg;cases l' with
    |nil=>simp at hl
    |cons b l'=>
     simp only [abo,de] at hw;simp only [aI,aad] at hu;have ih:Ac R w β (fun i=>i=t∨K i) (qP ts (l'++r') base) tmps:=xh m hT zl hw.2 (by simpa using hl) hu.2 (fun j hj=>h j (fun hc=>hj (by
      rcases hc with hc|hc
      ·rcases abp.1 hc with hc|hc
       ·exact .inr (.inl hc)
       ·exact .inl hc
      ·exact .inr (.inr hc))))
     intro i hi hn;simp only [qP,abo] at hn ⊢;by_cases e:t=i
     ·subst e;rw [aC] at hn ⊢;obtain ⟨c,h1,h2⟩:=hT t (by rw [ha]; simp);rw [ha] at h2;exact ⟨c,h1,Rel.move m hu.1 (hw.1 _ _ _ h2)⟩
     ·rw [aW e] at hn ⊢;exact ih i (by simp; exact ⟨fun e'=>e e'.symm,hi⟩) hn
   ·cases hg
  ·cases hg
def Ae (R:ak) (w:World) (β:Nat→Nat) (k:Nat) (cs:List AV):Prop:=
 (∃ vs el,w.heap[β k]?=some (.cells ⟨vs⟩ el (0,0))∧aP R w cs vs∧(∀ v∈vs,v.oneCell'=true))∧(∀ o,¬ R.I (β k) o)∧¬ Live R (β k)
theorem FQ {R:ak} {n b:Nat} (h:Live (R.cut n) b):Live R b:=by
 obtain ⟨id,ro,h1,h2⟩:=h;exact ⟨id,ro,(lH.1 h1).2,h2⟩
theorem Ae.cut {n k:Nat} {cs cs':List AV} (h:Ae R w β k cs) (hw:de cs cs') (hu:aI n cs'=true):Ae (R.cut n) w β k cs':=by
 obtain ⟨⟨vs,el,h1,h2,h3⟩,h4,h5⟩:=h;exact ⟨⟨vs,el,h1,(hw.rel h2).move (qR R n) hu,h3⟩,h4,fun hl=>h5 (FQ hl)⟩
theorem gG {n:Nat}:∀ {l r:List AV},aI n (l++r)=(aI n l&&aI n r)
 |[],r=>by simp [aI]
 |a :: l,r=>by simp [aI,gG (l:=l),Bool.and_assoc]
theorem de.split:∀ {l r l':List AV},de (l++r) l'→∃ a b,l'=a++b∧de l a∧de r b∧a.length=l.length
 |[],r,l',h=>⟨[],l',rfl,trivial,h,rfl⟩
 |x :: l,r,[],h=>h.elim
 |x :: l,r,y :: l',h=>by
  obtain ⟨a,b,rfl,h2,h3,h4⟩:=de.split (l:=l) (r:=r) (l':=l') h.2;exact ⟨y :: a,b,rfl,⟨h.1,h2⟩,h3,by simp [h4]⟩
theorem FR {n:Nat} {bxs:dc} (hb:∀ k cs,eF bxs k=some cs→Ae R w β k cs) {base:dc}:∀ {bx:List (Nat × Nat)} {K:Nat→Prop} {l l' r:List AV},Aa bxs bx=some l→de l l'→aI n l'=true →
  (∀ k cs,¬ K k→xI bx k=false→eF base k=some cs→eF bxs k=some cs∧aI n cs=true) →
  ∀ k cs,¬ K k→eF (xg bx (l'++r) base) k=some cs→Ae (R.cut n) w β k cs∧∃ cs',eF bxs k=some cs'
 |[],K,l,l',r,_,_,_,h,k,cs,hK,hk=>by
  obtain ⟨h1,h2⟩:=h k cs hK rfl hk;exact ⟨(hb k cs h1).cut (de.refl _) h2,cs,h1⟩
 |(d,m) :: bx,K,l,l',r,hg,hw,hu,h,k,cs,hK,hk=>by
  unfold Aa at hg;split at hg
  ·rename_i cs0 hd;split at hg
   ·rename_i l0 zl;cases hm:aau cs0.length m with
    |false=>rw [hm] at hg; cases hg
    |true=>
     rw [hm] at hg;cases hg;have hm:=aao hm;obtain ⟨x,y,rfl,k1,k2,k3⟩:=hw.split;rw [gG,aad] at hu;have e1:((x++y)++r).take m=x:=by rw [List.append_assoc,← hm,← k3,abv]
     have e2:((x++y)++r).drop m=y++r:=by rw [List.append_assoc,← hm,← k3,abj]
     simp only [xg,e1,e2] at hk;rcases fX hk with ⟨rfl,rfl⟩|⟨cK,hk⟩
     ·exact ⟨(hb d cs0 hd).cut k1 hu.1,cs0,hd⟩
     ·refine FR hb (K:=fun k=>k=d∨K k) (r:=r) zl k2 hu.2 (fun k' cs' hK' h1 h2=>?_) k cs (fun hc=>?_) hk
      ·exact h k' cs' (fun hc=>hK' (.inr hc)) (by simp only [xI,h1,Bool.or_false]; exact oY (fun e=>hK' (.inl e.symm))) h2
      ·rcases hc with hc|hc
       ·exact cK hc.symm
       ·exact hK hc
   ·cases hg
  ·cases hg
def Af (n:Nat):List GL→List AV→Prop
 |[],_=>True
 |.dv _ _ :: r,l=>aI n (AV.ft (fH l))=true∧Af n r l.tail
 |.row m :: r,l=>Af n r (l.drop m)
 |.map :: r,l=>Af n r l.tail
 |.ND :: r,l=>Af n r l.tail.tail
 |.bF _ _ :: r,l=>Af n r l.tail
 |.ux :: r,l=>aI n (AV.ft (fH l))=true∧Af n r l.tail
 |.pY _ :: r,l=>Af n r l.tail.tail
 |_ :: r,l=>Af n r l
def qS (n:Nat):List Bool→List AV→Prop
 |[],_=>True
 |_ :: _,[]=>True
 |f :: fl,a :: l=>(f=true→aI n a.ft=true)∧qS n fl l
theorem qS.drop {m:Nat}:∀ {fl:List Bool} {l:List AV} (n:Nat),qS m fl l→qS m (gM n fl) (l.drop n)
 |_,_,0,h=>by simpa [gM] using h
 |[],_,_+1,_=>by simp [gM,qS]
 |_ :: fl,[],n+1,_=>by
  rw [List.drop_nil];cases gM (n+1) (_ :: fl) <;> trivial
 |_ :: fl,_ :: l,n+1,h=>by simpa [gM] using qS.drop n h.2
theorem gP {m:Nat}:∀ (g:List GL) {fl:List Bool} {l:List AV},ms g fl=true→qS m fl l→Af m g l
 |[],_,_,_,_=>trivial
 |.dv _ _ :: g,[],_,h,_=>by cases h
 |.dv _ _ :: g,f :: fl,[],h,_=>by
  simp only [ms,aad] at h;refine ⟨rfl,gP g (fl:=fl) h.2 ?_⟩;cases fl <;> trivial
 |.dv _ _ :: g,f :: fl,a :: l,h,k=>by
  simp only [ms,aad] at h;exact ⟨k.1 h.1,gP g h.2 k.2⟩
 |.row n :: g,fl,l,h,k=>gP g (show ms g (gM n fl)=true from h) (k.drop n)
 |.map :: g,fl,l,h,k=>by
  have:=gP g (show ms g (gM 1 fl)=true from h) (k.drop 1);rw [List.drop_one] at this;exact this
 |.ND :: g,fl,l,h,k=>by
  have:=gP g (show ms g (gM 2 fl)=true from h) (k.drop 2);have e:l.drop 2=l.tail.tail:=by cases l with
   |nil=>rfl
   |cons a l=>cases l <;> rfl
  rw [e] at this;exact this
 |.bF _ _ :: g,fl,l,h,k=>by
  have:=gP g (show ms g (gM 1 fl)=true from h) (k.drop 1);rw [List.drop_one] at this;exact this
 |.pY _ :: g,fl,l,h,k=>by
  have:=gP g (show ms g (gM 2 fl)=true from h) (k.drop 2);have e:l.drop 2=l.tail.tail:=by cases l with
   |nil=>rfl
   |cons a l=>cases l <;> rfl
  rw [e] at this;exact this
 |.ux :: g,[],_,h,_=>by cases h
 |.ux :: g,f :: fl,[],h,_=>by
  simp only [ms,aad] at h;refine ⟨rfl,gP g (fl:=fl) h.2 ?_⟩;cases fl <;> trivial
 |.ux :: g,f :: fl,a :: l,h,k=>by
  simp only [ms,aad] at h;exact ⟨k.1 h.1,gP g h.2 k.2⟩
 |.tok _ _ _ :: g,fl,l,h,k=>gP g (show ms g fl=true from h) k
 |.dead :: g,fl,l,h,k=>gP g (show ms g fl=true from h) k
 |.lp _ :: g,fl,l,h,k=>gP g (show ms g fl=true from h) k
 |.bJ :: g,fl,l,h,k=>gP g (show ms g fl=true from h) k
theorem Ag {n:Nat} {α:Type} {g:α→AV} (hg:∀ x,(g x).under n=true):∀ xs:List α,aI n (xs.map g)=true
 |[]=>rfl
 |x :: xs=>by simp only [List.map_cons,aI,hg x,Ag hg xs,Bool.and_self]
theorem aQ.FT (n:Nat) (L:Nat→Nat):∀ (ps:aQ) (x:ps.T),qS n (ps.flags n) (ps.mq L x)
 |.nil,_=>trivial
 |.cons p .nil,x=>⟨fun h=>WX L p x h,trivial⟩
 |.cons p (.cons q ps),x=>⟨fun h=>WX L p x.1 h,(aQ.cons q ps).FT n L x.2⟩
where
 WX (L:Nat→Nat):∀ (p:aO) (x:p.T),p.lcl n=true→aI n (p.mq L x).ft=true
  |.list _ p,x,h=>Ag (fun y=>p.eK y h) _
  |.int _,_,h=>by cases h
  |.bool,_,h=>by cases h
  |.str,_,h=>by cases h
  |.agg _,_,h=>by cases h
  |.bu _,_,h=>by cases h
  |.own _ _ _,_,h=>by cases h
  |.bF _ _ _,_,h=>by cases h
  |.dO _,_,h=>by cases h
  |.two _ _,_,h=>by cases h
def GOk (n:Nat):GO→GO→Prop
 |.row cs el,.row cs' el'=>el'=el∧de cs cs'∧aI n cs'=true
 |.tok f sz e,.tok f' bT e'=>f=f'∧sz=bT∧e=e'
 |.defers a,.defers b=>a=b
 |.map es,.map es'=>(es'=es∧dP es=true)∨∃ l,es'=ar l∧ln (ah es) l∧aI n l=true
 |.bF fs sz e,.bF XS bT e'=>fs=XS∧sz=bT∧e=e'
 |.pY sR m left _ t,.pY mid' m' Cv cur t'=>sR=mid'∧m=m'∧left=Cv∧t=t'∧sR < n∧cur=none
 |.iI l p,.iI l' p'=>l'=l∧p'=p
 |.dv es sz e,.dv es' bT e'=>bT=sz∧e'=e∧ln es es'∧aI n es'=true
 |_,.dead=>True
 |_,_=>False
def LOk:GO→GO→GO→Prop
 |.loop _ _ fn sl n ps uk bd d _,.loop b p _ _ _ _ _ _ _ dn,go=>go=.loop b p fn sl n ps uk bd d dn
 |_,_,_=>False
theorem Lx {n:Nat} {o o':GO} (h:DZ o o'=true):GOk n o' o:=by
 cases o with
 |tok f sz e=>
  cases o' with
  |tok f' bT e'=>
   simp only [DZ,aad] at h;exact ⟨of_decide_eq_true h.1,aao h.2.1,aao h.2.2⟩
  |_=>cases h
 |defers a=>
  cases o' with
  |defers b=>cases a <;> cases b <;> first | rfl | cases h
  |_=>cases h
 |dead=>cases o' <;> trivial
 |_=>cases h
theorem Sn {k:Hg} {o o':GO} (h:Yx k o o'=true):LOk o o' (WU k o):=by
 cases o with
 |loop b p fn sl n ps uk bd d dn=>
  cases o' with
  |loop b' p' fn' sl' n' ps' Sp bd' d' dn'=>
   obtain ⟨rfl,rfl,rfl⟩:=Hg.JP (show k.is b' p' dn'=true from h);rfl
  |_=>cases h
 |_=>cases h
theorem sG (a:AV):a.entries=ar a.ft:=by cases a <;> rfl
theorem iY {n:Nat} {vs:List AV}:∀ {g:List GL} {B G:List GO} {l l':List AV},lG g G=some l→de l l'→Mx l l'→Af n g l'∧NF n g=true→aI n l'=true→eN vs g B G=true →
  ∀ id go,nth (eL vs g B l') id=some go→∃ go',nth G id=some go'∧(GOk n go' go∨∃ Mu,nth B id=some Mu∧LOk Mu go' go)
 |[],B,G,l,l',_,_,_,_,_,_,id,go,h=>by simp [eL,nth] at h
 |x :: g,[],G,l,l',_,_,_,_,_,ht,_,_,_=>by cases x <;> cases G <;> cases ht
 |x :: g,_ :: _,[],l,l',_,_,_,_,_,ht,_,_,_=>by cases x <;> cases ht
 |.row m :: g,b :: B,o :: G,l,l',hg,hw,hx,vj,hu,ht,id,go,h=>by
   obtain ⟨CA,Ip⟩:WV b o=true∧eN vs g B G=true:=by
    rw [← aad];cases o <;> exact ht
   cases o with
   |row cs el=>
    have rH:ac6 b=el:=by
     cases b <;> first | (cases CA; done) | exact aao CA
    change (match lG g G with
     |some r=>bif aau cs.length m then some (cs++r) else none
     |none=>none)=some l at hg
    split at hg
    ·rename_i r hr;cases hm:aau cs.length m with
     |false=>rw [hm] at hg; cases hg
     |true=>
      rw [hm] at hg;cases hg;have hm:=aao hm;obtain ⟨x,y,rfl,k1,k2,k3⟩:=hw.split;rw [gG,aad] at hu;have e1:(x++y).take m=x:=by rw [← hm,← k3,abv]
      have e2:(x++y).drop m=y:=by rw [← hm,← k3,abj]
      simp only [eL,e1,e2] at h;cases id with
      |zero=>simp only [nth] at h; cases h; exact ⟨.row cs el,rfl,.inl ⟨rH,k1,hu.1⟩⟩
      |succ id=>exact iY hr k2 (by obtain ⟨x',y',e1',k1',Rs,k3'⟩:=hx.split; have:=abt e1' (by rw [k3,k3']); rw [this.2]; exact Rs) (by rw [← e2]; exact vj) hu.2 Ip id go h
    ·cases hg
   |_=>cases hg
 |.tok loc sz e :: g,b :: B,o :: G,l,l',hg,hw,hx,vj,hu,ht,id,go,h=>by
   cases o with
   |tok f bT e'=>
    change (bif aau sz bT&&aau e e' then lG g G else none)=some l at hg;change (decide (f=NE vs loc)&&eN vs g B G)=true at ht;rw [aad] at ht;cases hm:(aau sz bT&&aau e e') with
    |false=>rw [hm] at hg; cases hg
    |true=>
     rw [hm] at hg;rw [aad] at hm;have q1:=aao hm.1;have q2:=aao hm.2;simp only [eL] at h;cases id with
     |zero=>
      simp only [nth] at h;cases h;exact ⟨.tok f bT e',rfl,.inl ⟨of_decide_eq_true ht.1,q1.symm,q2.symm⟩⟩
     |succ id=>exact iY hg hw hx vj hu ht.2 id go h
   |_=>cases hg
 |.dead :: g,b :: B,o :: G,l,l',hg,hw,hx,vj,hu,ht,id,go,h=>by
   simp only [eL] at h;have sk:lG g G=some l:=by cases o <;> exact hg
   have Ip:eN vs g B G=true:=by cases o <;> exact ht
   cases id with
   |zero=>
    simp only [nth] at h;cases h;exact ⟨o,rfl,.inl (by cases o <;> trivial)⟩
   |succ id=>exact iY sk hw hx vj hu Ip id go h
 |.lp k :: g,b :: B,o :: G,l,l',hg,hw,hx,vj,hu,ht,id,go,h=>by
   simp only [eL] at h;have sk:lG g G=some l:=by cases o <;> exact hg
   change (Yx k b o&&eN vs g B G)=true at ht;rw [aad] at ht;cases id with
   |zero=>
    simp only [nth] at h;cases h;exact ⟨o,rfl,.inr ⟨b,rfl,Sn ht.1⟩⟩
   |succ id=>exact iY sk hw hx vj hu ht.2 id go h
 |.bJ :: g,b :: B,o :: G,l,l',hg,hw,hx,vj,hu,ht,id,go,h=>by
   simp only [eL] at h;have sk:lG g G=some l:=by cases o <;> exact hg
   change (DZ b o&&eN vs g B G)=true at ht;rw [aad] at ht;cases id with
   |zero=>
    simp only [nth] at h;cases h;exact ⟨o,rfl,.inl (Lx ht.1)⟩
   |succ id=>exact iY sk hw hx vj hu ht.2 id go h
 |.map :: g,b :: B,o :: G,l,l',hg,hw,hx,vj,hu,ht,id,go,h=>by
   cases o with
   |map es=>
    change (match lG g G with
     |some r=>some (AV.list .lM 2 (ah es) :: r)
     |none=>none)=some l at hg
    change (dP es&&eN vs g B G)=true at ht;rw [aad] at ht;split at hg
    ·rename_i r hr;cases hg;cases l' with
     |nil=>exact hw.elim
     |cons a l'=>
      simp only [aI,aad] at hu;simp only [eL,fH,abn] at h;cases id with
      |zero=>
       simp only [nth] at h;cases h;refine ⟨.map es,rfl,.inl (.inl ⟨?_,ht.1⟩)⟩;rw [sG,hx.2.1 ht.1];exact p9 es
      |succ id=>exact iY hr hw.2 hx.2.2.2 vj hu.2 ht.2 id go h
    ·cases hg
   |_=>cases hg
 |.ND :: g,b :: B,o :: G,l,l',hg,hw,hx,vj,hu,ht,id,go,h=>by
   have Ip:eN vs g B G=true:=by cases o <;> exact ht
   cases o with
   |iI s pos=>
    change (match lG g G with
     |some r=>some (AV.str s :: AV.int .i64 pos :: r)
     |none=>none)=some l at hg
    split at hg
    ·rename_i r hr;cases hg
     match l',hw,hx,hu,h with
     |[],hw,_,_,_=>exact hw.elim
     |[_],hw,_,_,_=>exact hw.2.elim
     |a :: a' :: l',hw,hx,hu,h=>
      simp only [aI,aad] at hu;simp only [eL,fH,abn] at h;have e1:=hx.1 (by simp [AV.exact]);have e2:=hx.2.2.2.1 (by simp [AV.exact]);subst e1 e2;cases id with
      |zero=>
       simp only [nth] at h;cases h;exact ⟨.iI s pos,rfl,.inl ⟨rfl,by simp [AV.mN]⟩⟩
      |succ id=>exact iY hr hw.2.2 hx.2.2.2.2.2.2 vj hu.2.2 Ip id go h
    ·cases hg
   |_=>cases hg
 |.dv sz e :: g,b :: B,o :: G,l,l',hg,hw,hx,vj,hu,ht,id,go,h=>by
   have Ip:eN vs g B G=true:=by cases o <;> exact ht
   cases o with
   |dv es bT e'=>
    change (match lG g G with
     |some r=>bif aau sz bT&&aau e e' then some (AV.list .lM bT es :: r) else none
     |none=>none)=some l at hg
    split at hg
    ·rename_i r hr;cases hm:(aau sz bT&&aau e e') with
     |false=>rw [hm] at hg; cases hg
     |true=>
     rw [hm] at hg;rw [aad] at hm;have q1:=aao hm.1;have q2:=aao hm.2;cases hg;cases l' with
     |nil=>exact hw.elim
     |cons a l'=>
      simp only [aI,aad] at hu;simp only [eL,fH,abn] at h;cases id with
      |zero=>
       simp only [nth] at h;cases h;exact ⟨.dv es bT e',rfl,.inl ⟨q1,q2,hx.2.2.1,vj.1.1⟩⟩
      |succ id=>exact iY hr hw.2 hx.2.2.2 ⟨vj.1.2,vj.2⟩ hu.2 Ip id go h
    ·cases hg
   |_=>cases hg
 |.bF sz e :: g,b :: B,o :: G,l,l',hg,hw,hx,vj,hu,ht,id,go,h=>by
   have Ip:eN vs g B G=true:=by cases o <;> exact ht
   cases o with
   |bF fs bT e'=>
    change (match lG g G with
     |some r=>bif aau sz bT&&aau e e' then some (AV.list .lM 1 (c7 fs) :: r) else none
     |none=>none)=some l at hg
    split at hg
    ·rename_i r hr;cases hm:(aau sz bT&&aau e e') with
     |false=>rw [hm] at hg; cases hg
     |true=>
     rw [hm] at hg;rw [aad] at hm;have q1:=aao hm.1;have q2:=aao hm.2;cases hg;cases l' with
     |nil=>exact hw.elim
     |cons a l'=>
      simp only [aI,aad] at hu;simp only [eL,fH,abn] at h;cases id with
      |zero=>
       simp only [nth] at h;cases h;refine ⟨.bF fs bT e',rfl,.inl ⟨?_,q1.symm,q2.symm⟩⟩;rw [hx.2.1 (z7 fs)];exact (xf fs).symm
      |succ id=>exact iY hr hw.2 hx.2.2.2 vj hu.2 Ip id go h
    ·cases hg
   |_=>cases hg
 |.ux :: g,b :: B,o :: G,l,l',hg,hw,hx,vj,hu,ht,id,go,h=>by
   have Ip:eN vs g B G=true:=by cases o <;> exact ht
   cases o with
   |map es=>
    change (match lG g G with
     |some r=>some (AV.list .lM 2 (ah es) :: r)
     |none=>none)=some l at hg
    split at hg
    ·rename_i r hr;cases hg;cases l' with
     |nil=>exact hw.elim
     |cons a l'=>
      simp only [aI,aad] at hu;simp only [eL,fH,abn] at h;cases id with
      |zero=>
       simp only [nth] at h;cases h;exact ⟨.map es,rfl,.inl (.inr ⟨a.ft,sG a,hx.2.2.1,vj.1.1⟩)⟩
      |succ id=>exact iY hr hw.2 hx.2.2.2 ⟨vj.1.2,vj.2⟩ hu.2 Ip id go h
    ·cases hg
   |_=>cases hg
 |.pY sR :: g,b :: B,o :: G,l,l',hg,hw,hx,vj,hu,ht,id,go,h=>by
   obtain ⟨CA,Ip⟩:WW b o=true∧eN vs g B G=true:=by
    rw [← aad];cases o <;> exact ht
   cases o with
   |pY mid' k left cur t=>
    have rH:ac5 b=t:=by
     cases b <;> first | (cases CA; done) | exact aao CA
    change (match lG g G with
     |some r=>bif aau sR mid' then some (AV.int .i64 k :: AV.list .lM 1 (c7 left) :: r) else none
     |none=>none)=some l at hg
    split at hg
    ·rename_i r hr;cases hm:aau sR mid' with
     |false=>rw [hm] at hg; cases hg
     |true=>
     rw [hm] at hg;have q1:=aao hm;subst q1;cases hg;have hmp:=vj.2;simp only [NF,aad] at hmp
     match l',hw,hx,hu,h with
     |[],hw,_,_,_=>exact hw.elim
     |[_],hw,_,_,_=>exact hw.2.elim
     |a :: a' :: l',hw,hx,hu,h=>
      simp only [aI,aad] at hu;simp only [eL,fH,abn] at h;have e1:=hx.1 (by simp [AV.exact]);have e2:=hx.2.2.2.2.1 (z7 left);subst e1;cases id with
      |zero=>
       simp only [nth] at h;cases h;refine ⟨.pY sR k left cur t,rfl,.inl ⟨rfl,by simp [AV.mN],?_,rH.symm,lm hmp.1,rfl⟩⟩;rw [e2];exact (xf left).symm
      |succ id=>exact iY hr hw.2.2 hx.2.2.2.2.2.2 ⟨vj.1,hmp.2⟩ hu.2.2 Ip id go h
    ·cases hg
   |_=>cases hg
theorem dE {vs:List AV}:∀ {g:List GL} {B:List GO} {l:List AV},(eL vs g B l).length=g.length
 |[],_,_=>rfl
 |.row m :: g,B,l=>by simp [eL,dE (g:=g)]
 |.tok _ _ _ :: g,B,l=>by simp [eL,dE (g:=g)]
 |.dead :: g,B,l=>by simp [eL,dE (g:=g)]
 |.lp _ :: g,B,l=>by simp [eL,dE (g:=g)]
 |.bJ :: g,B,l=>by simp [eL,dE (g:=g)]
 |.map :: g,B,l=>by simp [eL,dE (g:=g)]
 |.dv _ _ :: g,B,l=>by simp [eL,dE (g:=g)]
 |.ND :: g,B,l=>by simp [eL,dE (g:=g)]
 |.bF _ _ :: g,B,l=>by simp [eL,dE (g:=g)]
 |.ux :: g,B,l=>by simp [eL,dE (g:=g)]
 |.pY _ :: g,B,l=>by simp [eL,dE (g:=g)]
theorem iP.lok {R0:ak} {w0:World} {WY:RO} {Mu go' go:GO} {ro:RO} (e:Ext R0 w0 R w) (h0:iP R0 w0 Mu WY) (hle:cV WY ro) (h:iP R' w go' ro) (k:LOk Mu go' go):iP R w go ro:=by
 cases Mu with
 |loop b p fn sl n ps uk bd d dn=>
  cases go' with
  |loop b' p' fn' sl' n' ps' Sp bd' d' dn'=>
   change go=_ at k;subst k;cases WY with
   |ck bb=>
    simp only [cV] at hle;subst hle;obtain ⟨⟨r0,db0,l1,l2,l3,l4,l5,l6,l7,l8,l9,l10⟩,l11⟩:=h0;obtain ⟨⟨r,db,m1,m2,m3,m4,m5,m6,m7,m8,m9,m10⟩,m11⟩:=h;obtain ⟨r1,q1,q2,q3,q4,q5,q6⟩:=e.lp bb r0 l1;have hr:r1=r:=by
     have:=q1.symm.trans m1;injection this with this;injection this with this
    subst hr;exact ⟨⟨r1,db0,q1,m2,m3,by rw [q2]; exact qj.mono e l4,by rw [q2]; exact l5,by rw [q3]; exact l6,by rw [q4]; exact l7,by rw [q5]; exact l8,by rw [q6]; exact l9,e.ck l10⟩,l11⟩
   |none=>exact h0.elim
   |bS=>exact h0.elim
   |tok _ _ _=>exact h0.elim
   |bF _=>exact h0.elim
  |_=>exact k.elim
 |_=>exact k.elim
theorem eH.cut {n:Nat}:∀ {es:List (AV × AV)} {ax:List MapEntry},ib (ah es)=true→eH R w es ax→eH (R.cut n) w es ax
 |[],[],_,_=>trivial
 |[],_ :: _,_,h=>h.elim
 |_ :: _,[],_,h=>h.elim
 |(k,v) :: es,en :: ax,he,h=>by
  simp only [ah,ib,AV.exact,abi,aad] at he;exact ⟨h.1.move (qR R n) (jQ n (pD he.1.1)),h.2.1.move (qR R n) (jQ n (pD he.1.2)),eH.cut he.2 h.2.2⟩
theorem FU {n:Nat} {v:AV} (h:v.under n=true) (k:v.ba=true):aI n v.cells=true:=by
 cases v <;> first | exact h | (simp [AV.ba] at k; done) | (simp only [AV.cells,aI,abi]; exact h)
theorem Ah {n sz:Nat}:∀ {es es':List AV},ln es es'→fc sz es→aI n es'=true→fc sz es'∧de (aq es) (aq es')∧aI n (aq es')=true
 |[],[],_,_,_=>⟨(fun e he=>by simp at he),trivial,rfl⟩
 |e :: es,e' :: es',h,k,yl=>by
  obtain ⟨h1,h2⟩:=h;simp only [aI,aad] at yl;obtain ⟨q1,q2⟩:=k e (by simp);obtain ⟨i1,i2,i3⟩:=Ah h2 (fun x hx=>k x (by simp [hx])) yl.2;have hc:=h1.cells q2;have ht:e'.ba=true:=by rw [h1.bu,q2]
  refine ⟨fun x hx=>?_,hc.append i2,by show aI n (e'.cells++aq es')=true; rw [gG,FU yl.1 ht,i3]; rfl⟩;rcases abp.1 hx with rfl|hx
  ·exact ⟨by rw [← hc.length,q1],ht⟩
  ·exact i1 x hx
 |[],_ :: _,h,_,_=>h.elim
 |_ :: _,[],h,_,_=>h.elim
theorem qd.head {l r:List AV} (h:qd l r):(AV.ft (fH l)).length=(AV.ft (fH r)).length:=by
 cases l <;> cases r <;> first | rfl | exact h.1 | exact h.elim
theorem qd.tail {l r:List AV} (h:qd l r):qd l.tail r.tail:=by
 cases l <;> cases r <;> first | exact h | exact h.2 | exact h.elim
theorem dG:∀ (g:List GL) {l r:List AV} (i:Nat),qd l r→mr g l i=mr g r i
 |[],_,_,_,_=>rfl
 |.dv _ _ :: g,l,r,0,h=>h.head
 |.dv _ _ :: g,l,r,i+1,h=>dG g i h.tail
 |.row _ :: g,l,r,0,h=>rfl
 |.row n :: g,l,r,i+1,h=>dG g i (h.drop n)
 |.map :: g,l,r,0,h=>rfl
 |.map :: g,l,r,i+1,h=>dG g i h.tail
 |.ND :: g,l,r,0,h=>rfl
 |.ND :: g,l,r,i+1,h=>dG g i h.tail.tail
 |.bF _ _ :: g,l,r,0,h=>rfl
 |.bF _ _ :: g,l,r,i+1,h=>dG g i h.tail
 |.ux :: g,l,r,0,h=>rfl
 |.ux :: g,l,r,i+1,h=>dG g i h.tail
 |.pY _ :: g,l,r,0,h=>rfl
 |.pY _ :: g,l,r,i+1,h=>dG g i h.tail.tail
 |.tok _ _ _ :: g,l,r,0,h=>rfl
 |.tok _ _ _ :: g,l,r,i+1,h=>dG g i h
 |.dead :: g,l,r,0,h=>rfl
 |.dead :: g,l,r,i+1,h=>dG g i h
 |.lp _ :: g,l,r,0,h=>rfl
 |.lp _ :: g,l,r,i+1,h=>dG g i h
 |.bJ :: g,l,r,0,h=>rfl
 |.bJ :: g,l,r,i+1,h=>dG g i h
theorem eH.ac9 {n:Nat}:∀ {es:List (AV × AV)} {l:List AV} {ax:List MapEntry},ln (ah es) l→aI n l=true→eH R w es ax→eH (R.cut n) w (ar l) ax
 |[],[],[],_,_,_=>trivial
 |[],[],_ :: _,_,_,h=>h.elim
 |[],_ :: _,_,h,_,_=>h.elim
 |(_,_) :: _,[],_,h,_,_=>h.elim
 |(_,_) :: _,_ :: _,[],_,_,h=>h.elim
 |(k,v) :: es,a :: l,en :: ax,hd,hu,h=>by
  obtain ⟨d1,d2⟩:=hd;simp only [aI,aad] at hu;have hc:=d1.cells rfl;have hl:[k,v].length=a.cells.length:=hc.length;cases a with
  |agg cs=>
   match cs,hc,hl with
   |[k',v'],hc,_=>
    have Yy:aI n [k',v']=true:=hu.1;simp only [aI,abi,aad] at Yy;exact ⟨(hc.1 _ _ _ h.1).move (qR R n) Yy.1,(hc.2.1 _ _ _ h.2.1).move (qR R n) Yy.2,eH.ac9 d2 hu.2 h.2.2⟩
   |[],_,hl=>simp [AV.cells] at hl
   |[_],_,hl=>simp [AV.cells] at hl
   |_ :: _ :: _ :: _,_,hl=>simp [AV.cells] at hl
  |_=>simp [AV.cells] at hl
theorem iP.gok {n:Nat} {go go':GO} {ro:RO} (h:iP R w go' ro) (k:GOk n go' go):iP (R.cut n) w go ro:=by
 cases go with
 |dead=>
  cases ro with
  |none=>trivial
  |bS=>trivial
  |ck b=>exact h.lt rfl
  |tok f b c=>exact h.lt rfl
  |bF ts=>exact fun j f b c hj=>h.lt ⟨j,f,c,hj⟩
 |row cs el=>
  cases go' with
  |row cs' el'=>
   cases ro with
   |ck b=>
    obtain ⟨vs,h1,h2,h3,h4⟩:=h;obtain ⟨rfl,k⟩:=k;exact ⟨vs,h1,(k.1.rel h2).move (qR R n) k.2,h3,h4⟩
   |none=>exact h.elim
   |bS=>exact h.elim
   |tok _ _ _=>exact h.elim
   |bF _=>exact h.elim
  |_=>exact k.elim
 |tok f sz e=>
  cases go' with
  |tok f' bT e'=>
   obtain ⟨rfl,rfl,rfl⟩:=k;cases ro with
   |ck b=>exact h.elim
   |none=>exact h.elim
   |bS=>exact h
   |tok _ _ _=>exact h
   |bF _=>exact h.elim
  |_=>exact k.elim
 |defers a=>
  cases go' with
  |defers b=>
   change b=a at k;subst k;cases ro <;> exact h
  |_=>exact k.elim
 |map es=>
  cases go' with
  |map es'=>
   cases ro with
   |ck b=>
    obtain ⟨ax,clock,h1,h2,h3⟩:=h;rcases k with ⟨rfl,k2⟩|⟨l,rfl,k2,k3⟩
    ·exact ⟨ax,clock,h1,eH.cut k2 h2,h3⟩
    ·exact ⟨ax,clock,h1,eH.ac9 k2 k3 h2,h3⟩
   |none=>exact h.elim
   |bS=>exact h.elim
   |tok _ _ _=>exact h.elim
   |bF _=>exact h.elim
  |_=>exact k.elim
 |bF fs sz e=>
  cases go' with
  |bF XS bT e'=>
   obtain ⟨rfl,rfl,rfl⟩:=k;cases ro <;> exact h
  |_=>exact k.elim
 |pY sR m left cur t=>
  cases go' with
  |pY mid' m' Cv E7 t'=>
   obtain ⟨rfl,rfl,rfl,rfl,k,rfl⟩:=k;cases ro with
   |ck b=>obtain ⟨bm,seen,c0,h1,h2,h3,h4,h5,h6,_⟩:=h; exact ⟨bm,seen,c0,lH.2 ⟨k,h1⟩,h2,h3,h4,h5,h6,fun i hi=>by cases hi⟩
   |none=>exact h.elim
   |bS=>exact h.elim
   |tok _ _ _=>exact h.elim
   |bF _=>exact h.elim
  |_=>exact k.elim
 |iI l p=>
  cases go' with
  |iI l' p'=>
   obtain ⟨rfl,rfl⟩:=k;cases ro <;> exact h
  |_=>exact k.elim
 |dv es sz e=>
  cases go' with
  |dv es' bT e'=>
   obtain ⟨rfl,rfl,k,kc⟩:=k;cases ro with
   |ck b=>exact h.elim
   |none=>exact h.elim
   |bF _=>exact h.elim
   |bS=>
    have he:es'=[]:=h;subst he;exact List.eq_nil_of_length_eq_zero k.length.symm
   |tok f b c=>
    obtain ⟨h0,h1,cur,vs,h2,h3,h4,h5,h6,h7,h8,h9⟩:=h;obtain ⟨k1,k2,k3⟩:=Ah k h1 kc;exact ⟨h0.trans k.length,k1,cur,vs,h2,h3,h4,h5,h6,(k2.rel h7).move (qR R n) k3,h8,h9⟩
  |_=>exact k.elim
 |_=>cases go' <;> exact k.elim
theorem sj.ids:∀ {l:List Nat} {ds:List Deferred},sj R l ds→∀ id∈l,id < R.obj.length
 |[],[],_,id,hi=>by simp at hi
 |x :: l,d :: ds,h,id,hi=>by
  obtain ⟨⟨b,h1,_⟩,h2⟩:=h;rcases abp.1 hi with rfl|hi
  ·exact cg h1
  ·exact sj.ids h2 id hi
 |[],_ :: _,h,_,_=>h.elim
 |_ :: _,[],h,_,_=>h.elim
theorem sj.cut {n:Nat}:∀ {l:List Nat} {ds:List Deferred},sj R l ds→(∀ id∈l,id < n)→sj (R.cut n) l ds
 |[],[],_,_=>trivial
 |x :: l,d :: ds,h,hi=>by
  obtain ⟨⟨b,h1,h3⟩,h2⟩:=h;exact ⟨⟨b,lH.2 ⟨hi x (by simp),h1⟩,h3⟩,sj.cut h2 fun id hm=>hi id (by simp [hm])⟩
 |[],_ :: _,h,_=>h.elim
 |_ :: _,[],h,_=>h.elim
theorem xi {n:Nat} {tmps:Array Value} {ab base:bk} (hT:qj R w β ab tmps):∀ {l:List (Tmp × Nat × Nat)},JQ ab l=true→qj (R.cut n) w β base tmps→qj (R.cut n) w β (qQ l base) tmps
 |[],_,h=>h
 |(t,k,o) :: l,hl,h=>fun i hi=>by
  simp only [JQ,aad] at hl;simp only [qQ] at hi ⊢;by_cases e:t=i
  ·subst e;rw [aC];have h1:=hl.1;split at h1
   ·rename_i k' o' hk;rw [aad] at h1;have e1:=aao h1.1;have e2:=aao h1.2;subst e1 e2;obtain ⟨c,q1,q2⟩:=hT t (by rw [hk]; simp);rw [hk] at q2;exact ⟨c,q1,q2⟩
   ·cases h1
  ·rw [aW e] at hi ⊢;exact xi hT hl.2 h i hi
theorem da.CF {t:da} {v:t.ps.T} (hs:aZ s s') (h0:bq E R w β s a) (h:bq E R' w' β' s' a') (st:Step R w β s.boxes R' w' β' s'.boxes) (hd:t.dec s s'=some v) :
  bq E (R'.cut s.G.length) w' β' (t.st s v) a'∧Step R w β s.boxes (R'.cut s.G.length) w' β' (t.st s v).boxes:=by
 have hlen:=h0.g.len;unfold da.dec at hd;cases dS:t.ok s s' with
 |false=>rw [dS] at hd; cases hd
 |true=>
 rw [dS] at hd;simp only [cond_true] at hd;unfold da.ok at dS;simp only [aad] at dS;obtain ⟨⟨⟨⟨⟨k1,k2⟩,k3⟩,k4⟩,k5,k7,k8⟩,k6⟩:=dS;obtain ⟨pre,BQ⟩:=hs.sl;obtain ⟨preB,WZ⟩:=hs.bx;rw [BQ,FP] at k1;rw [WZ,FP] at k2;have k3:=JR k3;have k4:=aao k4;split at hd
 ·rename_i la lb lc g1 g2 g3;cases hv:t.ps.Lv (mr t.g lc) (la++(lb++lc)) with
  |none=>rw [hv] at hd; cases hd
  |some v'=>
  rw [hv] at hd;simp only [Option.bind_some] at hd;cases Hd:eN (t.ss v') t.g s.G s'.G with
  |false=>rw [Hd] at hd; cases hd
  |true=>
  rw [Hd] at hd;cases hd;have lsl:∀ {ts:List Tmp} {l:List AV},z8 s'.ab ts=some l→l.length=ts.length:=by
   intro ts
   induction ts with
   |nil=>intro l hl; simp only [z8] at hl; cases hl; rfl
   |cons t ts ih=>
    intro l hl;unfold z8 at hl;split at hl
    ·split at hl
     ·rename_i hr;cases hl;simp [ih hr]
     ·cases hl
    ·cases hl
  have lbx:∀ {bx:List (Nat × Nat)} {l:List AV},Aa s'.boxes bx=some l→l.length=D0 bx:=by
   intro bx
   induction bx with
   |nil=>intro l hl; simp only [Aa] at hl; cases hl; rfl
   |cons x bx ih=>
    obtain ⟨k,m⟩:=x;intro l hl;unfold Aa at hl;split at hl
    ·split at hl
     ·rename_i cs _ _ r hr;cases hm:aau cs.length m with
      |false=>rw [hm] at hl; cases hl
      |true=>
       rw [hm] at hl;cases hl;simp only [D0,List.length_append,ih hr,aao hm]
     ·cases hl
    ·cases hl
  obtain ⟨hw,hex⟩:=t.ps.Sl _ hv;have W0:t.ss v=t.ps.mq (mr t.g lc) v:=by
   unfold da.ss;congr 1;funext i;have hl:=hex.ac4.trans (t.ps.qO (mr t.g lc) (fun _=>0) v);have s7:=(hl.drop t.sl.length).drop (D0 t.bx);rw [← lsl g1,abj,← lbx g2,abj,lsl g1,lbx g2] at s7;exact (dG t.g i s7).symm
  have hu:aI s.G.length (t.ss v)=true:=by
   rw [W0,t.ps.Lw _ hv];exact t.ps.Iw _ k5 _
  rw [← W0] at hw hex;have Yz:∃ xa xb xc,t.ss v=xa++(xb++xc)∧de la xa∧de lb xb∧de lc xc∧xa.length=la.length∧xb.length=lb.length∧Mx lc xc:=by
   obtain ⟨xa,r,h1,h2,h3,h4⟩:=hw.split;obtain ⟨xb,xc,rfl,h6,h7,h8⟩:=h3.split;rw [h1] at hex;obtain ⟨ya,yr,g1,_,g3,g4⟩:=hex.split;obtain ⟨_,rfl⟩:=abt g1 (by rw [h4,g4]);obtain ⟨yb,yc,k1,_,k3,k4⟩:=g3.split;obtain ⟨_,rfl⟩:=abt k1 (by rw [h8,k4]);exact ⟨xa,xb,xc,h1,h2,h6,h7,h4,h8,k3⟩
  obtain ⟨xa,xb,xc,hx,wa,wb,wc,la1,lb1,exc⟩:=Yz;have hu':aI s.G.length xa=true∧aI s.G.length xb=true∧aI s.G.length xc=true:=by
   rw [hx,gG,gG] at hu;simp only [aad] at hu;exact ⟨hu.1,hu.2.1,hu.2.2⟩
  have e1:(t.ss v).drop t.sl.length=xb++xc:=by rw [hx,← lsl g1,← la1,abj]
  have e2:(xb++xc).drop (D0 t.bx)=xc:=by rw [← lbx g2,← lb1,abj]
  have vj:Af s.G.length t.g xc:=by
   have hf:=((aQ.FT s.G.length _ t.ps v).drop t.sl.length).drop (D0 t.bx) (l:=(t.ss v).drop t.sl.length);rw [e1,e2] at hf;exact gP t.g k7 hf
  have old:∀ {l:List AV} {cs:List Value},aP R w l cs→aI s.G.length l=true:=fun hr=>hr.under (by omega)
  have mv:=qR R' s.G.length;have hbx:∀ k cs,eF s'.boxes k=some cs→Ae R' w' β' k cs:=fun k cs hk=>h.b.box k cs hk
  have bok:∀ k cs,eF (xg t.bx (xb++xc) s.boxes) k=some cs→Ae (R'.cut s.G.length) w' β' k cs∧∃ cs',eF s'.boxes k=some cs':=fun k cs hk=>by
   refine FR (K:=fun _=>False) hbx g2 wb hu'.2.1 (fun k cs _ h1 h2=>?_) k cs (fun h=>h) hk;refine ⟨by rw [WZ]; exact FO h1 h2 k2,?_⟩;obtain ⟨⟨vs,el,_,h4,_⟩,_⟩:=h0.b.box k cs h2;exact old h4
  have stG:(t.st s v).G=eL (t.ss v) t.g s.G xc:=by simp only [da.st,e1,e2]
  have stB:(t.st s v).boxes=xg t.bx (xb++xc) s.boxes:=by simp only [da.st,e1]
  have stS:(t.st s v).ab=qQ t.lps (qP t.sl (xa++(xb++xc)) (Ab t.W s.ab)):=by simp only [da.st,hx]
  have ext:Ext R w (R'.cut s.G.length) w':=⟨st.ext.I,st.ext.cell,fun id ro hi=>by
   obtain ⟨od,h1,h2⟩:=st.ext.obj id ro hi;exact ⟨od,lH.2 ⟨by have:=cg hi; omega,h1⟩,h2⟩,st.ext.lp⟩
  refine ⟨⟨⟨?_,fun id go ro h1 h2=>?_,fun i j ri rj b h1 h2=>h.g.inj i j ri rj b (lH.1 h1).2 (lH.1 h2).2,h.g.wf,fun g cs hg=>(h.g.cw g cs hg).move mv (cN _ (E.qh g cs hg)),h.g.lo⟩,?_,?_,?_,?_⟩,?_⟩
  ·rw [stG,dE,k4];have:=h.g.len;have h3:s.G.length≤R'.obj.length:=by
    rcases Nat.lt_or_ge R'.obj.length s.G.length with bY|oP
    ·exfalso;have hx:R'.obj.length < R.obj.length:=by omega
     obtain ⟨od,h1,_⟩:=st.ext.obj R'.obj.length R.obj[R'.obj.length] (by rw [bj]; exact abr hx);have:=cg h1;omega
    ·exact oP
   simp [ak.cut];omega
  ·rw [stG] at h1;obtain ⟨go',h3,h4⟩:=iY g3 wc exc ⟨vj,k8⟩ hu'.2.2 Hd id go h1;rcases h4 with h4|⟨Mu,h5,h4⟩
   ·exact (h.g.obj id go' ro h3 (lH.1 h2).2).gok h4
   ·have bY:=cg h5;rw [← hlen] at bY;obtain ⟨WY,h6⟩:∃ WY,nth R.obj id=some WY:=⟨R.obj[id],by rw [bj]; exact abr bY⟩;obtain ⟨od,h7,h8⟩:=ext.obj id WY h6;have:od=ro:=Option.some.inj (h7.symm.trans h2);subst this;exact iP.lok ext (h0.g.obj id Mu WY h5 h6) h8 (h.g.obj id go' od h3 (lH.1 h2).2) h4
  ·rw [stB];refine ⟨fun k cs hk=>(bok k cs hk).1,fun k k' cs cs' hk jf he=>?_⟩;obtain ⟨_,c1,JS⟩:=bok k cs hk;obtain ⟨_,c2,Sb⟩:=bok k' cs' jf;exact h.b.inj k k' c1 c2 JS Sb he
  ·rw [stS];have hT:Ac (R'.cut s.G.length) w' β' (fun _=>False) (qP t.sl (xa++(xb++xc)) (Ab t.W s.ab)) a'.tmps:=by
    refine xh mv h.t g1 (l':=xa) (r:=lb++lc) (r':=xb++xc) (wa.append (wb.append wc)) la1.symm hu'.1 (Ad fun i hi hn=>?_);have hi1:inK t.sl t.W i=false:=by
     simp only [inK,Bool.or_eq_false_iff];refine ⟨?_,?_⟩
     ·cases hc:Ru t.sl i with
      |false=>rfl
      |true=>exact absurd (.inr (.inl (D3.1 hc))) hi
     ·cases hc:Ru t.W i with
      |false=>rfl
      |true=>exact absurd (.inl (D3.1 hc)) hi
    have hk:=D5 hi1 k1;rw [← BQ] at hk;obtain ⟨c,h1,h2⟩:=h.t i (by rw [hk]; exact hn);rw [hk] at h2;refine ⟨c,h1,?_⟩;obtain ⟨c0,_,h4⟩:=h0.t i hn;revert h2 h4;cases lk s.ab i with
    |none=>exact fun _ _=>trivial
    |lp k off=>exact fun h2 _=>h2
    |v x=>exact fun h2 h4=>Rel.move mv (Rel.under (by omega) h4) h2
   exact xi h.t k6 (fun i hi=>hT i (fun h=>h) hi)
  ·show a'.tmps.size=s.n;rw [h.n,hs.n]
  ·show sj _ s.marks a'.defers;have:=h.d;rw [k3] at this;exact this.cut fun id hid=>by have:=h0.d.ids id hid; omega
  ·refine ⟨ext,st.os,st.tape,st.output,st.size,st.bJ,fun b hb ho=>st.own b hb ?_,st.im⟩;rcases ho with ho|⟨k,cs,hk,rfl⟩
   ·exact .inl (FQ ho)
   ·rw [stB] at hk;obtain ⟨_,c1,JS⟩:=bok k cs hk;exact .inr ⟨k,c1,JS,rfl⟩
 ·cases hd
end CF
end Go.Am
namespace Go.Am
open Go
def jj:bk→bk
 |[]=>[]
 |.put d (.lp _ _) :: l=>.put d .none :: jj l
 |.put d x :: l=>.put d x :: jj l
 |.kill _ :: l=>jj l
def SV.BU:SV→SV
 |.lp _ _=>.none
 |x=>x
theorem vH (t:Nat):∀ l:bk,lk (jj l) t=(lk l t).BU
 |[]=>rfl
 |.put d x :: l=>by
  cases x <;> simp only [jj] <;> by_cases e:d=t <;> first | (subst e; rw [aC,aC]; rfl) | (rw [aW e,aW e]; exact vH t l)
 |.kill d :: l=>by
  simp only [jj,lk];rw [vH t l];cases lk l t with
  |lp k off=>
   by_cases e:k=d
   ·subst e; simp [SV.BU]
   ·simp [oY e,SV.BU]
  |_=>rfl
theorem pE:∀ l:bk,Jl (jj l)=true
 |[]=>rfl
 |.put d x :: l=>by
  cases x <;> simp only [jj,Jl] <;> exact pE l
 |.kill d :: l=>by simp only [jj]; exact pE l
def rfQ (E:Env) (Q:Exit→St→Prop) (s:St) (G':List GO):Prop:=
 match nth G' (s.G.length+1) with
 |some (.loop busy pending _ _ _ _ _ _ _ done)=>(busy=false∨done=true) ∧
  match pending with
  |none=>Q .normal ⟨s.ab,s.boxes,aG G' (s.G.length+1) .dead,s.G.length :: s.marks,s.ro,s.n⟩
  |some c=>hU E c Q ⟨s.ab,s.boxes,aG G' (s.G.length+1) .dead,s.G.length :: s.marks,s.ro,s.n⟩
 |_=>False
theorem Ix {busy done:Bool} (h:busy=false∨done=true):(if done=true then LoopState.done else if busy=true then abC else LoopState.ready)≠abC:=by
 rcases h with rfl|rfl
 ·cases done <;> simp
 ·simp
theorem hU.rangeFunc {E:Env} {Q:Exit→St→Prop} {s:St} (fp:Nat) {g:Operand} {ps:Array Tmp} {assign body:Code} (ca:s.ro=none) {f:FuncId} {first cap:List AV} (hg:bQ E s.ab g=.v (.fn f first cap))
  (h:cO E f (first++[.yield (s.G.length+1)]++cap) (s.G++[.defers true]++[.loop false none fp (jj s.ab) s.n ps.toList assign body s.G.length false]) (fun _ G'=>rfQ E Q s G')) :
  hU E (.rangeFunc g ps assign body) Q s:=fun R w β a F hr hf=>by
 rw [ca] at hf;have hf':F=abq:=hf;subst hf';refine wpIn_rangeFunc fun fn _=>?_
 have rg:=aY hr g;rw [hg] at rg;have rg':Rel R w (.fn f first cap) (a.eval g):=rg
 -- the block for the deferred calls
 have WM:iP (R.add (.ck w.heap.size)) (w.alloc (.deferred (some []))) (.defers true) (.ck w.heap.size):=heap_alloc_new w _;have h1:=hr.nE (.deferred (some [])) (.defers true) (.ck w.heap.size) (by exact fun _ h=>h) WM;have s1:=dD hr (.deferred (some [])) (.ck w.heap.size) (by exact fun _ h=>h);have gi:(w.alloc (.deferred (some []))).heap.size=w.heap.size+1:=by simp
 generalize hw1:w.alloc (.deferred (some []))=w1 at *;generalize hR1:R.add (.ck w.heap.size)=R1 at *
 -- the loop's record
 let xW:Loop:={ state:=.ready,pending:=none,fn:=fn,tmps:=a.tmps,params:=ps,assign:=assign,body:=body,defers:=w.heap.size }
 have M1:nth R1.obj s.G.length=some (.ck w.heap.size):=by rw [← hR1]; exact iy hr _
 have e2:Ext R1 w1 (R1.add (.ck w1.heap.size)) (w1.alloc (.loop xW)):=iV h1.g.wf _ _;have hd2:iP (R1.add (.ck w1.heap.size)) (w1.alloc (.loop xW)) (.loop false none fp (jj s.ab) s.n ps.toList assign body s.G.length false) (.ck w1.heap.size):=by
  refine ⟨⟨xW,w.heap.size,heap_alloc_new w1 _,rfl,rfl,fun i hi=>?_,hr.n,by simp [xW],rfl,rfl,rfl,e2.ck M1⟩,pE _⟩;rw [vH] at hi ⊢;have cK:lk s.ab i≠.none:=fun e=>hi (by rw [e]; rfl)
  obtain ⟨c,k1,k2⟩:=hr.t i cK;refine ⟨c,k1,?_⟩;cases hx:lk s.ab i with
  |none=>exact absurd hx cK
  |lp k off=>rw [hx] at hi; exact absurd rfl hi
  |v x=>
   rw [hx] at k2;exact Rel.mono (s1.ext.trans e2) (show Rel R w x c from k2)
 have h2:=h1.nE (.loop xW) (.loop false none fp (jj s.ab) s.n ps.toList assign body s.G.length false) (.ck w1.heap.size) (by exact fun _ h=>h) hd2;have s2:=dD h1 (.loop xW) (.ck w1.heap.size) (by exact fun _ h=>h);have ada:nth (R1.add (.ck w1.heap.size)).obj (s.G.length+1)=some (.ck w1.heap.size):=by
  have:=iy h1 (.ck w1.heap.size);simpa [St.fj] using this
 have st:=s1.trans s2;generalize hR2:R1.add (.ck w1.heap.size)=R2 at *;generalize hfv:a.eval g=fv at rg';cases rg' with
 | @fn _ _ _ vs us q1 q2=>
 refine ⟨w.heap.size+1,[{ target:=.collected w.heap.size,args:=#[] }],w1.alloc (.loop xW),{ target:=.fn (.func f) ⟨us⟩,args:=⟨vs⟩++#[.func (.yield (w.heap.size+1)) #[] #[]] },w1.alloc (.loop xW),f,
  ⟨vs++[.func (.yield (w.heap.size+1)) #[] #[]]++us⟩,w1.alloc (.loop xW),?_,?_,?_,?_,?_,?_⟩
 ·have:abq.round=none:=rfl;rw [this,run_enterLoop_outer,hw1]
 ·simp only [resolve,hfv,Deferred.ofValue,Sem.run_pure];simp [Act.eval]
 ·intro f' _;exact trivial
 ·have:=pq (P:=E.P) h.1 (⟨vs++[.func (.yield (w.heap.size+1)) #[] #[]]++us⟩) (w1.alloc (.loop xW));simpa [invoke] using this
 ·intro hc; cases hc
 ·have hG:(s.fj (.defers true)).fj (.loop false none fp (jj s.ab) s.n ps.toList assign body s.G.length false)=s.cP (s.G++[.defers true]++[.loop false none fp (jj s.ab) s.n ps.toList assign body s.G.length false]):=rfl;have hyl:Rel R2 (w1.alloc (.loop xW)) (.yield (s.G.length+1)) (.func (.yield (w.heap.size+1)) #[] #[]):=by
   rw [← gi];exact .yield ada
  refine (h.2 R2 (w1.alloc (.loop xW)) _ h2.g ((((q1.mono st.ext).append (.one hyl)).append (q2.mono st.ext)))).mono ?_;intro e w3 he;cases e with
  |panicked c=>exact he.elim
  |outgrown=>exact he.elim
  |returned c=>
   obtain ⟨r,G',R3,hQ,fF,hg3,st3⟩:=he;obtain ⟨p1,p2⟩:=h2.vB hg3 st3;unfold rfQ at hQ;split at hQ
   ·rename_i busy pending ff sl nn pp uk bd dd done YA;obtain ⟨hbd,hQ⟩:=hQ;have adb:nth R3.obj (s.G.length+1)=some (.ck w1.heap.size):=st3.ext.ck ada;obtain ⟨⟨r3,db,l1,l2,l3,_,_,_,_,_,_,_⟩,_⟩:=p1.g.obj _ _ _ YA adb;have YB:r3.state≠.busy:=by rw [l2]; exact Ix hbd
    have l1':w3.heap[w.heap.size+1]?=some (.loop r3):=by rw [← gi]; exact l1
    refine ⟨r3.pending,_,run_endLoop l1' YB,?_⟩;rw [l3]
    -- the record is dead
    have ade:nth R3.obj s.G.length=some (.ck w.heap.size):=st3.ext.ck (by rw [← hR2] at e2 ⊢; exact e2.ck M1);have key:∀ x:Obj,rK x→(∀ r,Obj.loop r3=.loop r→∃ r',x=.loop r'∧tP r r')→bq E R3 (World.put w3 w1.heap.size x) β ⟨s.ab,s.boxes,aG G' (s.G.length+1) .dead,s.G.length :: s.marks,s.ro,s.n⟩ { a with defers:=[{ target:=.collected w.heap.size,args:=#[] }]++a.defers }∧Step R w β s.boxes R3 (World.put w3 w1.heap.size x) β s.boxes:=fun x hx hlx=>by
     obtain ⟨z1,z2⟩:=p1.setObj (x':=x) (go':=.dead) adb l1 trivial hx hlx (show w1.heap.size < _ by simp [World.put]; exact bo l1);exact ⟨⟨z1.g,z1.b,z1.t,z1.n,⟨⟨w.heap.size,ade,rfl⟩,z1.d⟩⟩,(st.trans p2).trans z2⟩
    obtain ⟨z1,z2⟩:=key (.loop { r3 with state:=.exhausted,pending:=pending }) trivial (fun r e=>⟨_,rfl,by cases e; exact ⟨rfl,rfl,rfl,rfl,rfl⟩⟩);rw [gi] at z1 z2;cases pending with
    |none=>exact ⟨_,R3,β,hQ,z1,z2,rfl⟩
    |some c=>
     refine wpIn_mono (hQ R3 _ β _ abq z1 (by show bZ R3 s.ro abq; rw [ca]; rfl)) ?_;rintro e a'' WB ⟨Fa,RR,β'',Yj,DN,wW,CC⟩;exact ⟨Fa,RR,β'',Yj,DN,z2.trans wW,CC⟩
   ·exact hQ.elim
def Iy (id:Nat) (Q:Bool→List GO→Prop):Exit→St→Prop:=fun e s=>match nth s.G id with
 |some (.loop _ _ fn sl n ps uk bd d _)=>match e with
  |.normal=>Q true (aG s.G id (.loop false none fn sl n ps uk bd d false))
  |.ret=>Q false (aG s.G id (.loop false (some .ret) fn sl n ps uk bd d true))
  |.exit i=>Q false (aG s.G id (.loop false (some (.exit i)) fn sl n ps uk bd d true))
  |_=>False
 |_=>False
def D6 (E:Env) (id:Nat) (body:Code) (Q:Bool→List GO→Prop):Exit→St→Prop:=fun e s=>match e with
 |.normal=>match nth s.G id with
  |some (.loop false p fn sl n ps uk bd d false)=>hU E body (Iy id Q) (s.cP (aG s.G id (.loop true p fn sl n ps uk bd d false)))
  |_=>False
 |_=>False
def Ai:List Tmp→List AV→bk→bk
 |t :: ts,a :: l,r=>Ai ts l (.put t (.v a) :: r)
 |_,_,r=>r
def St.round (id:Nat) (ab:bk) (n:Nat) (G:List GO):St:=⟨ab,[],G,[],some id,n⟩
theorem Aj {R:ak} {w:World} {β:Nat→Nat}:∀ {ts:List Tmp} {l:List AV} {cs:List Value} {r:bk} {tmps:Array Value},qj R w β r tmps→aP R w l cs→l.length=ts.length→(∀ t∈ts,t < tmps.size) →
  qj R w β (Ai ts l r) ((ts.zip cs).foldl (fun tmps (t,a)=>tmps.setIfInBounds t a) tmps)
 |[],[],_,_,_,h,.nil,_,_=>h
 |t :: ts,a :: l,c :: cs,r,tmps,h,.cons hx hl,hlen,ht=>by
  have gi:t < tmps.size:=ht t (by simp);simp only [Ai,List.zip_cons_cons,List.foldl_cons];refine Aj ?_ hl (by simpa using hlen) (fun t' h'=>by simpa using ht t' (by simp [h']));have:=qj.put (a:={ tmps:=tmps,defers:=[] }) h (d:=t) (x:=.v a) (c:=c) gi hx;simpa [Act.put] using this
 |[],_ :: _,_,_,_,_,_,hlen,_=>by simp at hlen
 |_ :: _,[],_,_,_,_,_,hlen,_=>by simp at hlen
theorem Iz (l:List (Tmp × Value)):∀ tmps:Array Value,(l.foldl (fun (tmps:Array Value) (x:Tmp × Value)=>tmps.setIfInBounds x.1 x.2) tmps).size=tmps.size:=by
 induction l with
 |nil=>intro _; rfl
 |cons x l ih=>intro tmps; rw [List.foldl_cons,ih]; simp
theorem mh.intro {E:Env} {id:Nat} {args:List AV} {G:List GO} {Q:Bool→List GO→Prop} {fn:FuncId} {ab:bk} {n:Nat} {ps:List Tmp} {assign body:Code} {d:Nat} {p:Option Code}
  (hG:nth G id=some (.loop false p fn ab n ps assign body d false)) (hl:args.length=ps.length) (Ms:∀ t∈ps,t < n)
  (h:hU E assign (D6 E id body Q) (St.round id (Ai ps args ab) n G)):mh E id args G Q:=fun R w cs b hg hr hb=>by
 obtain ⟨⟨r,db,l1,l2,l3,l4,l5,l6,l7,l8,l9,l10⟩,l11⟩:=hg.obj id _ _ hG hb;have hlen:=hr.length;refine ⟨r,l1,by rw [l6]; simp; omega,?_⟩;have agX:Step R w (fun _=>0) gy R w (fun _=>0) gy:=Step.refl _ _ _ _;have agY:bq E R w (fun _=>0) (St.round id (Ai ps args ab) n G) { tmps:=(r.params.zip ⟨cs⟩).foldl (fun tmps (t,a)=>tmps.setIfInBounds t a) r.tmps,defers:=[] }:=by
  have adf:(r.params.zip ⟨cs⟩).foldl (fun (tmps:Array Value) (x:Tmp × Value)=>tmps.setIfInBounds x.1 x.2) r.tmps=(ps.zip cs).foldl (fun (tmps:Array Value) (x:Tmp × Value)=>tmps.setIfInBounds x.1 x.2) r.tmps:=by
   rw [← Array.foldl_toList];simp [l6]
  refine ⟨hg,⟨fun k cs hk=>?_,fun k k' c c' hk=>?_⟩,?_,?_,trivial⟩
  ·simp [St.round,eF] at hk
  ·simp [St.round,eF] at hk
  ·show qj _ _ _ _ _;have:=Aj (ts:=ps) (l:=args) (cs:=cs) l4 hr hl (fun t ht=>by rw [l5]; exact Ms t ht);rw [← adf] at this;exact this
  ·show _=n;have:=Iz (ps.zip cs) r.tmps;rw [← adf] at this;exact this.trans l5
 have Yf:∀ (k:Nat) (cs:List AV),eF (St.round id (Ai ps args ab) n G).boxes k≠some cs:=fun k cs hk=>by simp [St.round,eF] at hk
 rw [l7,l8];refine roundIn_of_wpIn trivial (wpIn_mono (h R w (fun _=>0) _ (abq.inRound b) agY ⟨b,hb,rfl⟩) ?_);rintro e a1 w1 ⟨s1,R1,β1,hq,Cw,st1,agZ⟩;unfold D6 at hq;cases e with
 |normal=>
  simp only at hq;split at hq
  ·rename_i p' fn' sl' n' ps' Sp bd' d' hG1;have Ih:nth R1.obj id=some (.ck b):=st1.ext.ck hb;obtain ⟨⟨r1,db1,m1,m2,m3,m4,m5,m6,m7,m8,m9,m10⟩,m11⟩:=Cw.g.obj id _ _ hG1 Ih;refine ⟨_,run_beginRound m1 m2,?_⟩;obtain ⟨z1,z2⟩:=Cw.setObj (x':=.loop { r1 with state:=.busy }) (go':=.loop true p' fn' sl' n' ps' Sp bd' d' false) Ih m1 trivial trivial (fun r e=>⟨_,rfl,by cases e; exact ⟨rfl,rfl,rfl,rfl,rfl⟩⟩)
    ⟨⟨{ r1 with state:=.busy },db1,iR _ _ _ (bo m1),rfl,m3,m4.mono (pg (x':=.loop { r1 with state:=.busy }) m1 trivial trivial (fun r e=>⟨_,rfl,by cases e; exact ⟨rfl,rfl,rfl,rfl,rfl⟩⟩)),m5,m6,m7,m8,m9,m10⟩,m11⟩
   refine wpIn_mono (hq R1 _ β1 a1 (abq.inRound b) z1 (by show bZ R1 s1.ro _; rw [agZ]; exact ⟨b,Ih,rfl⟩)) ?_;rintro e2 a2 w2 ⟨s2,R2,β2,qq,Fo,st2,Ly⟩;unfold Iy at qq;split at qq
   ·rename_i bu2 p2 fn2 sl2 n2 ps2 as2 bd2 d2 dn2 hG2;have adg:=(st1.trans z2).trans st2;have Hf:nth R2.obj id=some (.ck b):=adg.ext.ck hb;obtain ⟨⟨r2,db2,o1,o2,o3,o4,o5,o6,o7,o8,o9,NG⟩,tc⟩:=Fo.g.obj id _ _ hG2 Hf;have fin:∀ (j:Option Code),DO E R w (fun b' G'=>G'=aG s2.G id (.loop false j fn2 sl2 n2 ps2 as2 bd2 d2 (!j.isNone))∧b'=j.isNone) (.returned (.bool j.isNone)) (w2.putObj b (.loop { r2 with state:=if j.isNone then .ready else .done,pending:=j })):=fun j=>by
     obtain ⟨y1,y2⟩:=Fo.setObj (x':=.loop { r2 with state:=if j.isNone then .ready else .done,pending:=j }) (go':=.loop false j fn2 sl2 n2 ps2 as2 bd2 d2 (!j.isNone)) Hf o1 trivial trivial (fun r e=>⟨_,rfl,by cases e; exact ⟨rfl,rfl,rfl,rfl,rfl⟩⟩)
      ⟨⟨{ r2 with state:=if j.isNone then .ready else .done,pending:=j },db2,iR _ _ _ (bo o1),by cases j <;> rfl,rfl,o4.mono (pg (x':=.loop { r2 with state:=if j.isNone then .ready else .done,pending:=j }) o1 trivial trivial (fun r e=>⟨_,rfl,by cases e; exact ⟨rfl,rfl,rfl,rfl,rfl⟩⟩)),o5,o6,o7,o8,o9,NG⟩,tc⟩
     exact ⟨_,_,R2,⟨rfl,rfl⟩,rfl,y1.g,zF (adg.trans y2) Yf⟩
    have mk:∀ (j:Option Code),Q j.isNone (aG s2.G id (.loop false j fn2 sl2 n2 ps2 as2 bd2 d2 (!j.isNone)))→∃ v w',(Instr.endRound b j).run E.P w2=.ok v w'∧DO E R w Q (.returned v) w':=fun j hQ=>by
     refine ⟨_,_,run_endRound j o1,?_⟩;obtain ⟨r',G',R',⟨h1,h2⟩,h3⟩:=fin j;subst h1; subst h2;exact ⟨_,_,R',hQ,h3⟩
    cases e2 with
    |normal=>exact mk none qq
    |ret=>exact mk (some .ret) qq
    |exit i=>exact mk (some (.exit i)) qq
    |_=>exact qq.elim
   ·exact qq.elim
  ·exact hq.elim
 |_=>exact hq.elim
end Go.Am
namespace Go.Am
open Go
section
variable {E:Env} {R R':ak} {w w':World} {β β':Nat→Nat} {s s':St} {a a':Act}
def a6 (E:Env) (g:FuncId) (args:List AV) (Q:AV→Prop):Prop:=∀ G,cO E g args G (fun r G'=>G'=G∧Q r)
theorem a6.mono {g:FuncId} {args:List AV} {Q Q':AV→Prop} (h:a6 E g args Q) (hq:∀ r,Q r→Q' r):a6 E g args Q':=
 fun G=>(h G).mono fun r _ hh=>⟨hh.1,hq r hh.2⟩
theorem a6.of {g:FuncId} {args:List AV} {p:aO} {Q:p.T→Prop} (hc:aI 0 args=true) (hp:p.under 0=true)
  (h:cO E g args [] (fun r _=>∃ y,p.dec r=some y∧Q y)):a6 E g args (fun r=>∃ y,r=p.enc y∧Q y):=fun G=>by
 refine ⟨h.1,fun R w cs hg hl=>?_⟩
 let R0:ak:=⟨R.I,[]⟩
 have m0:Mv R R0 0:=⟨fun _ _ h=>h,fun _ _ h=>absurd h (aaO _)⟩;have Ro:eI E R0 w []:=⟨rfl,fun id go ro h1 _=>by simp [nth] at h1,fun i j ri rj b h1=>by simp [R0,nth] at h1,hg.wf,fun g cs sU=>(hg.cw g cs sU).move m0 (cN _ (E.qh g cs sU)),hg.lo⟩;have zl:aP R0 w args cs:=hl.move m0 hc;refine (h.2 R0 w cs Ro zl).mono fun e w' he=>?_
 cases e with
 |panicked c=>exact he.elim
 |outgrown=>exact he.elim
 |returned c=>
  obtain ⟨r,G',R1,⟨y,hy,hQ⟩,fF,Sq,st⟩:=he;have kD:∀ b,¬ Own R0 (fun _=>0) gy b:=fun b ho=>by
   obtain ⟨id,ro,h1,_⟩:=fZ ho;simp [R0,nth] at h1
  let R2:ak:=⟨R1.I,R.obj⟩
  have e:Ext R w R2 w':=⟨st.ext.I,st.ext.cell,fun id ro h=>⟨ro,h,cV.refl ro⟩,st.ext.lp⟩;have bJ:∀ b,b < w.heap.size→w'.heap[b]?=w.heap[b]?:=fun b hb=>st.bJ b hb (kD b)
  have im:∀ b o,b < w.heap.size→R1.I b o→R.I b o:=fun b o hb hi=>st.im b o hi hb (kD b)
  have hd:=p.sT hy;have m:Mv R1 R2 0:=⟨fun _ _ h=>h,fun _ _ h=>absurd h (aaO _)⟩;refine ⟨p.enc y,G,R2,⟨rfl,y,rfl,hQ⟩,Rel.move m (p.eK y hp) (hd.jc _ _ _ fF),⟨hg.len,fun id go ro h1 h2=>?_,hg.inj,Sq.wf,fun g cs sU=>(hg.cw g cs sU).mono e,Sq.lo⟩,⟨e,st.os,st.tape,st.output,st.size,fun b hb _=>bJ b hb,fun b _ ho=>?_,fun b o hi hb _=>im b o hb hi⟩⟩
  ·refine (hg.obj id go ro h1 h2).mono e (fun b hb=>bJ b ?_) (fun b o hb hi=>im b o ?_ hi)
   ·exact (hg.obj id go ro h1 h2).lt hb
   ·exact (hg.obj id go ro h1 h2).lt hb
  ·exact ho
theorem hU.ag5 {c:Code} {Q Q':Exit→St→Prop} (h:hU E c (fun e s'=>aZ s s'∧Q' e s') s)
  (hq:∀ e s',Q' e s'→∃ (t:da) (v:t.ps.T),t.dec s s'=some v∧Q e (t.st s v)):hU E c Q s:=fun R w β a F hr hf=>by
 refine wpIn_mono (h R w β a F hr hf) ?_;rintro e a' w' ⟨s',R',β',⟨hx,hq'⟩,nF,mP,ca⟩;obtain ⟨t,v,hd,hQ⟩:=hq e s' hq';obtain ⟨h1,h2⟩:=da.CF hx hr nF mP hd;exact ⟨_,_,β',hQ,h1,h2,rfl⟩
theorem hU.ji {c:Code} {Q:Exit→St→Prop} {l:List (Loc × Nat × TypeId)} (hs:Am.ji l s=some s') (h:hU E c Q s'):hU E c Q s:=fun R w β a F hr hf=>by
 obtain ⟨R1,k1,k2,k3,_⟩:=mg hr hs;refine wpIn_mono (h R1 w β a F k1 (by rw [k3]; exact hf.mono k2.ext)) ?_;rintro e a' w' ⟨s2,R2,β2,hq,Fo,st2,Ly⟩;exact ⟨s2,R2,β2,hq,Fo,k2.trans st2,Ly.trans k3⟩
end
end Go.Am
