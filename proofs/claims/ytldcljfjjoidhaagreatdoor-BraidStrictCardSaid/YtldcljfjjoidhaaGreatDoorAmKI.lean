/- The abstract machine: what is asked of bodies; values are brought to a short form. -/
import Derived.Test.YtldcljfjjoidhaaGreatDoorAmKH
import Derived.RangeFuncIn
import Derived.RangeFuncRecord
set_option linter.all false
open Bool renaming and_eq_true→aaa, and_true→aaH
open Go.Fence renaming wide→aaZ
open Go.LoopState renaming busy→abO
open List renaming drop_left→aaM, tail_cons→aaR, cons_append→aaX, mem_cons→aaY, getElem?_eq_getElem→aa3, append_inj→aa4, take_left→aa6, map_cons→aa9
open Nat renaming eq_of_beq_eq_true→aab, beq→aac, lt_of_lt_of_le→aax, not_lt_zero→aaB, blt→aaC, le_of_ble_eq_true→aa5
namespace Go.Am
open Go
def bG (dt:Nat→Option af):Code→Bool
 |.region id ops true=>match dt id with
  |some p=>Gn ops p
  |none=>false
 |.seq x y=>bG dt x&&bG dt y
 |.cond _ x y=>bG dt x&&bG dt y
 |.block _ c=>bG dt c
 |.loop c=>bG dt c
 |.scope c=>bG dt c
 |.rangeFunc _ _ a b=>bG dt a&&bG dt b
 |_=>true
structure Jr extends Env where
 dt:FuncId→Nat→Option af
 okF:FuncId→Bool
 TQ:∀ f fn c,okF f=true→P.funcs[f]?=some fn→fn.body=some c→bG (dt f) c=true
def jB {α:Type} (n:Nat) (K:Nat→α):α:=match n with
 |0=>K 0
 |m+1=>K (Nat.succ m)
def yt {α:Type} (n:Int) (K:Int→α):α:=match n with
 |.ofNat m=>jB m fun m=>K (.ofNat m)
 |.negSucc m=>jB m fun m=>K (.negSucc m)
def pG {α β:Type}:List β→(List β→α)→α
 |[],K=>K []
 |a :: l,K=>pG l fun l=>K (a :: l)
def Cg {α:Type} (v:AV) (K:AV→α):α:=match v with
 |.int k n=>yt n fun n=>K (.int k n)
 |.bool true=>K (.bool true)
 |.bool false=>K (.bool false)
 |.list k sz es=>pG es fun es=>K (.list k sz es)
 |.str l=>pG l fun l=>K (.str l)
 |.jZ id off sz len cap=>jB off fun off=>jB len fun len=>jB cap fun cap=>K (.jZ id off sz len cap)
 |.ptr id off=>jB off fun off=>K (.ptr id off)
 |.agg cs=>pG cs fun cs=>K (.agg cs)
 |v=>K v
def Ch {α:Type} (l:bh) (K:bh→α):α:=match l with
 |.put d (.v a) :: l=>Cg a fun a=>K (.put d (.v a) :: l)
 |.put d (.lp k off) :: l=>jB off fun off=>K (.put d (.lp k off) :: l)
 |l=>K l
def Ci {α:Type} (l:cO) (K:cO→α):α:=match l with
 |(d,cs) :: l=>pG cs fun cs=>K ((d,cs) :: l)
 |[]=>K []
def Gp {α:Type} (s:St) (K:St→α):α:=match s with
 |⟨sl,bx,G,m,ro,n⟩=>Ch sl fun sl=>Ci bx fun bx=>pG G fun G=>K ⟨sl,bx,G,m,ro,n⟩
theorem pH {α:Type} (n:Nat) (K:Nat→α):jB n K=K n:=by cases n <;> rfl
theorem DX {α:Type} (n:Int) (K:Int→α):yt n K=K n:=by cases n <;> simp [yt,pH]
theorem qy {α β:Type}:∀ (l:List β) (K:List β→α),pG l K=K l
 |[],_=>rfl
 |a :: l,K=>by simp only [pG]; rw [qy]
theorem Gq {α:Type} (v:AV) (K:AV→α):Cg v K=K v:=by
 unfold Cg;split <;> simp [pH,DX,qy]
theorem Gr {α:Type} (l:bh) (K:bh→α):Ch l K=K l:=by
 unfold Ch;split <;> simp [pH,Gq]
theorem Gs {α:Type} (l:cO) (K:cO→α):Ci l K=K l:=by
 unfold Ci;split <;> simp [qy]
theorem Js {α:Type} (s:St) (K:St→α):Gp s K=K s:=by
 obtain ⟨sl,bx,G,m,ro,n⟩:=s;simp [Gp,Gr,Gs,qy]
def Cj:SV→SV→Bool
 |.v a,.v b=>dD a b
 |.lp k o,.lp k' o'=>aac k k'&&aac o o'
 |_,_=>false
def bRe (E:Env) (f:FuncId) (ops:List Oper) (o:Oper) (s:St):Bool:=match C4 ops s o with
 |some true=>match o.dst,an E f s o with
  |some d,some (c,s')=>c&&Cj (lk s'.ae d) (lk s.ae d)
  |_,_=>false
 |some false=>true
 |none=>false
section
variable {E:Env} {f:FuncId} {s:St}
theorem Bk {a b:SV} (h:Cj a b=true):a=b:=by
 unfold Cj at h;split at h
 ·rw [jv h]
 ·simp only [aaa,Nat.beq_eq] at h; rw [h.1,h.2]
 ·cases h
theorem Bl {ops:List Oper} {o:Oper} (h:bRe E f ops o s=true):Ge E f ops o s:=by
 unfold bRe at h;unfold Ge;split at h
 ·rename_i hg;rw [hg];simp only;split at h
  ·rename_i d c s' hd hs;rw [aaa] at h;obtain ⟨rfl,h⟩:=h;rw [hd,hs];exact ⟨rfl,Bk h⟩
  ·cases h
 ·rename_i hg;rw [hg];trivial
 ·cases h
end
end Go.Am
namespace Go.Am
open Go
mutual
def AV.under (n:Nat):AV→Bool
 |.agg cs=>aC n cs
 |.bk cs=>aC n cs
 |.ep cs=>aC n cs
 |.list (.own id) _ _=>aaC id n
 |.list (.bB id _) _ _=>aaC id n
 |.fn _ x y=>aC n x&&aC n y
 |.iface _ v=>v.under n
 |.ptr id _=>aaC id n
 |.jZ id _ _ _ _=>aaC id n
 |.eu id _ _ _ _=>aaC id n
 |.gp id _ _ _ _ _=>aaC id n
 |.map id=>aaC id n
 |.yield id=>aaC id n
 |_=>true
def aC (n:Nat):List AV→Bool
 |[]=>true
 |a :: l=>a.under n&&aC n l
end
mutual
theorem iL (n:Nat):∀ {a:AV},a.closed=true→a.under n=true:=fun {a} h=>by
 cases a with
 |agg cs=>simp only [AV.closed,AV.under] at *; exact cA n h
 |bk cs=>simp only [AV.closed,AV.under] at *; exact cA n h
 |ep cs=>simp only [AV.closed,AV.under] at *; exact cA n h
 |list k sz es=>cases k <;> simp_all [AV.closed,AV.under,LK.closed]
 |fn f x y=>
  simp only [AV.closed,AV.under,aaa] at *;exact ⟨cA n h.1,cA n h.2⟩
 |iface t v=>simp only [AV.closed,AV.under] at *; exact iL n h
 |_=>simp_all [AV.closed,AV.under]
theorem cA (n:Nat):∀ {l:List AV},aB l=true→aC n l=true
 |[],_=>rfl
 |a :: l,h=>by
  simp only [aB,aC,aaa] at *;exact ⟨iL n h.1,cA n h.2⟩
end
theorem qz {a b:Nat} (h:aaC a b=true):a < b:=aa5 h
mutual
theorem mm:∀ {a:AV},a.under 0=true→a.closed=true:=fun {a} h=>by
 cases a with
 |agg cs=>simp only [AV.closed,AV.under] at *; exact eR h
 |bk cs=>simp only [AV.closed,AV.under] at *; exact eR h
 |ep cs=>simp only [AV.closed,AV.under] at *; exact eR h
 |list k sz es=>cases k <;> first | rfl | (simp [AV.under] at h)
 |fn f x y=>
  simp only [AV.closed,AV.under,aaa] at *;exact ⟨eR h.1,eR h.2⟩
 |iface t v=>simp only [AV.closed,AV.under] at *; exact mm h
 |ptr id off=>simp only [AV.under] at h; exact absurd (qz h) (aaB _)
 |jZ id off sz len cap=>simp only [AV.under] at h; exact absurd (qz h) (aaB _)
 |eu id f off sz len=>simp only [AV.under] at h; exact absurd (qz h) (aaB _)
 |gp id f i off sz t=>simp only [AV.under] at h; exact absurd (qz h) (aaB _)
 |map id=>simp only [AV.under] at h; exact absurd (qz h) (aaB _)
 |yield id=>simp only [AV.under] at h; exact absurd (qz h) (aaB _)
 |_=>rfl
theorem eR:∀ {l:List AV},aC 0 l=true→aB l=true
 |[],_=>rfl
 |a :: l,h=>by
  simp only [aC,aB,aaa] at *;exact ⟨mm h.1,eR h.2⟩
end
section move
variable {R R2:ak} {w:World} {n:Nat}
structure Mv (R R2:ak) (n:Nat):Prop where
 I:∀ b o,R.I b o→R2.I b o
 obj:∀ id ro,id < n→nth R.obj id=some ro→nth R2.obj id=some ro
theorem jV {a b:Nat} (h:aaC a b=true):a < b:=aa5 h
theorem kJ {a b:Nat} (h:a < b):aaC a b=true:=Nat.ble_eq_true_of_le h
theorem BU.move (m:Mv R R2 n) {k:LK} {b o len cap:Nat} (h:BU R k b o len cap) (hk:∀ id,(k=.own id∨∃ j,k=.bB id j)→id < n):BU R2 k b o len cap:=by
 cases k with
 |nil=>exact h
 |full=>exact h
 |lq=>trivial
 |own id=>obtain ⟨ro,h1,h2⟩:=h; exact ⟨ro,m.obj id ro (hk id (.inl rfl)) h1,h2⟩
 |bB id j=>obtain ⟨ro,h1,h2⟩:=h; exact ⟨ro,m.obj id ro (hk id (.inr ⟨j,rfl⟩)) h1,h2⟩
mutual
theorem Rel.move (m:Mv R R2 n):∀ {a:AV} {c:Value},a.under n=true→Rel R w a c→Rel R2 w a c
 |_,_,_,.bool b=>.bool b
 |_,_,_,.int k i=>.int k i
 |_,_,_,.str l=>.str l
 |_,_,hb,.agg h h1=>.agg (h.move m (by simpa [AV.under] using hb)) h1
 |_,_,hb,.bk h=>.bk (h.move m (by simpa [AV.under] using hb))
 |_,_,_,.fm=>.fm
 |_,_,hb,.ptr h=>.ptr (m.obj _ _ (jV (by simpa [AV.under] using hb)) h)
 |_,_,hb,.ep h=>.ep (h.move m (by simpa [AV.under] using hb))
 |_,_,_,.kz=>.kz
 |_,_,_,.ja=>.ja
 |_,_,_,.nI=>.nI
 |_,_,hb,.mH h ho=>.mH (m.obj _ _ (jV (by simpa [AV.under] using hb)) h) ho
 |_,_,hb,.nJ h ho=>.nJ (m.obj _ _ (jV (by simpa [AV.under] using hb)) h) ho
 |.list k sz es,_,hb,.list h hl hc hk=>.list (h.move m) hl hc (hk.move m fun id e=>by rcases e with e | ⟨j,e⟩ <;> subst e <;> exact jV (by simpa [AV.under] using hb))
 |_,_,hb,.jZ h hc=>.jZ (m.obj _ _ (jV (by simpa [AV.under] using hb)) h) hc
 |_,_,hb,.iV h ho=>.iV (m.obj _ _ (jV (by simpa [AV.under] using hb)) h) ho
 |_,_,hb,.eu h ho hc=>.eu (m.obj _ _ (jV (by simpa [AV.under] using hb)) h) ho hc
 |_,_,hb,.gp h ho=>.gp (m.obj _ _ (jV (by simpa [AV.under] using hb)) h) ho
 |_,_,_,.kv=>.kv
 |_,_,hb,.map h=>.map (m.obj _ _ (jV (by simpa [AV.under] using hb)) h)
 |_,_,_,.cG=>.cG
 |_,_,hb,.fn h h'=>.fn (h.move m (by simp only [AV.under,aaa] at hb; exact hb.1)) (h'.move m (by simp only [AV.under,aaa] at hb; exact hb.2))
 |_,_,hb,.yield h=>.yield (m.obj _ _ (jV (by simpa [AV.under] using hb)) h)
 |_,_,_,.oI=>.oI
 |_,_,hb,.iface h=>.iface (h.move m (by simpa [AV.under] using hb))
theorem aK.move (m:Mv R R2 n):∀ {l:List AV} {cs:List Value},aK R w l cs→aC n l=true→aK R2 w l cs
 |_,_,.nil,_=>.nil
 |_,_,.cons h t,hb=>by
  simp only [aC,aaa] at hb;exact .cons (h.move m hb.1) (t.move m hb.2)
theorem gl.move (m:Mv R R2 n):∀ {b o sz:Nat} {l:List AV},gl R w b o sz l→gl R2 w b o sz l
 |_,_,_,_,.nil=>.nil
 |_,_,_,_,@gl.cons _ _ _ _ _ e _ hl ht hk h t=>.cons hl ht hk (h.move m (by
   cases e with
   |agg cs=>exact cA n (show aB cs=true by simpa [AV.closed] using hk)
   |bk cs=>simp [AV.aY] at ht
   |_=>simp only [AV.cells,aC,aaH]; exact iL n hk)) (t.move m)
theorem dR.move (m:Mv R R2 n):∀ {b o:Nat} {l:List AV},dR R w b o l→aC n l=true→dR R2 w b o l
 |_,_,_,.nil,_=>.nil
 |_,_,_,.cons hc h1 hi h t,hb=>by
  simp only [aC,aaa] at hb;exact .cons hc h1 (m.I _ _ hi) (h.move m hb.1) (t.move m hb.2)
end
theorem jR.move {E:Env} (m:Mv R R2 n) {g:Nat} {cs:List AV} (h:jR E R w g cs) (hu:aC n cs=true):jR E R2 w g cs:=
 ⟨h.1.move m hu,fun hx=>⟨m.I _ _ (h.2 hx).1,(h.2 hx).2⟩⟩
mutual
theorem Rel.under (hn:R.obj.length≤n):∀ {a:AV} {c:Value},Rel R w a c→a.under n=true
 |_,_,.bool _ | _,_,.int _ _ | _,_,.str _ | _,_,.fm | _,_,.kz | _,_,.ja | _,_,.nI | _,_,.kv | _,_,.cG | _,_,.oI=>by simp [AV.under]
 |_,_,.agg h _=>by simp only [AV.under]; exact h.under hn
 |_,_,.bk h=>by simp only [AV.under]; exact h.under hn
 |_,_,.ptr h=>by simp only [AV.under]; exact kJ (aax (b7 h) hn)
 |_,_,.ep h=>by simp only [AV.under]; exact h.under hn
 |_,_,.mH h _=>by simp only [AV.under]; exact kJ (aax (b7 h) hn)
 |_,_,.nJ h _=>by simp only [AV.under]; exact kJ (aax (b7 h) hn)
 |_,_,@Rel.list _ _ k _ _ _ _ _ _ _ _ _ hk=>by
  cases k with
  |own id=>obtain ⟨ro,h1,_⟩:=hk; simp only [AV.under]; exact kJ (aax (b7 h1) hn)
  |bB id j=>obtain ⟨ro,h1,_⟩:=hk; simp only [AV.under]; exact kJ (aax (b7 h1) hn)
  |_=>simp [AV.under]
 |_,_,.jZ h _=>by simp only [AV.under]; exact kJ (aax (b7 h) hn)
 |_,_,.iV h _=>by simp only [AV.under]; exact kJ (aax (b7 h) hn)
 |_,_,.eu h _ _=>by simp only [AV.under]; exact kJ (aax (b7 h) hn)
 |_,_,.gp h _=>by simp only [AV.under]; exact kJ (aax (b7 h) hn)
 |_,_,.map h=>by simp only [AV.under]; exact kJ (aax (b7 h) hn)
 |_,_,.fn h h'=>by simp only [AV.under,aaa]; exact ⟨h.under hn,h'.under hn⟩
 |_,_,.yield h=>by simp only [AV.under]; exact kJ (aax (b7 h) hn)
 |_,_,.iface h=>by simp only [AV.under]; exact h.under hn
theorem aK.under (hn:R.obj.length≤n):∀ {l:List AV} {cs:List Value},aK R w l cs→aC n l=true
 |_,_,.nil=>rfl
 |_,_,.cons h t=>by simp only [aC,aaa]; exact ⟨h.under hn,t.under hn⟩
theorem dR.under (hn:R.obj.length≤n):∀ {b o:Nat} {l:List AV},dR R w b o l→aC n l=true
 |_,_,_,.nil=>rfl
 |_,_,_,.cons _ _ _ h t=>by simp only [aC,aaa]; exact ⟨h.under hn,t.under hn⟩
end
end move
end Go.Am
namespace Go.Am
open Go
mutual
def aM.under (n:Nat):aM→Bool
 |.agg ps=>ps.under n
 |.bk ps=>ps.under n
 |.own id _ _=>aaC id n
 |.bB id _ _=>aaC id n
 |.bN v=>v.under n
 |.two u v=>u.under n&&v.under n
 |_=>true
def aJ.under (n:Nat):aJ→Bool
 |.nil=>true
 |.cons p ps=>p.under n&&ps.under n
end
mutual
theorem aM.dG {n:Nat}:∀ (p:aM) (x:p.T),p.under n=true→(p.enc x).under n=true
 |.int k,x,_=>by simp [aM.enc,AV.under]
 |.bool,x,_=>by simp [aM.enc,AV.under]
 |.str,x,_=>by simp [aM.enc,AV.under]
 |.agg ps,x,h=>by
  simp only [aM.enc,AV.under];exact ps.dG x h
 |.bk ps,x,h=>by
  simp only [aM.enc,AV.under];exact ps.dG x h
 |.list sz p,x,_=>by simp [aM.enc,AV.under]
 |.own id sz p,x,h=>by
  simp only [aM.enc,AV.under];exact h
 |.bB id sz p,x,h=>by
  simp only [aM.enc,AV.under];exact h
 |.bN v,x,h=>by
  simp only [aM.enc];exact h
 |.two u v,(x:Bool),h=>by
  simp only [aM.under,aaa] at h;change AV.under n (bif x then v else u)=true;cases x
  ·exact h.1
  ·exact h.2
theorem aJ.dG {n:Nat}:∀ (ps:aJ) (x:ps.T),ps.under n=true→aC n (ps.enc x)=true
 |.nil,x,_=>rfl
 |.cons p .nil,x,h=>by
  simp only [aJ.under,aaH] at h;simp only [aJ.enc,aC,aaH];exact p.dG _ h
 |.cons p (.cons q ps),x,h=>by
  rw [aJ.under,aaa] at h;simp only [aJ.enc,aC,aaa];exact ⟨p.dG _ h.1,(aJ.cons q ps).dG _ h.2⟩
end
mutual
def AV.exact:AV→Bool
 |.bool _=>true
 |.int _ _=>true
 |.str _=>true
 |.agg cs=>fY cs
 |_=>false
def fY:List AV→Bool
 |[]=>true
 |a :: l=>a.exact&&fY l
end
mutual
theorem aM.jC:∀ (p:aM) {a:AV},p.fits a=true→a.exact=true→p.enc (p.bA a)=a
 |.int k,a,h,e=>by
  cases a with
  |int k' n=>have hk:UA k k'=true:=h; rw [Fp hk]; rfl
  |_=>cases h
 |.bool,a,h,e=>by
  cases a with
  |bool b=>rfl
  |_=>cases h
 |.str,a,h,e=>by
  cases a with
  |str b=>rfl
  |_=>cases h
 |.agg ps,a,h,e=>by
  cases a with
  |agg cs=>
   have e':fY cs=true:=by simpa [AV.exact] using e
   show AV.agg (ps.enc (ps.bA cs))=_;rw [ps.jC (show ps.fits cs=true from h) e']
  |_=>cases h
 |.bk ps,a,h,e=>by cases a <;> first | (cases h; done) | simp [AV.exact] at e
 |.list sz p,a,h,e=>by cases a <;> first | (cases h; done) | simp [AV.exact] at e
 |.own id sz p,a,h,e=>by cases a <;> first | (cases h; done) | simp [AV.exact] at e
 |.bB id sz p,a,h,e=>by cases a <;> first | (cases h; done) | simp [AV.exact] at e
 |.bN u,a,h,e=>(jv (show dD a u=true from h)).symm
 |.two u v,a,h,_=>wD h
theorem aJ.jC:∀ (ps:aJ) {l:List AV},ps.fits l=true→fY l=true→ps.enc (ps.bA l)=l
 |.nil,l,h,_=>by
  cases l with
  |nil=>rfl
  |cons _ _=>cases h
 |.cons p .nil,l,h,e=>by
  cases l with
  |nil=>cases h
  |cons a l=>
   have h':(p.fits a&&l.isEmpty)=true:=h;simp only [aaa,List.isEmpty_iff] at h';obtain ⟨h1,rfl⟩:=h';simp only [fY,aaH] at e;show [p.enc (p.bA a)]=_;rw [p.jC h1 e]
 |.cons p (.cons q ps),l,h,e=>by
  cases l with
  |nil=>cases h
  |cons a l=>
   have h':(p.fits a&&(aJ.cons q ps).fits l)=true:=h;rw [aaa] at h';simp only [fY,aaa] at e;show p.enc (p.bA a) :: (aJ.cons q ps).enc ((aJ.cons q ps).bA l)=_;rw [p.jC h'.1 e.1,(aJ.cons q ps).jC h'.2 e.2]
end
mutual
theorem n3:∀ {a:AV},a.exact=true→a.closed=true:=fun {a} h=>by
 cases a with
 |agg cs=>simp only [AV.exact,AV.closed] at *; exact rn h
 |_=>simp_all [AV.exact,AV.closed]
theorem rn:∀ {l:List AV},fY l=true→aB l=true
 |[],_=>rfl
 |a :: l,h=>by
  simp only [fY,aB,aaa] at *;exact ⟨n3 h.1,rn h.2⟩
end
def ab:List (AV × AV)→List AV
 |[]=>[]
 |(k,v) :: l=>.agg [k,v] :: ab l
def Zn:AV→AV × AV
 |.agg [k,v]=>(k,v)
 |_=>(fO,fO)
def aG:List AV→List (AV × AV)
 |[]=>[]
 |a :: l=>Zn a :: aG l
def AV.entries:AV→List (AV × AV)
 |.list _ _ es=>aG es
 |_=>[]
theorem oH:∀ l:List (AV × AV),aG (ab l)=l
 |[]=>rfl
 |(k,v) :: l=>by simp only [ab,aG,oH l]; rfl
def AV.Ly:AV→Bool
 |.list .lq _ es=>fY es
 |_=>false
def jW:List AV→List AV→Prop
 |[],[]=>True
 |a :: l,b :: r=>iY a b∧jW l r
 |_,_=>False
theorem jW.refl:∀ l:List AV,jW l l
 |[]=>trivial
 |a :: l=>⟨iY.refl a,jW.refl l⟩
theorem jW.length:∀ {l r:List AV},jW l r→l.length=r.length
 |[],[],_=>rfl
 |_ :: _,_ :: _,h=>by simp [jW.length h.2]
 |[],_ :: _,h=>h.elim
 |_ :: _,[],h=>h.elim
theorem jW.of {α:Type} {f:AV→Bool} {d:AV→α} {g:α→AV} (Hx:∀ v,f v=true→iY v (g (d v))):∀ {es:List AV},allFit f es=true→jW es ((es.map d).map g)
 |[],_=>trivial
 |e :: es,h=>by
  simp only [allFit,aaa] at h;exact ⟨Hx e h.1,jW.of Hx h.2⟩
theorem aM.DY (p:aM) {a:AV} (h:p.fits a=true):jW a.dW (p.enc (p.bA a)).dW:=by
 cases p with
 |list sz p=>
  cases a with
  |list k bR es=>
   have hb:((aac sz bR || es.isEmpty)&&allFit p.fits es)=true:=h;rw [aaa] at hb;exact jW.of (fun v hv=>p.dc hv) hb.2
  |_=>cases h
 |own id sz p=>
  cases a with
  |list k bR es=>
   cases k with
   |own jL=>
    have hb:((aac id jL&&aac sz bR)&&allFit p.fits es)=true:=h;rw [aaa] at hb;exact jW.of (fun v hv=>p.dc hv) hb.2
   |_=>cases h
  |_=>cases h
 |bB id sz p=>
  cases a with
  |list k bR es=>
   cases k with
   |bB jL j=>
    have hb:((aac id jL&&aac sz bR)&&allFit p.fits es)=true:=h;rw [aaa] at hb;exact jW.of (fun v hv=>p.dc hv) hb.2
   |_=>cases h
  |_=>cases h
 |bN u=>rw [show a=u from jv (show dD a u=true from h)]; exact jW.refl _
 |two u v=>rw [wD h]; exact jW.refl _
 |_=>cases a <;> first | (cases h; done) | exact jW.refl _
def Kt:List AV→List AV→Prop
 |[],[]=>True
 |a :: l,b :: r=>(a.exact=true→b=a)∧(a.Ly=true→b.dW=a.dW)∧jW a.dW b.dW∧Kt l r
 |_,_=>False
theorem yu {f:AV→Bool} {α:Type} {d:AV→α} {g:α→AV} (Hx:∀ a,f a=true→a.exact=true→g (d a)=a):∀ {es:List AV},allFit f es=true→fY es=true→(es.map d).map g=es
 |[],_,_=>rfl
 |a :: l,h,e=>by
  simp only [allFit,fY,aaa] at *;simp only [aa9,Hx a h.1 e.1,yu Hx h.2 e.2]
theorem aM.DZ (p:aM) {a:AV} (h:p.fits a=true) (e:a.Ly=true):(p.enc (p.bA a)).dW=a.dW:=by
 cases a with
 |list k bR es=>
  cases k with
  |lq=>
   have e':fY es=true:=e;cases p with
   |list sz p=>
    have hb:((aac sz bR || es.isEmpty)&&allFit p.fits es)=true:=h;rw [aaa] at hb;show (es.map p.bA).map p.enc=_;rw [yu (fun a=>p.jC) hb.2 e'];rfl
   |bN u=>rw [show AV.list .lq bR es=u from jv (show dD _ u=true from h)]; rfl
   |two u v=>rw [wD h]
   |_=>cases h
  |_=>cases e
 |_=>cases e
theorem aJ.Lz:∀ (ps:aJ) {l:List AV},ps.fits l=true→Kt l (ps.enc (ps.bA l))
 |.nil,l,h=>by
  cases l with
  |nil=>trivial
  |cons _ _=>cases h
 |.cons p .nil,l,h=>by
  cases l with
  |nil=>cases h
  |cons a l=>
   have h':(p.fits a&&l.isEmpty)=true:=h;simp only [aaa,List.isEmpty_iff] at h';obtain ⟨h1,rfl⟩:=h';exact ⟨p.jC h1,p.DZ h1,p.DY h1,trivial⟩
 |.cons p (.cons q ps),l,h=>by
  cases l with
  |nil=>cases h
  |cons a l=>
   have h':(p.fits a&&(aJ.cons q ps).fits l)=true:=h;rw [aaa] at h';exact ⟨p.jC h'.1,p.DZ h'.1,p.DY h'.1,(aJ.cons q ps).Lz h'.2⟩
theorem Kt.split:∀ {l r l':List AV},Kt (l++r) l'→∃ a b,l'=a++b∧Kt l a∧Kt r b∧a.length=l.length
 |[],r,l',h=>⟨[],l',rfl,trivial,h,rfl⟩
 |x :: l,r,[],h=>h.elim
 |x :: l,r,y :: l',h=>by
  obtain ⟨a,b,rfl,h2,h3,h4⟩:=Kt.split (l:=l) (r:=r) (l':=l') h.2.2.2;exact ⟨y :: a,b,rfl,⟨h.1,h.2.1,h.2.2.1,h2⟩,h3,by simp [h4]⟩
mutual
def AV.yw (L:Nat→Nat):AV→AV
 |.eu id 0 0 sz 0=>.eu id (L id) 0 sz (L id)
 |.fn f x y=>.fn f (LA L x) (LA L y)
 |v=>v
def LA (L:Nat→Nat):List AV→List AV
 |[]=>[]
 |a :: l=>a.yw L :: LA L l
end
mutual
def aM.inst (L:Nat→Nat):aM→aM
 |.agg ps=>.agg (ps.inst L)
 |.bk ps=>.bk (ps.inst L)
 |.bN v=>.bN (v.yw L)
 |p=>p
def aJ.inst (L:Nat→Nat):aJ→aJ
 |.nil=>.nil
 |.cons p ps=>.cons (p.inst L) (ps.inst L)
end
mutual
def aM.kK (L:Nat→Nat):(p:aM)→p.T→AV
 |.int k,(n:Int)=>.int k n
 |.bool,(b:Bool)=>.bool b
 |.str,(s:List UInt8)=>.str s
 |.agg ps,x=>.agg (ps.kK L x)
 |.bk ps,x=>.bk (ps.kK L x)
 |.list sz p,(xs:List p.T)=>.list .lq sz (xs.map p.enc)
 |.own id sz p,(xs:List p.T)=>.list (.own id) sz (xs.map p.enc)
 |.bB id sz p,(x:Nat × List p.T)=>.list (.bB id x.1) sz (x.2.map p.enc)
 |.bN v,_=>v.yw L
 |.two u v,(b:Bool)=>bif b then v else u
def aJ.kK (L:Nat→Nat):(ps:aJ)→ps.T→List AV
 |.nil,_=>[]
 |.cons p .nil,x=>[p.kK L x]
 |.cons p (.cons q ps),x=>p.kK L x.1 :: (aJ.cons q ps).kK L x.2
end
mutual
def aM.mV (L:Nat→Nat):aM→AV→Bool
 |.int k,v=>aM.fits (.int k) v
 |.bool,v=>aM.fits .bool v
 |.str,v=>aM.fits .str v
 |.agg ps,v=>match v with
  |.agg cs=>ps.mV L cs
  |_=>false
 |.bk ps,v=>match v with
  |.bk cs=>ps.mV L cs
  |_=>false
 |.list sz p,v=>aM.fits (.list sz p) v
 |.own id sz p,v=>aM.fits (.own id sz p) v
 |.bB id sz p,v=>aM.fits (.bB id sz p) v
 |.bN v,u=>dD u (v.yw L)
 |.two u v,a=>aM.fits (.two u v) a
def aJ.mV (L:Nat→Nat):aJ→List AV→Bool
 |.nil,l=>l.isEmpty
 |.cons p ps,l=>match l with
  |a :: l=>p.mV L a&&ps.mV L l
  |[]=>false
end
def aJ.Jt (L:Nat→Nat) (ps:aJ) (l:List AV):Option ps.T:=bif ps.mV L l then some (ps.bA l) else none
mutual
theorem aM.jg (L:Nat→Nat):∀ (p:aM) (a:AV),p.mV L a=(p.inst L).fits a
 |.int _,_=>rfl
 |.bool,_=>rfl
 |.str,_=>rfl
 |.agg ps,a=>by
  simp only [aM.mV,aM.inst,aM.fits];cases a <;> first | rfl | exact ps.jg L _
 |.bk ps,a=>by
  simp only [aM.mV,aM.inst,aM.fits];cases a <;> first | rfl | exact ps.jg L _
 |.list _ _,_=>rfl
 |.own _ _ _,_=>rfl
 |.bB _ _ _,_=>rfl
 |.bN _,_=>rfl
 |.two _ _,_=>rfl
theorem aJ.jg (L:Nat→Nat):∀ (ps:aJ) (l:List AV),ps.mV L l=(ps.inst L).fits l
 |.nil,_=>rfl
 |.cons p ps,l=>by
  cases l with
  |nil=>rfl
  |cons a l=>
   simp only [aJ.mV,aJ.inst,aJ.fits];rw [p.jg L a,ps.jg L l]
end
mutual
theorem aM.iy (L:Nat→Nat):∀ (p:aM) (a:AV),p.kK L (p.bA a)=(p.inst L).enc ((p.inst L).bA a)
 |.int _,_=>rfl
 |.bool,_=>rfl
 |.str,_=>rfl
 |.agg ps,a=>congrArg AV.agg (ps.iy L a.jM)
 |.bk ps,a=>congrArg AV.bk (ps.iy L a.UB)
 |.list _ _,_=>rfl
 |.own _ _ _,_=>rfl
 |.bB _ _ _,_=>rfl
 |.bN _,_=>rfl
 |.two _ _,_=>rfl
theorem aJ.iy (L:Nat→Nat):∀ (ps:aJ) (l:List AV),ps.kK L (ps.bA l)=(ps.inst L).enc ((ps.inst L).bA l)
 |.nil,_=>rfl
 |.cons p .nil,l=>by
  show [p.kK L (p.bA (eB l))]=[(p.inst L).enc ((p.inst L).bA (eB l))];rw [p.iy L]
 |.cons p (.cons q ps),l=>by
  show p.kK L (p.bA (eB l)) :: (aJ.cons q ps).kK L ((aJ.cons q ps).bA (KC l))=(p.inst L).enc ((p.inst L).bA (eB l)) :: ((aJ.cons q ps).inst L).enc (((aJ.cons q ps).inst L).bA (KC l));rw [p.iy L,(aJ.cons q ps).iy L]
end
mutual
theorem AV.yx {n:Nat} (L:Nat→Nat):∀ {a:AV},a.under n=true→(a.yw L).under n=true:=fun {a} h=>by
 cases a with
 |eu id f off sz len=>
  unfold AV.yw;split
  ·rename_i h1;cases h1;exact h
  ·rename_i h1;cases h1
  ·exact h
 |fn f x y=>
  simp only [AV.yw,AV.under,aaa] at *;exact ⟨rT L h.1,rT L h.2⟩
 |_=>exact h
theorem rT {n:Nat} (L:Nat→Nat):∀ {l:List AV},aC n l=true→aC n (LA L l)=true
 |[],_=>rfl
 |a :: l,h=>by
  simp only [LA,aC,aaa] at *;exact ⟨AV.yx L h.1,rT L h.2⟩
end
mutual
theorem aM.jh {n:Nat} (L:Nat→Nat):∀ {p:aM},p.under n=true→(p.inst L).under n=true
 |.int _,_=>rfl
 |.bool,_=>rfl
 |.str,_=>rfl
 |.agg ps,h=>aJ.jh L (ps:=ps) h
 |.bk ps,h=>aJ.jh L (ps:=ps) h
 |.list _ _,_=>rfl
 |.own _ _ _,h=>h
 |.bB _ _ _,h=>h
 |.bN v,h=>AV.yx L (a:=v) h
 |.two _ _,h=>h
theorem aJ.jh {n:Nat} (L:Nat→Nat):∀ {ps:aJ},ps.under n=true→(ps.inst L).under n=true
 |.nil,_=>rfl
 |.cons p ps,h=>by
  simp only [aJ.inst,aJ.under,aaa] at *;exact ⟨aM.jh L h.1,aJ.jh L h.2⟩
end
theorem AV.Bm (L:Nat→Nat) (v:AV):(v.yw L).dW=v.dW:=by
 unfold AV.yw;split <;> rfl
def oL:List AV→List AV→Prop
 |[],[]=>True
 |a :: l,b :: r=>a.dW.length=b.dW.length∧oL l r
 |_,_=>False
theorem aM.pI (L L':Nat→Nat) (p:aM) (x:p.T):(p.kK L x).dW=(p.kK L' x).dW:=by
 cases p with
 |bN v=>
  show (v.yw L).dW=(v.yw L').dW;rw [AV.Bm,AV.Bm]
 |_=>rfl
theorem aJ.pI (L L':Nat→Nat):∀ (ps:aJ) (x:ps.T),oL (ps.kK L x) (ps.kK L' x)
 |.nil,_=>trivial
 |.cons p .nil,x=>⟨congrArg List.length (p.pI L L' x),trivial⟩
 |.cons p (.cons q ps),x=>⟨congrArg List.length (p.pI L L' x.1),(aJ.cons q ps).pI L L' x.2⟩
theorem Kt.Zo:∀ {l r:List AV},Kt l r→oL l r
 |[],[],_=>trivial
 |_ :: _,_ :: _,h=>⟨h.2.2.1.length,h.2.2.2.Zo⟩
 |[],_ :: _,h=>h.elim
 |_ :: _,[],h=>h.elim
theorem oL.trans:∀ {l r u:List AV},oL l r→oL r u→oL l u
 |[],[],[],_,_=>trivial
 |_ :: _,_ :: _,_ :: _,h,k=>⟨h.1.trans k.1,h.2.trans k.2⟩
 |[],_ :: _,_,h,_=>h.elim
 |_ :: _,[],_,h,_=>h.elim
 |[],[],_ :: _,_,k=>k.elim
 |_ :: _,_ :: _,[],_,k=>k.elim
theorem oL.drop:∀ {l r:List AV} (n:Nat),oL l r→oL (l.drop n) (r.drop n)
 |l,r,0,h=>by simpa using h
 |[],[],_+1,_=>by simp [oL]
 |_ :: _,_ :: _,n+1,h=>by simpa using oL.drop n h.2
 |[],_ :: _,_+1,h=>h.elim
 |_ :: _,[],_+1,h=>h.elim
theorem aJ.PD (L:Nat→Nat) (ps:aJ) {l:List AV} {x:ps.T} (h:ps.Jt L l=some x):cP l (ps.kK L x)∧Kt l (ps.kK L x):=by
 unfold aJ.Jt at h;cases hf:ps.mV L l with
 |true=>
  rw [hf] at h;cases h;rw [ps.iy L];rw [ps.jg L] at hf;have hd:(ps.inst L).dec l=some ((ps.inst L).bA l):=by unfold aJ.dec; rw [hf]; rfl
  exact ⟨((ps.inst L).rH hd).1,(ps.inst L).Lz hf⟩
 |false=>rw [hf] at h; cases h
theorem aJ.Gt {n:Nat} (L:Nat→Nat) (ps:aJ) (hp:ps.under n=true) (l:List AV):aC n (ps.kK L (ps.bA l))=true:=by
 rw [ps.iy L];exact (ps.inst L).dG _ (aJ.jh L hp)
theorem aJ.Ju (L:Nat→Nat) (ps:aJ) {l:List AV} {x:ps.T} (h:ps.Jt L l=some x):x=ps.bA l:=by
 unfold aJ.Jt at h;cases hf:ps.mV L l with
 |true=>rw [hf] at h; cases h; rfl
 |false=>rw [hf] at h; cases h
end Go.Am
namespace Go.Am
open Go
inductive Fe
 |open_
 |busy
 |ret
 |ex (i:Nat)
def Fe.is:Fe→Bool→Option Code→Bool→Bool
 |.open_,false,none,false=>true
 |.busy,true,none,false=>true
 |.ret,false,some .ret,true=>true
 |.ex i,false,some (.exit j),true=>aac i j
 |_,_,_,_=>false
def Fe.b:Fe→Bool
 |.busy=>true
 |_=>false
def Fe.p:Fe→Option Code
 |.ret=>some .ret
 |.ex i=>some (.exit i)
 |_=>none
def Fe.d:Fe→Bool
 |.ret=>true
 |.ex _=>true
 |_=>false
theorem Fe.HZ {k:Fe} {b:Bool} {p:Option Code} {d:Bool} (h:k.is b p d=true):b=k.b∧p=k.p∧d=k.d:=by
 unfold Fe.is at h;split at h <;> first | exact ⟨rfl,rfl,rfl⟩ | (cases h; done) | skip
 rw [aab h];exact ⟨rfl,rfl,rfl⟩
inductive GL
 |row (n:Nat)
 |tok (loc sz:Nat) (e:TypeId)
 |dead
 |lp (k:Fe)
 |aW
 |map
 |Ff
 |dV (sz:Nat) (e:TypeId)
 |bB (sz:Nat) (e:TypeId)
 |tg
 |oE (rG:Nat)
def cI (fs:List Nat):List AV:=fs.map fun n:Nat=>.int .i64 n
def aZ (l:List AV):List Nat:=l.map fun a=>a.lr.toNat
theorem vz (fs:List Nat):aZ (cI fs)=fs:=by
 induction fs with
 |nil=>rfl
 |cons n fs ih=>
  show (AV.int .i64 n).lr.toNat :: aZ (cI fs)=n :: fs;rw [ih];simp [AV.lr]
theorem yy (fs:List Nat):fY (cI fs)=true:=by
 induction fs with
 |nil=>rfl
 |cons n fs ih=>exact ih
def Vt (k:Fe):GO→GO→Bool
 |.loop _ _ _ _ _ _ _ _ _ _,.loop b p _ _ _ _ _ _ _ d=>k.is b p d
 |_,_=>false
def TS (k:Fe):GO→GO
 |.loop _ _ fn sl n ps s5 bd d _=>.loop k.b k.p fn sl n ps s5 bd d k.d
 |_=>.dead
def bc (es:List (AV × AV)):Bool:=fY (ab es)
def Ck:GO→GO→Bool
 |.tok f sz e,.tok f' bR e'=>decide (f'=f)&&(aac bR sz&&aac e' e)
 |.defers a,.defers b=>match a,b with
  |true,true=>true
  |false,false=>true
  |_,_=>false
 |.dead,_=>true
 |_,_=>false
structure cM where
 ps:aJ
 sl:List Tmp
 W:List Tmp
 bx:List (Nat × Nat)
 g:List GL
 X9:List (Tmp × Nat × Nat)
def yz (ae:bh):List Tmp→Option (List AV)
 |[]=>some []
 |t :: l=>match lk ae t with
  |.v a=>match yz ae l with
   |some r=>some (a :: r)
   |none=>none
  |_=>none
def yA (bx:cO):List (Nat × Nat)→Option (List AV)
 |[]=>some []
 |(k,n) :: l=>match dy bx k with
  |some cs=>match yA bx l with
   |some r=>bif aac cs.length n then some (cs++r) else none
   |none=>none
  |none=>none
def j9:List GL→List GO→Option (List AV)
 |[],_=>some []
 |.row n :: l,.row cs _ :: G=>match j9 l G with
  |some r=>bif aac cs.length n then some (cs++r) else none
  |none=>none
 |.tok _ sz e :: l,.tok _ bR e' :: G=>bif aac sz bR&&aac e e' then j9 l G else none
 |.dead :: l,_ :: G=>j9 l G
 |.lp _ :: l,_ :: G=>j9 l G
 |.aW :: l,_ :: G=>j9 l G
 |.map :: l,.map es :: G=>match j9 l G with
  |some r=>some (.list .lq 2 (ab es) :: r)
  |none=>none
 |.Ff :: l,.gB s pos :: G=>match j9 l G with
  |some r=>some (.str s :: .int .i64 pos :: r)
  |none=>none
 |.dV sz e :: l,.dV es bR e' :: G=>match j9 l G with
  |some r=>bif aac sz bR&&aac e e' then some (.list .lq bR es :: r) else none
  |none=>none
 |.bB sz e :: l,.bB fs bR e' :: G=>match j9 l G with
  |some r=>bif aac sz bR&&aac e e' then some (.list .lq 1 (cI fs) :: r) else none
  |none=>none
 |.tg :: l,.map es :: G=>match j9 l G with
  |some r=>some (.list .lq 2 (ab es) :: r)
  |none=>none
 |.oE rG :: l,.oE mid' n left _ _ :: G=>match j9 l G with
  |some r=>bif aac rG mid' then some (.int .i64 n :: .list .lq 1 (cI left) :: r) else none
  |none=>none
 |_,_=>none
def LC (vs:List AV) (loc:Nat):Nat:=match nth vs loc with
 |some (.list _ _ es)=>es.length
 |_=>0
def TT:GO→GO→Bool
 |.row _ e,.row _ e'=>aac e e'
 |_,_=>false
def TU:GO→GO→Bool
 |.oE _ _ _ _ t,.oE _ _ _ _ t'=>aac t t'
 |_,_=>false
def Zp:GO→TypeId
 |.oE _ _ _ _ t=>t
 |_=>0
def Zq:GO→TypeId
 |.row _ e=>e
 |_=>0
def dI (vs:List AV):List GL→List GO→List GO→Bool
 |[],_,_=>true
 |.tok loc _ _ :: l,_ :: B,.tok f _ _ :: G=>decide (f=LC vs loc)&&dI vs l B G
 |.tok _ _ _ :: _,_,_=>false
 |.lp k :: l,o :: B,o' :: G=>Vt k o o'&&dI vs l B G
 |.aW :: l,o :: B,o' :: G=>Ck o o'&&dI vs l B G
 |.row _ :: l,b :: B,g :: G=>TT b g&&dI vs l B G
 |.map :: l,_ :: B,.map es :: G=>bc es&&dI vs l B G
 |.map :: _,_,_=>false
 |.Ff :: l,_ :: B,_ :: G=>dI vs l B G
 |.dV _ _ :: l,_ :: B,_ :: G=>dI vs l B G
 |.bB _ _ :: l,_ :: B,_ :: G=>dI vs l B G
 |.tg :: l,_ :: B,_ :: G=>dI vs l B G
 |.oE _ :: l,b :: B,g :: G=>TU b g&&dI vs l B G
 |.dead :: l,_ :: B,_ :: G=>dI vs l B G
 |_,_,_=>false
def pJ:List Tmp→List AV→bh→bh
 |t :: ts,a :: l,r=>.put t (.v a) :: pJ ts l r
 |_,_,r=>r
def pK:List (Tmp × Nat × Nat)→bh→bh
 |(t,k,o) :: l,r=>.put t (.lp k o) :: pK l r
 |[],r=>r
def H0 (ae:bh):List (Tmp × Nat × Nat)→Bool
 |[]=>true
 |(t,k,o) :: l=>(match lk ae t with
  |.lp k' o'=>aac k' k&&aac o' o
  |_=>false)&&H0 ae l
def yB:List Tmp→bh→bh
 |t :: ts,r=>.put t .none :: yB ts r
 |[],r=>r
def vA:List (Nat × Nat)→List AV→cO→cO
 |(k,n) :: r,l,b=>(k,l.take n) :: vA r (l.drop n) b
 |[],_,b=>b
def dH (vs:List AV):List GL→List GO→List AV→List GO
 |.row n :: r,B,l=>.row (l.take n) (Zq (B.headD .dead)) :: dH vs r B.tail (l.drop n)
 |.tok loc sz e :: r,B,l=>.tok (LC vs loc) sz e :: dH vs r B.tail l
 |.dead :: r,B,l=>.dead :: dH vs r B.tail l
 |.lp k :: r,B,l=>TS k (B.headD .dead) :: dH vs r B.tail l
 |.aW :: r,B,l=>B.headD .dead :: dH vs r B.tail l
 |.map :: r,B,l=>.map (AV.entries (eB l)) :: dH vs r B.tail l.tail
 |.Ff :: r,B,l=>.gB (AV.UC (eB l)) (AV.lr (eB l.tail)).toNat :: dH vs r B.tail l.tail.tail
 |.dV sz e :: r,B,l=>.dV (AV.dW (eB l)) sz e :: dH vs r B.tail l.tail
 |.bB sz e :: r,B,l=>.bB (aZ (AV.dW (eB l))) sz e :: dH vs r B.tail l.tail
 |.tg :: r,B,l=>.map (AV.entries (eB l)) :: dH vs r B.tail l.tail
 |.oE rG :: r,B,l=>.oE rG (AV.lr (eB l)).toNat (aZ (AV.dW (eB l.tail))) none (Zp (B.headD .dead)) :: dH vs r B.tail l.tail.tail
 |[],_,_=>[]
def Cl:List (Nat × Nat)→Nat
 |[]=>0
 |(_,n) :: l=>n+Cl l
def kL:List GL→List AV→Nat→Nat
 |[],_,_=>0
 |.dV _ _ :: r,l,i=>match i with
  |0=>(AV.dW (eB l)).length
  |i+1=>kL r l.tail i
 |.row n :: r,l,i=>match i with
  |0=>0
  |i+1=>kL r (l.drop n) i
 |.map :: r,l,i=>match i with
  |0=>0
  |i+1=>kL r l.tail i
 |.Ff :: r,l,i=>match i with
  |0=>0
  |i+1=>kL r l.tail.tail i
 |.bB _ _ :: r,l,i=>match i with
  |0=>0
  |i+1=>kL r l.tail i
 |.tg :: r,l,i=>match i with
  |0=>0
  |i+1=>kL r l.tail i
 |.oE _ :: r,l,i=>match i with
  |0=>0
  |i+1=>kL r l.tail.tail i
 |_ :: r,l,i=>match i with
  |0=>0
  |i+1=>kL r l i
def cM.qU (t:cM) (v:t.ps.T):List AV:=t.ps.kK (kL t.g (((t.ps.kK (fun _=>0) v).drop t.sl.length).drop (Cl t.bx))) v
def cM.st (t:cM) (s:St) (v:t.ps.T):St:=
 ⟨pK t.X9 (pJ t.sl (t.qU v) (yB t.W s.ae)),vA t.bx ((t.qU v).drop t.sl.length) s.boxes,dH (t.qU v) t.g s.G (((t.qU v).drop t.sl.length).drop (Cl t.bx)),s.marks,s.ro,s.n⟩
def O3:List Nat→Nat→Bool
 |[],_=>false
 |a :: l,n=>aac a n || O3 l n
def Ya (l:List Tmp) (W:List Tmp) (n:Nat):Bool:=O3 l n || O3 W n
def AD (d:Nat) (l W:List Tmp):bh→Bool
 |[]=>true
 |.put t (.lp k _) :: r=>(!(aac k d) || Ya l W t)&&AD d l W r
 |_ :: r=>AD d l W r
def uA (l W:List Tmp) (base:bh):bh→Bool
 |[]=>true
 |.put d _ :: r=>Ya l W d&&uA l W base r
 |.kill d :: r=>AD d l W base&&uA l W base r
def vV:List (Nat × Nat)→Nat→Bool
 |[],_=>false
 |(a,_) :: l,n=>aac a n || vV l n
def wK (l:List (Nat × Nat)) (base:cO):cO→Bool
 |[]=>true
 |(k,_) :: r=>(vV l k || (dy base k).isNone)&&wK l base r
def PE:List Nat→List Nat→Bool
 |[],[]=>true
 |a :: l,b :: r=>aac a b&&PE l r
 |_,_=>false
def aM.lcl (n:Nat):aM→Bool
 |.list _ p=>p.under n
 |_=>false
def aJ.flags (n:Nat):aJ→List Bool
 |.nil=>[]
 |.cons p ps=>p.lcl n :: ps.flags n
def kM:List GL→List Bool→Bool
 |[],_=>true
 |.dV _ _ :: r,f :: l=>f&&kM r l
 |.dV _ _ :: _,[]=>false
 |.row n :: r,l=>kM r (fH n l)
 |.map :: r,l=>kM r (fH 1 l)
 |.Ff :: r,l=>kM r (fH 2 l)
 |.bB _ _ :: r,l=>kM r (fH 1 l)
 |.tg :: r,f :: l=>f&&kM r l
 |.tg :: _,[]=>false
 |.oE _ :: r,l=>kM r (fH 2 l)
 |_ :: r,l=>kM r l
def LD (n:Nat):List GL→Bool
 |[]=>true
 |.oE rG :: r=>aaC rG n&&LD n r
 |_ :: r=>LD n r
def cM.ok (t:cM) (s s':St):Bool:=
 uA t.sl t.W s.ae (s'.ae.take (s'.ae.length - s.ae.length))&&wK t.bx s.boxes (s'.boxes.take (s'.boxes.length - s.boxes.length)) &&
  PE s'.marks s.marks&&aac t.g.length s.G.length&&(t.ps.under s.G.length&&(kM t.g (fH (Cl t.bx) (fH t.sl.length (t.ps.flags s.G.length)))&&LD s.G.length t.g))&&H0 s'.ae t.X9
def cM.dec (t:cM) (s s':St):Option t.ps.T:=
 bif t.ok s s' then
  match yz s'.ae t.sl,yA s'.boxes t.bx,j9 t.g s'.G with
  |some a,some b,some c=>(t.ps.Jt (kL t.g c) (a++(b++c))).bind fun v=>bif dI (t.qU v) t.g s.G s'.G then some v else none
  |_,_,_=>none
 else none
theorem Cm {l:List Nat} {n:Nat}:O3 l n=true↔n∈l:=by
 induction l with
 |nil=>simp [O3]
 |cons a l ih=>
  simp only [O3,Bool.or_eq_true,Nat.beq_eq,ih,aaY];constructor
  ·rintro (h|h)
   ·exact .inl h.symm
   ·exact .inr h
  ·rintro (h|h)
   ·exact .inl h.symm
   ·exact .inr h
theorem H3:∀ {a b:List Nat},PE a b=true→a=b
 |[],[],_=>rfl
 |a :: l,b :: r,h=>by
  simp only [PE,aaa,Nat.beq_eq] at h;rw [h.1,H3 h.2]
 |[],_ :: _,h=>by cases h
 |_ :: _,[],h=>by cases h
theorem Cn {d:Nat} {l W:List Tmp} {t off:Nat}:∀ {base:bh},AD d l W base=true→lk base t=.lp d off→Ya l W t=true
 |[],_,h=>by simp [lk] at h
 |.put t' x :: r,hn,h=>by
  by_cases e:t'=t
  ·subst e;rw [ay] at h;subst h;simp only [AD,Nat.beq_refl,Bool.not_true,Bool.false_or,aaa] at hn;exact hn.1
  ·rw [aQ e] at h;refine Cn (base:=r) ?_ h;cases x <;> simp only [AD,aaa] at hn
   ·exact hn
   ·exact hn
   ·exact hn.2
 |.kill d' :: r,hn,h=>by
  rcases Hw (l:=r) (d:=d') (t:=t) with ⟨h1,_⟩|h1
  ·rw [h1] at h;exact Cn (base:=r) hn h
  ·rw [h1] at h;cases h
theorem Co {l W:List Tmp} {base:bh} {t:Nat} (ht:Ya l W t=false):∀ {pre:bh},uA l W base pre=true→lk (pre++base) t=lk base t
 |[],_=>rfl
 |.put d x :: r,h=>by
  simp only [uA,aaa] at h;have cQ:d≠t:=fun e=>by rw [e,ht] at h; exact absurd h.1 (by simp)
  rw [aaX,aQ cQ];exact Co ht h.2
 |.kill d :: r,h=>by
  simp only [uA,aaa] at h;have ih:=Co ht h.2;simp only [aaX,lk,ih];cases hb:lk base t with
  |lp k off=>
   by_cases e:k=d
   ·subst e;have:=Cn h.1 hb;rw [ht] at this;cases this
   ·simp [nK e]
  |_=>rfl
theorem D0 {l:List (Nat × Nat)} {base:cO} {k:Nat} {cs:List AV} (hk:vV l k=false) (hb:dy base k=some cs):∀ {pre:cO},wK l base pre=true→dy (pre++base) k=some cs
 |[],_=>hb
 |(d,x) :: r,h=>by
  simp only [wK,aaa] at h;have cQ:d≠k:=fun e=>by
   rw [e,hk,hb] at h;exact absurd h.1 (by simp)
  rw [aaX,dy,nK cQ];exact D0 hk hb h.2
theorem D1 {α:Type} (pre base:List α):(pre++base).take ((pre++base).length - base.length)=pre:=by
 rw [List.length_append,Nat.add_sub_cancel,aa6]
def ak.cut (R:ak) (n:Nat):ak:=⟨R.I,R.obj.take n⟩
theorem ka {R:ak} {n id:Nat} {ro:RO}:nth (R.cut n).obj id=some ro↔id < n∧nth R.obj id=some ro:=by
 simp only [ak.cut,bg,List.getElem?_take];split
 ·simp_all
 ·simp_all;omega
theorem pL (R:ak) (n:Nat):Mv R (R.cut n) n:=⟨fun _ _ h=>h,fun _ _ hl h=>ka.2 ⟨hl,h⟩⟩
section C3
variable {E:Env} {R R':ak} {w w':World} {β β':Nat→Nat} {s s':St} {a a':Act}
def yC (R:ak) (w:World) (β:Nat→Nat) (K:Nat→Prop) (ae:bh) (tmps:Array Value):Prop:=
 ∀ i,¬ K i→lk ae i≠.none→∃ c,tmps[i]?=some c∧qQ R w β (lk ae i) c
theorem yD {tmps:Array Value} {base:bh}:∀ {W:List Tmp} {K:Nat→Prop},yC R w β (fun i=>i∈W∨K i) base tmps→yC R w β K (yB W base) tmps
 |[],K,h=>fun i hi hn=>h i (by simpa using hi) hn
 |t :: W,K,h=>fun i hi hn=>by
  have ih:yC R w β (fun i=>i=t∨K i) (yB W base) tmps:=yD (W:=W) (fun j hj=>h j (fun hc=>hj (by
   rcases hc with hc|hc
   ·rcases aaY.1 hc with hc|hc
    ·exact .inr (.inl hc)
    ·exact .inl hc
   ·exact .inr (.inr hc))))
  simp only [yB] at hn ⊢;by_cases e:t=i
  ·subst e;rw [ay] at hn;exact absurd rfl hn
  ·rw [aQ e] at hn ⊢;exact ih i (by simp; exact ⟨fun e'=>e e'.symm,hi⟩) hn
theorem vB {n:Nat} (m:Mv R' R n) {tmps:Array Value} {ae:bh} (hT:oV R' w β ae tmps) {base:bh}:∀ {ts:List Tmp} {K:Nat→Prop} {l l' r r':List AV},yz ae ts=some l→cP (l++r) (l'++r')→l.length=l'.length→aC n l'=true →
  yC R w β (fun i=>i∈ts∨K i) base tmps→yC R w β K (pJ ts (l'++r') base) tmps
 |[],K,l,l',r,r',_,_,_,_,h=>fun i hi hn=>by
  have e:pJ [] (l'++r') base=base:=rfl;rw [e] at hn ⊢;exact h i (by simpa using hi) hn
 |t :: ts,K,l,l',r,r',hg,hw,hl,hu,h=>by
  unfold yz at hg;split at hg
  ·rename_i a ha;split at hg
   ·rename_i l0 uk;cases hg;cases l' with
    |nil=>simp at hl
    |cons b l'=>
     simp only [aaX,cP] at hw;simp only [aC,aaa] at hu;have ih:yC R w β (fun i=>i=t∨K i) (pJ ts (l'++r') base) tmps:=vB m hT uk hw.2 (by simpa using hl) hu.2 (fun j hj=>h j (fun hc=>hj (by
      rcases hc with hc|hc
      ·rcases aaY.1 hc with hc|hc
       ·exact .inr (.inl hc)
       ·exact .inl hc
      ·exact .inr (.inr hc))))
     intro i hi hn;simp only [pJ,aaX] at hn ⊢;by_cases e:t=i
     ·subst e;rw [ay] at hn ⊢;obtain ⟨c,h1,h2⟩:=hT t (by rw [ha]; simp);rw [ha] at h2;exact ⟨c,h1,Rel.move m hu.1 (hw.1 _ _ _ h2)⟩
     ·rw [aQ e] at hn ⊢;exact ih i (by simp; exact ⟨fun e'=>e e'.symm,hi⟩) hn
   ·cases hg
  ·cases hg
def yF (R:ak) (w:World) (β:Nat→Nat) (k:Nat) (cs:List AV):Prop:=
 (∃ vs el,w.heap[β k]?=some (.cells ⟨vs⟩ el (0,0))∧aK R w cs vs∧(∀ v∈vs,v.oneCell'=true))∧(∀ o,¬ R.I (β k) o)∧¬ Live R (β k)
theorem D2 {R:ak} {n b:Nat} (h:Live (R.cut n) b):Live R b:=by
 obtain ⟨id,ro,h1,h2⟩:=h;exact ⟨id,ro,(ka.1 h1).2,h2⟩
theorem yF.cut {n k:Nat} {cs cs':List AV} (h:yF R w β k cs) (hw:cP cs cs') (hu:aC n cs'=true):yF (R.cut n) w β k cs':=by
 obtain ⟨⟨vs,el,h1,h2,h3⟩,h4,h5⟩:=h;exact ⟨⟨vs,el,h1,(hw.rel h2).move (pL R n) hu,h3⟩,h4,fun hl=>h5 (D2 hl)⟩
theorem fB {n:Nat}:∀ {l r:List AV},aC n (l++r)=(aC n l&&aC n r)
 |[],r=>by simp [aC]
 |a :: l,r=>by simp [aC,fB (l:=l),Bool.and_assoc]
theorem cP.split:∀ {l r l':List AV},cP (l++r) l'→∃ a b,l'=a++b∧cP l a∧cP r b∧a.length=l.length
 |[],r,l',h=>⟨[],l',rfl,trivial,h,rfl⟩
 |x :: l,r,[],h=>h.elim
 |x :: l,r,y :: l',h=>by
  obtain ⟨a,b,rfl,h2,h3,h4⟩:=cP.split (l:=l) (r:=r) (l':=l') h.2;exact ⟨y :: a,b,rfl,⟨h.1,h2⟩,h3,by simp [h4]⟩
theorem D3 {n:Nat} {bxs:cO} (hb:∀ k cs,dy bxs k=some cs→yF R w β k cs) {base:cO}:∀ {bx:List (Nat × Nat)} {K:Nat→Prop} {l l' r:List AV},yA bxs bx=some l→cP l l'→aC n l'=true →
  (∀ k cs,¬ K k→vV bx k=false→dy base k=some cs→dy bxs k=some cs∧aC n cs=true) →
  ∀ k cs,¬ K k→dy (vA bx (l'++r) base) k=some cs→yF (R.cut n) w β k cs∧∃ cs',dy bxs k=some cs'
 |[],K,l,l',r,_,_,_,h,k,cs,hK,hk=>by
  obtain ⟨h1,h2⟩:=h k cs hK rfl hk;exact ⟨(hb k cs h1).cut (cP.refl _) h2,cs,h1⟩
 |(d,m) :: bx,K,l,l',r,hg,hw,hu,h,k,cs,hK,hk=>by
  unfold yA at hg;split at hg
  ·rename_i Za hd;split at hg
   ·rename_i l0 uk;cases hm:aac Za.length m with
    |false=>rw [hm] at hg; cases hg
    |true=>
     rw [hm] at hg;cases hg;have hm:=aab hm;obtain ⟨x,y,rfl,k1,k2,k3⟩:=hw.split;rw [fB,aaa] at hu;have e1:((x++y)++r).take m=x:=by rw [List.append_assoc,← hm,← k3,aa6]
     have e2:((x++y)++r).drop m=y++r:=by rw [List.append_assoc,← hm,← k3,aaM]
     simp only [vA,e1,e2] at hk;rcases eN hk with ⟨rfl,rfl⟩|⟨cQ,hk⟩
     ·exact ⟨(hb d Za hd).cut k1 hu.1,Za,hd⟩
     ·refine D3 hb (K:=fun k=>k=d∨K k) (r:=r) uk k2 hu.2 (fun k' cs' hK' h1 h2=>?_) k cs (fun hc=>?_) hk
      ·exact h k' cs' (fun hc=>hK' (.inr hc)) (by simp only [vV,h1,Bool.or_false]; exact nK (fun e=>hK' (.inl e.symm))) h2
      ·rcases hc with hc|hc
       ·exact cQ hc.symm
       ·exact hK hc
   ·cases hg
  ·cases hg
def yG (n:Nat):List GL→List AV→Prop
 |[],_=>True
 |.dV _ _ :: r,l=>aC n (AV.dW (eB l))=true∧yG n r l.tail
 |.row m :: r,l=>yG n r (l.drop m)
 |.map :: r,l=>yG n r l.tail
 |.Ff :: r,l=>yG n r l.tail.tail
 |.bB _ _ :: r,l=>yG n r l.tail
 |.tg :: r,l=>aC n (AV.dW (eB l))=true∧yG n r l.tail
 |.oE _ :: r,l=>yG n r l.tail.tail
 |_ :: r,l=>yG n r l
def pM (n:Nat):List Bool→List AV→Prop
 |[],_=>True
 |_ :: _,[]=>True
 |f :: fl,a :: l=>(f=true→aC n a.dW=true)∧pM n fl l
theorem pM.drop {m:Nat}:∀ {fl:List Bool} {l:List AV} (n:Nat),pM m fl l→pM m (fH n fl) (l.drop n)
 |_,_,0,h=>by simpa [fH] using h
 |[],_,_+1,_=>by simp [fH,pM]
 |_ :: fl,[],n+1,_=>by
  rw [List.drop_nil];cases fH (n+1) (_ :: fl) <;> trivial
 |_ :: fl,_ :: l,n+1,h=>by simpa [fH] using pM.drop n h.2
theorem fK {m:Nat}:∀ (g:List GL) {fl:List Bool} {l:List AV},kM g fl=true→pM m fl l→yG m g l
 |[],_,_,_,_=>trivial
 |.dV _ _ :: g,[],_,h,_=>by cases h
 |.dV _ _ :: g,f :: fl,[],h,_=>by
  simp only [kM,aaa] at h;refine ⟨rfl,fK g (fl:=fl) h.2 ?_⟩;cases fl <;> trivial
 |.dV _ _ :: g,f :: fl,a :: l,h,k=>by
  simp only [kM,aaa] at h;exact ⟨k.1 h.1,fK g h.2 k.2⟩
 |.row n :: g,fl,l,h,k=>fK g (show kM g (fH n fl)=true from h) (k.drop n)
 |.map :: g,fl,l,h,k=>by
  have:=fK g (show kM g (fH 1 fl)=true from h) (k.drop 1);rw [List.drop_one] at this;exact this
 |.Ff :: g,fl,l,h,k=>by
  have:=fK g (show kM g (fH 2 fl)=true from h) (k.drop 2);have e:l.drop 2=l.tail.tail:=by cases l with
   |nil=>rfl
   |cons a l=>cases l <;> rfl
  rw [e] at this;exact this
 |.bB _ _ :: g,fl,l,h,k=>by
  have:=fK g (show kM g (fH 1 fl)=true from h) (k.drop 1);rw [List.drop_one] at this;exact this
 |.oE _ :: g,fl,l,h,k=>by
  have:=fK g (show kM g (fH 2 fl)=true from h) (k.drop 2);have e:l.drop 2=l.tail.tail:=by cases l with
   |nil=>rfl
   |cons a l=>cases l <;> rfl
  rw [e] at this;exact this
 |.tg :: g,[],_,h,_=>by cases h
 |.tg :: g,f :: fl,[],h,_=>by
  simp only [kM,aaa] at h;refine ⟨rfl,fK g (fl:=fl) h.2 ?_⟩;cases fl <;> trivial
 |.tg :: g,f :: fl,a :: l,h,k=>by
  simp only [kM,aaa] at h;exact ⟨k.1 h.1,fK g h.2 k.2⟩
 |.tok _ _ _ :: g,fl,l,h,k=>fK g (show kM g fl=true from h) k
 |.dead :: g,fl,l,h,k=>fK g (show kM g fl=true from h) k
 |.lp _ :: g,fl,l,h,k=>fK g (show kM g fl=true from h) k
 |.aW :: g,fl,l,h,k=>fK g (show kM g fl=true from h) k
theorem yH {n:Nat} {α:Type} {g:α→AV} (hg:∀ x,(g x).under n=true):∀ xs:List α,aC n (xs.map g)=true
 |[]=>rfl
 |x :: xs=>by simp only [aa9,aC,hg x,yH hg xs,Bool.and_self]
theorem vC {α:Type} {g:α→AV} (hg:∀ x,(g x).closed=true):∀ xs:List α,aB (xs.map g)=true
 |[]=>rfl
 |x :: xs=>by simp only [aa9,aB,hg x,vC hg xs,Bool.and_self]
theorem aJ.D4 (n:Nat) (L:Nat→Nat):∀ (ps:aJ) (x:ps.T),pM n (ps.flags n) (ps.kK L x)
 |.nil,_=>trivial
 |.cons p .nil,x=>⟨fun h=>TV L p x h,trivial⟩
 |.cons p (.cons q ps),x=>⟨fun h=>TV L p x.1 h,(aJ.cons q ps).D4 n L x.2⟩
where
 TV (L:Nat→Nat):∀ (p:aM) (x:p.T),p.lcl n=true→aC n (p.kK L x).dW=true
  |.list _ p,x,h=>yH (fun y=>p.dG y h) _
  |.int _,_,h=>by cases h
  |.bool,_,h=>by cases h
  |.str,_,h=>by cases h
  |.agg _,_,h=>by cases h
  |.bk _,_,h=>by cases h
  |.own _ _ _,_,h=>by cases h
  |.bB _ _ _,_,h=>by cases h
  |.bN _,_,h=>by cases h
  |.two _ _,_,h=>by cases h
def GOk (n:Nat):GO→GO→Prop
 |.row cs el,.row cs' el'=>el'=el∧cP cs cs'∧aC n cs'=true
 |.tok f sz e,.tok f' bR e'=>f=f'∧sz=bR∧e=e'
 |.defers a,.defers b=>a=b
 |.map es,.map es'=>(es'=es∧bc es=true)∨∃ l,es'=aG l∧jW (ab es) l∧aC n l=true
 |.bB fs sz e,.bB UN bR e'=>fs=UN∧sz=bR∧e=e'
 |.oE rG m left _ t,.oE mid' m' A7 cur t'=>rG=mid'∧m=m'∧left=A7∧t=t'∧rG < n∧cur=none
 |.gB l p,.gB l' p'=>l'=l∧p'=p
 |.dV es sz e,.dV es' bR e'=>bR=sz∧e'=e∧jW es es'∧aC n es'=true
 |_,.dead=>True
 |_,_=>False
def LOk:GO→GO→GO→Prop
 |.loop _ _ fn sl n ps s5 bd d _,.loop b p _ _ _ _ _ _ _ dn,go=>go=.loop b p fn sl n ps s5 bd d dn
 |_,_,_=>False
theorem Jv {n:Nat} {o o':GO} (h:Ck o o'=true):GOk n o' o:=by
 cases o with
 |tok f sz e=>
  cases o' with
  |tok f' bR e'=>
   simp only [Ck,aaa] at h;exact ⟨of_decide_eq_true h.1,aab h.2.1,aab h.2.2⟩
  |_=>cases h
 |defers a=>
  cases o' with
  |defers b=>cases a <;> cases b <;> first | rfl | cases h
  |_=>cases h
 |dead=>cases o' <;> trivial
 |_=>cases h
theorem PF {k:Fe} {o o':GO} (h:Vt k o o'=true):LOk o o' (TS k o):=by
 cases o with
 |loop b p fn sl n ps s5 bd d dn=>
  cases o' with
  |loop b' p' Zr X7 n' Zs PG Yb d' dn'=>
   obtain ⟨rfl,rfl,rfl⟩:=Fe.HZ (show k.is b' p' dn'=true from h);rfl
  |_=>cases h
 |_=>cases h
theorem rq (a:AV):a.entries=aG a.dW:=by cases a <;> rfl
theorem gV {n:Nat} {vs:List AV}:∀ {g:List GL} {B G:List GO} {l l':List AV},j9 g G=some l→cP l l'→Kt l l'→yG n g l'∧LD n g=true→aC n l'=true→dI vs g B G=true →
  ∀ id go,nth (dH vs g B l') id=some go→∃ go',nth G id=some go'∧(GOk n go' go∨∃ Kq,nth B id=some Kq∧LOk Kq go' go)
 |[],B,G,l,l',_,_,_,_,_,_,id,go,h=>by simp [dH,nth] at h
 |x :: g,[],G,l,l',_,_,_,_,_,ht,_,_,_=>by cases x <;> cases G <;> cases ht
 |x :: g,_ :: _,[],l,l',_,_,_,_,_,ht,_,_,_=>by cases x <;> cases ht
 |.row m :: g,b :: B,o :: G,l,l',hg,hw,hx,tV,hu,ht,id,go,h=>by
   obtain ⟨Jc,DQ⟩:TT b o=true∧dI vs g B G=true:=by
    rw [← aaa];cases o <;> exact ht
   cases o with
   |row cs el=>
    have qj:Zq b=el:=by
     cases b <;> first | (cases Jc; done) | exact aab Jc
    change (match j9 g G with
     |some r=>bif aac cs.length m then some (cs++r) else none
     |none=>none)=some l at hg
    split at hg
    ·rename_i r hr;cases hm:aac cs.length m with
     |false=>rw [hm] at hg; cases hg
     |true=>
      rw [hm] at hg;cases hg;have hm:=aab hm;obtain ⟨x,y,rfl,k1,k2,k3⟩:=hw.split;rw [fB,aaa] at hu;have e1:(x++y).take m=x:=by rw [← hm,← k3,aa6]
      have e2:(x++y).drop m=y:=by rw [← hm,← k3,aaM]
      simp only [dH,e1,e2] at h;cases id with
      |zero=>simp only [nth] at h; cases h; exact ⟨.row cs el,rfl,.inl ⟨qj,k1,hu.1⟩⟩
      |succ id=>exact gV hr k2 (by obtain ⟨x',y',e1',k1',O1,k3'⟩:=hx.split; have:=aa4 e1' (by rw [k3,k3']); rw [this.2]; exact O1) (by rw [← e2]; exact tV) hu.2 DQ id go h
    ·cases hg
   |_=>cases hg
 |.tok loc sz e :: g,b :: B,o :: G,l,l',hg,hw,hx,tV,hu,ht,id,go,h=>by
   cases o with
   |tok f bR e'=>
    change (bif aac sz bR&&aac e e' then j9 g G else none)=some l at hg;change (decide (f=LC vs loc)&&dI vs g B G)=true at ht;rw [aaa] at ht;cases hm:(aac sz bR&&aac e e') with
    |false=>rw [hm] at hg; cases hg
    |true=>
     rw [hm] at hg;rw [aaa] at hm;have q1:=aab hm.1;have q2:=aab hm.2;simp only [dH] at h;cases id with
     |zero=>
      simp only [nth] at h;cases h;exact ⟨.tok f bR e',rfl,.inl ⟨of_decide_eq_true ht.1,q1.symm,q2.symm⟩⟩
     |succ id=>exact gV hg hw hx tV hu ht.2 id go h
   |_=>cases hg
 |.dead :: g,b :: B,o :: G,l,l',hg,hw,hx,tV,hu,ht,id,go,h=>by
   simp only [dH] at h;have rI:j9 g G=some l:=by cases o <;> exact hg
   have DQ:dI vs g B G=true:=by cases o <;> exact ht
   cases id with
   |zero=>
    simp only [nth] at h;cases h;exact ⟨o,rfl,.inl (by cases o <;> trivial)⟩
   |succ id=>exact gV rI hw hx tV hu DQ id go h
 |.lp k :: g,b :: B,o :: G,l,l',hg,hw,hx,tV,hu,ht,id,go,h=>by
   simp only [dH] at h;have rI:j9 g G=some l:=by cases o <;> exact hg
   change (Vt k b o&&dI vs g B G)=true at ht;rw [aaa] at ht;cases id with
   |zero=>
    simp only [nth] at h;cases h;exact ⟨o,rfl,.inr ⟨b,rfl,PF ht.1⟩⟩
   |succ id=>exact gV rI hw hx tV hu ht.2 id go h
 |.aW :: g,b :: B,o :: G,l,l',hg,hw,hx,tV,hu,ht,id,go,h=>by
   simp only [dH] at h;have rI:j9 g G=some l:=by cases o <;> exact hg
   change (Ck b o&&dI vs g B G)=true at ht;rw [aaa] at ht;cases id with
   |zero=>
    simp only [nth] at h;cases h;exact ⟨o,rfl,.inl (Jv ht.1)⟩
   |succ id=>exact gV rI hw hx tV hu ht.2 id go h
 |.map :: g,b :: B,o :: G,l,l',hg,hw,hx,tV,hu,ht,id,go,h=>by
   cases o with
   |map es=>
    change (match j9 g G with
     |some r=>some (AV.list .lq 2 (ab es) :: r)
     |none=>none)=some l at hg
    change (bc es&&dI vs g B G)=true at ht;rw [aaa] at ht;split at hg
    ·rename_i r hr;cases hg;cases l' with
     |nil=>exact hw.elim
     |cons a l'=>
      simp only [aC,aaa] at hu;simp only [dH,eB,aaR] at h;cases id with
      |zero=>
       simp only [nth] at h;cases h;refine ⟨.map es,rfl,.inl (.inl ⟨?_,ht.1⟩)⟩;rw [rq,hx.2.1 ht.1];exact oH es
      |succ id=>exact gV hr hw.2 hx.2.2.2 tV hu.2 ht.2 id go h
    ·cases hg
   |_=>cases hg
 |.Ff :: g,b :: B,o :: G,l,l',hg,hw,hx,tV,hu,ht,id,go,h=>by
   have DQ:dI vs g B G=true:=by cases o <;> exact ht
   cases o with
   |gB s pos=>
    change (match j9 g G with
     |some r=>some (AV.str s :: AV.int .i64 pos :: r)
     |none=>none)=some l at hg
    split at hg
    ·rename_i r hr;cases hg
     match l',hw,hx,hu,h with
     |[],hw,_,_,_=>exact hw.elim
     |[_],hw,_,_,_=>exact hw.2.elim
     |a :: a' :: l',hw,hx,hu,h=>
      simp only [aC,aaa] at hu;simp only [dH,eB,aaR] at h;have e1:=hx.1 (by simp [AV.exact]);have e2:=hx.2.2.2.1 (by simp [AV.exact]);subst e1 e2;cases id with
      |zero=>
       simp only [nth] at h;cases h;exact ⟨.gB s pos,rfl,.inl ⟨rfl,by simp [AV.lr]⟩⟩
      |succ id=>exact gV hr hw.2.2 hx.2.2.2.2.2.2 tV hu.2.2 DQ id go h
    ·cases hg
   |_=>cases hg
 |.dV sz e :: g,b :: B,o :: G,l,l',hg,hw,hx,tV,hu,ht,id,go,h=>by
   have DQ:dI vs g B G=true:=by cases o <;> exact ht
   cases o with
   |dV es bR e'=>
    change (match j9 g G with
     |some r=>bif aac sz bR&&aac e e' then some (AV.list .lq bR es :: r) else none
     |none=>none)=some l at hg
    split at hg
    ·rename_i r hr;cases hm:(aac sz bR&&aac e e') with
     |false=>rw [hm] at hg; cases hg
     |true=>
     rw [hm] at hg;rw [aaa] at hm;have q1:=aab hm.1;have q2:=aab hm.2;cases hg;cases l' with
     |nil=>exact hw.elim
     |cons a l'=>
      simp only [aC,aaa] at hu;simp only [dH,eB,aaR] at h;cases id with
      |zero=>
       simp only [nth] at h;cases h;exact ⟨.dV es bR e',rfl,.inl ⟨q1,q2,hx.2.2.1,tV.1.1⟩⟩
      |succ id=>exact gV hr hw.2 hx.2.2.2 ⟨tV.1.2,tV.2⟩ hu.2 DQ id go h
    ·cases hg
   |_=>cases hg
 |.bB sz e :: g,b :: B,o :: G,l,l',hg,hw,hx,tV,hu,ht,id,go,h=>by
   have DQ:dI vs g B G=true:=by cases o <;> exact ht
   cases o with
   |bB fs bR e'=>
    change (match j9 g G with
     |some r=>bif aac sz bR&&aac e e' then some (AV.list .lq 1 (cI fs) :: r) else none
     |none=>none)=some l at hg
    split at hg
    ·rename_i r hr;cases hm:(aac sz bR&&aac e e') with
     |false=>rw [hm] at hg; cases hg
     |true=>
     rw [hm] at hg;rw [aaa] at hm;have q1:=aab hm.1;have q2:=aab hm.2;cases hg;cases l' with
     |nil=>exact hw.elim
     |cons a l'=>
      simp only [aC,aaa] at hu;simp only [dH,eB,aaR] at h;cases id with
      |zero=>
       simp only [nth] at h;cases h;refine ⟨.bB fs bR e',rfl,.inl ⟨?_,q1.symm,q2.symm⟩⟩;rw [hx.2.1 (yy fs)];exact (vz fs).symm
      |succ id=>exact gV hr hw.2 hx.2.2.2 tV hu.2 DQ id go h
    ·cases hg
   |_=>cases hg
 |.tg :: g,b :: B,o :: G,l,l',hg,hw,hx,tV,hu,ht,id,go,h=>by
   have DQ:dI vs g B G=true:=by cases o <;> exact ht
   cases o with
   |map es=>
    change (match j9 g G with
     |some r=>some (AV.list .lq 2 (ab es) :: r)
     |none=>none)=some l at hg
    split at hg
    ·rename_i r hr;cases hg;cases l' with
     |nil=>exact hw.elim
     |cons a l'=>
      simp only [aC,aaa] at hu;simp only [dH,eB,aaR] at h;cases id with
      |zero=>
       simp only [nth] at h;cases h;exact ⟨.map es,rfl,.inl (.inr ⟨a.dW,rq a,hx.2.2.1,tV.1.1⟩)⟩
      |succ id=>exact gV hr hw.2 hx.2.2.2 ⟨tV.1.2,tV.2⟩ hu.2 DQ id go h
    ·cases hg
   |_=>cases hg
 |.oE rG :: g,b :: B,o :: G,l,l',hg,hw,hx,tV,hu,ht,id,go,h=>by
   obtain ⟨Jc,DQ⟩:TU b o=true∧dI vs g B G=true:=by
    rw [← aaa];cases o <;> exact ht
   cases o with
   |oE mid' k left cur t=>
    have qj:Zp b=t:=by
     cases b <;> first | (cases Jc; done) | exact aab Jc
    change (match j9 g G with
     |some r=>bif aac rG mid' then some (AV.int .i64 k :: AV.list .lq 1 (cI left) :: r) else none
     |none=>none)=some l at hg
    split at hg
    ·rename_i r hr;cases hm:aac rG mid' with
     |false=>rw [hm] at hg; cases hg
     |true=>
     rw [hm] at hg;have q1:=aab hm;subst q1;cases hg;have hmp:=tV.2;simp only [LD,aaa] at hmp
     match l',hw,hx,hu,h with
     |[],hw,_,_,_=>exact hw.elim
     |[_],hw,_,_,_=>exact hw.2.elim
     |a :: a' :: l',hw,hx,hu,h=>
      simp only [aC,aaa] at hu;simp only [dH,eB,aaR] at h;have e1:=hx.1 (by simp [AV.exact]);have e2:=hx.2.2.2.2.1 (yy left);subst e1;cases id with
      |zero=>
       simp only [nth] at h;cases h;refine ⟨.oE rG k left cur t,rfl,.inl ⟨rfl,by simp [AV.lr],?_,qj.symm,jV hmp.1,rfl⟩⟩;rw [e2];exact (vz left).symm
      |succ id=>exact gV hr hw.2.2 hx.2.2.2.2.2.2 ⟨tV.1,hmp.2⟩ hu.2.2 DQ id go h
    ·cases hg
   |_=>cases hg
theorem c7 {vs:List AV}:∀ {g:List GL} {B:List GO} {l:List AV},(dH vs g B l).length=g.length
 |[],_,_=>rfl
 |.row m :: g,B,l=>by simp [dH,c7 (g:=g)]
 |.tok _ _ _ :: g,B,l=>by simp [dH,c7 (g:=g)]
 |.dead :: g,B,l=>by simp [dH,c7 (g:=g)]
 |.lp _ :: g,B,l=>by simp [dH,c7 (g:=g)]
 |.aW :: g,B,l=>by simp [dH,c7 (g:=g)]
 |.map :: g,B,l=>by simp [dH,c7 (g:=g)]
 |.dV _ _ :: g,B,l=>by simp [dH,c7 (g:=g)]
 |.Ff :: g,B,l=>by simp [dH,c7 (g:=g)]
 |.bB _ _ :: g,B,l=>by simp [dH,c7 (g:=g)]
 |.tg :: g,B,l=>by simp [dH,c7 (g:=g)]
 |.oE _ :: g,B,l=>by simp [dH,c7 (g:=g)]
theorem gK.lok {R0:ak} {w0:World} {TW:RO} {Kq go' go:GO} {ro:RO} (e:Ext R0 w0 R w) (h0:gK R0 w0 Kq TW) (hle:cF TW ro) (h:gK R' w go' ro) (k:LOk Kq go' go):gK R w go ro:=by
 cases Kq with
 |loop b p fn sl n ps s5 bd d dn=>
  cases go' with
  |loop b' p' Zr X7 n' Zs PG Yb d' dn'=>
   change go=_ at k;subst k;cases TW with
   |ca bb=>
    simp only [cF] at hle;subst hle;obtain ⟨⟨r0,db0,l1,l2,l3,l4,l5,l6,l7,l8,l9,l10⟩,l11⟩:=h0;obtain ⟨⟨r,db,m1,m2,m3,m4,m5,m6,m7,m8,m9,m10⟩,m11⟩:=h;obtain ⟨r1,q1,q2,q3,q4,q5,q6⟩:=e.lp bb r0 l1;have hr:r1=r:=by
     have:=q1.symm.trans m1;injection this with this;injection this with this
    subst hr;exact ⟨⟨r1,db0,q1,m2,m3,by rw [q2]; exact oV.mono e l4,by rw [q2]; exact l5,by rw [q3]; exact l6,by rw [q4]; exact l7,by rw [q5]; exact l8,by rw [q6]; exact l9,e.ca l10⟩,l11⟩
   |none=>exact h0.elim
   |bO=>exact h0.elim
   |tok _ _ _=>exact h0.elim
   |bB _=>exact h0.elim
  |_=>exact k.elim
 |_=>exact k.elim
theorem dA.cut {n:Nat}:∀ {es:List (AV × AV)} {ax:List MapEntry},fY (ab es)=true→dA R w es ax→dA (R.cut n) w es ax
 |[],[],_,_=>trivial
 |[],_ :: _,_,h=>h.elim
 |_ :: _,[],_,h=>h.elim
 |(k,v) :: es,en :: ax,he,h=>by
  simp only [ab,fY,AV.exact,aaH,aaa] at he;exact ⟨h.1.move (pL R n) (iL n (n3 he.1.1)),h.2.1.move (pL R n) (iL n (n3 he.1.2)),dA.cut he.2 h.2.2⟩
theorem D5 {n:Nat} {v:AV} (h:v.under n=true) (k:v.aY=true):aC n v.cells=true:=by
 cases v <;> first | exact h | (simp [AV.aY] at k; done) | (simp only [AV.cells,aC,aaH]; exact h)
theorem yI {n sz:Nat}:∀ {es es':List AV},jW es es'→dM sz es→aC n es'=true→dM sz es'∧cP (aq es) (aq es')∧aC n (aq es')=true
 |[],[],_,_,_=>⟨(fun e he=>by simp at he),trivial,rfl⟩
 |e :: es,e' :: es',h,k,AW=>by
  obtain ⟨h1,h2⟩:=h;simp only [aC,aaa] at AW;obtain ⟨q1,q2⟩:=k e (by simp);obtain ⟨i1,i2,i3⟩:=yI h2 (fun x hx=>k x (by simp [hx])) AW.2;have hc:=h1.cells q2;have ht:e'.aY=true:=by rw [h1.bk,q2]
  refine ⟨fun x hx=>?_,hc.append i2,by show aC n (e'.cells++aq es')=true; rw [fB,D5 AW.1 ht,i3]; rfl⟩;rcases aaY.1 hx with rfl|hx
  ·exact ⟨by rw [← hc.length,q1],ht⟩
  ·exact i1 x hx
 |[],_ :: _,h,_,_=>h.elim
 |_ :: _,[],h,_,_=>h.elim
theorem oL.head {l r:List AV} (h:oL l r):(AV.dW (eB l)).length=(AV.dW (eB r)).length:=by
 cases l <;> cases r <;> first | rfl | exact h.1 | exact h.elim
theorem oL.tail {l r:List AV} (h:oL l r):oL l.tail r.tail:=by
 cases l <;> cases r <;> first | exact h | exact h.2 | exact h.elim
theorem c8:∀ (g:List GL) {l r:List AV} (i:Nat),oL l r→kL g l i=kL g r i
 |[],_,_,_,_=>rfl
 |.dV _ _ :: g,l,r,0,h=>h.head
 |.dV _ _ :: g,l,r,i+1,h=>c8 g i h.tail
 |.row _ :: g,l,r,0,h=>rfl
 |.row n :: g,l,r,i+1,h=>c8 g i (h.drop n)
 |.map :: g,l,r,0,h=>rfl
 |.map :: g,l,r,i+1,h=>c8 g i h.tail
 |.Ff :: g,l,r,0,h=>rfl
 |.Ff :: g,l,r,i+1,h=>c8 g i h.tail.tail
 |.bB _ _ :: g,l,r,0,h=>rfl
 |.bB _ _ :: g,l,r,i+1,h=>c8 g i h.tail
 |.tg :: g,l,r,0,h=>rfl
 |.tg :: g,l,r,i+1,h=>c8 g i h.tail
 |.oE _ :: g,l,r,0,h=>rfl
 |.oE _ :: g,l,r,i+1,h=>c8 g i h.tail.tail
 |.tok _ _ _ :: g,l,r,0,h=>rfl
 |.tok _ _ _ :: g,l,r,i+1,h=>c8 g i h
 |.dead :: g,l,r,0,h=>rfl
 |.dead :: g,l,r,i+1,h=>c8 g i h
 |.lp _ :: g,l,r,0,h=>rfl
 |.lp _ :: g,l,r,i+1,h=>c8 g i h
 |.aW :: g,l,r,0,h=>rfl
 |.aW :: g,l,r,i+1,h=>c8 g i h
theorem dA.Zt {n:Nat}:∀ {es:List (AV × AV)} {l:List AV} {ax:List MapEntry},jW (ab es) l→aC n l=true→dA R w es ax→dA (R.cut n) w (aG l) ax
 |[],[],[],_,_,_=>trivial
 |[],[],_ :: _,_,_,h=>h.elim
 |[],_ :: _,_,h,_,_=>h.elim
 |(_,_) :: _,[],_,h,_,_=>h.elim
 |(_,_) :: _,_ :: _,[],_,_,h=>h.elim
 |(k,v) :: es,a :: l,en :: ax,hd,hu,h=>by
  obtain ⟨d1,d2⟩:=hd;simp only [aC,aaa] at hu;have hc:=d1.cells rfl;have hl:[k,v].length=a.cells.length:=hc.length;cases a with
  |agg cs=>
   match cs,hc,hl with
   |[k',v'],hc,_=>
    have Vu:aC n [k',v']=true:=hu.1;simp only [aC,aaH,aaa] at Vu;exact ⟨(hc.1 _ _ _ h.1).move (pL R n) Vu.1,(hc.2.1 _ _ _ h.2.1).move (pL R n) Vu.2,dA.Zt d2 hu.2 h.2.2⟩
   |[],_,hl=>simp [AV.cells] at hl
   |[_],_,hl=>simp [AV.cells] at hl
   |_ :: _ :: _ :: _,_,hl=>simp [AV.cells] at hl
  |_=>simp [AV.cells] at hl
theorem gK.gok {n:Nat} {go go':GO} {ro:RO} (h:gK R w go' ro) (k:GOk n go' go):gK (R.cut n) w go ro:=by
 cases go with
 |dead=>
  cases ro with
  |none=>trivial
  |bO=>trivial
  |ca b=>exact h.lt rfl
  |tok f b c=>exact h.lt rfl
  |bB ts=>exact fun j f b c hj=>h.lt ⟨j,f,c,hj⟩
 |row cs el=>
  cases go' with
  |row cs' el'=>
   cases ro with
   |ca b=>
    obtain ⟨vs,h1,h2,h3,h4⟩:=h;obtain ⟨rfl,k⟩:=k;exact ⟨vs,h1,(k.1.rel h2).move (pL R n) k.2,h3,h4⟩
   |none=>exact h.elim
   |bO=>exact h.elim
   |tok _ _ _=>exact h.elim
   |bB _=>exact h.elim
  |_=>exact k.elim
 |tok f sz e=>
  cases go' with
  |tok f' bR e'=>
   obtain ⟨rfl,rfl,rfl⟩:=k;cases ro with
   |ca b=>exact h.elim
   |none=>exact h.elim
   |bO=>exact h
   |tok _ _ _=>exact h
   |bB _=>exact h.elim
  |_=>exact k.elim
 |defers a=>
  cases go' with
  |defers b=>
   change b=a at k;subst k;cases ro <;> exact h
  |_=>exact k.elim
 |map es=>
  cases go' with
  |map es'=>
   cases ro with
   |ca b=>
    obtain ⟨ax,clock,h1,h2,h3⟩:=h;rcases k with ⟨rfl,k2⟩|⟨l,rfl,k2,k3⟩
    ·exact ⟨ax,clock,h1,dA.cut k2 h2,h3⟩
    ·exact ⟨ax,clock,h1,dA.Zt k2 k3 h2,h3⟩
   |none=>exact h.elim
   |bO=>exact h.elim
   |tok _ _ _=>exact h.elim
   |bB _=>exact h.elim
  |_=>exact k.elim
 |bB fs sz e=>
  cases go' with
  |bB UN bR e'=>
   obtain ⟨rfl,rfl,rfl⟩:=k;cases ro <;> exact h
  |_=>exact k.elim
 |oE rG m left cur t=>
  cases go' with
  |oE mid' m' A7 Di t'=>
   obtain ⟨rfl,rfl,rfl,rfl,k,rfl⟩:=k;cases ro with
   |ca b=>obtain ⟨bm,seen,c0,h1,h2,h3,h4,h5,h6,_⟩:=h; exact ⟨bm,seen,c0,ka.2 ⟨k,h1⟩,h2,h3,h4,h5,h6,fun i hi=>by cases hi⟩
   |none=>exact h.elim
   |bO=>exact h.elim
   |tok _ _ _=>exact h.elim
   |bB _=>exact h.elim
  |_=>exact k.elim
 |gB l p=>
  cases go' with
  |gB l' p'=>
   obtain ⟨rfl,rfl⟩:=k;cases ro <;> exact h
  |_=>exact k.elim
 |dV es sz e=>
  cases go' with
  |dV es' bR e'=>
   obtain ⟨rfl,rfl,k,kc⟩:=k;cases ro with
   |ca b=>exact h.elim
   |none=>exact h.elim
   |bB _=>exact h.elim
   |bO=>
    have he:es'=[]:=h;subst he;exact List.eq_nil_of_length_eq_zero k.length.symm
   |tok f b c=>
    obtain ⟨h0,h1,cur,vs,h2,h3,h4,h5,h6,h7,h8,h9⟩:=h;obtain ⟨k1,k2,k3⟩:=yI k h1 kc;exact ⟨h0.trans k.length,k1,cur,vs,h2,h3,h4,h5,h6,(k2.rel h7).move (pL R n) k3,h8,h9⟩
  |_=>exact k.elim
 |_=>cases go' <;> exact k.elim
theorem qR.ids:∀ {l:List Nat} {ds:List Deferred},qR R l ds→∀ id∈l,id < R.obj.length
 |[],[],_,id,hi=>by simp at hi
 |x :: l,d :: ds,h,id,hi=>by
  obtain ⟨⟨b,h1,_⟩,h2⟩:=h;rcases aaY.1 hi with rfl|hi
  ·exact b7 h1
  ·exact qR.ids h2 id hi
 |[],_ :: _,h,_,_=>h.elim
 |_ :: _,[],h,_,_=>h.elim
theorem qR.cut {n:Nat}:∀ {l:List Nat} {ds:List Deferred},qR R l ds→(∀ id∈l,id < n)→qR (R.cut n) l ds
 |[],[],_,_=>trivial
 |x :: l,d :: ds,h,hi=>by
  obtain ⟨⟨b,h1,h3⟩,h2⟩:=h;exact ⟨⟨b,ka.2 ⟨hi x (by simp),h1⟩,h3⟩,qR.cut h2 fun id hm=>hi id (by simp [hm])⟩
 |[],_ :: _,h,_=>h.elim
 |_ :: _,[],h,_=>h.elim
theorem vD {n:Nat} {tmps:Array Value} {ae base:bh} (hT:oV R w β ae tmps):∀ {l:List (Tmp × Nat × Nat)},H0 ae l=true→oV (R.cut n) w β base tmps→oV (R.cut n) w β (pK l base) tmps
 |[],_,h=>h
 |(t,k,o) :: l,hl,h=>fun i hi=>by
  simp only [H0,aaa] at hl;simp only [pK] at hi ⊢;by_cases e:t=i
  ·subst e;rw [ay];have h1:=hl.1;split at h1
   ·rename_i k' o' hk;rw [aaa] at h1;have e1:=aab h1.1;have e2:=aab h1.2;subst e1 e2;obtain ⟨c,q1,q2⟩:=hT t (by rw [hk]; simp);rw [hk] at q2;exact ⟨c,q1,q2⟩
   ·cases h1
  ·rw [aQ e] at hi ⊢;exact vD hT hl.2 h i hi
theorem cM.C3 {t:cM} {v:t.ps.T} (hs:aX s s') (h0:bl E R w β s a) (h:bl E R' w' β' s' a') (st:Step R w β s.boxes R' w' β' s'.boxes) (hd:t.dec s s'=some v) :
  bl E (R'.cut s.G.length) w' β' (t.st s v) a'∧Step R w β s.boxes (R'.cut s.G.length) w' β' (t.st s v).boxes:=by
 have hlen:=h0.g.len;unfold cM.dec at hd;cases eJ:t.ok s s' with
 |false=>rw [eJ] at hd; cases hd
 |true=>
 rw [eJ] at hd;simp only [cond_true] at hd;unfold cM.ok at eJ;simp only [aaa] at eJ;obtain ⟨⟨⟨⟨⟨k1,k2⟩,k3⟩,k4⟩,k5,k7,k8⟩,k6⟩:=eJ;obtain ⟨pre,Ay⟩:=hs.sl;obtain ⟨preB,TX⟩:=hs.bx;rw [Ay,D1] at k1;rw [TX,D1] at k2;have k3:=H3 k3;have k4:=aab k4;split at hd
 ·rename_i la lb lc g1 g2 g3;cases hv:t.ps.Jt (kL t.g lc) (la++(lb++lc)) with
  |none=>rw [hv] at hd; cases hd
  |some v'=>
  rw [hv] at hd;simp only [Option.bind_some] at hd;cases Fb:dI (t.qU v') t.g s.G s'.G with
  |false=>rw [Fb] at hd; cases hd
  |true=>
  rw [Fb] at hd;cases hd;have lsl:∀ {ts:List Tmp} {l:List AV},yz s'.ae ts=some l→l.length=ts.length:=by
   intro ts
   induction ts with
   |nil=>intro l hl; simp only [yz] at hl; cases hl; rfl
   |cons t ts ih=>
    intro l hl;unfold yz at hl;split at hl
    ·split at hl
     ·rename_i hr;cases hl;simp [ih hr]
     ·cases hl
    ·cases hl
  have lbx:∀ {bx:List (Nat × Nat)} {l:List AV},yA s'.boxes bx=some l→l.length=Cl bx:=by
   intro bx
   induction bx with
   |nil=>intro l hl; simp only [yA] at hl; cases hl; rfl
   |cons x bx ih=>
    obtain ⟨k,m⟩:=x;intro l hl;unfold yA at hl;split at hl
    ·split at hl
     ·rename_i cs _ _ r hr;cases hm:aac cs.length m with
      |false=>rw [hm] at hl; cases hl
      |true=>
       rw [hm] at hl;cases hl;simp only [Cl,List.length_append,ih hr,aab hm]
     ·cases hl
    ·cases hl
  obtain ⟨hw,hex⟩:=t.ps.PD _ hv;have TY:t.qU v=t.ps.kK (kL t.g lc) v:=by
   unfold cM.qU;congr 1;funext i;have hl:=hex.Zo.trans (t.ps.pI (kL t.g lc) (fun _=>0) v);have Lt:=(hl.drop t.sl.length).drop (Cl t.bx);rw [← lsl g1,aaM,← lbx g2,aaM,lsl g1,lbx g2] at Lt;exact (c8 t.g i Lt).symm
  have hu:aC s.G.length (t.qU v)=true:=by
   rw [TY,t.ps.Ju _ hv];exact t.ps.Gt _ k5 _
  rw [← TY] at hw hex;have Vv:∃ xa xb xc,t.qU v=xa++(xb++xc)∧cP la xa∧cP lb xb∧cP lc xc∧xa.length=la.length∧xb.length=lb.length∧Kt lc xc:=by
   obtain ⟨xa,r,h1,h2,h3,h4⟩:=hw.split;obtain ⟨xb,xc,rfl,h6,h7,h8⟩:=h3.split;rw [h1] at hex;obtain ⟨ya,yr,g1,_,g3,g4⟩:=hex.split;obtain ⟨_,rfl⟩:=aa4 g1 (by rw [h4,g4]);obtain ⟨yb,yc,k1,_,k3,k4⟩:=g3.split;obtain ⟨_,rfl⟩:=aa4 k1 (by rw [h8,k4]);exact ⟨xa,xb,xc,h1,h2,h6,h7,h4,h8,k3⟩
  obtain ⟨xa,xb,xc,hx,wa,wb,wc,la1,lb1,exc⟩:=Vv;have hu':aC s.G.length xa=true∧aC s.G.length xb=true∧aC s.G.length xc=true:=by
   rw [hx,fB,fB] at hu;simp only [aaa] at hu;exact ⟨hu.1,hu.2.1,hu.2.2⟩
  have e1:(t.qU v).drop t.sl.length=xb++xc:=by rw [hx,← lsl g1,← la1,aaM]
  have e2:(xb++xc).drop (Cl t.bx)=xc:=by rw [← lbx g2,← lb1,aaM]
  have tV:yG s.G.length t.g xc:=by
   have hf:=((aJ.D4 s.G.length _ t.ps v).drop t.sl.length).drop (Cl t.bx) (l:=(t.qU v).drop t.sl.length);rw [e1,e2] at hf;exact fK t.g k7 hf
  have old:∀ {l:List AV} {cs:List Value},aK R w l cs→aC s.G.length l=true:=fun hr=>hr.under (by omega)
  have mv:=pL R' s.G.length;have hbx:∀ k cs,dy s'.boxes k=some cs→yF R' w' β' k cs:=fun k cs hk=>h.b.box k cs hk
  have bok:∀ k cs,dy (vA t.bx (xb++xc) s.boxes) k=some cs→yF (R'.cut s.G.length) w' β' k cs∧∃ cs',dy s'.boxes k=some cs':=fun k cs hk=>by
   refine D3 (K:=fun _=>False) hbx g2 wb hu'.2.1 (fun k cs _ h1 h2=>?_) k cs (fun h=>h) hk;refine ⟨by rw [TX]; exact D0 h1 h2 k2,?_⟩;obtain ⟨⟨vs,el,_,h4,_⟩,_⟩:=h0.b.box k cs h2;exact old h4
  have stG:(t.st s v).G=dH (t.qU v) t.g s.G xc:=by simp only [cM.st,e1,e2]
  have stB:(t.st s v).boxes=vA t.bx (xb++xc) s.boxes:=by simp only [cM.st,e1]
  have stS:(t.st s v).ae=pK t.X9 (pJ t.sl (xa++(xb++xc)) (yB t.W s.ae)):=by simp only [cM.st,hx]
  have ext:Ext R w (R'.cut s.G.length) w':=⟨st.ext.I,st.ext.cell,fun id ro hi=>by
   obtain ⟨mI,h1,h2⟩:=st.ext.obj id ro hi;exact ⟨mI,ka.2 ⟨by have:=b7 hi; omega,h1⟩,h2⟩,st.ext.lp⟩
  refine ⟨⟨⟨?_,fun id go ro h1 h2=>?_,fun i j ri rj b h1 h2=>h.g.inj i j ri rj b (ka.1 h1).2 (ka.1 h2).2,h.g.wf,fun g cs hg=>(h.g.ck g cs hg).move mv (cA _ (E.oS g cs hg)),h.g.lo⟩,?_,?_,?_,?_⟩,?_⟩
  ·rw [stG,c7,k4];have:=h.g.len;have h3:s.G.length≤R'.obj.length:=by
    rcases Nat.lt_or_ge R'.obj.length s.G.length with bZ|mz
    ·exfalso;have hx:R'.obj.length < R.obj.length:=by omega
     obtain ⟨mI,h1,_⟩:=st.ext.obj R'.obj.length R.obj[R'.obj.length] (by rw [bg]; exact aa3 hx);have:=b7 h1;omega
    ·exact mz
   simp [ak.cut];omega
  ·rw [stG] at h1;obtain ⟨go',h3,h4⟩:=gV g3 wc exc ⟨tV,k8⟩ hu'.2.2 Fb id go h1;rcases h4 with h4|⟨Kq,h5,h4⟩
   ·exact (h.g.obj id go' ro h3 (ka.1 h2).2).gok h4
   ·have bZ:=b7 h5;rw [← hlen] at bZ;obtain ⟨TW,h6⟩:∃ TW,nth R.obj id=some TW:=⟨R.obj[id],by rw [bg]; exact aa3 bZ⟩;obtain ⟨mI,h7,h8⟩:=ext.obj id TW h6;have:mI=ro:=Option.some.inj (h7.symm.trans h2);subst this;exact gK.lok ext (h0.g.obj id Kq TW h5 h6) h8 (h.g.obj id go' mI h3 (ka.1 h2).2) h4
  ·rw [stB];refine ⟨fun k cs hk=>(bok k cs hk).1,fun k k' cs cs' hk iG he=>?_⟩;obtain ⟨_,c1,D6⟩:=bok k cs hk;obtain ⟨_,c2,Pu⟩:=bok k' cs' iG;exact h.b.inj k k' c1 c2 D6 Pu he
  ·rw [stS];have hT:yC (R'.cut s.G.length) w' β' (fun _=>False) (pJ t.sl (xa++(xb++xc)) (yB t.W s.ae)) a'.tmps:=by
    refine vB mv h.t g1 (l':=xa) (r:=lb++lc) (r':=xb++xc) (wa.append (wb.append wc)) la1.symm hu'.1 (yD fun i hi hn=>?_);have hi1:Ya t.sl t.W i=false:=by
     simp only [Ya,Bool.or_eq_false_iff];refine ⟨?_,?_⟩
     ·cases hc:O3 t.sl i with
      |false=>rfl
      |true=>exact absurd (.inr (.inl (Cm.1 hc))) hi
     ·cases hc:O3 t.W i with
      |false=>rfl
      |true=>exact absurd (.inl (Cm.1 hc)) hi
    have hk:=Co hi1 k1;rw [← Ay] at hk;obtain ⟨c,h1,h2⟩:=h.t i (by rw [hk]; exact hn);rw [hk] at h2;refine ⟨c,h1,?_⟩;obtain ⟨c0,_,h4⟩:=h0.t i hn;revert h2 h4;cases lk s.ae i with
    |none=>exact fun _ _=>trivial
    |lp k off=>exact fun h2 _=>h2
    |v x=>exact fun h2 h4=>Rel.move mv (Rel.under (by omega) h4) h2
   exact vD h.t k6 (fun i hi=>hT i (fun h=>h) hi)
  ·show a'.tmps.size=s.n;rw [h.n,hs.n]
  ·show qR _ s.marks a'.defers;have:=h.d;rw [k3] at this;exact this.cut fun id hid=>by have:=h0.d.ids id hid; omega
  ·refine ⟨ext,st.os,st.tape,st.output,st.size,st.aW,fun b hb ho=>st.own b hb ?_,st.im⟩;rcases ho with ho|⟨k,cs,hk,rfl⟩
   ·exact .inl (D2 ho)
   ·rw [stB] at hk;obtain ⟨_,c1,D6⟩:=bok k cs hk;exact .inr ⟨k,c1,D6,rfl⟩
 ·cases hd
end C3
end Go.Am
namespace Go.Am
open Go
def ib:bh→bh
 |[]=>[]
 |.put d (.lp _ _) :: l=>.put d .none :: ib l
 |.put d x :: l=>.put d x :: ib l
 |.kill _ :: l=>ib l
def SV.AD:SV→SV
 |.lp _ _=>.none
 |x=>x
theorem uB (t:Nat):∀ l:bh,lk (ib l) t=(lk l t).AD
 |[]=>rfl
 |.put d x :: l=>by
  cases x <;> simp only [ib] <;> by_cases e:d=t <;> first | (subst e; rw [ay,ay]; rfl) | (rw [aQ e,aQ e]; exact uB t l)
 |.kill d :: l=>by
  simp only [ib,lk];rw [uB t l];cases lk l t with
  |lp k off=>
   by_cases e:k=d
   ·subst e; simp [SV.AD]
   ·simp [nK e,SV.AD]
  |_=>rfl
theorem n5:∀ l:bh,Hv (ib l)=true
 |[]=>rfl
 |.put d x :: l=>by
  cases x <;> simp only [ib,Hv] <;> exact n5 l
 |.kill d :: l=>by simp only [ib]; exact n5 l
def rfQ (E:Env) (Q:Exit→St→Prop) (s:St) (G':List GO):Prop:=
 match nth G' (s.G.length+1) with
 |some (.loop busy pending _ _ _ _ _ _ _ done)=>(busy=false∨done=true) ∧
  match pending with
  |none=>Q .normal ⟨s.ae,s.boxes,aF G' (s.G.length+1) .dead,s.G.length :: s.marks,s.ro,s.n⟩
  |some c=>fU E c Q ⟨s.ae,s.boxes,aF G' (s.G.length+1) .dead,s.G.length :: s.marks,s.ro,s.n⟩
 |_=>False
theorem Gu {busy done:Bool} (h:busy=false∨done=true):(if done=true then LoopState.done else if busy=true then abO else LoopState.ready)≠abO:=by
 rcases h with rfl|rfl
 ·cases done <;> simp
 ·simp
theorem fU.rangeFunc {E:Env} {Q:Exit→St→Prop} {s:St} (fp:Nat) {g:Operand} {ps:Array Tmp} {assign body:Code} (b6:s.ro=none) {f:FuncId} {first cap:List AV} (hg:bJ E s.ae g=.v (.fn f first cap))
  (h:cB E f (first++[.yield (s.G.length+1)]++cap) (s.G++[.defers true]++[.loop false none fp (ib s.ae) s.n ps.toList assign body s.G.length false]) (fun _ G'=>rfQ E Q s G')) :
  fU E (.rangeFunc g ps assign body) Q s:=fun R w β a F hr hf=>by
 rw [b6] at hf;have hf':F=aaZ:=hf;subst hf';refine wpIn_rangeFunc fun fn _=>?_
 have rg:=aT hr g;rw [hg] at rg;have rg':Rel R w (.fn f first cap) (a.eval g):=rg
 -- the block for the deferred calls
 have Jd:gK (R.add (.ca w.heap.size)) (w.alloc (.deferred (some []))) (.defers true) (.ca w.heap.size):=heap_alloc_new w _;have h1:=hr.mg (.deferred (some [])) (.defers true) (.ca w.heap.size) (by exact fun _ h=>h) Jd;have s1:=cZ hr (.deferred (some [])) (.ca w.heap.size) (by exact fun _ h=>h);have eY:(w.alloc (.deferred (some []))).heap.size=w.heap.size+1:=by simp
 generalize hw1:w.alloc (.deferred (some []))=w1 at *;generalize hR1:R.add (.ca w.heap.size)=R1 at *
 -- the loop's record
 let wq:Loop:={ state:=.ready,pending:=none,fn:=fn,tmps:=a.tmps,params:=ps,assign:=assign,body:=body,defers:=w.heap.size }
 have KZ:nth R1.obj s.G.length=some (.ca w.heap.size):=by rw [← hR1]; exact gq hr _
 have e2:Ext R1 w1 (R1.add (.ca w1.heap.size)) (w1.alloc (.loop wq)):=gS h1.g.wf _ _;have Zb:gK (R1.add (.ca w1.heap.size)) (w1.alloc (.loop wq)) (.loop false none fp (ib s.ae) s.n ps.toList assign body s.G.length false) (.ca w1.heap.size):=by
  refine ⟨⟨wq,w.heap.size,heap_alloc_new w1 _,rfl,rfl,fun i hi=>?_,hr.n,by simp [wq],rfl,rfl,rfl,e2.ca KZ⟩,n5 _⟩;rw [uB] at hi ⊢;have cQ:lk s.ae i≠.none:=fun e=>hi (by rw [e]; rfl)
  obtain ⟨c,k1,k2⟩:=hr.t i cQ;refine ⟨c,k1,?_⟩;cases hx:lk s.ae i with
  |none=>exact absurd hx cQ
  |lp k off=>rw [hx] at hi; exact absurd rfl hi
  |v x=>
   rw [hx] at k2;exact Rel.mono (s1.ext.trans e2) (show Rel R w x c from k2)
 have h2:=h1.mg (.loop wq) (.loop false none fp (ib s.ae) s.n ps.toList assign body s.G.length false) (.ca w1.heap.size) (by exact fun _ h=>h) Zb;have s2:=cZ h1 (.loop wq) (.ca w1.heap.size) (by exact fun _ h=>h);have Zu:nth (R1.add (.ca w1.heap.size)).obj (s.G.length+1)=some (.ca w1.heap.size):=by
  have:=gq h1 (.ca w1.heap.size);simpa [St.dQ] using this
 have st:=s1.trans s2;generalize hR2:R1.add (.ca w1.heap.size)=R2 at *;generalize Zf:a.eval g=fv at rg';cases rg' with
 | @fn _ _ _ vs us q1 q2=>
 refine ⟨w.heap.size+1,[{ target:=.collected w.heap.size,args:=#[] }],w1.alloc (.loop wq),{ target:=.fn (.func f) ⟨us⟩,args:=⟨vs⟩++#[.func (.yield (w.heap.size+1)) #[] #[]] },w1.alloc (.loop wq),f,
  ⟨vs++[.func (.yield (w.heap.size+1)) #[] #[]]++us⟩,w1.alloc (.loop wq),?_,?_,?_,?_,?_,?_⟩
 ·have:aaZ.round=none:=rfl;rw [this,run_enterLoop_outer,hw1]
 ·simp only [resolve,Zf,Deferred.ofValue,Sem.run_pure];simp [Act.eval]
 ·intro f' _;exact trivial
 ·have:=nT (P:=E.P) h.1 (⟨vs++[.func (.yield (w.heap.size+1)) #[] #[]]++us⟩) (w1.alloc (.loop wq));simpa [invoke] using this
 ·intro hc; cases hc
 ·have hG:(s.dQ (.defers true)).dQ (.loop false none fp (ib s.ae) s.n ps.toList assign body s.G.length false)=s.cD (s.G++[.defers true]++[.loop false none fp (ib s.ae) s.n ps.toList assign body s.G.length false]):=rfl;have Yc:Rel R2 (w1.alloc (.loop wq)) (.yield (s.G.length+1)) (.func (.yield (w.heap.size+1)) #[] #[]):=by
   rw [← eY];exact .yield Zu
  refine (h.2 R2 (w1.alloc (.loop wq)) _ h2.g ((((q1.mono st.ext).append (.one Yc)).append (q2.mono st.ext)))).mono ?_;intro e w3 he;cases e with
  |panicked c=>exact he.elim
  |outgrown=>exact he.elim
  |returned c=>
   obtain ⟨r,G',R3,hQ,ej,hg3,st3⟩:=he;obtain ⟨p1,p2⟩:=h2.uv hg3 st3;unfold rfQ at hQ;split at hQ
   ·rename_i busy pending ff sl nn pp s5 bd dd done Vw;obtain ⟨hbd,hQ⟩:=hQ;have Zv:nth R3.obj (s.G.length+1)=some (.ca w1.heap.size):=st3.ext.ca Zu;obtain ⟨⟨r3,db,l1,l2,l3,_,_,_,_,_,_,_⟩,_⟩:=p1.g.obj _ _ _ Vw Zv;have Vx:r3.state≠.busy:=by rw [l2]; exact Gu hbd
    have l1':w3.heap[w.heap.size+1]?=some (.loop r3):=by rw [← eY]; exact l1
    refine ⟨r3.pending,_,run_endLoop l1' Vx,?_⟩;rw [l3]
    -- the record is dead
    have Zw:nth R3.obj s.G.length=some (.ca w.heap.size):=st3.ext.ca (by rw [← hR2] at e2 ⊢; exact e2.ca KZ);have key:∀ x:Obj,qm x→(∀ r,Obj.loop r3=.loop r→∃ r',x=.loop r'∧sG r r')→bl E R3 (World.put w3 w1.heap.size x) β ⟨s.ae,s.boxes,aF G' (s.G.length+1) .dead,s.G.length :: s.marks,s.ro,s.n⟩ { a with defers:=[{ target:=.collected w.heap.size,args:=#[] }]++a.defers }∧Step R w β s.boxes R3 (World.put w3 w1.heap.size x) β s.boxes:=fun x hx hlx=>by
     obtain ⟨z1,z2⟩:=p1.setObj (x':=x) (go':=.dead) Zv l1 trivial hx hlx (show w1.heap.size < _ by simp [World.put]; exact bi l1);exact ⟨⟨z1.g,z1.b,z1.t,z1.n,⟨⟨w.heap.size,Zw,rfl⟩,z1.d⟩⟩,(st.trans p2).trans z2⟩
    obtain ⟨z1,z2⟩:=key (.loop { r3 with state:=.exhausted,pending:=pending }) trivial (fun r e=>⟨_,rfl,by cases e; exact ⟨rfl,rfl,rfl,rfl,rfl⟩⟩);rw [eY] at z1 z2;cases pending with
    |none=>exact ⟨_,R3,β,hQ,z1,z2,rfl⟩
    |some c=>
     refine wpIn_mono (hQ R3 _ β _ aaZ z1 (by show bV R3 s.ro aaZ; rw [b6]; rfl)) ?_;rintro e a'' TC ⟨Dl,Pf,X4,Ve,Ca,vt,Bc⟩;exact ⟨Dl,Pf,X4,Ve,Ca,z2.trans vt,Bc⟩
   ·exact hQ.elim
def Gv (id:Nat) (Q:Bool→List GO→Prop):Exit→St→Prop:=fun e s=>match nth s.G id with
 |some (.loop _ _ fn sl n ps s5 bd d _)=>match e with
  |.normal=>Q true (aF s.G id (.loop false none fn sl n ps s5 bd d false))
  |.ret=>Q false (aF s.G id (.loop false (some .ret) fn sl n ps s5 bd d true))
  |.exit i=>Q false (aF s.G id (.loop false (some (.exit i)) fn sl n ps s5 bd d true))
  |_=>False
 |_=>False
def Cp (E:Env) (id:Nat) (body:Code) (Q:Bool→List GO→Prop):Exit→St→Prop:=fun e s=>match e with
 |.normal=>match nth s.G id with
  |some (.loop false p fn sl n ps s5 bd d false)=>fU E body (Gv id Q) (s.cD (aF s.G id (.loop true p fn sl n ps s5 bd d false)))
  |_=>False
 |_=>False
def yJ:List Tmp→List AV→bh→bh
 |t :: ts,a :: l,r=>yJ ts l (.put t (.v a) :: r)
 |_,_,r=>r
def St.round (id:Nat) (ae:bh) (n:Nat) (G:List GO):St:=⟨ae,[],G,[],some id,n⟩
theorem yK {R:ak} {w:World} {β:Nat→Nat}:∀ {ts:List Tmp} {l:List AV} {cs:List Value} {r:bh} {tmps:Array Value},oV R w β r tmps→aK R w l cs→l.length=ts.length→(∀ t∈ts,t < tmps.size) →
  oV R w β (yJ ts l r) ((ts.zip cs).foldl (fun tmps (t,a)=>tmps.setIfInBounds t a) tmps)
 |[],[],_,_,_,h,.nil,_,_=>h
 |t :: ts,a :: l,c :: cs,r,tmps,h,.cons hx hl,hlen,ht=>by
  have eY:t < tmps.size:=ht t (by simp);simp only [yJ,List.zip_cons_cons,List.foldl_cons];refine yK ?_ hl (by simpa using hlen) (fun t' h'=>by simpa using ht t' (by simp [h']));have:=oV.put (a:={ tmps:=tmps,defers:=[] }) h (d:=t) (x:=.v a) (c:=c) eY hx;simpa [Act.put] using this
 |[],_ :: _,_,_,_,_,_,hlen,_=>by simp at hlen
 |_ :: _,[],_,_,_,_,_,hlen,_=>by simp at hlen
theorem Gw (l:List (Tmp × Value)):∀ tmps:Array Value,(l.foldl (fun (tmps:Array Value) (x:Tmp × Value)=>tmps.setIfInBounds x.1 x.2) tmps).size=tmps.size:=by
 induction l with
 |nil=>intro _; rfl
 |cons x l ih=>intro tmps; rw [List.foldl_cons,ih]; simp
theorem kE.intro {E:Env} {id:Nat} {args:List AV} {G:List GO} {Q:Bool→List GO→Prop} {fn:FuncId} {ae:bh} {n:Nat} {ps:List Tmp} {assign body:Code} {d:Nat} {p:Option Code}
  (hG:nth G id=some (.loop false p fn ae n ps assign body d false)) (hl:args.length=ps.length) (FB:∀ t∈ps,t < n)
  (h:fU E assign (Cp E id body Q) (St.round id (yJ ps args ae) n G)):kE E id args G Q:=fun R w cs b hg hr hb=>by
 obtain ⟨⟨r,db,l1,l2,l3,l4,l5,l6,l7,l8,l9,l10⟩,l11⟩:=hg.obj id _ _ hG hb;have hlen:=hr.length;refine ⟨r,l1,by rw [l6]; simp; omega,?_⟩;have adl:Step R w (fun _=>0) fq R w (fun _=>0) fq:=Step.refl _ _ _ _;have adm:bl E R w (fun _=>0) (St.round id (yJ ps args ae) n G) { tmps:=(r.params.zip ⟨cs⟩).foldl (fun tmps (t,a)=>tmps.setIfInBounds t a) r.tmps,defers:=[] }:=by
  have Zx:(r.params.zip ⟨cs⟩).foldl (fun (tmps:Array Value) (x:Tmp × Value)=>tmps.setIfInBounds x.1 x.2) r.tmps=(ps.zip cs).foldl (fun (tmps:Array Value) (x:Tmp × Value)=>tmps.setIfInBounds x.1 x.2) r.tmps:=by
   rw [← Array.foldl_toList];simp [l6]
  refine ⟨hg,⟨fun k cs hk=>?_,fun k k' c c' hk=>?_⟩,?_,?_,trivial⟩
  ·simp [St.round,dy] at hk
  ·simp [St.round,dy] at hk
  ·show oV _ _ _ _ _;have:=yK (ts:=ps) (l:=args) (cs:=cs) l4 hr hl (fun t ht=>by rw [l5]; exact FB t ht);rw [← Zx] at this;exact this
  ·show _=n;have:=Gw (ps.zip cs) r.tmps;rw [← Zx] at this;exact this.trans l5
 have Va:∀ (k:Nat) (cs:List AV),dy (St.round id (yJ ps args ae) n G).boxes k≠some cs:=fun k cs hk=>by simp [St.round,dy] at hk
 rw [l7,l8];refine roundIn_of_wpIn trivial (wpIn_mono (h R w (fun _=>0) _ (aaZ.inRound b) adm ⟨b,hb,rfl⟩) ?_);rintro e a1 w1 ⟨s1,R1,β1,hq,xQ,st1,adn⟩;unfold Cp at hq;cases e with
 |normal=>
  simp only at hq;split at hq
  ·rename_i p' Zr X7 n' Zs PG Yb d' hG1;have Gf:nth R1.obj id=some (.ca b):=st1.ext.ca hb;obtain ⟨⟨r1,db1,m1,m2,m3,m4,m5,m6,m7,m8,m9,m10⟩,m11⟩:=xQ.g.obj id _ _ hG1 Gf;refine ⟨_,run_beginRound m1 m2,?_⟩;obtain ⟨z1,z2⟩:=xQ.setObj (x':=.loop { r1 with state:=.busy }) (go':=.loop true p' Zr X7 n' Zs PG Yb d' false) Gf m1 trivial trivial (fun r e=>⟨_,rfl,by cases e; exact ⟨rfl,rfl,rfl,rfl,rfl⟩⟩)
    ⟨⟨{ r1 with state:=.busy },db1,gN _ _ _ (bi m1),rfl,m3,m4.mono (nP (x':=.loop { r1 with state:=.busy }) m1 trivial trivial (fun r e=>⟨_,rfl,by cases e; exact ⟨rfl,rfl,rfl,rfl,rfl⟩⟩)),m5,m6,m7,m8,m9,m10⟩,m11⟩
   refine wpIn_mono (hq R1 _ β1 a1 (aaZ.inRound b) z1 (by show bV R1 s1.ro _; rw [adn]; exact ⟨b,Gf,rfl⟩)) ?_;rintro e2 a2 w2 ⟨s2,R2,β2,pc,Dz,st2,Jw⟩;unfold Gv at pc;split at pc
   ·rename_i bu2 p2 fn2 sl2 n2 ps2 as2 bd2 d2 dn2 Zh;have Zy:=(st1.trans z2).trans st2;have Ks:nth R2.obj id=some (.ca b):=Zy.ext.ca hb;obtain ⟨⟨r2,db2,o1,o2,o3,o4,o5,o6,o7,o8,o9,D7⟩,sw⟩:=Dz.g.obj id _ _ Zh Ks;have fin:∀ (j:Option Code),Cb E R w (fun b' G'=>G'=aF s2.G id (.loop false j fn2 sl2 n2 ps2 as2 bd2 d2 (!j.isNone))∧b'=j.isNone) (.returned (.bool j.isNone)) (w2.putObj b (.loop { r2 with state:=if j.isNone then .ready else .done,pending:=j })):=fun j=>by
     obtain ⟨y1,y2⟩:=Dz.setObj (x':=.loop { r2 with state:=if j.isNone then .ready else .done,pending:=j }) (go':=.loop false j fn2 sl2 n2 ps2 as2 bd2 d2 (!j.isNone)) Ks o1 trivial trivial (fun r e=>⟨_,rfl,by cases e; exact ⟨rfl,rfl,rfl,rfl,rfl⟩⟩)
      ⟨⟨{ r2 with state:=if j.isNone then .ready else .done,pending:=j },db2,gN _ _ _ (bi o1),by cases j <;> rfl,rfl,o4.mono (nP (x':=.loop { r2 with state:=if j.isNone then .ready else .done,pending:=j }) o1 trivial trivial (fun r e=>⟨_,rfl,by cases e; exact ⟨rfl,rfl,rfl,rfl,rfl⟩⟩)),o5,o6,o7,o8,o9,D7⟩,sw⟩
     exact ⟨_,_,R2,⟨rfl,rfl⟩,rfl,y1.g,xX (Zy.trans y2) Va⟩
    have mk:∀ (j:Option Code),Q j.isNone (aF s2.G id (.loop false j fn2 sl2 n2 ps2 as2 bd2 d2 (!j.isNone)))→∃ v w',(Instr.endRound b j).run E.P w2=.ok v w'∧Cb E R w Q (.returned v) w':=fun j hQ=>by
     refine ⟨_,_,run_endRound j o1,?_⟩;obtain ⟨r',G',R',⟨h1,h2⟩,h3⟩:=fin j;subst h1; subst h2;exact ⟨_,_,R',hQ,h3⟩
    cases e2 with
    |normal=>exact mk none pc
    |ret=>exact mk (some .ret) pc
    |exit i=>exact mk (some (.exit i)) pc
    |_=>exact pc.elim
   ·exact pc.elim
  ·exact hq.elim
 |_=>exact hq.elim
end Go.Am
namespace Go.Am
open Go
section
variable {E:Env} {R R':ak} {w w':World} {β β':Nat→Nat} {s s':St} {a a':Act}
def aR (E:Env) (g:FuncId) (args:List AV) (Q:AV→Prop):Prop:=∀ G,cB E g args G (fun r G'=>G'=G∧Q r)
theorem aR.mono {g:FuncId} {args:List AV} {Q Q':AV→Prop} (h:aR E g args Q) (hq:∀ r,Q r→Q' r):aR E g args Q':=
 fun G=>(h G).mono fun r _ hh=>⟨hh.1,hq r hh.2⟩
theorem aR.of {g:FuncId} {args:List AV} {p:aM} {Q:p.T→Prop} (hc:aC 0 args=true) (hp:p.under 0=true)
  (h:cB E g args [] (fun r _=>∃ y,p.dec r=some y∧Q y)):aR E g args (fun r=>∃ y,r=p.enc y∧Q y):=fun G=>by
 refine ⟨h.1,fun R w cs hg hl=>?_⟩
 let R0:ak:=⟨R.I,[]⟩
 have m0:Mv R R0 0:=⟨fun _ _ h=>h,fun _ _ h=>absurd h (aaB _)⟩;have OV:dB E R0 w []:=⟨rfl,fun id go ro h1 _=>by simp [nth] at h1,fun i j ri rj b h1=>by simp [R0,nth] at h1,hg.wf,fun g cs rJ=>(hg.ck g cs rJ).move m0 (cA _ (E.oS g cs rJ)),hg.lo⟩;have uk:aK R0 w args cs:=hl.move m0 hc;refine (h.2 R0 w cs OV uk).mono fun e w' he=>?_
 cases e with
 |panicked c=>exact he.elim
 |outgrown=>exact he.elim
 |returned c=>
  obtain ⟨r,G',R1,⟨y,hy,hQ⟩,ej,PH,st⟩:=he;have jx:∀ b,¬ Own R0 (fun _=>0) fq b:=fun b ho=>by
   obtain ⟨id,ro,h1,_⟩:=eP ho;simp [R0,nth] at h1
  let R2:ak:=⟨R1.I,R.obj⟩
  have e:Ext R w R2 w':=⟨st.ext.I,st.ext.cell,fun id ro h=>⟨ro,h,cF.refl ro⟩,st.ext.lp⟩;have aW:∀ b,b < w.heap.size→w'.heap[b]?=w.heap[b]?:=fun b hb=>st.aW b hb (jx b)
  have im:∀ b o,b < w.heap.size→R1.I b o→R.I b o:=fun b o hb hi=>st.im b o hi hb (jx b)
  have hd:=p.rH hy;have m:Mv R1 R2 0:=⟨fun _ _ h=>h,fun _ _ h=>absurd h (aaB _)⟩;refine ⟨p.enc y,G,R2,⟨rfl,y,rfl,hQ⟩,Rel.move m (p.dG y hp) (hd.gY _ _ _ ej),⟨hg.len,fun id go ro h1 h2=>?_,hg.inj,PH.wf,fun g cs rJ=>(hg.ck g cs rJ).mono e,PH.lo⟩,⟨e,st.os,st.tape,st.output,st.size,fun b hb _=>aW b hb,fun b _ ho=>?_,fun b o hi hb _=>im b o hb hi⟩⟩
  ·refine (hg.obj id go ro h1 h2).mono e (fun b hb=>aW b ?_) (fun b o hb hi=>im b o ?_ hi)
   ·exact (hg.obj id go ro h1 h2).lt hb
   ·exact (hg.obj id go ro h1 h2).lt hb
  ·exact ho
theorem fU.adt {c:Code} {Q Q':Exit→St→Prop} (h:fU E c (fun e s'=>aX s s'∧Q' e s') s)
  (hq:∀ e s',Q' e s'→∃ (t:cM) (v:t.ps.T),t.dec s s'=some v∧Q e (t.st s v)):fU E c Q s:=fun R w β a F hr hf=>by
 refine wpIn_mono (h R w β a F hr hf) ?_;rintro e a' w' ⟨s',R',β',⟨hx,hq'⟩,mh,lu,b6⟩;obtain ⟨t,v,hd,hQ⟩:=hq e s' hq';obtain ⟨h1,h2⟩:=cM.C3 hx hr mh lu hd;exact ⟨_,_,β',hQ,h1,h2,rfl⟩
theorem fU.ia {c:Code} {Q:Exit→St→Prop} {l:List (Loc × Nat × TypeId)} (hs:Am.ia l s=some s') (h:fU E c Q s'):fU E c Q s:=fun R w β a F hr hf=>by
 obtain ⟨R1,k1,k2,k3,_⟩:=kD hr hs;refine wpIn_mono (h R1 w β a F k1 (by rw [k3]; exact hf.mono k2.ext)) ?_;rintro e a' w' ⟨s2,R2,β2,hq,Dz,st2,Jw⟩;exact ⟨s2,R2,β2,hq,Dz,k2.trans st2,Jw.trans k3⟩
end
end Go.Am
