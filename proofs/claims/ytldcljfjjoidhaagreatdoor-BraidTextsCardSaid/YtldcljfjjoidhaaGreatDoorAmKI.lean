/- The abstract machine: what is asked of bodies; values are brought to a short form. -/
import Derived.Test.YtldcljfjjoidhaaGreatDoorAmKH
import Derived.RangeFuncIn
import Derived.RangeFuncRecord
set_option linter.all false
open Bool renaming and_eq_true→aab, and_true→aah
open Go.Fence renaming wide→aaZ
open Go.LoopState renaming busy→abD
open List renaming drop_left→aai, tail_cons→aao, cons_append→aap, mem_cons→aaF, getElem?_eq_getElem→aa0, append_inj→aa1, take_left→aa3, map_cons→aa4
open Nat renaming eq_of_beq_eq_true→aac, beq→aad, lt_of_lt_of_le→aae, not_lt_zero→aaf, blt→aag, le_of_ble_eq_true→aa2
namespace Go.Am
open Go
def bN (dt:Nat→Option af):Code→Bool
 |.region id ops true=>match dt id with
  |some p=>GH ops p
  |none=>false
 |.seq x y=>bN dt x&&bN dt y
 |.cond _ x y=>bN dt x&&bN dt y
 |.block _ c=>bN dt c
 |.loop c=>bN dt c
 |.scope c=>bN dt c
 |.rangeFunc _ _ a b=>bN dt a&&bN dt b
 |_=>true
structure JL extends Env where
 dt:FuncId→Nat→Option af
 okF:FuncId→Bool
 Uu:∀ f fn c,okF f=true→P.funcs[f]?=some fn→fn.body=some c→bN (dt f) c=true
def jE {α:Type} (n:Nat) (K:Nat→α):α:=match n with
 |0=>K 0
 |m+1=>K (Nat.succ m)
def yH {α:Type} (n:Int) (K:Int→α):α:=match n with
 |.ofNat m=>jE m fun m=>K (.ofNat m)
 |.negSucc m=>jE m fun m=>K (.negSucc m)
def pO {α β:Type}:List β→(List β→α)→α
 |[],K=>K []
 |a :: l,K=>pO l fun l=>K (a :: l)
def Cp {α:Type} (v:AV) (K:AV→α):α:=match v with
 |.int k n=>yH n fun n=>K (.int k n)
 |.bool true=>K (.bool true)
 |.bool false=>K (.bool false)
 |.list k sz es=>pO es fun es=>K (.list k sz es)
 |.str l=>pO l fun l=>K (.str l)
 |.j7 id off sz len cap=>jE off fun off=>jE len fun len=>jE cap fun cap=>K (.j7 id off sz len cap)
 |.ptr id off=>jE off fun off=>K (.ptr id off)
 |.agg cs=>pO cs fun cs=>K (.agg cs)
 |v=>K v
def Cq {α:Type} (l:bj) (K:bj→α):α:=match l with
 |.put d (.v a) :: l=>Cp a fun a=>K (.put d (.v a) :: l)
 |.put d (.lp k off) :: l=>jE off fun off=>K (.put d (.lp k off) :: l)
 |l=>K l
def Cr {α:Type} (l:cV) (K:cV→α):α:=match l with
 |(d,cs) :: l=>pO cs fun cs=>K ((d,cs) :: l)
 |[]=>K []
def GI {α:Type} (s:St) (K:St→α):α:=match s with
 |⟨sl,bx,G,m,ro,n⟩=>Cq sl fun sl=>Cr bx fun bx=>pO G fun G=>K ⟨sl,bx,G,m,ro,n⟩
theorem pP {α:Type} (n:Nat) (K:Nat→α):jE n K=K n:=by cases n <;> rfl
theorem Eb {α:Type} (n:Int) (K:Int→α):yH n K=K n:=by cases n <;> simp [yH,pP]
theorem qO {α β:Type}:∀ (l:List β) (K:List β→α),pO l K=K l
 |[],_=>rfl
 |a :: l,K=>by simp only [pO]; rw [qO]
theorem GJ {α:Type} (v:AV) (K:AV→α):Cp v K=K v:=by
 unfold Cp;split <;> simp [pP,Eb,qO]
theorem GK {α:Type} (l:bj) (K:bj→α):Cq l K=K l:=by
 unfold Cq;split <;> simp [pP,GJ]
theorem GM {α:Type} (l:cV) (K:cV→α):Cr l K=K l:=by
 unfold Cr;split <;> simp [qO]
theorem JM {α:Type} (s:St) (K:St→α):GI s K=K s:=by
 obtain ⟨sl,bx,G,m,ro,n⟩:=s;simp [GI,GK,GM,qO]
def Cs:SV→SV→Bool
 |.v a,.v b=>dE a b
 |.lp k o,.lp k' o'=>aad k k'&&aad o o'
 |_,_=>false
def bRe (E:Env) (f:FuncId) (ops:List Oper) (o:Oper) (s:St):Bool:=match Dg ops s o with
 |some true=>match o.dst,an E f s o with
  |some d,some (c,s')=>c&&Cs (lk s'.ae d) (lk s.ae d)
  |_,_=>false
 |some false=>true
 |none=>false
section
variable {E:Env} {f:FuncId} {s:St}
theorem Bo {a b:SV} (h:Cs a b=true):a=b:=by
 unfold Cs at h;split at h
 ·rw [jx h]
 ·simp only [aab,Nat.beq_eq] at h; rw [h.1,h.2]
 ·cases h
theorem Bp {ops:List Oper} {o:Oper} (h:bRe E f ops o s=true):Gx E f ops o s:=by
 unfold bRe at h;unfold Gx;split at h
 ·rename_i hg;rw [hg];simp only;split at h
  ·rename_i d c s' hd hs;rw [aab] at h;obtain ⟨rfl,h⟩:=h;rw [hd,hs];exact ⟨rfl,Bo h⟩
  ·cases h
 ·rename_i hg;rw [hg];trivial
 ·cases h
end
end Go.Am
namespace Go.Am
open Go
mutual
def AV.under (n:Nat):AV→Bool
 |.agg cs=>aG n cs
 |.bq cs=>aG n cs
 |.ep cs=>aG n cs
 |.list (.own id) _ _=>aag id n
 |.list (.bK id _) _ _=>aag id n
 |.fn _ x y=>aG n x&&aG n y
 |.iface _ v=>v.under n
 |.ptr id _=>aag id n
 |.j7 id _ _ _ _=>aag id n
 |.eF id _ _ _ _=>aag id n
 |.gp id _ _ _ _ _=>aag id n
 |.map id=>aag id n
 |.yield id=>aag id n
 |_=>true
def aG (n:Nat):List AV→Bool
 |[]=>true
 |a :: l=>a.under n&&aG n l
end
mutual
theorem iO (n:Nat):∀ {a:AV},a.closed=true→a.under n=true:=fun {a} h=>by
 cases a with
 |agg cs=>simp only [AV.closed,AV.under] at *; exact cF n h
 |bq cs=>simp only [AV.closed,AV.under] at *; exact cF n h
 |ep cs=>simp only [AV.closed,AV.under] at *; exact cF n h
 |list k sz es=>cases k <;> simp_all [AV.closed,AV.under,LK.closed]
 |fn f x y=>
  simp only [AV.closed,AV.under,aab] at *;exact ⟨cF n h.1,cF n h.2⟩
 |iface t v=>simp only [AV.closed,AV.under] at *; exact iO n h
 |_=>simp_all [AV.closed,AV.under]
theorem cF (n:Nat):∀ {l:List AV},aF l=true→aG n l=true
 |[],_=>rfl
 |a :: l,h=>by
  simp only [aF,aG,aab] at *;exact ⟨iO n h.1,cF n h.2⟩
end
theorem qP {a b:Nat} (h:aag a b=true):a < b:=aa2 h
mutual
theorem my:∀ {a:AV},a.under 0=true→a.closed=true:=fun {a} h=>by
 cases a with
 |agg cs=>simp only [AV.closed,AV.under] at *; exact eX h
 |bq cs=>simp only [AV.closed,AV.under] at *; exact eX h
 |ep cs=>simp only [AV.closed,AV.under] at *; exact eX h
 |list k sz es=>cases k <;> first | rfl | (simp [AV.under] at h)
 |fn f x y=>
  simp only [AV.closed,AV.under,aab] at *;exact ⟨eX h.1,eX h.2⟩
 |iface t v=>simp only [AV.closed,AV.under] at *; exact my h
 |ptr id off=>simp only [AV.under] at h; exact absurd (qP h) (aaf _)
 |j7 id off sz len cap=>simp only [AV.under] at h; exact absurd (qP h) (aaf _)
 |eF id f off sz len=>simp only [AV.under] at h; exact absurd (qP h) (aaf _)
 |gp id f i off sz t=>simp only [AV.under] at h; exact absurd (qP h) (aaf _)
 |map id=>simp only [AV.under] at h; exact absurd (qP h) (aaf _)
 |yield id=>simp only [AV.under] at h; exact absurd (qP h) (aaf _)
 |_=>rfl
theorem eX:∀ {l:List AV},aG 0 l=true→aF l=true
 |[],_=>rfl
 |a :: l,h=>by
  simp only [aG,aF,aab] at *;exact ⟨my h.1,eX h.2⟩
end
section move
variable {R R2:ak} {w:World} {n:Nat}
structure Mv (R R2:ak) (n:Nat):Prop where
 I:∀ b o,R.I b o→R2.I b o
 obj:∀ id ro,id < n→nth R.obj id=some ro→nth R2.obj id=some ro
theorem jZ {a b:Nat} (h:aag a b=true):a < b:=aa2 h
theorem kM {a b:Nat} (h:a < b):aag a b=true:=Nat.ble_eq_true_of_le h
theorem B3.move (m:Mv R R2 n) {k:LK} {b o len cap:Nat} (h:B3 R k b o len cap) (hk:∀ id,(k=.own id∨∃ j,k=.bK id j)→id < n):B3 R2 k b o len cap:=by
 cases k with
 |nil=>exact h
 |full=>exact h
 |ly=>trivial
 |own id=>obtain ⟨ro,h1,h2⟩:=h; exact ⟨ro,m.obj id ro (hk id (.inl rfl)) h1,h2⟩
 |bK id j=>obtain ⟨ro,h1,h2⟩:=h; exact ⟨ro,m.obj id ro (hk id (.inr ⟨j,rfl⟩)) h1,h2⟩
mutual
theorem Rel.move (m:Mv R R2 n):∀ {a:AV} {c:Value},a.under n=true→Rel R w a c→Rel R2 w a c
 |_,_,_,.bool b=>.bool b
 |_,_,_,.int k i=>.int k i
 |_,_,_,.str l=>.str l
 |_,_,hb,.agg h h1=>.agg (h.move m (by simpa [AV.under] using hb)) h1
 |_,_,hb,.bq h=>.bq (h.move m (by simpa [AV.under] using hb))
 |_,_,_,.fj=>.fj
 |_,_,hb,.ptr h=>.ptr (m.obj _ _ (jZ (by simpa [AV.under] using hb)) h)
 |_,_,hb,.ep h=>.ep (h.move m (by simpa [AV.under] using hb))
 |_,_,_,.kC=>.kC
 |_,_,_,.jc=>.jc
 |_,_,_,.nQ=>.nQ
 |_,_,hb,.mN h ho=>.mN (m.obj _ _ (jZ (by simpa [AV.under] using hb)) h) ho
 |_,_,hb,.nR h ho=>.nR (m.obj _ _ (jZ (by simpa [AV.under] using hb)) h) ho
 |.list k sz es,_,hb,.list h hl hc hk=>.list (h.move m) hl hc (hk.move m fun id e=>by rcases e with e | ⟨j,e⟩ <;> subst e <;> exact jZ (by simpa [AV.under] using hb))
 |_,_,hb,.j7 h hc=>.j7 (m.obj _ _ (jZ (by simpa [AV.under] using hb)) h) hc
 |_,_,hb,.iY h ho=>.iY (m.obj _ _ (jZ (by simpa [AV.under] using hb)) h) ho
 |_,_,hb,.eF h ho hc=>.eF (m.obj _ _ (jZ (by simpa [AV.under] using hb)) h) ho hc
 |_,_,hb,.gp h ho=>.gp (m.obj _ _ (jZ (by simpa [AV.under] using hb)) h) ho
 |_,_,_,.ky=>.ky
 |_,_,hb,.map h=>.map (m.obj _ _ (jZ (by simpa [AV.under] using hb)) h)
 |_,_,_,.cL=>.cL
 |_,_,hb,.fn h h'=>.fn (h.move m (by simp only [AV.under,aab] at hb; exact hb.1)) (h'.move m (by simp only [AV.under,aab] at hb; exact hb.2))
 |_,_,hb,.yield h=>.yield (m.obj _ _ (jZ (by simpa [AV.under] using hb)) h)
 |_,_,_,.oV=>.oV
 |_,_,hb,.iface h=>.iface (h.move m (by simpa [AV.under] using hb))
theorem aN.move (m:Mv R R2 n):∀ {l:List AV} {cs:List Value},aN R w l cs→aG n l=true→aN R2 w l cs
 |_,_,.nil,_=>.nil
 |_,_,.cons h t,hb=>by
  simp only [aG,aab] at hb;exact .cons (h.move m hb.1) (t.move m hb.2)
theorem gj.move (m:Mv R R2 n):∀ {b o sz:Nat} {l:List AV},gj R w b o sz l→gj R2 w b o sz l
 |_,_,_,_,.nil=>.nil
 |_,_,_,_,@gj.cons _ _ _ _ _ e _ hl ht hk h t=>.cons hl ht hk (h.move m (by
   cases e with
   |agg cs=>exact cF n (show aF cs=true by simpa [AV.closed] using hk)
   |bq cs=>simp [AV.a8] at ht
   |_=>simp only [AV.cells,aG,aah]; exact iO n hk)) (t.move m)
theorem dV.move (m:Mv R R2 n):∀ {b o:Nat} {l:List AV},dV R w b o l→aG n l=true→dV R2 w b o l
 |_,_,_,.nil,_=>.nil
 |_,_,_,.cons hc h1 hi h t,hb=>by
  simp only [aG,aab] at hb;exact .cons hc h1 (m.I _ _ hi) (h.move m hb.1) (t.move m hb.2)
end
theorem jV.move {E:Env} (m:Mv R R2 n) {g:Nat} {cs:List AV} (h:jV E R w g cs) (hu:aG n cs=true):jV E R2 w g cs:=
 ⟨h.1.move m hu,fun hx=>⟨m.I _ _ (h.2 hx).1,(h.2 hx).2⟩⟩
mutual
theorem Rel.under (hn:R.obj.length≤n):∀ {a:AV} {c:Value},Rel R w a c→a.under n=true
 |_,_,.bool _ | _,_,.int _ _ | _,_,.str _ | _,_,.fj | _,_,.kC | _,_,.jc | _,_,.nQ | _,_,.ky | _,_,.cL | _,_,.oV=>by simp [AV.under]
 |_,_,.agg h _=>by simp only [AV.under]; exact h.under hn
 |_,_,.bq h=>by simp only [AV.under]; exact h.under hn
 |_,_,.ptr h=>by simp only [AV.under]; exact kM (aae (ca h) hn)
 |_,_,.ep h=>by simp only [AV.under]; exact h.under hn
 |_,_,.mN h _=>by simp only [AV.under]; exact kM (aae (ca h) hn)
 |_,_,.nR h _=>by simp only [AV.under]; exact kM (aae (ca h) hn)
 |_,_,@Rel.list _ _ k _ _ _ _ _ _ _ _ _ hk=>by
  cases k with
  |own id=>obtain ⟨ro,h1,_⟩:=hk; simp only [AV.under]; exact kM (aae (ca h1) hn)
  |bK id j=>obtain ⟨ro,h1,_⟩:=hk; simp only [AV.under]; exact kM (aae (ca h1) hn)
  |_=>simp [AV.under]
 |_,_,.j7 h _=>by simp only [AV.under]; exact kM (aae (ca h) hn)
 |_,_,.iY h _=>by simp only [AV.under]; exact kM (aae (ca h) hn)
 |_,_,.eF h _ _=>by simp only [AV.under]; exact kM (aae (ca h) hn)
 |_,_,.gp h _=>by simp only [AV.under]; exact kM (aae (ca h) hn)
 |_,_,.map h=>by simp only [AV.under]; exact kM (aae (ca h) hn)
 |_,_,.fn h h'=>by simp only [AV.under,aab]; exact ⟨h.under hn,h'.under hn⟩
 |_,_,.yield h=>by simp only [AV.under]; exact kM (aae (ca h) hn)
 |_,_,.iface h=>by simp only [AV.under]; exact h.under hn
theorem aN.under (hn:R.obj.length≤n):∀ {l:List AV} {cs:List Value},aN R w l cs→aG n l=true
 |_,_,.nil=>rfl
 |_,_,.cons h t=>by simp only [aG,aab]; exact ⟨h.under hn,t.under hn⟩
theorem dV.under (hn:R.obj.length≤n):∀ {b o:Nat} {l:List AV},dV R w b o l→aG n l=true
 |_,_,_,.nil=>rfl
 |_,_,_,.cons _ _ _ h t=>by simp only [aG,aab]; exact ⟨h.under hn,t.under hn⟩
end
end move
end Go.Am
namespace Go.Am
open Go
mutual
def aP.under (n:Nat):aP→Bool
 |.agg ps=>ps.under n
 |.bq ps=>ps.under n
 |.own id _ _=>aag id n
 |.bK id _ _=>aag id n
 |.bT v=>v.under n
 |.two u v=>u.under n&&v.under n
 |_=>true
def aM.under (n:Nat):aM→Bool
 |.nil=>true
 |.cons p ps=>p.under n&&ps.under n
end
mutual
theorem aP.dH {n:Nat}:∀ (p:aP) (x:p.T),p.under n=true→(p.enc x).under n=true
 |.int k,x,_=>by simp [aP.enc,AV.under]
 |.bool,x,_=>by simp [aP.enc,AV.under]
 |.str,x,_=>by simp [aP.enc,AV.under]
 |.agg ps,x,h=>by
  simp only [aP.enc,AV.under];exact ps.dH x h
 |.bq ps,x,h=>by
  simp only [aP.enc,AV.under];exact ps.dH x h
 |.list sz p,x,_=>by simp [aP.enc,AV.under]
 |.own id sz p,x,h=>by
  simp only [aP.enc,AV.under];exact h
 |.bK id sz p,x,h=>by
  simp only [aP.enc,AV.under];exact h
 |.bT v,x,h=>by
  simp only [aP.enc];exact h
 |.two u v,(x:Bool),h=>by
  simp only [aP.under,aab] at h;change AV.under n (bif x then v else u)=true;cases x
  ·exact h.1
  ·exact h.2
theorem aM.dH {n:Nat}:∀ (ps:aM) (x:ps.T),ps.under n=true→aG n (ps.enc x)=true
 |.nil,x,_=>rfl
 |.cons p .nil,x,h=>by
  simp only [aM.under,aah] at h;simp only [aM.enc,aG,aah];exact p.dH _ h
 |.cons p (.cons q ps),x,h=>by
  rw [aM.under,aab] at h;simp only [aM.enc,aG,aab];exact ⟨p.dH _ h.1,(aM.cons q ps).dH _ h.2⟩
end
mutual
def AV.exact:AV→Bool
 |.bool _=>true
 |.int _ _=>true
 |.str _=>true
 |.agg cs=>fW cs
 |_=>false
def fW:List AV→Bool
 |[]=>true
 |a :: l=>a.exact&&fW l
end
mutual
theorem aP.jF:∀ (p:aP) {a:AV},p.fits a=true→a.exact=true→p.enc (p.bJ a)=a
 |.int k,a,h,e=>by
  cases a with
  |int k' n=>have hk:Vc k k'=true:=h; rw [FI hk]; rfl
  |_=>cases h
 |.bool,a,h,e=>by
  cases a with
  |bool b=>rfl
  |_=>cases h
 |.str,a,h,e=>by
  cases a with
  |str b=>rfl
  |_=>cases h
 |.agg ps,a,h,e=>by
  cases a with
  |agg cs=>
   have e':fW cs=true:=by simpa [AV.exact] using e
   show AV.agg (ps.enc (ps.bJ cs))=_;rw [ps.jF (show ps.fits cs=true from h) e']
  |_=>cases h
 |.bq ps,a,h,e=>by cases a <;> first | (cases h; done) | simp [AV.exact] at e
 |.list sz p,a,h,e=>by cases a <;> first | (cases h; done) | simp [AV.exact] at e
 |.own id sz p,a,h,e=>by cases a <;> first | (cases h; done) | simp [AV.exact] at e
 |.bK id sz p,a,h,e=>by cases a <;> first | (cases h; done) | simp [AV.exact] at e
 |.bT u,a,h,e=>(jx (show dE a u=true from h)).symm
 |.two u v,a,h,_=>wP h
theorem aM.jF:∀ (ps:aM) {l:List AV},ps.fits l=true→fW l=true→ps.enc (ps.bJ l)=l
 |.nil,l,h,_=>by
  cases l with
  |nil=>rfl
  |cons _ _=>cases h
 |.cons p .nil,l,h,e=>by
  cases l with
  |nil=>cases h
  |cons a l=>
   have h':(p.fits a&&l.isEmpty)=true:=h;simp only [aab,List.isEmpty_iff] at h';obtain ⟨h1,rfl⟩:=h';simp only [fW,aah] at e;show [p.enc (p.bJ a)]=_;rw [p.jF h1 e]
 |.cons p (.cons q ps),l,h,e=>by
  cases l with
  |nil=>cases h
  |cons a l=>
   have h':(p.fits a&&(aM.cons q ps).fits l)=true:=h;rw [aab] at h';simp only [fW,aab] at e;show p.enc (p.bJ a) :: (aM.cons q ps).enc ((aM.cons q ps).bJ l)=_;rw [p.jF h'.1 e.1,(aM.cons q ps).jF h'.2 e.2]
end
mutual
theorem ol:∀ {a:AV},a.exact=true→a.closed=true:=fun {a} h=>by
 cases a with
 |agg cs=>simp only [AV.exact,AV.closed] at *; exact rJ h
 |_=>simp_all [AV.exact,AV.closed]
theorem rJ:∀ {l:List AV},fW l=true→aF l=true
 |[],_=>rfl
 |a :: l,h=>by
  simp only [fW,aF,aab] at *;exact ⟨ol h.1,rJ h.2⟩
end
def ab:List (AV × AV)→List AV
 |[]=>[]
 |(k,v) :: l=>.agg [k,v] :: ab l
def aak:AV→AV × AV
 |.agg [k,v]=>(k,v)
 |_=>(fM,fM)
def aK:List AV→List (AV × AV)
 |[]=>[]
 |a :: l=>aak a :: aK l
def AV.entries:AV→List (AV × AV)
 |.list _ _ es=>aK es
 |_=>[]
theorem oS:∀ l:List (AV × AV),aK (ab l)=l
 |[]=>rfl
 |(k,v) :: l=>by simp only [ab,aK,oS l]; rfl
def AV.LX:AV→Bool
 |.list .ly _ es=>fW es
 |_=>false
def j3:List AV→List AV→Prop
 |[],[]=>True
 |a :: l,b :: r=>jb a b∧j3 l r
 |_,_=>False
theorem j3.refl:∀ l:List AV,j3 l l
 |[]=>trivial
 |a :: l=>⟨jb.refl a,j3.refl l⟩
theorem j3.length:∀ {l r:List AV},j3 l r→l.length=r.length
 |[],[],_=>rfl
 |_ :: _,_ :: _,h=>by simp [j3.length h.2]
 |[],_ :: _,h=>h.elim
 |_ :: _,[],h=>h.elim
theorem j3.of {α:Type} {f:AV→Bool} {d:AV→α} {g:α→AV} (HO:∀ v,f v=true→jb v (g (d v))):∀ {es:List AV},allFit f es=true→j3 es ((es.map d).map g)
 |[],_=>trivial
 |e :: es,h=>by
  simp only [allFit,aab] at h;exact ⟨HO e h.1,j3.of HO h.2⟩
theorem aP.Ec (p:aP) {a:AV} (h:p.fits a=true):j3 a.ea (p.enc (p.bJ a)).ea:=by
 cases p with
 |list sz p=>
  cases a with
  |list k bV es=>
   have hb:((aad sz bV || es.isEmpty)&&allFit p.fits es)=true:=h;rw [aab] at hb;exact j3.of (fun v hv=>p.dh hv) hb.2
  |_=>cases h
 |own id sz p=>
  cases a with
  |list k bV es=>
   cases k with
   |own jP=>
    have hb:((aad id jP&&aad sz bV)&&allFit p.fits es)=true:=h;rw [aab] at hb;exact j3.of (fun v hv=>p.dh hv) hb.2
   |_=>cases h
  |_=>cases h
 |bK id sz p=>
  cases a with
  |list k bV es=>
   cases k with
   |bK jP j=>
    have hb:((aad id jP&&aad sz bV)&&allFit p.fits es)=true:=h;rw [aab] at hb;exact j3.of (fun v hv=>p.dh hv) hb.2
   |_=>cases h
  |_=>cases h
 |bT u=>rw [show a=u from jx (show dE a u=true from h)]; exact j3.refl _
 |two u v=>rw [wP h]; exact j3.refl _
 |_=>cases a <;> first | (cases h; done) | exact j3.refl _
def KN:List AV→List AV→Prop
 |[],[]=>True
 |a :: l,b :: r=>(a.exact=true→b=a)∧(a.LX=true→b.ea=a.ea)∧j3 a.ea b.ea∧KN l r
 |_,_=>False
theorem yI {f:AV→Bool} {α:Type} {d:AV→α} {g:α→AV} (HO:∀ a,f a=true→a.exact=true→g (d a)=a):∀ {es:List AV},allFit f es=true→fW es=true→(es.map d).map g=es
 |[],_,_=>rfl
 |a :: l,h,e=>by
  simp only [allFit,fW,aab] at *;simp only [aa4,HO a h.1 e.1,yI HO h.2 e.2]
theorem aP.Ed (p:aP) {a:AV} (h:p.fits a=true) (e:a.LX=true):(p.enc (p.bJ a)).ea=a.ea:=by
 cases a with
 |list k bV es=>
  cases k with
  |ly=>
   have e':fW es=true:=e;cases p with
   |list sz p=>
    have hb:((aad sz bV || es.isEmpty)&&allFit p.fits es)=true:=h;rw [aab] at hb;show (es.map p.bJ).map p.enc=_;rw [yI (fun a=>p.jF) hb.2 e'];rfl
   |bT u=>rw [show AV.list .ly bV es=u from jx (show dE _ u=true from h)]; rfl
   |two u v=>rw [wP h]
   |_=>cases h
  |_=>cases e
 |_=>cases e
theorem aM.LY:∀ (ps:aM) {l:List AV},ps.fits l=true→KN l (ps.enc (ps.bJ l))
 |.nil,l,h=>by
  cases l with
  |nil=>trivial
  |cons _ _=>cases h
 |.cons p .nil,l,h=>by
  cases l with
  |nil=>cases h
  |cons a l=>
   have h':(p.fits a&&l.isEmpty)=true:=h;simp only [aab,List.isEmpty_iff] at h';obtain ⟨h1,rfl⟩:=h';exact ⟨p.jF h1,p.Ed h1,p.Ec h1,trivial⟩
 |.cons p (.cons q ps),l,h=>by
  cases l with
  |nil=>cases h
  |cons a l=>
   have h':(p.fits a&&(aM.cons q ps).fits l)=true:=h;rw [aab] at h';exact ⟨p.jF h'.1,p.Ed h'.1,p.Ec h'.1,(aM.cons q ps).LY h'.2⟩
theorem KN.split:∀ {l r l':List AV},KN (l++r) l'→∃ a b,l'=a++b∧KN l a∧KN r b∧a.length=l.length
 |[],r,l',h=>⟨[],l',rfl,trivial,h,rfl⟩
 |x :: l,r,[],h=>h.elim
 |x :: l,r,y :: l',h=>by
  obtain ⟨a,b,rfl,h2,h3,h4⟩:=KN.split (l:=l) (r:=r) (l':=l') h.2.2.2;exact ⟨y :: a,b,rfl,⟨h.1,h.2.1,h.2.2.1,h2⟩,h3,by simp [h4]⟩
mutual
def AV.yJ (L:Nat→Nat):AV→AV
 |.eF id 0 0 sz 0=>.eF id (L id) 0 sz (L id)
 |.fn f x y=>.fn f (LZ L x) (LZ L y)
 |v=>v
def LZ (L:Nat→Nat):List AV→List AV
 |[]=>[]
 |a :: l=>a.yJ L :: LZ L l
end
mutual
def aP.inst (L:Nat→Nat):aP→aP
 |.agg ps=>.agg (ps.inst L)
 |.bq ps=>.bq (ps.inst L)
 |.bT v=>.bT (v.yJ L)
 |p=>p
def aM.inst (L:Nat→Nat):aM→aM
 |.nil=>.nil
 |.cons p ps=>.cons (p.inst L) (ps.inst L)
end
mutual
def aP.kN (L:Nat→Nat):(p:aP)→p.T→AV
 |.int k,(n:Int)=>.int k n
 |.bool,(b:Bool)=>.bool b
 |.str,(s:List UInt8)=>.str s
 |.agg ps,x=>.agg (ps.kN L x)
 |.bq ps,x=>.bq (ps.kN L x)
 |.list sz p,(xs:List p.T)=>.list .ly sz (xs.map p.enc)
 |.own id sz p,(xs:List p.T)=>.list (.own id) sz (xs.map p.enc)
 |.bK id sz p,(x:Nat × List p.T)=>.list (.bK id x.1) sz (x.2.map p.enc)
 |.bT v,_=>v.yJ L
 |.two u v,(b:Bool)=>bif b then v else u
def aM.kN (L:Nat→Nat):(ps:aM)→ps.T→List AV
 |.nil,_=>[]
 |.cons p .nil,x=>[p.kN L x]
 |.cons p (.cons q ps),x=>p.kN L x.1 :: (aM.cons q ps).kN L x.2
end
mutual
def aP.nb (L:Nat→Nat):aP→AV→Bool
 |.int k,v=>aP.fits (.int k) v
 |.bool,v=>aP.fits .bool v
 |.str,v=>aP.fits .str v
 |.agg ps,v=>match v with
  |.agg cs=>ps.nb L cs
  |_=>false
 |.bq ps,v=>match v with
  |.bq cs=>ps.nb L cs
  |_=>false
 |.list sz p,v=>aP.fits (.list sz p) v
 |.own id sz p,v=>aP.fits (.own id sz p) v
 |.bK id sz p,v=>aP.fits (.bK id sz p) v
 |.bT v,u=>dE u (v.yJ L)
 |.two u v,a=>aP.fits (.two u v) a
def aM.nb (L:Nat→Nat):aM→List AV→Bool
 |.nil,l=>l.isEmpty
 |.cons p ps,l=>match l with
  |a :: l=>p.nb L a&&ps.nb L l
  |[]=>false
end
def aM.JN (L:Nat→Nat) (ps:aM) (l:List AV):Option ps.T:=bif ps.nb L l then some (ps.bJ l) else none
mutual
theorem aP.ji (L:Nat→Nat):∀ (p:aP) (a:AV),p.nb L a=(p.inst L).fits a
 |.int _,_=>rfl
 |.bool,_=>rfl
 |.str,_=>rfl
 |.agg ps,a=>by
  simp only [aP.nb,aP.inst,aP.fits];cases a <;> first | rfl | exact ps.ji L _
 |.bq ps,a=>by
  simp only [aP.nb,aP.inst,aP.fits];cases a <;> first | rfl | exact ps.ji L _
 |.list _ _,_=>rfl
 |.own _ _ _,_=>rfl
 |.bK _ _ _,_=>rfl
 |.bT _,_=>rfl
 |.two _ _,_=>rfl
theorem aM.ji (L:Nat→Nat):∀ (ps:aM) (l:List AV),ps.nb L l=(ps.inst L).fits l
 |.nil,_=>rfl
 |.cons p ps,l=>by
  cases l with
  |nil=>rfl
  |cons a l=>
   simp only [aM.nb,aM.inst,aM.fits];rw [p.ji L a,ps.ji L l]
end
mutual
theorem aP.iD (L:Nat→Nat):∀ (p:aP) (a:AV),p.kN L (p.bJ a)=(p.inst L).enc ((p.inst L).bJ a)
 |.int _,_=>rfl
 |.bool,_=>rfl
 |.str,_=>rfl
 |.agg ps,a=>congrArg AV.agg (ps.iD L a.jQ)
 |.bq ps,a=>congrArg AV.bq (ps.iD L a.Vd)
 |.list _ _,_=>rfl
 |.own _ _ _,_=>rfl
 |.bK _ _ _,_=>rfl
 |.bT _,_=>rfl
 |.two _ _,_=>rfl
theorem aM.iD (L:Nat→Nat):∀ (ps:aM) (l:List AV),ps.kN L (ps.bJ l)=(ps.inst L).enc ((ps.inst L).bJ l)
 |.nil,_=>rfl
 |.cons p .nil,l=>by
  show [p.kN L (p.bJ (eH l))]=[(p.inst L).enc ((p.inst L).bJ (eH l))];rw [p.iD L]
 |.cons p (.cons q ps),l=>by
  show p.kN L (p.bJ (eH l)) :: (aM.cons q ps).kN L ((aM.cons q ps).bJ (KW l))=(p.inst L).enc ((p.inst L).bJ (eH l)) :: ((aM.cons q ps).inst L).enc (((aM.cons q ps).inst L).bJ (KW l));rw [p.iD L,(aM.cons q ps).iD L]
end
mutual
theorem AV.yK {n:Nat} (L:Nat→Nat):∀ {a:AV},a.under n=true→(a.yJ L).under n=true:=fun {a} h=>by
 cases a with
 |eF id f off sz len=>
  unfold AV.yJ;split
  ·rename_i h1;cases h1;exact h
  ·rename_i h1;cases h1
  ·exact h
 |fn f x y=>
  simp only [AV.yJ,AV.under,aab] at *;exact ⟨sf L h.1,sf L h.2⟩
 |_=>exact h
theorem sf {n:Nat} (L:Nat→Nat):∀ {l:List AV},aG n l=true→aG n (LZ L l)=true
 |[],_=>rfl
 |a :: l,h=>by
  simp only [LZ,aG,aab] at *;exact ⟨AV.yK L h.1,sf L h.2⟩
end
mutual
theorem aP.jj {n:Nat} (L:Nat→Nat):∀ {p:aP},p.under n=true→(p.inst L).under n=true
 |.int _,_=>rfl
 |.bool,_=>rfl
 |.str,_=>rfl
 |.agg ps,h=>aM.jj L (ps:=ps) h
 |.bq ps,h=>aM.jj L (ps:=ps) h
 |.list _ _,_=>rfl
 |.own _ _ _,h=>h
 |.bK _ _ _,h=>h
 |.bT v,h=>AV.yK L (a:=v) h
 |.two _ _,h=>h
theorem aM.jj {n:Nat} (L:Nat→Nat):∀ {ps:aM},ps.under n=true→(ps.inst L).under n=true
 |.nil,_=>rfl
 |.cons p ps,h=>by
  simp only [aM.inst,aM.under,aab] at *;exact ⟨aP.jj L h.1,aM.jj L h.2⟩
end
theorem AV.Bq (L:Nat→Nat) (v:AV):(v.yJ L).ea=v.ea:=by
 unfold AV.yJ;split <;> rfl
def oY:List AV→List AV→Prop
 |[],[]=>True
 |a :: l,b :: r=>a.ea.length=b.ea.length∧oY l r
 |_,_=>False
theorem aP.pQ (L L':Nat→Nat) (p:aP) (x:p.T):(p.kN L x).ea=(p.kN L' x).ea:=by
 cases p with
 |bT v=>
  show (v.yJ L).ea=(v.yJ L').ea;rw [AV.Bq,AV.Bq]
 |_=>rfl
theorem aM.pQ (L L':Nat→Nat):∀ (ps:aM) (x:ps.T),oY (ps.kN L x) (ps.kN L' x)
 |.nil,_=>trivial
 |.cons p .nil,x=>⟨congrArg List.length (p.pQ L L' x),trivial⟩
 |.cons p (.cons q ps),x=>⟨congrArg List.length (p.pQ L L' x.1),(aM.cons q ps).pQ L L' x.2⟩
theorem KN.aal:∀ {l r:List AV},KN l r→oY l r
 |[],[],_=>trivial
 |_ :: _,_ :: _,h=>⟨h.2.2.1.length,h.2.2.2.aal⟩
 |[],_ :: _,h=>h.elim
 |_ :: _,[],h=>h.elim
theorem oY.trans:∀ {l r u:List AV},oY l r→oY r u→oY l u
 |[],[],[],_,_=>trivial
 |_ :: _,_ :: _,_ :: _,h,k=>⟨h.1.trans k.1,h.2.trans k.2⟩
 |[],_ :: _,_,h,_=>h.elim
 |_ :: _,[],_,h,_=>h.elim
 |[],[],_ :: _,_,k=>k.elim
 |_ :: _,_ :: _,[],_,k=>k.elim
theorem oY.drop:∀ {l r:List AV} (n:Nat),oY l r→oY (l.drop n) (r.drop n)
 |l,r,0,h=>by simpa using h
 |[],[],_+1,_=>by simp [oY]
 |_ :: _,_ :: _,n+1,h=>by simpa using oY.drop n h.2
 |[],_ :: _,_+1,h=>h.elim
 |_ :: _,[],_+1,h=>h.elim
theorem aM.PV (L:Nat→Nat) (ps:aM) {l:List AV} {x:ps.T} (h:ps.JN L l=some x):cW l (ps.kN L x)∧KN l (ps.kN L x):=by
 unfold aM.JN at h;cases hf:ps.nb L l with
 |true=>
  rw [hf] at h;cases h;rw [ps.iD L];rw [ps.ji L] at hf;have hd:(ps.inst L).dec l=some ((ps.inst L).bJ l):=by unfold aM.dec; rw [hf]; rfl
  exact ⟨((ps.inst L).rU hd).1,(ps.inst L).LY hf⟩
 |false=>rw [hf] at h; cases h
theorem aM.GN {n:Nat} (L:Nat→Nat) (ps:aM) (hp:ps.under n=true) (l:List AV):aG n (ps.kN L (ps.bJ l))=true:=by
 rw [ps.iD L];exact (ps.inst L).dH _ (aM.jj L hp)
theorem aM.JO (L:Nat→Nat) (ps:aM) {l:List AV} {x:ps.T} (h:ps.JN L l=some x):x=ps.bJ l:=by
 unfold aM.JN at h;cases hf:ps.nb L l with
 |true=>rw [hf] at h; cases h; rfl
 |false=>rw [hf] at h; cases h
end Go.Am
namespace Go.Am
open Go
inductive Fz
 |open_
 |busy
 |ret
 |ex (i:Nat)
def Fz.is:Fz→Bool→Option Code→Bool→Bool
 |.open_,false,none,false=>true
 |.busy,true,none,false=>true
 |.ret,false,some .ret,true=>true
 |.ex i,false,some (.exit j),true=>aad i j
 |_,_,_,_=>false
def Fz.b:Fz→Bool
 |.busy=>true
 |_=>false
def Fz.p:Fz→Option Code
 |.ret=>some .ret
 |.ex i=>some (.exit i)
 |_=>none
def Fz.d:Fz→Bool
 |.ret=>true
 |.ex _=>true
 |_=>false
theorem Fz.Ij {k:Fz} {b:Bool} {p:Option Code} {d:Bool} (h:k.is b p d=true):b=k.b∧p=k.p∧d=k.d:=by
 unfold Fz.is at h;split at h <;> first | exact ⟨rfl,rfl,rfl⟩ | (cases h; done) | skip
 rw [aac h];exact ⟨rfl,rfl,rfl⟩
inductive GL
 |row (n:Nat)
 |tok (loc sz:Nat) (e:TypeId)
 |dead
 |lp (k:Fz)
 |aY
 |map
 |FA
 |dZ (sz:Nat) (e:TypeId)
 |bK (sz:Nat) (e:TypeId)
 |tz
 |oQ (rT:Nat)
def cN (fs:List Nat):List AV:=fs.map fun n:Nat=>.int .i64 n
def ba (l:List AV):List Nat:=l.map fun a=>a.lz.toNat
theorem vO (fs:List Nat):ba (cN fs)=fs:=by
 induction fs with
 |nil=>rfl
 |cons n fs ih=>
  show (AV.int .i64 n).lz.toNat :: ba (cN fs)=n :: fs;rw [ih];simp [AV.lz]
theorem yL (fs:List Nat):fW (cN fs)=true:=by
 induction fs with
 |nil=>rfl
 |cons n fs ih=>exact ih
def V5 (k:Fz):GO→GO→Bool
 |.loop _ _ _ _ _ _ _ _ _ _,.loop b p _ _ _ _ _ _ _ d=>k.is b p d
 |_,_=>false
def Uv (k:Fz):GO→GO
 |.loop _ _ fn sl n ps tj bd d _=>.loop k.b k.p fn sl n ps tj bd d k.d
 |_=>.dead
def bg (es:List (AV × AV)):Bool:=fW (ab es)
def Ct:GO→GO→Bool
 |.tok f sz e,.tok f' bV e'=>decide (f'=f)&&(aad bV sz&&aad e' e)
 |.defers a,.defers b=>match a,b with
  |true,true=>true
  |false,false=>true
  |_,_=>false
 |.dead,_=>true
 |_,_=>false
structure cU where
 ps:aM
 sl:List Tmp
 W:List Tmp
 bx:List (Nat × Nat)
 g:List GL
 Y2:List (Tmp × Nat × Nat)
def yM (ae:bj):List Tmp→Option (List AV)
 |[]=>some []
 |t :: l=>match lk ae t with
  |.v a=>match yM ae l with
   |some r=>some (a :: r)
   |none=>none
  |_=>none
def yN (bx:cV):List (Nat × Nat)→Option (List AV)
 |[]=>some []
 |(k,n) :: l=>match dA bx k with
  |some cs=>match yN bx l with
   |some r=>bif aad cs.length n then some (cs++r) else none
   |none=>none
  |none=>none
def kf:List GL→List GO→Option (List AV)
 |[],_=>some []
 |.row n :: l,.row cs _ :: G=>match kf l G with
  |some r=>bif aad cs.length n then some (cs++r) else none
  |none=>none
 |.tok _ sz e :: l,.tok _ bV e' :: G=>bif aad sz bV&&aad e e' then kf l G else none
 |.dead :: l,_ :: G=>kf l G
 |.lp _ :: l,_ :: G=>kf l G
 |.aY :: l,_ :: G=>kf l G
 |.map :: l,.map es :: G=>match kf l G with
  |some r=>some (.list .ly 2 (ab es) :: r)
  |none=>none
 |.FA :: l,.gy s pos :: G=>match kf l G with
  |some r=>some (.str s :: .int .i64 pos :: r)
  |none=>none
 |.dZ sz e :: l,.dZ es bV e' :: G=>match kf l G with
  |some r=>bif aad sz bV&&aad e e' then some (.list .ly bV es :: r) else none
  |none=>none
 |.bK sz e :: l,.bK fs bV e' :: G=>match kf l G with
  |some r=>bif aad sz bV&&aad e e' then some (.list .ly 1 (cN fs) :: r) else none
  |none=>none
 |.tz :: l,.map es :: G=>match kf l G with
  |some r=>some (.list .ly 2 (ab es) :: r)
  |none=>none
 |.oQ rT :: l,.oQ mid' n left _ _ :: G=>match kf l G with
  |some r=>bif aad rT mid' then some (.int .i64 n :: .list .ly 1 (cN left) :: r) else none
  |none=>none
 |_,_=>none
def L0 (vs:List AV) (loc:Nat):Nat:=match nth vs loc with
 |some (.list _ _ es)=>es.length
 |_=>0
def Uw:GO→GO→Bool
 |.row _ e,.row _ e'=>aad e e'
 |_,_=>false
def Ux:GO→GO→Bool
 |.oQ _ _ _ _ t,.oQ _ _ _ _ t'=>aad t t'
 |_,_=>false
def aam:GO→TypeId
 |.oQ _ _ _ _ t=>t
 |_=>0
def aan:GO→TypeId
 |.row _ e=>e
 |_=>0
def dK (vs:List AV):List GL→List GO→List GO→Bool
 |[],_,_=>true
 |.tok loc _ _ :: l,_ :: B,.tok f _ _ :: G=>decide (f=L0 vs loc)&&dK vs l B G
 |.tok _ _ _ :: _,_,_=>false
 |.lp k :: l,o :: B,o' :: G=>V5 k o o'&&dK vs l B G
 |.aY :: l,o :: B,o' :: G=>Ct o o'&&dK vs l B G
 |.row _ :: l,b :: B,g :: G=>Uw b g&&dK vs l B G
 |.map :: l,_ :: B,.map es :: G=>bg es&&dK vs l B G
 |.map :: _,_,_=>false
 |.FA :: l,_ :: B,_ :: G=>dK vs l B G
 |.dZ _ _ :: l,_ :: B,_ :: G=>dK vs l B G
 |.bK _ _ :: l,_ :: B,_ :: G=>dK vs l B G
 |.tz :: l,_ :: B,_ :: G=>dK vs l B G
 |.oQ _ :: l,b :: B,g :: G=>Ux b g&&dK vs l B G
 |.dead :: l,_ :: B,_ :: G=>dK vs l B G
 |_,_,_=>false
def pR:List Tmp→List AV→bj→bj
 |t :: ts,a :: l,r=>.put t (.v a) :: pR ts l r
 |_,_,r=>r
def pS:List (Tmp × Nat × Nat)→bj→bj
 |(t,k,o) :: l,r=>.put t (.lp k o) :: pS l r
 |[],r=>r
def Ik (ae:bj):List (Tmp × Nat × Nat)→Bool
 |[]=>true
 |(t,k,o) :: l=>(match lk ae t with
  |.lp k' o'=>aad k' k&&aad o' o
  |_=>false)&&Ik ae l
def yO:List Tmp→bj→bj
 |t :: ts,r=>.put t .none :: yO ts r
 |[],r=>r
def vP:List (Nat × Nat)→List AV→cV→cV
 |(k,n) :: r,l,b=>(k,l.take n) :: vP r (l.drop n) b
 |[],_,b=>b
def dJ (vs:List AV):List GL→List GO→List AV→List GO
 |.row n :: r,B,l=>.row (l.take n) (aan (B.headD .dead)) :: dJ vs r B.tail (l.drop n)
 |.tok loc sz e :: r,B,l=>.tok (L0 vs loc) sz e :: dJ vs r B.tail l
 |.dead :: r,B,l=>.dead :: dJ vs r B.tail l
 |.lp k :: r,B,l=>Uv k (B.headD .dead) :: dJ vs r B.tail l
 |.aY :: r,B,l=>B.headD .dead :: dJ vs r B.tail l
 |.map :: r,B,l=>.map (AV.entries (eH l)) :: dJ vs r B.tail l.tail
 |.FA :: r,B,l=>.gy (AV.Ve (eH l)) (AV.lz (eH l.tail)).toNat :: dJ vs r B.tail l.tail.tail
 |.dZ sz e :: r,B,l=>.dZ (AV.ea (eH l)) sz e :: dJ vs r B.tail l.tail
 |.bK sz e :: r,B,l=>.bK (ba (AV.ea (eH l))) sz e :: dJ vs r B.tail l.tail
 |.tz :: r,B,l=>.map (AV.entries (eH l)) :: dJ vs r B.tail l.tail
 |.oQ rT :: r,B,l=>.oQ rT (AV.lz (eH l)).toNat (ba (AV.ea (eH l.tail))) none (aam (B.headD .dead)) :: dJ vs r B.tail l.tail.tail
 |[],_,_=>[]
def Cu:List (Nat × Nat)→Nat
 |[]=>0
 |(_,n) :: l=>n+Cu l
def kO:List GL→List AV→Nat→Nat
 |[],_,_=>0
 |.dZ _ _ :: r,l,i=>match i with
  |0=>(AV.ea (eH l)).length
  |i+1=>kO r l.tail i
 |.row n :: r,l,i=>match i with
  |0=>0
  |i+1=>kO r (l.drop n) i
 |.map :: r,l,i=>match i with
  |0=>0
  |i+1=>kO r l.tail i
 |.FA :: r,l,i=>match i with
  |0=>0
  |i+1=>kO r l.tail.tail i
 |.bK _ _ :: r,l,i=>match i with
  |0=>0
  |i+1=>kO r l.tail i
 |.tz :: r,l,i=>match i with
  |0=>0
  |i+1=>kO r l.tail i
 |.oQ _ :: r,l,i=>match i with
  |0=>0
  |i+1=>kO r l.tail.tail i
 |_ :: r,l,i=>match i with
  |0=>0
  |i+1=>kO r l i
def cU.ru (t:cU) (v:t.ps.T):List AV:=t.ps.kN (kO t.g (((t.ps.kN (fun _=>0) v).drop t.sl.length).drop (Cu t.bx))) v
def cU.st (t:cU) (s:St) (v:t.ps.T):St:=
 ⟨pS t.Y2 (pR t.sl (t.ru v) (yO t.W s.ae)),vP t.bx ((t.ru v).drop t.sl.length) s.boxes,dJ (t.ru v) t.g s.G (((t.ru v).drop t.sl.length).drop (Cu t.bx)),s.marks,s.ro,s.n⟩
def Po:List Nat→Nat→Bool
 |[],_=>false
 |a :: l,n=>aad a n || Po l n
def Y3 (l:List Tmp) (W:List Tmp) (n:Nat):Bool:=Po l n || Po W n
def Az (d:Nat) (l W:List Tmp):bj→Bool
 |[]=>true
 |.put t (.lp k _) :: r=>(!(aad k d) || Y3 l W t)&&Az d l W r
 |_ :: r=>Az d l W r
def uH (l W:List Tmp) (base:bj):bj→Bool
 |[]=>true
 |.put d _ :: r=>Y3 l W d&&uH l W base r
 |.kill d :: r=>Az d l W base&&uH l W base r
def wj:List (Nat × Nat)→Nat→Bool
 |[],_=>false
 |(a,_) :: l,n=>aad a n || wj l n
def wW (l:List (Nat × Nat)) (base:cV):cV→Bool
 |[]=>true
 |(k,_) :: r=>(wj l k || (dA base k).isNone)&&wW l base r
def PW:List Nat→List Nat→Bool
 |[],[]=>true
 |a :: l,b :: r=>aad a b&&PW l r
 |_,_=>false
def aP.lcl (n:Nat):aP→Bool
 |.list _ p=>p.under n
 |_=>false
def aM.flags (n:Nat):aM→List Bool
 |.nil=>[]
 |.cons p ps=>p.lcl n :: ps.flags n
def kP:List GL→List Bool→Bool
 |[],_=>true
 |.dZ _ _ :: r,f :: l=>f&&kP r l
 |.dZ _ _ :: _,[]=>false
 |.row n :: r,l=>kP r (fF n l)
 |.map :: r,l=>kP r (fF 1 l)
 |.FA :: r,l=>kP r (fF 2 l)
 |.bK _ _ :: r,l=>kP r (fF 1 l)
 |.tz :: r,f :: l=>f&&kP r l
 |.tz :: _,[]=>false
 |.oQ _ :: r,l=>kP r (fF 2 l)
 |_ :: r,l=>kP r l
def L4 (n:Nat):List GL→Bool
 |[]=>true
 |.oQ rT :: r=>aag rT n&&L4 n r
 |_ :: r=>L4 n r
def cU.ok (t:cU) (s s':St):Bool:=
 uH t.sl t.W s.ae (s'.ae.take (s'.ae.length - s.ae.length))&&wW t.bx s.boxes (s'.boxes.take (s'.boxes.length - s.boxes.length)) &&
  PW s'.marks s.marks&&aad t.g.length s.G.length&&(t.ps.under s.G.length&&(kP t.g (fF (Cu t.bx) (fF t.sl.length (t.ps.flags s.G.length)))&&L4 s.G.length t.g))&&Ik s'.ae t.Y2
def cU.dec (t:cU) (s s':St):Option t.ps.T:=
 bif t.ok s s' then
  match yM s'.ae t.sl,yN s'.boxes t.bx,kf t.g s'.G with
  |some a,some b,some c=>(t.ps.JN (kO t.g c) (a++(b++c))).bind fun v=>bif dK (t.ru v) t.g s.G s'.G then some v else none
  |_,_,_=>none
 else none
theorem Cv {l:List Nat} {n:Nat}:Po l n=true↔n∈l:=by
 induction l with
 |nil=>simp [Po]
 |cons a l ih=>
  simp only [Po,Bool.or_eq_true,Nat.beq_eq,ih,aaF];constructor
  ·rintro (h|h)
   ·exact .inl h.symm
   ·exact .inr h
  ·rintro (h|h)
   ·exact .inl h.symm
   ·exact .inr h
theorem Il:∀ {a b:List Nat},PW a b=true→a=b
 |[],[],_=>rfl
 |a :: l,b :: r,h=>by
  simp only [PW,aab,Nat.beq_eq] at h;rw [h.1,Il h.2]
 |[],_ :: _,h=>by cases h
 |_ :: _,[],h=>by cases h
theorem Cw {d:Nat} {l W:List Tmp} {t off:Nat}:∀ {base:bj},Az d l W base=true→lk base t=.lp d off→Y3 l W t=true
 |[],_,h=>by simp [lk] at h
 |.put t' x :: r,hn,h=>by
  by_cases e:t'=t
  ·subst e;rw [aA] at h;subst h;simp only [Az,Nat.beq_refl,Bool.not_true,Bool.false_or,aab] at hn;exact hn.1
  ·rw [aS e] at h;refine Cw (base:=r) ?_ h;cases x <;> simp only [Az,aab] at hn
   ·exact hn
   ·exact hn
   ·exact hn.2
 |.kill d' :: r,hn,h=>by
  rcases HN (l:=r) (d:=d') (t:=t) with ⟨h1,_⟩|h1
  ·rw [h1] at h;exact Cw (base:=r) hn h
  ·rw [h1] at h;cases h
theorem Cx {l W:List Tmp} {base:bj} {t:Nat} (ht:Y3 l W t=false):∀ {pre:bj},uH l W base pre=true→lk (pre++base) t=lk base t
 |[],_=>rfl
 |.put d x :: r,h=>by
  simp only [uH,aab] at h;have cS:d≠t:=fun e=>by rw [e,ht] at h; exact absurd h.1 (by simp)
  rw [aap,aS cS];exact Cx ht h.2
 |.kill d :: r,h=>by
  simp only [uH,aab] at h;have ih:=Cx ht h.2;simp only [aap,lk,ih];cases hb:lk base t with
  |lp k off=>
   by_cases e:k=d
   ·subst e;have:=Cw h.1 hb;rw [ht] at this;cases this
   ·simp [nS e]
  |_=>rfl
theorem Ee {l:List (Nat × Nat)} {base:cV} {k:Nat} {cs:List AV} (hk:wj l k=false) (hb:dA base k=some cs):∀ {pre:cV},wW l base pre=true→dA (pre++base) k=some cs
 |[],_=>hb
 |(d,x) :: r,h=>by
  simp only [wW,aab] at h;have cS:d≠k:=fun e=>by
   rw [e,hk,hb] at h;exact absurd h.1 (by simp)
  rw [aap,dA,nS cS];exact Ee hk hb h.2
theorem Ef {α:Type} (pre base:List α):(pre++base).take ((pre++base).length - base.length)=pre:=by
 rw [List.length_append,Nat.add_sub_cancel,aa3]
def ak.cut (R:ak) (n:Nat):ak:=⟨R.I,R.obj.take n⟩
theorem kh {R:ak} {n id:Nat} {ro:RO}:nth (R.cut n).obj id=some ro↔id < n∧nth R.obj id=some ro:=by
 simp only [ak.cut,bi,List.getElem?_take];split
 ·simp_all
 ·simp_all;omega
theorem pT (R:ak) (n:Nat):Mv R (R.cut n) n:=⟨fun _ _ h=>h,fun _ _ hl h=>kh.2 ⟨hl,h⟩⟩
section Df
variable {E:Env} {R R':ak} {w w':World} {β β':Nat→Nat} {s s':St} {a a':Act}
def yP (R:ak) (w:World) (β:Nat→Nat) (K:Nat→Prop) (ae:bj) (tmps:Array Value):Prop:=
 ∀ i,¬ K i→lk ae i≠.none→∃ c,tmps[i]?=some c∧rm R w β (lk ae i) c
theorem yQ {tmps:Array Value} {base:bj}:∀ {W:List Tmp} {K:Nat→Prop},yP R w β (fun i=>i∈W∨K i) base tmps→yP R w β K (yO W base) tmps
 |[],K,h=>fun i hi hn=>h i (by simpa using hi) hn
 |t :: W,K,h=>fun i hi hn=>by
  have ih:yP R w β (fun i=>i=t∨K i) (yO W base) tmps:=yQ (W:=W) (fun j hj=>h j (fun hc=>hj (by
   rcases hc with hc|hc
   ·rcases aaF.1 hc with hc|hc
    ·exact .inr (.inl hc)
    ·exact .inl hc
   ·exact .inr (.inr hc))))
  simp only [yO] at hn ⊢;by_cases e:t=i
  ·subst e;rw [aA] at hn;exact absurd rfl hn
  ·rw [aS e] at hn ⊢;exact ih i (by simp; exact ⟨fun e'=>e e'.symm,hi⟩) hn
theorem vQ {n:Nat} (m:Mv R' R n) {tmps:Array Value} {ae:bj} (hT:pj R' w β ae tmps) {base:bj}:∀ {ts:List Tmp} {K:Nat→Prop} {l l' r r':List AV},yM ae ts=some l→cW (l++r) (l'++r')→l.length=l'.length→aG n l'=true →
  yP R w β (fun i=>i∈ts∨K i) base tmps→yP R w β K (pR ts (l'++r') base) tmps
 |[],K,l,l',r,r',_,_,_,_,h=>fun i hi hn=>by
  have e:pR [] (l'++r') base=base:=rfl;rw [e] at hn ⊢;exact h i (by simpa using hi) hn
 |t :: ts,K,l,l',r,r',hg,hw,hl,hu,h=>by
  unfold yM at hg;split at hg
  ·rename_i a ha;split at hg
   ·rename_i l0 uv;cases hg;cases l' with
    |nil=>simp at hl
    |cons b l'=>
     simp only [aap,cW] at hw;simp only [aG,aab] at hu;have ih:yP R w β (fun i=>i=t∨K i) (pR ts (l'++r') base) tmps:=vQ m hT uv hw.2 (by simpa using hl) hu.2 (fun j hj=>h j (fun hc=>hj (by
      rcases hc with hc|hc
      ·rcases aaF.1 hc with hc|hc
       ·exact .inr (.inl hc)
       ·exact .inl hc
      ·exact .inr (.inr hc))))
     intro i hi hn;simp only [pR,aap] at hn ⊢;by_cases e:t=i
     ·subst e;rw [aA] at hn ⊢;obtain ⟨c,h1,h2⟩:=hT t (by rw [ha]; simp);rw [ha] at h2;exact ⟨c,h1,Rel.move m hu.1 (hw.1 _ _ _ h2)⟩
     ·rw [aS e] at hn ⊢;exact ih i (by simp; exact ⟨fun e'=>e e'.symm,hi⟩) hn
   ·cases hg
  ·cases hg
def yR (R:ak) (w:World) (β:Nat→Nat) (k:Nat) (cs:List AV):Prop:=
 (∃ vs el,w.heap[β k]?=some (.cells ⟨vs⟩ el (0,0))∧aN R w cs vs∧(∀ v∈vs,v.oneCell'=true))∧(∀ o,¬ R.I (β k) o)∧¬ Live R (β k)
theorem Eg {R:ak} {n b:Nat} (h:Live (R.cut n) b):Live R b:=by
 obtain ⟨id,ro,h1,h2⟩:=h;exact ⟨id,ro,(kh.1 h1).2,h2⟩
theorem yR.cut {n k:Nat} {cs cs':List AV} (h:yR R w β k cs) (hw:cW cs cs') (hu:aG n cs'=true):yR (R.cut n) w β k cs':=by
 obtain ⟨⟨vs,el,h1,h2,h3⟩,h4,h5⟩:=h;exact ⟨⟨vs,el,h1,(hw.rel h2).move (pT R n) hu,h3⟩,h4,fun hl=>h5 (Eg hl)⟩
theorem fx {n:Nat}:∀ {l r:List AV},aG n (l++r)=(aG n l&&aG n r)
 |[],r=>by simp [aG]
 |a :: l,r=>by simp [aG,fx (l:=l),Bool.and_assoc]
theorem cW.split:∀ {l r l':List AV},cW (l++r) l'→∃ a b,l'=a++b∧cW l a∧cW r b∧a.length=l.length
 |[],r,l',h=>⟨[],l',rfl,trivial,h,rfl⟩
 |x :: l,r,[],h=>h.elim
 |x :: l,r,y :: l',h=>by
  obtain ⟨a,b,rfl,h2,h3,h4⟩:=cW.split (l:=l) (r:=r) (l':=l') h.2;exact ⟨y :: a,b,rfl,⟨h.1,h2⟩,h3,by simp [h4]⟩
theorem Eh {n:Nat} {bxs:cV} (hb:∀ k cs,dA bxs k=some cs→yR R w β k cs) {base:cV}:∀ {bx:List (Nat × Nat)} {K:Nat→Prop} {l l' r:List AV},yN bxs bx=some l→cW l l'→aG n l'=true →
  (∀ k cs,¬ K k→wj bx k=false→dA base k=some cs→dA bxs k=some cs∧aG n cs=true) →
  ∀ k cs,¬ K k→dA (vP bx (l'++r) base) k=some cs→yR (R.cut n) w β k cs∧∃ cs',dA bxs k=some cs'
 |[],K,l,l',r,_,_,_,h,k,cs,hK,hk=>by
  obtain ⟨h1,h2⟩:=h k cs hK rfl hk;exact ⟨(hb k cs h1).cut (cW.refl _) h2,cs,h1⟩
 |(d,m) :: bx,K,l,l',r,hg,hw,hu,h,k,cs,hK,hk=>by
  unfold yN at hg;split at hg
  ·rename_i Z8 hd;split at hg
   ·rename_i l0 uv;cases hm:aad Z8.length m with
    |false=>rw [hm] at hg; cases hg
    |true=>
     rw [hm] at hg;cases hg;have hm:=aac hm;obtain ⟨x,y,rfl,k1,k2,k3⟩:=hw.split;rw [fx,aab] at hu;have e1:((x++y)++r).take m=x:=by rw [List.append_assoc,← hm,← k3,aa3]
     have e2:((x++y)++r).drop m=y++r:=by rw [List.append_assoc,← hm,← k3,aai]
     simp only [vP,e1,e2] at hk;rcases eR hk with ⟨rfl,rfl⟩|⟨cS,hk⟩
     ·exact ⟨(hb d Z8 hd).cut k1 hu.1,Z8,hd⟩
     ·refine Eh hb (K:=fun k=>k=d∨K k) (r:=r) uv k2 hu.2 (fun k' cs' hK' h1 h2=>?_) k cs (fun hc=>?_) hk
      ·exact h k' cs' (fun hc=>hK' (.inr hc)) (by simp only [wj,h1,Bool.or_false]; exact nS (fun e=>hK' (.inl e.symm))) h2
      ·rcases hc with hc|hc
       ·exact cS hc.symm
       ·exact hK hc
   ·cases hg
  ·cases hg
def yS (n:Nat):List GL→List AV→Prop
 |[],_=>True
 |.dZ _ _ :: r,l=>aG n (AV.ea (eH l))=true∧yS n r l.tail
 |.row m :: r,l=>yS n r (l.drop m)
 |.map :: r,l=>yS n r l.tail
 |.FA :: r,l=>yS n r l.tail.tail
 |.bK _ _ :: r,l=>yS n r l.tail
 |.tz :: r,l=>aG n (AV.ea (eH l))=true∧yS n r l.tail
 |.oQ _ :: r,l=>yS n r l.tail.tail
 |_ :: r,l=>yS n r l
def pU (n:Nat):List Bool→List AV→Prop
 |[],_=>True
 |_ :: _,[]=>True
 |f :: fl,a :: l=>(f=true→aG n a.ea=true)∧pU n fl l
theorem pU.drop {m:Nat}:∀ {fl:List Bool} {l:List AV} (n:Nat),pU m fl l→pU m (fF n fl) (l.drop n)
 |_,_,0,h=>by simpa [fF] using h
 |[],_,_+1,_=>by simp [fF,pU]
 |_ :: fl,[],n+1,_=>by
  rw [List.drop_nil];cases fF (n+1) (_ :: fl) <;> trivial
 |_ :: fl,_ :: l,n+1,h=>by simpa [fF] using pU.drop n h.2
theorem fI {m:Nat}:∀ (g:List GL) {fl:List Bool} {l:List AV},kP g fl=true→pU m fl l→yS m g l
 |[],_,_,_,_=>trivial
 |.dZ _ _ :: g,[],_,h,_=>by cases h
 |.dZ _ _ :: g,f :: fl,[],h,_=>by
  simp only [kP,aab] at h;refine ⟨rfl,fI g (fl:=fl) h.2 ?_⟩;cases fl <;> trivial
 |.dZ _ _ :: g,f :: fl,a :: l,h,k=>by
  simp only [kP,aab] at h;exact ⟨k.1 h.1,fI g h.2 k.2⟩
 |.row n :: g,fl,l,h,k=>fI g (show kP g (fF n fl)=true from h) (k.drop n)
 |.map :: g,fl,l,h,k=>by
  have:=fI g (show kP g (fF 1 fl)=true from h) (k.drop 1);rw [List.drop_one] at this;exact this
 |.FA :: g,fl,l,h,k=>by
  have:=fI g (show kP g (fF 2 fl)=true from h) (k.drop 2);have e:l.drop 2=l.tail.tail:=by cases l with
   |nil=>rfl
   |cons a l=>cases l <;> rfl
  rw [e] at this;exact this
 |.bK _ _ :: g,fl,l,h,k=>by
  have:=fI g (show kP g (fF 1 fl)=true from h) (k.drop 1);rw [List.drop_one] at this;exact this
 |.oQ _ :: g,fl,l,h,k=>by
  have:=fI g (show kP g (fF 2 fl)=true from h) (k.drop 2);have e:l.drop 2=l.tail.tail:=by cases l with
   |nil=>rfl
   |cons a l=>cases l <;> rfl
  rw [e] at this;exact this
 |.tz :: g,[],_,h,_=>by cases h
 |.tz :: g,f :: fl,[],h,_=>by
  simp only [kP,aab] at h;refine ⟨rfl,fI g (fl:=fl) h.2 ?_⟩;cases fl <;> trivial
 |.tz :: g,f :: fl,a :: l,h,k=>by
  simp only [kP,aab] at h;exact ⟨k.1 h.1,fI g h.2 k.2⟩
 |.tok _ _ _ :: g,fl,l,h,k=>fI g (show kP g fl=true from h) k
 |.dead :: g,fl,l,h,k=>fI g (show kP g fl=true from h) k
 |.lp _ :: g,fl,l,h,k=>fI g (show kP g fl=true from h) k
 |.aY :: g,fl,l,h,k=>fI g (show kP g fl=true from h) k
theorem yT {n:Nat} {α:Type} {g:α→AV} (hg:∀ x,(g x).under n=true):∀ xs:List α,aG n (xs.map g)=true
 |[]=>rfl
 |x :: xs=>by simp only [aa4,aG,hg x,yT hg xs,Bool.and_self]
theorem vR {α:Type} {g:α→AV} (hg:∀ x,(g x).closed=true):∀ xs:List α,aF (xs.map g)=true
 |[]=>rfl
 |x :: xs=>by simp only [aa4,aF,hg x,vR hg xs,Bool.and_self]
theorem aM.Ei (n:Nat) (L:Nat→Nat):∀ (ps:aM) (x:ps.T),pU n (ps.flags n) (ps.kN L x)
 |.nil,_=>trivial
 |.cons p .nil,x=>⟨fun h=>Uy L p x h,trivial⟩
 |.cons p (.cons q ps),x=>⟨fun h=>Uy L p x.1 h,(aM.cons q ps).Ei n L x.2⟩
where
 Uy (L:Nat→Nat):∀ (p:aP) (x:p.T),p.lcl n=true→aG n (p.kN L x).ea=true
  |.list _ p,x,h=>yT (fun y=>p.dH y h) _
  |.int _,_,h=>by cases h
  |.bool,_,h=>by cases h
  |.str,_,h=>by cases h
  |.agg _,_,h=>by cases h
  |.bq _,_,h=>by cases h
  |.own _ _ _,_,h=>by cases h
  |.bK _ _ _,_,h=>by cases h
  |.bT _,_,h=>by cases h
  |.two _ _,_,h=>by cases h
def GOk (n:Nat):GO→GO→Prop
 |.row cs el,.row cs' el'=>el'=el∧cW cs cs'∧aG n cs'=true
 |.tok f sz e,.tok f' bV e'=>f=f'∧sz=bV∧e=e'
 |.defers a,.defers b=>a=b
 |.map es,.map es'=>(es'=es∧bg es=true)∨∃ l,es'=aK l∧j3 (ab es) l∧aG n l=true
 |.bK fs sz e,.bK Vp bV e'=>fs=Vp∧sz=bV∧e=e'
 |.oQ rT m left _ t,.oQ mid' m' Bb cur t'=>rT=mid'∧m=m'∧left=Bb∧t=t'∧rT < n∧cur=none
 |.gy l p,.gy l' p'=>l'=l∧p'=p
 |.dZ es sz e,.dZ es' bV e'=>bV=sz∧e'=e∧j3 es es'∧aG n es'=true
 |_,.dead=>True
 |_,_=>False
def LOk:GO→GO→GO→Prop
 |.loop _ _ fn sl n ps tj bd d _,.loop b p _ _ _ _ _ _ _ dn,go=>go=.loop b p fn sl n ps tj bd d dn
 |_,_,_=>False
theorem JP {n:Nat} {o o':GO} (h:Ct o o'=true):GOk n o' o:=by
 cases o with
 |tok f sz e=>
  cases o' with
  |tok f' bV e'=>
   simp only [Ct,aab] at h;exact ⟨of_decide_eq_true h.1,aac h.2.1,aac h.2.2⟩
  |_=>cases h
 |defers a=>
  cases o' with
  |defers b=>cases a <;> cases b <;> first | rfl | cases h
  |_=>cases h
 |dead=>cases o' <;> trivial
 |_=>cases h
theorem PX {k:Fz} {o o':GO} (h:V5 k o o'=true):LOk o o' (Uv k o):=by
 cases o with
 |loop b p fn sl n ps tj bd d dn=>
  cases o' with
  |loop b' p' fn' Y1 n' ps' PY Y4 d' dn'=>
   obtain ⟨rfl,rfl,rfl⟩:=Fz.Ij (show k.is b' p' dn'=true from h);rfl
  |_=>cases h
 |_=>cases h
theorem rK (a:AV):a.entries=aK a.ea:=by cases a <;> rfl
theorem gX {n:Nat} {vs:List AV}:∀ {g:List GL} {B G:List GO} {l l':List AV},kf g G=some l→cW l l'→KN l l'→yS n g l'∧L4 n g=true→aG n l'=true→dK vs g B G=true →
  ∀ id go,nth (dJ vs g B l') id=some go→∃ go',nth G id=some go'∧(GOk n go' go∨∃ KK,nth B id=some KK∧LOk KK go' go)
 |[],B,G,l,l',_,_,_,_,_,_,id,go,h=>by simp [dJ,nth] at h
 |x :: g,[],G,l,l',_,_,_,_,_,ht,_,_,_=>by cases x <;> cases G <;> cases ht
 |x :: g,_ :: _,[],l,l',_,_,_,_,_,ht,_,_,_=>by cases x <;> cases ht
 |.row m :: g,b :: B,o :: G,l,l',hg,hw,hx,ub,hu,ht,id,go,h=>by
   obtain ⟨Jw,D5⟩:Uw b o=true∧dK vs g B G=true:=by
    rw [← aab];cases o <;> exact ht
   cases o with
   |row cs el=>
    have qD:aan b=el:=by
     cases b <;> first | (cases Jw; done) | exact aac Jw
    change (match kf g G with
     |some r=>bif aad cs.length m then some (cs++r) else none
     |none=>none)=some l at hg
    split at hg
    ·rename_i r hr;cases hm:aad cs.length m with
     |false=>rw [hm] at hg; cases hg
     |true=>
      rw [hm] at hg;cases hg;have hm:=aac hm;obtain ⟨x,y,rfl,k1,k2,k3⟩:=hw.split;rw [fx,aab] at hu;have e1:(x++y).take m=x:=by rw [← hm,← k3,aa3]
      have e2:(x++y).drop m=y:=by rw [← hm,← k3,aai]
      simp only [dJ,e1,e2] at h;cases id with
      |zero=>simp only [nth] at h; cases h; exact ⟨.row cs el,rfl,.inl ⟨qD,k1,hu.1⟩⟩
      |succ id=>exact gX hr k2 (by obtain ⟨x',y',e1',k1',Pm,k3'⟩:=hx.split; have:=aa1 e1' (by rw [k3,k3']); rw [this.2]; exact Pm) (by rw [← e2]; exact ub) hu.2 D5 id go h
    ·cases hg
   |_=>cases hg
 |.tok loc sz e :: g,b :: B,o :: G,l,l',hg,hw,hx,ub,hu,ht,id,go,h=>by
   cases o with
   |tok f bV e'=>
    change (bif aad sz bV&&aad e e' then kf g G else none)=some l at hg;change (decide (f=L0 vs loc)&&dK vs g B G)=true at ht;rw [aab] at ht;cases hm:(aad sz bV&&aad e e') with
    |false=>rw [hm] at hg; cases hg
    |true=>
     rw [hm] at hg;rw [aab] at hm;have q1:=aac hm.1;have q2:=aac hm.2;simp only [dJ] at h;cases id with
     |zero=>
      simp only [nth] at h;cases h;exact ⟨.tok f bV e',rfl,.inl ⟨of_decide_eq_true ht.1,q1.symm,q2.symm⟩⟩
     |succ id=>exact gX hg hw hx ub hu ht.2 id go h
   |_=>cases hg
 |.dead :: g,b :: B,o :: G,l,l',hg,hw,hx,ub,hu,ht,id,go,h=>by
   simp only [dJ] at h;have rV:kf g G=some l:=by cases o <;> exact hg
   have D5:dK vs g B G=true:=by cases o <;> exact ht
   cases id with
   |zero=>
    simp only [nth] at h;cases h;exact ⟨o,rfl,.inl (by cases o <;> trivial)⟩
   |succ id=>exact gX rV hw hx ub hu D5 id go h
 |.lp k :: g,b :: B,o :: G,l,l',hg,hw,hx,ub,hu,ht,id,go,h=>by
   simp only [dJ] at h;have rV:kf g G=some l:=by cases o <;> exact hg
   change (V5 k b o&&dK vs g B G)=true at ht;rw [aab] at ht;cases id with
   |zero=>
    simp only [nth] at h;cases h;exact ⟨o,rfl,.inr ⟨b,rfl,PX ht.1⟩⟩
   |succ id=>exact gX rV hw hx ub hu ht.2 id go h
 |.aY :: g,b :: B,o :: G,l,l',hg,hw,hx,ub,hu,ht,id,go,h=>by
   simp only [dJ] at h;have rV:kf g G=some l:=by cases o <;> exact hg
   change (Ct b o&&dK vs g B G)=true at ht;rw [aab] at ht;cases id with
   |zero=>
    simp only [nth] at h;cases h;exact ⟨o,rfl,.inl (JP ht.1)⟩
   |succ id=>exact gX rV hw hx ub hu ht.2 id go h
 |.map :: g,b :: B,o :: G,l,l',hg,hw,hx,ub,hu,ht,id,go,h=>by
   cases o with
   |map es=>
    change (match kf g G with
     |some r=>some (AV.list .ly 2 (ab es) :: r)
     |none=>none)=some l at hg
    change (bg es&&dK vs g B G)=true at ht;rw [aab] at ht;split at hg
    ·rename_i r hr;cases hg;cases l' with
     |nil=>exact hw.elim
     |cons a l'=>
      simp only [aG,aab] at hu;simp only [dJ,eH,aao] at h;cases id with
      |zero=>
       simp only [nth] at h;cases h;refine ⟨.map es,rfl,.inl (.inl ⟨?_,ht.1⟩)⟩;rw [rK,hx.2.1 ht.1];exact oS es
      |succ id=>exact gX hr hw.2 hx.2.2.2 ub hu.2 ht.2 id go h
    ·cases hg
   |_=>cases hg
 |.FA :: g,b :: B,o :: G,l,l',hg,hw,hx,ub,hu,ht,id,go,h=>by
   have D5:dK vs g B G=true:=by cases o <;> exact ht
   cases o with
   |gy s pos=>
    change (match kf g G with
     |some r=>some (AV.str s :: AV.int .i64 pos :: r)
     |none=>none)=some l at hg
    split at hg
    ·rename_i r hr;cases hg
     match l',hw,hx,hu,h with
     |[],hw,_,_,_=>exact hw.elim
     |[_],hw,_,_,_=>exact hw.2.elim
     |a :: a' :: l',hw,hx,hu,h=>
      simp only [aG,aab] at hu;simp only [dJ,eH,aao] at h;have e1:=hx.1 (by simp [AV.exact]);have e2:=hx.2.2.2.1 (by simp [AV.exact]);subst e1 e2;cases id with
      |zero=>
       simp only [nth] at h;cases h;exact ⟨.gy s pos,rfl,.inl ⟨rfl,by simp [AV.lz]⟩⟩
      |succ id=>exact gX hr hw.2.2 hx.2.2.2.2.2.2 ub hu.2.2 D5 id go h
    ·cases hg
   |_=>cases hg
 |.dZ sz e :: g,b :: B,o :: G,l,l',hg,hw,hx,ub,hu,ht,id,go,h=>by
   have D5:dK vs g B G=true:=by cases o <;> exact ht
   cases o with
   |dZ es bV e'=>
    change (match kf g G with
     |some r=>bif aad sz bV&&aad e e' then some (AV.list .ly bV es :: r) else none
     |none=>none)=some l at hg
    split at hg
    ·rename_i r hr;cases hm:(aad sz bV&&aad e e') with
     |false=>rw [hm] at hg; cases hg
     |true=>
     rw [hm] at hg;rw [aab] at hm;have q1:=aac hm.1;have q2:=aac hm.2;cases hg;cases l' with
     |nil=>exact hw.elim
     |cons a l'=>
      simp only [aG,aab] at hu;simp only [dJ,eH,aao] at h;cases id with
      |zero=>
       simp only [nth] at h;cases h;exact ⟨.dZ es bV e',rfl,.inl ⟨q1,q2,hx.2.2.1,ub.1.1⟩⟩
      |succ id=>exact gX hr hw.2 hx.2.2.2 ⟨ub.1.2,ub.2⟩ hu.2 D5 id go h
    ·cases hg
   |_=>cases hg
 |.bK sz e :: g,b :: B,o :: G,l,l',hg,hw,hx,ub,hu,ht,id,go,h=>by
   have D5:dK vs g B G=true:=by cases o <;> exact ht
   cases o with
   |bK fs bV e'=>
    change (match kf g G with
     |some r=>bif aad sz bV&&aad e e' then some (AV.list .ly 1 (cN fs) :: r) else none
     |none=>none)=some l at hg
    split at hg
    ·rename_i r hr;cases hm:(aad sz bV&&aad e e') with
     |false=>rw [hm] at hg; cases hg
     |true=>
     rw [hm] at hg;rw [aab] at hm;have q1:=aac hm.1;have q2:=aac hm.2;cases hg;cases l' with
     |nil=>exact hw.elim
     |cons a l'=>
      simp only [aG,aab] at hu;simp only [dJ,eH,aao] at h;cases id with
      |zero=>
       simp only [nth] at h;cases h;refine ⟨.bK fs bV e',rfl,.inl ⟨?_,q1.symm,q2.symm⟩⟩;rw [hx.2.1 (yL fs)];exact (vO fs).symm
      |succ id=>exact gX hr hw.2 hx.2.2.2 ub hu.2 D5 id go h
    ·cases hg
   |_=>cases hg
 |.tz :: g,b :: B,o :: G,l,l',hg,hw,hx,ub,hu,ht,id,go,h=>by
   have D5:dK vs g B G=true:=by cases o <;> exact ht
   cases o with
   |map es=>
    change (match kf g G with
     |some r=>some (AV.list .ly 2 (ab es) :: r)
     |none=>none)=some l at hg
    split at hg
    ·rename_i r hr;cases hg;cases l' with
     |nil=>exact hw.elim
     |cons a l'=>
      simp only [aG,aab] at hu;simp only [dJ,eH,aao] at h;cases id with
      |zero=>
       simp only [nth] at h;cases h;exact ⟨.map es,rfl,.inl (.inr ⟨a.ea,rK a,hx.2.2.1,ub.1.1⟩)⟩
      |succ id=>exact gX hr hw.2 hx.2.2.2 ⟨ub.1.2,ub.2⟩ hu.2 D5 id go h
    ·cases hg
   |_=>cases hg
 |.oQ rT :: g,b :: B,o :: G,l,l',hg,hw,hx,ub,hu,ht,id,go,h=>by
   obtain ⟨Jw,D5⟩:Ux b o=true∧dK vs g B G=true:=by
    rw [← aab];cases o <;> exact ht
   cases o with
   |oQ mid' k left cur t=>
    have qD:aam b=t:=by
     cases b <;> first | (cases Jw; done) | exact aac Jw
    change (match kf g G with
     |some r=>bif aad rT mid' then some (AV.int .i64 k :: AV.list .ly 1 (cN left) :: r) else none
     |none=>none)=some l at hg
    split at hg
    ·rename_i r hr;cases hm:aad rT mid' with
     |false=>rw [hm] at hg; cases hg
     |true=>
     rw [hm] at hg;have q1:=aac hm;subst q1;cases hg;have hmp:=ub.2;simp only [L4,aab] at hmp
     match l',hw,hx,hu,h with
     |[],hw,_,_,_=>exact hw.elim
     |[_],hw,_,_,_=>exact hw.2.elim
     |a :: a' :: l',hw,hx,hu,h=>
      simp only [aG,aab] at hu;simp only [dJ,eH,aao] at h;have e1:=hx.1 (by simp [AV.exact]);have e2:=hx.2.2.2.2.1 (yL left);subst e1;cases id with
      |zero=>
       simp only [nth] at h;cases h;refine ⟨.oQ rT k left cur t,rfl,.inl ⟨rfl,by simp [AV.lz],?_,qD.symm,jZ hmp.1,rfl⟩⟩;rw [e2];exact (vO left).symm
      |succ id=>exact gX hr hw.2.2 hx.2.2.2.2.2.2 ⟨ub.1,hmp.2⟩ hu.2.2 D5 id go h
    ·cases hg
   |_=>cases hg
theorem da {vs:List AV}:∀ {g:List GL} {B:List GO} {l:List AV},(dJ vs g B l).length=g.length
 |[],_,_=>rfl
 |.row m :: g,B,l=>by simp [dJ,da (g:=g)]
 |.tok _ _ _ :: g,B,l=>by simp [dJ,da (g:=g)]
 |.dead :: g,B,l=>by simp [dJ,da (g:=g)]
 |.lp _ :: g,B,l=>by simp [dJ,da (g:=g)]
 |.aY :: g,B,l=>by simp [dJ,da (g:=g)]
 |.map :: g,B,l=>by simp [dJ,da (g:=g)]
 |.dZ _ _ :: g,B,l=>by simp [dJ,da (g:=g)]
 |.FA :: g,B,l=>by simp [dJ,da (g:=g)]
 |.bK _ _ :: g,B,l=>by simp [dJ,da (g:=g)]
 |.tz :: g,B,l=>by simp [dJ,da (g:=g)]
 |.oQ _ :: g,B,l=>by simp [dJ,da (g:=g)]
theorem gI.lok {R0:ak} {w0:World} {Uz:RO} {KK go' go:GO} {ro:RO} (e:Ext R0 w0 R w) (h0:gI R0 w0 KK Uz) (hle:cJ Uz ro) (h:gI R' w go' ro) (k:LOk KK go' go):gI R w go ro:=by
 cases KK with
 |loop b p fn sl n ps tj bd d dn=>
  cases go' with
  |loop b' p' fn' Y1 n' ps' PY Y4 d' dn'=>
   change go=_ at k;subst k;cases Uz with
   |ck bb=>
    simp only [cJ] at hle;subst hle;obtain ⟨⟨r0,db0,l1,l2,l3,l4,l5,l6,l7,l8,l9,l10⟩,l11⟩:=h0;obtain ⟨⟨r,db,m1,m2,m3,m4,m5,m6,m7,m8,m9,m10⟩,m11⟩:=h;obtain ⟨r1,q1,q2,q3,q4,q5,q6⟩:=e.lp bb r0 l1;have hr:r1=r:=by
     have:=q1.symm.trans m1;injection this with this;injection this with this
    subst hr;exact ⟨⟨r1,db0,q1,m2,m3,by rw [q2]; exact pj.mono e l4,by rw [q2]; exact l5,by rw [q3]; exact l6,by rw [q4]; exact l7,by rw [q5]; exact l8,by rw [q6]; exact l9,e.ck l10⟩,l11⟩
   |none=>exact h0.elim
   |bU=>exact h0.elim
   |tok _ _ _=>exact h0.elim
   |bK _=>exact h0.elim
  |_=>exact k.elim
 |_=>exact k.elim
theorem dB.cut {n:Nat}:∀ {es:List (AV × AV)} {ax:List MapEntry},fW (ab es)=true→dB R w es ax→dB (R.cut n) w es ax
 |[],[],_,_=>trivial
 |[],_ :: _,_,h=>h.elim
 |_ :: _,[],_,h=>h.elim
 |(k,v) :: es,en :: ax,he,h=>by
  simp only [ab,fW,AV.exact,aah,aab] at he;exact ⟨h.1.move (pT R n) (iO n (ol he.1.1)),h.2.1.move (pT R n) (iO n (ol he.1.2)),dB.cut he.2 h.2.2⟩
theorem Ej {n:Nat} {v:AV} (h:v.under n=true) (k:v.a8=true):aG n v.cells=true:=by
 cases v <;> first | exact h | (simp [AV.a8] at k; done) | (simp only [AV.cells,aG,aah]; exact h)
theorem yU {n sz:Nat}:∀ {es es':List AV},j3 es es'→dM sz es→aG n es'=true→dM sz es'∧cW (aq es) (aq es')∧aG n (aq es')=true
 |[],[],_,_,_=>⟨(fun e he=>by simp at he),trivial,rfl⟩
 |e :: es,e' :: es',h,k,A0=>by
  obtain ⟨h1,h2⟩:=h;simp only [aG,aab] at A0;obtain ⟨q1,q2⟩:=k e (by simp);obtain ⟨i1,i2,i3⟩:=yU h2 (fun x hx=>k x (by simp [hx])) A0.2;have hc:=h1.cells q2;have ht:e'.a8=true:=by rw [h1.bq,q2]
  refine ⟨fun x hx=>?_,hc.append i2,by show aG n (e'.cells++aq es')=true; rw [fx,Ej A0.1 ht,i3]; rfl⟩;rcases aaF.1 hx with rfl|hx
  ·exact ⟨by rw [← hc.length,q1],ht⟩
  ·exact i1 x hx
 |[],_ :: _,h,_,_=>h.elim
 |_ :: _,[],h,_,_=>h.elim
theorem oY.head {l r:List AV} (h:oY l r):(AV.ea (eH l)).length=(AV.ea (eH r)).length:=by
 cases l <;> cases r <;> first | rfl | exact h.1 | exact h.elim
theorem oY.tail {l r:List AV} (h:oY l r):oY l.tail r.tail:=by
 cases l <;> cases r <;> first | exact h | exact h.2 | exact h.elim
theorem dc:∀ (g:List GL) {l r:List AV} (i:Nat),oY l r→kO g l i=kO g r i
 |[],_,_,_,_=>rfl
 |.dZ _ _ :: g,l,r,0,h=>h.head
 |.dZ _ _ :: g,l,r,i+1,h=>dc g i h.tail
 |.row _ :: g,l,r,0,h=>rfl
 |.row n :: g,l,r,i+1,h=>dc g i (h.drop n)
 |.map :: g,l,r,0,h=>rfl
 |.map :: g,l,r,i+1,h=>dc g i h.tail
 |.FA :: g,l,r,0,h=>rfl
 |.FA :: g,l,r,i+1,h=>dc g i h.tail.tail
 |.bK _ _ :: g,l,r,0,h=>rfl
 |.bK _ _ :: g,l,r,i+1,h=>dc g i h.tail
 |.tz :: g,l,r,0,h=>rfl
 |.tz :: g,l,r,i+1,h=>dc g i h.tail
 |.oQ _ :: g,l,r,0,h=>rfl
 |.oQ _ :: g,l,r,i+1,h=>dc g i h.tail.tail
 |.tok _ _ _ :: g,l,r,0,h=>rfl
 |.tok _ _ _ :: g,l,r,i+1,h=>dc g i h
 |.dead :: g,l,r,0,h=>rfl
 |.dead :: g,l,r,i+1,h=>dc g i h
 |.lp _ :: g,l,r,0,h=>rfl
 |.lp _ :: g,l,r,i+1,h=>dc g i h
 |.aY :: g,l,r,0,h=>rfl
 |.aY :: g,l,r,i+1,h=>dc g i h
theorem dB.aaq {n:Nat}:∀ {es:List (AV × AV)} {l:List AV} {ax:List MapEntry},j3 (ab es) l→aG n l=true→dB R w es ax→dB (R.cut n) w (aK l) ax
 |[],[],[],_,_,_=>trivial
 |[],[],_ :: _,_,_,h=>h.elim
 |[],_ :: _,_,h,_,_=>h.elim
 |(_,_) :: _,[],_,h,_,_=>h.elim
 |(_,_) :: _,_ :: _,[],_,_,h=>h.elim
 |(k,v) :: es,a :: l,en :: ax,hd,hu,h=>by
  obtain ⟨d1,d2⟩:=hd;simp only [aG,aab] at hu;have hc:=d1.cells rfl;have hl:[k,v].length=a.cells.length:=hc.length;cases a with
  |agg cs=>
   match cs,hc,hl with
   |[k',v'],hc,_=>
    have V6:aG n [k',v']=true:=hu.1;simp only [aG,aah,aab] at V6;exact ⟨(hc.1 _ _ _ h.1).move (pT R n) V6.1,(hc.2.1 _ _ _ h.2.1).move (pT R n) V6.2,dB.aaq d2 hu.2 h.2.2⟩
   |[],_,hl=>simp [AV.cells] at hl
   |[_],_,hl=>simp [AV.cells] at hl
   |_ :: _ :: _ :: _,_,hl=>simp [AV.cells] at hl
  |_=>simp [AV.cells] at hl
theorem gI.gok {n:Nat} {go go':GO} {ro:RO} (h:gI R w go' ro) (k:GOk n go' go):gI (R.cut n) w go ro:=by
 cases go with
 |dead=>
  cases ro with
  |none=>trivial
  |bU=>trivial
  |ck b=>exact h.lt rfl
  |tok f b c=>exact h.lt rfl
  |bK ts=>exact fun j f b c hj=>h.lt ⟨j,f,c,hj⟩
 |row cs el=>
  cases go' with
  |row cs' el'=>
   cases ro with
   |ck b=>
    obtain ⟨vs,h1,h2,h3,h4⟩:=h;obtain ⟨rfl,k⟩:=k;exact ⟨vs,h1,(k.1.rel h2).move (pT R n) k.2,h3,h4⟩
   |none=>exact h.elim
   |bU=>exact h.elim
   |tok _ _ _=>exact h.elim
   |bK _=>exact h.elim
  |_=>exact k.elim
 |tok f sz e=>
  cases go' with
  |tok f' bV e'=>
   obtain ⟨rfl,rfl,rfl⟩:=k;cases ro with
   |ck b=>exact h.elim
   |none=>exact h.elim
   |bU=>exact h
   |tok _ _ _=>exact h
   |bK _=>exact h.elim
  |_=>exact k.elim
 |defers a=>
  cases go' with
  |defers b=>
   change b=a at k;subst k;cases ro <;> exact h
  |_=>exact k.elim
 |map es=>
  cases go' with
  |map es'=>
   cases ro with
   |ck b=>
    obtain ⟨ax,clock,h1,h2,h3⟩:=h;rcases k with ⟨rfl,k2⟩|⟨l,rfl,k2,k3⟩
    ·exact ⟨ax,clock,h1,dB.cut k2 h2,h3⟩
    ·exact ⟨ax,clock,h1,dB.aaq k2 k3 h2,h3⟩
   |none=>exact h.elim
   |bU=>exact h.elim
   |tok _ _ _=>exact h.elim
   |bK _=>exact h.elim
  |_=>exact k.elim
 |bK fs sz e=>
  cases go' with
  |bK Vp bV e'=>
   obtain ⟨rfl,rfl,rfl⟩:=k;cases ro <;> exact h
  |_=>exact k.elim
 |oQ rT m left cur t=>
  cases go' with
  |oQ mid' m' Bb Dx t'=>
   obtain ⟨rfl,rfl,rfl,rfl,k,rfl⟩:=k;cases ro with
   |ck b=>obtain ⟨bm,seen,c0,h1,h2,h3,h4,h5,h6,_⟩:=h; exact ⟨bm,seen,c0,kh.2 ⟨k,h1⟩,h2,h3,h4,h5,h6,fun i hi=>by cases hi⟩
   |none=>exact h.elim
   |bU=>exact h.elim
   |tok _ _ _=>exact h.elim
   |bK _=>exact h.elim
  |_=>exact k.elim
 |gy l p=>
  cases go' with
  |gy l' p'=>
   obtain ⟨rfl,rfl⟩:=k;cases ro <;> exact h
  |_=>exact k.elim
 |dZ es sz e=>
  cases go' with
  |dZ es' bV e'=>
   obtain ⟨rfl,rfl,k,kc⟩:=k;cases ro with
   |ck b=>exact h.elim
   |none=>exact h.elim
   |bK _=>exact h.elim
   |bU=>
    have he:es'=[]:=h;subst he;exact List.eq_nil_of_length_eq_zero k.length.symm
   |tok f b c=>
    obtain ⟨h0,h1,cur,vs,h2,h3,h4,h5,h6,h7,h8,h9⟩:=h;obtain ⟨k1,k2,k3⟩:=yU k h1 kc;exact ⟨h0.trans k.length,k1,cur,vs,h2,h3,h4,h5,h6,(k2.rel h7).move (pT R n) k3,h8,h9⟩
  |_=>exact k.elim
 |_=>cases go' <;> exact k.elim
theorem rn.ids:∀ {l:List Nat} {ds:List Deferred},rn R l ds→∀ id∈l,id < R.obj.length
 |[],[],_,id,hi=>by simp at hi
 |x :: l,d :: ds,h,id,hi=>by
  obtain ⟨⟨b,h1,_⟩,h2⟩:=h;rcases aaF.1 hi with rfl|hi
  ·exact ca h1
  ·exact rn.ids h2 id hi
 |[],_ :: _,h,_,_=>h.elim
 |_ :: _,[],h,_,_=>h.elim
theorem rn.cut {n:Nat}:∀ {l:List Nat} {ds:List Deferred},rn R l ds→(∀ id∈l,id < n)→rn (R.cut n) l ds
 |[],[],_,_=>trivial
 |x :: l,d :: ds,h,hi=>by
  obtain ⟨⟨b,h1,h3⟩,h2⟩:=h;exact ⟨⟨b,kh.2 ⟨hi x (by simp),h1⟩,h3⟩,rn.cut h2 fun id hm=>hi id (by simp [hm])⟩
 |[],_ :: _,h,_=>h.elim
 |_ :: _,[],h,_=>h.elim
theorem vS {n:Nat} {tmps:Array Value} {ae base:bj} (hT:pj R w β ae tmps):∀ {l:List (Tmp × Nat × Nat)},Ik ae l=true→pj (R.cut n) w β base tmps→pj (R.cut n) w β (pS l base) tmps
 |[],_,h=>h
 |(t,k,o) :: l,hl,h=>fun i hi=>by
  simp only [Ik,aab] at hl;simp only [pS] at hi ⊢;by_cases e:t=i
  ·subst e;rw [aA];have h1:=hl.1;split at h1
   ·rename_i k' o' hk;rw [aab] at h1;have e1:=aac h1.1;have e2:=aac h1.2;subst e1 e2;obtain ⟨c,q1,q2⟩:=hT t (by rw [hk]; simp);rw [hk] at q2;exact ⟨c,q1,q2⟩
   ·cases h1
  ·rw [aS e] at hi ⊢;exact vS hT hl.2 h i hi
theorem cU.Df {t:cU} {v:t.ps.T} (hs:a7 s s') (h0:bt E R w β s a) (h:bt E R' w' β' s' a') (st:Step R w β s.boxes R' w' β' s'.boxes) (hd:t.dec s s'=some v) :
  bt E (R'.cut s.G.length) w' β' (t.st s v) a'∧Step R w β s.boxes (R'.cut s.G.length) w' β' (t.st s v).boxes:=by
 have hlen:=h0.g.len;unfold cU.dec at hd;cases eN:t.ok s s' with
 |false=>rw [eN] at hd; cases hd
 |true=>
 rw [eN] at hd;simp only [cond_true] at hd;unfold cU.ok at eN;simp only [aab] at eN;obtain ⟨⟨⟨⟨⟨k1,k2⟩,k3⟩,k4⟩,k5,k7,k8⟩,k6⟩:=eN;obtain ⟨pre,Aw⟩:=hs.sl;obtain ⟨preB,UA⟩:=hs.bx;rw [Aw,Ef] at k1;rw [UA,Ef] at k2;have k3:=Il k3;have k4:=aac k4;split at hd
 ·rename_i la lb lc g1 g2 g3;cases hv:t.ps.JN (kO t.g lc) (la++(lb++lc)) with
  |none=>rw [hv] at hd; cases hd
  |some v'=>
  rw [hv] at hd;simp only [Option.bind_some] at hd;cases Fx:dK (t.ru v') t.g s.G s'.G with
  |false=>rw [Fx] at hd; cases hd
  |true=>
  rw [Fx] at hd;cases hd;have lsl:∀ {ts:List Tmp} {l:List AV},yM s'.ae ts=some l→l.length=ts.length:=by
   intro ts
   induction ts with
   |nil=>intro l hl; simp only [yM] at hl; cases hl; rfl
   |cons t ts ih=>
    intro l hl;unfold yM at hl;split at hl
    ·split at hl
     ·rename_i hr;cases hl;simp [ih hr]
     ·cases hl
    ·cases hl
  have lbx:∀ {bx:List (Nat × Nat)} {l:List AV},yN s'.boxes bx=some l→l.length=Cu bx:=by
   intro bx
   induction bx with
   |nil=>intro l hl; simp only [yN] at hl; cases hl; rfl
   |cons x bx ih=>
    obtain ⟨k,m⟩:=x;intro l hl;unfold yN at hl;split at hl
    ·split at hl
     ·rename_i cs _ _ r hr;cases hm:aad cs.length m with
      |false=>rw [hm] at hl; cases hl
      |true=>
       rw [hm] at hl;cases hl;simp only [Cu,List.length_append,ih hr,aac hm]
     ·cases hl
    ·cases hl
  obtain ⟨hw,hex⟩:=t.ps.PV _ hv;have UB:t.ru v=t.ps.kN (kO t.g lc) v:=by
   unfold cU.ru;congr 1;funext i;have hl:=hex.aal.trans (t.ps.pQ (kO t.g lc) (fun _=>0) v);have LR:=(hl.drop t.sl.length).drop (Cu t.bx);rw [← lsl g1,aai,← lbx g2,aai,lsl g1,lbx g2] at LR;exact (dc t.g i LR).symm
  have hu:aG s.G.length (t.ru v)=true:=by
   rw [UB,t.ps.JO _ hv];exact t.ps.GN _ k5 _
  rw [← UB] at hw hex;have V7:∃ xa xb xc,t.ru v=xa++(xb++xc)∧cW la xa∧cW lb xb∧cW lc xc∧xa.length=la.length∧xb.length=lb.length∧KN lc xc:=by
   obtain ⟨xa,r,h1,h2,h3,h4⟩:=hw.split;obtain ⟨xb,xc,rfl,h6,h7,h8⟩:=h3.split;rw [h1] at hex;obtain ⟨ya,yr,g1,_,g3,g4⟩:=hex.split;obtain ⟨_,rfl⟩:=aa1 g1 (by rw [h4,g4]);obtain ⟨yb,yc,k1,_,k3,k4⟩:=g3.split;obtain ⟨_,rfl⟩:=aa1 k1 (by rw [h8,k4]);exact ⟨xa,xb,xc,h1,h2,h6,h7,h4,h8,k3⟩
  obtain ⟨xa,xb,xc,hx,wa,wb,wc,la1,lb1,exc⟩:=V7;have V8:aG s.G.length xa=true∧aG s.G.length xb=true∧aG s.G.length xc=true:=by
   rw [hx,fx,fx] at hu;simp only [aab] at hu;exact ⟨hu.1,hu.2.1,hu.2.2⟩
  have e1:(t.ru v).drop t.sl.length=xb++xc:=by rw [hx,← lsl g1,← la1,aai]
  have e2:(xb++xc).drop (Cu t.bx)=xc:=by rw [← lbx g2,← lb1,aai]
  have ub:yS s.G.length t.g xc:=by
   have hf:=((aM.Ei s.G.length _ t.ps v).drop t.sl.length).drop (Cu t.bx) (l:=(t.ru v).drop t.sl.length);rw [e1,e2] at hf;exact fI t.g k7 hf
  have old:∀ {l:List AV} {cs:List Value},aN R w l cs→aG s.G.length l=true:=fun hr=>hr.under (by omega)
  have mv:=pT R' s.G.length;have hbx:∀ k cs,dA s'.boxes k=some cs→yR R' w' β' k cs:=fun k cs hk=>h.b.box k cs hk
  have bok:∀ k cs,dA (vP t.bx (xb++xc) s.boxes) k=some cs→yR (R'.cut s.G.length) w' β' k cs∧∃ cs',dA s'.boxes k=some cs':=fun k cs hk=>by
   refine Eh (K:=fun _=>False) hbx g2 wb V8.2.1 (fun k cs _ h1 h2=>?_) k cs (fun h=>h) hk;refine ⟨by rw [UA]; exact Ee h1 h2 k2,?_⟩;obtain ⟨⟨vs,el,_,h4,_⟩,_⟩:=h0.b.box k cs h2;exact old h4
  have stG:(t.st s v).G=dJ (t.ru v) t.g s.G xc:=by simp only [cU.st,e1,e2]
  have stB:(t.st s v).boxes=vP t.bx (xb++xc) s.boxes:=by simp only [cU.st,e1]
  have stS:(t.st s v).ae=pS t.Y2 (pR t.sl (xa++(xb++xc)) (yO t.W s.ae)):=by simp only [cU.st,hx]
  have ext:Ext R w (R'.cut s.G.length) w':=⟨st.ext.I,st.ext.cell,fun id ro hi=>by
   obtain ⟨mO,h1,h2⟩:=st.ext.obj id ro hi;exact ⟨mO,kh.2 ⟨by have:=ca hi; omega,h1⟩,h2⟩,st.ext.lp⟩
  refine ⟨⟨⟨?_,fun id go ro h1 h2=>?_,fun i j ri rj b h1 h2=>h.g.inj i j ri rj b (kh.1 h1).2 (kh.1 h2).2,h.g.wf,fun g cs hg=>(h.g.cr g cs hg).move mv (cF _ (E.pg g cs hg)),h.g.lo⟩,?_,?_,?_,?_⟩,?_⟩
  ·rw [stG,da,k4];have:=h.g.len;have h3:s.G.length≤R'.obj.length:=by
    rcases Nat.lt_or_ge R'.obj.length s.G.length with cm|lM
    ·exfalso;have hx:R'.obj.length < R.obj.length:=by omega
     obtain ⟨mO,h1,_⟩:=st.ext.obj R'.obj.length R.obj[R'.obj.length] (by rw [bi]; exact aa0 hx);have:=ca h1;omega
    ·exact lM
   simp [ak.cut];omega
  ·rw [stG] at h1;obtain ⟨go',h3,h4⟩:=gX g3 wc exc ⟨ub,k8⟩ V8.2.2 Fx id go h1;rcases h4 with h4|⟨KK,h5,h4⟩
   ·exact (h.g.obj id go' ro h3 (kh.1 h2).2).gok h4
   ·have cm:=ca h5;rw [← hlen] at cm;obtain ⟨Uz,h6⟩:∃ Uz,nth R.obj id=some Uz:=⟨R.obj[id],by rw [bi]; exact aa0 cm⟩;obtain ⟨mO,h7,h8⟩:=ext.obj id Uz h6;have:mO=ro:=Option.some.inj (h7.symm.trans h2);subst this;exact gI.lok ext (h0.g.obj id KK Uz h5 h6) h8 (h.g.obj id go' mO h3 (kh.1 h2).2) h4
  ·rw [stB];refine ⟨fun k cs hk=>(bok k cs hk).1,fun k k' cs cs' hk iJ he=>?_⟩;obtain ⟨_,c1,Cy⟩:=bok k cs hk;obtain ⟨_,c2,PM⟩:=bok k' cs' iJ;exact h.b.inj k k' c1 c2 Cy PM he
  ·rw [stS];have hT:yP (R'.cut s.G.length) w' β' (fun _=>False) (pR t.sl (xa++(xb++xc)) (yO t.W s.ae)) a'.tmps:=by
    refine vQ mv h.t g1 (l':=xa) (r:=lb++lc) (r':=xb++xc) (wa.append (wb.append wc)) la1.symm V8.1 (yQ fun i hi hn=>?_);have hi1:Y3 t.sl t.W i=false:=by
     simp only [Y3,Bool.or_eq_false_iff];refine ⟨?_,?_⟩
     ·cases hc:Po t.sl i with
      |false=>rfl
      |true=>exact absurd (.inr (.inl (Cv.1 hc))) hi
     ·cases hc:Po t.W i with
      |false=>rfl
      |true=>exact absurd (.inl (Cv.1 hc)) hi
    have hk:=Cx hi1 k1;rw [← Aw] at hk;obtain ⟨c,h1,h2⟩:=h.t i (by rw [hk]; exact hn);rw [hk] at h2;refine ⟨c,h1,?_⟩;obtain ⟨c0,_,h4⟩:=h0.t i hn;revert h2 h4;cases lk s.ae i with
    |none=>exact fun _ _=>trivial
    |lp k off=>exact fun h2 _=>h2
    |v x=>exact fun h2 h4=>Rel.move mv (Rel.under (by omega) h4) h2
   exact vS h.t k6 (fun i hi=>hT i (fun h=>h) hi)
  ·show a'.tmps.size=s.n;rw [h.n,hs.n]
  ·show rn _ s.marks a'.defers;have:=h.d;rw [k3] at this;exact this.cut fun id hid=>by have:=h0.d.ids id hid; omega
  ·refine ⟨ext,st.os,st.tape,st.output,st.size,st.aY,fun b hb ho=>st.own b hb ?_,st.im⟩;rcases ho with ho|⟨k,cs,hk,rfl⟩
   ·exact .inl (Eg ho)
   ·rw [stB] at hk;obtain ⟨_,c1,Cy⟩:=bok k cs hk;exact .inr ⟨k,c1,Cy,rfl⟩
 ·cases hd
end Df
end Go.Am
namespace Go.Am
open Go
def ik:bj→bj
 |[]=>[]
 |.put d (.lp _ _) :: l=>.put d .none :: ik l
 |.put d x :: l=>.put d x :: ik l
 |.kill _ :: l=>ik l
def SV.Az:SV→SV
 |.lp _ _=>.none
 |x=>x
theorem uI (t:Nat):∀ l:bj,lk (ik l) t=(lk l t).Az
 |[]=>rfl
 |.put d x :: l=>by
  cases x <;> simp only [ik] <;> by_cases e:d=t <;> first | (subst e; rw [aA,aA]; rfl) | (rw [aS e,aS e]; exact uI t l)
 |.kill d :: l=>by
  simp only [ik,lk];rw [uI t l];cases lk l t with
  |lp k off=>
   by_cases e:k=d
   ·subst e; simp [SV.Az]
   ·simp [nS e,SV.Az]
  |_=>rfl
theorem om:∀ l:bj,HM (ik l)=true
 |[]=>rfl
 |.put d x :: l=>by
  cases x <;> simp only [ik,HM] <;> exact om l
 |.kill d :: l=>by simp only [ik]; exact om l
def rfQ (E:Env) (Q:Exit→St→Prop) (s:St) (G':List GO):Prop:=
 match nth G' (s.G.length+1) with
 |some (.loop busy pending _ _ _ _ _ _ _ done)=>(busy=false∨done=true) ∧
  match pending with
  |none=>Q .normal ⟨s.ae,s.boxes,aI G' (s.G.length+1) .dead,s.G.length :: s.marks,s.ro,s.n⟩
  |some c=>fS E c Q ⟨s.ae,s.boxes,aI G' (s.G.length+1) .dead,s.G.length :: s.marks,s.ro,s.n⟩
 |_=>False
theorem GP {busy done:Bool} (h:busy=false∨done=true):(if done=true then LoopState.done else if busy=true then abD else LoopState.ready)≠abD:=by
 rcases h with rfl|rfl
 ·cases done <;> simp
 ·simp
theorem fS.rangeFunc {E:Env} {Q:Exit→St→Prop} {s:St} (fp:Nat) {g:Operand} {ps:Array Tmp} {assign body:Code} (b9:s.ro=none) {f:FuncId} {first cap:List AV} (hg:bP E s.ae g=.v (.fn f first cap))
  (h:cG E f (first++[.yield (s.G.length+1)]++cap) (s.G++[.defers true]++[.loop false none fp (ik s.ae) s.n ps.toList assign body s.G.length false]) (fun _ G'=>rfQ E Q s G')) :
  fS E (.rangeFunc g ps assign body) Q s:=fun R w β a F hr hf=>by
 rw [b9] at hf;have hf':F=aaZ:=hf;subst hf';refine wpIn_rangeFunc fun fn _=>?_
 have rg:=aW hr g;rw [hg] at rg;have rg':Rel R w (.fn f first cap) (a.eval g):=rg
 -- the block for the deferred calls
 have Jx:gI (R.add (.ck w.heap.size)) (w.alloc (.deferred (some []))) (.defers true) (.ck w.heap.size):=heap_alloc_new w _;have h1:=hr.mr (.deferred (some [])) (.defers true) (.ck w.heap.size) (by exact fun _ h=>h) Jx;have s1:=c9 hr (.deferred (some [])) (.ck w.heap.size) (by exact fun _ h=>h);have e7:(w.alloc (.deferred (some []))).heap.size=w.heap.size+1:=by simp
 generalize hw1:w.alloc (.deferred (some []))=w1 at *;generalize hR1:R.add (.ck w.heap.size)=R1 at *
 -- the loop's record
 let wG:Loop:={ state:=.ready,pending:=none,fn:=fn,tmps:=a.tmps,params:=ps,assign:=assign,body:=body,defers:=w.heap.size }
 have Ln:nth R1.obj s.G.length=some (.ck w.heap.size):=by rw [← hR1]; exact gl hr _
 have e2:Ext R1 w1 (R1.add (.ck w1.heap.size)) (w1.alloc (.loop wG)):=gU h1.g.wf _ _;have VO:gI (R1.add (.ck w1.heap.size)) (w1.alloc (.loop wG)) (.loop false none fp (ik s.ae) s.n ps.toList assign body s.G.length false) (.ck w1.heap.size):=by
  refine ⟨⟨wG,w.heap.size,heap_alloc_new w1 _,rfl,rfl,fun i hi=>?_,hr.n,by simp [wG],rfl,rfl,rfl,e2.ck Ln⟩,om _⟩;rw [uI] at hi ⊢;have cS:lk s.ae i≠.none:=fun e=>hi (by rw [e]; rfl)
  obtain ⟨c,k1,k2⟩:=hr.t i cS;refine ⟨c,k1,?_⟩;cases hx:lk s.ae i with
  |none=>exact absurd hx cS
  |lp k off=>rw [hx] at hi; exact absurd rfl hi
  |v x=>
   rw [hx] at k2;exact Rel.mono (s1.ext.trans e2) (show Rel R w x c from k2)
 have h2:=h1.mr (.loop wG) (.loop false none fp (ik s.ae) s.n ps.toList assign body s.G.length false) (.ck w1.heap.size) (by exact fun _ h=>h) VO;have s2:=c9 h1 (.loop wG) (.ck w1.heap.size) (by exact fun _ h=>h);have aar:nth (R1.add (.ck w1.heap.size)).obj (s.G.length+1)=some (.ck w1.heap.size):=by
  have:=gl h1 (.ck w1.heap.size);simpa [St.dU] using this
 have st:=s1.trans s2;generalize hR2:R1.add (.ck w1.heap.size)=R2 at *;generalize hfv:a.eval g=fv at rg';cases rg' with
 | @fn _ _ _ vs us q1 q2=>
 refine ⟨w.heap.size+1,[{ target:=.collected w.heap.size,args:=#[] }],w1.alloc (.loop wG),{ target:=.fn (.func f) ⟨us⟩,args:=⟨vs⟩++#[.func (.yield (w.heap.size+1)) #[] #[]] },w1.alloc (.loop wG),f,
  ⟨vs++[.func (.yield (w.heap.size+1)) #[] #[]]++us⟩,w1.alloc (.loop wG),?_,?_,?_,?_,?_,?_⟩
 ·have:aaZ.round=none:=rfl;rw [this,run_enterLoop_outer,hw1]
 ·simp only [resolve,hfv,Deferred.ofValue,Sem.run_pure];simp [Act.eval]
 ·intro f' _;exact trivial
 ·have:=n5 (P:=E.P) h.1 (⟨vs++[.func (.yield (w.heap.size+1)) #[] #[]]++us⟩) (w1.alloc (.loop wG));simpa [invoke] using this
 ·intro hc; cases hc
 ·have hG:(s.dU (.defers true)).dU (.loop false none fp (ik s.ae) s.n ps.toList assign body s.G.length false)=s.cH (s.G++[.defers true]++[.loop false none fp (ik s.ae) s.n ps.toList assign body s.G.length false]):=rfl;have Y5:Rel R2 (w1.alloc (.loop wG)) (.yield (s.G.length+1)) (.func (.yield (w.heap.size+1)) #[] #[]):=by
   rw [← e7];exact .yield aar
  refine (h.2 R2 (w1.alloc (.loop wG)) _ h2.g ((((q1.mono st.ext).append (.one Y5)).append (q2.mono st.ext)))).mono ?_;intro e w3 he;cases e with
  |panicked c=>exact he.elim
  |outgrown=>exact he.elim
  |returned c=>
   obtain ⟨r,G',R3,hQ,eD,hg3,st3⟩:=he;obtain ⟨p1,p2⟩:=h2.uC hg3 st3;unfold rfQ at hQ;split at hQ
   ·rename_i busy pending ff sl nn pp tj bd dd done V9;obtain ⟨hbd,hQ⟩:=hQ;have aas:nth R3.obj (s.G.length+1)=some (.ck w1.heap.size):=st3.ext.ck aar;obtain ⟨⟨r3,db,l1,l2,l3,_,_,_,_,_,_,_⟩,_⟩:=p1.g.obj _ _ _ V9 aas;have Wa:r3.state≠.busy:=by rw [l2]; exact GP hbd
    have l1':w3.heap[w.heap.size+1]?=some (.loop r3):=by rw [← e7]; exact l1
    refine ⟨r3.pending,_,run_endLoop l1' Wa,?_⟩;rw [l3]
    -- the record is dead
    have aat:nth R3.obj s.G.length=some (.ck w.heap.size):=st3.ext.ck (by rw [← hR2] at e2 ⊢; exact e2.ck Ln);have key:∀ x:Obj,qG x→(∀ r,Obj.loop r3=.loop r→∃ r',x=.loop r'∧sS r r')→bt E R3 (World.put w3 w1.heap.size x) β ⟨s.ae,s.boxes,aI G' (s.G.length+1) .dead,s.G.length :: s.marks,s.ro,s.n⟩ { a with defers:=[{ target:=.collected w.heap.size,args:=#[] }]++a.defers }∧Step R w β s.boxes R3 (World.put w3 w1.heap.size x) β s.boxes:=fun x hx hlx=>by
     obtain ⟨z1,z2⟩:=p1.setObj (x':=x) (go':=.dead) aas l1 trivial hx hlx (show w1.heap.size < _ by simp [World.put]; exact bl l1);exact ⟨⟨z1.g,z1.b,z1.t,z1.n,⟨⟨w.heap.size,aat,rfl⟩,z1.d⟩⟩,(st.trans p2).trans z2⟩
    obtain ⟨z1,z2⟩:=key (.loop { r3 with state:=.exhausted,pending:=pending }) trivial (fun r e=>⟨_,rfl,by cases e; exact ⟨rfl,rfl,rfl,rfl,rfl⟩⟩);rw [e7] at z1 z2;cases pending with
    |none=>exact ⟨_,R3,β,hQ,z1,z2,rfl⟩
    |some c=>
     refine wpIn_mono (hQ R3 _ β _ aaZ z1 (by show bY R3 s.ro aaZ; rw [b9]; rfl)) ?_;rintro e a'' Ui ⟨DA,Py,YY,VQ,Cj,vI,Bg⟩;exact ⟨DA,Py,YY,VQ,Cj,z2.trans vI,Bg⟩
   ·exact hQ.elim
def GQ (id:Nat) (Q:Bool→List GO→Prop):Exit→St→Prop:=fun e s=>match nth s.G id with
 |some (.loop _ _ fn sl n ps tj bd d _)=>match e with
  |.normal=>Q true (aI s.G id (.loop false none fn sl n ps tj bd d false))
  |.ret=>Q false (aI s.G id (.loop false (some .ret) fn sl n ps tj bd d true))
  |.exit i=>Q false (aI s.G id (.loop false (some (.exit i)) fn sl n ps tj bd d true))
  |_=>False
 |_=>False
def Cz (E:Env) (id:Nat) (body:Code) (Q:Bool→List GO→Prop):Exit→St→Prop:=fun e s=>match e with
 |.normal=>match nth s.G id with
  |some (.loop false p fn sl n ps tj bd d false)=>fS E body (GQ id Q) (s.cH (aI s.G id (.loop true p fn sl n ps tj bd d false)))
  |_=>False
 |_=>False
def yV:List Tmp→List AV→bj→bj
 |t :: ts,a :: l,r=>yV ts l (.put t (.v a) :: r)
 |_,_,r=>r
def St.round (id:Nat) (ae:bj) (n:Nat) (G:List GO):St:=⟨ae,[],G,[],some id,n⟩
theorem yW {R:ak} {w:World} {β:Nat→Nat}:∀ {ts:List Tmp} {l:List AV} {cs:List Value} {r:bj} {tmps:Array Value},pj R w β r tmps→aN R w l cs→l.length=ts.length→(∀ t∈ts,t < tmps.size) →
  pj R w β (yV ts l r) ((ts.zip cs).foldl (fun tmps (t,a)=>tmps.setIfInBounds t a) tmps)
 |[],[],_,_,_,h,.nil,_,_=>h
 |t :: ts,a :: l,c :: cs,r,tmps,h,.cons hx hl,hlen,ht=>by
  have e7:t < tmps.size:=ht t (by simp);simp only [yV,List.zip_cons_cons,List.foldl_cons];refine yW ?_ hl (by simpa using hlen) (fun t' h'=>by simpa using ht t' (by simp [h']));have:=pj.put (a:={ tmps:=tmps,defers:=[] }) h (d:=t) (x:=.v a) (c:=c) e7 hx;simpa [Act.put] using this
 |[],_ :: _,_,_,_,_,_,hlen,_=>by simp at hlen
 |_ :: _,[],_,_,_,_,_,hlen,_=>by simp at hlen
theorem GR (l:List (Tmp × Value)):∀ tmps:Array Value,(l.foldl (fun (tmps:Array Value) (x:Tmp × Value)=>tmps.setIfInBounds x.1 x.2) tmps).size=tmps.size:=by
 induction l with
 |nil=>intro _; rfl
 |cons x l ih=>intro tmps; rw [List.foldl_cons,ih]; simp
theorem kH.intro {E:Env} {id:Nat} {args:List AV} {G:List GO} {Q:Bool→List GO→Prop} {fn:FuncId} {ae:bj} {n:Nat} {ps:List Tmp} {assign body:Code} {d:Nat} {p:Option Code}
  (hG:nth G id=some (.loop false p fn ae n ps assign body d false)) (hl:args.length=ps.length) (Jl:∀ t∈ps,t < n)
  (h:fS E assign (Cz E id body Q) (St.round id (yV ps args ae) n G)):kH E id args G Q:=fun R w cs b hg hr hb=>by
 obtain ⟨⟨r,db,l1,l2,l3,l4,l5,l6,l7,l8,l9,l10⟩,l11⟩:=hg.obj id _ _ hG hb;have hlen:=hr.length;refine ⟨r,l1,by rw [l6]; simp; omega,?_⟩;have aez:Step R w (fun _=>0) fk R w (fun _=>0) fk:=Step.refl _ _ _ _;have aeA:bt E R w (fun _=>0) (St.round id (yV ps args ae) n G) { tmps:=(r.params.zip ⟨cs⟩).foldl (fun tmps (t,a)=>tmps.setIfInBounds t a) r.tmps,defers:=[] }:=by
  have aau:(r.params.zip ⟨cs⟩).foldl (fun (tmps:Array Value) (x:Tmp × Value)=>tmps.setIfInBounds x.1 x.2) r.tmps=(ps.zip cs).foldl (fun (tmps:Array Value) (x:Tmp × Value)=>tmps.setIfInBounds x.1 x.2) r.tmps:=by
   rw [← Array.foldl_toList];simp [l6]
  refine ⟨hg,⟨fun k cs hk=>?_,fun k k' c c' hk=>?_⟩,?_,?_,trivial⟩
  ·simp [St.round,dA] at hk
  ·simp [St.round,dA] at hk
  ·show pj _ _ _ _ _;have:=yW (ts:=ps) (l:=args) (cs:=cs) l4 hr hl (fun t ht=>by rw [l5]; exact Jl t ht);rw [← aau] at this;exact this
  ·show _=n;have:=GR (ps.zip cs) r.tmps;rw [← aau] at this;exact this.trans l5
 have VL:∀ (k:Nat) (cs:List AV),dA (St.round id (yV ps args ae) n G).boxes k≠some cs:=fun k cs hk=>by simp [St.round,dA] at hk
 rw [l7,l8];refine roundIn_of_wpIn trivial (wpIn_mono (h R w (fun _=>0) _ (aaZ.inRound b) aeA ⟨b,hb,rfl⟩) ?_);rintro e a1 w1 ⟨s1,R1,β1,hq,yf,st1,aeB⟩;unfold Cz at hq;cases e with
 |normal=>
  simp only at hq;split at hq
  ·rename_i p' fn' Y1 n' ps' PY Y4 d' hG1;have Gy:nth R1.obj id=some (.ck b):=st1.ext.ck hb;obtain ⟨⟨r1,db1,m1,m2,m3,m4,m5,m6,m7,m8,m9,m10⟩,m11⟩:=yf.g.obj id _ _ hG1 Gy;refine ⟨_,run_beginRound m1 m2,?_⟩;obtain ⟨z1,z2⟩:=yf.setObj (x':=.loop { r1 with state:=.busy }) (go':=.loop true p' fn' Y1 n' ps' PY Y4 d' false) Gy m1 trivial trivial (fun r e=>⟨_,rfl,by cases e; exact ⟨rfl,rfl,rfl,rfl,rfl⟩⟩)
    ⟨⟨{ r1 with state:=.busy },db1,gL _ _ _ (bl m1),rfl,m3,m4.mono (nX (x':=.loop { r1 with state:=.busy }) m1 trivial trivial (fun r e=>⟨_,rfl,by cases e; exact ⟨rfl,rfl,rfl,rfl,rfl⟩⟩)),m5,m6,m7,m8,m9,m10⟩,m11⟩
   refine wpIn_mono (hq R1 _ β1 a1 (aaZ.inRound b) z1 (by show bY R1 s1.ro _; rw [aeB]; exact ⟨b,Gy,rfl⟩)) ?_;rintro e2 a2 w2 ⟨s2,R2,β2,pu,DN,st2,JQ⟩;unfold GQ at pu;split at pu
   ·rename_i bu2 p2 fn2 sl2 n2 ps2 as2 bd2 d2 dn2 hG2;have aav:=(st1.trans z2).trans st2;have KM:nth R2.obj id=some (.ck b):=aav.ext.ck hb;obtain ⟨⟨r2,db2,o1,o2,o3,o4,o5,o6,o7,o8,o9,oU⟩,tA⟩:=DN.g.obj id _ _ hG2 KM;have fin:∀ (j:Option Code),Ck E R w (fun b' G'=>G'=aI s2.G id (.loop false j fn2 sl2 n2 ps2 as2 bd2 d2 (!j.isNone))∧b'=j.isNone) (.returned (.bool j.isNone)) (w2.putObj b (.loop { r2 with state:=if j.isNone then .ready else .done,pending:=j })):=fun j=>by
     obtain ⟨y1,y2⟩:=DN.setObj (x':=.loop { r2 with state:=if j.isNone then .ready else .done,pending:=j }) (go':=.loop false j fn2 sl2 n2 ps2 as2 bd2 d2 (!j.isNone)) KM o1 trivial trivial (fun r e=>⟨_,rfl,by cases e; exact ⟨rfl,rfl,rfl,rfl,rfl⟩⟩)
      ⟨⟨{ r2 with state:=if j.isNone then .ready else .done,pending:=j },db2,gL _ _ _ (bl o1),by cases j <;> rfl,rfl,o4.mono (nX (x':=.loop { r2 with state:=if j.isNone then .ready else .done,pending:=j }) o1 trivial trivial (fun r e=>⟨_,rfl,by cases e; exact ⟨rfl,rfl,rfl,rfl,rfl⟩⟩)),o5,o6,o7,o8,o9,oU⟩,tA⟩
     exact ⟨_,_,R2,⟨rfl,rfl⟩,rfl,y1.g,ym (aav.trans y2) VL⟩
    have mk:∀ (j:Option Code),Q j.isNone (aI s2.G id (.loop false j fn2 sl2 n2 ps2 as2 bd2 d2 (!j.isNone)))→∃ v w',(Instr.endRound b j).run E.P w2=.ok v w'∧Ck E R w Q (.returned v) w':=fun j hQ=>by
     refine ⟨_,_,run_endRound j o1,?_⟩;obtain ⟨r',G',R',⟨h1,h2⟩,h3⟩:=fin j;subst h1; subst h2;exact ⟨_,_,R',hQ,h3⟩
    cases e2 with
    |normal=>exact mk none pu
    |ret=>exact mk (some .ret) pu
    |exit i=>exact mk (some (.exit i)) pu
    |_=>exact pu.elim
   ·exact pu.elim
  ·exact hq.elim
 |_=>exact hq.elim
end Go.Am
namespace Go.Am
open Go
section
variable {E:Env} {R R':ak} {w w':World} {β β':Nat→Nat} {s s':St} {a a':Act}
def aU (E:Env) (g:FuncId) (args:List AV) (Q:AV→Prop):Prop:=∀ G,cG E g args G (fun r G'=>G'=G∧Q r)
theorem aU.mono {g:FuncId} {args:List AV} {Q Q':AV→Prop} (h:aU E g args Q) (hq:∀ r,Q r→Q' r):aU E g args Q':=
 fun G=>(h G).mono fun r _ hh=>⟨hh.1,hq r hh.2⟩
theorem aU.of {g:FuncId} {args:List AV} {p:aP} {Q:p.T→Prop} (hc:aG 0 args=true) (hp:p.under 0=true)
  (h:cG E g args [] (fun r _=>∃ y,p.dec r=some y∧Q y)):aU E g args (fun r=>∃ y,r=p.enc y∧Q y):=fun G=>by
 refine ⟨h.1,fun R w cs hg hl=>?_⟩
 let R0:ak:=⟨R.I,[]⟩
 have m0:Mv R R0 0:=⟨fun _ _ h=>h,fun _ _ h=>absurd h (aaf _)⟩;have Pf:dC E R0 w []:=⟨rfl,fun id go ro h1 _=>by simp [nth] at h1,fun i j ri rj b h1=>by simp [R0,nth] at h1,hg.wf,fun g cs rW=>(hg.cr g cs rW).move m0 (cF _ (E.pg g cs rW)),hg.lo⟩;have uv:aN R0 w args cs:=hl.move m0 hc;refine (h.2 R0 w cs Pf uv).mono fun e w' he=>?_
 cases e with
 |panicked c=>exact he.elim
 |outgrown=>exact he.elim
 |returned c=>
  obtain ⟨r,G',R1,⟨y,hy,hQ⟩,eD,PZ,st⟩:=he;have jA:∀ b,¬ Own R0 (fun _=>0) fk b:=fun b ho=>by
   obtain ⟨id,ro,h1,_⟩:=eU ho;simp [R0,nth] at h1
  let R2:ak:=⟨R1.I,R.obj⟩
  have e:Ext R w R2 w':=⟨st.ext.I,st.ext.cell,fun id ro h=>⟨ro,h,cJ.refl ro⟩,st.ext.lp⟩;have aY:∀ b,b < w.heap.size→w'.heap[b]?=w.heap[b]?:=fun b hb=>st.aY b hb (jA b)
  have im:∀ b o,b < w.heap.size→R1.I b o→R.I b o:=fun b o hb hi=>st.im b o hi hb (jA b)
  have hd:=p.rU hy;have m:Mv R1 R2 0:=⟨fun _ _ h=>h,fun _ _ h=>absurd h (aaf _)⟩;refine ⟨p.enc y,G,R2,⟨rfl,y,rfl,hQ⟩,Rel.move m (p.dH y hp) (hd.hY _ _ _ eD),⟨hg.len,fun id go ro h1 h2=>?_,hg.inj,PZ.wf,fun g cs rW=>(hg.cr g cs rW).mono e,PZ.lo⟩,⟨e,st.os,st.tape,st.output,st.size,fun b hb _=>aY b hb,fun b _ ho=>?_,fun b o hi hb _=>im b o hb hi⟩⟩
  ·refine (hg.obj id go ro h1 h2).mono e (fun b hb=>aY b ?_) (fun b o hb hi=>im b o ?_ hi)
   ·exact (hg.obj id go ro h1 h2).lt hb
   ·exact (hg.obj id go ro h1 h2).lt hb
  ·exact ho
theorem fS.aeH {c:Code} {Q Q':Exit→St→Prop} (h:fS E c (fun e s'=>a7 s s'∧Q' e s') s)
  (hq:∀ e s',Q' e s'→∃ (t:cU) (v:t.ps.T),t.dec s s'=some v∧Q e (t.st s v)):fS E c Q s:=fun R w β a F hr hf=>by
 refine wpIn_mono (h R w β a F hr hf) ?_;rintro e a' w' ⟨s',R',β',⟨hx,hq'⟩,ms,jz,b9⟩;obtain ⟨t,v,hd,hQ⟩:=hq e s' hq';obtain ⟨h1,h2⟩:=cU.Df hx hr ms jz hd;exact ⟨_,_,β',hQ,h1,h2,rfl⟩
theorem fS.ij {c:Code} {Q:Exit→St→Prop} {l:List (Loc × Nat × TypeId)} (hs:Am.ij l s=some s') (h:fS E c Q s'):fS E c Q s:=fun R w β a F hr hf=>by
 obtain ⟨R1,k1,k2,k3,_⟩:=kG hr hs;refine wpIn_mono (h R1 w β a F k1 (by rw [k3]; exact hf.mono k2.ext)) ?_;rintro e a' w' ⟨s2,R2,β2,hq,DN,st2,JQ⟩;exact ⟨s2,R2,β2,hq,DN,k2.trans st2,JQ.trans k3⟩
end
end Go.Am
