/- The abstract machine: lists of cells; what keeps a state's meaning; loads and stores. -/
import Derived.Test.YtfiopgedfcaodaaGreatDoorAmKA
import Derived.Laws.CopyRow
import Derived.Laws.Slices
import Derived.Laws.StructEq
import Derived.ChangeKeysEq
set_option linter.all false
namespace Go.Am
open Go
section lists
variable {α:Type}
theorem wi (n:Nat) (l:List α):ft n l=l.drop n:=by
 induction n generalizing l with
 | zero=>simp [ft]
 | succ n ih=>cases l <;> simp [ft,ih]
theorem JC {n:Nat} {l r:List α} (h:takeN n l=some r):r=l.take n∧r.length=n:=by
 induction n generalizing l r with
 | zero=>simp [takeN] at h; subst h; simp
 | succ n ih=>
  cases l with
  | nil=>simp [takeN] at h
  | cons a l=>
   unfold takeN at h
   split at h
   ·rename_i r' hr
    cases h
    obtain ⟨h1,h2⟩:=ih hr
    exact ⟨by simp [h1],by simp [h2]⟩
   ·cases h
theorem SN {off n:Nat} {l r:List α} (h:Gm off n l=some r):r=(l.drop off).take n∧r.length=n:=by
 unfold Gm at h
 rw [wi] at h
 exact JC h
theorem ey (l:List α) (off:Nat) (ys:List α) (h:off+ys.length≤l.length):bc l off ys=l.take off++ys++l.drop (off+ys.length):=by
 induction l generalizing off ys with
 | nil=>
  have hy:ys=[]:=List.eq_nil_of_length_eq_zero (by rw [List.length_nil] at h; omega)
  subst hy
  simp [bc]
 | cons a l ih=>
  cases ys with
  | nil=>simp [bc]
  | cons y ys=>
   cases off with
   | zero=>
    simp only [bc]
    rw [ih 0 ys (by simp at h ⊢; omega)]
    simp
   | succ n=>
    simp only [bc]
    rw [ih n (y :: ys) (by simp at h ⊢; omega)]
    rw [show n+1+(y :: ys).length=(n+(y :: ys).length)+1 by omega]
    simp
theorem zd (l:List α) (off:Nat) (ys:List α) (h:off+ys.length≤l.length):(bc l off ys).length=l.length:=by
 rw [ey l off ys h]
 simp
 omega
end lists
section rel
variable {R:aj} {w:World}
theorem aK.length {l:List AV} {vs:List Value} (h:aK R w l vs):l.length=vs.length:=by
 induction l generalizing vs with
 | nil=>cases h; rfl
 | cons a l ih=>cases h with | cons h t=>simp [ih t]
theorem aK.get {l:List AV} {vs:List Value} (h:aK R w l vs) {i:Nat} {a:AV} (ha:l[i]?=some a):∃ c,vs[i]?=some c∧Rel R w a c:=by
 induction l generalizing vs i with
 | nil=>simp at ha
 | cons x l ih=>
  cases h with
  | cons h t=>
   cases i with
   | zero=>simp at ha; subst ha; exact ⟨_,by simp,h⟩
   | succ i=>simp at ha; obtain ⟨c,h1,h2⟩:=ih t ha; exact ⟨c,by simpa using h1,h2⟩
theorem aK.drop {l:List AV} {vs:List Value} (h:aK R w l vs) (n:Nat):aK R w (l.drop n) (vs.drop n):=by
 induction n generalizing l vs with
 | zero=>simpa using h
 | succ n ih=>cases h with
  | nil=>simpa using aK.nil
  | cons h t=>simpa using ih t
theorem aK.take {l:List AV} {vs:List Value} (h:aK R w l vs) (n:Nat):aK R w (l.take n) (vs.take n):=by
 induction n generalizing l vs with
 | zero=>simpa using aK.nil
 | succ n ih=>cases h with
  | nil=>simpa using aK.nil
  | cons h t=>simpa using aK.cons h (ih t)
theorem aK.append {l r:List AV} {vs us:List Value} (h:aK R w l vs) (k:aK R w r us):aK R w (l++r) (vs++us):=by
 induction l generalizing vs with
 | nil=>cases h; simpa using k
 | cons a l ih=>cases h with | cons h t=>exact .cons h (ih t)
theorem aK.one {a:AV} {c:Value} (h:Rel R w a c):aK R w [a] [c]:=.cons h .nil
theorem Rel.cells {a:AV} {c:Value} (h:Rel R w a c) (ht:a.aV=true):aK R w a.cells c.cells.toList∧∀ v∈c.cells.toList,v.oneCell'=true:=by
 cases h with
 | agg h h1=>exact ⟨h,h1⟩
 | bH h=>simp [AV.aV] at ht
 | bool=>exact ⟨.one (.bool _),by simp [Value.cells,Value.oneCell']⟩
 | int=>exact ⟨.one (.int _ _),by simp [Value.cells,Value.oneCell']⟩
 | str=>exact ⟨.one (.str _),by simp [Value.cells,Value.oneCell']⟩
 | kL=>exact ⟨.one .kL,by simp [Value.cells,Value.oneCell']⟩
 | ptr h=>exact ⟨.one (.ptr h),by simp [Value.cells,Value.oneCell']⟩
 | ep h=>exact ⟨.one (.ep h),by simp [Value.cells,Value.oneCell']⟩
 | ke=>exact ⟨.one .ke,by simp [Value.cells,Value.oneCell']⟩
 | iA=>exact ⟨.one .iA,by simp [Value.cells,Value.oneCell']⟩
 | lS=>exact ⟨.one .lS,by simp [Value.cells,Value.oneCell']⟩
 | mL h ho=>exact ⟨.one (.mL h ho),by simp [Value.cells,Value.oneCell']⟩
 | lm h ho=>exact ⟨.one (.lm h ho),by simp [Value.cells,Value.oneCell']⟩
 | list h hl hc hk=>exact ⟨.one (.list h hl hc hk),by simp [Value.cells,Value.oneCell']⟩
 | kM h hc=>exact ⟨.one (.kM h hc),by simp [Value.cells,Value.oneCell']⟩
 | jm h ho=>exact ⟨.one (.jm h ho),by simp [Value.cells,Value.oneCell']⟩
 | cR h ho hc=>exact ⟨.one (.cR h ho hc),by simp [Value.cells,Value.oneCell']⟩
 | gp h ho=>exact ⟨.one (.gp h ho),by simp [Value.cells,Value.oneCell']⟩
 | jS=>exact ⟨.one .jS,by simp [Value.cells,Value.oneCell']⟩
 | map h=>exact ⟨.one (.map h),by simp [Value.cells,Value.oneCell']⟩
 | cu=>exact ⟨.one .cu,by simp [Value.cells,Value.oneCell']⟩
 | fn h h'=>exact ⟨.one (.fn h h'),by simp [Value.cells,Value.oneCell']⟩
 | yield h=>exact ⟨.one (.yield h),by simp [Value.cells,Value.oneCell']⟩
 | nU=>exact ⟨.one .nU,by simp [Value.cells,Value.oneCell']⟩
 | iface h=>exact ⟨.one (.iface h),by simp [Value.cells,Value.oneCell']⟩
mutual
theorem Rel.fx:∀ {a:AV} {c:Value},Rel R w a c→Rel R w a.fx c
 | _,_,.bool b=>.bool b
 | _,_,.int k n=>.int k n
 | _,_,.str l=>.str l
 | _,_,.agg h h1=>.agg h.fx h1
 | _,_,.bH h=>.bH h.fx
 | _,_,.kL=>.kL
 | _,_,.ptr h=>.ptr h
 | _,_,.ep h=>.ep h
 | _,_,.ke=>.ke
 | _,_,.iA=>.iA
 | _,_,.lS=>.lS
 | _,_,.mL _ _=>.iA
 | _,_,.lm _ _=>.iA
 | _,_,@Rel.list _ _ .nil _ _ _ _ _ _ h hl hc hk=>.list h hl hc hk
 | _,_,@Rel.list _ _ .full _ _ _ _ _ _ h hl hc hk=>.list h hl hc hk
 | _,_,@Rel.list _ _ .gr _ _ _ _ _ _ h hl hc hk=>.list h hl hc hk
 | _,_,@Rel.list _ _ (.own _) _ _ _ _ _ _ h hl hc _=>.list h hl hc trivial
 | _,_,@Rel.list _ _ (.aP _ _) _ _ _ _ _ _ h hl hc _=>.list h hl hc trivial
 | _,_,.kM h hc=>.kM h hc
 | _,_,.jm h ho=>.jm h ho
 | _,_,.cR h ho hc=>.cR h ho hc
 | _,_,.gp h ho=>.gp h ho
 | _,_,.jS=>.jS
 | _,_,.map h=>.map h
 | _,_,.cu=>.cu
 | _,_,.fn h h'=>.fn h h'
 | _,_,.yield h=>.yield h
 | _,_,.nU=>.nU
 | _,_,.iface h=>.iface h
theorem aK.fx:∀ {l:List AV} {cs:List Value},aK R w l cs→aK R w (kR l) cs
 | _,_,.nil=>.nil
 | _,_,.cons h t=>.cons h.fx t.fx
end
theorem dU.get {b o:Nat} {l:List AV} (h:dU R w b o l):∃ vs,aK R w l vs∧(∀ v∈vs,v.oneCell'=true)∧(∀ j v,vs[j]?=some v→w.cell? ⟨b,o+j,none⟩=some v)∧∀ j,j < l.length→R.I b (o+j):=by
 induction l generalizing o with
 | nil=>exact ⟨[],.nil,by simp,by simp,by simp⟩
 | cons a l ih=>
  cases h with
  | @cons _ _ _ c _ hc h1 hi h t=>
   obtain ⟨vs,k1,k2,k3,k4⟩:=ih t
   refine ⟨c :: vs,.cons h k1,?_,?_,?_⟩
   ·intro v hv
    rcases List.mem_cons.1 hv with rfl | hv
    ·exact h1
    ·exact k2 v hv
   ·intro j v hv
    cases j with
    | zero=>simp at hv; subst hv; exact hc
    | succ j=>simp at hv; have:=k3 j v hv; rwa [show o+1+j=o+(j+1) by omega] at this
   ·intro j hj
    cases j with
    | zero=>exact hi
    | succ j=>have:=k4 j (by simp at hj; omega); rwa [show o+1+j=o+(j+1) by omega] at this
theorem dU.make {b o:Nat} {l:List AV} {vs:List Value} (h:aK R w l vs) (h1:∀ v∈vs,v.oneCell'=true) (hc:∀ j v,vs[j]?=some v→w.cell? ⟨b,o+j,none⟩=some v) (hi:∀ j,j < l.length→R.I b (o+j)):dU R w b o l:=by
 induction l generalizing vs o with
 | nil=>exact .nil
 | cons a l ih=>
  cases h with
  | cons h t=>
   refine .cons (hc 0 _ (by simp)) (h1 _ (by simp)) (hi 0 (by simp)) h (ih t (fun v hv=>h1 v (by simp [hv])) (fun j v hv=>?_) (fun j hj=>?_))
   ·have:=hc (j+1) v (by simpa using hv); rwa [show o+(j+1)=o+1+j by omega] at this
   ·have:=hi (j+1) (by simpa using hj); rwa [show o+(j+1)=o+1+j by omega] at this
theorem dU.drop {b o:Nat} {l:List AV} (h:dU R w b o l) (n:Nat):dU R w b (o+n) (l.drop n):=by
 induction n generalizing o l with
 | zero=>simpa using h
 | succ n ih=>cases h with
  | nil=>simpa using dU.nil
  | cons hc h1 hi h t=>have:=ih t; rw [show o+1+n=o+(n+1) by omega] at this; simpa using this
end rel
theorem cz (b o n:Nat):(⟨b,o,none⟩:Addr).add n=⟨b,o+n,none⟩:=by unfold Addr.add; split <;> simp_all
section bQ
variable {E:Env} {R R':aj} {w w':World} {β β':Nat→Nat} {s:St} {a:Act}
theorem ob.mono (e:Ext R w R' w') {sl:bp} {tm:Array Value} (h:ob R w β sl tm):ob R' w' β sl tm:=
 fun i hi=>let ⟨c,h1,h2⟩:=h i hi; ⟨c,h1,h2.mono e⟩
theorem cZ.mono (e:Ext R w R' w'):∀ {l:List (AV × AV)} {es:List MapEntry},cZ R w l es→cZ R' w' l es
 | [],[],_=>trivial
 | (_,_) :: _,_ :: _,h=>⟨h.1.mono e,h.2.1.mono e,cZ.mono e h.2.2⟩
 | [],_ :: _,h=>h.elim
 | _ :: _,[],h=>h.elim
theorem od {w w':World} {b:Nat} (h:b < w.heap.size) (e:w'.heap[b]?=w.heap[b]?):b < w'.heap.size:=by
 rw [Array.getElem?_eq_getElem h] at e
 exact (Array.getElem?_eq_some_iff.1 e).1
theorem gL.mono (e:Ext R w R' w') {go:GO} {ro:RO} (h:gL R w go ro) (hb:∀ b,ro.has b→w'.heap[b]?=w.heap[b]?) (hi:∀ b o,ro.has b→R'.I b o→R.I b o):gL R' w' go ro:=by
 cases ro with
 | none=>cases go <;> first | exact h | exact h.elim
 | bF=>cases go <;> first | exact h | exact h.elim
 | b0 b=>
  have kT:=hb b rfl
  cases go with
  | dead=>exact od h kT
  | row cs el=>obtain ⟨vs,h1,h2,h3,h4⟩:=h; exact ⟨vs,kT.trans h1,h2.mono e,h3,fun o ho=>h4 o (hi b o rfl ho)⟩
  | tok f sz el=>exact h.elim
  | aP _ _ _=>exact h.elim
  | nZ qm n left _=>obtain ⟨bm,seen,c0,h1,h2,h3⟩:=h; exact ⟨bm,seen,c0,e.b0 h1,kT.trans h2,h3⟩
  | a7 es sz el=>exact h.elim
  | map es=>obtain ⟨av,clock,h1,h2,h3⟩:=h; exact ⟨av,clock,kT.trans h1,cZ.mono e h2,h3⟩
  | gf l pos=>exact kT.trans h
  | loop busy pending fn ae n params assign body defers done=>
   obtain ⟨⟨r,db,h1,h2,h3,h4,h5,h6,h7,h8,h9,h11⟩,h10⟩:=h
   exact ⟨⟨r,db,kT.trans h1,h2,h3,h4.mono e,h5,h6,h7,h8,h9,e.b0 h11⟩,h10⟩
  | defers o=>exact kT.trans h
 | tok f b c=>
  have kT:=hb b rfl
  cases go with
  | tok f' sz el=>
   obtain ⟨h0,cur,h1,h2,h3,h4,h5⟩:=h
   exact ⟨h0,cur,kT.trans h1,h2,h3,h4,fun o ho rk=>h5 o ho (hi b o rfl rk)⟩
  | a7 es sz el=>
   obtain ⟨h0,qt,cur,vs,h1,h2,h3,h4,h5,h6,h7,h8⟩:=h
   exact ⟨h0,qt,cur,vs,kT.trans h1,h2,h3,h4,fun o ho=>h5 o (hi b o rfl ho),h6.mono e,h7,h8⟩
  | dead=>exact od h kT
  | row cs=>exact h.elim
  | aP _ _ _=>exact h.elim
  | nZ _ _ _ _=>exact h.elim
  | map es=>exact h.elim
  | gf l pos=>exact h.elim
  | loop=>exact h.elim
  | defers o=>exact h.elim
 | aP ts=>
  cases go with
  | aP fs sz el=>
   obtain ⟨h1,h2,h3⟩:=h
   refine ⟨h1,h2,fun j f t hf ht=>?_⟩
   have h4:=h3 j f t hf ht
   cases t with
   | bF=>exact h4
   | full f'=>exact h4
   | tok f' b c=>
    obtain ⟨h5,cur,k1,k2,k3,k4,k5⟩:=h4
    have hh:RO.has (.aP ts) b:=⟨j,f',c,ht⟩
    exact ⟨h5,cur,(hb b hh).trans k1,k2,k3,k4,fun o ho rk=>k5 o ho (hi b o hh rk)⟩
  | dead=>exact fun j f b c ht=>od (h j f b c ht) (hb b ⟨j,f,c,ht⟩)
  | _=>exact h.elim
theorem Live.of {id b:Nat} {ro:RO} (h:nth R.obj id=some ro) (hb:ro.has b):Live R b:=⟨id,ro,h,hb⟩
theorem dE.bQ {G:List GO} (h:dE E R w G) (e:Ext R w R' w') (ho:R'.obj=R.obj) (hb:∀ b,Live R b→w'.heap[b]?=w.heap[b]?) (hi:∀ b o,Live R b→R'.I b o→R.I b o) (wf:∀ b o,R'.I b o→b < w'.heap.size) (hd:E.lo≤w.drawn→E.lo≤w'.drawn:=by first | exact fun h=>h | exact fun h=>Nat.le_succ_of_le h):dE E R' w' G where
 lo:=hd h.lo
 len:=by rw [ho]; exact h.len
 obj:=fun id go ro hg hr=>by
  rw [ho] at hr
  exact (h.obj id go ro hg hr).mono e (fun b VZ=>hb b (.of hr VZ)) (fun b o VZ=>hi b o (.of hr VZ))
 inj:=fun i j ri rj b h1 h2=>by rw [ho] at h1 h2; exact h.inj i j ri rj b h1 h2
 wf:=wf
 cw:=fun g cs hg=>(h.cw g cs hg).mono e
theorem Nx.bQ {bx:cF} (h:Nx R w β bx) (e:Ext R w R' w') (hb:∀ k cs,dS bx k=some cs→w'.heap[β k]?=w.heap[β k]?) (hi:∀ k cs o,dS bx k=some cs→R'.I (β k) o→R.I (β k) o) (hl:∀ k cs,dS bx k=some cs→Live R' (β k)→Live R (β k)):Nx R' w' β bx where
 box:=fun k cs hk=>by
  obtain ⟨⟨vs,el,h1,h2,h3⟩,h4,h5⟩:=h.box k cs hk
  exact ⟨⟨vs,el,(hb k cs hk).trans h1,h2.mono e,h3⟩,fun o ho=>h4 o (hi k cs o hk ho),fun B8=>h5 (hl k cs hk B8)⟩
 inj:=h.inj
theorem pP.mono (e:Ext R w R' w'):∀ {l:List Nat} {ds:List Deferred},pP R l ds→pP R' l ds
 | [],[],_=>trivial
 | _ :: _,_ :: _,h=>let ⟨⟨b,h1,h2⟩,h3⟩:=h; ⟨⟨b,e.b0 h1,h2⟩,pP.mono e h3⟩
 | [],_ :: _,h=>h.elim
 | _ :: _,[],h=>h.elim
theorem bi.bQ (h:bi E R w β s a) (e:Ext R w R' w') (ho:R'.obj=R.obj) (hb:∀ b,Own R β s.boxes b→w'.heap[b]?=w.heap[b]?) (hi:∀ b o,Own R β s.boxes b→R'.I b o→R.I b o) (wf:∀ b o,R'.I b o→b < w'.heap.size) (hd:E.lo≤w.drawn→E.lo≤w'.drawn:=by first | exact fun h=>h | exact fun h=>Nat.le_succ_of_le h):bi E R' w' β s a where
 g:=h.g.bQ e ho (fun b hl=>hb b (.inl hl)) (fun b o hl=>hi b o (.inl hl)) wf hd
 b:=h.b.bQ e (fun k cs hk=>hb _ (.inr ⟨k,cs,hk,rfl⟩)) (fun k cs o hk=>hi _ o (.inr ⟨k,cs,hk,rfl⟩)) (fun k cs _ hl=>by obtain ⟨id,ro,h1,h2⟩:=hl; rw [ho] at h1; exact ⟨id,ro,h1,h2⟩)
 t:=h.t.mono e
 n:=h.n
 d:=h.d.mono e
theorem bo {w:World} {b:Nat} {o:Obj} (h:w.heap[b]?=some o):b < w.heap.size:=(Array.getElem?_eq_some_iff.1 h).1
theorem gL.lt {go:GO} {ro:RO} (h:gL R w go ro) {b:Nat} (hb:ro.has b):b < w.heap.size:=by
 cases ro with
 | none=>exact hb.elim
 | bF=>exact hb.elim
 | b0 x=>
  have hb:b=x:=hb
  subst hb
  cases go with
  | dead=>exact h
  | row cs el=>obtain ⟨vs,h1,_⟩:=h; exact bo h1
  | tok f sz el=>exact h.elim
  | aP _ _ _=>exact h.elim
  | nZ qm n left _=>obtain ⟨bm,seen,c0,_,h2,_⟩:=h; exact bo h2
  | a7 es sz el=>exact h.elim
  | map es=>obtain ⟨av,clock,h1,_⟩:=h; exact bo h1
  | gf l pos=>exact bo h
  | loop=>obtain ⟨⟨r,db,h1,_⟩,_⟩:=h; exact bo h1
  | defers o=>exact bo h
 | tok f x c=>
  have hb:b=x:=hb
  subst hb
  cases go with
  | tok f' sz el=>obtain ⟨_,cur,h1,_⟩:=h; exact bo h1
  | a7 es sz el=>obtain ⟨_,_,cur,vs,h1,_⟩:=h; exact bo h1
  | dead=>exact h
  | row cs=>exact h.elim
  | aP _ _ _=>exact h.elim
  | nZ _ _ _ _=>exact h.elim
  | map es=>exact h.elim
  | gf l pos=>exact h.elim
  | loop=>exact h.elim
  | defers o=>exact h.elim
 | aP ts=>
  obtain ⟨j,f,c,ht⟩:=hb
  cases go with
  | aP fs sz el=>
   obtain ⟨h1,h2,h3⟩:=h
   have bP:=bI ht
   rw [h1] at bP
   obtain ⟨f',hf⟩:∃ f',nth fs j=some f':=⟨fs[j],by rw [aY]; exact List.getElem?_eq_getElem bP⟩
   obtain ⟨_,cur,k1,_⟩:=h3 j f' _ hf ht
   exact bo k1
  | dead=>exact h j f b c ht
  | _=>exact h.elim
theorem dE.b6 {G:List GO} (h:dE E R w G) {b:Nat} (hl:Live R b):b < w.heap.size:=by
 obtain ⟨id,ro,h1,h2⟩:=hl
 have bP:=bI h1
 rw [h.len] at bP
 obtain ⟨go,hY⟩:∃ go,nth G id=some go:=⟨G[id],by rw [aY]; exact List.getElem?_eq_getElem bP⟩
 exact (h.obj id go ro hY h1).lt h2
theorem bi.dQ (h:bi E R w β s a) {b:Nat} (ho:Own R β s.boxes b):b < w.heap.size:=by
 rcases ho with hl | ⟨k,cs,hk,rfl⟩
 ·exact h.g.b6 hl
 ·obtain ⟨⟨vs,el,h1,_⟩,_⟩:=h.b.box k cs hk
  exact bo h1
theorem bT {w w':World} {b:Nat} (h:w'.heap[b]?=w.heap[b]?) (o:Nat):w'.cell? ⟨b,o,none⟩=w.cell? ⟨b,o,none⟩:=by simp [World.cell?,h]
theorem zK (wf:∀ b o,R.I b o→b < w.heap.size) (x:Obj):Ext R w R (w.alloc x):=
 ⟨fun _ _ h=>h,fun b o h=>bT (heap_alloc_old w x b (wf b o h)) o,fun _ ro h=>⟨ro,h,cm.refl ro⟩,.old fun b hb=>heap_alloc_old w x b hb⟩
theorem bi.alloc (h:bi E R w β s a) (x:Obj):bi E R (w.alloc x) β s a:=
 h.bQ (zK h.g.wf x) rfl (fun b hb=>heap_alloc_old w x b (h.dQ hb)) (fun _ _ _ hi=>hi) (fun b o hi=>by have:=h.g.wf b o hi; simp; omega)
end bQ
end Go.Am
namespace Go.Am
open Go
theorem JD {a b:AV} (h:ru a b=true):a=b:=by
 unfold ru at h
 split at h
 all_goals (first | (cases h; done) | skip)
 all_goals (try simp only [Bool.and_eq_true,beq_iff_eq,Nat.beq_eq] at h)
 all_goals (simp [*])
mutual
theorem jn:∀ {a b:AV},cM a b=true→a=b:=by
 intro a b h
 unfold cM at h
 split at h
 ·simp only [Bool.and_eq_true,Nat.beq_eq] at h; rw [h.1.1,fC h.1.2,fC h.2]
 ·rw [fC h]
 ·rw [fC h]
 ·rw [fC h]
 ·simp only [Bool.and_eq_true,Nat.beq_eq] at h; rw [h.1,fC h.2]
 ·simp only [Bool.and_eq_true,Nat.beq_eq] at h; rw [h.1,fC h.2]
 ·simp only [Bool.and_eq_true,Nat.beq_eq] at h; rw [h.1,fC h.2]
 ·simp only [Bool.and_eq_true,Nat.beq_eq] at h; rw [h.1.1,h.1.2,fC h.2]
 ·simp only [Bool.and_eq_true,Nat.beq_eq] at h; rw [h.1.1.1,h.1.1.2,h.1.2,fC h.2]
 ·exact JD h
theorem fC:∀ {l r:List AV},eY l r=true→l=r:=by
 intro l r h
 unfold eY at h
 split at h
 ·rfl
 ·rw [Bool.and_eq_true] at h; rw [jn h.1,fC h.2]
 ·cases h
end
def AW (a b:AV):Prop:=∀ (R:aj) (w:World) (c:Value),Rel R w a c→Rel R w b c
def cr:List AV→List AV→Prop
 | [],[]=>True
 | a :: l,b :: r=>AW a b∧cr l r
 | _,_=>False
theorem AW.refl (a:AV):AW a a:=fun _ _ _ h=>h
theorem cr.refl:∀ l:List AV,cr l l
 | []=>trivial
 | a :: l=>⟨AW.refl a,cr.refl l⟩
theorem cr.length:∀ {l r:List AV},cr l r→l.length=r.length
 | [],[],_=>rfl
 | _ :: _,_ :: _,h=>by simp [cr.length h.2]
 | [],_ :: _,h=>h.elim
 | _ :: _,[],h=>h.elim
theorem cr.rel {R:aj} {w:World}:∀ {l r:List AV} {cs:List Value},cr l r→aK R w l cs→aK R w r cs
 | [],[],_,_,h=>h
 | _ :: _,_ :: _,_,k,.cons h t=>.cons (k.1 _ _ _ h) (cr.rel k.2 t)
 | [],_ :: _,_,h,_=>h.elim
 | _ :: _,[],_,h,_=>h.elim
theorem cr.JE {R:aj} {w:World}:∀ {l r:List AV} {b o:Nat},cr l r→dU R w b o l→dU R w b o r
 | [],[],_,_,_,_=>.nil
 | _ :: _,_ :: _,_,_,k,.cons hc h1 hi h t=>.cons hc h1 hi (k.1 _ _ _ h) (cr.JE k.2 t)
 | [],_ :: _,_,_,h,_=>h.elim
 | _ :: _,[],_,_,h,_=>h.elim
theorem cr.append:∀ {a b c d:List AV},cr a b→cr c d→cr (a++c) (b++d)
 | [],[],_,_,_,h=>h
 | _ :: _,_ :: _,_,_,k,h=>⟨k.1,cr.append k.2 h⟩
 | [],_ :: _,_,_,h,_=>h.elim
 | _ :: _,[],_,_,h,_=>h.elim
structure iF (v u:AV):Prop where
 fx:AW v u
 bH:u.aV=v.aV
 cells:v.aV=true→cr v.cells u.cells
 closed:v.closed=true→u.closed=true
theorem vr {u v a:AV} (h:(aA.two u v).fits a=true):(aA.two u v).enc ((aA.two u v).bh a)=a:=by
 change (cM a u || cM a v)=true at h
 change (bif cM a v then v else u)=a
 cases hs:cM a v with
 | true=>exact (jn hs).symm
 | false=>
  rw [hs,Bool.or_false] at h
  exact (jn h).symm
theorem iF.refl (v:AV):iF v v:=⟨AW.refl v,rfl,fun _=>cr.refl _,fun h=>h⟩
theorem EF {a b:IntKind} (h:VX a b=true):a=b:=of_decide_eq_true h
theorem rG {α:Type} {f:AV→Bool} {d:AV→α} {g:α→AV} (Gs:∀ v,f v=true→iF v (g (d v))) {R:aj} {w:World} :
  ∀ {es:List AV} {b o sz:Nat},allFit f es=true→fS R w b o sz es→fS R w b o sz ((es.map d).map g)
 | [],b,o,sz,_,_=>.nil
 | e :: es,b,o,sz,h,hr=>by
  simp only [allFit,Bool.and_eq_true] at h
  cases hr with
  | cons hl ht hk hc t=>
   have d':=Gs e h.1
   have wc:=d'.cells ht
   exact .cons (by rw [← wc.length,hl]) (by rw [d'.bH,ht]) (d'.closed hk) (wc.JE hc) (rG Gs h.2 t)
theorem H0 {R:aj} {w:World} {b o sz bK:Nat} {es:List AV} (h:es=[]∨sz=bK) (hr:fS R w b o bK es):fS R w b o sz es:=by
 rcases h with rfl | rfl
 ·exact .nil
 ·exact hr
theorem H3 {α:Type} {f:AV→Bool} {d:AV→α} {g:α→AV} (Gs:∀ v,f v=true→iF v (g (d v))) {k:LK} {sz bK:Nat} {es:List AV} (hs:es=[]∨sz=bK) (h:allFit f es=true) :
  AW (.list k bK es) (.list .gr sz ((es.map d).map g)):=fun R w c hr=>by
 cases hr with
 | ke=>exact .iA
 | iA=>exact .iA
 | lS=>exact .lS
 | mL _ _=>exact .iA
 | lm _ _=>exact .iA
 | list hr hlen hc hk=>exact .list (rG Gs h (H0 hs hr)) (by simp [hlen]) hc trivial
theorem JF {α:Type} {f:AV→Bool} {d:AV→α} {g:α→AV} (Gs:∀ v,f v=true→iF v (g (d v))) {id sz:Nat} {es:List AV} (h:allFit f es=true) :
  AW (.list (.own id) sz es) (.list (.own id) sz ((es.map d).map g)):=fun R w c hr=>by
 cases hr with
 | mL h1 h2=>exact .mL h1 h2
 | list hr hlen hc hk=>exact .list (rG Gs h hr) (by simp [hlen]) hc hk
theorem JG {α:Type} {f:AV→Bool} {d:AV→α} {g:α→AV} (Gs:∀ v,f v=true→iF v (g (d v))) {id j sz:Nat} {es:List AV} (h:allFit f es=true) :
  AW (.list (.aP id j) sz es) (.list (.aP id j) sz ((es.map d).map g)):=fun R w c hr=>by
 cases hr with
 | lm h1 h2=>exact .lm h1 h2
 | list hr hlen hc hk=>exact .list (rG Gs h hr) (by simp [hlen]) hc hk
mutual
theorem aA.cG:∀ (p:aA) {v:AV},p.fits v=true→iF v (p.enc (p.bh v))
 | .int k,v,h=>by
  cases v with
  | int k' n=>
   have hk:VX k k'=true:=h
   rw [EF hk]
   exact iF.refl _
  | _=>cases h
 | .bool,v,h=>by
  cases v with
  | bool b=>exact iF.refl _
  | _=>cases h
 | .str,v,h=>by
  cases v with
  | str b=>exact iF.refl _
  | _=>cases h
 | .agg ps,v,h=>by
  cases v with
  | agg cs=>
   obtain ⟨h1,h2⟩:=ps.cG (show ps.fits cs=true from h)
   exact ⟨fun R w c hr=>by cases hr with | agg hr mO=>exact .agg (h1.rel hr) mO,rfl,fun _=>h1,fun hc=>by
    have uQ:aC cs=true:=by simpa [AV.closed] using hc
    show AV.closed (.agg (ps.enc (ps.bh cs)))=true
    simp only [AV.closed]; exact h2 uQ⟩
  | _=>cases h
 | .bH ps,v,h=>by
  cases v with
  | bH cs=>
   obtain ⟨h1,h2⟩:=ps.cG (show ps.fits cs=true from h)
   exact ⟨fun R w c hr=>by cases hr with | bH hr=>exact .bH (h1.rel hr),rfl,fun hn=>by simp [AV.aV] at hn,fun hc=>by
    have uQ:aC cs=true:=by simpa [AV.closed] using hc
    show AV.closed (.bH (ps.enc (ps.bh cs)))=true
    simp only [AV.closed]; exact h2 uQ⟩
  | _=>cases h
 | .list sz p,v,h=>by
  cases v with
  | list k bK es=>
   have hb:((Nat.beq sz bK || es.isEmpty)&&allFit p.fits es)=true:=h
   simp only [Bool.and_eq_true,Bool.or_eq_true,Nat.beq_eq,List.isEmpty_iff] at hb
   have hw:=H3 (k:=k) (fun v=>p.cG) hb.1.symm hb.2
   exact ⟨hw,rfl,fun _=>⟨hw,trivial⟩,fun _=>rfl⟩
  | _=>cases h
 | .own id sz p,v,h=>by
  cases v with
  | list k bK es=>
   cases k with
   | own jF=>
    have hb:((Nat.beq id jF&&Nat.beq sz bK)&&allFit p.fits es)=true:=h
    simp only [Bool.and_eq_true,Nat.beq_eq] at hb
    obtain ⟨⟨rfl,rfl⟩,hf⟩:=hb
    have hw:=JF (id:=id) (sz:=sz) (fun v=>p.cG) hf
    exact ⟨hw,rfl,fun _=>⟨hw,trivial⟩,fun hc=>by simp [AV.closed,LK.closed] at hc⟩
   | _=>cases h
  | _=>cases h
 | .aP id sz p,v,h=>by
  cases v with
  | list k bK es=>
   cases k with
   | aP jF j=>
    have hb:((Nat.beq id jF&&Nat.beq sz bK)&&allFit p.fits es)=true:=h
    simp only [Bool.and_eq_true,Nat.beq_eq] at hb
    obtain ⟨⟨rfl,rfl⟩,hf⟩:=hb
    have hw:=JG (id:=id) (j:=j) (sz:=sz) (fun v=>p.cG) hf
    exact ⟨hw,rfl,fun _=>⟨hw,trivial⟩,fun hc=>by simp [AV.closed,LK.closed] at hc⟩
   | _=>cases h
  | _=>cases h
 | .eo u,v,h=>by
  have:=jn (show cM v u=true from h)
  subst this
  exact iF.refl _
 | .two u v,a,h=>by
  have hv:(aA.two u v).enc ((aA.two u v).bh a)=a:=vr h
  rw [hv]
  exact iF.refl _
theorem aO.cG:∀ (ps:aO) {l:List AV},ps.fits l=true→cr l (ps.enc (ps.bh l))∧(aC l=true→aC (ps.enc (ps.bh l))=true)
 | .nil,l,h=>by
  cases l with
  | nil=>exact ⟨trivial,fun h=>h⟩
  | cons _ _=>cases h
 | .cons p .nil,l,h=>by
  match l,h with
  | [],h=>cases h
  | a :: l,h=>
   have h':(p.fits a&&l.isEmpty)=true:=h
   simp only [Bool.and_eq_true,List.isEmpty_iff] at h'
   obtain ⟨h1,rfl⟩:=h'
   have d:=p.cG h1
   exact ⟨⟨d.fx,trivial⟩,fun hc=>by
    simp only [aC,Bool.and_true] at hc
    show aC [p.enc (p.bh a)]=true
    simp only [aC,Bool.and_true]
    exact d.closed hc⟩
 | .cons p (.cons q ps),l,h=>by
  cases l with
  | nil=>cases h
  | cons a l=>
   have h':(p.fits a&&(aO.cons q ps).fits l)=true:=h
   rw [Bool.and_eq_true] at h'
   have d:=p.cG h'.1
   obtain ⟨k1,k2⟩:=(aO.cons q ps).cG h'.2
   exact ⟨⟨d.fx,k1⟩,fun hc=>by
    simp only [aC,Bool.and_eq_true] at hc
    show aC (p.enc (p.bh a) :: (aO.cons q ps).enc ((aO.cons q ps).bh l))=true
    simp only [aC,Bool.and_eq_true]
    exact ⟨d.closed hc.1,k2 hc.2⟩⟩
end
theorem aA.qu (p:aA) {v:AV} {x:p.T} (h:p.dec v=some x):iF v (p.enc x):=by
 unfold aA.dec at h
 cases hf:p.fits v with
 | true=>rw [hf] at h; cases h; exact p.cG hf
 | false=>rw [hf] at h; cases h
theorem aO.qu (ps:aO) {l:List AV} {x:ps.T} (h:ps.dec l=some x):cr l (ps.enc x)∧(aC l=true→aC (ps.enc x)=true):=by
 unfold aO.dec at h
 cases hf:ps.fits l with
 | true=>rw [hf] at h; cases h; exact ps.cG hf
 | false=>rw [hf] at h; cases h
mutual
def aA.plain:aA→Bool
 | .agg ps=>ps.plain
 | .bH ps=>ps.plain
 | .list _ p=>p.plain
 | .own _ _ p=>p.plain
 | .aP _ _ p=>p.plain
 | .eo v=>cM v v
 | .two u v=>cM u u&&cM v v&&!cM u v
 | _=>true
def aO.plain:aO→Bool
 | .nil=>true
 | .cons p ps=>p.plain&&ps.plain
end
theorem mP {α:Type} {f:AV→Bool} {g:α→AV} (h:∀ x,f (g x)=true):∀ xs:List α,allFit f (xs.map g)=true
 | []=>rfl
 | x :: xs=>by simp only [List.map_cons,allFit,h x,mP h xs,Bool.and_self]
theorem vt {α:Type} {d:AV→α} {g:α→AV} (h:∀ x,d (g x)=x):∀ xs:List α,(xs.map g).map d=xs
 | []=>rfl
 | x :: xs=>by simp only [List.map_cons,h x,vt h xs]
mutual
theorem aA.aU:∀ (p:aA) (x:p.T),p.plain=true→p.fits (p.enc x)=true∧p.bh (p.enc x)=x
 | .int k,x,_=>⟨decide_eq_true rfl,rfl⟩
 | .bool,x,_=>⟨rfl,rfl⟩
 | .str,x,_=>⟨rfl,rfl⟩
 | .agg ps,x,h=>ps.aU x h
 | .bH ps,x,h=>ps.aU x h
 | .list sz p,x,h=>by
  refine ⟨?_,vt (fun y=>(p.aU y h).2) x⟩
  change ((Nat.beq sz sz || (List.map p.enc x).isEmpty)&&allFit p.fits (List.map p.enc x))=true
  rw [Nat.beq_refl,Bool.true_or,Bool.true_and]
  exact mP (fun y=>(p.aU y h).1) x
 | .own id sz p,x,h=>by
  refine ⟨?_,vt (fun y=>(p.aU y h).2) x⟩
  change ((Nat.beq id id&&Nat.beq sz sz)&&allFit p.fits (List.map p.enc x))=true
  rw [Nat.beq_refl,Nat.beq_refl,Bool.true_and,Bool.true_and]
  exact mP (fun y=>(p.aU y h).1) x
 | .aP id sz p,(x:Nat × List p.T),h=>by
  refine ⟨?_,?_⟩
  ·change ((Nat.beq id id&&Nat.beq sz sz)&&allFit p.fits (List.map p.enc x.2))=true
   rw [Nat.beq_refl,Nat.beq_refl,Bool.true_and,Bool.true_and]
   exact mP (fun y=>(p.aU y h).1) x.2
  ·change (x.1,(List.map p.enc x.2).map p.bh)=x
   rw [vt (fun y=>(p.aU y h).2) x.2]
 | .eo v,x,h=>⟨h,rfl⟩
 | .two u v,(x:Bool),h=>by
  change (cM u u&&cM v v&&!cM u v)=true at h
  simp only [Bool.and_eq_true,Bool.not_eq_true'] at h
  obtain ⟨⟨h1,h2⟩,h3⟩:=h
  cases x
  ·exact ⟨by change (cM u u || cM u v)=true; rw [h1]; rfl,h3⟩
  ·exact ⟨by change (cM v u || cM v v)=true; rw [h2,Bool.or_true],h2⟩
theorem aO.aU:∀ (ps:aO) (x:ps.T),ps.plain=true→ps.fits (ps.enc x)=true∧ps.bh (ps.enc x)=x
 | .nil,x,_=>⟨rfl,rfl⟩
 | .cons p .nil,x,h=>by
  have h':(p.plain&&true)=true:=h
  rw [Bool.and_true] at h'
  have:=p.aU x h'
  exact ⟨by change (p.fits (p.enc x)&&true)=true; rw [this.1]; rfl,this.2⟩
 | .cons p (.cons q ps),x,h=>by
  have h':(p.plain&&(aO.cons q ps).plain)=true:=h
  rw [Bool.and_eq_true] at h'
  have h1:=p.aU x.1 h'.1
  have h2:=(aO.cons q ps).aU x.2 h'.2
  refine ⟨?_,?_⟩
  ·change (p.fits (p.enc x.1)&&(aO.cons q ps).fits ((aO.cons q ps).enc x.2))=true
   rw [h1.1,h2.1]
   rfl
  ·change (p.bh (p.enc x.1),(aO.cons q ps).bh ((aO.cons q ps).enc x.2))=x
   rw [h1.2,h2.2]
   rfl
end
end Go.Am
namespace Go.Am
open Go
theorem b7 (E:Env) {t:TypeId} {i:TI} (h:E.ti t=some i) :
  ∃ gM u,E.P.info? t=some gM∧E.P.underlying t=some u∧gM.size=i.size∧jG u=i.agg∧pL E.P u=some i.k∧fP gM=i.zero:=by
 have h1:=E.HT t i h
 unfold HS at h1
 split at h1
 ·rename_i gM u h2 h3
  split at h1
  ·rename_i k hk
   cases h1
   exact ⟨gM,u,h2,h3,rfl,rfl,hk,rfl⟩
  ·cases h1
 ·cases h1
section runs
variable {P:Program} (w:World)
theorem zL {t:TypeId} {u:TypeDesc} (h:P.underlying t=some u):(isAgg t).run P w=.ok (jG u) w:=by
 unfold isAgg
 simp only [Sem.run_bind,run_underlying h,Result.andThen_ok]
 cases u <;> rfl
theorem run_sizeOf {t:TypeId} {i:TypeInfo} (h:P.info? t=some i):(sizeOf t).run P w=.ok i.size w:=by
 simp [sizeOf,typeInfo,h]
theorem jg {t:TypeId} {i:TypeInfo} {z:Value} (h:P.info? t=some i) (hz:i.zero=some z):(zeroValue t).run P w=.ok z w:=by
 simp [zeroValue,typeInfo,h,hz]
theorem wj (t:TypeId) (v:Value):(newVar t v).run P w=.ok ⟨w.heap.size,0,none⟩ (w.alloc (.cells v.cells t)):=by
 simp only [newVar,newRow,Sem.run_bind,run_newObj,Result.andThen_ok,Sem.run_pure]
 rfl
end runs
theorem wo {R:aj} {w:World} {ag:Bool} {l:List AV} {v:AV} {vs:List Value} (hm:s7 ag l=some v) (h:aK R w l vs) (h1:∀ x∈vs,x.oneCell'=true) :
  (ag=true→Rel R w v (.agg ⟨vs⟩))∧(ag=false→∃ c,vs=[c]∧Rel R w v c):=by
 unfold s7 at hm
 cases ag with
 | true=>
  simp at hm
  subst hm
  exact ⟨fun _=>.agg h h1,fun e=>by cases e⟩
 | false=>
  refine ⟨(fun e=>by cases e),fun _=>?_⟩
  simp only [Bool.false_eq_true,if_false] at hm
  split at hm
  ·cases hm
   cases h with
   | cons h t=>
    cases t
    exact ⟨_,rfl,h⟩
  ·cases hm
theorem oe {E:Env} {R:aj} {w:World} {t:TypeId} {i:TI} (hi:E.ti t=some i) {b off:Nat} {l:List AV} {vs:List Value} {v:AV}
  (hl:l.length=i.size) (hr:aK R w l vs) (h1:∀ x∈vs,x.oneCell'=true) (hc:∀ j x,vs[j]?=some x→w.cell? ⟨b,off+j,none⟩=some x) (hm:s7 i.agg l=some v) :
  ∃ c,(loadVar t ⟨b,off,none⟩).run E.P w=.ok c w∧Rel R w v c:=by
 obtain ⟨gM,u,e1,e2,e3,e4,_⟩:=b7 E hi
 obtain ⟨m1,m2⟩:=wo hm hr h1
 unfold loadVar
 simp only [Sem.run_bind,zL w e2,Result.andThen_ok,e4]
 cases ha:i.agg with
 | true=>
  refine ⟨.agg ⟨vs⟩,?_,m1 ha⟩
  have hlen:gM.size=vs.length:=by rw [e3,← hl,hr.length]
  have:=run_loadCells_list (P:=E.P) w ⟨b,off,none⟩ vs (fun j x hx=>by rw [cz]; exact hc j x hx)
  simp [run_sizeOf w e1,hlen,this]
 | false=>
  obtain ⟨c,rfl,dZ⟩:=m2 ha
  refine ⟨c,?_,dZ⟩
  have:=hc 0 c (by simp)
  simp only [Nat.add_zero] at this
  simp [run_load,this]
theorem jo {w:World} {b:Nat} {vs:List Value} {el:TypeId} {fr:Nat × Nat} (h:w.heap[b]?=some (.cells ⟨vs⟩ el fr)) (j:Nat):w.cell? ⟨b,j,none⟩=vs[j]?:=by
 simp [World.cell?,h]
theorem tZ {E:Env} {R:aj} {w:World} {β:Nat→Nat} {s:St} {a:Act} (h:bi E R w β s a) {p:SV} {c:Value} (hp:pO R w β p c) {cs:List AV} {off:Nat} (hc:mG s p=some (cs,off)) :
  ∃ b o vs,c=.pointer (some ⟨b,o+off,none⟩)∧aK R w cs vs∧(∀ x∈vs,x.oneCell'=true)∧∀ j x,vs[j]?=some x→w.cell? ⟨b,o+j,none⟩=some x:=by
 unfold mG at hc
 split at hc
 ·rename_i k ED
  split at hc
  ·rename_i eV hk
   cases hc
   obtain ⟨⟨vs,el,h1,h2,h3⟩,_⟩:=h.b.box k cs hk
   exact ⟨β k,0,vs,by rw [hp]; simp,h2,h3,fun j x hx=>by rw [jo h1]; simpa using hx⟩
  ·cases hc
 ·rename_i id ED
  split at hc
  ·rename_i eV hk
   cases hc
   cases hp with
   | @ptr _ _ b hb=>
    obtain ⟨vs,h1,h2,h3,_⟩:=h.g.obj id _ _ hk hb
    exact ⟨b,0,vs,by simp,h2,h3,fun j x hx=>by rw [jo h1]; simpa using hx⟩
  ·cases hc
 ·rename_i eV
  cases hc
  cases hp with
  | ep hr=>
   obtain ⟨vs,h1,h2,h3,_⟩:=hr.get
   exact ⟨_,_,vs,rfl,h1,h2,h3⟩
 ·cases hc
theorem pj {R:aj} {w:World} {off n:Nat} {cs l:List AV} {vs:List Value} (hs:Gm off n cs=some l) (h:aK R w cs vs) (h1:∀ x∈vs,x.oneCell'=true) :
  l.length=n∧aK R w l ((vs.drop off).take n)∧(∀ x∈(vs.drop off).take n,x.oneCell'=true)∧∀ j x,((vs.drop off).take n)[j]?=some x→vs[off+j]?=some x:=by
 obtain ⟨e1,e2⟩:=SN hs
 subst e1
 refine ⟨e2,(h.drop off).take n,fun x hx=>h1 x (List.mem_of_mem_drop (List.mem_of_mem_take hx)),fun j x hx=>?_⟩
 rw [List.getElem?_take] at hx
 split at hx
 ·rwa [List.getElem?_drop] at hx
 ·cases hx
def bU (E:Env) (R:aj) (w:World) (β:Nat→Nat) (s:St) (a:Act) (o:Oper) (s':St):Prop:=
 ∃ nx x w' R' β',(execOp a.eval o).run E.P w=.ok nx w'∧(nx=.value x∨(nx=.skip∧x=undef))∧bi E R' w' β' s' (a.put o.dst x)∧Step R w β s.boxes R' w' β' s'.boxes
section ops
variable {E:Env} {R:aj} {w:World} {β:Nat→Nat} {s:St} {a:Act} {o:Oper}
@[simp] theorem aZ (s:St) (d:Option Tmp) (x:SV):(s.put d x).boxes=s.boxes:=by
 cases d with
 | none=>rfl
 | some d=>simp only [St.put]; split <;> rfl
theorem ao (h:bi E R w β s a) {c:Value} {sv:SV} (hx:(execOp a.eval o).run E.P w=.ok (.value c) w) (hr:pO R w β sv c):bU E R w β s a o (s.put o.dst sv):=
 ⟨.value c,c,w,R,β,hx,.inl rfl,h.put o.dst hr,by rw [aZ]; exact Step.refl R w β s.boxes⟩
theorem EG {t:Bool} {x y:AV} {c d:Value} (hx:Rel R w x c) (hy:Rel R w y d):Rel R w (AQ t x y) (if t=true then c else d):=by
 unfold AQ
 split
 ·cases hx; cases hy; cases t <;> exact .bool _
 ·cases hx; cases hy
  split
  ·rename_i e; subst e; cases t <;> exact .int _ _
  ·cases t <;> exact .int _ _
 ·cases t
  ·exact hy
  ·exact hx
theorem j4 (h:bi E R w β s a) (x:Operand) (ho:o.op=.move x∨o.op=.assign x) {y:SV} (hy:bS E s.ae x=y):bU E R w β s a o (s.put o.dst y):=by
 subst hy
 refine ao h (c:=a.eval x) ?_ (aR h x)
 rcases ho with ho | ho <;> simp [execOp,ho]
theorem H4 (h:bi E R w β s a) (c x y:Operand) (ho:o.op=.pick c x y) {t:Bool} {p q:AV} (h1:bS E s.ae c=.v (.bool t)) (h2:bS E s.ae x=.v p) (h3:bS E s.ae y=.v q) :
  bU E R w β s a o (s.put o.dst (.v (AQ t p q))):=by
 have r1:=aR h c
 have r2:=aR h x
 have r3:=aR h y
 rw [h1] at r1; rw [h2] at r2; rw [h3] at r3
 refine ao h (c:=if t=true then a.eval x else a.eval y) ?_ (EG r2 r3)
 have V0:Rel R w (.bool t) (a.eval c):=r1
 generalize V1:a.eval c=cc at V0
 cases V0
 simp [execOp,ho,asBool,V1]
theorem H5 (h:bi E R w β s a) (t:TypeId) (x:Operand) (ho:o.op=.load t x) {v:AV} (hl:rv E s t (bS E s.ae x)=some v) :
  bU E R w β s a o (s.put o.dst (.v v)):=by
 unfold rv at hl
 split at hl
 ·rename_i i cs off hi hc
  split at hl
  ·rename_i l hs
   obtain ⟨b,o',vs,e,h1,h2,h3⟩:=tZ h (aR h x) hc
   obtain ⟨k1,k2,k3,k4⟩:=pj hs h1 h2
   obtain ⟨c,hc,dZ⟩:=oe (E:=E) hi (b:=b) (off:=o'+off) k1 k2 k3 (fun j y hy=>by rw [Nat.add_assoc]; exact h3 _ _ (k4 j y hy)) hl
   refine ao h (c:=c) ?_ dZ
   simp [execOp,ho,Instr.loadAt,e,Instr.sureAddr,hc]
  ·cases hl
 ·cases hl
theorem iJ {b:Nat} (hI:∀ o,¬ R.I b o) (cs:Array Value):Ext R w R (w.setRow b cs):=
 ⟨fun _ _ h=>h,fun b' o h=>bT (setRow_other w b b' cs (fun e=>hI o (e ▸ h))) o,fun _ ro h=>⟨ro,h,cm.refl ro⟩,fun b' r hb=>⟨r,by
  by_cases e:b'=b
  ·subst e
   have bP:b' < w.heap.size:=bo hb
   have hv:w.heap[b']=.loop r:=(Array.getElem?_eq_some_iff.1 hb).2
   unfold World.setRow
   rw [Array.getElem?_eq_getElem (by simpa using bP),Array.getElem_modify]
   simp [hv]
  ·exact (setRow_other w b b' cs e).trans hb,rfl,rfl,rfl,rfl,rfl⟩⟩
theorem aK.bc {cs ys:List AV} {vs us:List Value} {off:Nat} (h:aK R w cs vs) (k:aK R w ys us) (hl:off+ys.length≤cs.length) :
  aK R w (bc cs off ys) (vs.take off++us++vs.drop (off+us.length)):=by
 rw [ey cs off ys hl,← k.length]
 exact ((h.take off).append k).append (h.drop _)
theorem iK {vs us:List Value} {off n:Nat} (h:∀ x∈vs,x.oneCell'=true) (k:∀ x∈us,x.oneCell'=true):∀ x∈vs.take off++us++vs.drop n,x.oneCell'=true:=by
 intro x hx
 simp only [List.mem_append] at hx
 rcases hx with (hx | hx) | hx
 ·exact h x (List.mem_of_mem_take hx)
 ·exact k x hx
 ·exact h x (List.mem_of_mem_drop hx)
theorem jT {t:TypeId} {i:TI} (hi:E.ti t=some i) {b off:Nat} {vs:List Value} {el:TypeId} {c:Value} (hb:w.heap[b]?=some (.cells ⟨vs⟩ el (0,0)))
  (hs:c.cells.toList.length=i.size) (hl:off+c.cells.toList.length≤vs.length) (h1:∀ v∈c.cells.toList,v.oneCell'=true) :
  (storeVar t ⟨b,off,none⟩ c).run E.P w=.ok () (w.setRow b ⟨vs.take off++c.cells.toList++vs.drop (off+c.cells.toList.length)⟩):=by
 obtain ⟨gM,u,e1,e2,e3,_⟩:=b7 E hi
 have kf:=run_storeCells_at (P:=E.P) b off el c.cells.toList 0 ⟨vs⟩ w hb (by simpa using hl) h1
 have cL:c.cells.size=gM.size:=by rw [e3,← hs]; simp
 simp only [Nat.add_zero] at kf
 unfold storeVar
 simp only [Sem.run_bind,run_sizeOf w e1,Result.andThen_ok,Sem.run_ite,cL,ne_eq,not_true_eq_false,if_false]
 simpa using kf
theorem bi.EH (h:bi E R w β s a) {id b k:Nat} {cs:List AV} (hb:nth R.obj id=some (.b0 b)) (hk:dS s.boxes k=some cs):β k≠b:=by
 intro e
 exact (h.b.box k cs hk).2.2 ⟨id,_,hb,by rw [e]; rfl⟩
theorem EI (h:bi E R w β s a) (t:TypeId) (p x:Operand) (ho:o.op=.store t p x) (hd:o.dst=none) {s':St} (hs:lh E s t (bS E s.ae p) (bS E s.ae x)=some s') :
  bU E R w β s a o s':=by
 unfold lh at hs
 have rp:=aR h p
 have rx:=aR h x
 split at hs
 ·rename_i i v hi hx
  rw [hx] at rx
  split at hs
  ·rename_i fu
   simp only [Bool.and_eq_true] at fu
   obtain ⟨JH,hlen⟩:=fu
   have hlen:=Nat.eq_of_beq_eq_true hlen
   obtain ⟨c1,c2⟩:=Rel.cells rx JH
   have B8:v.cells.length=(a.eval x).cells.toList.length:=c1.length
   split at hs
   ·-- a local box
    rename_i k off WC
    rw [WC] at rp
    split at hs
    ·rename_i cs hk
     split at hs
     ·rename_i hle
      cases hs
      have hle:=Nat.le_of_ble_eq_true hle
      obtain ⟨⟨vs,el,b1,b2,b3⟩,b4,b5⟩:=h.b.box k cs hk
      have bG:=jT (E:=E) (w:=w) hi (off:=off) (c:=a.eval x) b1 (by rw [← B8]; exact hlen) (by rw [← B8,← b2.length]; exact hle) c2
      have hex:=iJ (R:=R) (w:=w) b4 ⟨vs.take off++(a.eval x).cells.toList++vs.drop (off+(a.eval x).cells.toList.length)⟩
      refine ⟨.skip,undef,w.setRow (β k) ⟨vs.take off++(a.eval x).cells.toList++vs.drop (off+(a.eval x).cells.toList.length)⟩,R,β,?_,.inr ⟨rfl,rfl⟩,?_,?_⟩
      ·simp [execOp,ho,Instr.storeAt,show a.eval p=.pointer (some ⟨β k,off,none⟩) from rp,Instr.sureAddr,bG]
      ·rw [hd]
       refine ⟨?_,?_,h.t.mono hex,h.n,h.d⟩
       ·exact h.g.bQ hex rfl (fun b hb=>setRow_other w _ b _ (fun e=>b5 (e ▸ hb))) (fun _ _ _ hi=>hi) (fun b o hi=>by have:=h.g.wf b o hi; simp; omega)
       ·refine ⟨fun k' eV gl=>?_,fun k1 k2 x1 x2 g1 g2=>?_⟩
        ·rcases eu gl with ⟨rfl,e⟩ | ⟨cL,WD⟩
         ·cases e
          exact ⟨⟨_,el,setRow_heap w _ _ _ el (0,0) b1,(b2.bc c1 hle).mono hex,iK b3 c2⟩,b4,b5⟩
         ·obtain ⟨⟨vs',Zu,d1,d2,d3⟩,d4,d5⟩:=h.b.box k' eV WD
          refine ⟨⟨vs',Zu,?_,d2.mono hex,d3⟩,d4,d5⟩
          rw [setRow_other]
          ·exact d1
          ·exact fun e=>cL (h.b.inj k' k eV cs WD hk e).symm
        ·have q1:∃ y,dS s.boxes k1=some y:=by
          rcases eu g1 with ⟨rfl,_⟩ | ⟨_,g⟩
          ·exact ⟨_,hk⟩
          ·exact ⟨_,g⟩
         have q2:∃ y,dS s.boxes k2=some y:=by
          rcases eu g2 with ⟨rfl,_⟩ | ⟨_,g⟩
          ·exact ⟨_,hk⟩
          ·exact ⟨_,g⟩
         obtain ⟨y1,q1⟩:=q1
         obtain ⟨y2,q2⟩:=q2
         exact h.b.inj k1 k2 y1 y2 q1 q2
      ·have AX:Own R β s.boxes (β k):=.inr ⟨k,cs,hk,rfl⟩
       refine ⟨hex,rfl,rfl,rfl,by simp,fun b _ hn=>setRow_other w _ b _ (fun e=>hn (e ▸ AX)),fun b _ hb=>?_,fun b o hi _ _=>hi⟩
       rcases hb with hb | ⟨k',eV,gl,e⟩
       ·exact .inl hb
       ·rcases eu gl with ⟨rfl,_⟩ | ⟨_,g⟩
        ·exact .inr ⟨k,cs,hk,e⟩
        ·exact .inr ⟨k',eV,g,e⟩
     ·cases hs
    ·cases hs
   ·-- an object
    rename_i id off WC
    rw [WC] at rp
    split at hs
    ·rename_i cs hk
     split at hs
     ·rename_i hle
      cases hs
      have hle:=Nat.le_of_ble_eq_true hle
      have WE:Rel R w (.ptr id off) (a.eval p):=rp
      generalize WG:a.eval p=pv at WE
      cases WE with
      | @ptr _ _ b hb=>
      obtain ⟨vs,b1,b2,b3,b4⟩:=h.g.obj id _ _ hk hb
      have bG:=jT (E:=E) (w:=w) hi (off:=off) (c:=a.eval x) b1 (by rw [← B8]; exact hlen) (by rw [← B8,← b2.length]; exact hle) c2
      have hex:=iJ (R:=R) (w:=w) b4 ⟨vs.take off++(a.eval x).cells.toList++vs.drop (off+(a.eval x).cells.toList.length)⟩
      refine ⟨.skip,undef,w.setRow b ⟨vs.take off++(a.eval x).cells.toList++vs.drop (off+(a.eval x).cells.toList.length)⟩,R,β,?_,.inr ⟨rfl,rfl⟩,?_,?_⟩
      ·simp [execOp,ho,Instr.storeAt,WG,Instr.sureAddr,bG]
      ·rw [hd]
       refine ⟨⟨?_,fun jF go ro hg hr=>?_,h.g.inj,fun b' o' rk=>by have:=h.g.wf b' o' rk; simp; omega,fun g eV hg=>(h.g.cw g eV hg).mono hex,by first | exact h.g.lo | exact Nat.le_succ_of_le h.g.lo⟩,?_,h.t.mono hex,h.n,h.d⟩
       ·simp [St.bY,h.g.len]
       ·rcases cV hg with ⟨rfl,rfl,_⟩ | ⟨cL,ze⟩
        ·rw [hb] at hr
         cases hr
         exact ⟨_,setRow_heap w _ _ _ _ (0,0) b1,(b2.bc c1 hle).mono hex,iK b3 c2,b4⟩
        ·refine (h.g.obj jF go ro ze hr).mono hex (fun b' kT=>setRow_other w _ b' _ (fun e=>cL ?_)) (fun _ _ _ hi=>hi)
         subst e
         exact h.g.inj id jF _ _ b' hb hr rfl kT
       ·exact h.b.bQ hex (fun k eV gl=>setRow_other w _ _ _ (h.EH hb gl)) (fun _ _ _ _ hi=>hi) (fun _ _ _ hl=>hl)
      ·have AX:Own R β s.boxes b:=.inl ⟨id,_,hb,rfl⟩
       exact ⟨hex,rfl,rfl,rfl,by simp,fun b' _ hn=>setRow_other w _ b' _ (fun e=>hn (e ▸ AX)),fun _ _ hb=>hb,fun b o hi _ _=>hi⟩
     ·cases hs
    ·cases hs
   ·cases hs
  ·cases hs
 ·cases hs
end ops
end Go.Am
namespace Go.Am
open Go
section ops
variable {E:Env} {R:aj} {w:World} {β:Nat→Nat} {s:St} {a:Act} {o:Oper}
def aj.add (R:aj) (ro:RO):aj:=⟨R.I,R.obj++[ro]⟩
theorem ij (wf:∀ b o,R.I b o→b < w.heap.size) (x:Obj) (ro:RO):Ext R w (R.add ro) (w.alloc x):=
 ⟨fun _ _ h=>h,fun b o h=>bT (heap_alloc_old w x b (wf b o h)) o,fun _ r h=>⟨r,cW h,cm.refl r⟩,.old fun b hb=>heap_alloc_old w x b hb⟩
theorem lU {ro:RO} {b:Nat} (h:Live (R.add ro) b):Live R b∨ro.has b:=by
 obtain ⟨id,r,h1,h2⟩:=h
 rcases au h1 with h1 | ⟨_,rfl⟩
 ·exact .inl ⟨id,r,h1,h2⟩
 ·exact .inr h2
theorem bi.mQ (h:bi E R w β s a) (x:Obj) (go:GO) (ro:RO) (bR:∀ b,ro.has b→b=w.heap.size) (hY:gL (R.add ro) (w.alloc x) go ro):bi E (R.add ro) (w.alloc x) β (s.dP go) a where
 g:=by
  have e:=ij (R:=R) (w:=w) h.g.wf x ro
  refine ⟨by simp [St.dP,aj.add,h.g.len],fun id g r h1 h2=>?_,fun i j ri rj b h1 h2 b1 b2=>?_,fun b o hi=>?_,fun g cs hg=>(h.g.cw g cs hg).mono e,by first | exact h.g.lo | exact Nat.le_succ_of_le h.g.lo⟩
  ·rcases au h2 with h2 | ⟨h3,rfl⟩
   ·have bP:=bI h2
    rw [h.g.len] at bP
    rcases au h1 with h1 | ⟨h4,_⟩
    ·exact (h.g.obj id g r h1 h2).mono e (fun b hb=>heap_alloc_old w x b (h.g.b6 ⟨id,r,h2,hb⟩)) (fun _ _ _ hi=>hi)
    ·omega
   ·rcases au h1 with h1 | ⟨h4,rfl⟩
    ·have:=bI h1
     rw [h3,h.g.len] at this
     omega
    ·exact hY
  ·rcases au h1 with g1 | ⟨h3,e1⟩
   ·rcases au h2 with g2 | ⟨h4,e2⟩
    ·exact h.g.inj i j ri rj b g1 g2 b1 b2
    ·have:=h.g.b6 ⟨i,ri,g1,b1⟩
     rw [e2] at b2
     have:=bR b b2
     omega
   ·rcases au h2 with g2 | ⟨h4,e2⟩
    ·have:=h.g.b6 ⟨j,rj,g2,b2⟩
     rw [e1] at b1
     have:=bR b b1
     omega
    ·omega
  ·have:=h.g.wf b o hi
   simp
   omega
 b:=h.b.bQ (ij h.g.wf x ro) (fun k cs hk=>heap_alloc_old w x _ (h.dQ (.inr ⟨k,cs,hk,rfl⟩))) (fun _ _ _ _ hi=>hi) (fun k cs hk hl=>by
  rcases lU hl with hl | hl
  ·exact hl
  ·have:=h.dQ (.inr ⟨k,cs,hk,rfl⟩)
   have hl:=bR _ hl
   omega)
 t:=h.t.mono (ij h.g.wf x ro)
 n:=h.n
 d:=h.d.mono (ij h.g.wf x ro)
theorem dA (h:bi E R w β s a) (x:Obj) (ro:RO) (bR:∀ b,ro.has b→b=w.heap.size):Step R w β s.boxes (R.add ro) (w.alloc x) β s.boxes:=
 ⟨ij h.g.wf x ro,rfl,rfl,rfl,by simp,fun b hb _=>heap_alloc_old w x b hb,fun b hb ho=>by
  rcases ho with ho | ho
  ·rcases lU ho with ho | ho
   ·exact .inl ho
   ·have ho:=bR _ ho
    omega
  ·exact .inr ho,fun _ _ hi _ _=>hi⟩
theorem ik (h:bi E R w β s a) (ro:RO):nth (R.add ro).obj s.G.length=some ro:=by
 rw [← h.g.len]
 exact fB _ _
theorem Cm {f:FuncId} (h:bi E R w β s a) {v:AV} {c:Value} {t:TypeId} (hv:Rel R w v c) (hn:v.aV=true)
  (hx:(execOp a.eval o).run E.P w=.ok (.value (.pointer (some ⟨w.heap.size,0,none⟩))) (w.alloc (.cells c.cells t))) {s':St} (ha:iI E f s o.dst t v.cells=some (true,s')) :
  bU E R w β s a o s':=by
 obtain ⟨c1,c2⟩:=Rel.cells hv hn
 unfold iI at ha
 split at ha
 ·cases ha
 ·rename_i d hd
  split at ha
  ·-- an object
   cases ha
   have hY:gL (R.add (.b0 w.heap.size)) (w.alloc (.cells c.cells t)) (.row v.cells t) (.b0 w.heap.size):=
    ⟨c.cells.toList,heap_alloc_new w _,c1.mono (ij h.g.wf _ _),c2,fun o' hi=>by have:=h.g.wf _ _ hi; omega⟩
   have da:=h.mQ (.cells c.cells t) (.row v.cells t) (.b0 w.heap.size) (by exact fun _ h=>h) hY
   refine ⟨_,.pointer (some ⟨w.heap.size,0,none⟩),_,R.add (.b0 w.heap.size),β,hx,.inl rfl,?_,?_⟩
   ·rw [hd]
    exact da.put (some d) (x:=.v (.ptr s.G.length 0)) (Rel.ptr (ik h _))
   ·rw [aZ]
    exact dA h _ _ (by exact fun _ h=>h)
  ·split at ha
   ·rename_i Zv
    injection ha with ha
    injection ha with _ hs'
    subst hs'
    have e:=zK (R:=R) (w:=w) h.g.wf (.cells c.cells t)
    let β':Nat→Nat:=fun k=>if k=d then w.heap.size else β k
    have M7:β' d=w.heap.size:=by simp [β']
    have cL:∀ k,k≠d→β' k=β k:=fun k hk=>by simp [β',hk]
    have hdn:d < a.tmps.size:=by rw [h.n]; exact Nat.le_of_ble_eq_true Zv
    have EJ:((s.kill d).yZ d v.cells).put (some d) (.lp d 0)=⟨.put d (.lp d 0) :: .kill d :: s.ae,(d,v.cells) :: s.boxes,s.G,s.marks,s.ro,s.n⟩:=by
     simp only [St.put,St.yZ,St.kill,Zv]
    refine ⟨_,.pointer (some ⟨w.heap.size,0,none⟩),_,R,β',hx,.inl rfl,?_,?_⟩
    ·rw [hd,EJ]
     refine ⟨?_,⟨fun k cs hk=>?_,fun k k' cs eV hk gl he=>?_⟩,?_,by simp [Act.put,h.n],h.d⟩
     ·exact h.g.bQ e rfl (fun b hb=>heap_alloc_old w _ b (h.g.b6 hb)) (fun _ _ _ hi=>hi) (fun b o hi=>by have:=h.g.wf b o hi; simp; omega)
     ·rcases eu hk with ⟨rfl,he⟩ | ⟨V2,hk⟩
      ·cases he
       rw [M7]
       exact ⟨⟨c.cells.toList,t,heap_alloc_new w _,c1.mono e,c2⟩,fun o' hi=>by have:=h.g.wf _ _ hi; omega,fun hl=>by have:=h.g.b6 hl; omega⟩
      ·rw [cL k (Ne.symm V2)]
       obtain ⟨⟨vs,el,b1,b2,b3⟩,b4,b5⟩:=h.b.box k cs hk
       exact ⟨⟨vs,el,(heap_alloc_old w _ _ (bo b1)).trans b1,b2.mono e,b3⟩,b4,b5⟩
     ·rcases eu hk with ⟨rfl,_⟩ | ⟨V2,hk⟩
      ·rcases eu gl with ⟨rfl,_⟩ | ⟨SO,gl⟩
       ·rfl
       ·rw [M7,cL k' (Ne.symm SO)] at he
        have:=h.dQ (.inr ⟨k',eV,gl,rfl⟩)
        omega
      ·rcases eu gl with ⟨rfl,_⟩ | ⟨SO,gl⟩
       ·rw [M7,cL k (Ne.symm V2)] at he
        have:=h.dQ (.inr ⟨k,cs,hk,rfl⟩)
        omega
       ·rw [cL k (Ne.symm V2),cL k' (Ne.symm SO)] at he
        exact h.b.inj k k' cs eV hk gl he
     ·intro i hi
      by_cases hdi:d=i
      ·subst hdi
       rw [ba]
       refine ⟨.pointer (some ⟨w.heap.size,0,none⟩),by simp [Act.put,hdn],?_⟩
       show Value.pointer _=_
       rw [M7]
      ·rw [bA hdi] at hi ⊢
       rcases Gr (l:=s.ae) (d:=d) (t:=i) with ⟨h1,h2⟩ | h1
       ·rw [h1] at hi ⊢
        obtain ⟨c',q1,q2⟩:=h.t i hi
        refine ⟨c',?_,?_⟩
        ·simp only [Act.put]
         rw [Array.getElem?_setIfInBounds_ne hdi]
         exact q1
        ·cases wq:lk s.ae i with
         | none=>trivial
         | v y=>rw [wq] at q2; exact Rel.mono e q2
         | lp k off=>
          rw [wq] at q2
          show c'=_
          rw [cL k (h2 k off wq)]
          exact q2
       ·exact absurd h1 hi
    ·rw [EJ]
     refine ⟨e,rfl,rfl,rfl,by simp,fun b hb _=>heap_alloc_old w _ b hb,fun b hb ho=>?_,fun _ _ hi _ _=>hi⟩
     rcases ho with ho | ⟨k,cs,hk,he⟩
     ·exact .inl ho
     ·rcases eu hk with ⟨rfl,_⟩ | ⟨V2,hk⟩
      ·rw [M7] at he
       omega
      ·rw [cL k (Ne.symm V2)] at he
       exact .inr ⟨k,cs,hk,he⟩
   ·cases ha
theorem dy {i:TypeInfo} {z:AV} (h:fP i=some z):∃ c,i.zero=some c∧∀ R w,Rel R w z c:=by
 unfold fP at h
 split at h
 ·rename_i c hc
  exact ⟨c,hc,fun R w=>tY h⟩
 ·cases h
theorem EL {f:FuncId} (h:bi E R w β s a) (t:TypeId) (ho:o.op=.alloc t) {i:TI} {z:AV} (hi:E.ti t=some i) (hz:i.zero=some z) (hn:z.aV=true) {s':St} (ha:iI E f s o.dst t z.cells=some (true,s')) :
  bU E R w β s a o s':=by
 obtain ⟨gM,u,e1,e2,e3,e4,e5,e6⟩:=b7 E hi
 rw [hz] at e6
 obtain ⟨c,hc,hr⟩:=dy e6
 refine Cm h (hr R w) hn (t:=t) ?_ ha
 simp [execOp,ho,Instr.alloc,jg w e1 hc,wj]
theorem JI {f:FuncId} (h:bi E R w β s a) (t:TypeId) (x:Operand) (ho:o.op=.box t x) {v:AV} (hv:bS E s.ae x=.v v) (hn:v.aV=true) {s':St} (ha:iI E f s o.dst t v.cells=some (true,s')) :
  bU E R w β s a o s':=by
 have hr:=aR h x
 rw [hv] at hr
 refine Cm h hr hn (t:=t) ?_ ha
 simp [execOp,ho,Instr.box,wj]
end ops
end Go.Am
namespace Go.Am
open Go
section types
variable {P:Program}
theorem mR:∀ {fs:List Field} {l:List (Nat × Nat × Bool)},fieldsOf P fs=some l→∀ {j o sz:Nat} {ag:Bool},nth l j=some (o,sz,ag) →
  ∃ f fi u,fs[j]?=some f∧f.offset=o∧P.info? f.type=some fi∧fi.size=sz∧P.underlying f.type=some u∧jG u=ag
 | [],l,h,j,o,sz,ag,hn=>by simp [fieldsOf] at h; subst h; simp [nth] at hn
 | f :: fs,l,h,j,o,sz,ag,hn=>by
  unfold fieldsOf at h
  split at h
  ·rename_i i u r h1 h2 h3
   cases h
   cases j with
   | zero=>simp [nth] at hn; obtain ⟨e1,e2,e3⟩:=hn; exact ⟨f,i,u,by simp,e1,h1,e2,h2,e3⟩
   | succ j=>
    obtain ⟨f',fi,u',g1,g2⟩:=mR h3 (show nth r j=some (o,sz,ag) from hn)
    exact ⟨f',fi,u',by simpa using g1,g2⟩
  ·cases h
theorem nH:∀ {fs:List Field} {l:List (Nat × Nat × Bool)},fieldsOf P fs=some l→fs.mapM (fun f=>(P.info? f.type).map fun i=>(f.offset,i.size))=some (l.map fun x=>(x.1,x.2.1))
 | [],l,h=>by simp [fieldsOf] at h; subst h; simp
 | f :: fs,l,h=>by
  unfold fieldsOf at h
  split at h
  ·rename_i i u r h1 h2 h3
   cases h
   simp [List.mapM_cons,h1,nH h3]
  ·cases h
theorem Gt {u:TypeDesc} {l:List (Nat × Nat × Bool)} (h:pL P u=some (.st l)):∃ fs,u=.struct fs∧fieldsOf P fs.toList=some l:=by
 cases u <;> simp only [pL] at h <;> try (cases h; done)
 all_goals (try (split at h <;> cases h; done))
 rename_i fs
 split at h
 ·rename_i l' hl
  cases h
  exact ⟨fs,rfl,hl⟩
 ·cases h
theorem og {u:TypeDesc} {n esz:Nat} {ag:Bool} (h:pL P u=some (.arr n esz ag)):∃ e i ue,u=.array n e∧P.info? e=some i∧i.size=esz∧P.underlying e=some ue∧jG ue=ag:=by
 cases u <;> simp only [pL] at h <;> try (cases h; done)
 all_goals (try (split at h <;> cases h; done))
 rename_i m e
 split at h
 ·rename_i i ue h1 h2
  cases h
  exact ⟨e,i,ue,rfl,h1,rfl,h2,rfl⟩
 ·cases h
theorem dN {u:TypeDesc} {e esz sY:Nat} {ag:Bool} {z:Option AV} (h:pL P u=some (.sl e esz ag sY z)) :
  ∃ i ue,u=.slice e∧P.info? e=some i∧i.size=esz∧i.bytes=sY∧P.underlying e=some ue∧jG ue=ag∧fP i=z:=by
 cases u <;> simp only [pL] at h <;> try (cases h; done)
 all_goals (try (split at h <;> cases h; done))
 rename_i e'
 split at h
 ·rename_i i ue h1 h2
  injection h with h
  injection h with g1 g2 g3 g4 g5
  subst g1; subst g2; subst g3; subst g4; subst g5
  exact ⟨i,ue,rfl,h1,rfl,rfl,h2,rfl,rfl⟩
 ·cases h
theorem kg {u:TypeDesc} (h:pL P u=some .str):u=.string:=by
 cases u <;> simp only [pL] at h <;> try (cases h; done)
 all_goals (try (split at h <;> cases h; done))
 rfl
theorem rH {u:TypeDesc} {k:IntKind} (h:pL P u=some (.int k)):u=.int k:=by
 cases u <;> simp only [pL] at h <;> try (cases h; done)
 all_goals (try (split at h <;> cases h; done))
 cases h
 rfl
theorem lV {u:TypeDesc} {k e:TypeId} {z:Option AV} (h:pL P u=some (.map k e z)):u=.map k e∧∃ i,P.info? e=some i∧fP i=z:=by
 cases u <;> simp only [pL] at h <;> try (cases h; done)
 all_goals (try (split at h <;> cases h; done))
 split at h
 ·rename_i i h1
  cases h
  exact ⟨rfl,i,h1,rfl⟩
 ·cases h
end types
section ops
variable {E:Env} {R:aj} {w:World} {β:Nat→Nat} {s:St} {a:Act} {o:Oper}
theorem zM {p q:SV} {c:Value} {n:Nat} (hp:pO R w β p c) (hm:Gn n p=some q) :
  ∃ b o,c=.pointer (some ⟨b,o,none⟩)∧pO R w β q (.pointer (some ⟨b,o+n,none⟩)):=by
 unfold Gn at hm
 split at hm
 ·cases hm
  exact ⟨_,_,hp,rfl⟩
 ·cases hm
  cases hp with
  | @ptr _ _ b hb=>exact ⟨b,_,rfl,Rel.ptr hb⟩
 ·cases hm
  cases hp with
  | @ep _ b o hr=>
   refine ⟨b,o,rfl,Rel.ep ?_⟩
   rw [wi]
   exact hr.drop n
 ·cases hm
  cases hp with
  | @gp _ _ _ _ _ b o _ ro hr dY=>
   refine ⟨b,o,rfl,Rel.gp hr ?_⟩
   cases ro with
   | none=>trivial
   | bF=>exact dY.elim
   | b0 _=>exact dY.elim
   | aP _=>exact dY.elim
   | tok f1 b1 c1=>exact ⟨dY.1,fun e=>⟨(dY.2 e).1,by rw [(dY.2 e).2,Nat.add_assoc]⟩⟩
 ·cases hm
theorem wu (h:bi E R w β s a) (t:TypeId) (x:Operand) (j:Nat) (ho:o.op=.fieldAddr t x j) {q:SV} (hq:qp E t (bS E s.ae x) j=some q) :
  bU E R w β s a o (s.put o.dst q):=by
 unfold qp at hq
 split at hq
 ·rename_i i hi
  split at hq
  ·rename_i fs hk
   split at hq
   ·rename_i off sz ag hn
    split at hq
    ·rename_i ej
     have ej:=Nat.le_of_ble_eq_true ej
     obtain ⟨gM,u,e1,e2,e3,e4,e5,e6⟩:=b7 E hi
     rw [hk] at e5
     obtain ⟨fl,rfl,hf⟩:=Gt e5
     obtain ⟨f,fi,u',g1,g2,g3,g4,g5,g6⟩:=mR hf hn
     obtain ⟨b,o',m1,m2⟩:=zM (aR h x) hq
     refine ao h ?_ m2
     have g1':fl[j]?=some f:=by simpa using g1
     have cL:¬ fi.size=0:=by omega
     simp [execOp,ho,Instr.fieldAt,run_underlying e2,g1',m1,Instr.sureAddr,fieldPlace,run_sizeOf w g3,cL,cz,g2]
    ·cases hq
   ·cases hq
  ·cases hq
 ·cases hq
theorem Cn {b o sz:Nat} {es:List AV} (h:fS R w b o sz es) {n:Nat} {e:AV} (hn:nth es n=some e):dU R w b (o+n * sz) e.cells∧e.cells.length=sz∧e.aV=true:=by
 induction es generalizing o n with
 | nil=>simp [nth] at hn
 | cons x l ih=>
  cases h with
  | cons hl ht _ h t=>
   cases n with
   | zero=>simp [nth] at hn; subst hn; exact ⟨by simpa using h,hl,ht⟩
   | succ n=>
    have:=ih t (show nth l n=some e from hn)
    rw [show o+sz+n * sz=o+(n+1) * sz by rw [Nat.add_mul]; omega] at this
    exact this
theorem wv (h:bi E R w β s a) (t:TypeId) (x ix:Operand) (ho:o.op=.indexAddr t x ix) {q:SV} (hq:qo E t (bS E s.ae x) (bS E s.ae ix)=some (true,q)) :
  bU E R w β s a o (s.put o.dst q):=by
 have rx:=aR h x
 have ri:=aR h ix
 unfold qo at hq
 split at hq
 ·rename_i i k n hi WH
  rw [WH] at ri
  have RT:Rel R w (.int k n) (a.eval ix):=ri
  generalize M8:a.eval ix=iv at RT
  cases RT
  obtain ⟨gM,u,e1,e2,e3,e4,e5,e6⟩:=b7 E hi
  split at hq
  ·-- a list
   rename_i elem esz ag sY z kk sz es hk hx
   rw [hx] at rx
   rw [hk] at e5
   obtain ⟨ie,ue,rfl,f1,f2,f3,f4,f5,f6⟩:=dN e5
   split at hq
   ·rename_i hc
    have key:∀ (u:AV),(0≤n∧n < (es.length:Int))→cr (ab es n.toNat).cells u.cells→bU E R w β s a o (s.put o.dst (.v (.ep u.cells))):=fun u wx hu=>by
     obtain ⟨B9,Gu⟩:=wx
     have dB:Rel R w (.list kk sz es) (a.eval x):=rx
     generalize fe:a.eval x=xv at dB
     cases dB with
     | ke=>simp at Gu; omega
     | iA=>simp at Gu; omega
     | lS=>simp at Gu; omega
     | mL=>simp at Gu; omega
     | lm=>simp at Gu; omega
     | @list _ _ _ b o' len cap hr hl iB JJ=>
      subst hl
      have bP:n.toNat < es.length:=by omega
      obtain ⟨e,he⟩:∃ e,nth es n.toNat=some e:=⟨es[n.toNat],by rw [aY]; exact List.getElem?_eq_getElem bP⟩
      have ej:sz=esz:=by
       simp only [Bool.or_eq_true] at hc
       rcases hc with hc | hc
       ·exact Nat.eq_of_beq_eq_true hc
       ·cases es with
        | nil=>simp at bP
        | cons _ _=>simp at hc
      obtain ⟨g1,_,_⟩:=Cn hr he
      refine ao h (c:=.pointer (some ⟨b,o'+n.toNat * sz,none⟩)) ?_ ?_
      ·have fu:0≤n∧n < (es.length:Int):=⟨B9,Gu⟩
       simp [execOp,ho,Instr.indexAt,M8,fe,asIntOf,run_underlying e2,fu,run_sizeOf w f1,f2,ej,cz]
      ·have:ab es n.toNat=e:=by simp [ab,he]
       rw [this] at hu
       exact .ep (hu.JE g1)
    split at hq
    ·rename_i p hp
     injection hq with hq
     injection hq with wx oh
     subst oh
     rw [Bool.and_eq_true] at wx
     have fu:=of_decide_eq_true wx.1
     have hd:=p.cG wx.2
     have bP:n.toNat < es.length:=by omega
     refine key _ fu (hd.cells ?_)
     obtain ⟨e,he⟩:∃ e,nth es n.toNat=some e:=⟨es[n.toNat],by rw [aY]; exact List.getElem?_eq_getElem bP⟩
     have:ab es n.toNat=e:=by simp [ab,he]
     rw [this]
     have dB:Rel R w (.list kk sz es) (a.eval x):=rx
     generalize a.eval x=xv at dB
     cases dB with
     | ke=>simp at bP
     | iA=>simp at bP
     | lS=>simp at bP
     | mL=>simp at bP
     | lm=>simp at bP
     | list hr _ _ _=>exact (Cn hr he).2.2
    ·injection hq with hq
     injection hq with wx oh
     subst oh
     exact key _ (of_decide_eq_true wx) (cr.refl _)
   ·cases hq
  ·-- a heap slice
   rename_i elem esz ag sY z id off sz len cap hk hx
   rw [hx] at rx
   rw [hk] at e5
   obtain ⟨ie,ue,rfl,f1,f2,f3,f4,f5,f6⟩:=dN e5
   split at hq
   ·rename_i hc
    have ej:=Nat.eq_of_beq_eq_true hc
    injection hq with hq
    injection hq with wx oh
    subst oh
    have fu:=of_decide_eq_true wx
    have dB:Rel R w (.kM id off sz len cap) (a.eval x):=rx
    generalize fe:a.eval x=xv at dB
    cases dB with
    | @kM _ _ _ _ _ b hb _=>
     refine ao h (c:=.pointer (some ⟨b,off+n.toNat * sz,none⟩)) ?_ (Rel.ptr hb)
     simp [execOp,ho,Instr.indexAt,M8,fe,asIntOf,run_underlying e2,fu,run_sizeOf w f1,f2,ej,cz]
   ·cases hq
  ·-- a slice that grows
   rename_i elem esz ag sY z id f' off sz len hk hx
   rw [hx] at rx
   rw [hk] at e5
   obtain ⟨ie,ue,rfl,f1,f2,f3,f4,f5,f6⟩:=dN e5
   split at hq
   ·rename_i hc
    have ej:=Nat.eq_of_beq_eq_true hc
    injection hq with hq
    injection hq with wx oh
    subst oh
    have fu:=of_decide_eq_true wx
    have dB:Rel R w (.cR id f' off sz len) (a.eval x):=rx
    generalize fe:a.eval x=xv at dB
    cases dB with
    | jm _ _=>omega
    | @cR _ _ _ _ _ cap b o' ro bR dY iB=>
     refine ao h (c:=.pointer (some ⟨b,o'+n.toNat * sz,none⟩)) ?_ (Rel.gp bR ?_)
     ·simp [execOp,ho,Instr.indexAt,M8,fe,asIntOf,run_underlying e2,fu,run_sizeOf w f1,f2,ej,cz]
     ·cases ro with
      | none=>trivial
      | bF=>exact dY.elim
      | b0 _=>exact dY.elim
      | aP _=>exact dY.elim
      | tok f1 b1 c1=>
       refine ⟨dY.1,fun e=>?_⟩
       obtain ⟨k1,k2,k3⟩:=dY.2 e
       refine ⟨k1,?_⟩
       rcases k3 with k3 | k3
       ·rw [k3,Nat.add_zero,Nat.add_mul]
       ·omega
   ·cases hq
  ·-- an array that is never written
   rename_i len esz ag cs hk hx
   rw [hx] at rx
   rw [hk] at e5
   obtain ⟨e,ie,ue,rfl,f1,f2,f3,f4⟩:=og e5
   have dB:Rel R w (.ep cs) (a.eval x):=rx
   generalize fe:a.eval x=xv at dB
   cases dB with
   | @ep _ b o' hr=>
    split at hq
    ·rename_i p hp
     split at hq
     ·rename_i hc
      rw [Bool.and_eq_true] at hc
      have hz:=Nat.eq_of_beq_eq_true hc.1
      have hl:=Nat.le_of_ble_eq_true hc.2
      injection hq with hq
      injection hq with wx oh
      subst oh
      rw [Bool.and_eq_true] at wx
      have fu:=of_decide_eq_true wx.1
      have hd:=p.cG wx.2
      have bP:n.toNat < cs.length:=by omega
      have hdr:=hr.drop n.toNat
      rw [List.drop_eq_getElem_cons bP] at hdr
      have hn:ab cs n.toNat=cs[n.toNat]:=by
       unfold ab
       rw [aY,List.getElem?_eq_getElem bP]
      rw [hn] at hd ⊢
      refine ao h (c:=.pointer (some ⟨b,o'+n.toNat * esz,none⟩)) ?_ ?_
      ·simp [execOp,ho,Instr.indexAt,M8,fe,Instr.sureAddr,asIntOf,run_underlying e2,fu,run_sizeOf w f1,f2,cz]
      ·subst hz
       rw [Nat.mul_one]
       cases hdr with
       | cons hc h1 hi dZ t=>exact .ep (.cons hc h1 hi (hd.1 _ _ _ dZ) .nil)
     ·cases hq
    ·injection hq with hq
     injection hq with wx oh
     subst oh
     have fu:=of_decide_eq_true wx
     refine ao h (c:=.pointer (some ⟨b,o'+n.toNat * esz,none⟩)) ?_ ?_
     ·simp [execOp,ho,Instr.indexAt,M8,fe,Instr.sureAddr,asIntOf,run_underlying e2,fu,run_sizeOf w f1,f2,cz]
     ·rw [wi]
      exact .ep (hr.drop _)
  ·-- an array
   rename_i len esz ag hk _
   rw [hk] at e5
   obtain ⟨e,ie,ue,rfl,f1,f2,f3,f4⟩:=og e5
   split at hq
   ·rename_i q' hm
    injection hq with hq
    injection hq with wx oh
    subst oh
    have fu:=of_decide_eq_true wx
    obtain ⟨b,o',m1,m2⟩:=zM rx hm
    refine ao h ?_ m2
    simp [execOp,ho,Instr.indexAt,M8,m1,Instr.sureAddr,asIntOf,run_underlying e2,fu,run_sizeOf w f1,f2,cz]
   ·cases hq
  ·cases hq
 ·cases hq
theorem lW {t:TypeId} {i:TypeInfo} {u:TypeDesc} (h1:E.P.info? t=some i) (h2:E.P.underlying t=some u) {off:Nat} {cs l:List AV} {vs:List Value} {v:AV} (hr:aK R w cs vs) (h3:∀ x∈vs,x.oneCell'=true)
  (AY:jG u=true→Gm off i.size cs=some l∧s7 true l=some v) (Zw:jG u=false→Gm off 1 cs=some l∧s7 false l=some v) :
  ∃ c,(part t ⟨vs⟩ off).run E.P w=.ok c w∧Rel R w v c:=by
 unfold part
 simp only [Sem.run_bind,zL w h2,Result.andThen_ok]
 cases ha:jG u with
 | true=>
  obtain ⟨g1,g2⟩:=AY ha
  obtain ⟨k1,k2,k3,k4⟩:=pj g1 hr h3
  obtain ⟨m1,_⟩:=wo g2 k2 k3
  refine ⟨_,?_,m1 rfl⟩
  have:(⟨vs⟩:Array Value).extract off (off+i.size)=⟨(vs.drop off).take i.size⟩:=by
   apply Array.ext'
   simp [List.extract_eq_take_drop]
  simp [run_sizeOf w h1]
 | false=>
  obtain ⟨g1,g2⟩:=Zw ha
  obtain ⟨k1,k2,k3,k4⟩:=pj g1 hr h3
  obtain ⟨_,m2⟩:=wo g2 k2 k3
  obtain ⟨c,hc,dZ⟩:=m2 rfl
  refine ⟨c,?_,dZ⟩
  have h0:=k4 0 c (by rw [hc]; simp)
  simp only [Nat.add_zero] at h0
  simp [h0]
theorem EM (h:bi E R w β s a) (t:TypeId) (x:Operand) (j:Nat) (ho:o.op=.field t x j) {v:AV} (hq:Ex E t (bS E s.ae x) j=some v) :
  bU E R w β s a o (s.put o.dst (.v v)):=by
 have rx:=aR h x
 unfold Ex at hq
 split at hq
 ·rename_i i cs hi hx
  rw [hx] at rx
  have dB:Rel R w (.agg cs) (a.eval x):=rx
  generalize fe:a.eval x=xv at dB
  cases dB with
  | @agg _ vs hr h1=>
  split at hq
  ·rename_i fs hk
   split at hq
   ·rename_i off sz ag hn
    obtain ⟨gM,u,e1,e2,e3,e4,e5,e6⟩:=b7 E hi
    rw [hk] at e5
    obtain ⟨fl,rfl,hf⟩:=Gt e5
    obtain ⟨f,fi,u',g1,g2,g3,g4,g5,g6⟩:=mR hf hn
    have key:∃ c,(part f.type ⟨vs⟩ off).run E.P w=.ok c w∧Rel R w v c:=by
     split at hq
     ·rename_i AY
      split at hq
      ·rename_i l hl
       exact lW g3 g5 (l:=l) hr h1 (fun _=>⟨by rw [g4]; exact hl,hq⟩) (fun hf=>by rw [g6,AY] at hf; cases hf)
      ·cases hq
     ·rename_i AY
      split at hq
      ·rename_i l hl
       exact lW g3 g5 (l:=l) hr h1 (fun hf=>by rw [g6] at hf; exact absurd hf AY) (fun _=>⟨hl,hq⟩)
      ·cases hq
    obtain ⟨c,k1,k2⟩:=key
    refine ao h ?_ k2
    have g1':fl[j]?=some f:=by simpa using g1
    simp [execOp,ho,Instr.field,run_underlying e2,g1',fe,asAgg,g2,k1]
   ·cases hq
  ·cases hq
 ·cases hq
theorem EN (h:bi E R w β s a) (t:TypeId) (x ix:Operand) (ho:o.op=.index t x ix) {v:AV} (hq:Ey E t (bS E s.ae x) (bS E s.ae ix)=some (true,v)) :
  bU E R w β s a o (s.put o.dst (.v v)):=by
 have rx:=aR h x
 have ri:=aR h ix
 unfold Ey at hq
 split at hq
 ·rename_i i l k n hi hx WH
  rw [hx] at rx
  rw [WH] at ri
  have RT:Rel R w (.int k n) (a.eval ix):=ri
  have dB:Rel R w (.str l) (a.eval x):=rx
  generalize M8:a.eval ix=iv at RT
  generalize fe:a.eval x=xv at dB
  cases RT
  cases dB
  obtain ⟨gM,u,e1,e2,e3,e4,e5,e6⟩:=b7 E hi
  split at hq
  ·rename_i hk
   rw [hk] at e5
   have:=kg e5
   subst this
   injection hq with hq
   injection hq with wx oh
   subst oh
   obtain ⟨B9,Gu⟩:=of_decide_eq_true wx
   have bP:n.toNat < l.length:=by omega
   refine ao h (c:=.int .u8 (l.getD n.toNat 0).toNat) ?_ (Rel.int _ _)
   have jU:(⟨⟨l⟩⟩:ByteArray)[n.toNat]?=some (l.getD n.toNat 0):=by
    have hs:n.toNat < (⟨⟨l⟩⟩:ByteArray).size:=bP
    rw [getElem?_pos (⟨⟨l⟩⟩:ByteArray) n.toNat hs]
    congr 1
    simp [List.getD,List.getElem?_eq_getElem bP]
    rfl
   simp [execOp,ho,Instr.index,M8,fe,asIntOf,run_underlying e2,B9,jU]
  ·cases hq
 ·rename_i i cs k n hi hx WH
  rw [hx] at rx
  rw [WH] at ri
  have RT:Rel R w (.int k n) (a.eval ix):=ri
  have dB:Rel R w (.agg cs) (a.eval x):=rx
  generalize M8:a.eval ix=iv at RT
  generalize fe:a.eval x=xv at dB
  cases RT
  cases dB with
  | @agg _ vs hr h1=>
  obtain ⟨gM,u,e1,e2,e3,e4,e5,e6⟩:=b7 E hi
  split at hq
  ·rename_i len esz ag hk
   rw [hk] at e5
   obtain ⟨e,ie,ue,rfl,f1,f2,f3,f4⟩:=og e5
   split at hq
   ·rename_i v' SP
    injection hq with hq
    injection hq with wx oh
    subst oh
    have fu:=of_decide_eq_true wx
    have key:∃ c,(part e ⟨vs⟩ (n.toNat * esz)).run E.P w=.ok c w∧Rel R w v' c:=by
     split at SP
     ·rename_i AY
      split at SP
      ·rename_i l hl
       exact lW f1 f3 (l:=l) hr h1 (fun _=>⟨by rw [f2]; exact hl,SP⟩) (fun hf=>by rw [f4,AY] at hf; cases hf)
      ·cases SP
     ·rename_i AY
      split at SP
      ·rename_i l hl
       exact lW f1 f3 (l:=l) hr h1 (fun hf=>by rw [f4] at hf; exact absurd hf AY) (fun _=>⟨hl,SP⟩)
      ·cases SP
    obtain ⟨c,k1,k2⟩:=key
    refine ao h ?_ k2
    simp [execOp,ho,Instr.index,M8,fe,asIntOf,run_underlying e2,fu,run_sizeOf w f1,f2,k1]
   ·cases hq
  ·cases hq
 ·cases hq
theorem AZ (h:bi E R w β s a) (x:Operand) (j:Nat) (ho:o.op=.extract x j) {vs:List AV} {v:AV} (hx:bS E s.ae x=.v (.bH vs)) (hn:nth vs j=some v) :
  bU E R w β s a o (s.put o.dst (.v v)):=by
 have rx:=aR h x
 rw [hx] at rx
 have dB:Rel R w (.bH vs) (a.eval x):=rx
 generalize fe:a.eval x=xv at dB
 cases dB with
 | @bH _ us hr=>
 rw [aY] at hn
 obtain ⟨c,h1,h2⟩:=hr.get hn
 refine ao h ?_ h2
 simp [execOp,ho,Instr.extract,fe,h1]
theorem fT (h:bi E R w β s a):∀ {l:List Operand} {vs:List AV},mC E s.ae l=some vs→aK R w vs (l.map a.eval)
 | [],vs,hl=>by simp [mC] at hl; subst hl; exact .nil
 | x :: l,vs,hl=>by
  unfold mC at hl
  split at hl
  ·rename_i v r h1 h2
   cases hl
   have:=aR h x
   rw [h1] at this
   exact .cons this (fT h h2)
  ·cases hl
theorem zf (h:bi E R w β s a) (g:FuncId) (x y:Array Operand) (ho:o.op=.makeFunc (.func g) x y) {p q:List AV} (hp:mC E s.ae x.toList=some p) (hq:mC E s.ae y.toList=some q) :
  bU E R w β s a o (s.put o.dst (.v (.fn g p q))):=by
 have h1:=fT h hp
 have h2:=fT h hq
 refine ao h (c:=.func (.func g) ⟨x.toList.map a.eval⟩ ⟨y.toList.map a.eval⟩) ?_ (Rel.fn h1 h2)
 have e1:x.map a.eval=⟨x.toList.map a.eval⟩:=Array.ext' (by simp)
 have e2:y.map a.eval=⟨y.toList.map a.eval⟩:=Array.ext' (by simp)
 simp [execOp,ho,Instr.makeFunc,e1,e2]
end ops
end Go.Am
namespace Go.Am
open Go
section ops
variable {E:Env} {R:aj} {w:World} {β:Nat→Nat} {s:St} {a:Act} {o:Oper}
theorem size_bytes (l:List UInt8):(⟨⟨l⟩⟩:ByteArray).size=l.length:=rfl
theorem rI (l:List UInt8):(⟨⟨l⟩⟩:ByteArray).toList=l:=by rw [ByteArray.toList_eq]
theorem A0 (l r:List UInt8):((⟨⟨l⟩⟩:ByteArray)++⟨⟨r⟩⟩)=⟨⟨l++r⟩⟩:=by
 apply ByteArray.ext
 rw [ByteArray.data_append]
 simp
theorem H6 (op:BinOp) (t:TypeId) (x y:Operand) (k k':IntKind) (n m:Int):(eqGuard op t x y (.int k n) (.int k' m)).run E.P w=.ok () w:=by
 unfold eqGuard
 cases op <;> rfl
theorem H7 (op:BinOp) (t:TypeId) (x y:Operand) (n m:ByteArray):(eqGuard op t x y (.string n) (.string m)).run E.P w=.ok () w:=by
 unfold eqGuard
 cases op <;> rfl
theorem EO (h:bi E R w β s a) (op:BinOp) (t u:TypeId) (x y:Operand) (ho:o.op=.binOp op t x y u) {p q v:AV} (hx:bS E s.ae x=.v p) (hy:bS E s.ae y=.v q) (hv:Ci op p q=some (true,v)) :
  bU E R w β s a o (s.put o.dst (.v v)):=by
 have rx:=aR h x
 have ry:=aR h y
 rw [hx] at rx
 rw [hy] at ry
 have dB:Rel R w p (a.eval x):=rx
 have pV:Rel R w q (a.eval y):=ry
 have key:∃ c,(do eqGuard op t x y (a.eval x) (a.eval y); binOp op t (a.eval x) (a.eval y):Sem Value).run E.P w=.ok c w∧Rel R w v c:=by
  generalize fe:a.eval x=xv at dB
  generalize WI:a.eval y=yv at pV
  unfold Ci at hv
  split at hv
  ·rename_i k n k' m
   cases dB
   cases pV
   simp only [Sem.run_bind,H6,Result.andThen_ok]
   split at hv
   ·injection hv with hv
    injection hv with h1 h2
    subst h2
    have hm:=of_decide_eq_true h1
    have JK:¬ m < 0:=by omega
    exact ⟨.int k (k.wrap (n * 2 ^ (min m.toNat k.bits))),by simp [binOp,Op.shift,JK],.int _ _⟩
   ·injection hv with hv
    injection hv with h1 h2
    subst h2
    have hm:=of_decide_eq_true h1
    have JK:¬ m < 0:=by omega
    exact ⟨.int k (n.fdiv (2 ^ (min m.toNat k.bits))),by simp [binOp,Op.shift,JK],.int _ _⟩
   ·rename_i Gv hs2
    split at hv
    ·rename_i JJ
     subst JJ
     split at hv
     ·cases hv; exact ⟨.int k (k.wrap (n+m)),by simp [binOp,Op.intArith],.int _ _⟩
     ·cases hv; exact ⟨.int k (k.wrap (n - m)),by simp [binOp,Op.intArith],.int _ _⟩
     ·cases hv; exact ⟨.int k (k.wrap (n * m)),by simp [binOp,Op.intArith],.int _ _⟩
     ·injection hv with hv
      injection hv with h1 h2
      subst h2
      have hm:¬ m=0:=by simpa using h1
      exact ⟨.int k (k.wrap (n.tdiv m)),by simp [binOp,Op.intDiv,hm],.int _ _⟩
     ·injection hv with hv
      injection hv with h1 h2
      subst h2
      have hm:¬ m=0:=by simpa using h1
      exact ⟨.int k (n.tmod m),by simp [binOp,Op.intDiv,hm],.int _ _⟩
     ·cases hv; exact ⟨.int k (pN k n m),by simp [binOp,Op.intBits,pN],.int _ _⟩
     ·cases hv; exact ⟨.int k (orI k n m),by simp [binOp,Op.intBits,orI],.int _ _⟩
     ·cases hv; exact ⟨.int k (HU k n m),by simp [binOp,Op.intBits,HU],.int _ _⟩
     ·cases hv; exact ⟨.bool (n == m),by simp [binOp,Op.intCmp],.bool _⟩
     ·cases hv; exact ⟨.bool (n != m),by simp [binOp,Op.intCmp],.bool _⟩
     ·cases hv; exact ⟨.bool (decide (n < m)),by simp [binOp,Op.intCmp],.bool _⟩
     ·cases hv; exact ⟨.bool (decide (n≤m)),by simp [binOp,Op.intCmp],.bool _⟩
     ·cases hv; exact ⟨.bool (decide (n > m)),by simp [binOp,Op.intCmp],.bool _⟩
     ·cases hv; exact ⟨.bool (decide (n≥m)),by simp [binOp,Op.intCmp],.bool _⟩
     ·cases hv
    ·cases hv
  ·rename_i l r
   cases dB
   cases pV
   simp only [Sem.run_bind,H7,Result.andThen_ok]
   split at hv
   ·injection hv with hv
    injection hv with h1 h2
    subst h2
    have hm:=of_decide_eq_true h1
    refine ⟨.string ⟨⟨l++r⟩⟩,?_,.str _⟩
    have SQ:¬ ((l.length+r.length:Nat):Int) > IntKind.i64.max:=by
     have:IntKind.i64.max=9223372036854775807:=by decide
     omega
    simp only [binOp,Op.stringOp,size_bytes,if_neg SQ,A0,Sem.run_pure]
   ·cases hv; exact ⟨.bool (l == r),by simp [binOp,Op.stringOp],.bool _⟩
   ·cases hv; exact ⟨.bool (!(l == r)),by simp [binOp,Op.stringOp],.bool _⟩
   ·cases hv; exact ⟨.bool (Op.bytesLess l r),by simp [binOp,Op.stringOp],.bool _⟩
   ·cases hv; exact ⟨.bool (Op.bytesLess l r || l == r),by simp [binOp,Op.stringOp],.bool _⟩
   ·cases hv; exact ⟨.bool (!(Op.bytesLess l r || l == r)),by simp [binOp,Op.stringOp],.bool _⟩
   ·cases hv; exact ⟨.bool (!(Op.bytesLess l r)),by simp [binOp,Op.stringOp],.bool _⟩
   ·cases hv
  ·cases hv
 obtain ⟨c,k1,k2⟩:=key
 refine ao h (c:=c) ?_ k2
 simp only [Sem.run_bind] at k1
 simp only [execOp,ho,Sem.run_bind,k1,Result.andThen_ok,Sem.run_pure]
theorem j5 {t:TypeId} {i:TypeInfo} {u:TypeDesc} (h1:E.P.info? t=some i) (h2:E.P.underlying t=some u) {off:Nat} {cs:List AV} {vs:List Value} {v:AV} (hr:aK R w cs vs) (h3:∀ x∈vs,x.oneCell'=true)
  (h:Gp (jG u) off i.size cs=some v):∃ c,(part t ⟨vs⟩ off).run E.P w=.ok c w∧Rel R w v c:=by
 unfold Gp at h
 cases ha:jG u with
 | true=>
  rw [ha] at h
  simp only [if_true] at h
  split at h
  ·rename_i l hl
   exact lW h1 h2 hr h3 (fun _=>⟨hl,h⟩) (fun e=>by rw [ha] at e; cases e)
  ·cases h
 | false=>
  rw [ha] at h
  simp only [Bool.false_eq_true,if_false] at h
  split at h
  ·rename_i l hl
   exact lW h1 h2 hr h3 (fun e=>by rw [ha] at e; cases e) (fun _=>⟨hl,h⟩)
  ·cases h
theorem Co {ek:TypeId→EK} {d:Nat} (ih:∀ (t:TypeId) (a b:AV) (r:Bool) (x y:Value),kN (ek t) a b=some r→Rel R w a x→Rel R w b y→(Op.equalIn d t x y).run E.P w=.ok r w) {xs ys:List AV} {vs us:List Value}
  (hx:aK R w xs vs) (uR:∀ x∈vs,x.oneCell'=true) (hy:aK R w ys us) (Nz:∀ x∈us,x.oneCell'=true) :
  ∀ (fs:List Field) (l:SI) (r:Bool),Ew E.P ek fs=some l→s8 l xs ys=some r→(Op.eqFields d ⟨vs⟩ ⟨us⟩ fs).run E.P w=.ok r w
 | [],l,r,hl,hr=>by
  simp [Ew] at hl
  subst hl
  simp [s8] at hr
  subst hr
  rfl
 | f :: fs,l,r,hl,hr=>by
  unfold Ew at hl
  split at hl
  ·cases hl
  ·rename_i hn
   split at hl
   ·rename_i i u l' h1 h2 h3
    cases hl
    unfold s8 at hr
    split at hr
    ·rename_i a b ha hb
     split at hr
     ·rename_i p q hp hq
      cases hr
      obtain ⟨c,k1,k2⟩:=j5 h1 h2 hx uR ha
      obtain ⟨c',k3,k4⟩:=j5 h1 h2 hy Nz hb
      have cL : f.name ≠ "_" := by simpa using hn
      have he:=ih f.type a b p c c' hp k2 k4
      have wy:=Co ih hx uR hy Nz fs l' q h3 hq
      simp only [Op.eqFields,cL,ne_eq,not_false_eq_true,if_true,Sem.run_bind,k1,k3,he,Result.andThen_ok]
      cases p with
      | true=>simp [wy]
      | false=>simp
     ·cases hr
    ·cases hr
   ·cases hl
theorem zN {ek:EK} {d:Nat} {e:TypeId} {i:TypeInfo} {u:TypeDesc} (h1:E.P.info? e=some i) (h2:E.P.underlying e=some u) (ih:∀ (a b:AV) (r:Bool) (x y:Value),kN ek a b=some r→Rel R w a x→Rel R w b y→(Op.equalIn d e x y).run E.P w=.ok r w) {xs ys:List AV} {vs us:List Value}
  (hx:aK R w xs vs) (uR:∀ x∈vs,x.oneCell'=true) (hy:aK R w ys us) (Nz:∀ x∈us,x.oneCell'=true) :
  ∀ (m k:Nat) (r:Bool),s8 (vW i.size (jG u) ek m k) xs ys=some r→(Op.eqItems d e i.size ⟨vs⟩ ⟨us⟩ (List.range' k m)).run E.P w=.ok r w
 | 0,k,r,hr=>by
  simp [vW,s8] at hr
  subst hr
  rfl
 | m+1,k,r,hr=>by
  unfold vW s8 at hr
  split at hr
  ·rename_i a b ha hb
   split at hr
   ·rename_i p q hp hq
    cases hr
    obtain ⟨c,k1,k2⟩:=j5 h1 h2 hx uR ha
    obtain ⟨c',k3,k4⟩:=j5 h1 h2 hy Nz hb
    have he:=ih a b p c c' hp k2 k4
    have wy:=zN h1 h2 ih hx uR hy Nz m (k+1) q hq
    simp only [List.range'_succ,Op.eqItems,Sem.run_bind,k1,k3,he,Result.andThen_ok]
    cases p with
    | true=>simpa using wy
    | false=>simp
   ·cases hr
  ·cases hr
theorem A1:∀ (n d:Nat),n≤d→∀ (t:TypeId) (a b:AV) (r:Bool) (x y:Value),kN (pM E.P n t) a b=some r→Rel R w a x→Rel R w b y→(Op.equalIn d t x y).run E.P w=.ok r w
 | 0,_,_,t,a,b,r,x,y,h,_,_=>by simp [pM,kN] at h
 | n+1,0,hd,_,_,_,_,_,_,_,_,_=>by omega
 | n+1,d+1,hd,t,a,b,r,x,y,h,hx,hy=>by
  unfold pM at h
  split at h
  ·rename_i hu
   unfold kN at h
   split at h
   all_goals (try contradiction)
   cases hx; cases hy; cases h
   exact run_equalIn_bool' w d t _ _ hu
  ·rename_i k hu
   unfold kN at h
   split at h
   all_goals (try contradiction)
   split at h
   ·rename_i hk
    subst hk
    cases hx; cases hy; cases h
    exact run_equalIn_int w d t _ k _ _ hu
   ·cases h
  ·rename_i hu
   unfold kN at h
   split at h
   all_goals (try contradiction)
   cases hx; cases hy; cases h
   rw [run_equalIn_string w d t _ _ hu,rI,rI]
  ·rename_i fs hu
   split at h
   ·simp [kN] at h
   ·rename_i hs
    split at h
    ·rename_i l hl
     unfold kN at h
     split at h
     all_goals (try contradiction)
     rename_i AT xs ys hk
     cases hk
     cases hx with
     | agg hx uR=>
     cases hy with
     | agg hy Nz=>
     have hf:E.P.fieldsOf t=fs:=by simp [Program.fieldsOf,hu]
     rw [run_equalIn_struct w d t _ _ (by rw [hf]; exact hu) (by simpa using hs),hf]
     exact Co (fun t a b r x y=>A1 n d (by omega) t a b r x y) hx uR hy Nz fs.toList _ r hl h
    ·simp [kN] at h
  ·rename_i m e hu
   split at h
   ·rename_i i ud g1 g2
    unfold kN at h
    split at h
    all_goals (try contradiction)
    rename_i AT xs ys hk
    cases hk
    cases hx with
    | agg hx uR=>
    cases hy with
    | agg hy Nz=>
    have qv:E.P.cellsOf e=i.size:=by simp [Program.cellsOf,g1]
    rw [run_equalIn_array (P:=E.P) w d _ _ hu g1,qv,List.range_eq_range']
    exact zN g1 g2 (fun a b r x y=>A1 n d (by omega) e a b r x y) hx uR hy Nz m 0 r h
   ·simp [kN] at h
  ·simp [kN] at h
theorem j6 {t:TypeId} {i:TI} (hi:E.ti t=some i) {p q:AV} {r:Bool} {x y:Value} (h:kN i.ek p q=some r) (hx:Rel R w p x) (hy:Rel R w q y) :
  (Op.equalIn 10000 t x y).run E.P w=.ok r w∧((∃ b c,x=.bool b∧y=.bool c)∨(∃ k n k' m,x=.int k n∧y=.int k' m)∨(∃ n m,x=.string n∧y=.string m)∨(∃ n m,x=.agg n∧y=.agg m∧E.P.eqGuardType E.P.depth t=false)):=by
 have zO:i.ek=tW E.P t:=by
  have:=E.HT t i hi
  unfold HS at this
  split at this
  ·split at this
   ·cases this; rfl
   ·cases this
  ·cases this
 rw [zO] at h
 have hg:kN (pM E.P 6 t) p q=some r∧((∃ l,pM E.P 6 t=.st l)→E.P.eqGuardType E.P.depth t=false):=by
  unfold tW at h
  split at h
  ·rename_i l hl
   split at h
   ·simp [kN] at h
   ·rename_i JL
    exact ⟨by rw [hl]; exact h,fun _=>by simpa using JL⟩
  ·rename_i k hk
   exact ⟨h,fun ⟨l,hl⟩=>absurd hl (hk l)⟩
 refine ⟨A1 6 10000 (by omega) t p q r x y hg.1 hx hy,?_⟩
 have h2:=hg.1
 have h3:=hg.2
 generalize pM E.P 6 t=k at h2 h3
 unfold kN at h2
 split at h2
 ·cases hx; cases hy; exact .inl ⟨_,_,rfl,rfl⟩
 ·cases hx; cases hy; exact .inr (.inl ⟨_,_,_,_,rfl,rfl⟩)
 ·cases hx; cases hy; exact .inr (.inr (.inl ⟨_,_,rfl,rfl⟩))
 ·cases hx; cases hy; exact .inr (.inr (.inr ⟨_,_,rfl,rfl,h3 ⟨_,rfl⟩⟩))
 ·cases h2
theorem JM (h:bi E R w β s a) (op:BinOp) (t u:TypeId) (x y:Operand) (ho:o.op=.binOp op t x y u) {p q:AV} {r:Bool} (hx:bS E s.ae x=.v p) (hy:bS E s.ae y=.v q) (hb:Ci op p q=none) (hv:eqO E op t p q=some r) :
  bU E R w β s a o (s.put o.dst (.v (.bool r))):=by
 have rx:=aR h x
 have ry:=aR h y
 rw [hx] at rx
 rw [hy] at ry
 have dB:Rel R w p (a.eval x):=rx
 have pV:Rel R w q (a.eval y):=ry
 have key:(do eqGuard op t x y (a.eval x) (a.eval y); binOp op t (a.eval x) (a.eval y):Sem Value).run E.P w=.ok (.bool r) w:=by
  generalize fe:a.eval x=xv at dB
  generalize WI:a.eval y=yv at pV
  unfold eqO at hv
  split at hv
  ·rename_i i hi
   obtain ⟨k1,k2⟩:=j6 hi hv dB pV
   rcases k2 with ⟨b,c,rfl,rfl⟩ | ⟨k,n,k',m,rfl,rfl⟩ | ⟨n,m,rfl,rfl⟩ | ⟨n,m,rfl,rfl,hg⟩
   ·have EP:(eqGuard .eql t x y (.bool b) (.bool c)).run E.P w=.ok () w:=rfl
    simp [EP,binOp,Op.equal,Op.maxDepth,k1]
   ·cases dB; cases pV; simp [Ci] at hb
    cases hk:i.ek <;> simp [hk,kN] at hv
    exact absurd hv.1 hb
   ·cases dB; cases pV; simp [Ci] at hb
   ·simp only [Sem.run_bind,run_eqGuard_agg w _ t x y n m hg,Result.andThen_ok,run_eql_struct,k1]
  ·rename_i i hi
   split at hv
   ·rename_i r' lr
    cases hv
    obtain ⟨k1,k2⟩:=j6 hi lr dB pV
    rcases k2 with ⟨b,c,rfl,rfl⟩ | ⟨k,n,k',m,rfl,rfl⟩ | ⟨n,m,rfl,rfl⟩ | ⟨n,m,rfl,rfl,hg⟩
    ·have EP:(eqGuard .neq t x y (.bool b) (.bool c)).run E.P w=.ok () w:=rfl
     simp [EP,binOp,Op.equal,Op.maxDepth,k1]
    ·cases dB; cases pV; simp [Ci] at hb
     cases hk:i.ek <;> simp [hk,kN] at lr
     exact absurd lr.1 hb
    ·cases dB; cases pV; simp [Ci] at hb
    ·simp only [Sem.run_bind,run_eqGuard_agg w _ t x y n m hg,Result.andThen_ok,run_neq_struct,k1]
   ·cases hv
  ·cases hv
 refine ao h (c:=.bool r) ?_ (.bool r)
 simp only [Sem.run_bind] at key
 simp only [execOp,ho,Sem.run_bind,key,Result.andThen_ok,Sem.run_pure]
theorem JN (h:bi E R w β s a) (t:TypeId) (x:Operand) (ho:o.op=.unOp .not t x) {b:Bool} (hx:bS E s.ae x=.v (.bool b)):bU E R w β s a o (s.put o.dst (.v (.bool (!b)))):=by
 have rx:=aR h x
 rw [hx] at rx
 have dB:Rel R w (.bool b) (a.eval x):=rx
 generalize fe:a.eval x=xv at dB
 cases dB
 refine ao h (c:=.bool (!b)) ?_ (Rel.bool _)
 simp [execOp,ho,Op.unary,fe]
theorem JO (h:bi E R w β s a) (t:TypeId) (x:Operand) (ho:o.op=.unOp .neg t x) {k:IntKind} {n:Int} (hx:bS E s.ae x=.v (.int k n)):bU E R w β s a o (s.put o.dst (.v (.int k (k.wrap (0 - n))))):=by
 have rx:=aR h x
 rw [hx] at rx
 have dB:Rel R w (.int k n) (a.eval x):=rx
 generalize fe:a.eval x=xv at dB
 cases dB
 refine ao h (c:=.int k (k.wrap (0 - n))) ?_ (Rel.int _ _)
 simp [execOp,ho,Op.unary,Op.intArith,fe]
theorem zP:∀ (us:List Value) (off j0:Nat) (cells:Array Value),off+j0+us.length≤cells.size →
  ((us.zipIdx j0).foldl (fun (cs:Array Value) (p:Value × Nat)=>cs.setIfInBounds (off+p.2) p.1) cells).toList=cells.toList.take (off+j0)++us++cells.toList.drop (off+j0+us.length)
 | [],off,j0,cells,_=>by simp
 | u :: us,off,j0,cells,h=>by
  have bP:off+j0 < cells.size:=by simp at h; omega
  have ih:=zP us off (j0+1) (cells.setIfInBounds (off+j0) u) (by simp at h ⊢; omega)
  simp only [List.zipIdx_cons,List.foldl_cons]
  rw [ih]
  have e:=list_seg_step cells.toList (off+j0) u us (by simp at h ⊢; omega)
  simpa [Array.toList_setIfInBounds,Nat.add_assoc] using e
theorem rJ (place:Nat→Option (Nat × Nat)):∀ {ps:List (Nat × AV)} {qs:List (Nat × Value)} {cells wz:List AV} {vs:List Value},
  aK R w (ps.map (·.2)) (qs.map (·.2))→ps.map (·.1)=qs.map (·.1)→aK R w cells vs→(∀ x∈vs,x.oneCell'=true)→vY place cells ps=some wz →
  ∃ us,Instr.fill place ⟨vs⟩ qs=some ⟨us⟩∧aK R w wz us∧∀ x∈us,x.oneCell'=true
 | [],qs,cells,wz,vs,h1,h2,h3,h4,h5=>by
  have:qs=[]:=by simpa using h2.symm
  subst this
  simp [vY] at h5
  subst h5
  exact ⟨vs,rfl,h3,h4⟩
 | (i,v) :: ps,[],cells,wz,vs,h1,h2,h3,h4,h5=>by simp at h2
 | (i,v) :: ps,(j,c) :: qs,cells,wz,vs,h1,h2,h3,h4,h5=>by
  simp only [List.map_cons,List.cons.injEq] at h2
  obtain ⟨rfl,h2⟩:=h2
  cases h1 with
  | cons hr h1=>
  unfold vY at h5
  split at h5
  ·cases h5
  ·rename_i off sz hp
   split at h5
   ·rename_i fu
    simp only [Bool.and_eq_true] at fu
    obtain ⟨⟨JH,hlen⟩,hle⟩:=fu
    have hlen:=Nat.eq_of_beq_eq_true hlen
    have hle:=Nat.le_of_ble_eq_true hle
    obtain ⟨c1,c2⟩:=Rel.cells hr JH
    have Gw:c.cells.toList.length=sz:=by rw [← c1.length]; exact hlen
    have hb:off+v.cells.length≤cells.length:=by omega
    obtain ⟨us,u1,u2,u3⟩:=rJ place h1 h2 (h3.bc c1 hb) (iK h4 c2) h5
    refine ⟨us,?_,u2,u3⟩
    have ej:c.cells.size=sz:=by simpa using Gw
    have RU:vs.length=cells.length:=h3.length.symm
    have WJ:c.cells.zipIdx.foldl (fun (cs:Array Value) (x:Value × Nat)=>cs.setIfInBounds (off+x.2) x.1) ⟨vs⟩=⟨vs.take off++c.cells.toList++vs.drop (off+c.cells.toList.length)⟩:=by
     apply Array.ext'
     rw [← Array.foldl_toList,Array.toList_zipIdx]
     have:=zP c.cells.toList off 0 ⟨vs⟩ (by simp only [List.size_toArray]; omega)
     simpa using this
    have cC:(c.cells.size≠sz || decide (off+c.cells.size > (⟨vs⟩:Array Value).size))=false:=by
     have Gv:decide (c.cells.size≠sz)=false:=by simp [ej]
     have hs2:decide (off+c.cells.size > (⟨vs⟩:Array Value).size)=false:=by
      rw [decide_eq_false_iff_not,ej]
      show ¬ off+sz > vs.length
      omega
     rw [Gv,hs2]
     rfl
    unfold Instr.fill
    simp only [hp,cC,Bool.false_eq_true,if_false]
    rw [← u1]
    exact congrArg (fun z=>Instr.fill place z qs) WJ
   ·cases h5
theorem A2 (h:bi E R w β s a):∀ {l:List (Nat × Operand)} {ps:List (Nat × AV)},Nu E s.ae l=some ps →
  aK R w (ps.map (·.2)) ((l.map fun x=>(x.1,a.eval x.2)).map (·.2))∧ps.map (·.1)=(l.map fun x=>(x.1,a.eval x.2)).map (·.1)
 | [],ps,hl=>by simp [Nu] at hl; subst hl; exact ⟨.nil,rfl⟩
 | (i,x) :: l,ps,hl=>by
  unfold Nu at hl
  split at hl
  ·rename_i v r h1 h2
   cases hl
   have hx:=aR h x
   rw [h1] at hx
   obtain ⟨g1,g2⟩:=A2 h h2
   exact ⟨.cons hx g1,by simpa using g2⟩
  ·cases hl
theorem EQ (h:bi E R w β s a) (t:TypeId) (parts:Array (Nat × Operand)) (ho:o.op=.build t parts) {v:AV} (hv:mH E s t parts.toList=some v) :
  bU E R w β s a o (s.put o.dst (.v v)):=by
 unfold mH at hv
 split at hv
 ·rename_i i ps hi M9
  split at hv
  ·rename_i z hz
   split at hv
   ·rename_i cs qv
    split at hv
    ·rename_i AY
     cases hv
     simp only [Bool.and_eq_true] at AY
     obtain ⟨AY,rm⟩:=AY
     obtain ⟨gM,u,e1,e2,e3,e4,e5,e6⟩:=b7 E hi
     rw [hz] at e6
     obtain ⟨zc,rK,Gx⟩:=dy e6
     obtain ⟨p1,p2⟩:=A2 h M9
     obtain ⟨c1,c2⟩:=Rel.cells (Gx R w) rm
     have Zx:(parts.map fun (x:Nat × Operand)=>(x.1,a.eval x.2)).toList=parts.toList.map fun x=>(x.1,a.eval x.2):=by simp
     have key:∃ us,E.P.built t (parts.toList.map fun x=>(x.1,a.eval x.2))=some ⟨us⟩∧aK R w cs us∧∀ x∈us,x.oneCell'=true:=by
      cases u <;> simp only [jG] at e4 <;> first | (rw [AY] at e4; cases e4; done) | skip
      ·rename_i n e
       simp only [pL] at e5
       split at e5
       ·rename_i ie ue f1 f2
        injection e5 with e5
        rw [← e5] at qv
        obtain ⟨us,u1,u2,u3⟩:=rJ (R:=R) (w:=w) _ p1 p2 c1 c2 qv
        refine ⟨us,?_,u2,u3⟩
        unfold Program.built
        simp only [e1,e2,rK,f1]
        rw [← u1]
        rfl
       ·cases e5
      ·rename_i fs
       simp only [pL] at e5
       split at e5
       ·rename_i l hl
        injection e5 with e5
        rw [← e5] at qv
        obtain ⟨us,u1,u2,u3⟩:=rJ (R:=R) (w:=w) _ p1 p2 c1 c2 qv
        refine ⟨us,?_,u2,u3⟩
        unfold Program.built
        simp only [e1,e2,rK,nH hl]
        rw [← u1]
        have Na:placeOf (.st l)=fun j=>(l.map fun x=>(x.1,x.2.1)).toArray[j]?:=by
         funext j
         simp only [placeOf,aY,List.getElem?_toArray,List.getElem?_map]
         cases l[j]? <;> rfl
        rw [Na]
       ·cases e5
     obtain ⟨us,u1,u2,u3⟩:=key
     refine ao h (c:=.agg ⟨us⟩) ?_ (Rel.agg u2 u3)
     have bG:=run_build (P:=E.P) w t (parts.map fun (x:Nat × Operand)=>(x.1,a.eval x.2)) ⟨us⟩ (by rw [Zx]; exact u1)
     simp only [execOp,ho,Sem.run_bind,bG,Result.andThen_ok,Sem.run_pure]
    ·cases hv
   ·cases hv
  ·cases hv
 ·cases hv
end ops
end Go.Am
