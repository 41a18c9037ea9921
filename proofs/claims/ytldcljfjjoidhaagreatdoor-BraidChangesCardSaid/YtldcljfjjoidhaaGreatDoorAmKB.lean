/- The abstract machine: lists of cells; what keeps a state's meaning; loads and stores. -/
import Derived.Test.YtldcljfjjoidhaaGreatDoorAmKA
import Derived.Laws.CopyRow
import Derived.Laws.Slices
import Derived.Laws.StructEq
import Derived.ChangeKeysEq
set_option linter.all false
namespace Go.Am
open Go
section lists
variable {α:Type}
theorem th (n:Nat) (l:List α):er n l=l.drop n:=by
 induction n generalizing l with
 | zero=>simp [er]
 | succ n ih=>cases l <;> simp [er,ih]
theorem Fz {n:Nat} {l r:List α} (h:takeN n l=some r):r=l.take n∧r.length=n:=by
 induction n generalizing l r with
 | zero=>simp [takeN] at h; subst h; simp
 | succ n ih=>
  cases l with
  | nil=>simp [takeN] at h
  | cons a l=>
   unfold takeN at h
   split at h
   ·rename_i r' hr
    cases h
    obtain ⟨h1,h2⟩:=ih hr
    exact ⟨by simp [h1],by simp [h2]⟩
   ·cases h
theorem Oa {off n:Nat} {l r:List α} (h:C0 off n l=some r):r=(l.drop off).take n∧r.length=n:=by
 unfold C0 at h
 rw [th] at h
 exact Fz h
theorem dj (l:List α) (off:Nat) (ys:List α) (h:off+ys.length≤l.length):bz l off ys=l.take off++ys++l.drop (off+ys.length):=by
 induction l generalizing off ys with
 | nil=>
  have hy:ys=[]:=List.eq_nil_of_length_eq_zero (by rw [List.length_nil] at h; omega)
  subst hy
  simp [bz]
 | cons a l ih=>
  cases ys with
  | nil=>simp [bz]
  | cons y ys=>
   cases off with
   | zero=>
    simp only [bz]
    rw [ih 0 ys (by simp at h ⊢; omega)]
    simp
   | succ n=>
    simp only [bz]
    rw [ih n (y :: ys) (by simp at h ⊢; omega)]
    rw [show n+1+(y :: ys).length=(n+(y :: ys).length)+1 by omega]
    simp
theorem vJ (l:List α) (off:Nat) (ys:List α) (h:off+ys.length≤l.length):(bz l off ys).length=l.length:=by
 rw [dj l off ys h]
 simp
 omega
end lists
section rel
variable {R:ai} {w:World}
theorem aD.length {l:List AV} {vs:List Value} (h:aD R w l vs):l.length=vs.length:=by
 induction l generalizing vs with
 | nil=>cases h; rfl
 | cons a l ih=>cases h with | cons h t=>simp [ih t]
theorem aD.get {l:List AV} {vs:List Value} (h:aD R w l vs) {i:Nat} {a:AV} (ha:l[i]?=some a):∃ c,vs[i]?=some c∧Rel R w a c:=by
 induction l generalizing vs i with
 | nil=>simp at ha
 | cons x l ih=>
  cases h with
  | cons h t=>
   cases i with
   | zero=>simp at ha; subst ha; exact ⟨_,by simp,h⟩
   | succ i=>simp at ha; obtain ⟨c,h1,h2⟩:=ih t ha; exact ⟨c,by simpa using h1,h2⟩
theorem aD.drop {l:List AV} {vs:List Value} (h:aD R w l vs) (n:Nat):aD R w (l.drop n) (vs.drop n):=by
 induction n generalizing l vs with
 | zero=>simpa using h
 | succ n ih=>cases h with
  | nil=>simpa using aD.nil
  | cons h t=>simpa using ih t
theorem aD.take {l:List AV} {vs:List Value} (h:aD R w l vs) (n:Nat):aD R w (l.take n) (vs.take n):=by
 induction n generalizing l vs with
 | zero=>simpa using aD.nil
 | succ n ih=>cases h with
  | nil=>simpa using aD.nil
  | cons h t=>simpa using aD.cons h (ih t)
theorem aD.append {l r:List AV} {vs us:List Value} (h:aD R w l vs) (k:aD R w r us):aD R w (l++r) (vs++us):=by
 induction l generalizing vs with
 | nil=>cases h; simpa using k
 | cons a l ih=>cases h with | cons h t=>exact .cons h (ih t)
theorem aD.one {a:AV} {c:Value} (h:Rel R w a c):aD R w [a] [c]:=.cons h .nil
theorem Rel.cells {a:AV} {c:Value} (h:Rel R w a c) (ht:a.aL=true):aD R w a.cells c.cells.toList∧∀ v∈c.cells.toList,v.oneCell'=true:=by
 cases h with
 | agg h h1=>exact ⟨h,h1⟩
 | aX h=>simp [AV.aL] at ht
 | bool=>exact ⟨.one (.bool _),by simp [Value.cells,Value.oneCell']⟩
 | int=>exact ⟨.one (.int _ _),by simp [Value.cells,Value.oneCell']⟩
 | str=>exact ⟨.one (.str _),by simp [Value.cells,Value.oneCell']⟩
 | gi=>exact ⟨.one .gi,by simp [Value.cells,Value.oneCell']⟩
 | ptr h=>exact ⟨.one (.ptr h),by simp [Value.cells,Value.oneCell']⟩
 | ep h=>exact ⟨.one (.ep h),by simp [Value.cells,Value.oneCell']⟩
 | iB=>exact ⟨.one .iB,by simp [Value.cells,Value.oneCell']⟩
 | gF=>exact ⟨.one .gF,by simp [Value.cells,Value.oneCell']⟩
 | kX=>exact ⟨.one .kX,by simp [Value.cells,Value.oneCell']⟩
 | kA h ho=>exact ⟨.one (.kA h ho),by simp [Value.cells,Value.oneCell']⟩
 | ka h ho=>exact ⟨.one (.ka h ho),by simp [Value.cells,Value.oneCell']⟩
 | list h hl hc hk=>exact ⟨.one (.list h hl hc hk),by simp [Value.cells,Value.oneCell']⟩
 | iL h hc=>exact ⟨.one (.iL h hc),by simp [Value.cells,Value.oneCell']⟩
 | gA h ho=>exact ⟨.one (.gA h ho),by simp [Value.cells,Value.oneCell']⟩
 | dC h ho hc=>exact ⟨.one (.dC h ho hc),by simp [Value.cells,Value.oneCell']⟩
 | gp h ho=>exact ⟨.one (.gp h ho),by simp [Value.cells,Value.oneCell']⟩
 | jc=>exact ⟨.one .jc,by simp [Value.cells,Value.oneCell']⟩
 | map h=>exact ⟨.one (.map h),by simp [Value.cells,Value.oneCell']⟩
 | bX=>exact ⟨.one .bX,by simp [Value.cells,Value.oneCell']⟩
 | fn h h'=>exact ⟨.one (.fn h h'),by simp [Value.cells,Value.oneCell']⟩
 | yield h=>exact ⟨.one (.yield h),by simp [Value.cells,Value.oneCell']⟩
 | lY=>exact ⟨.one .lY,by simp [Value.cells,Value.oneCell']⟩
 | iface h=>exact ⟨.one (.iface h),by simp [Value.cells,Value.oneCell']⟩
mutual
theorem Rel.ft:∀ {a:AV} {c:Value},Rel R w a c→Rel R w a.ft c
 | _,_,.bool b=>.bool b
 | _,_,.int k n=>.int k n
 | _,_,.str l=>.str l
 | _,_,.agg h h1=>.agg h.ft h1
 | _,_,.aX h=>.aX h.ft
 | _,_,.gi=>.gi
 | _,_,.ptr h=>.ptr h
 | _,_,.ep h=>.ep h
 | _,_,.iB=>.iB
 | _,_,.gF=>.gF
 | _,_,.kX=>.kX
 | _,_,.kA _ _=>.gF
 | _,_,.ka _ _=>.gF
 | _,_,@Rel.list _ _ .nil _ _ _ _ _ _ h hl hc hk=>.list h hl hc hk
 | _,_,@Rel.list _ _ .full _ _ _ _ _ _ h hl hc hk=>.list h hl hc hk
 | _,_,@Rel.list _ _ .dP _ _ _ _ _ _ h hl hc hk=>.list h hl hc hk
 | _,_,@Rel.list _ _ (.own _) _ _ _ _ _ _ h hl hc _=>.list h hl hc trivial
 | _,_,@Rel.list _ _ (.aU _ _) _ _ _ _ _ _ h hl hc _=>.list h hl hc trivial
 | _,_,.iL h hc=>.iL h hc
 | _,_,.gA h ho=>.gA h ho
 | _,_,.dC h ho hc=>.dC h ho hc
 | _,_,.gp h ho=>.gp h ho
 | _,_,.jc=>.jc
 | _,_,.map h=>.map h
 | _,_,.bX=>.bX
 | _,_,.fn h h'=>.fn h h'
 | _,_,.yield h=>.yield h
 | _,_,.lY=>.lY
 | _,_,.iface h=>.iface h
theorem aD.ft:∀ {l:List AV} {cs:List Value},aD R w l cs→aD R w (jQ l) cs
 | _,_,.nil=>.nil
 | _,_,.cons h t=>.cons h.ft t.ft
end
theorem cW.get {b o:Nat} {l:List AV} (h:cW R w b o l):∃ vs,aD R w l vs∧(∀ v∈vs,v.oneCell'=true)∧(∀ j v,vs[j]?=some v→w.cell? ⟨b,o+j,none⟩=some v)∧∀ j,j < l.length→R.I b (o+j):=by
 induction l generalizing o with
 | nil=>exact ⟨[],.nil,by simp,by simp,by simp⟩
 | cons a l ih=>
  cases h with
  | @cons _ _ _ c _ hc h1 hi h t=>
   obtain ⟨vs,k1,k2,k3,k4⟩:=ih t
   refine ⟨c :: vs,.cons h k1,?_,?_,?_⟩
   ·intro v hv
    rcases List.mem_cons.1 hv with rfl | hv
    ·exact h1
    ·exact k2 v hv
   ·intro j v hv
    cases j with
    | zero=>simp at hv; subst hv; exact hc
    | succ j=>simp at hv; have:=k3 j v hv; rwa [show o+1+j=o+(j+1) by omega] at this
   ·intro j hj
    cases j with
    | zero=>exact hi
    | succ j=>have:=k4 j (by simp at hj; omega); rwa [show o+1+j=o+(j+1) by omega] at this
theorem cW.make {b o:Nat} {l:List AV} {vs:List Value} (h:aD R w l vs) (h1:∀ v∈vs,v.oneCell'=true) (hc:∀ j v,vs[j]?=some v→w.cell? ⟨b,o+j,none⟩=some v) (hi:∀ j,j < l.length→R.I b (o+j)):cW R w b o l:=by
 induction l generalizing vs o with
 | nil=>exact .nil
 | cons a l ih=>
  cases h with
  | cons h t=>
   refine .cons (hc 0 _ (by simp)) (h1 _ (by simp)) (hi 0 (by simp)) h (ih t (fun v hv=>h1 v (by simp [hv])) (fun j v hv=>?_) (fun j hj=>?_))
   ·have:=hc (j+1) v (by simpa using hv); rwa [show o+(j+1)=o+1+j by omega] at this
   ·have:=hi (j+1) (by simpa using hj); rwa [show o+(j+1)=o+1+j by omega] at this
theorem cW.drop {b o:Nat} {l:List AV} (h:cW R w b o l) (n:Nat):cW R w b (o+n) (l.drop n):=by
 induction n generalizing o l with
 | zero=>simpa using h
 | succ n ih=>cases h with
  | nil=>simpa using cW.nil
  | cons hc h1 hi h t=>have:=ih t; rw [show o+1+n=o+(n+1) by omega] at this; simpa using this
end rel
theorem bY (b o n:Nat):(⟨b,o,none⟩:Addr).add n=⟨b,o+n,none⟩:=by unfold Addr.add; split <;> simp_all
section bq
variable {E:Env} {R R':ai} {w w':World} {β β':Nat→Nat} {s:St} {a:Act}
theorem mg.mono (e:Ext R w R' w') {sl:aT} {tm:Array Value} (h:mg R w β sl tm):mg R' w' β sl tm:=
 fun i hi=>let ⟨c,h1,h2⟩:=h i hi; ⟨c,h1,h2.mono e⟩
theorem cH.mono (e:Ext R w R' w'):∀ {l:List (AV × AV)} {es:List MapEntry},cH R w l es→cH R' w' l es
 | [],[],_=>trivial
 | (_,_) :: _,_ :: _,h=>⟨h.1.mono e,h.2.1.mono e,cH.mono e h.2.2⟩
 | [],_ :: _,h=>h.elim
 | _ :: _,[],h=>h.elim
theorem mh {w w':World} {b:Nat} (h:b < w.heap.size) (e:w'.heap[b]?=w.heap[b]?):b < w'.heap.size:=by
 rw [Array.getElem?_eq_getElem h] at e
 exact (Array.getElem?_eq_some_iff.1 e).1
theorem fx.mono (e:Ext R w R' w') {go:GO} {ro:RO} (h:fx R w go ro) (hb:∀ b,ro.has b→w'.heap[b]?=w.heap[b]?) (hi:∀ b o,ro.has b→R'.I b o→R.I b o):fx R' w' go ro:=by
 cases ro with
 | none=>cases go <;> first | exact h | exact h.elim
 | bl=>cases go <;> first | exact h | exact h.elim
 | bJ b=>
  have kd:=hb b rfl
  cases go with
  | dead=>exact mh h kd
  | row cs el=>obtain ⟨vs,h1,h2,h3,h4⟩:=h; exact ⟨vs,kd.trans h1,h2.mono e,h3,fun o ho=>h4 o (hi b o rfl ho)⟩
  | tok f sz el=>exact h.elim
  | aU _ _ _=>exact h.elim
  | lS ot n left _=>obtain ⟨bm,seen,c0,h1,h2,h3⟩:=h; exact ⟨bm,seen,c0,e.bJ h1,kd.trans h2,h3⟩
  | dm es sz el=>exact h.elim
  | map es=>obtain ⟨ax,clock,h1,h2,h3⟩:=h; exact ⟨ax,clock,kd.trans h1,cH.mono e h2,h3⟩
  | fk l pos=>exact kd.trans h
  | loop busy pending fn ae n params assign body defers done=>
   obtain ⟨⟨r,db,h1,h2,h3,h4,h5,h6,h7,h8,h9,Zk⟩,h10⟩:=h
   exact ⟨⟨r,db,kd.trans h1,h2,h3,h4.mono e,h5,h6,h7,h8,h9,e.bJ Zk⟩,h10⟩
  | defers o=>exact kd.trans h
 | tok f b c=>
  have kd:=hb b rfl
  cases go with
  | tok f' sz el=>
   obtain ⟨h0,cur,h1,h2,h3,h4,h5⟩:=h
   exact ⟨h0,cur,kd.trans h1,h2,h3,h4,fun o ho qz=>h5 o ho (hi b o rfl qz)⟩
  | dm es sz el=>
   obtain ⟨h0,nj,cur,vs,h1,h2,h3,h4,h5,h6,h7,h8⟩:=h
   exact ⟨h0,nj,cur,vs,kd.trans h1,h2,h3,h4,fun o ho=>h5 o (hi b o rfl ho),h6.mono e,h7,h8⟩
  | dead=>exact mh h kd
  | row cs=>exact h.elim
  | aU _ _ _=>exact h.elim
  | lS _ _ _ _=>exact h.elim
  | map es=>exact h.elim
  | fk l pos=>exact h.elim
  | loop=>exact h.elim
  | defers o=>exact h.elim
 | aU ts=>
  cases go with
  | aU fs sz el=>
   obtain ⟨h1,h2,h3⟩:=h
   refine ⟨h1,h2,fun j f t hf ht=>?_⟩
   have h4:=h3 j f t hf ht
   cases t with
   | bl=>exact h4
   | full f'=>exact h4
   | tok f' b c=>
    obtain ⟨h5,cur,k1,k2,k3,k4,k5⟩:=h4
    have hh:RO.has (.aU ts) b:=⟨j,f',c,ht⟩
    exact ⟨h5,cur,(hb b hh).trans k1,k2,k3,k4,fun o ho qz=>k5 o ho (hi b o hh qz)⟩
  | dead=>exact fun j f b c ht=>mh (h j f b c ht) (hb b ⟨j,f,c,ht⟩)
  | _=>exact h.elim
theorem Live.of {id b:Nat} {ro:RO} (h:nth R.obj id=some ro) (hb:ro.has b):Live R b:=⟨id,ro,h,hb⟩
theorem cI.bq {G:List GO} (h:cI E R w G) (e:Ext R w R' w') (ho:R'.obj=R.obj) (hb:∀ b,Live R b→w'.heap[b]?=w.heap[b]?) (hi:∀ b o,Live R b→R'.I b o→R.I b o) (wf:∀ b o,R'.I b o→b < w'.heap.size) (hd:E.lo≤w.drawn→E.lo≤w'.drawn:=by first | exact fun h=>h | exact fun h=>Nat.le_succ_of_le h):cI E R' w' G where
 lo:=hd h.lo
 len:=by rw [ho]; exact h.len
 obj:=fun id go ro hg hr=>by
  rw [ho] at hr
  exact (h.obj id go ro hg hr).mono e (fun b Rb=>hb b (.of hr Rb)) (fun b o Rb=>hi b o (.of hr Rb))
 inj:=fun i j ri rj b h1 h2=>by rw [ho] at h1 h2; exact h.inj i j ri rj b h1 h2
 wf:=wf
 bN:=fun g cs hg=>(h.bN g cs hg).mono e
theorem Ju.bq {bx:b8} (h:Ju R w β bx) (e:Ext R w R' w') (hb:∀ k cs,cG bx k=some cs→w'.heap[β k]?=w.heap[β k]?) (hi:∀ k cs o,cG bx k=some cs→R'.I (β k) o→R.I (β k) o) (hl:∀ k cs,cG bx k=some cs→Live R' (β k)→Live R (β k)):Ju R' w' β bx where
 box:=fun k cs hk=>by
  obtain ⟨⟨vs,el,h1,h2,h3⟩,h4,h5⟩:=h.box k cs hk
  exact ⟨⟨vs,el,(hb k cs hk).trans h1,h2.mono e,h3⟩,fun o ho=>h4 o (hi k cs o hk ho),fun zg=>h5 (hl k cs hk zg)⟩
 inj:=h.inj
theorem nP.mono (e:Ext R w R' w'):∀ {l:List Nat} {ds:List Deferred},nP R l ds→nP R' l ds
 | [],[],_=>trivial
 | _ :: _,_ :: _,h=>let ⟨⟨b,h1,h2⟩,h3⟩:=h; ⟨⟨b,e.bJ h1,h2⟩,nP.mono e h3⟩
 | [],_ :: _,h=>h.elim
 | _ :: _,[],h=>h.elim
theorem aY.bq (h:aY E R w β s a) (e:Ext R w R' w') (ho:R'.obj=R.obj) (hb:∀ b,Own R β s.boxes b→w'.heap[b]?=w.heap[b]?) (hi:∀ b o,Own R β s.boxes b→R'.I b o→R.I b o) (wf:∀ b o,R'.I b o→b < w'.heap.size) (hd:E.lo≤w.drawn→E.lo≤w'.drawn:=by first | exact fun h=>h | exact fun h=>Nat.le_succ_of_le h):aY E R' w' β s a where
 g:=h.g.bq e ho (fun b hl=>hb b (.inl hl)) (fun b o hl=>hi b o (.inl hl)) wf hd
 b:=h.b.bq e (fun k cs hk=>hb _ (.inr ⟨k,cs,hk,rfl⟩)) (fun k cs o hk=>hi _ o (.inr ⟨k,cs,hk,rfl⟩)) (fun k cs _ hl=>by obtain ⟨id,ro,h1,h2⟩:=hl; rw [ho] at h1; exact ⟨id,ro,h1,h2⟩)
 t:=h.t.mono e
 n:=h.n
 d:=h.d.mono e
theorem aV {w:World} {b:Nat} {o:Obj} (h:w.heap[b]?=some o):b < w.heap.size:=(Array.getElem?_eq_some_iff.1 h).1
theorem fx.lt {go:GO} {ro:RO} (h:fx R w go ro) {b:Nat} (hb:ro.has b):b < w.heap.size:=by
 cases ro with
 | none=>exact hb.elim
 | bl=>exact hb.elim
 | bJ x=>
  have hb:b=x:=hb
  subst hb
  cases go with
  | dead=>exact h
  | row cs el=>obtain ⟨vs,h1,_⟩:=h; exact aV h1
  | tok f sz el=>exact h.elim
  | aU _ _ _=>exact h.elim
  | lS ot n left _=>obtain ⟨bm,seen,c0,_,h2,_⟩:=h; exact aV h2
  | dm es sz el=>exact h.elim
  | map es=>obtain ⟨ax,clock,h1,_⟩:=h; exact aV h1
  | fk l pos=>exact aV h
  | loop=>obtain ⟨⟨r,db,h1,_⟩,_⟩:=h; exact aV h1
  | defers o=>exact aV h
 | tok f x c=>
  have hb:b=x:=hb
  subst hb
  cases go with
  | tok f' sz el=>obtain ⟨_,cur,h1,_⟩:=h; exact aV h1
  | dm es sz el=>obtain ⟨_,_,cur,vs,h1,_⟩:=h; exact aV h1
  | dead=>exact h
  | row cs=>exact h.elim
  | aU _ _ _=>exact h.elim
  | lS _ _ _ _=>exact h.elim
  | map es=>exact h.elim
  | fk l pos=>exact h.elim
  | loop=>exact h.elim
  | defers o=>exact h.elim
 | aU ts=>
  obtain ⟨j,f,c,ht⟩:=hb
  cases go with
  | aU fs sz el=>
   obtain ⟨h1,h2,h3⟩:=h
   have bT:=bu ht
   rw [h1] at bT
   obtain ⟨f',hf⟩:∃ f',nth fs j=some f':=⟨fs[j],by rw [aR]; exact List.getElem?_eq_getElem bT⟩
   obtain ⟨_,cur,k1,_⟩:=h3 j f' _ hf ht
   exact aV k1
  | dead=>exact h j f b c ht
  | _=>exact h.elim
theorem cI.bI {G:List GO} (h:cI E R w G) {b:Nat} (hl:Live R b):b < w.heap.size:=by
 obtain ⟨id,ro,h1,h2⟩:=hl
 have bT:=bu h1
 rw [h.len] at bT
 obtain ⟨go,gf⟩:∃ go,nth G id=some go:=⟨G[id],by rw [aR]; exact List.getElem?_eq_getElem bT⟩
 exact (h.obj id go ro gf h1).lt h2
theorem aY.dh (h:aY E R w β s a) {b:Nat} (ho:Own R β s.boxes b):b < w.heap.size:=by
 rcases ho with hl | ⟨k,cs,hk,rfl⟩
 ·exact h.g.bI hl
 ·obtain ⟨⟨vs,el,h1,_⟩,_⟩:=h.b.box k cs hk
  exact aV h1
theorem bK {w w':World} {b:Nat} (h:w'.heap[b]?=w.heap[b]?) (o:Nat):w'.cell? ⟨b,o,none⟩=w.cell? ⟨b,o,none⟩:=by simp [World.cell?,h]
theorem qA (wf:∀ b o,R.I b o→b < w.heap.size) (x:Obj):Ext R w R (w.alloc x):=
 ⟨fun _ _ h=>h,fun b o h=>bK (heap_alloc_old w x b (wf b o h)) o,fun _ ro h=>⟨ro,h,bW.refl ro⟩,.old fun b hb=>heap_alloc_old w x b hb⟩
theorem aY.alloc (h:aY E R w β s a) (x:Obj):aY E R (w.alloc x) β s a:=
 h.bq (qA h.g.wf x) rfl (fun b hb=>heap_alloc_old w x b (h.dh hb)) (fun _ _ _ hi=>hi) (fun b o hi=>by have:=h.g.wf b o hi; simp; omega)
end bq
end Go.Am
namespace Go.Am
open Go
theorem FA {a b:AV} (h:Ft a b=true):a=b:=by
 unfold Ft at h
 split at h
 all_goals (first | (cases h; done) | skip)
 all_goals (try simp only [Bool.and_eq_true,beq_iff_eq,Nat.beq_eq] at h)
 all_goals (simp [*])
mutual
theorem gW:∀ {a b:AV},dp a b=true→a=b:=by
 intro a b h
 unfold dp at h
 split at h
 ·simp only [Bool.and_eq_true,Nat.beq_eq] at h; rw [h.1.1,eI h.1.2,eI h.2]
 ·rw [eI h]
 ·rw [eI h]
 ·rw [eI h]
 ·simp only [Bool.and_eq_true,Nat.beq_eq] at h; rw [h.1,eI h.2]
 ·simp only [Bool.and_eq_true,Nat.beq_eq] at h; rw [h.1,eI h.2]
 ·simp only [Bool.and_eq_true,Nat.beq_eq] at h; rw [h.1,eI h.2]
 ·simp only [Bool.and_eq_true,Nat.beq_eq] at h; rw [h.1.1,h.1.2,eI h.2]
 ·simp only [Bool.and_eq_true,Nat.beq_eq] at h; rw [h.1.1.1,h.1.1.2,h.1.2,eI h.2]
 ·exact FA h
theorem eI:∀ {l r:List AV},kv l r=true→l=r:=by
 intro l r h
 unfold kv at h
 split at h
 ·rfl
 ·rw [Bool.and_eq_true] at h; rw [gW h.1,eI h.2]
 ·cases h
end
def xH (a b:AV):Prop:=∀ (R:ai) (w:World) (c:Value),Rel R w a c→Rel R w b c
def ca:List AV→List AV→Prop
 | [],[]=>True
 | a :: l,b :: r=>xH a b∧ca l r
 | _,_=>False
theorem xH.refl (a:AV):xH a a:=fun _ _ _ h=>h
theorem ca.refl:∀ l:List AV,ca l l
 | []=>trivial
 | a :: l=>⟨xH.refl a,ca.refl l⟩
theorem ca.length:∀ {l r:List AV},ca l r→l.length=r.length
 | [],[],_=>rfl
 | _ :: _,_ :: _,h=>by simp [ca.length h.2]
 | [],_ :: _,h=>h.elim
 | _ :: _,[],h=>h.elim
theorem ca.rel {R:ai} {w:World}:∀ {l r:List AV} {cs:List Value},ca l r→aD R w l cs→aD R w r cs
 | [],[],_,_,h=>h
 | _ :: _,_ :: _,_,k,.cons h t=>.cons (k.1 _ _ _ h) (ca.rel k.2 t)
 | [],_ :: _,_,h,_=>h.elim
 | _ :: _,[],_,h,_=>h.elim
theorem ca.FB {R:ai} {w:World}:∀ {l r:List AV} {b o:Nat},ca l r→cW R w b o l→cW R w b o r
 | [],[],_,_,_,_=>.nil
 | _ :: _,_ :: _,_,_,k,.cons hc h1 hi h t=>.cons hc h1 hi (k.1 _ _ _ h) (ca.FB k.2 t)
 | [],_ :: _,_,_,h,_=>h.elim
 | _ :: _,[],_,_,h,_=>h.elim
theorem ca.append:∀ {a b c d:List AV},ca a b→ca c d→ca (a++c) (b++d)
 | [],[],_,_,_,h=>h
 | _ :: _,_ :: _,_,_,k,h=>⟨k.1,ca.append k.2 h⟩
 | [],_ :: _,_,_,h,_=>h.elim
 | _ :: _,[],_,_,h,_=>h.elim
structure gE (v u:AV):Prop where
 ft:xH v u
 aX:u.aL=v.aL
 cells:v.aL=true→ca v.cells u.cells
 closed:v.closed=true→u.closed=true
theorem sJ {u v a:AV} (h:(an.two u v).fits a=true):(an.two u v).enc ((an.two u v).bf a)=a:=by
 change (dp a u || dp a v)=true at h
 change (bif dp a v then v else u)=a
 cases hs:dp a v with
 | true=>exact (gW hs).symm
 | false=>
  rw [hs,Bool.or_false] at h
  exact (gW h).symm
theorem gE.refl (v:AV):gE v v:=⟨xH.refl v,rfl,fun _=>ca.refl _,fun h=>h⟩
theorem Br {a b:IntKind} (h:N5 a b=true):a=b:=of_decide_eq_true h
theorem py {α:Type} {f:AV→Bool} {d:AV→α} {g:α→AV} (C4:∀ v,f v=true→gE v (g (d v))) {R:ai} {w:World} :
  ∀ {es:List AV} {b o sz:Nat},allFit f es=true→e7 R w b o sz es→e7 R w b o sz ((es.map d).map g)
 | [],b,o,sz,_,_=>.nil
 | e :: es,b,o,sz,h,hr=>by
  simp only [allFit,Bool.and_eq_true] at h
  cases hr with
  | cons hl ht hk hc t=>
   have d':=C4 e h.1
   have wc:=d'.cells ht
   exact .cons (by rw [← wc.length,hl]) (by rw [d'.aX,ht]) (d'.closed hk) (wc.FB hc) (py C4 h.2 t)
theorem Ec {R:ai} {w:World} {b o sz bp:Nat} {es:List AV} (h:es=[]∨sz=bp) (hr:e7 R w b o bp es):e7 R w b o sz es:=by
 rcases h with rfl | rfl
 ·exact .nil
 ·exact hr
theorem Ed {α:Type} {f:AV→Bool} {d:AV→α} {g:α→AV} (C4:∀ v,f v=true→gE v (g (d v))) {k:LK} {sz bp:Nat} {es:List AV} (hs:es=[]∨sz=bp) (h:allFit f es=true) :
  xH (.list k bp es) (.list .dP sz ((es.map d).map g)):=fun R w c hr=>by
 cases hr with
 | iB=>exact .gF
 | gF=>exact .gF
 | kX=>exact .kX
 | kA _ _=>exact .gF
 | ka _ _=>exact .gF
 | list hr hlen hc hk=>exact .list (py C4 h (Ec hs hr)) (by simp [hlen]) hc trivial
theorem FC {α:Type} {f:AV→Bool} {d:AV→α} {g:α→AV} (C4:∀ v,f v=true→gE v (g (d v))) {id sz:Nat} {es:List AV} (h:allFit f es=true) :
  xH (.list (.own id) sz es) (.list (.own id) sz ((es.map d).map g)):=fun R w c hr=>by
 cases hr with
 | kA h1 h2=>exact .kA h1 h2
 | list hr hlen hc hk=>exact .list (py C4 h hr) (by simp [hlen]) hc hk
theorem FD {α:Type} {f:AV→Bool} {d:AV→α} {g:α→AV} (C4:∀ v,f v=true→gE v (g (d v))) {id j sz:Nat} {es:List AV} (h:allFit f es=true) :
  xH (.list (.aU id j) sz es) (.list (.aU id j) sz ((es.map d).map g)):=fun R w c hr=>by
 cases hr with
 | ka h1 h2=>exact .ka h1 h2
 | list hr hlen hc hk=>exact .list (py C4 h hr) (by simp [hlen]) hc hk
mutual
theorem an.cm:∀ (p:an) {v:AV},p.fits v=true→gE v (p.enc (p.bf v))
 | .int k,v,h=>by
  cases v with
  | int k' n=>
   have hk:N5 k k'=true:=h
   rw [Br hk]
   exact gE.refl _
  | _=>cases h
 | .bool,v,h=>by
  cases v with
  | bool b=>exact gE.refl _
  | _=>cases h
 | .str,v,h=>by
  cases v with
  | str b=>exact gE.refl _
  | _=>cases h
 | .agg ps,v,h=>by
  cases v with
  | agg cs=>
   obtain ⟨h1,h2⟩:=ps.cm (show ps.fits cs=true from h)
   exact ⟨fun R w c hr=>by cases hr with | agg hr tj=>exact .agg (h1.rel hr) tj,rfl,fun _=>h1,fun hc=>by
    have sf:aS cs=true:=by simpa [AV.closed] using hc
    show AV.closed (.agg (ps.enc (ps.bf cs)))=true
    simp only [AV.closed]; exact h2 sf⟩
  | _=>cases h
 | .aX ps,v,h=>by
  cases v with
  | aX cs=>
   obtain ⟨h1,h2⟩:=ps.cm (show ps.fits cs=true from h)
   exact ⟨fun R w c hr=>by cases hr with | aX hr=>exact .aX (h1.rel hr),rfl,fun hn=>by simp [AV.aL] at hn,fun hc=>by
    have sf:aS cs=true:=by simpa [AV.closed] using hc
    show AV.closed (.aX (ps.enc (ps.bf cs)))=true
    simp only [AV.closed]; exact h2 sf⟩
  | _=>cases h
 | .list sz p,v,h=>by
  cases v with
  | list k bp es=>
   have hb:((Nat.beq sz bp || es.isEmpty)&&allFit p.fits es)=true:=h
   simp only [Bool.and_eq_true,Bool.or_eq_true,Nat.beq_eq,List.isEmpty_iff] at hb
   have hw:=Ed (k:=k) (fun v=>p.cm) hb.1.symm hb.2
   exact ⟨hw,rfl,fun _=>⟨hw,trivial⟩,fun _=>rfl⟩
  | _=>cases h
 | .own id sz p,v,h=>by
  cases v with
  | list k bp es=>
   cases k with
   | own iu=>
    have hb:((Nat.beq id iu&&Nat.beq sz bp)&&allFit p.fits es)=true:=h
    simp only [Bool.and_eq_true,Nat.beq_eq] at hb
    obtain ⟨⟨rfl,rfl⟩,hf⟩:=hb
    have hw:=FC (id:=id) (sz:=sz) (fun v=>p.cm) hf
    exact ⟨hw,rfl,fun _=>⟨hw,trivial⟩,fun hc=>by simp [AV.closed,LK.closed] at hc⟩
   | _=>cases h
  | _=>cases h
 | .aU id sz p,v,h=>by
  cases v with
  | list k bp es=>
   cases k with
   | aU iu j=>
    have hb:((Nat.beq id iu&&Nat.beq sz bp)&&allFit p.fits es)=true:=h
    simp only [Bool.and_eq_true,Nat.beq_eq] at hb
    obtain ⟨⟨rfl,rfl⟩,hf⟩:=hb
    have hw:=FD (id:=id) (j:=j) (sz:=sz) (fun v=>p.cm) hf
    exact ⟨hw,rfl,fun _=>⟨hw,trivial⟩,fun hc=>by simp [AV.closed,LK.closed] at hc⟩
   | _=>cases h
  | _=>cases h
 | .iq u,v,h=>by
  have:=gW (show dp v u=true from h)
  subst this
  exact gE.refl _
 | .two u v,a,h=>by
  have hv:(an.two u v).enc ((an.two u v).bf a)=a:=sJ h
  rw [hv]
  exact gE.refl _
theorem aF.cm:∀ (ps:aF) {l:List AV},ps.fits l=true→ca l (ps.enc (ps.bf l))∧(aS l=true→aS (ps.enc (ps.bf l))=true)
 | .nil,l,h=>by
  cases l with
  | nil=>exact ⟨trivial,fun h=>h⟩
  | cons _ _=>cases h
 | .cons p .nil,l,h=>by
  match l,h with
  | [],h=>cases h
  | a :: l,h=>
   have h':(p.fits a&&l.isEmpty)=true:=h
   simp only [Bool.and_eq_true,List.isEmpty_iff] at h'
   obtain ⟨h1,rfl⟩:=h'
   have d:=p.cm h1
   exact ⟨⟨d.ft,trivial⟩,fun hc=>by
    simp only [aS,Bool.and_true] at hc
    show aS [p.enc (p.bf a)]=true
    simp only [aS,Bool.and_true]
    exact d.closed hc⟩
 | .cons p (.cons q ps),l,h=>by
  cases l with
  | nil=>cases h
  | cons a l=>
   have h':(p.fits a&&(aF.cons q ps).fits l)=true:=h
   rw [Bool.and_eq_true] at h'
   have d:=p.cm h'.1
   obtain ⟨k1,k2⟩:=(aF.cons q ps).cm h'.2
   exact ⟨⟨d.ft,k1⟩,fun hc=>by
    simp only [aS,Bool.and_eq_true] at hc
    show aS (p.enc (p.bf a) :: (aF.cons q ps).enc ((aF.cons q ps).bf l))=true
    simp only [aS,Bool.and_eq_true]
    exact ⟨d.closed hc.1,k2 hc.2⟩⟩
end
theorem an.ou (p:an) {v:AV} {x:p.T} (h:p.dec v=some x):gE v (p.enc x):=by
 unfold an.dec at h
 cases hf:p.fits v with
 | true=>rw [hf] at h; cases h; exact p.cm hf
 | false=>rw [hf] at h; cases h
theorem aF.ou (ps:aF) {l:List AV} {x:ps.T} (h:ps.dec l=some x):ca l (ps.enc x)∧(aS l=true→aS (ps.enc x)=true):=by
 unfold aF.dec at h
 cases hf:ps.fits l with
 | true=>rw [hf] at h; cases h; exact ps.cm hf
 | false=>rw [hf] at h; cases h
mutual
def an.plain:an→Bool
 | .agg ps=>ps.plain
 | .aX ps=>ps.plain
 | .list _ p=>p.plain
 | .own _ _ p=>p.plain
 | .aU _ _ p=>p.plain
 | .iq v=>dp v v
 | .two u v=>dp u u&&dp v v&&!dp u v
 | _=>true
def aF.plain:aF→Bool
 | .nil=>true
 | .cons p ps=>p.plain&&ps.plain
end
theorem k9 {α:Type} {f:AV→Bool} {g:α→AV} (h:∀ x,f (g x)=true):∀ xs:List α,allFit f (xs.map g)=true
 | []=>rfl
 | x :: xs=>by simp only [List.map_cons,allFit,h x,k9 h xs,Bool.and_self]
theorem sK {α:Type} {d:AV→α} {g:α→AV} (h:∀ x,d (g x)=x):∀ xs:List α,(xs.map g).map d=xs
 | []=>rfl
 | x :: xs=>by simp only [List.map_cons,h x,sK h xs]
mutual
theorem an.bn:∀ (p:an) (x:p.T),p.plain=true→p.fits (p.enc x)=true∧p.bf (p.enc x)=x
 | .int k,x,_=>⟨decide_eq_true rfl,rfl⟩
 | .bool,x,_=>⟨rfl,rfl⟩
 | .str,x,_=>⟨rfl,rfl⟩
 | .agg ps,x,h=>ps.bn x h
 | .aX ps,x,h=>ps.bn x h
 | .list sz p,x,h=>by
  refine ⟨?_,sK (fun y=>(p.bn y h).2) x⟩
  change ((Nat.beq sz sz || (List.map p.enc x).isEmpty)&&allFit p.fits (List.map p.enc x))=true
  rw [Nat.beq_refl,Bool.true_or,Bool.true_and]
  exact k9 (fun y=>(p.bn y h).1) x
 | .own id sz p,x,h=>by
  refine ⟨?_,sK (fun y=>(p.bn y h).2) x⟩
  change ((Nat.beq id id&&Nat.beq sz sz)&&allFit p.fits (List.map p.enc x))=true
  rw [Nat.beq_refl,Nat.beq_refl,Bool.true_and,Bool.true_and]
  exact k9 (fun y=>(p.bn y h).1) x
 | .aU id sz p,(x:Nat × List p.T),h=>by
  refine ⟨?_,?_⟩
  ·change ((Nat.beq id id&&Nat.beq sz sz)&&allFit p.fits (List.map p.enc x.2))=true
   rw [Nat.beq_refl,Nat.beq_refl,Bool.true_and,Bool.true_and]
   exact k9 (fun y=>(p.bn y h).1) x.2
  ·change (x.1,(List.map p.enc x.2).map p.bf)=x
   rw [sK (fun y=>(p.bn y h).2) x.2]
 | .iq v,x,h=>⟨h,rfl⟩
 | .two u v,(x:Bool),h=>by
  change (dp u u&&dp v v&&!dp u v)=true at h
  simp only [Bool.and_eq_true,Bool.not_eq_true'] at h
  obtain ⟨⟨h1,h2⟩,h3⟩:=h
  cases x
  ·exact ⟨by change (dp u u || dp u v)=true; rw [h1]; rfl,h3⟩
  ·exact ⟨by change (dp v u || dp v v)=true; rw [h2,Bool.or_true],h2⟩
theorem aF.bn:∀ (ps:aF) (x:ps.T),ps.plain=true→ps.fits (ps.enc x)=true∧ps.bf (ps.enc x)=x
 | .nil,x,_=>⟨rfl,rfl⟩
 | .cons p .nil,x,h=>by
  have h':(p.plain&&true)=true:=h
  rw [Bool.and_true] at h'
  have:=p.bn x h'
  exact ⟨by change (p.fits (p.enc x)&&true)=true; rw [this.1]; rfl,this.2⟩
 | .cons p (.cons q ps),x,h=>by
  have h':(p.plain&&(aF.cons q ps).plain)=true:=h
  rw [Bool.and_eq_true] at h'
  have h1:=p.bn x.1 h'.1
  have h2:=(aF.cons q ps).bn x.2 h'.2
  refine ⟨?_,?_⟩
  ·change (p.fits (p.enc x.1)&&(aF.cons q ps).fits ((aF.cons q ps).enc x.2))=true
   rw [h1.1,h2.1]
   rfl
  ·change (p.bf (p.enc x.1),(aF.cons q ps).bf ((aF.cons q ps).enc x.2))=x
   rw [h1.2,h2.2]
   rfl
end
end Go.Am
namespace Go.Am
open Go
theorem bO (E:Env) {t:TypeId} {i:TI} (h:E.ti t=some i) :
  ∃ fy u,E.P.info? t=some fy∧E.P.underlying t=some u∧fy.size=i.size∧iy u=i.agg∧nL E.P u=some i.k∧eV fy=i.zero:=by
 have h1:=E.D3 t i h
 unfold D2 at h1
 split at h1
 ·rename_i fy u h2 h3
  split at h1
  ·rename_i k hk
   cases h1
   exact ⟨fy,u,h2,h3,rfl,rfl,hk,rfl⟩
  ·cases h1
 ·cases h1
section runs
variable {P:Program} (w:World)
theorem wx {t:TypeId} {u:TypeDesc} (h:P.underlying t=some u):(isAgg t).run P w=.ok (iy u) w:=by
 unfold isAgg
 simp only [Sem.run_bind,run_underlying h,Result.andThen_ok]
 cases u <;> rfl
theorem run_sizeOf {t:TypeId} {i:TypeInfo} (h:P.info? t=some i):(sizeOf t).run P w=.ok i.size w:=by
 simp [sizeOf,typeInfo,h]
theorem fA {t:TypeId} {i:TypeInfo} {z:Value} (h:P.info? t=some i) (hz:i.zero=some z):(zeroValue t).run P w=.ok z w:=by
 simp [zeroValue,typeInfo,h,hz]
theorem tk (t:TypeId) (v:Value):(newVar t v).run P w=.ok ⟨w.heap.size,0,none⟩ (w.alloc (.cells v.cells t)):=by
 simp only [newVar,newRow,Sem.run_bind,run_newObj,Result.andThen_ok,Sem.run_pure]
 rfl
end runs
theorem tn {R:ai} {w:World} {ag:Bool} {l:List AV} {v:AV} {vs:List Value} (hm:qq ag l=some v) (h:aD R w l vs) (h1:∀ x∈vs,x.oneCell'=true) :
  (ag=true→Rel R w v (.agg ⟨vs⟩))∧(ag=false→∃ c,vs=[c]∧Rel R w v c):=by
 unfold qq at hm
 cases ag with
 | true=>
  simp at hm
  subst hm
  exact ⟨fun _=>.agg h h1,fun e=>by cases e⟩
 | false=>
  refine ⟨(fun e=>by cases e),fun _=>?_⟩
  simp only [Bool.false_eq_true,if_false] at hm
  split at hm
  ·cases hm
   cases h with
   | cons h t=>
    cases t
    exact ⟨_,rfl,h⟩
  ·cases hm
theorem mi {E:Env} {R:ai} {w:World} {t:TypeId} {i:TI} (hi:E.ti t=some i) {b off:Nat} {l:List AV} {vs:List Value} {v:AV}
  (hl:l.length=i.size) (hr:aD R w l vs) (h1:∀ x∈vs,x.oneCell'=true) (hc:∀ j x,vs[j]?=some x→w.cell? ⟨b,off+j,none⟩=some x) (hm:qq i.agg l=some v) :
  ∃ c,(loadVar t ⟨b,off,none⟩).run E.P w=.ok c w∧Rel R w v c:=by
 obtain ⟨fy,u,e1,e2,e3,e4,_⟩:=bO E hi
 obtain ⟨m1,m2⟩:=tn hm hr h1
 unfold loadVar
 simp only [Sem.run_bind,wx w e2,Result.andThen_ok,e4]
 cases ha:i.agg with
 | true=>
  refine ⟨.agg ⟨vs⟩,?_,m1 ha⟩
  have hlen:fy.size=vs.length:=by rw [e3,← hl,hr.length]
  have:=run_loadCells_list (P:=E.P) w ⟨b,off,none⟩ vs (fun j x hx=>by rw [bY]; exact hc j x hx)
  simp [run_sizeOf w e1,hlen,this]
 | false=>
  obtain ⟨c,rfl,di⟩:=m2 ha
  refine ⟨c,?_,di⟩
  have:=hc 0 c (by simp)
  simp only [Nat.add_zero] at this
  simp [run_load,this]
theorem gX {w:World} {b:Nat} {vs:List Value} {el:TypeId} {fr:Nat × Nat} (h:w.heap[b]?=some (.cells ⟨vs⟩ el fr)) (j:Nat):w.cell? ⟨b,j,none⟩=vs[j]?:=by
 simp [World.cell?,h]
theorem ru {E:Env} {R:ai} {w:World} {β:Nat→Nat} {s:St} {a:Act} (h:aY E R w β s a) {p:SV} {c:Value} (hp:nO R w β p c) {cs:List AV} {off:Nat} (hc:kR s p=some (cs,off)) :
  ∃ b o vs,c=.pointer (some ⟨b,o+off,none⟩)∧aD R w cs vs∧(∀ x∈vs,x.oneCell'=true)∧∀ j x,vs[j]?=some x→w.cell? ⟨b,o+j,none⟩=some x:=by
 unfold kR at hc
 split at hc
 ·rename_i k eF
  split at hc
  ·rename_i cs' hk
   cases hc
   obtain ⟨⟨vs,el,h1,h2,h3⟩,_⟩:=h.b.box k cs hk
   exact ⟨β k,0,vs,by rw [hp]; simp,h2,h3,fun j x hx=>by rw [gX h1]; simpa using hx⟩
  ·cases hc
 ·rename_i id eF
  split at hc
  ·rename_i cs' hk
   cases hc
   cases hp with
   | @ptr _ _ b hb=>
    obtain ⟨vs,h1,h2,h3,_⟩:=h.g.obj id _ _ hk hb
    exact ⟨b,0,vs,by simp,h2,h3,fun j x hx=>by rw [gX h1]; simpa using hx⟩
  ·cases hc
 ·rename_i cs'
  cases hc
  cases hp with
  | ep hr=>
   obtain ⟨vs,h1,h2,h3,_⟩:=hr.get
   exact ⟨_,_,vs,rfl,h1,h2,h3⟩
 ·cases hc
theorem nl {R:ai} {w:World} {off n:Nat} {cs l:List AV} {vs:List Value} (hs:C0 off n cs=some l) (h:aD R w cs vs) (h1:∀ x∈vs,x.oneCell'=true) :
  l.length=n∧aD R w l ((vs.drop off).take n)∧(∀ x∈(vs.drop off).take n,x.oneCell'=true)∧∀ j x,((vs.drop off).take n)[j]?=some x→vs[off+j]?=some x:=by
 obtain ⟨e1,e2⟩:=Oa hs
 subst e1
 refine ⟨e2,(h.drop off).take n,fun x hx=>h1 x (List.mem_of_mem_drop (List.mem_of_mem_take hx)),fun j x hx=>?_⟩
 rw [List.getElem?_take] at hx
 split at hx
 ·rwa [List.getElem?_drop] at hx
 ·cases hx
def bH (E:Env) (R:ai) (w:World) (β:Nat→Nat) (s:St) (a:Act) (o:Oper) (s':St):Prop:=
 ∃ nx x w' R' β',(execOp a.eval o).run E.P w=.ok nx w'∧(nx=.value x∨(nx=.skip∧x=undef))∧aY E R' w' β' s' (a.put o.dst x)∧Step R w β s.boxes R' w' β' s'.boxes
section ops
variable {E:Env} {R:ai} {w:World} {β:Nat→Nat} {s:St} {a:Act} {o:Oper}
@[simp] theorem aP (s:St) (d:Option Tmp) (x:SV):(s.put d x).boxes=s.boxes:=by
 cases d with
 | none=>rfl
 | some d=>simp only [St.put]; split <;> rfl
theorem aq (h:aY E R w β s a) {c:Value} {sv:SV} (hx:(execOp a.eval o).run E.P w=.ok (.value c) w) (hr:nO R w β sv c):bH E R w β s a o (s.put o.dst sv):=
 ⟨.value c,c,w,R,β,hx,.inl rfl,h.put o.dst hr,by rw [aP]; exact Step.refl R w β s.boxes⟩
theorem Bs {t:Bool} {x y:AV} {c d:Value} (hx:Rel R w x c) (hy:Rel R w y d):Rel R w (xB t x y) (if t=true then c else d):=by
 unfold xB
 split
 ·cases hx; cases hy; cases t <;> exact .bool _
 ·cases hx; cases hy
  split
  ·rename_i e; subst e; cases t <;> exact .int _ _
  ·cases t <;> exact .int _ _
 ·cases t
  ·exact hy
  ·exact hx
theorem iW (h:aY E R w β s a) (x:Operand) (ho:o.op=.move x∨o.op=.assign x) {y:SV} (hy:bk E s.ae x=y):bH E R w β s a o (s.put o.dst y):=by
 subst hy
 refine aq h (c:=a.eval x) ?_ (aI h x)
 rcases ho with ho | ho <;> simp [execOp,ho]
theorem Ee (h:aY E R w β s a) (c x y:Operand) (ho:o.op=.pick c x y) {t:Bool} {p q:AV} (h1:bk E s.ae c=.v (.bool t)) (h2:bk E s.ae x=.v p) (h3:bk E s.ae y=.v q) :
  bH E R w β s a o (s.put o.dst (.v (xB t p q))):=by
 have r1:=aI h c
 have r2:=aI h x
 have r3:=aI h y
 rw [h1] at r1; rw [h2] at r2; rw [h3] at r3
 refine aq h (c:=if t=true then a.eval x else a.eval y) ?_ (Bs r2 r3)
 have X7:Rel R w (.bool t) (a.eval c):=r1
 generalize Bt:a.eval c=cc at X7
 cases X7
 simp [execOp,ho,asBool,Bt]
theorem Ef (h:aY E R w β s a) (t:TypeId) (x:Operand) (ho:o.op=.load t x) {v:AV} (hl:pn E s t (bk E s.ae x)=some v) :
  bH E R w β s a o (s.put o.dst (.v v)):=by
 unfold pn at hl
 split at hl
 ·rename_i i cs off hi hc
  split at hl
  ·rename_i l hs
   obtain ⟨b,o',vs,e,h1,h2,h3⟩:=ru h (aI h x) hc
   obtain ⟨k1,k2,k3,k4⟩:=nl hs h1 h2
   obtain ⟨c,hc,di⟩:=mi (E:=E) hi (b:=b) (off:=o'+off) k1 k2 k3 (fun j y hy=>by rw [Nat.add_assoc]; exact h3 _ _ (k4 j y hy)) hl
   refine aq h (c:=c) ?_ di
   simp [execOp,ho,Instr.loadAt,e,Instr.sureAddr,hc]
  ·cases hl
 ·cases hl
theorem gG {b:Nat} (hI:∀ o,¬ R.I b o) (cs:Array Value):Ext R w R (w.setRow b cs):=
 ⟨fun _ _ h=>h,fun b' o h=>bK (setRow_other w b b' cs (fun e=>hI o (e ▸ h))) o,fun _ ro h=>⟨ro,h,bW.refl ro⟩,fun b' r hb=>⟨r,by
  by_cases e:b'=b
  ·subst e
   have bT:b' < w.heap.size:=aV hb
   have hv:w.heap[b']=.loop r:=(Array.getElem?_eq_some_iff.1 hb).2
   unfold World.setRow
   rw [Array.getElem?_eq_getElem (by simpa using bT),Array.getElem_modify]
   simp [hv]
  ·exact (setRow_other w b b' cs e).trans hb,rfl,rfl,rfl,rfl,rfl⟩⟩
theorem aD.bz {cs ys:List AV} {vs us:List Value} {off:Nat} (h:aD R w cs vs) (k:aD R w ys us) (hl:off+ys.length≤cs.length) :
  aD R w (bz cs off ys) (vs.take off++us++vs.drop (off+us.length)):=by
 rw [dj cs off ys hl,← k.length]
 exact ((h.take off).append k).append (h.drop _)
theorem gH {vs us:List Value} {off n:Nat} (h:∀ x∈vs,x.oneCell'=true) (k:∀ x∈us,x.oneCell'=true):∀ x∈vs.take off++us++vs.drop n,x.oneCell'=true:=by
 intro x hx
 simp only [List.mem_append] at hx
 rcases hx with (hx | hx) | hx
 ·exact h x (List.mem_of_mem_take hx)
 ·exact k x hx
 ·exact h x (List.mem_of_mem_drop hx)
theorem iN {t:TypeId} {i:TI} (hi:E.ti t=some i) {b off:Nat} {vs:List Value} {el:TypeId} {c:Value} (hb:w.heap[b]?=some (.cells ⟨vs⟩ el (0,0)))
  (hs:c.cells.toList.length=i.size) (hl:off+c.cells.toList.length≤vs.length) (h1:∀ v∈c.cells.toList,v.oneCell'=true) :
  (storeVar t ⟨b,off,none⟩ c).run E.P w=.ok () (w.setRow b ⟨vs.take off++c.cells.toList++vs.drop (off+c.cells.toList.length)⟩):=by
 obtain ⟨fy,u,e1,e2,e3,_⟩:=bO E hi
 have jN:=run_storeCells_at (P:=E.P) b off el c.cells.toList 0 ⟨vs⟩ w hb (by simpa using hl) h1
 have cj:c.cells.size=fy.size:=by rw [e3,← hs]; simp
 simp only [Nat.add_zero] at jN
 unfold storeVar
 simp only [Sem.run_bind,run_sizeOf w e1,Result.andThen_ok,Sem.run_ite,cj,ne_eq,not_true_eq_false,if_false]
 simpa using jN
theorem aY.Bu (h:aY E R w β s a) {id b k:Nat} {cs:List AV} (hb:nth R.obj id=some (.bJ b)) (hk:cG s.boxes k=some cs):β k≠b:=by
 intro e
 exact (h.b.box k cs hk).2.2 ⟨id,_,hb,by rw [e]; rfl⟩
theorem Bv (h:aY E R w β s a) (t:TypeId) (p x:Operand) (ho:o.op=.store t p x) (hd:o.dst=none) {s':St} (hs:iz E s t (bk E s.ae p) (bk E s.ae x)=some s') :
  bH E R w β s a o s':=by
 unfold iz at hs
 have rp:=aI h p
 have rx:=aI h x
 split at hs
 ·rename_i i v hi hx
  rw [hx] at rx
  split at hs
  ·rename_i eu
   simp only [Bool.and_eq_true] at eu
   obtain ⟨I8,hlen⟩:=eu
   have hlen:=Nat.eq_of_beq_eq_true hlen
   obtain ⟨c1,c2⟩:=Rel.cells rx I8
   have zg:v.cells.length=(a.eval x).cells.toList.length:=c1.length
   split at hs
   ·-- a local box
    rename_i k off RT
    rw [RT] at rp
    split at hs
    ·rename_i cs hk
     split at hs
     ·rename_i hle
      cases hs
      have hle:=Nat.le_of_ble_eq_true hle
      obtain ⟨⟨vs,el,b1,b2,b3⟩,b4,b5⟩:=h.b.box k cs hk
      have bi:=iN (E:=E) (w:=w) hi (off:=off) (c:=a.eval x) b1 (by rw [← zg]; exact hlen) (by rw [← zg,← b2.length]; exact hle) c2
      have hex:=gG (R:=R) (w:=w) b4 ⟨vs.take off++(a.eval x).cells.toList++vs.drop (off+(a.eval x).cells.toList.length)⟩
      refine ⟨.skip,undef,w.setRow (β k) ⟨vs.take off++(a.eval x).cells.toList++vs.drop (off+(a.eval x).cells.toList.length)⟩,R,β,?_,.inr ⟨rfl,rfl⟩,?_,?_⟩
      ·simp [execOp,ho,Instr.storeAt,show a.eval p=.pointer (some ⟨β k,off,none⟩) from rp,Instr.sureAddr,bi]
      ·rw [hd]
       refine ⟨?_,?_,h.t.mono hex,h.n,h.d⟩
       ·exact h.g.bq hex rfl (fun b hb=>setRow_other w _ b _ (fun e=>b5 (e ▸ hb))) (fun _ _ _ hi=>hi) (fun b o hi=>by have:=h.g.wf b o hi; simp; omega)
       ·refine ⟨fun k' cs' iE=>?_,fun k1 k2 x1 x2 g1 g2=>?_⟩
        ·rcases dI iE with ⟨rfl,e⟩ | ⟨cj,RU⟩
         ·cases e
          exact ⟨⟨_,el,setRow_heap w _ _ _ el (0,0) b1,(b2.bz c1 hle).mono hex,gH b3 c2⟩,b4,b5⟩
         ·obtain ⟨⟨vs',Uz,d1,d2,d3⟩,d4,d5⟩:=h.b.box k' cs' RU
          refine ⟨⟨vs',Uz,?_,d2.mono hex,d3⟩,d4,d5⟩
          rw [setRow_other]
          ·exact d1
          ·exact fun e=>cj (h.b.inj k' k cs' cs RU hk e).symm
        ·have q1:∃ y,cG s.boxes k1=some y:=by
          rcases dI g1 with ⟨rfl,_⟩ | ⟨_,g⟩
          ·exact ⟨_,hk⟩
          ·exact ⟨_,g⟩
         have q2:∃ y,cG s.boxes k2=some y:=by
          rcases dI g2 with ⟨rfl,_⟩ | ⟨_,g⟩
          ·exact ⟨_,hk⟩
          ·exact ⟨_,g⟩
         obtain ⟨y1,q1⟩:=q1
         obtain ⟨y2,q2⟩:=q2
         exact h.b.inj k1 k2 y1 y2 q1 q2
      ·have xI:Own R β s.boxes (β k):=.inr ⟨k,cs,hk,rfl⟩
       refine ⟨hex,rfl,rfl,rfl,by simp,fun b _ hn=>setRow_other w _ b _ (fun e=>hn (e ▸ xI)),fun b _ hb=>?_,fun b o hi _ _=>hi⟩
       rcases hb with hb | ⟨k',cs',iE,e⟩
       ·exact .inl hb
       ·rcases dI iE with ⟨rfl,_⟩ | ⟨_,g⟩
        ·exact .inr ⟨k,cs,hk,e⟩
        ·exact .inr ⟨k',cs',g,e⟩
     ·cases hs
    ·cases hs
   ·-- an object
    rename_i id off RT
    rw [RT] at rp
    split at hs
    ·rename_i cs hk
     split at hs
     ·rename_i hle
      cases hs
      have hle:=Nat.le_of_ble_eq_true hle
      have RV:Rel R w (.ptr id off) (a.eval p):=rp
      generalize RW:a.eval p=pv at RV
      cases RV with
      | @ptr _ _ b hb=>
      obtain ⟨vs,b1,b2,b3,b4⟩:=h.g.obj id _ _ hk hb
      have bi:=iN (E:=E) (w:=w) hi (off:=off) (c:=a.eval x) b1 (by rw [← zg]; exact hlen) (by rw [← zg,← b2.length]; exact hle) c2
      have hex:=gG (R:=R) (w:=w) b4 ⟨vs.take off++(a.eval x).cells.toList++vs.drop (off+(a.eval x).cells.toList.length)⟩
      refine ⟨.skip,undef,w.setRow b ⟨vs.take off++(a.eval x).cells.toList++vs.drop (off+(a.eval x).cells.toList.length)⟩,R,β,?_,.inr ⟨rfl,rfl⟩,?_,?_⟩
      ·simp [execOp,ho,Instr.storeAt,RW,Instr.sureAddr,bi]
      ·rw [hd]
       refine ⟨⟨?_,fun iu go ro hg hr=>?_,h.g.inj,fun b' o' qz=>by have:=h.g.wf b' o' qz; simp; omega,fun g cs' hg=>(h.g.bN g cs' hg).mono hex,by first | exact h.g.lo | exact Nat.le_succ_of_le h.g.lo⟩,?_,h.t.mono hex,h.n,h.d⟩
       ·simp [St.bL,h.g.len]
       ·rcases cD hg with ⟨rfl,rfl,_⟩ | ⟨cj,ov⟩
        ·rw [hb] at hr
         cases hr
         exact ⟨_,setRow_heap w _ _ _ _ (0,0) b1,(b2.bz c1 hle).mono hex,gH b3 c2,b4⟩
        ·refine (h.g.obj iu go ro ov hr).mono hex (fun b' kd=>setRow_other w _ b' _ (fun e=>cj ?_)) (fun _ _ _ hi=>hi)
         subst e
         exact h.g.inj id iu _ _ b' hb hr rfl kd
       ·exact h.b.bq hex (fun k cs' iE=>setRow_other w _ _ _ (h.Bu hb iE)) (fun _ _ _ _ hi=>hi) (fun _ _ _ hl=>hl)
      ·have xI:Own R β s.boxes b:=.inl ⟨id,_,hb,rfl⟩
       exact ⟨hex,rfl,rfl,rfl,by simp,fun b' _ hn=>setRow_other w _ b' _ (fun e=>hn (e ▸ xI)),fun _ _ hb=>hb,fun b o hi _ _=>hi⟩
     ·cases hs
    ·cases hs
   ·cases hs
  ·cases hs
 ·cases hs
end ops
end Go.Am
namespace Go.Am
open Go
section ops
variable {E:Env} {R:ai} {w:World} {β:Nat→Nat} {s:St} {a:Act} {o:Oper}
def ai.add (R:ai) (ro:RO):ai:=⟨R.I,R.obj++[ro]⟩
theorem fH (wf:∀ b o,R.I b o→b < w.heap.size) (x:Obj) (ro:RO):Ext R w (R.add ro) (w.alloc x):=
 ⟨fun _ _ h=>h,fun b o h=>bK (heap_alloc_old w x b (wf b o h)) o,fun _ r h=>⟨r,cE h,bW.refl r⟩,.old fun b hb=>heap_alloc_old w x b hb⟩
theorem kB {ro:RO} {b:Nat} (h:Live (R.add ro) b):Live R b∨ro.has b:=by
 obtain ⟨id,r,h1,h2⟩:=h
 rcases av h1 with h1 | ⟨_,rfl⟩
 ·exact .inl ⟨id,r,h1,h2⟩
 ·exact .inr h2
theorem aY.ke (h:aY E R w β s a) (x:Obj) (go:GO) (ro:RO) (bA:∀ b,ro.has b→b=w.heap.size) (gf:fx (R.add ro) (w.alloc x) go ro):aY E (R.add ro) (w.alloc x) β (s.cV go) a where
 g:=by
  have e:=fH (R:=R) (w:=w) h.g.wf x ro
  refine ⟨by simp [St.cV,ai.add,h.g.len],fun id g r h1 h2=>?_,fun i j ri rj b h1 h2 b1 b2=>?_,fun b o hi=>?_,fun g cs hg=>(h.g.bN g cs hg).mono e,by first | exact h.g.lo | exact Nat.le_succ_of_le h.g.lo⟩
  ·rcases av h2 with h2 | ⟨h3,rfl⟩
   ·have bT:=bu h2
    rw [h.g.len] at bT
    rcases av h1 with h1 | ⟨h4,_⟩
    ·exact (h.g.obj id g r h1 h2).mono e (fun b hb=>heap_alloc_old w x b (h.g.bI ⟨id,r,h2,hb⟩)) (fun _ _ _ hi=>hi)
    ·omega
   ·rcases av h1 with h1 | ⟨h4,rfl⟩
    ·have:=bu h1
     rw [h3,h.g.len] at this
     omega
    ·exact gf
  ·rcases av h1 with g1 | ⟨h3,e1⟩
   ·rcases av h2 with g2 | ⟨h4,e2⟩
    ·exact h.g.inj i j ri rj b g1 g2 b1 b2
    ·have:=h.g.bI ⟨i,ri,g1,b1⟩
     rw [e2] at b2
     have:=bA b b2
     omega
   ·rcases av h2 with g2 | ⟨h4,e2⟩
    ·have:=h.g.bI ⟨j,rj,g2,b2⟩
     rw [e1] at b1
     have:=bA b b1
     omega
    ·omega
  ·have:=h.g.wf b o hi
   simp
   omega
 b:=h.b.bq (fH h.g.wf x ro) (fun k cs hk=>heap_alloc_old w x _ (h.dh (.inr ⟨k,cs,hk,rfl⟩))) (fun _ _ _ _ hi=>hi) (fun k cs hk hl=>by
  rcases kB hl with hl | hl
  ·exact hl
  ·have:=h.dh (.inr ⟨k,cs,hk,rfl⟩)
   have hl:=bA _ hl
   omega)
 t:=h.t.mono (fH h.g.wf x ro)
 n:=h.n
 d:=h.d.mono (fH h.g.wf x ro)
theorem cp (h:aY E R w β s a) (x:Obj) (ro:RO) (bA:∀ b,ro.has b→b=w.heap.size):Step R w β s.boxes (R.add ro) (w.alloc x) β s.boxes:=
 ⟨fH h.g.wf x ro,rfl,rfl,rfl,by simp,fun b hb _=>heap_alloc_old w x b hb,fun b hb ho=>by
  rcases ho with ho | ho
  ·rcases kB ho with ho | ho
   ·exact .inl ho
   ·have ho:=bA _ ho
    omega
  ·exact .inr ho,fun _ _ hi _ _=>hi⟩
theorem fa (h:aY E R w β s a) (ro:RO):nth (R.add ro).obj s.G.length=some ro:=by
 rw [← h.g.len]
 exact dH _ _
theorem zr {f:FuncId} (h:aY E R w β s a) {v:AV} {c:Value} {t:TypeId} (hv:Rel R w v c) (hn:v.aL=true)
  (hx:(execOp a.eval o).run E.P w=.ok (.value (.pointer (some ⟨w.heap.size,0,none⟩))) (w.alloc (.cells c.cells t))) {s':St} (ha:dQ E f s o.dst t v.cells=some (true,s')) :
  bH E R w β s a o s':=by
 obtain ⟨c1,c2⟩:=Rel.cells hv hn
 unfold dQ at ha
 split at ha
 ·cases ha
 ·rename_i d hd
  split at ha
  ·-- an object
   cases ha
   have gf:fx (R.add (.bJ w.heap.size)) (w.alloc (.cells c.cells t)) (.row v.cells t) (.bJ w.heap.size):=
    ⟨c.cells.toList,heap_alloc_new w _,c1.mono (fH h.g.wf _ _),c2,fun o' hi=>by have:=h.g.wf _ _ hi; omega⟩
   have cb:=h.ke (.cells c.cells t) (.row v.cells t) (.bJ w.heap.size) (by exact fun _ h=>h) gf
   refine ⟨_,.pointer (some ⟨w.heap.size,0,none⟩),_,R.add (.bJ w.heap.size),β,hx,.inl rfl,?_,?_⟩
   ·rw [hd]
    exact cb.put (some d) (x:=.v (.ptr s.G.length 0)) (Rel.ptr (fa h _))
   ·rw [aP]
    exact cp h _ _ (by exact fun _ h=>h)
  ·split at ha
   ·rename_i UA
    injection ha with ha
    injection ha with _ Ob
    subst Ob
    have e:=qA (R:=R) (w:=w) h.g.wf (.cells c.cells t)
    let β':Nat→Nat:=fun k=>if k=d then w.heap.size else β k
    have C5:β' d=w.heap.size:=by simp [β']
    have cj:∀ k,k≠d→β' k=β k:=fun k hk=>by simp [β',hk]
    have Zl:d < a.tmps.size:=by rw [h.n]; exact Nat.le_of_ble_eq_true UA
    have Bw:((s.kill d).se d v.cells).put (some d) (.lp d 0)=⟨.put d (.lp d 0) :: .kill d :: s.ae,(d,v.cells) :: s.boxes,s.G,s.marks,s.ro,s.n⟩:=by
     simp only [St.put,St.se,St.kill,UA]
    refine ⟨_,.pointer (some ⟨w.heap.size,0,none⟩),_,R,β',hx,.inl rfl,?_,?_⟩
    ·rw [hd,Bw]
     refine ⟨?_,⟨fun k cs hk=>?_,fun k k' cs cs' hk iE he=>?_⟩,?_,by simp [Act.put,h.n],h.d⟩
     ·exact h.g.bq e rfl (fun b hb=>heap_alloc_old w _ b (h.g.bI hb)) (fun _ _ _ hi=>hi) (fun b o hi=>by have:=h.g.wf b o hi; simp; omega)
     ·rcases dI hk with ⟨rfl,he⟩ | ⟨I9,hk⟩
      ·cases he
       rw [C5]
       exact ⟨⟨c.cells.toList,t,heap_alloc_new w _,c1.mono e,c2⟩,fun o' hi=>by have:=h.g.wf _ _ hi; omega,fun hl=>by have:=h.g.bI hl; omega⟩
      ·rw [cj k (Ne.symm I9)]
       obtain ⟨⟨vs,el,b1,b2,b3⟩,b4,b5⟩:=h.b.box k cs hk
       exact ⟨⟨vs,el,(heap_alloc_old w _ _ (aV b1)).trans b1,b2.mono e,b3⟩,b4,b5⟩
     ·rcases dI hk with ⟨rfl,_⟩ | ⟨I9,hk⟩
      ·rcases dI iE with ⟨rfl,_⟩ | ⟨Oc,iE⟩
       ·rfl
       ·rw [C5,cj k' (Ne.symm Oc)] at he
        have:=h.dh (.inr ⟨k',cs',iE,rfl⟩)
        omega
      ·rcases dI iE with ⟨rfl,_⟩ | ⟨Oc,iE⟩
       ·rw [C5,cj k (Ne.symm I9)] at he
        have:=h.dh (.inr ⟨k,cs,hk,rfl⟩)
        omega
       ·rw [cj k (Ne.symm I9),cj k' (Ne.symm Oc)] at he
        exact h.b.inj k k' cs cs' hk iE he
     ·intro i hi
      by_cases Vk:d=i
      ·subst Vk
       rw [ay]
       refine ⟨.pointer (some ⟨w.heap.size,0,none⟩),by simp [Act.put,Zl],?_⟩
       show Value.pointer _=_
       rw [C5]
      ·rw [aH Vk] at hi ⊢
       rcases C3 (l:=s.ae) (d:=d) (t:=i) with ⟨h1,h2⟩ | h1
       ·rw [h1] at hi ⊢
        obtain ⟨c',q1,q2⟩:=h.t i hi
        refine ⟨c',?_,?_⟩
        ·simp only [Act.put]
         rw [Array.getElem?_setIfInBounds_ne Vk]
         exact q1
        ·cases qB:lk s.ae i with
         | none=>trivial
         | v y=>rw [qB] at q2; exact Rel.mono e q2
         | lp k off=>
          rw [qB] at q2
          show c'=_
          rw [cj k (h2 k off qB)]
          exact q2
       ·exact absurd h1 hi
    ·rw [Bw]
     refine ⟨e,rfl,rfl,rfl,by simp,fun b hb _=>heap_alloc_old w _ b hb,fun b hb ho=>?_,fun _ _ hi _ _=>hi⟩
     rcases ho with ho | ⟨k,cs,hk,he⟩
     ·exact .inl ho
     ·rcases dI hk with ⟨rfl,_⟩ | ⟨I9,hk⟩
      ·rw [C5] at he
       omega
      ·rw [cj k (Ne.symm I9)] at he
       exact .inr ⟨k,cs,hk,he⟩
   ·cases ha
theorem cA {i:TypeInfo} {z:AV} (h:eV i=some z):∃ c,i.zero=some c∧∀ R w,Rel R w z c:=by
 unfold eV at h
 split at h
 ·rename_i c hc
  exact ⟨c,hc,fun R w=>rr h⟩
 ·cases h
theorem Bx {f:FuncId} (h:aY E R w β s a) (t:TypeId) (ho:o.op=.alloc t) {i:TI} {z:AV} (hi:E.ti t=some i) (hz:i.zero=some z) (hn:z.aL=true) {s':St} (ha:dQ E f s o.dst t z.cells=some (true,s')) :
  bH E R w β s a o s':=by
 obtain ⟨fy,u,e1,e2,e3,e4,e5,e6⟩:=bO E hi
 rw [hz] at e6
 obtain ⟨c,hc,hr⟩:=cA e6
 refine zr h (hr R w) hn (t:=t) ?_ ha
 simp [execOp,ho,Instr.alloc,fA w e1 hc,tk]
theorem FE {f:FuncId} (h:aY E R w β s a) (t:TypeId) (x:Operand) (ho:o.op=.box t x) {v:AV} (hv:bk E s.ae x=.v v) (hn:v.aL=true) {s':St} (ha:dQ E f s o.dst t v.cells=some (true,s')) :
  bH E R w β s a o s':=by
 have hr:=aI h x
 rw [hv] at hr
 refine zr h hr hn (t:=t) ?_ ha
 simp [execOp,ho,Instr.box,tk]
end ops
end Go.Am
namespace Go.Am
open Go
section types
variable {P:Program}
theorem lf:∀ {fs:List Field} {l:List (Nat × Nat × Bool)},fieldsOf P fs=some l→∀ {j o sz:Nat} {ag:Bool},nth l j=some (o,sz,ag) →
  ∃ f fi u,fs[j]?=some f∧f.offset=o∧P.info? f.type=some fi∧fi.size=sz∧P.underlying f.type=some u∧iy u=ag
 | [],l,h,j,o,sz,ag,hn=>by simp [fieldsOf] at h; subst h; simp [nth] at hn
 | f :: fs,l,h,j,o,sz,ag,hn=>by
  unfold fieldsOf at h
  split at h
  ·rename_i i u r h1 h2 h3
   cases h
   cases j with
   | zero=>simp [nth] at hn; obtain ⟨e1,e2,e3⟩:=hn; exact ⟨f,i,u,by simp,e1,h1,e2,h2,e3⟩
   | succ j=>
    obtain ⟨f',fi,u',g1,g2⟩:=lf h3 (show nth r j=some (o,sz,ag) from hn)
    exact ⟨f',fi,u',by simpa using g1,g2⟩
  ·cases h
theorem lT:∀ {fs:List Field} {l:List (Nat × Nat × Bool)},fieldsOf P fs=some l→fs.mapM (fun f=>(P.info? f.type).map fun i=>(f.offset,i.size))=some (l.map fun x=>(x.1,x.2.1))
 | [],l,h=>by simp [fieldsOf] at h; subst h; simp
 | f :: fs,l,h=>by
  unfold fieldsOf at h
  split at h
  ·rename_i i u r h1 h2 h3
   cases h
   simp [List.mapM_cons,h1,lT h3]
  ·cases h
theorem C6 {u:TypeDesc} {l:List (Nat × Nat × Bool)} (h:nL P u=some (.st l)):∃ fs,u=.struct fs∧fieldsOf P fs.toList=some l:=by
 cases u <;> simp only [nL] at h <;> try (cases h; done)
 all_goals (try (split at h <;> cases h; done))
 rename_i fs
 split at h
 ·rename_i l' hl
  cases h
  exact ⟨fs,rfl,hl⟩
 ·cases h
theorem mj {u:TypeDesc} {n esz:Nat} {ag:Bool} (h:nL P u=some (.arr n esz ag)):∃ e i ue,u=.array n e∧P.info? e=some i∧i.size=esz∧P.underlying e=some ue∧iy ue=ag:=by
 cases u <;> simp only [nL] at h <;> try (cases h; done)
 all_goals (try (split at h <;> cases h; done))
 rename_i m e
 split at h
 ·rename_i i ue h1 h2
  cases h
  exact ⟨e,i,ue,rfl,h1,rfl,h2,rfl⟩
 ·cases h
theorem cR {u:TypeDesc} {e esz mm:Nat} {ag:Bool} {z:Option AV} (h:nL P u=some (.sl e esz ag mm z)) :
  ∃ i ue,u=.slice e∧P.info? e=some i∧i.size=esz∧i.bytes=mm∧P.underlying e=some ue∧iy ue=ag∧eV i=z:=by
 cases u <;> simp only [nL] at h <;> try (cases h; done)
 all_goals (try (split at h <;> cases h; done))
 rename_i e'
 split at h
 ·rename_i i ue h1 h2
  injection h with h
  injection h with g1 g2 g3 g4 g5
  subst g1; subst g2; subst g3; subst g4; subst g5
  exact ⟨i,ue,rfl,h1,rfl,rfl,h2,rfl,rfl⟩
 ·cases h
theorem jf {u:TypeDesc} (h:nL P u=some .str):u=.string:=by
 cases u <;> simp only [nL] at h <;> try (cases h; done)
 all_goals (try (split at h <;> cases h; done))
 rfl
theorem pz {u:TypeDesc} {k:IntKind} (h:nL P u=some (.int k)):u=.int k:=by
 cases u <;> simp only [nL] at h <;> try (cases h; done)
 all_goals (try (split at h <;> cases h; done))
 cases h
 rfl
theorem kC {u:TypeDesc} {k e:TypeId} {z:Option AV} (h:nL P u=some (.map k e z)):u=.map k e∧∃ i,P.info? e=some i∧eV i=z:=by
 cases u <;> simp only [nL] at h <;> try (cases h; done)
 all_goals (try (split at h <;> cases h; done))
 split at h
 ·rename_i i h1
  cases h
  exact ⟨rfl,i,h1,rfl⟩
 ·cases h
end types
section ops
variable {E:Env} {R:ai} {w:World} {β:Nat→Nat} {s:St} {a:Act} {o:Oper}
theorem wy {p q:SV} {c:Value} {n:Nat} (hp:nO R w β p c) (hm:wi n p=some q) :
  ∃ b o,c=.pointer (some ⟨b,o,none⟩)∧nO R w β q (.pointer (some ⟨b,o+n,none⟩)):=by
 unfold wi at hm
 split at hm
 ·cases hm
  exact ⟨_,_,hp,rfl⟩
 ·cases hm
  cases hp with
  | @ptr _ _ b hb=>exact ⟨b,_,rfl,Rel.ptr hb⟩
 ·cases hm
  cases hp with
  | @ep _ b o hr=>
   refine ⟨b,o,rfl,Rel.ep ?_⟩
   rw [th]
   exact hr.drop n
 ·cases hm
  cases hp with
  | @gp _ _ _ _ _ b o _ ro hr dE=>
   refine ⟨b,o,rfl,Rel.gp hr ?_⟩
   cases ro with
   | none=>trivial
   | bl=>exact dE.elim
   | bJ _=>exact dE.elim
   | aU _=>exact dE.elim
   | tok f1 b1 c1=>exact ⟨dE.1,fun e=>⟨(dE.2 e).1,by rw [(dE.2 e).2,Nat.add_assoc]⟩⟩
 ·cases hm
theorem to (h:aY E R w β s a) (t:TypeId) (x:Operand) (j:Nat) (ho:o.op=.fieldAddr t x j) {q:SV} (hq:je E t (bk E s.ae x) j=some q) :
  bH E R w β s a o (s.put o.dst q):=by
 unfold je at hq
 split at hq
 ·rename_i i hi
  split at hq
  ·rename_i fs hk
   split at hq
   ·rename_i off sz ag hn
    split at hq
    ·rename_i dG
     have dG:=Nat.le_of_ble_eq_true dG
     obtain ⟨fy,u,e1,e2,e3,e4,e5,e6⟩:=bO E hi
     rw [hk] at e5
     obtain ⟨fl,rfl,hf⟩:=C6 e5
     obtain ⟨f,fi,u',g1,g2,g3,g4,g5,g6⟩:=lf hf hn
     obtain ⟨b,o',m1,m2⟩:=wy (aI h x) hq
     refine aq h ?_ m2
     have Vl:fl[j]?=some f:=by simpa using g1
     have cj:¬ fi.size=0:=by omega
     simp [execOp,ho,Instr.fieldAt,run_underlying e2,Vl,m1,Instr.sureAddr,fieldPlace,run_sizeOf w g3,cj,bY,g2]
    ·cases hq
   ·cases hq
  ·cases hq
 ·cases hq
theorem zt {b o sz:Nat} {es:List AV} (h:e7 R w b o sz es) {n:Nat} {e:AV} (hn:nth es n=some e):cW R w b (o+n * sz) e.cells∧e.cells.length=sz∧e.aL=true:=by
 induction es generalizing o n with
 | nil=>simp [nth] at hn
 | cons x l ih=>
  cases h with
  | cons hl ht _ h t=>
   cases n with
   | zero=>simp [nth] at hn; subst hn; exact ⟨by simpa using h,hl,ht⟩
   | succ n=>
    have:=ih t (show nth l n=some e from hn)
    rw [show o+sz+n * sz=o+(n+1) * sz by rw [Nat.add_mul]; omega] at this
    exact this
theorem tq (h:aY E R w β s a) (t:TypeId) (x ix:Operand) (ho:o.op=.indexAddr t x ix) {q:SV} (hq:jd E t (bk E s.ae x) (bk E s.ae ix)=some (true,q)) :
  bH E R w β s a o (s.put o.dst q):=by
 have rx:=aI h x
 have ri:=aI h ix
 unfold jd at hq
 split at hq
 ·rename_i i k n hi RX
  rw [RX] at ri
  have Na:Rel R w (.int k n) (a.eval ix):=ri
  generalize Ja:a.eval ix=iv at Na
  cases Na
  obtain ⟨fy,u,e1,e2,e3,e4,e5,e6⟩:=bO E hi
  split at hq
  ·-- a list
   rename_i elem esz ag mm z kk sz es hk hx
   rw [hx] at rx
   rw [hk] at e5
   obtain ⟨ie,ue,rfl,f1,f2,f3,f4,f5,f6⟩:=cR e5
   split at hq
   ·rename_i hc
    have key:∀ (u:AV),(0≤n∧n < (es.length:Int))→ca (ah es n.toNat).cells u.cells→bH E R w β s a o (s.put o.dst (.v (.ep u.cells))):=fun u tu hu=>by
     obtain ⟨xJ,Fl⟩:=tu
     have cS:Rel R w (.list kk sz es) (a.eval x):=rx
     generalize ea:a.eval x=xv at cS
     cases cS with
     | iB=>simp at Fl; omega
     | gF=>simp at Fl; omega
     | kX=>simp at Fl; omega
     | kA=>simp at Fl; omega
     | ka=>simp at Fl; omega
     | @list _ _ _ b o' len cap hr hl fN FF=>
      subst hl
      have bT:n.toNat < es.length:=by omega
      obtain ⟨e,he⟩:∃ e,nth es n.toNat=some e:=⟨es[n.toNat],by rw [aR]; exact List.getElem?_eq_getElem bT⟩
      have dG:sz=esz:=by
       simp only [Bool.or_eq_true] at hc
       rcases hc with hc | hc
       ·exact Nat.eq_of_beq_eq_true hc
       ·cases es with
        | nil=>simp at bT
        | cons _ _=>simp at hc
      obtain ⟨g1,_,_⟩:=zt hr he
      refine aq h (c:=.pointer (some ⟨b,o'+n.toNat * sz,none⟩)) ?_ ?_
      ·have eu:0≤n∧n < (es.length:Int):=⟨xJ,Fl⟩
       simp [execOp,ho,Instr.indexAt,Ja,ea,asIntOf,run_underlying e2,eu,run_sizeOf w f1,f2,dG,bY]
      ·have:ah es n.toNat=e:=by simp [ah,he]
       rw [this] at hu
       exact .ep (hu.FB g1)
    split at hq
    ·rename_i p hp
     injection hq with hq
     injection hq with tu mn
     subst mn
     rw [Bool.and_eq_true] at tu
     have eu:=of_decide_eq_true tu.1
     have hd:=p.cm tu.2
     have bT:n.toNat < es.length:=by omega
     refine key _ eu (hd.cells ?_)
     obtain ⟨e,he⟩:∃ e,nth es n.toNat=some e:=⟨es[n.toNat],by rw [aR]; exact List.getElem?_eq_getElem bT⟩
     have:ah es n.toNat=e:=by simp [ah,he]
     rw [this]
     have cS:Rel R w (.list kk sz es) (a.eval x):=rx
     generalize a.eval x=xv at cS
     cases cS with
     | iB=>simp at bT
     | gF=>simp at bT
     | kX=>simp at bT
     | kA=>simp at bT
     | ka=>simp at bT
     | list hr _ _ _=>exact (zt hr he).2.2
    ·injection hq with hq
     injection hq with tu mn
     subst mn
     exact key _ (of_decide_eq_true tu) (ca.refl _)
   ·cases hq
  ·-- a heap slice
   rename_i elem esz ag mm z id off sz len cap hk hx
   rw [hx] at rx
   rw [hk] at e5
   obtain ⟨ie,ue,rfl,f1,f2,f3,f4,f5,f6⟩:=cR e5
   split at hq
   ·rename_i hc
    have dG:=Nat.eq_of_beq_eq_true hc
    injection hq with hq
    injection hq with tu mn
    subst mn
    have eu:=of_decide_eq_true tu
    have cS:Rel R w (.iL id off sz len cap) (a.eval x):=rx
    generalize ea:a.eval x=xv at cS
    cases cS with
    | @iL _ _ _ _ _ b hb _=>
     refine aq h (c:=.pointer (some ⟨b,off+n.toNat * sz,none⟩)) ?_ (Rel.ptr hb)
     simp [execOp,ho,Instr.indexAt,Ja,ea,asIntOf,run_underlying e2,eu,run_sizeOf w f1,f2,dG,bY]
   ·cases hq
  ·-- a slice that grows
   rename_i elem esz ag mm z id f' off sz len hk hx
   rw [hx] at rx
   rw [hk] at e5
   obtain ⟨ie,ue,rfl,f1,f2,f3,f4,f5,f6⟩:=cR e5
   split at hq
   ·rename_i hc
    have dG:=Nat.eq_of_beq_eq_true hc
    injection hq with hq
    injection hq with tu mn
    subst mn
    have eu:=of_decide_eq_true tu
    have cS:Rel R w (.dC id f' off sz len) (a.eval x):=rx
    generalize ea:a.eval x=xv at cS
    cases cS with
    | gA _ _=>omega
    | @dC _ _ _ _ _ cap b o' ro bA dE fN=>
     refine aq h (c:=.pointer (some ⟨b,o'+n.toNat * sz,none⟩)) ?_ (Rel.gp bA ?_)
     ·simp [execOp,ho,Instr.indexAt,Ja,ea,asIntOf,run_underlying e2,eu,run_sizeOf w f1,f2,dG,bY]
     ·cases ro with
      | none=>trivial
      | bl=>exact dE.elim
      | bJ _=>exact dE.elim
      | aU _=>exact dE.elim
      | tok f1 b1 c1=>
       refine ⟨dE.1,fun e=>?_⟩
       obtain ⟨k1,k2,k3⟩:=dE.2 e
       refine ⟨k1,?_⟩
       rcases k3 with k3 | k3
       ·rw [k3,Nat.add_zero,Nat.add_mul]
       ·omega
   ·cases hq
  ·-- an array that is never written
   rename_i len esz ag cs hk hx
   rw [hx] at rx
   rw [hk] at e5
   obtain ⟨e,ie,ue,rfl,f1,f2,f3,f4⟩:=mj e5
   have cS:Rel R w (.ep cs) (a.eval x):=rx
   generalize ea:a.eval x=xv at cS
   cases cS with
   | @ep _ b o' hr=>
    split at hq
    ·rename_i p hp
     split at hq
     ·rename_i hc
      rw [Bool.and_eq_true] at hc
      have hz:=Nat.eq_of_beq_eq_true hc.1
      have hl:=Nat.le_of_ble_eq_true hc.2
      injection hq with hq
      injection hq with tu mn
      subst mn
      rw [Bool.and_eq_true] at tu
      have eu:=of_decide_eq_true tu.1
      have hd:=p.cm tu.2
      have bT:n.toNat < cs.length:=by omega
      have X8:=hr.drop n.toNat
      rw [List.drop_eq_getElem_cons bT] at X8
      have hn:ah cs n.toNat=cs[n.toNat]:=by
       unfold ah
       rw [aR,List.getElem?_eq_getElem bT]
      rw [hn] at hd ⊢
      refine aq h (c:=.pointer (some ⟨b,o'+n.toNat * esz,none⟩)) ?_ ?_
      ·simp [execOp,ho,Instr.indexAt,Ja,ea,Instr.sureAddr,asIntOf,run_underlying e2,eu,run_sizeOf w f1,f2,bY]
      ·subst hz
       rw [Nat.mul_one]
       cases X8 with
       | cons hc h1 hi di t=>exact .ep (.cons hc h1 hi (hd.1 _ _ _ di) .nil)
     ·cases hq
    ·injection hq with hq
     injection hq with tu mn
     subst mn
     have eu:=of_decide_eq_true tu
     refine aq h (c:=.pointer (some ⟨b,o'+n.toNat * esz,none⟩)) ?_ ?_
     ·simp [execOp,ho,Instr.indexAt,Ja,ea,Instr.sureAddr,asIntOf,run_underlying e2,eu,run_sizeOf w f1,f2,bY]
     ·rw [th]
      exact .ep (hr.drop _)
  ·-- an array
   rename_i len esz ag hk _
   rw [hk] at e5
   obtain ⟨e,ie,ue,rfl,f1,f2,f3,f4⟩:=mj e5
   split at hq
   ·rename_i q' hm
    injection hq with hq
    injection hq with tu mn
    subst mn
    have eu:=of_decide_eq_true tu
    obtain ⟨b,o',m1,m2⟩:=wy rx hm
    refine aq h ?_ m2
    simp [execOp,ho,Instr.indexAt,Ja,m1,Instr.sureAddr,asIntOf,run_underlying e2,eu,run_sizeOf w f1,f2,bY]
   ·cases hq
  ·cases hq
 ·cases hq
theorem kD {t:TypeId} {i:TypeInfo} {u:TypeDesc} (h1:E.P.info? t=some i) (h2:E.P.underlying t=some u) {off:Nat} {cs l:List AV} {vs:List Value} {v:AV} (hr:aD R w cs vs) (h3:∀ x∈vs,x.oneCell'=true)
  (xK:iy u=true→C0 off i.size cs=some l∧qq true l=some v) (Od:iy u=false→C0 off 1 cs=some l∧qq false l=some v) :
  ∃ c,(part t ⟨vs⟩ off).run E.P w=.ok c w∧Rel R w v c:=by
 unfold part
 simp only [Sem.run_bind,wx w h2,Result.andThen_ok]
 cases ha:iy u with
 | true=>
  obtain ⟨g1,g2⟩:=xK ha
  obtain ⟨k1,k2,k3,k4⟩:=nl g1 hr h3
  obtain ⟨m1,_⟩:=tn g2 k2 k3
  refine ⟨_,?_,m1 rfl⟩
  have:(⟨vs⟩:Array Value).extract off (off+i.size)=⟨(vs.drop off).take i.size⟩:=by
   apply Array.ext'
   simp [List.extract_eq_take_drop]
  simp [run_sizeOf w h1]
 | false=>
  obtain ⟨g1,g2⟩:=Od ha
  obtain ⟨k1,k2,k3,k4⟩:=nl g1 hr h3
  obtain ⟨_,m2⟩:=tn g2 k2 k3
  obtain ⟨c,hc,di⟩:=m2 rfl
  refine ⟨c,?_,di⟩
  have h0:=k4 0 c (by rw [hc]; simp)
  simp only [Nat.add_zero] at h0
  simp [h0]
theorem By (h:aY E R w β s a) (t:TypeId) (x:Operand) (j:Nat) (ho:o.op=.field t x j) {v:AV} (hq:Bl E t (bk E s.ae x) j=some v) :
  bH E R w β s a o (s.put o.dst (.v v)):=by
 have rx:=aI h x
 unfold Bl at hq
 split at hq
 ·rename_i i cs hi hx
  rw [hx] at rx
  have cS:Rel R w (.agg cs) (a.eval x):=rx
  generalize ea:a.eval x=xv at cS
  cases cS with
  | @agg _ vs hr h1=>
  split at hq
  ·rename_i fs hk
   split at hq
   ·rename_i off sz ag hn
    obtain ⟨fy,u,e1,e2,e3,e4,e5,e6⟩:=bO E hi
    rw [hk] at e5
    obtain ⟨fl,rfl,hf⟩:=C6 e5
    obtain ⟨f,fi,u',g1,g2,g3,g4,g5,g6⟩:=lf hf hn
    have key:∃ c,(part f.type ⟨vs⟩ off).run E.P w=.ok c w∧Rel R w v c:=by
     split at hq
     ·rename_i xK
      split at hq
      ·rename_i l hl
       exact kD g3 g5 (l:=l) hr h1 (fun _=>⟨by rw [g4]; exact hl,hq⟩) (fun hf=>by rw [g6,xK] at hf; cases hf)
      ·cases hq
     ·rename_i xK
      split at hq
      ·rename_i l hl
       exact kD g3 g5 (l:=l) hr h1 (fun hf=>by rw [g6] at hf; exact absurd hf xK) (fun _=>⟨hl,hq⟩)
      ·cases hq
    obtain ⟨c,k1,k2⟩:=key
    refine aq h ?_ k2
    have Vl:fl[j]?=some f:=by simpa using g1
    simp [execOp,ho,Instr.field,run_underlying e2,Vl,ea,asAgg,g2,k1]
   ·cases hq
  ·cases hq
 ·cases hq
theorem Bz (h:aY E R w β s a) (t:TypeId) (x ix:Operand) (ho:o.op=.index t x ix) {v:AV} (hq:Bm E t (bk E s.ae x) (bk E s.ae ix)=some (true,v)) :
  bH E R w β s a o (s.put o.dst (.v v)):=by
 have rx:=aI h x
 have ri:=aI h ix
 unfold Bm at hq
 split at hq
 ·rename_i i l k n hi hx RX
  rw [hx] at rx
  rw [RX] at ri
  have Na:Rel R w (.int k n) (a.eval ix):=ri
  have cS:Rel R w (.str l) (a.eval x):=rx
  generalize Ja:a.eval ix=iv at Na
  generalize ea:a.eval x=xv at cS
  cases Na
  cases cS
  obtain ⟨fy,u,e1,e2,e3,e4,e5,e6⟩:=bO E hi
  split at hq
  ·rename_i hk
   rw [hk] at e5
   have:=jf e5
   subst this
   injection hq with hq
   injection hq with tu mn
   subst mn
   obtain ⟨xJ,Fl⟩:=of_decide_eq_true tu
   have bT:n.toNat < l.length:=by omega
   refine aq h (c:=.int .u8 (l.getD n.toNat 0).toNat) ?_ (Rel.int _ _)
   have iO:(⟨⟨l⟩⟩:ByteArray)[n.toNat]?=some (l.getD n.toNat 0):=by
    have hs:n.toNat < (⟨⟨l⟩⟩:ByteArray).size:=bT
    rw [getElem?_pos (⟨⟨l⟩⟩:ByteArray) n.toNat hs]
    congr 1
    simp [List.getD,List.getElem?_eq_getElem bT]
    rfl
   simp [execOp,ho,Instr.index,Ja,ea,asIntOf,run_underlying e2,xJ,iO]
  ·cases hq
 ·rename_i i cs k n hi hx RX
  rw [hx] at rx
  rw [RX] at ri
  have Na:Rel R w (.int k n) (a.eval ix):=ri
  have cS:Rel R w (.agg cs) (a.eval x):=rx
  generalize Ja:a.eval ix=iv at Na
  generalize ea:a.eval x=xv at cS
  cases Na
  cases cS with
  | @agg _ vs hr h1=>
  obtain ⟨fy,u,e1,e2,e3,e4,e5,e6⟩:=bO E hi
  split at hq
  ·rename_i len esz ag hk
   rw [hk] at e5
   obtain ⟨e,ie,ue,rfl,f1,f2,f3,f4⟩:=mj e5
   split at hq
   ·rename_i v' Oe
    injection hq with hq
    injection hq with tu mn
    subst mn
    have eu:=of_decide_eq_true tu
    have key:∃ c,(part e ⟨vs⟩ (n.toNat * esz)).run E.P w=.ok c w∧Rel R w v' c:=by
     split at Oe
     ·rename_i xK
      split at Oe
      ·rename_i l hl
       exact kD f1 f3 (l:=l) hr h1 (fun _=>⟨by rw [f2]; exact hl,Oe⟩) (fun hf=>by rw [f4,xK] at hf; cases hf)
      ·cases Oe
     ·rename_i xK
      split at Oe
      ·rename_i l hl
       exact kD f1 f3 (l:=l) hr h1 (fun hf=>by rw [f4] at hf; exact absurd hf xK) (fun _=>⟨hl,Oe⟩)
      ·cases Oe
    obtain ⟨c,k1,k2⟩:=key
    refine aq h ?_ k2
    simp [execOp,ho,Instr.index,Ja,ea,asIntOf,run_underlying e2,eu,run_sizeOf w f1,f2,k1]
   ·cases hq
  ·cases hq
 ·cases hq
theorem xL (h:aY E R w β s a) (x:Operand) (j:Nat) (ho:o.op=.extract x j) {vs:List AV} {v:AV} (hx:bk E s.ae x=.v (.aX vs)) (hn:nth vs j=some v) :
  bH E R w β s a o (s.put o.dst (.v v)):=by
 have rx:=aI h x
 rw [hx] at rx
 have cS:Rel R w (.aX vs) (a.eval x):=rx
 generalize ea:a.eval x=xv at cS
 cases cS with
 | @aX _ us hr=>
 rw [aR] at hn
 obtain ⟨c,h1,h2⟩:=hr.get hn
 refine aq h ?_ h2
 simp [execOp,ho,Instr.extract,ea,h1]
theorem fb (h:aY E R w β s a):∀ {l:List Operand} {vs:List AV},kr E s.ae l=some vs→aD R w vs (l.map a.eval)
 | [],vs,hl=>by simp [kr] at hl; subst hl; exact .nil
 | x :: l,vs,hl=>by
  unfold kr at hl
  split at hl
  ·rename_i v r h1 h2
   cases hl
   have:=aI h x
   rw [h1] at this
   exact .cons this (fb h h2)
  ·cases hl
theorem vK (h:aY E R w β s a) (g:FuncId) (x y:Array Operand) (ho:o.op=.makeFunc (.func g) x y) {p q:List AV} (hp:kr E s.ae x.toList=some p) (hq:kr E s.ae y.toList=some q) :
  bH E R w β s a o (s.put o.dst (.v (.fn g p q))):=by
 have h1:=fb h hp
 have h2:=fb h hq
 refine aq h (c:=.func (.func g) ⟨x.toList.map a.eval⟩ ⟨y.toList.map a.eval⟩) ?_ (Rel.fn h1 h2)
 have e1:x.map a.eval=⟨x.toList.map a.eval⟩:=Array.ext' (by simp)
 have e2:y.map a.eval=⟨y.toList.map a.eval⟩:=Array.ext' (by simp)
 simp [execOp,ho,Instr.makeFunc,e1,e2]
end ops
end Go.Am
namespace Go.Am
open Go
section ops
variable {E:Env} {R:ai} {w:World} {β:Nat→Nat} {s:St} {a:Act} {o:Oper}
theorem size_bytes (l:List UInt8):(⟨⟨l⟩⟩:ByteArray).size=l.length:=rfl
theorem pA (l:List UInt8):(⟨⟨l⟩⟩:ByteArray).toList=l:=by rw [ByteArray.toList_eq]
theorem xM (l r:List UInt8):((⟨⟨l⟩⟩:ByteArray)++⟨⟨r⟩⟩)=⟨⟨l++r⟩⟩:=by
 apply ByteArray.ext
 rw [ByteArray.data_append]
 simp
theorem Eg (op:BinOp) (t:TypeId) (x y:Operand) (k k':IntKind) (n m:Int):(eqGuard op t x y (.int k n) (.int k' m)).run E.P w=.ok () w:=by
 unfold eqGuard
 cases op <;> rfl
theorem Eh (op:BinOp) (t:TypeId) (x y:Operand) (n m:ByteArray):(eqGuard op t x y (.string n) (.string m)).run E.P w=.ok () w:=by
 unfold eqGuard
 cases op <;> rfl
theorem BA (h:aY E R w β s a) (op:BinOp) (t u:TypeId) (x y:Operand) (ho:o.op=.binOp op t x y u) {p q v:AV} (hx:bk E s.ae x=.v p) (hy:bk E s.ae y=.v q) (hv:zo op p q=some (true,v)) :
  bH E R w β s a o (s.put o.dst (.v v)):=by
 have rx:=aI h x
 have ry:=aI h y
 rw [hx] at rx
 rw [hy] at ry
 have cS:Rel R w p (a.eval x):=rx
 have nU:Rel R w q (a.eval y):=ry
 have key:∃ c,(do eqGuard op t x y (a.eval x) (a.eval y); binOp op t (a.eval x) (a.eval y):Sem Value).run E.P w=.ok c w∧Rel R w v c:=by
  generalize ea:a.eval x=xv at cS
  generalize RY:a.eval y=yv at nU
  unfold zo at hv
  split at hv
  ·rename_i k n k' m
   cases cS
   cases nU
   simp only [Sem.run_bind,Eg,Result.andThen_ok]
   split at hv
   ·injection hv with hv
    injection hv with h1 h2
    subst h2
    have hm:=of_decide_eq_true h1
    have Of:¬ m < 0:=by omega
    exact ⟨.int k (k.wrap (n * 2 ^ (min m.toNat k.bits))),by simp [binOp,Op.shift,Of],.int _ _⟩
   ·injection hv with hv
    injection hv with h1 h2
    subst h2
    have hm:=of_decide_eq_true h1
    have Of:¬ m < 0:=by omega
    exact ⟨.int k (n.fdiv (2 ^ (min m.toNat k.bits))),by simp [binOp,Op.shift,Of],.int _ _⟩
   ·rename_i Jb UB
    split at hv
    ·rename_i FF
     subst FF
     split at hv
     ·cases hv; exact ⟨.int k (k.wrap (n+m)),by simp [binOp,Op.intArith],.int _ _⟩
     ·cases hv; exact ⟨.int k (k.wrap (n - m)),by simp [binOp,Op.intArith],.int _ _⟩
     ·cases hv; exact ⟨.int k (k.wrap (n * m)),by simp [binOp,Op.intArith],.int _ _⟩
     ·injection hv with hv
      injection hv with h1 h2
      subst h2
      have hm:¬ m=0:=by simpa using h1
      exact ⟨.int k (k.wrap (n.tdiv m)),by simp [binOp,Op.intDiv,hm],.int _ _⟩
     ·injection hv with hv
      injection hv with h1 h2
      subst h2
      have hm:¬ m=0:=by simpa using h1
      exact ⟨.int k (n.tmod m),by simp [binOp,Op.intDiv,hm],.int _ _⟩
     ·cases hv; exact ⟨.int k (D4 k n m),by simp [binOp,Op.intBits,D4],.int _ _⟩
     ·cases hv; exact ⟨.int k (Vg k n m),by simp [binOp,Op.intBits,Vg],.int _ _⟩
     ·cases hv; exact ⟨.int k (D5 k n m),by simp [binOp,Op.intBits,D5],.int _ _⟩
     ·cases hv; exact ⟨.bool (n == m),by simp [binOp,Op.intCmp],.bool _⟩
     ·cases hv; exact ⟨.bool (n != m),by simp [binOp,Op.intCmp],.bool _⟩
     ·cases hv; exact ⟨.bool (decide (n < m)),by simp [binOp,Op.intCmp],.bool _⟩
     ·cases hv; exact ⟨.bool (decide (n≤m)),by simp [binOp,Op.intCmp],.bool _⟩
     ·cases hv; exact ⟨.bool (decide (n > m)),by simp [binOp,Op.intCmp],.bool _⟩
     ·cases hv; exact ⟨.bool (decide (n≥m)),by simp [binOp,Op.intCmp],.bool _⟩
     ·cases hv
    ·cases hv
  ·rename_i l r
   cases cS
   cases nU
   simp only [Sem.run_bind,Eh,Result.andThen_ok]
   split at hv
   ·injection hv with hv
    injection hv with h1 h2
    subst h2
    have hm:=of_decide_eq_true h1
    refine ⟨.string ⟨⟨l++r⟩⟩,?_,.str _⟩
    have Og:¬ ((l.length+r.length:Nat):Int) > IntKind.i64.max:=by
     have:IntKind.i64.max=9223372036854775807:=by decide
     omega
    simp only [binOp,Op.stringOp,size_bytes,if_neg Og,xM,Sem.run_pure]
   ·cases hv; exact ⟨.bool (l == r),by simp [binOp,Op.stringOp],.bool _⟩
   ·cases hv; exact ⟨.bool (!(l == r)),by simp [binOp,Op.stringOp],.bool _⟩
   ·cases hv; exact ⟨.bool (Op.bytesLess l r),by simp [binOp,Op.stringOp],.bool _⟩
   ·cases hv; exact ⟨.bool (Op.bytesLess l r || l == r),by simp [binOp,Op.stringOp],.bool _⟩
   ·cases hv; exact ⟨.bool (!(Op.bytesLess l r || l == r)),by simp [binOp,Op.stringOp],.bool _⟩
   ·cases hv; exact ⟨.bool (!(Op.bytesLess l r)),by simp [binOp,Op.stringOp],.bool _⟩
   ·cases hv
  ·cases hv
 obtain ⟨c,k1,k2⟩:=key
 refine aq h (c:=c) ?_ k2
 simp only [Sem.run_bind] at k1
 simp only [execOp,ho,Sem.run_bind,k1,Result.andThen_ok,Sem.run_pure]
theorem iX {t:TypeId} {i:TypeInfo} {u:TypeDesc} (h1:E.P.info? t=some i) (h2:E.P.underlying t=some u) {off:Nat} {cs:List AV} {vs:List Value} {v:AV} (hr:aD R w cs vs) (h3:∀ x∈vs,x.oneCell'=true)
  (h:C1 (iy u) off i.size cs=some v):∃ c,(part t ⟨vs⟩ off).run E.P w=.ok c w∧Rel R w v c:=by
 unfold C1 at h
 cases ha:iy u with
 | true=>
  rw [ha] at h
  simp only [if_true] at h
  split at h
  ·rename_i l hl
   exact kD h1 h2 hr h3 (fun _=>⟨hl,h⟩) (fun e=>by rw [ha] at e; cases e)
  ·cases h
 | false=>
  rw [ha] at h
  simp only [Bool.false_eq_true,if_false] at h
  split at h
  ·rename_i l hl
   exact kD h1 h2 hr h3 (fun e=>by rw [ha] at e; cases e) (fun _=>⟨hl,h⟩)
  ·cases h
theorem zu {ek:TypeId→EK} {d:Nat} (ih:∀ (t:TypeId) (a b:AV) (r:Bool) (x y:Value),jM (ek t) a b=some r→Rel R w a x→Rel R w b y→(Op.equalIn d t x y).run E.P w=.ok r w) {xs ys:List AV} {vs us:List Value}
  (hx:aD R w xs vs) (sh:∀ x∈vs,x.oneCell'=true) (hy:aD R w ys us) (Jw:∀ x∈us,x.oneCell'=true) :
  ∀ (fs:List Field) (l:N4) (r:Bool),Bk E.P ek fs=some l→qt l xs ys=some r→(Op.eqFields d ⟨vs⟩ ⟨us⟩ fs).run E.P w=.ok r w
 | [],l,r,hl,hr=>by
  simp [Bk] at hl
  subst hl
  simp [qt] at hr
  subst hr
  rfl
 | f :: fs,l,r,hl,hr=>by
  unfold Bk at hl
  split at hl
  ·cases hl
  ·rename_i hn
   split at hl
   ·rename_i i u l' h1 h2 h3
    cases hl
    unfold qt at hr
    split at hr
    ·rename_i a b ha hb
     split at hr
     ·rename_i p q hp hq
      cases hr
      obtain ⟨c,k1,k2⟩:=iX h1 h2 hx sh ha
      obtain ⟨c',k3,k4⟩:=iX h1 h2 hy Jw hb
      have cj : f.name ≠ "_" := by simpa using hn
      have he:=ih f.type a b p c c' hp k2 k4
      have tv:=zu ih hx sh hy Jw fs l' q h3 hq
      simp only [Op.eqFields,cj,ne_eq,not_false_eq_true,if_true,Sem.run_bind,k1,k3,he,Result.andThen_ok]
      cases p with
      | true=>simp [tv]
      | false=>simp
     ·cases hr
    ·cases hr
   ·cases hl
theorem wz {ek:EK} {d:Nat} {e:TypeId} {i:TypeInfo} {u:TypeDesc} (h1:E.P.info? e=some i) (h2:E.P.underlying e=some u) (ih:∀ (a b:AV) (r:Bool) (x y:Value),jM ek a b=some r→Rel R w a x→Rel R w b y→(Op.equalIn d e x y).run E.P w=.ok r w) {xs ys:List AV} {vs us:List Value}
  (hx:aD R w xs vs) (sh:∀ x∈vs,x.oneCell'=true) (hy:aD R w ys us) (Jw:∀ x∈us,x.oneCell'=true) :
  ∀ (m k:Nat) (r:Bool),qt (td i.size (iy u) ek m k) xs ys=some r→(Op.eqItems d e i.size ⟨vs⟩ ⟨us⟩ (List.range' k m)).run E.P w=.ok r w
 | 0,k,r,hr=>by
  simp [td,qt] at hr
  subst hr
  rfl
 | m+1,k,r,hr=>by
  unfold td qt at hr
  split at hr
  ·rename_i a b ha hb
   split at hr
   ·rename_i p q hp hq
    cases hr
    obtain ⟨c,k1,k2⟩:=iX h1 h2 hx sh ha
    obtain ⟨c',k3,k4⟩:=iX h1 h2 hy Jw hb
    have he:=ih a b p c c' hp k2 k4
    have tv:=wz h1 h2 ih hx sh hy Jw m (k+1) q hq
    simp only [List.range'_succ,Op.eqItems,Sem.run_bind,k1,k3,he,Result.andThen_ok]
    cases p with
    | true=>simpa using tv
    | false=>simp
   ·cases hr
  ·cases hr
theorem xN:∀ (n d:Nat),n≤d→∀ (t:TypeId) (a b:AV) (r:Bool) (x y:Value),jM (nN E.P n t) a b=some r→Rel R w a x→Rel R w b y→(Op.equalIn d t x y).run E.P w=.ok r w
 | 0,_,_,t,a,b,r,x,y,h,_,_=>by simp [nN,jM] at h
 | n+1,0,hd,_,_,_,_,_,_,_,_,_=>by omega
 | n+1,d+1,hd,t,a,b,r,x,y,h,hx,hy=>by
  unfold nN at h
  split at h
  ·rename_i hu
   unfold jM at h
   split at h
   all_goals (try contradiction)
   cases hx; cases hy; cases h
   exact run_equalIn_bool' w d t _ _ hu
  ·rename_i k hu
   unfold jM at h
   split at h
   all_goals (try contradiction)
   split at h
   ·rename_i hk
    subst hk
    cases hx; cases hy; cases h
    exact run_equalIn_int w d t _ k _ _ hu
   ·cases h
  ·rename_i hu
   unfold jM at h
   split at h
   all_goals (try contradiction)
   cases hx; cases hy; cases h
   rw [run_equalIn_string w d t _ _ hu,pA,pA]
  ·rename_i fs hu
   split at h
   ·simp [jM] at h
   ·rename_i hs
    split at h
    ·rename_i l hl
     unfold jM at h
     split at h
     all_goals (try contradiction)
     rename_i xF xs ys hk
     cases hk
     cases hx with
     | agg hx sh=>
     cases hy with
     | agg hy Jw=>
     have hf:E.P.fieldsOf t=fs:=by simp [Program.fieldsOf,hu]
     rw [run_equalIn_struct w d t _ _ (by rw [hf]; exact hu) (by simpa using hs),hf]
     exact zu (fun t a b r x y=>xN n d (by omega) t a b r x y) hx sh hy Jw fs.toList _ r hl h
    ·simp [jM] at h
  ·rename_i m e hu
   split at h
   ·rename_i i ud g1 g2
    unfold jM at h
    split at h
    all_goals (try contradiction)
    rename_i xF xs ys hk
    cases hk
    cases hx with
    | agg hx sh=>
    cases hy with
    | agg hy Jw=>
    have np:E.P.cellsOf e=i.size:=by simp [Program.cellsOf,g1]
    rw [run_equalIn_array (P:=E.P) w d _ _ hu g1,np,List.range_eq_range']
    exact wz g1 g2 (fun a b r x y=>xN n d (by omega) e a b r x y) hx sh hy Jw m 0 r h
   ·simp [jM] at h
  ·simp [jM] at h
theorem iY {t:TypeId} {i:TI} (hi:E.ti t=some i) {p q:AV} {r:Bool} {x y:Value} (h:jM i.ek p q=some r) (hx:Rel R w p x) (hy:Rel R w q y) :
  (Op.equalIn 10000 t x y).run E.P w=.ok r w∧((∃ b c,x=.bool b∧y=.bool c)∨(∃ k n k' m,x=.int k n∧y=.int k' m)∨(∃ n m,x=.string n∧y=.string m)∨(∃ n m,x=.agg n∧y=.agg m∧E.P.eqGuardType E.P.depth t=false)):=by
 have wA:i.ek=rm E.P t:=by
  have:=E.D3 t i hi
  unfold D2 at this
  split at this
  ·split at this
   ·cases this; rfl
   ·cases this
  ·cases this
 rw [wA] at h
 have hg:jM (nN E.P 6 t) p q=some r∧((∃ l,nN E.P 6 t=.st l)→E.P.eqGuardType E.P.depth t=false):=by
  unfold rm at h
  split at h
  ·rename_i l hl
   split at h
   ·simp [jM] at h
   ·rename_i Jc
    exact ⟨by rw [hl]; exact h,fun _=>by simpa using Jc⟩
  ·rename_i k hk
   exact ⟨h,fun ⟨l,hl⟩=>absurd hl (hk l)⟩
 refine ⟨xN 6 10000 (by omega) t p q r x y hg.1 hx hy,?_⟩
 have h2:=hg.1
 have h3:=hg.2
 generalize nN E.P 6 t=k at h2 h3
 unfold jM at h2
 split at h2
 ·cases hx; cases hy; exact .inl ⟨_,_,rfl,rfl⟩
 ·cases hx; cases hy; exact .inr (.inl ⟨_,_,_,_,rfl,rfl⟩)
 ·cases hx; cases hy; exact .inr (.inr (.inl ⟨_,_,rfl,rfl⟩))
 ·cases hx; cases hy; exact .inr (.inr (.inr ⟨_,_,rfl,rfl,h3 ⟨_,rfl⟩⟩))
 ·cases h2
theorem FG (h:aY E R w β s a) (op:BinOp) (t u:TypeId) (x y:Operand) (ho:o.op=.binOp op t x y u) {p q:AV} {r:Bool} (hx:bk E s.ae x=.v p) (hy:bk E s.ae y=.v q) (hb:zo op p q=none) (hv:Vi E op t p q=some r) :
  bH E R w β s a o (s.put o.dst (.v (.bool r))):=by
 have rx:=aI h x
 have ry:=aI h y
 rw [hx] at rx
 rw [hy] at ry
 have cS:Rel R w p (a.eval x):=rx
 have nU:Rel R w q (a.eval y):=ry
 have key:(do eqGuard op t x y (a.eval x) (a.eval y); binOp op t (a.eval x) (a.eval y):Sem Value).run E.P w=.ok (.bool r) w:=by
  generalize ea:a.eval x=xv at cS
  generalize RY:a.eval y=yv at nU
  unfold Vi at hv
  split at hv
  ·rename_i i hi
   obtain ⟨k1,k2⟩:=iY hi hv cS nU
   rcases k2 with ⟨b,c,rfl,rfl⟩ | ⟨k,n,k',m,rfl,rfl⟩ | ⟨n,m,rfl,rfl⟩ | ⟨n,m,rfl,rfl,hg⟩
   ·have BB:(eqGuard .eql t x y (.bool b) (.bool c)).run E.P w=.ok () w:=rfl
    simp [BB,binOp,Op.equal,Op.maxDepth,k1]
   ·cases cS; cases nU; simp [zo] at hb
    cases hk:i.ek <;> simp [hk,jM] at hv
    exact absurd hv.1 hb
   ·cases cS; cases nU; simp [zo] at hb
   ·simp only [Sem.run_bind,run_eqGuard_agg w _ t x y n m hg,Result.andThen_ok,run_eql_struct,k1]
  ·rename_i i hi
   split at hv
   ·rename_i r' kf
    cases hv
    obtain ⟨k1,k2⟩:=iY hi kf cS nU
    rcases k2 with ⟨b,c,rfl,rfl⟩ | ⟨k,n,k',m,rfl,rfl⟩ | ⟨n,m,rfl,rfl⟩ | ⟨n,m,rfl,rfl,hg⟩
    ·have BB:(eqGuard .neq t x y (.bool b) (.bool c)).run E.P w=.ok () w:=rfl
     simp [BB,binOp,Op.equal,Op.maxDepth,k1]
    ·cases cS; cases nU; simp [zo] at hb
     cases hk:i.ek <;> simp [hk,jM] at kf
     exact absurd kf.1 hb
    ·cases cS; cases nU; simp [zo] at hb
    ·simp only [Sem.run_bind,run_eqGuard_agg w _ t x y n m hg,Result.andThen_ok,run_neq_struct,k1]
   ·cases hv
  ·cases hv
 refine aq h (c:=.bool r) ?_ (.bool r)
 simp only [Sem.run_bind] at key
 simp only [execOp,ho,Sem.run_bind,key,Result.andThen_ok,Sem.run_pure]
theorem FH (h:aY E R w β s a) (t:TypeId) (x:Operand) (ho:o.op=.unOp .not t x) {b:Bool} (hx:bk E s.ae x=.v (.bool b)):bH E R w β s a o (s.put o.dst (.v (.bool (!b)))):=by
 have rx:=aI h x
 rw [hx] at rx
 have cS:Rel R w (.bool b) (a.eval x):=rx
 generalize ea:a.eval x=xv at cS
 cases cS
 refine aq h (c:=.bool (!b)) ?_ (Rel.bool _)
 simp [execOp,ho,Op.unary,ea]
theorem FI (h:aY E R w β s a) (t:TypeId) (x:Operand) (ho:o.op=.unOp .neg t x) {k:IntKind} {n:Int} (hx:bk E s.ae x=.v (.int k n)):bH E R w β s a o (s.put o.dst (.v (.int k (k.wrap (0 - n))))):=by
 have rx:=aI h x
 rw [hx] at rx
 have cS:Rel R w (.int k n) (a.eval x):=rx
 generalize ea:a.eval x=xv at cS
 cases cS
 refine aq h (c:=.int k (k.wrap (0 - n))) ?_ (Rel.int _ _)
 simp [execOp,ho,Op.unary,Op.intArith,ea]
theorem wB:∀ (us:List Value) (off j0:Nat) (cells:Array Value),off+j0+us.length≤cells.size →
  ((us.zipIdx j0).foldl (fun (cs:Array Value) (p:Value × Nat)=>cs.setIfInBounds (off+p.2) p.1) cells).toList=cells.toList.take (off+j0)++us++cells.toList.drop (off+j0+us.length)
 | [],off,j0,cells,_=>by simp
 | u :: us,off,j0,cells,h=>by
  have bT:off+j0 < cells.size:=by simp at h; omega
  have ih:=wB us off (j0+1) (cells.setIfInBounds (off+j0) u) (by simp at h ⊢; omega)
  simp only [List.zipIdx_cons,List.foldl_cons]
  rw [ih]
  have e:=list_seg_step cells.toList (off+j0) u us (by simp at h ⊢; omega)
  simpa [Array.toList_setIfInBounds,Nat.add_assoc] using e
theorem mo (place:Nat→Option (Nat × Nat)):∀ {ps:List (Nat × AV)} {qs:List (Nat × Value)} {cells tw:List AV} {vs:List Value},
  aD R w (ps.map (·.2)) (qs.map (·.2))→ps.map (·.1)=qs.map (·.1)→aD R w cells vs→(∀ x∈vs,x.oneCell'=true)→rn place cells ps=some tw →
  ∃ us,Instr.fill place ⟨vs⟩ qs=some ⟨us⟩∧aD R w tw us∧∀ x∈us,x.oneCell'=true
 | [],qs,cells,tw,vs,h1,h2,h3,h4,h5=>by
  have:qs=[]:=by simpa using h2.symm
  subst this
  simp [rn] at h5
  subst h5
  exact ⟨vs,rfl,h3,h4⟩
 | (i,v) :: ps,[],cells,tw,vs,h1,h2,h3,h4,h5=>by simp at h2
 | (i,v) :: ps,(j,c) :: qs,cells,tw,vs,h1,h2,h3,h4,h5=>by
  simp only [List.map_cons,List.cons.injEq] at h2
  obtain ⟨rfl,h2⟩:=h2
  cases h1 with
  | cons hr h1=>
  unfold rn at h5
  split at h5
  ·cases h5
  ·rename_i off sz hp
   split at h5
   ·rename_i eu
    simp only [Bool.and_eq_true] at eu
    obtain ⟨⟨I8,hlen⟩,hle⟩:=eu
    have hlen:=Nat.eq_of_beq_eq_true hlen
    have hle:=Nat.le_of_ble_eq_true hle
    obtain ⟨c1,c2⟩:=Rel.cells hr I8
    have C7:c.cells.toList.length=sz:=by rw [← c1.length]; exact hlen
    have hb:off+v.cells.length≤cells.length:=by omega
    obtain ⟨us,u1,u2,u3⟩:=mo place h1 h2 (h3.bz c1 hb) (gH h4 c2) h5
    refine ⟨us,?_,u2,u3⟩
    have dG:c.cells.size=sz:=by simpa using C7
    have Nb:vs.length=cells.length:=h3.length.symm
    have RZ:c.cells.zipIdx.foldl (fun (cs:Array Value) (x:Value × Nat)=>cs.setIfInBounds (off+x.2) x.1) ⟨vs⟩=⟨vs.take off++c.cells.toList++vs.drop (off+c.cells.toList.length)⟩:=by
     apply Array.ext'
     rw [← Array.foldl_toList,Array.toList_zipIdx]
     have:=wB c.cells.toList off 0 ⟨vs⟩ (by simp only [List.size_toArray]; omega)
     simpa using this
    have b6:(c.cells.size≠sz || decide (off+c.cells.size > (⟨vs⟩:Array Value).size))=false:=by
     have Jb:decide (c.cells.size≠sz)=false:=by simp [dG]
     have UB:decide (off+c.cells.size > (⟨vs⟩:Array Value).size)=false:=by
      rw [decide_eq_false_iff_not,dG]
      show ¬ off+sz > vs.length
      omega
     rw [Jb,UB]
     rfl
    unfold Instr.fill
    simp only [hp,b6,Bool.false_eq_true,if_false]
    rw [← u1]
    exact congrArg (fun z=>Instr.fill place z qs) RZ
   ·cases h5
theorem sL (h:aY E R w β s a):∀ {l:List (Nat × Operand)} {ps:List (Nat × AV)},I7 E s.ae l=some ps →
  aD R w (ps.map (·.2)) ((l.map fun x=>(x.1,a.eval x.2)).map (·.2))∧ps.map (·.1)=(l.map fun x=>(x.1,a.eval x.2)).map (·.1)
 | [],ps,hl=>by simp [I7] at hl; subst hl; exact ⟨.nil,rfl⟩
 | (i,x) :: l,ps,hl=>by
  unfold I7 at hl
  split at hl
  ·rename_i v r h1 h2
   cases hl
   have hx:=aI h x
   rw [h1] at hx
   obtain ⟨g1,g2⟩:=sL h h2
   exact ⟨.cons hx g1,by simpa using g2⟩
  ·cases hl
theorem BC (h:aY E R w β s a) (t:TypeId) (parts:Array (Nat × Operand)) (ho:o.op=.build t parts) {v:AV} (hv:kS E s t parts.toList=some v) :
  bH E R w β s a o (s.put o.dst (.v v)):=by
 unfold kS at hv
 split at hv
 ·rename_i i ps hi Fm
  split at hv
  ·rename_i z hz
   split at hv
   ·rename_i cs np
    split at hv
    ·rename_i xK
     cases hv
     simp only [Bool.and_eq_true] at xK
     obtain ⟨xK,pf⟩:=xK
     obtain ⟨fy,u,e1,e2,e3,e4,e5,e6⟩:=bO E hi
     rw [hz] at e6
     obtain ⟨zc,ow,Bc⟩:=cA e6
     obtain ⟨p1,p2⟩:=sL h Fm
     obtain ⟨c1,c2⟩:=Rel.cells (Bc R w) pf
     have Oh:(parts.map fun (x:Nat × Operand)=>(x.1,a.eval x.2)).toList=parts.toList.map fun x=>(x.1,a.eval x.2):=by simp
     have key:∃ us,E.P.built t (parts.toList.map fun x=>(x.1,a.eval x.2))=some ⟨us⟩∧aD R w cs us∧∀ x∈us,x.oneCell'=true:=by
      cases u <;> simp only [iy] at e4 <;> first | (rw [xK] at e4; cases e4; done) | skip
      ·rename_i n e
       simp only [nL] at e5
       split at e5
       ·rename_i ie ue f1 f2
        injection e5 with e5
        rw [← e5] at np
        obtain ⟨us,u1,u2,u3⟩:=mo (R:=R) (w:=w) _ p1 p2 c1 c2 np
        refine ⟨us,?_,u2,u3⟩
        unfold Program.built
        simp only [e1,e2,ow,f1]
        rw [← u1]
        rfl
       ·cases e5
      ·rename_i fs
       simp only [nL] at e5
       split at e5
       ·rename_i l hl
        injection e5 with e5
        rw [← e5] at np
        obtain ⟨us,u1,u2,u3⟩:=mo (R:=R) (w:=w) _ p1 p2 c1 c2 np
        refine ⟨us,?_,u2,u3⟩
        unfold Program.built
        simp only [e1,e2,ow,lT hl]
        rw [← u1]
        have Rc:placeOf (.st l)=fun j=>(l.map fun x=>(x.1,x.2.1)).toArray[j]?:=by
         funext j
         simp only [placeOf,aR,List.getElem?_toArray,List.getElem?_map]
         cases l[j]? <;> rfl
        rw [Rc]
       ·cases e5
     obtain ⟨us,u1,u2,u3⟩:=key
     refine aq h (c:=.agg ⟨us⟩) ?_ (Rel.agg u2 u3)
     have bi:=run_build (P:=E.P) w t (parts.map fun (x:Nat × Operand)=>(x.1,a.eval x.2)) ⟨us⟩ (by rw [Oh]; exact u1)
     simp only [execOp,ho,Sem.run_bind,bi,Result.andThen_ok,Sem.run_pure]
    ·cases hv
   ·cases hv
  ·cases hv
 ·cases hv
end ops
end Go.Am
