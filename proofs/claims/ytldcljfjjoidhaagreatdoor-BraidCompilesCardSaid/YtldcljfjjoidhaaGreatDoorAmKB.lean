/- The abstract machine: lists of cells; what keeps a state's meaning; loads and stores. -/
import Derived.Test.YtldcljfjjoidhaaGreatDoorAmKA
import Derived.Laws.CopyRow
import Derived.Laws.Slices
import Derived.Laws.StructEq
import Derived.ChangeKeysEq
set_option linter.all false
namespace Go.Am
open Go
section lists
variable {α:Type}
theorem xo (n:Nat) (l:List α):gd n l=l.drop n:=by
 induction n generalizing l with
 | zero=>simp [gd]
 | succ n ih=>cases l <;> simp [gd,ih]
theorem JX {n:Nat} {l r:List α} (h:takeN n l=some r):r=l.take n∧r.length=n:=by
 induction n generalizing l r with
 | zero=>simp [takeN] at h; subst h; simp
 | succ n ih=>
  cases l with
  | nil=>simp [takeN] at h
  | cons a l=>
   unfold takeN at h
   split at h
   ·rename_i r' hr
    cases h
    obtain ⟨h1,h2⟩:=ih hr
    exact ⟨by simp [h1],by simp [h2]⟩
   ·cases h
theorem Ug {off n:Nat} {l r:List α} (h:GD off n l=some r):r=(l.drop off).take n∧r.length=n:=by
 unfold GD at h
 rw [xo] at h
 exact JX h
theorem fD (l:List α) (off:Nat) (ys:List α) (h:off+ys.length≤l.length):ck l off ys=l.take off++ys++l.drop (off+ys.length):=by
 induction l generalizing off ys with
 | nil=>
  have hy:ys=[]:=List.eq_nil_of_length_eq_zero (by rw [List.length_nil] at h; omega)
  subst hy
  simp [ck]
 | cons a l ih=>
  cases ys with
  | nil=>simp [ck]
  | cons y ys=>
   cases off with
   | zero=>
    simp only [ck]
    rw [ih 0 ys (by simp at h ⊢; omega)]
    simp
   | succ n=>
    simp only [ck]
    rw [ih n (y :: ys) (by simp at h ⊢; omega)]
    rw [show n+1+(y :: ys).length=(n+(y :: ys).length)+1 by omega]
    simp
theorem zV (l:List α) (off:Nat) (ys:List α) (h:off+ys.length≤l.length):(ck l off ys).length=l.length:=by
 rw [fD l off ys h]
 simp
 omega
end lists
section rel
variable {R:an} {w:World}
theorem aQ.length {l:List AV} {vs:List Value} (h:aQ R w l vs):l.length=vs.length:=by
 induction l generalizing vs with
 | nil=>cases h; rfl
 | cons a l ih=>cases h with | cons h t=>simp [ih t]
theorem aQ.get {l:List AV} {vs:List Value} (h:aQ R w l vs) {i:Nat} {a:AV} (ha:l[i]?=some a):∃ c,vs[i]?=some c∧Rel R w a c:=by
 induction l generalizing vs i with
 | nil=>simp at ha
 | cons x l ih=>
  cases h with
  | cons h t=>
   cases i with
   | zero=>simp at ha; subst ha; exact ⟨_,by simp,h⟩
   | succ i=>simp at ha; obtain ⟨c,h1,h2⟩:=ih t ha; exact ⟨c,by simpa using h1,h2⟩
theorem aQ.drop {l:List AV} {vs:List Value} (h:aQ R w l vs) (n:Nat):aQ R w (l.drop n) (vs.drop n):=by
 induction n generalizing l vs with
 | zero=>simpa using h
 | succ n ih=>cases h with
  | nil=>simpa using aQ.nil
  | cons h t=>simpa using ih t
theorem aQ.take {l:List AV} {vs:List Value} (h:aQ R w l vs) (n:Nat):aQ R w (l.take n) (vs.take n):=by
 induction n generalizing l vs with
 | zero=>simpa using aQ.nil
 | succ n ih=>cases h with
  | nil=>simpa using aQ.nil
  | cons h t=>simpa using aQ.cons h (ih t)
theorem aQ.append {l r:List AV} {vs us:List Value} (h:aQ R w l vs) (k:aQ R w r us):aQ R w (l++r) (vs++us):=by
 induction l generalizing vs with
 | nil=>cases h; simpa using k
 | cons a l ih=>cases h with | cons h t=>exact .cons h (ih t)
theorem aQ.one {a:AV} {c:Value} (h:Rel R w a c):aQ R w [a] [c]:=.cons h .nil
theorem Rel.cells {a:AV} {c:Value} (h:Rel R w a c) (ht:a.a6=true):aQ R w a.cells c.cells.toList∧∀ v∈c.cells.toList,v.oneCell'=true:=by
 cases h with
 | agg h h1=>exact ⟨h,h1⟩
 | bp h=>simp [AV.a6] at ht
 | bool=>exact ⟨.one (.bool _),by simp [Value.cells,Value.oneCell']⟩
 | int=>exact ⟨.one (.int _ _),by simp [Value.cells,Value.oneCell']⟩
 | str=>exact ⟨.one (.str _),by simp [Value.cells,Value.oneCell']⟩
 | jd=>exact ⟨.one .jd,by simp [Value.cells,Value.oneCell']⟩
 | ptr h=>exact ⟨.one (.ptr h),by simp [Value.cells,Value.oneCell']⟩
 | ep h=>exact ⟨.one (.ep h),by simp [Value.cells,Value.oneCell']⟩
 | km=>exact ⟨.one .km,by simp [Value.cells,Value.oneCell']⟩
 | jA=>exact ⟨.one .jA,by simp [Value.cells,Value.oneCell']⟩
 | nL=>exact ⟨.one .nL,by simp [Value.cells,Value.oneCell']⟩
 | mV h ho=>exact ⟨.one (.mV h ho),by simp [Value.cells,Value.oneCell']⟩
 | mB h ho=>exact ⟨.one (.mB h ho),by simp [Value.cells,Value.oneCell']⟩
 | list h hl hc hk=>exact ⟨.one (.list h hl hc hk),by simp [Value.cells,Value.oneCell']⟩
 | kB h hc=>exact ⟨.one (.kB h hc),by simp [Value.cells,Value.oneCell']⟩
 | js h ho=>exact ⟨.one (.js h ho),by simp [Value.cells,Value.oneCell']⟩
 | dD h ho hc=>exact ⟨.one (.dD h ho hc),by simp [Value.cells,Value.oneCell']⟩
 | gp h ho=>exact ⟨.one (.gp h ho),by simp [Value.cells,Value.oneCell']⟩
 | kX=>exact ⟨.one .kX,by simp [Value.cells,Value.oneCell']⟩
 | map h=>exact ⟨.one (.map h),by simp [Value.cells,Value.oneCell']⟩
 | cI=>exact ⟨.one .cI,by simp [Value.cells,Value.oneCell']⟩
 | fn h h'=>exact ⟨.one (.fn h h'),by simp [Value.cells,Value.oneCell']⟩
 | yield h=>exact ⟨.one (.yield h),by simp [Value.cells,Value.oneCell']⟩
 | oN=>exact ⟨.one .oN,by simp [Value.cells,Value.oneCell']⟩
 | iface h=>exact ⟨.one (.iface h),by simp [Value.cells,Value.oneCell']⟩
mutual
theorem Rel.ia:∀ {a:AV} {c:Value},Rel R w a c→Rel R w a.ia c
 | _,_,.bool b=>.bool b
 | _,_,.int k n=>.int k n
 | _,_,.str l=>.str l
 | _,_,.agg h h1=>.agg h.ia h1
 | _,_,.bp h=>.bp h.ia
 | _,_,.jd=>.jd
 | _,_,.ptr h=>.ptr h
 | _,_,.ep h=>.ep h
 | _,_,.km=>.km
 | _,_,.jA=>.jA
 | _,_,.nL=>.nL
 | _,_,.mV _ _=>.jA
 | _,_,.mB _ _=>.jA
 | _,_,@Rel.list _ _ .nil _ _ _ _ _ _ h hl hc hk=>.list h hl hc hk
 | _,_,@Rel.list _ _ .full _ _ _ _ _ _ h hl hc hk=>.list h hl hc hk
 | _,_,@Rel.list _ _ .lQ _ _ _ _ _ _ h hl hc hk=>.list h hl hc hk
 | _,_,@Rel.list _ _ (.own _) _ _ _ _ _ _ h hl hc _=>.list h hl hc trivial
 | _,_,@Rel.list _ _ (.bk _ _) _ _ _ _ _ _ h hl hc _=>.list h hl hc trivial
 | _,_,.kB h hc=>.kB h hc
 | _,_,.js h ho=>.js h ho
 | _,_,.dD h ho hc=>.dD h ho hc
 | _,_,.gp h ho=>.gp h ho
 | _,_,.kX=>.kX
 | _,_,.map h=>.map h
 | _,_,.cI=>.cI
 | _,_,.fn h h'=>.fn h h'
 | _,_,.yield h=>.yield h
 | _,_,.oN=>.oN
 | _,_,.iface h=>.iface h
theorem aQ.ia:∀ {l:List AV} {cs:List Value},aQ R w l cs→aQ R w (ma l) cs
 | _,_,.nil=>.nil
 | _,_,.cons h t=>.cons h.ia t.ia
end
theorem eN.get {b o:Nat} {l:List AV} (h:eN R w b o l):∃ vs,aQ R w l vs∧(∀ v∈vs,v.oneCell'=true)∧(∀ j v,vs[j]?=some v→w.cell? ⟨b,o+j,none⟩=some v)∧∀ j,j < l.length→R.I b (o+j):=by
 induction l generalizing o with
 | nil=>exact ⟨[],.nil,by simp,by simp,by simp⟩
 | cons a l ih=>
  cases h with
  | @cons _ _ _ c _ hc h1 hi h t=>
   obtain ⟨vs,k1,k2,k3,k4⟩:=ih t
   refine ⟨c :: vs,.cons h k1,?_,?_,?_⟩
   ·intro v hv
    rcases List.mem_cons.1 hv with rfl | hv
    ·exact h1
    ·exact k2 v hv
   ·intro j v hv
    cases j with
    | zero=>simp at hv; subst hv; exact hc
    | succ j=>simp at hv; have:=k3 j v hv; rwa [show o+1+j=o+(j+1) by omega] at this
   ·intro j hj
    cases j with
    | zero=>exact hi
    | succ j=>have:=k4 j (by simp at hj; omega); rwa [show o+1+j=o+(j+1) by omega] at this
theorem eN.make {b o:Nat} {l:List AV} {vs:List Value} (h:aQ R w l vs) (h1:∀ v∈vs,v.oneCell'=true) (hc:∀ j v,vs[j]?=some v→w.cell? ⟨b,o+j,none⟩=some v) (hi:∀ j,j < l.length→R.I b (o+j)):eN R w b o l:=by
 induction l generalizing vs o with
 | nil=>exact .nil
 | cons a l ih=>
  cases h with
  | cons h t=>
   refine .cons (hc 0 _ (by simp)) (h1 _ (by simp)) (hi 0 (by simp)) h (ih t (fun v hv=>h1 v (by simp [hv])) (fun j v hv=>?_) (fun j hj=>?_))
   ·have:=hc (j+1) v (by simpa using hv); rwa [show o+(j+1)=o+1+j by omega] at this
   ·have:=hi (j+1) (by simpa using hj); rwa [show o+(j+1)=o+1+j by omega] at this
theorem eN.drop {b o:Nat} {l:List AV} (h:eN R w b o l) (n:Nat):eN R w b (o+n) (l.drop n):=by
 induction n generalizing o l with
 | zero=>simpa using h
 | succ n ih=>cases h with
  | nil=>simpa using eN.nil
  | cons hc h1 hi h t=>have:=ih t; rw [show o+1+n=o+(n+1) by omega] at this; simpa using this
end rel
theorem cL (b o n:Nat):(⟨b,o,none⟩:Addr).add n=⟨b,o+n,none⟩:=by unfold Addr.add; split <;> simp_all
section bJ
variable {E:Env} {R R':an} {w w':World} {β β':Nat→Nat} {s:St} {a:Act}
theorem oX.mono (e:Ext R w R' w') {sl:bj} {tm:Array Value} (h:oX R w β sl tm):oX R' w' β sl tm:=
 fun i hi=>let ⟨c,h1,h2⟩:=h i hi; ⟨c,h1,h2.mono e⟩
theorem dP.mono (e:Ext R w R' w'):∀ {l:List (AV × AV)} {es:List MapEntry},dP R w l es→dP R' w' l es
 | [],[],_=>trivial
 | (_,_) :: _,_ :: _,h=>⟨h.1.mono e,h.2.1.mono e,dP.mono e h.2.2⟩
 | [],_ :: _,h=>h.elim
 | _ :: _,[],h=>h.elim
theorem oY {w w':World} {b:Nat} (h:b < w.heap.size) (e:w'.heap[b]?=w.heap[b]?):b < w'.heap.size:=by
 rw [Array.getElem?_eq_getElem h] at e
 exact (Array.getElem?_eq_some_iff.1 e).1
theorem ic.mono (e:Ext R w R' w') {go:GO} {ro:RO} (h:ic R w go ro) (hb:∀ b,ro.has b→w'.heap[b]?=w.heap[b]?) (hi:∀ b o,ro.has b→R'.I b o→R.I b o):ic R' w' go ro:=by
 cases ro with
 | none=>cases go <;> first | exact h | exact h.elim
 | bN=>cases go <;> first | exact h | exact h.elim
 | b9 b=>
  have jB:=hb b rfl
  cases go with
  | dead=>exact oY h jB
  | row cs el=>obtain ⟨vs,h1,h2,h3,h4⟩:=h; exact ⟨vs,jB.trans h1,h2.mono e,h3,fun o ho=>h4 o (hi b o rfl ho)⟩
  | tok f sz el=>exact h.elim
  | bk _ _ _=>exact h.elim
  | oG rJ n left _=>obtain ⟨bm,seen,c0,h1,h2,h3⟩:=h; exact ⟨bm,seen,c0,e.b9 h1,jB.trans h2,h3⟩
  | dw es sz el=>exact h.elim
  | map es=>obtain ⟨aC,clock,h1,h2,h3⟩:=h; exact ⟨aC,clock,jB.trans h1,dP.mono e h2,h3⟩
  | gZ l pos=>exact jB.trans h
  | loop busy pending fn ae n params assign body defers done=>
   obtain ⟨⟨r,db,h1,h2,h3,h4,h5,h6,h7,h8,h9,h11⟩,h10⟩:=h
   exact ⟨⟨r,db,jB.trans h1,h2,h3,h4.mono e,h5,h6,h7,h8,h9,e.b9 h11⟩,h10⟩
  | defers o=>exact jB.trans h
 | tok f b c=>
  have jB:=hb b rfl
  cases go with
  | tok f' sz el=>
   obtain ⟨h0,cur,h1,h2,h3,h4,h5⟩:=h
   exact ⟨h0,cur,jB.trans h1,h2,h3,h4,fun o ho ua=>h5 o ho (hi b o rfl ua)⟩
  | dw es sz el=>
   obtain ⟨h0,qj,cur,vs,h1,h2,h3,h4,h5,h6,h7,h8⟩:=h
   exact ⟨h0,qj,cur,vs,jB.trans h1,h2,h3,h4,fun o ho=>h5 o (hi b o rfl ho),h6.mono e,h7,h8⟩
  | dead=>exact oY h jB
  | row cs=>exact h.elim
  | bk _ _ _=>exact h.elim
  | oG _ _ _ _=>exact h.elim
  | map es=>exact h.elim
  | gZ l pos=>exact h.elim
  | loop=>exact h.elim
  | defers o=>exact h.elim
 | bk ts=>
  cases go with
  | bk fs sz el=>
   obtain ⟨h1,h2,h3⟩:=h
   refine ⟨h1,h2,fun j f t hf ht=>?_⟩
   have h4:=h3 j f t hf ht
   cases t with
   | bN=>exact h4
   | full f'=>exact h4
   | tok f' b c=>
    obtain ⟨h5,cur,k1,k2,k3,k4,k5⟩:=h4
    have hh:RO.has (.bk ts) b:=⟨j,f',c,ht⟩
    exact ⟨h5,cur,(hb b hh).trans k1,k2,k3,k4,fun o ho ua=>k5 o ho (hi b o hh ua)⟩
  | dead=>exact fun j f b c ht=>oY (h j f b c ht) (hb b ⟨j,f,c,ht⟩)
  | _=>exact h.elim
theorem Live.of {id b:Nat} {ro:RO} (h:nth R.obj id=some ro) (hb:ro.has b):Live R b:=⟨id,ro,h,hb⟩
theorem dQ.bJ {G:List GO} (h:dQ E R w G) (e:Ext R w R' w') (ho:R'.obj=R.obj) (hb:∀ b,Live R b→w'.heap[b]?=w.heap[b]?) (hi:∀ b o,Live R b→R'.I b o→R.I b o) (wf:∀ b o,R'.I b o→b < w'.heap.size) (hd:E.lo≤w.drawn→E.lo≤w'.drawn:=by first | exact fun h=>h | exact fun h=>Nat.le_succ_of_le h):dQ E R' w' G where
 lo:=hd h.lo
 len:=by rw [ho]; exact h.len
 obj:=fun id go ro hg hr=>by
  rw [ho] at hr
  exact (h.obj id go ro hg hr).mono e (fun b N2=>hb b (.of hr N2)) (fun b o N2=>hi b o (.of hr N2))
 inj:=fun i j ri rj b h1 h2=>by rw [ho] at h1 h2; exact h.inj i j ri rj b h1 h2
 wf:=wf
 cm:=fun g cs hg=>(h.cm g cs hg).mono e
theorem Ov.bJ {bx:cP} (h:Ov R w β bx) (e:Ext R w R' w') (hb:∀ k cs,dO bx k=some cs→w'.heap[β k]?=w.heap[β k]?) (hi:∀ k cs o,dO bx k=some cs→R'.I (β k) o→R.I (β k) o) (hl:∀ k cs,dO bx k=some cs→Live R' (β k)→Live R (β k)):Ov R' w' β bx where
 box:=fun k cs hk=>by
  obtain ⟨⟨vs,el,h1,h2,h3⟩,h4,h5⟩:=h.box k cs hk
  exact ⟨⟨vs,el,(hb k cs hk).trans h1,h2.mono e,h3⟩,fun o ho=>h4 o (hi k cs o hk ho),fun Cz=>h5 (hl k cs hk Cz)⟩
 inj:=h.inj
theorem qQ.mono (e:Ext R w R' w'):∀ {l:List Nat} {ds:List Deferred},qQ R l ds→qQ R' l ds
 | [],[],_=>trivial
 | _ :: _,_ :: _,h=>let ⟨⟨b,h1,h2⟩,h3⟩:=h; ⟨⟨b,e.b9 h1,h2⟩,qQ.mono e h3⟩
 | [],_ :: _,h=>h.elim
 | _ :: _,[],h=>h.elim
theorem bo.bJ (h:bo E R w β s a) (e:Ext R w R' w') (ho:R'.obj=R.obj) (hb:∀ b,Own R β s.boxes b→w'.heap[b]?=w.heap[b]?) (hi:∀ b o,Own R β s.boxes b→R'.I b o→R.I b o) (wf:∀ b o,R'.I b o→b < w'.heap.size) (hd:E.lo≤w.drawn→E.lo≤w'.drawn:=by first | exact fun h=>h | exact fun h=>Nat.le_succ_of_le h):bo E R' w' β s a where
 g:=h.g.bJ e ho (fun b hl=>hb b (.inl hl)) (fun b o hl=>hi b o (.inl hl)) wf hd
 b:=h.b.bJ e (fun k cs hk=>hb _ (.inr ⟨k,cs,hk,rfl⟩)) (fun k cs o hk=>hi _ o (.inr ⟨k,cs,hk,rfl⟩)) (fun k cs _ hl=>by obtain ⟨id,ro,h1,h2⟩:=hl; rw [ho] at h1; exact ⟨id,ro,h1,h2⟩)
 t:=h.t.mono e
 n:=h.n
 d:=h.d.mono e
theorem bn {w:World} {b:Nat} {o:Obj} (h:w.heap[b]?=some o):b < w.heap.size:=(Array.getElem?_eq_some_iff.1 h).1
theorem ic.lt {go:GO} {ro:RO} (h:ic R w go ro) {b:Nat} (hb:ro.has b):b < w.heap.size:=by
 cases ro with
 | none=>exact hb.elim
 | bN=>exact hb.elim
 | b9 x=>
  have hb:b=x:=hb
  subst hb
  cases go with
  | dead=>exact h
  | row cs el=>obtain ⟨vs,h1,_⟩:=h; exact bn h1
  | tok f sz el=>exact h.elim
  | bk _ _ _=>exact h.elim
  | oG rJ n left _=>obtain ⟨bm,seen,c0,_,h2,_⟩:=h; exact bn h2
  | dw es sz el=>exact h.elim
  | map es=>obtain ⟨aC,clock,h1,_⟩:=h; exact bn h1
  | gZ l pos=>exact bn h
  | loop=>obtain ⟨⟨r,db,h1,_⟩,_⟩:=h; exact bn h1
  | defers o=>exact bn h
 | tok f x c=>
  have hb:b=x:=hb
  subst hb
  cases go with
  | tok f' sz el=>obtain ⟨_,cur,h1,_⟩:=h; exact bn h1
  | dw es sz el=>obtain ⟨_,_,cur,vs,h1,_⟩:=h; exact bn h1
  | dead=>exact h
  | row cs=>exact h.elim
  | bk _ _ _=>exact h.elim
  | oG _ _ _ _=>exact h.elim
  | map es=>exact h.elim
  | gZ l pos=>exact h.elim
  | loop=>exact h.elim
  | defers o=>exact h.elim
 | bk ts=>
  obtain ⟨j,f,c,ht⟩:=hb
  cases go with
  | bk fs sz el=>
   obtain ⟨h1,h2,h3⟩:=h
   have cu:=bR ht
   rw [h1] at cu
   obtain ⟨f',hf⟩:∃ f',nth fs j=some f':=⟨fs[j],by rw [bf]; exact List.getElem?_eq_getElem cu⟩
   obtain ⟨_,cur,k1,_⟩:=h3 j f' _ hf ht
   exact bn k1
  | dead=>exact h j f b c ht
  | _=>exact h.elim
theorem dQ.b8 {G:List GO} (h:dQ E R w G) {b:Nat} (hl:Live R b):b < w.heap.size:=by
 obtain ⟨id,ro,h1,h2⟩:=hl
 have cu:=bR h1
 rw [h.len] at cu
 obtain ⟨go,jc⟩:∃ go,nth G id=some go:=⟨G[id],by rw [bf]; exact List.getElem?_eq_getElem cu⟩
 exact (h.obj id go ro jc h1).lt h2
theorem bo.fa (h:bo E R w β s a) {b:Nat} (ho:Own R β s.boxes b):b < w.heap.size:=by
 rcases ho with hl | ⟨k,cs,hk,rfl⟩
 ·exact h.g.b8 hl
 ·obtain ⟨⟨vs,el,h1,_⟩,_⟩:=h.b.box k cs hk
  exact bn h1
theorem ca {w w':World} {b:Nat} (h:w'.heap[b]?=w.heap[b]?) (o:Nat):w'.cell? ⟨b,o,none⟩=w.cell? ⟨b,o,none⟩:=by simp [World.cell?,h]
theorem ub (wf:∀ b o,R.I b o→b < w.heap.size) (x:Obj):Ext R w R (w.alloc x):=
 ⟨fun _ _ h=>h,fun b o h=>ca (heap_alloc_old w x b (wf b o h)) o,fun _ ro h=>⟨ro,h,cJ.refl ro⟩,.old fun b hb=>heap_alloc_old w x b hb⟩
theorem bo.alloc (h:bo E R w β s a) (x:Obj):bo E R (w.alloc x) β s a:=
 h.bJ (ub h.g.wf x) rfl (fun b hb=>heap_alloc_old w x b (h.fa hb)) (fun _ _ _ hi=>hi) (fun b o hi=>by have:=h.g.wf b o hi; simp; omega)
end bJ
end Go.Am
namespace Go.Am
open Go
theorem JY {a b:AV} (h:GF a b=true):a=b:=by
 unfold GF at h
 split at h
 all_goals (first | (cases h; done) | skip)
 all_goals (try simp only [Bool.and_eq_true,beq_iff_eq,Nat.beq_eq] at h)
 all_goals (simp [*])
mutual
theorem jV:∀ {a b:AV},eH a b=true→a=b:=by
 intro a b h
 unfold eH at h
 split at h
 ·simp only [Bool.and_eq_true,Nat.beq_eq] at h; rw [h.1.1,gA h.1.2,gA h.2]
 ·rw [gA h]
 ·rw [gA h]
 ·rw [gA h]
 ·simp only [Bool.and_eq_true,Nat.beq_eq] at h; rw [h.1,gA h.2]
 ·simp only [Bool.and_eq_true,Nat.beq_eq] at h; rw [h.1,gA h.2]
 ·simp only [Bool.and_eq_true,Nat.beq_eq] at h; rw [h.1,gA h.2]
 ·simp only [Bool.and_eq_true,Nat.beq_eq] at h; rw [h.1.1,h.1.2,gA h.2]
 ·simp only [Bool.and_eq_true,Nat.beq_eq] at h; rw [h.1.1.1,h.1.1.2,h.1.2,gA h.2]
 ·exact JY h
theorem gA:∀ {l r:List AV},iN l r=true→l=r:=by
 intro l r h
 unfold iN at h
 split at h
 ·rfl
 ·rw [Bool.and_eq_true] at h; rw [jV h.1,gA h.2]
 ·cases h
end
def BA (a b:AV):Prop:=∀ (R:an) (w:World) (c:Value),Rel R w a c→Rel R w b c
def cQ:List AV→List AV→Prop
 | [],[]=>True
 | a :: l,b :: r=>BA a b∧cQ l r
 | _,_=>False
theorem BA.refl (a:AV):BA a a:=fun _ _ _ h=>h
theorem cQ.refl:∀ l:List AV,cQ l l
 | []=>trivial
 | a :: l=>⟨BA.refl a,cQ.refl l⟩
theorem cQ.length:∀ {l r:List AV},cQ l r→l.length=r.length
 | [],[],_=>rfl
 | _ :: _,_ :: _,h=>by simp [cQ.length h.2]
 | [],_ :: _,h=>h.elim
 | _ :: _,[],h=>h.elim
theorem cQ.rel {R:an} {w:World}:∀ {l r:List AV} {cs:List Value},cQ l r→aQ R w l cs→aQ R w r cs
 | [],[],_,_,h=>h
 | _ :: _,_ :: _,_,k,.cons h t=>.cons (k.1 _ _ _ h) (cQ.rel k.2 t)
 | [],_ :: _,_,h,_=>h.elim
 | _ :: _,[],_,h,_=>h.elim
theorem cQ.JZ {R:an} {w:World}:∀ {l r:List AV} {b o:Nat},cQ l r→eN R w b o l→eN R w b o r
 | [],[],_,_,_,_=>.nil
 | _ :: _,_ :: _,_,_,k,.cons hc h1 hi h t=>.cons hc h1 hi (k.1 _ _ _ h) (cQ.JZ k.2 t)
 | [],_ :: _,_,_,h,_=>h.elim
 | _ :: _,[],_,_,h,_=>h.elim
theorem cQ.append:∀ {a b c d:List AV},cQ a b→cQ c d→cQ (a++c) (b++d)
 | [],[],_,_,_,h=>h
 | _ :: _,_ :: _,_,_,k,h=>⟨k.1,cQ.append k.2 h⟩
 | [],_ :: _,_,_,h,_=>h.elim
 | _ :: _,[],_,_,h,_=>h.elim
structure jy (v u:AV):Prop where
 ia:BA v u
 bp:u.a6=v.a6
 cells:v.a6=true→cQ v.cells u.cells
 closed:v.closed=true→u.closed=true
theorem wG {u v a:AV} (h:(aR.two u v).fits a=true):(aR.two u v).enc ((aR.two u v).bA a)=a:=by
 change (eH a u || eH a v)=true at h
 change (bif eH a v then v else u)=a
 cases hs:eH a v with
 | true=>exact (jV hs).symm
 | false=>
  rw [hs,Bool.or_false] at h
  exact (jV h).symm
theorem jy.refl (v:AV):jy v v:=⟨BA.refl v,rfl,fun _=>cQ.refl _,fun h=>h⟩
theorem EW {a b:IntKind} (h:Ub a b=true):a=b:=of_decide_eq_true h
theorem sG {α:Type} {f:AV→Bool} {d:AV→α} {g:α→AV} (GJ:∀ v,f v=true→jy v (g (d v))) {R:an} {w:World} :
  ∀ {es:List AV} {b o sz:Nat},allFit f es=true→gQ R w b o sz es→gQ R w b o sz ((es.map d).map g)
 | [],b,o,sz,_,_=>.nil
 | e :: es,b,o,sz,h,hr=>by
  simp only [allFit,Bool.and_eq_true] at h
  cases hr with
  | cons hl ht hk hc t=>
   have d':=GJ e h.1
   have wc:=d'.cells ht
   exact .cons (by rw [← wc.length,hl]) (by rw [d'.bp,ht]) (d'.closed hk) (wc.JZ hc) (sG GJ h.2 t)
theorem Ie {R:an} {w:World} {b o sz bQ:Nat} {es:List AV} (h:es=[]∨sz=bQ) (hr:gQ R w b o bQ es):gQ R w b o sz es:=by
 rcases h with rfl | rfl
 ·exact .nil
 ·exact hr
theorem Ig {α:Type} {f:AV→Bool} {d:AV→α} {g:α→AV} (GJ:∀ v,f v=true→jy v (g (d v))) {k:LK} {sz bQ:Nat} {es:List AV} (hs:es=[]∨sz=bQ) (h:allFit f es=true) :
  BA (.list k bQ es) (.list .lQ sz ((es.map d).map g)):=fun R w c hr=>by
 cases hr with
 | km=>exact .jA
 | jA=>exact .jA
 | nL=>exact .nL
 | mV _ _=>exact .jA
 | mB _ _=>exact .jA
 | list hr hlen hc hk=>exact .list (sG GJ h (Ie hs hr)) (by simp [hlen]) hc trivial
theorem J0 {α:Type} {f:AV→Bool} {d:AV→α} {g:α→AV} (GJ:∀ v,f v=true→jy v (g (d v))) {id sz:Nat} {es:List AV} (h:allFit f es=true) :
  BA (.list (.own id) sz es) (.list (.own id) sz ((es.map d).map g)):=fun R w c hr=>by
 cases hr with
 | mV h1 h2=>exact .mV h1 h2
 | list hr hlen hc hk=>exact .list (sG GJ h hr) (by simp [hlen]) hc hk
theorem J1 {α:Type} {f:AV→Bool} {d:AV→α} {g:α→AV} (GJ:∀ v,f v=true→jy v (g (d v))) {id j sz:Nat} {es:List AV} (h:allFit f es=true) :
  BA (.list (.bk id j) sz es) (.list (.bk id j) sz ((es.map d).map g)):=fun R w c hr=>by
 cases hr with
 | mB h1 h2=>exact .mB h1 h2
 | list hr hlen hc hk=>exact .list (sG GJ h hr) (by simp [hlen]) hc hk
mutual
theorem aR.dc:∀ (p:aR) {v:AV},p.fits v=true→jy v (p.enc (p.bA v))
 | .int k,v,h=>by
  cases v with
  | int k' n=>
   have hk:Ub k k'=true:=h
   rw [EW hk]
   exact jy.refl _
  | _=>cases h
 | .bool,v,h=>by
  cases v with
  | bool b=>exact jy.refl _
  | _=>cases h
 | .str,v,h=>by
  cases v with
  | str b=>exact jy.refl _
  | _=>cases h
 | .agg ps,v,h=>by
  cases v with
  | agg cs=>
   obtain ⟨h1,h2⟩:=ps.dc (show ps.fits cs=true from h)
   exact ⟨fun R w c hr=>by cases hr with | agg hr xp=>exact .agg (h1.rel hr) xp,rfl,fun _=>h1,fun hc=>by
    have vX:bg cs=true:=by simpa [AV.closed] using hc
    show AV.closed (.agg (ps.enc (ps.bA cs)))=true
    simp only [AV.closed]; exact h2 vX⟩
  | _=>cases h
 | .bp ps,v,h=>by
  cases v with
  | bp cs=>
   obtain ⟨h1,h2⟩:=ps.dc (show ps.fits cs=true from h)
   exact ⟨fun R w c hr=>by cases hr with | bp hr=>exact .bp (h1.rel hr),rfl,fun hn=>by simp [AV.a6] at hn,fun hc=>by
    have vX:bg cs=true:=by simpa [AV.closed] using hc
    show AV.closed (.bp (ps.enc (ps.bA cs)))=true
    simp only [AV.closed]; exact h2 vX⟩
  | _=>cases h
 | .list sz p,v,h=>by
  cases v with
  | list k bQ es=>
   have hb:((Nat.beq sz bQ || es.isEmpty)&&allFit p.fits es)=true:=h
   simp only [Bool.and_eq_true,Bool.or_eq_true,Nat.beq_eq,List.isEmpty_iff] at hb
   have hw:=Ig (k:=k) (fun v=>p.dc) hb.1.symm hb.2
   exact ⟨hw,rfl,fun _=>⟨hw,trivial⟩,fun _=>rfl⟩
  | _=>cases h
 | .own id sz p,v,h=>by
  cases v with
  | list k bQ es=>
   cases k with
   | own kf=>
    have hb:((Nat.beq id kf&&Nat.beq sz bQ)&&allFit p.fits es)=true:=h
    simp only [Bool.and_eq_true,Nat.beq_eq] at hb
    obtain ⟨⟨rfl,rfl⟩,hf⟩:=hb
    have hw:=J0 (id:=id) (sz:=sz) (fun v=>p.dc) hf
    exact ⟨hw,rfl,fun _=>⟨hw,trivial⟩,fun hc=>by simp [AV.closed,LK.closed] at hc⟩
   | _=>cases h
  | _=>cases h
 | .bk id sz p,v,h=>by
  cases v with
  | list k bQ es=>
   cases k with
   | bk kf j=>
    have hb:((Nat.beq id kf&&Nat.beq sz bQ)&&allFit p.fits es)=true:=h
    simp only [Bool.and_eq_true,Nat.beq_eq] at hb
    obtain ⟨⟨rfl,rfl⟩,hf⟩:=hb
    have hw:=J1 (id:=id) (j:=j) (sz:=sz) (fun v=>p.dc) hf
    exact ⟨hw,rfl,fun _=>⟨hw,trivial⟩,fun hc=>by simp [AV.closed,LK.closed] at hc⟩
   | _=>cases h
  | _=>cases h
 | .dS u,v,h=>by
  have:=jV (show eH v u=true from h)
  subst this
  exact jy.refl _
 | .two u v,a,h=>by
  have hv:(aR.two u v).enc ((aR.two u v).bA a)=a:=wG h
  rw [hv]
  exact jy.refl _
theorem aT.dc:∀ (ps:aT) {l:List AV},ps.fits l=true→cQ l (ps.enc (ps.bA l))∧(bg l=true→bg (ps.enc (ps.bA l))=true)
 | .nil,l,h=>by
  cases l with
  | nil=>exact ⟨trivial,fun h=>h⟩
  | cons _ _=>cases h
 | .cons p .nil,l,h=>by
  match l,h with
  | [],h=>cases h
  | a :: l,h=>
   have h':(p.fits a&&l.isEmpty)=true:=h
   simp only [Bool.and_eq_true,List.isEmpty_iff] at h'
   obtain ⟨h1,rfl⟩:=h'
   have d:=p.dc h1
   exact ⟨⟨d.ia,trivial⟩,fun hc=>by
    simp only [bg,Bool.and_true] at hc
    show bg [p.enc (p.bA a)]=true
    simp only [bg,Bool.and_true]
    exact d.closed hc⟩
 | .cons p (.cons q ps),l,h=>by
  cases l with
  | nil=>cases h
  | cons a l=>
   have h':(p.fits a&&(aT.cons q ps).fits l)=true:=h
   rw [Bool.and_eq_true] at h'
   have d:=p.dc h'.1
   obtain ⟨k1,k2⟩:=(aT.cons q ps).dc h'.2
   exact ⟨⟨d.ia,k1⟩,fun hc=>by
    simp only [bg,Bool.and_eq_true] at hc
    show bg (p.enc (p.bA a) :: (aT.cons q ps).enc ((aT.cons q ps).bA l))=true
    simp only [bg,Bool.and_eq_true]
    exact ⟨d.closed hc.1,k2 hc.2⟩⟩
end
theorem aR.rK (p:aR) {v:AV} {x:p.T} (h:p.dec v=some x):jy v (p.enc x):=by
 unfold aR.dec at h
 cases hf:p.fits v with
 | true=>rw [hf] at h; cases h; exact p.dc hf
 | false=>rw [hf] at h; cases h
theorem aT.rK (ps:aT) {l:List AV} {x:ps.T} (h:ps.dec l=some x):cQ l (ps.enc x)∧(bg l=true→bg (ps.enc x)=true):=by
 unfold aT.dec at h
 cases hf:ps.fits l with
 | true=>rw [hf] at h; cases h; exact ps.dc hf
 | false=>rw [hf] at h; cases h
mutual
def aR.plain:aR→Bool
 | .agg ps=>ps.plain
 | .bp ps=>ps.plain
 | .list _ p=>p.plain
 | .own _ _ p=>p.plain
 | .bk _ _ p=>p.plain
 | .dS v=>eH v v
 | .two u v=>eH u u&&eH v v&&!eH u v
 | _=>true
def aT.plain:aT→Bool
 | .nil=>true
 | .cons p ps=>p.plain&&ps.plain
end
theorem nP {α:Type} {f:AV→Bool} {g:α→AV} (h:∀ x,f (g x)=true):∀ xs:List α,allFit f (xs.map g)=true
 | []=>rfl
 | x :: xs=>by simp only [List.map_cons,allFit,h x,nP h xs,Bool.and_self]
theorem wH {α:Type} {d:AV→α} {g:α→AV} (h:∀ x,d (g x)=x):∀ xs:List α,(xs.map g).map d=xs
 | []=>rfl
 | x :: xs=>by simp only [List.map_cons,h x,wH h xs]
mutual
theorem aR.bH:∀ (p:aR) (x:p.T),p.plain=true→p.fits (p.enc x)=true∧p.bA (p.enc x)=x
 | .int k,x,_=>⟨decide_eq_true rfl,rfl⟩
 | .bool,x,_=>⟨rfl,rfl⟩
 | .str,x,_=>⟨rfl,rfl⟩
 | .agg ps,x,h=>ps.bH x h
 | .bp ps,x,h=>ps.bH x h
 | .list sz p,x,h=>by
  refine ⟨?_,wH (fun y=>(p.bH y h).2) x⟩
  change ((Nat.beq sz sz || (List.map p.enc x).isEmpty)&&allFit p.fits (List.map p.enc x))=true
  rw [Nat.beq_refl,Bool.true_or,Bool.true_and]
  exact nP (fun y=>(p.bH y h).1) x
 | .own id sz p,x,h=>by
  refine ⟨?_,wH (fun y=>(p.bH y h).2) x⟩
  change ((Nat.beq id id&&Nat.beq sz sz)&&allFit p.fits (List.map p.enc x))=true
  rw [Nat.beq_refl,Nat.beq_refl,Bool.true_and,Bool.true_and]
  exact nP (fun y=>(p.bH y h).1) x
 | .bk id sz p,(x:Nat × List p.T),h=>by
  refine ⟨?_,?_⟩
  ·change ((Nat.beq id id&&Nat.beq sz sz)&&allFit p.fits (List.map p.enc x.2))=true
   rw [Nat.beq_refl,Nat.beq_refl,Bool.true_and,Bool.true_and]
   exact nP (fun y=>(p.bH y h).1) x.2
  ·change (x.1,(List.map p.enc x.2).map p.bA)=x
   rw [wH (fun y=>(p.bH y h).2) x.2]
 | .dS v,x,h=>⟨h,rfl⟩
 | .two u v,(x:Bool),h=>by
  change (eH u u&&eH v v&&!eH u v)=true at h
  simp only [Bool.and_eq_true,Bool.not_eq_true'] at h
  obtain ⟨⟨h1,h2⟩,h3⟩:=h
  cases x
  ·exact ⟨by change (eH u u || eH u v)=true; rw [h1]; rfl,h3⟩
  ·exact ⟨by change (eH v u || eH v v)=true; rw [h2,Bool.or_true],h2⟩
theorem aT.bH:∀ (ps:aT) (x:ps.T),ps.plain=true→ps.fits (ps.enc x)=true∧ps.bA (ps.enc x)=x
 | .nil,x,_=>⟨rfl,rfl⟩
 | .cons p .nil,x,h=>by
  have h':(p.plain&&true)=true:=h
  rw [Bool.and_true] at h'
  have:=p.bH x h'
  exact ⟨by change (p.fits (p.enc x)&&true)=true; rw [this.1]; rfl,this.2⟩
 | .cons p (.cons q ps),x,h=>by
  have h':(p.plain&&(aT.cons q ps).plain)=true:=h
  rw [Bool.and_eq_true] at h'
  have h1:=p.bH x.1 h'.1
  have h2:=(aT.cons q ps).bH x.2 h'.2
  refine ⟨?_,?_⟩
  ·change (p.fits (p.enc x.1)&&(aT.cons q ps).fits ((aT.cons q ps).enc x.2))=true
   rw [h1.1,h2.1]
   rfl
  ·change (p.bA (p.enc x.1),(aT.cons q ps).bA ((aT.cons q ps).enc x.2))=x
   rw [h1.2,h2.2]
   rfl
end
end Go.Am
namespace Go.Am
open Go
theorem cn (E:Env) {t:TypeId} {i:TI} (h:E.ti t=some i) :
  ∃ ig u,E.P.info? t=some ig∧E.P.underlying t=some u∧ig.size=i.size∧kh u=i.agg∧qN E.P u=some i.k∧gM ig=i.zero:=by
 have h1:=E.H4 t i h
 unfold H3 at h1
 split at h1
 ·rename_i ig u h2 h3
  split at h1
  ·rename_i k hk
   cases h1
   exact ⟨ig,u,h2,h3,rfl,rfl,hk,rfl⟩
  ·cases h1
 ·cases h1
section runs
variable {P:Program} (w:World)
theorem Ay {t:TypeId} {u:TypeDesc} (h:P.underlying t=some u):(isAgg t).run P w=.ok (kh u) w:=by
 unfold isAgg
 simp only [Sem.run_bind,run_underlying h,Result.andThen_ok]
 cases u <;> rfl
theorem run_sizeOf {t:TypeId} {i:TypeInfo} (h:P.info? t=some i):(sizeOf t).run P w=.ok i.size w:=by
 simp [sizeOf,typeInfo,h]
theorem ij {t:TypeId} {i:TypeInfo} {z:Value} (h:P.info? t=some i) (hz:i.zero=some z):(zeroValue t).run P w=.ok z w:=by
 simp [zeroValue,typeInfo,h,hz]
theorem xq (t:TypeId) (v:Value):(newVar t v).run P w=.ok ⟨w.heap.size,0,none⟩ (w.alloc (.cells v.cells t)):=by
 simp only [newVar,newRow,Sem.run_bind,run_newObj,Result.andThen_ok,Sem.run_pure]
 rfl
end runs
theorem xr {R:an} {w:World} {ag:Bool} {l:List AV} {v:AV} {vs:List Value} (hm:tT ag l=some v) (h:aQ R w l vs) (h1:∀ x∈vs,x.oneCell'=true) :
  (ag=true→Rel R w v (.agg ⟨vs⟩))∧(ag=false→∃ c,vs=[c]∧Rel R w v c):=by
 unfold tT at hm
 cases ag with
 | true=>
  simp at hm
  subst hm
  exact ⟨fun _=>.agg h h1,fun e=>by cases e⟩
 | false=>
  refine ⟨(fun e=>by cases e),fun _=>?_⟩
  simp only [Bool.false_eq_true,if_false] at hm
  split at hm
  ·cases hm
   cases h with
   | cons h t=>
    cases t
    exact ⟨_,rfl,h⟩
  ·cases hm
theorem oZ {E:Env} {R:an} {w:World} {t:TypeId} {i:TI} (hi:E.ti t=some i) {b off:Nat} {l:List AV} {vs:List Value} {v:AV}
  (hl:l.length=i.size) (hr:aQ R w l vs) (h1:∀ x∈vs,x.oneCell'=true) (hc:∀ j x,vs[j]?=some x→w.cell? ⟨b,off+j,none⟩=some x) (hm:tT i.agg l=some v) :
  ∃ c,(loadVar t ⟨b,off,none⟩).run E.P w=.ok c w∧Rel R w v c:=by
 obtain ⟨ig,u,e1,e2,e3,e4,_⟩:=cn E hi
 obtain ⟨m1,m2⟩:=xr hm hr h1
 unfold loadVar
 simp only [Sem.run_bind,Ay w e2,Result.andThen_ok,e4]
 cases ha:i.agg with
 | true=>
  refine ⟨.agg ⟨vs⟩,?_,m1 ha⟩
  have hlen:ig.size=vs.length:=by rw [e3,← hl,hr.length]
  have:=run_loadCells_list (P:=E.P) w ⟨b,off,none⟩ vs (fun j x hx=>by rw [cL]; exact hc j x hx)
  simp [run_sizeOf w e1,hlen,this]
 | false=>
  obtain ⟨c,rfl,fb⟩:=m2 ha
  refine ⟨c,?_,fb⟩
  have:=hc 0 c (by simp)
  simp only [Nat.add_zero] at this
  simp [run_load,this]
theorem jW {w:World} {b:Nat} {vs:List Value} {el:TypeId} {fr:Nat × Nat} (h:w.heap[b]?=some (.cells ⟨vs⟩ el fr)) (j:Nat):w.cell? ⟨b,j,none⟩=vs[j]?:=by
 simp [World.cell?,h]
theorem vm {E:Env} {R:an} {w:World} {β:Nat→Nat} {s:St} {a:Act} (h:bo E R w β s a) {p:SV} {c:Value} (hp:qP R w β p c) {cs:List AV} {off:Nat} (hc:nG s p=some (cs,off)) :
  ∃ b o vs,c=.pointer (some ⟨b,o+off,none⟩)∧aQ R w cs vs∧(∀ x∈vs,x.oneCell'=true)∧∀ j x,vs[j]?=some x→w.cell? ⟨b,o+j,none⟩=some x:=by
 unfold nG at hc
 split at hc
 ·rename_i k gy
  split at hc
  ·rename_i cs' hk
   cases hc
   obtain ⟨⟨vs,el,h1,h2,h3⟩,_⟩:=h.b.box k cs hk
   exact ⟨β k,0,vs,by rw [hp]; simp,h2,h3,fun j x hx=>by rw [jW h1]; simpa using hx⟩
  ·cases hc
 ·rename_i id gy
  split at hc
  ·rename_i cs' hk
   cases hc
   cases hp with
   | @ptr _ _ b hb=>
    obtain ⟨vs,h1,h2,h3,_⟩:=h.g.obj id _ _ hk hb
    exact ⟨b,0,vs,by simp,h2,h3,fun j x hx=>by rw [jW h1]; simpa using hx⟩
  ·cases hc
 ·rename_i cs'
  cases hc
  cases hp with
  | ep hr=>
   obtain ⟨vs,h1,h2,h3,_⟩:=hr.get
   exact ⟨_,_,vs,rfl,h1,h2,h3⟩
 ·cases hc
theorem qk {R:an} {w:World} {off n:Nat} {cs l:List AV} {vs:List Value} (hs:GD off n cs=some l) (h:aQ R w cs vs) (h1:∀ x∈vs,x.oneCell'=true) :
  l.length=n∧aQ R w l ((vs.drop off).take n)∧(∀ x∈(vs.drop off).take n,x.oneCell'=true)∧∀ j x,((vs.drop off).take n)[j]?=some x→vs[off+j]?=some x:=by
 obtain ⟨e1,e2⟩:=Ug hs
 subst e1
 refine ⟨e2,(h.drop off).take n,fun x hx=>h1 x (List.mem_of_mem_drop (List.mem_of_mem_take hx)),fun j x hx=>?_⟩
 rw [List.getElem?_take] at hx
 split at hx
 ·rwa [List.getElem?_drop] at hx
 ·cases hx
def b7 (E:Env) (R:an) (w:World) (β:Nat→Nat) (s:St) (a:Act) (o:Oper) (s':St):Prop:=
 ∃ nx x w' R' β',(execOp a.eval o).run E.P w=.ok nx w'∧(nx=.value x∨(nx=.skip∧x=undef))∧bo E R' w' β' s' (a.put o.dst x)∧Step R w β s.boxes R' w' β' s'.boxes
section ops
variable {E:Env} {R:an} {w:World} {β:Nat→Nat} {s:St} {a:Act} {o:Oper}
@[simp] theorem bc (s:St) (d:Option Tmp) (x:SV):(s.put d x).boxes=s.boxes:=by
 cases d with
 | none=>rfl
 | some d=>simp only [St.put]; split <;> rfl
theorem au (h:bo E R w β s a) {c:Value} {sv:SV} (hx:(execOp a.eval o).run E.P w=.ok (.value c) w) (hr:qP R w β sv c):b7 E R w β s a o (s.put o.dst sv):=
 ⟨.value c,c,w,R,β,hx,.inl rfl,h.put o.dst hr,by rw [bc]; exact Step.refl R w β s.boxes⟩
theorem EX {t:Bool} {x y:AV} {c d:Value} (hx:Rel R w x c) (hy:Rel R w y d):Rel R w (Bv t x y) (if t=true then c else d):=by
 unfold Bv
 split
 ·cases hx; cases hy; cases t <;> exact .bool _
 ·cases hx; cases hy
  split
  ·rename_i e; subst e; cases t <;> exact .int _ _
  ·cases t <;> exact .int _ _
 ·cases t
  ·exact hy
  ·exact hx
theorem kN (h:bo E R w β s a) (x:Operand) (ho:o.op=.move x∨o.op=.assign x) {y:SV} (hy:bM E s.ae x=y):b7 E R w β s a o (s.put o.dst y):=by
 subst hy
 refine au h (c:=a.eval x) ?_ (aX h x)
 rcases ho with ho | ho <;> simp [execOp,ho]
theorem Ih (h:bo E R w β s a) (c x y:Operand) (ho:o.op=.pick c x y) {t:Bool} {p q:AV} (h1:bM E s.ae c=.v (.bool t)) (h2:bM E s.ae x=.v p) (h3:bM E s.ae y=.v q) :
  b7 E R w β s a o (s.put o.dst (.v (Bv t p q))):=by
 have r1:=aX h c
 have r2:=aX h x
 have r3:=aX h y
 rw [h1] at r1; rw [h2] at r2; rw [h3] at r3
 refine au h (c:=if t=true then a.eval x else a.eval y) ?_ (EX r2 r3)
 have r1':Rel R w (.bool t) (a.eval c):=r1
 generalize EE:a.eval c=cc at r1'
 cases r1'
 simp [execOp,ho,asBool,EE]
theorem Ii (h:bo E R w β s a) (t:TypeId) (x:Operand) (ho:o.op=.load t x) {v:AV} (hl:sy E s t (bM E s.ae x)=some v) :
  b7 E R w β s a o (s.put o.dst (.v v)):=by
 unfold sy at hl
 split at hl
 ·rename_i i cs off hi hc
  split at hl
  ·rename_i l hs
   obtain ⟨b,o',vs,e,h1,h2,h3⟩:=vm h (aX h x) hc
   obtain ⟨k1,k2,k3,k4⟩:=qk hs h1 h2
   obtain ⟨c,hc,fb⟩:=oZ (E:=E) hi (b:=b) (off:=o'+off) k1 k2 k3 (fun j y hy=>by rw [Nat.add_assoc]; exact h3 _ _ (k4 j y hy)) hl
   refine au h (c:=c) ?_ fb
   simp [execOp,ho,Instr.loadAt,e,Instr.sureAddr,hc]
  ·cases hl
 ·cases hl
theorem jC {b:Nat} (hI:∀ o,¬ R.I b o) (cs:Array Value):Ext R w R (w.setRow b cs):=
 ⟨fun _ _ h=>h,fun b' o h=>ca (setRow_other w b b' cs (fun e=>hI o (e ▸ h))) o,fun _ ro h=>⟨ro,h,cJ.refl ro⟩,fun b' r hb=>⟨r,by
  by_cases e:b'=b
  ·subst e
   have cu:b' < w.heap.size:=bn hb
   have hv:w.heap[b']=.loop r:=(Array.getElem?_eq_some_iff.1 hb).2
   unfold World.setRow
   rw [Array.getElem?_eq_getElem (by simpa using cu),Array.getElem_modify]
   simp [hv]
  ·exact (setRow_other w b b' cs e).trans hb,rfl,rfl,rfl,rfl,rfl⟩⟩
theorem aQ.ck {cs ys:List AV} {vs us:List Value} {off:Nat} (h:aQ R w cs vs) (k:aQ R w ys us) (hl:off+ys.length≤cs.length) :
  aQ R w (ck cs off ys) (vs.take off++us++vs.drop (off+us.length)):=by
 rw [fD cs off ys hl,← k.length]
 exact ((h.take off).append k).append (h.drop _)
theorem jD {vs us:List Value} {off n:Nat} (h:∀ x∈vs,x.oneCell'=true) (k:∀ x∈us,x.oneCell'=true):∀ x∈vs.take off++us++vs.drop n,x.oneCell'=true:=by
 intro x hx
 simp only [List.mem_append] at hx
 rcases hx with (hx | hx) | hx
 ·exact h x (List.mem_of_mem_take hx)
 ·exact k x hx
 ·exact h x (List.mem_of_mem_drop hx)
theorem kD {t:TypeId} {i:TI} (hi:E.ti t=some i) {b off:Nat} {vs:List Value} {el:TypeId} {c:Value} (hb:w.heap[b]?=some (.cells ⟨vs⟩ el (0,0)))
  (hs:c.cells.toList.length=i.size) (hl:off+c.cells.toList.length≤vs.length) (h1:∀ v∈c.cells.toList,v.oneCell'=true) :
  (storeVar t ⟨b,off,none⟩ c).run E.P w=.ok () (w.setRow b ⟨vs.take off++c.cells.toList++vs.drop (off+c.cells.toList.length)⟩):=by
 obtain ⟨ig,u,e1,e2,e3,_⟩:=cn E hi
 have lT:=run_storeCells_at (P:=E.P) b off el c.cells.toList 0 ⟨vs⟩ w hb (by simpa using hl) h1
 have cD:c.cells.size=ig.size:=by rw [e3,← hs]; simp
 simp only [Nat.add_zero] at lT
 unfold storeVar
 simp only [Sem.run_bind,run_sizeOf w e1,Result.andThen_ok,Sem.run_ite,cD,ne_eq,not_true_eq_false,if_false]
 simpa using lT
theorem bo.EY (h:bo E R w β s a) {id b k:Nat} {cs:List AV} (hb:nth R.obj id=some (.b9 b)) (hk:dO s.boxes k=some cs):β k≠b:=by
 intro e
 exact (h.b.box k cs hk).2.2 ⟨id,_,hb,by rw [e]; rfl⟩
theorem EZ (h:bo E R w β s a) (t:TypeId) (p x:Operand) (ho:o.op=.store t p x) (hd:o.dst=none) {s':St} (hs:ki E s t (bM E s.ae p) (bM E s.ae x)=some s') :
  b7 E R w β s a o s':=by
 unfold ki at hs
 have rp:=aX h p
 have rx:=aX h x
 split at hs
 ·rename_i i v hi hx
  rw [hx] at rx
  split at hs
  ·rename_i gf
   simp only [Bool.and_eq_true] at gf
   obtain ⟨N3,hlen⟩:=gf
   have hlen:=Nat.eq_of_beq_eq_true hlen
   obtain ⟨c1,c2⟩:=Rel.cells rx N3
   have Cz:v.cells.length=(a.eval x).cells.toList.length:=c1.length
   split at hs
   ·-- a local box
    rename_i k off YD
    rw [YD] at rp
    split at hs
    ·rename_i cs hk
     split at hs
     ·rename_i hle
      cases hs
      have hle:=Nat.le_of_ble_eq_true hle
      obtain ⟨⟨vs,el,b1,b2,b3⟩,b4,b5⟩:=h.b.box k cs hk
      have bK:=kD (E:=E) (w:=w) hi (off:=off) (c:=a.eval x) b1 (by rw [← Cz]; exact hlen) (by rw [← Cz,← b2.length]; exact hle) c2
      have hex:=jC (R:=R) (w:=w) b4 ⟨vs.take off++(a.eval x).cells.toList++vs.drop (off+(a.eval x).cells.toList.length)⟩
      refine ⟨.skip,undef,w.setRow (β k) ⟨vs.take off++(a.eval x).cells.toList++vs.drop (off+(a.eval x).cells.toList.length)⟩,R,β,?_,.inr ⟨rfl,rfl⟩,?_,?_⟩
      ·simp [execOp,ho,Instr.storeAt,show a.eval p=.pointer (some ⟨β k,off,none⟩) from rp,Instr.sureAddr,bK]
      ·rw [hd]
       refine ⟨?_,?_,h.t.mono hex,h.n,h.d⟩
       ·exact h.g.bJ hex rfl (fun b hb=>setRow_other w _ b _ (fun e=>b5 (e ▸ hb))) (fun _ _ _ hi=>hi) (fun b o hi=>by have:=h.g.wf b o hi; simp; omega)
       ·refine ⟨fun k' cs' jg=>?_,fun k1 k2 x1 x2 g1 g2=>?_⟩
        ·rcases fC jg with ⟨rfl,e⟩ | ⟨cD,YE⟩
         ·cases e
          exact ⟨⟨_,el,setRow_heap w _ _ _ el (0,0) b1,(b2.ck c1 hle).mono hex,jD b3 c2⟩,b4,b5⟩
         ·obtain ⟨⟨vs',el',d1,d2,d3⟩,d4,d5⟩:=h.b.box k' cs' YE
          refine ⟨⟨vs',el',?_,d2.mono hex,d3⟩,d4,d5⟩
          rw [setRow_other]
          ·exact d1
          ·exact fun e=>cD (h.b.inj k' k cs' cs YE hk e).symm
        ·have q1:∃ y,dO s.boxes k1=some y:=by
          rcases fC g1 with ⟨rfl,_⟩ | ⟨_,g⟩
          ·exact ⟨_,hk⟩
          ·exact ⟨_,g⟩
         have q2:∃ y,dO s.boxes k2=some y:=by
          rcases fC g2 with ⟨rfl,_⟩ | ⟨_,g⟩
          ·exact ⟨_,hk⟩
          ·exact ⟨_,g⟩
         obtain ⟨y1,q1⟩:=q1
         obtain ⟨y2,q2⟩:=q2
         exact h.b.inj k1 k2 y1 y2 q1 q2
      ·have BB:Own R β s.boxes (β k):=.inr ⟨k,cs,hk,rfl⟩
       refine ⟨hex,rfl,rfl,rfl,by simp,fun b _ hn=>setRow_other w _ b _ (fun e=>hn (e ▸ BB)),fun b _ hb=>?_,fun b o hi _ _=>hi⟩
       rcases hb with hb | ⟨k',cs',jg,e⟩
       ·exact .inl hb
       ·rcases fC jg with ⟨rfl,_⟩ | ⟨_,g⟩
        ·exact .inr ⟨k,cs,hk,e⟩
        ·exact .inr ⟨k',cs',g,e⟩
     ·cases hs
    ·cases hs
   ·-- an object
    rename_i id off YD
    rw [YD] at rp
    split at hs
    ·rename_i cs hk
     split at hs
     ·rename_i hle
      cases hs
      have hle:=Nat.le_of_ble_eq_true hle
      have YF:Rel R w (.ptr id off) (a.eval p):=rp
      generalize YG:a.eval p=pv at YF
      cases YF with
      | @ptr _ _ b hb=>
      obtain ⟨vs,b1,b2,b3,b4⟩:=h.g.obj id _ _ hk hb
      have bK:=kD (E:=E) (w:=w) hi (off:=off) (c:=a.eval x) b1 (by rw [← Cz]; exact hlen) (by rw [← Cz,← b2.length]; exact hle) c2
      have hex:=jC (R:=R) (w:=w) b4 ⟨vs.take off++(a.eval x).cells.toList++vs.drop (off+(a.eval x).cells.toList.length)⟩
      refine ⟨.skip,undef,w.setRow b ⟨vs.take off++(a.eval x).cells.toList++vs.drop (off+(a.eval x).cells.toList.length)⟩,R,β,?_,.inr ⟨rfl,rfl⟩,?_,?_⟩
      ·simp [execOp,ho,Instr.storeAt,YG,Instr.sureAddr,bK]
      ·rw [hd]
       refine ⟨⟨?_,fun kf go ro hg hr=>?_,h.g.inj,fun b' o' ua=>by have:=h.g.wf b' o' ua; simp; omega,fun g cs' hg=>(h.g.cm g cs' hg).mono hex,by first | exact h.g.lo | exact Nat.le_succ_of_le h.g.lo⟩,?_,h.t.mono hex,h.n,h.d⟩
       ·simp [St.cg,h.g.len]
       ·rcases dE hg with ⟨rfl,rfl,_⟩ | ⟨cD,rL⟩
        ·rw [hb] at hr
         cases hr
         exact ⟨_,setRow_heap w _ _ _ _ (0,0) b1,(b2.ck c1 hle).mono hex,jD b3 c2,b4⟩
        ·refine (h.g.obj kf go ro rL hr).mono hex (fun b' jB=>setRow_other w _ b' _ (fun e=>cD ?_)) (fun _ _ _ hi=>hi)
         subst e
         exact h.g.inj id kf _ _ b' hb hr rfl jB
       ·exact h.b.bJ hex (fun k cs' jg=>setRow_other w _ _ _ (h.EY hb jg)) (fun _ _ _ _ hi=>hi) (fun _ _ _ hl=>hl)
      ·have BB:Own R β s.boxes b:=.inl ⟨id,_,hb,rfl⟩
       exact ⟨hex,rfl,rfl,rfl,by simp,fun b' _ hn=>setRow_other w _ b' _ (fun e=>hn (e ▸ BB)),fun _ _ hb=>hb,fun b o hi _ _=>hi⟩
     ·cases hs
    ·cases hs
   ·cases hs
  ·cases hs
 ·cases hs
end ops
end Go.Am
namespace Go.Am
open Go
section ops
variable {E:Env} {R:an} {w:World} {β:Nat→Nat} {s:St} {a:Act} {o:Oper}
def an.add (R:an) (ro:RO):an:=⟨R.I,R.obj++[ro]⟩
theorem iz (wf:∀ b o,R.I b o→b < w.heap.size) (x:Obj) (ro:RO):Ext R w (R.add ro) (w.alloc x):=
 ⟨fun _ _ h=>h,fun b o h=>ca (heap_alloc_old w x b (wf b o h)) o,fun _ r h=>⟨r,dG h,cJ.refl r⟩,.old fun b hb=>heap_alloc_old w x b hb⟩
theorem mW {ro:RO} {b:Nat} (h:Live (R.add ro) b):Live R b∨ro.has b:=by
 obtain ⟨id,r,h1,h2⟩:=h
 rcases aA h1 with h1 | ⟨_,rfl⟩
 ·exact .inl ⟨id,r,h1,h2⟩
 ·exact .inr h2
theorem bo.mD (h:bo E R w β s a) (x:Obj) (go:GO) (ro:RO) (bU:∀ b,ro.has b→b=w.heap.size) (jc:ic (R.add ro) (w.alloc x) go ro):bo E (R.add ro) (w.alloc x) β (s.eL go) a where
 g:=by
  have e:=iz (R:=R) (w:=w) h.g.wf x ro
  refine ⟨by simp [St.eL,an.add,h.g.len],fun id g r h1 h2=>?_,fun i j ri rj b h1 h2 b1 b2=>?_,fun b o hi=>?_,fun g cs hg=>(h.g.cm g cs hg).mono e,by first | exact h.g.lo | exact Nat.le_succ_of_le h.g.lo⟩
  ·rcases aA h2 with h2 | ⟨h3,rfl⟩
   ·have cu:=bR h2
    rw [h.g.len] at cu
    rcases aA h1 with h1 | ⟨h4,_⟩
    ·exact (h.g.obj id g r h1 h2).mono e (fun b hb=>heap_alloc_old w x b (h.g.b8 ⟨id,r,h2,hb⟩)) (fun _ _ _ hi=>hi)
    ·omega
   ·rcases aA h1 with h1 | ⟨h4,rfl⟩
    ·have:=bR h1
     rw [h3,h.g.len] at this
     omega
    ·exact jc
  ·rcases aA h1 with g1 | ⟨h3,e1⟩
   ·rcases aA h2 with g2 | ⟨h4,e2⟩
    ·exact h.g.inj i j ri rj b g1 g2 b1 b2
    ·have:=h.g.b8 ⟨i,ri,g1,b1⟩
     rw [e2] at b2
     have:=bU b b2
     omega
   ·rcases aA h2 with g2 | ⟨h4,e2⟩
    ·have:=h.g.b8 ⟨j,rj,g2,b2⟩
     rw [e1] at b1
     have:=bU b b1
     omega
    ·omega
  ·have:=h.g.wf b o hi
   simp
   omega
 b:=h.b.bJ (iz h.g.wf x ro) (fun k cs hk=>heap_alloc_old w x _ (h.fa (.inr ⟨k,cs,hk,rfl⟩))) (fun _ _ _ _ hi=>hi) (fun k cs hk hl=>by
  rcases mW hl with hl | hl
  ·exact hl
  ·have:=h.fa (.inr ⟨k,cs,hk,rfl⟩)
   have hl:=bU _ hl
   omega)
 t:=h.t.mono (iz h.g.wf x ro)
 n:=h.n
 d:=h.d.mono (iz h.g.wf x ro)
theorem dh (h:bo E R w β s a) (x:Obj) (ro:RO) (bU:∀ b,ro.has b→b=w.heap.size):Step R w β s.boxes (R.add ro) (w.alloc x) β s.boxes:=
 ⟨iz h.g.wf x ro,rfl,rfl,rfl,by simp,fun b hb _=>heap_alloc_old w x b hb,fun b hb ho=>by
  rcases ho with ho | ho
  ·rcases mW ho with ho | ho
   ·exact .inl ho
   ·have ho:=bU _ ho
    omega
  ·exact .inr ho,fun _ _ hi _ _=>hi⟩
theorem gS (h:bo E R w β s a) (ro:RO):nth (R.add ro).obj s.G.length=some ro:=by
 rw [← h.g.len]
 exact fB _ _
theorem CJ {f:FuncId} (h:bo E R w β s a) {v:AV} {c:Value} {t:TypeId} (hv:Rel R w v c) (hn:v.a6=true)
  (hx:(execOp a.eval o).run E.P w=.ok (.value (.pointer (some ⟨w.heap.size,0,none⟩))) (w.alloc (.cells c.cells t))) {s':St} (ha:fM E f s o.dst t v.cells=some (true,s')) :
  b7 E R w β s a o s':=by
 obtain ⟨c1,c2⟩:=Rel.cells hv hn
 unfold fM at ha
 split at ha
 ·cases ha
 ·rename_i d hd
  split at ha
  ·-- an object
   cases ha
   have jc:ic (R.add (.b9 w.heap.size)) (w.alloc (.cells c.cells t)) (.row v.cells t) (.b9 w.heap.size):=
    ⟨c.cells.toList,heap_alloc_new w _,c1.mono (iz h.g.wf _ _),c2,fun o' hi=>by have:=h.g.wf _ _ hi; omega⟩
   have cR:=h.mD (.cells c.cells t) (.row v.cells t) (.b9 w.heap.size) (by exact fun _ h=>h) jc
   refine ⟨_,.pointer (some ⟨w.heap.size,0,none⟩),_,R.add (.b9 w.heap.size),β,hx,.inl rfl,?_,?_⟩
   ·rw [hd]
    exact cR.put (some d) (x:=.v (.ptr s.G.length 0)) (Rel.ptr (gS h _))
   ·rw [bc]
    exact dh h _ _ (by exact fun _ h=>h)
  ·split at ha
   ·rename_i hbx
    injection ha with ha
    injection ha with _ Uh
    subst Uh
    have e:=ub (R:=R) (w:=w) h.g.wf (.cells c.cells t)
    let β':Nat→Nat:=fun k=>if k=d then w.heap.size else β k
    have GK:β' d=w.heap.size:=by simp [β']
    have cD:∀ k,k≠d→β' k=β k:=fun k hk=>by simp [β',hk]
    have hdn:d < a.tmps.size:=by rw [h.n]; exact Nat.le_of_ble_eq_true hbx
    have E0:((s.kill d).vW d v.cells).put (some d) (.lp d 0)=⟨.put d (.lp d 0) :: .kill d :: s.ae,(d,v.cells) :: s.boxes,s.G,s.marks,s.ro,s.n⟩:=by
     simp only [St.put,St.vW,St.kill,hbx]
    refine ⟨_,.pointer (some ⟨w.heap.size,0,none⟩),_,R,β',hx,.inl rfl,?_,?_⟩
    ·rw [hd,E0]
     refine ⟨?_,⟨fun k cs hk=>?_,fun k k' cs cs' hk jg he=>?_⟩,?_,by simp [Act.put,h.n],h.d⟩
     ·exact h.g.bJ e rfl (fun b hb=>heap_alloc_old w _ b (h.g.b8 hb)) (fun _ _ _ hi=>hi) (fun b o hi=>by have:=h.g.wf b o hi; simp; omega)
     ·rcases fC hk with ⟨rfl,he⟩ | ⟨N4,hk⟩
      ·cases he
       rw [GK]
       exact ⟨⟨c.cells.toList,t,heap_alloc_new w _,c1.mono e,c2⟩,fun o' hi=>by have:=h.g.wf _ _ hi; omega,fun hl=>by have:=h.g.b8 hl; omega⟩
      ·rw [cD k (Ne.symm N4)]
       obtain ⟨⟨vs,el,b1,b2,b3⟩,b4,b5⟩:=h.b.box k cs hk
       exact ⟨⟨vs,el,(heap_alloc_old w _ _ (bn b1)).trans b1,b2.mono e,b3⟩,b4,b5⟩
     ·rcases fC hk with ⟨rfl,_⟩ | ⟨N4,hk⟩
      ·rcases fC jg with ⟨rfl,_⟩ | ⟨Ui,jg⟩
       ·rfl
       ·rw [GK,cD k' (Ne.symm Ui)] at he
        have:=h.fa (.inr ⟨k',cs',jg,rfl⟩)
        omega
      ·rcases fC jg with ⟨rfl,_⟩ | ⟨Ui,jg⟩
       ·rw [GK,cD k (Ne.symm N4)] at he
        have:=h.fa (.inr ⟨k,cs,hk,rfl⟩)
        omega
       ·rw [cD k (Ne.symm N4),cD k' (Ne.symm Ui)] at he
        exact h.b.inj k k' cs cs' hk jg he
     ·intro i hi
      by_cases hdi:d=i
      ·subst hdi
       rw [aG]
       refine ⟨.pointer (some ⟨w.heap.size,0,none⟩),by simp [Act.put,hdn],?_⟩
       show Value.pointer _=_
       rw [GK]
      ·rw [aW hdi] at hi ⊢
       rcases GI (l:=s.ae) (d:=d) (t:=i) with ⟨h1,h2⟩ | h1
       ·rw [h1] at hi ⊢
        obtain ⟨c',q1,q2⟩:=h.t i hi
        refine ⟨c',?_,?_⟩
        ·simp only [Act.put]
         rw [Array.getElem?_setIfInBounds_ne hdi]
         exact q1
        ·cases uc:lk s.ae i with
         | none=>trivial
         | v y=>rw [uc] at q2; exact Rel.mono e q2
         | lp k off=>
          rw [uc] at q2
          show c'=_
          rw [cD k (h2 k off uc)]
          exact q2
       ·exact absurd h1 hi
    ·rw [E0]
     refine ⟨e,rfl,rfl,rfl,by simp,fun b hb _=>heap_alloc_old w _ b hb,fun b hb ho=>?_,fun _ _ hi _ _=>hi⟩
     rcases ho with ho | ⟨k,cs,hk,he⟩
     ·exact .inl ho
     ·rcases fC hk with ⟨rfl,_⟩ | ⟨N4,hk⟩
      ·rw [GK] at he
       omega
      ·rw [cD k (Ne.symm N4)] at he
       exact .inr ⟨k,cs,hk,he⟩
   ·cases ha
theorem dB {i:TypeInfo} {z:AV} (h:gM i=some z):∃ c,i.zero=some c∧∀ R w,Rel R w z c:=by
 unfold gM at h
 split at h
 ·rename_i c hc
  exact ⟨c,hc,fun R w=>vl h⟩
 ·cases h
theorem E1 {f:FuncId} (h:bo E R w β s a) (t:TypeId) (ho:o.op=.alloc t) {i:TI} {z:AV} (hi:E.ti t=some i) (hz:i.zero=some z) (hn:z.a6=true) {s':St} (ha:fM E f s o.dst t z.cells=some (true,s')) :
  b7 E R w β s a o s':=by
 obtain ⟨ig,u,e1,e2,e3,e4,e5,e6⟩:=cn E hi
 rw [hz] at e6
 obtain ⟨c,hc,hr⟩:=dB e6
 refine CJ h (hr R w) hn (t:=t) ?_ ha
 simp [execOp,ho,Instr.alloc,ij w e1 hc,xq]
theorem J2 {f:FuncId} (h:bo E R w β s a) (t:TypeId) (x:Operand) (ho:o.op=.box t x) {v:AV} (hv:bM E s.ae x=.v v) (hn:v.a6=true) {s':St} (ha:fM E f s o.dst t v.cells=some (true,s')) :
  b7 E R w β s a o s':=by
 have hr:=aX h x
 rw [hv] at hr
 refine CJ h hr hn (t:=t) ?_ ha
 simp [execOp,ho,Instr.box,xq]
end ops
end Go.Am
namespace Go.Am
open Go
section types
variable {P:Program}
theorem nQ:∀ {fs:List Field} {l:List (Nat × Nat × Bool)},fieldsOf P fs=some l→∀ {j o sz:Nat} {ag:Bool},nth l j=some (o,sz,ag) →
  ∃ f fi u,fs[j]?=some f∧f.offset=o∧P.info? f.type=some fi∧fi.size=sz∧P.underlying f.type=some u∧kh u=ag
 | [],l,h,j,o,sz,ag,hn=>by simp [fieldsOf] at h; subst h; simp [nth] at hn
 | f :: fs,l,h,j,o,sz,ag,hn=>by
  unfold fieldsOf at h
  split at h
  ·rename_i i u r h1 h2 h3
   cases h
   cases j with
   | zero=>simp [nth] at hn; obtain ⟨e1,e2,e3⟩:=hn; exact ⟨f,i,u,by simp,e1,h1,e2,h2,e3⟩
   | succ j=>
    obtain ⟨f',fi,u',g1,g2⟩:=nQ h3 (show nth r j=some (o,sz,ag) from hn)
    exact ⟨f',fi,u',by simpa using g1,g2⟩
  ·cases h
theorem oH:∀ {fs:List Field} {l:List (Nat × Nat × Bool)},fieldsOf P fs=some l→fs.mapM (fun f=>(P.info? f.type).map fun i=>(f.offset,i.size))=some (l.map fun x=>(x.1,x.2.1))
 | [],l,h=>by simp [fieldsOf] at h; subst h; simp
 | f :: fs,l,h=>by
  unfold fieldsOf at h
  split at h
  ·rename_i i u r h1 h2 h3
   cases h
   simp [List.mapM_cons,h1,oH h3]
  ·cases h
theorem GM {u:TypeDesc} {l:List (Nat × Nat × Bool)} (h:qN P u=some (.st l)):∃ fs,u=.struct fs∧fieldsOf P fs.toList=some l:=by
 cases u <;> simp only [qN] at h <;> try (cases h; done)
 all_goals (try (split at h <;> cases h; done))
 rename_i fs
 split at h
 ·rename_i l' hl
  cases h
  exact ⟨fs,rfl,hl⟩
 ·cases h
theorem pc {u:TypeDesc} {n esz:Nat} {ag:Bool} (h:qN P u=some (.arr n esz ag)):∃ e i ue,u=.array n e∧P.info? e=some i∧i.size=esz∧P.underlying e=some ue∧kh ue=ag:=by
 cases u <;> simp only [qN] at h <;> try (cases h; done)
 all_goals (try (split at h <;> cases h; done))
 rename_i m e
 split at h
 ·rename_i i ue h1 h2
  cases h
  exact ⟨e,i,ue,rfl,h1,rfl,h2,rfl⟩
 ·cases h
theorem eF {u:TypeDesc} {e esz pd:Nat} {ag:Bool} {z:Option AV} (h:qN P u=some (.sl e esz ag pd z)) :
  ∃ i ue,u=.slice e∧P.info? e=some i∧i.size=esz∧i.bytes=pd∧P.underlying e=some ue∧kh ue=ag∧gM i=z:=by
 cases u <;> simp only [qN] at h <;> try (cases h; done)
 all_goals (try (split at h <;> cases h; done))
 rename_i e'
 split at h
 ·rename_i i ue h1 h2
  injection h with h
  injection h with g1 g2 g3 g4 g5
  subst g1; subst g2; subst g3; subst g4; subst g5
  exact ⟨i,ue,rfl,h1,rfl,rfl,h2,rfl,rfl⟩
 ·cases h
theorem k9 {u:TypeDesc} (h:qN P u=some .str):u=.string:=by
 cases u <;> simp only [qN] at h <;> try (cases h; done)
 all_goals (try (split at h <;> cases h; done))
 rfl
theorem sH {u:TypeDesc} {k:IntKind} (h:qN P u=some (.int k)):u=.int k:=by
 cases u <;> simp only [qN] at h <;> try (cases h; done)
 all_goals (try (split at h <;> cases h; done))
 cases h
 rfl
theorem mX {u:TypeDesc} {k e:TypeId} {z:Option AV} (h:qN P u=some (.map k e z)):u=.map k e∧∃ i,P.info? e=some i∧gM i=z:=by
 cases u <;> simp only [qN] at h <;> try (cases h; done)
 all_goals (try (split at h <;> cases h; done))
 split at h
 ·rename_i i h1
  cases h
  exact ⟨rfl,i,h1,rfl⟩
 ·cases h
end types
section ops
variable {E:Env} {R:an} {w:World} {β:Nat→Nat} {s:St} {a:Act} {o:Oper}
theorem Az {p q:SV} {c:Value} {n:Nat} (hp:qP R w β p c) (hm:Ar n p=some q) :
  ∃ b o,c=.pointer (some ⟨b,o,none⟩)∧qP R w β q (.pointer (some ⟨b,o+n,none⟩)):=by
 unfold Ar at hm
 split at hm
 ·cases hm
  exact ⟨_,_,hp,rfl⟩
 ·cases hm
  cases hp with
  | @ptr _ _ b hb=>exact ⟨b,_,rfl,Rel.ptr hb⟩
 ·cases hm
  cases hp with
  | @ep _ b o hr=>
   refine ⟨b,o,rfl,Rel.ep ?_⟩
   rw [xo]
   exact hr.drop n
 ·cases hm
  cases hp with
  | @gp _ _ _ _ _ b o _ ro hr eD=>
   refine ⟨b,o,rfl,Rel.gp hr ?_⟩
   cases ro with
   | none=>trivial
   | bN=>exact eD.elim
   | b9 _=>exact eD.elim
   | bk _=>exact eD.elim
   | tok f1 b1 c1=>exact ⟨eD.1,fun e=>⟨(eD.2 e).1,by rw [(eD.2 e).2,Nat.add_assoc]⟩⟩
 ·cases hm
theorem xu (h:bo E R w β s a) (t:TypeId) (x:Operand) (j:Nat) (ho:o.op=.fieldAddr t x j) {q:SV} (hq:kZ E t (bM E s.ae x) j=some q) :
  b7 E R w β s a o (s.put o.dst q):=by
 unfold kZ at hq
 split at hq
 ·rename_i i hi
  split at hq
  ·rename_i fs hk
   split at hq
   ·rename_i off sz ag hn
    split at hq
    ·rename_i fu
     have fu:=Nat.le_of_ble_eq_true fu
     obtain ⟨ig,u,e1,e2,e3,e4,e5,e6⟩:=cn E hi
     rw [hk] at e5
     obtain ⟨fl,rfl,hf⟩:=GM e5
     obtain ⟨f,fi,u',g1,g2,g3,g4,g5,g6⟩:=nQ hf hn
     obtain ⟨b,o',m1,m2⟩:=Az (aX h x) hq
     refine au h ?_ m2
     have g1':fl[j]?=some f:=by simpa using g1
     have cD:¬ fi.size=0:=by omega
     simp [execOp,ho,Instr.fieldAt,run_underlying e2,g1',m1,Instr.sureAddr,fieldPlace,run_sizeOf w g3,cD,cL,g2]
    ·cases hq
   ·cases hq
  ·cases hq
 ·cases hq
theorem CK {b o sz:Nat} {es:List AV} (h:gQ R w b o sz es) {n:Nat} {e:AV} (hn:nth es n=some e):eN R w b (o+n * sz) e.cells∧e.cells.length=sz∧e.a6=true:=by
 induction es generalizing o n with
 | nil=>simp [nth] at hn
 | cons x l ih=>
  cases h with
  | cons hl ht _ h t=>
   cases n with
   | zero=>simp [nth] at hn; subst hn; exact ⟨by simpa using h,hl,ht⟩
   | succ n=>
    have:=ih t (show nth l n=some e from hn)
    rw [show o+sz+n * sz=o+(n+1) * sz by rw [Nat.add_mul]; omega] at this
    exact this
theorem xw (h:bo E R w β s a) (t:TypeId) (x ix:Operand) (ho:o.op=.indexAddr t x ix) {q:SV} (hq:kY E t (bM E s.ae x) (bM E s.ae ix)=some (true,q)) :
  b7 E R w β s a o (s.put o.dst q):=by
 have rx:=aX h x
 have ri:=aX h ix
 unfold kY at hq
 split at hq
 ·rename_i i k n hi YH
  rw [YH] at ri
  have S9:Rel R w (.int k n) (a.eval ix):=ri
  generalize N5:a.eval ix=iv at S9
  cases S9
  obtain ⟨ig,u,e1,e2,e3,e4,e5,e6⟩:=cn E hi
  split at hq
  ·-- a list
   rename_i elem esz ag pd z kk sz es hk hx
   rw [hx] at rx
   rw [hk] at e5
   obtain ⟨ie,ue,rfl,f1,f2,f3,f4,f5,f6⟩:=eF e5
   split at hq
   ·rename_i hc
    have key:∀ (u:AV),(0≤n∧n < (es.length:Int))→cQ (ah es n.toNat).cells u.cells→b7 E R w β s a o (s.put o.dst (.v (.ep u.cells))):=fun u xx hu=>by
     obtain ⟨BC,JF⟩:=xx
     have eI:Rel R w (.list kk sz es) (a.eval x):=rx
     generalize fY:a.eval x=xv at eI
     cases eI with
     | km=>simp at JF; omega
     | jA=>simp at JF; omega
     | nL=>simp at JF; omega
     | mV=>simp at JF; omega
     | mB=>simp at JF; omega
     | @list _ _ _ b o' len cap hr hl iG J3=>
      subst hl
      have cu:n.toNat < es.length:=by omega
      obtain ⟨e,he⟩:∃ e,nth es n.toNat=some e:=⟨es[n.toNat],by rw [bf]; exact List.getElem?_eq_getElem cu⟩
      have fu:sz=esz:=by
       simp only [Bool.or_eq_true] at hc
       rcases hc with hc | hc
       ·exact Nat.eq_of_beq_eq_true hc
       ·cases es with
        | nil=>simp at cu
        | cons _ _=>simp at hc
      obtain ⟨g1,_,_⟩:=CK hr he
      refine au h (c:=.pointer (some ⟨b,o'+n.toNat * sz,none⟩)) ?_ ?_
      ·have gf:0≤n∧n < (es.length:Int):=⟨BC,JF⟩
       simp [execOp,ho,Instr.indexAt,N5,fY,asIntOf,run_underlying e2,gf,run_sizeOf w f1,f2,fu,cL]
      ·have:ah es n.toNat=e:=by simp [ah,he]
       rw [this] at hu
       exact .ep (hu.JZ g1)
    split at hq
    ·rename_i p hp
     injection hq with hq
     injection hq with xx pf
     subst pf
     rw [Bool.and_eq_true] at xx
     have gf:=of_decide_eq_true xx.1
     have hd:=p.dc xx.2
     have cu:n.toNat < es.length:=by omega
     refine key _ gf (hd.cells ?_)
     obtain ⟨e,he⟩:∃ e,nth es n.toNat=some e:=⟨es[n.toNat],by rw [bf]; exact List.getElem?_eq_getElem cu⟩
     have:ah es n.toNat=e:=by simp [ah,he]
     rw [this]
     have eI:Rel R w (.list kk sz es) (a.eval x):=rx
     generalize a.eval x=xv at eI
     cases eI with
     | km=>simp at cu
     | jA=>simp at cu
     | nL=>simp at cu
     | mV=>simp at cu
     | mB=>simp at cu
     | list hr _ _ _=>exact (CK hr he).2.2
    ·injection hq with hq
     injection hq with xx pf
     subst pf
     exact key _ (of_decide_eq_true xx) (cQ.refl _)
   ·cases hq
  ·-- a heap slice
   rename_i elem esz ag pd z id off sz len cap hk hx
   rw [hx] at rx
   rw [hk] at e5
   obtain ⟨ie,ue,rfl,f1,f2,f3,f4,f5,f6⟩:=eF e5
   split at hq
   ·rename_i hc
    have fu:=Nat.eq_of_beq_eq_true hc
    injection hq with hq
    injection hq with xx pf
    subst pf
    have gf:=of_decide_eq_true xx
    have eI:Rel R w (.kB id off sz len cap) (a.eval x):=rx
    generalize fY:a.eval x=xv at eI
    cases eI with
    | @kB _ _ _ _ _ b hb _=>
     refine au h (c:=.pointer (some ⟨b,off+n.toNat * sz,none⟩)) ?_ (Rel.ptr hb)
     simp [execOp,ho,Instr.indexAt,N5,fY,asIntOf,run_underlying e2,gf,run_sizeOf w f1,f2,fu,cL]
   ·cases hq
  ·-- a slice that grows
   rename_i elem esz ag pd z id f' off sz len hk hx
   rw [hx] at rx
   rw [hk] at e5
   obtain ⟨ie,ue,rfl,f1,f2,f3,f4,f5,f6⟩:=eF e5
   split at hq
   ·rename_i hc
    have fu:=Nat.eq_of_beq_eq_true hc
    injection hq with hq
    injection hq with xx pf
    subst pf
    have gf:=of_decide_eq_true xx
    have eI:Rel R w (.dD id f' off sz len) (a.eval x):=rx
    generalize fY:a.eval x=xv at eI
    cases eI with
    | js _ _=>omega
    | @dD _ _ _ _ _ cap b o' ro bU eD iG=>
     refine au h (c:=.pointer (some ⟨b,o'+n.toNat * sz,none⟩)) ?_ (Rel.gp bU ?_)
     ·simp [execOp,ho,Instr.indexAt,N5,fY,asIntOf,run_underlying e2,gf,run_sizeOf w f1,f2,fu,cL]
     ·cases ro with
      | none=>trivial
      | bN=>exact eD.elim
      | b9 _=>exact eD.elim
      | bk _=>exact eD.elim
      | tok f1 b1 c1=>
       refine ⟨eD.1,fun e=>?_⟩
       obtain ⟨k1,k2,k3⟩:=eD.2 e
       refine ⟨k1,?_⟩
       rcases k3 with k3 | k3
       ·rw [k3,Nat.add_zero,Nat.add_mul]
       ·omega
   ·cases hq
  ·-- an array that is never written
   rename_i len esz ag cs hk hx
   rw [hx] at rx
   rw [hk] at e5
   obtain ⟨e,ie,ue,rfl,f1,f2,f3,f4⟩:=pc e5
   have eI:Rel R w (.ep cs) (a.eval x):=rx
   generalize fY:a.eval x=xv at eI
   cases eI with
   | @ep _ b o' hr=>
    split at hq
    ·rename_i p hp
     split at hq
     ·rename_i hc
      rw [Bool.and_eq_true] at hc
      have hz:=Nat.eq_of_beq_eq_true hc.1
      have hl:=Nat.le_of_ble_eq_true hc.2
      injection hq with hq
      injection hq with xx pf
      subst pf
      rw [Bool.and_eq_true] at xx
      have gf:=of_decide_eq_true xx.1
      have hd:=p.dc xx.2
      have cu:n.toNat < cs.length:=by omega
      have hdr:=hr.drop n.toNat
      rw [List.drop_eq_getElem_cons cu] at hdr
      have hn:ah cs n.toNat=cs[n.toNat]:=by
       unfold ah
       rw [bf,List.getElem?_eq_getElem cu]
      rw [hn] at hd ⊢
      refine au h (c:=.pointer (some ⟨b,o'+n.toNat * esz,none⟩)) ?_ ?_
      ·simp [execOp,ho,Instr.indexAt,N5,fY,Instr.sureAddr,asIntOf,run_underlying e2,gf,run_sizeOf w f1,f2,cL]
      ·subst hz
       rw [Nat.mul_one]
       cases hdr with
       | cons hc h1 hi fb t=>exact .ep (.cons hc h1 hi (hd.1 _ _ _ fb) .nil)
     ·cases hq
    ·injection hq with hq
     injection hq with xx pf
     subst pf
     have gf:=of_decide_eq_true xx
     refine au h (c:=.pointer (some ⟨b,o'+n.toNat * esz,none⟩)) ?_ ?_
     ·simp [execOp,ho,Instr.indexAt,N5,fY,Instr.sureAddr,asIntOf,run_underlying e2,gf,run_sizeOf w f1,f2,cL]
     ·rw [xo]
      exact .ep (hr.drop _)
  ·-- an array
   rename_i len esz ag hk _
   rw [hk] at e5
   obtain ⟨e,ie,ue,rfl,f1,f2,f3,f4⟩:=pc e5
   split at hq
   ·rename_i q' hm
    injection hq with hq
    injection hq with xx pf
    subst pf
    have gf:=of_decide_eq_true xx
    obtain ⟨b,o',m1,m2⟩:=Az rx hm
    refine au h ?_ m2
    simp [execOp,ho,Instr.indexAt,N5,m1,Instr.sureAddr,asIntOf,run_underlying e2,gf,run_sizeOf w f1,f2,cL]
   ·cases hq
  ·cases hq
 ·cases hq
theorem mY {t:TypeId} {i:TypeInfo} {u:TypeDesc} (h1:E.P.info? t=some i) (h2:E.P.underlying t=some u) {off:Nat} {cs l:List AV} {vs:List Value} {v:AV} (hr:aQ R w cs vs) (h3:∀ x∈vs,x.oneCell'=true)
  (BD:kh u=true→GD off i.size cs=some l∧tT true l=some v) (Uj:kh u=false→GD off 1 cs=some l∧tT false l=some v) :
  ∃ c,(part t ⟨vs⟩ off).run E.P w=.ok c w∧Rel R w v c:=by
 unfold part
 simp only [Sem.run_bind,Ay w h2,Result.andThen_ok]
 cases ha:kh u with
 | true=>
  obtain ⟨g1,g2⟩:=BD ha
  obtain ⟨k1,k2,k3,k4⟩:=qk g1 hr h3
  obtain ⟨m1,_⟩:=xr g2 k2 k3
  refine ⟨_,?_,m1 rfl⟩
  have:(⟨vs⟩:Array Value).extract off (off+i.size)=⟨(vs.drop off).take i.size⟩:=by
   apply Array.ext'
   simp [List.extract_eq_take_drop]
  simp [run_sizeOf w h1]
 | false=>
  obtain ⟨g1,g2⟩:=Uj ha
  obtain ⟨k1,k2,k3,k4⟩:=qk g1 hr h3
  obtain ⟨_,m2⟩:=xr g2 k2 k3
  obtain ⟨c,hc,fb⟩:=m2 rfl
  refine ⟨c,?_,fb⟩
  have h0:=k4 0 c (by rw [hc]; simp)
  simp only [Nat.add_zero] at h0
  simp [h0]
theorem E2 (h:bo E R w β s a) (t:TypeId) (x:Operand) (j:Nat) (ho:o.op=.field t x j) {v:AV} (hq:EQ E t (bM E s.ae x) j=some v) :
  b7 E R w β s a o (s.put o.dst (.v v)):=by
 have rx:=aX h x
 unfold EQ at hq
 split at hq
 ·rename_i i cs hi hx
  rw [hx] at rx
  have eI:Rel R w (.agg cs) (a.eval x):=rx
  generalize fY:a.eval x=xv at eI
  cases eI with
  | @agg _ vs hr h1=>
  split at hq
  ·rename_i fs hk
   split at hq
   ·rename_i off sz ag hn
    obtain ⟨ig,u,e1,e2,e3,e4,e5,e6⟩:=cn E hi
    rw [hk] at e5
    obtain ⟨fl,rfl,hf⟩:=GM e5
    obtain ⟨f,fi,u',g1,g2,g3,g4,g5,g6⟩:=nQ hf hn
    have key:∃ c,(part f.type ⟨vs⟩ off).run E.P w=.ok c w∧Rel R w v c:=by
     split at hq
     ·rename_i BD
      split at hq
      ·rename_i l hl
       exact mY g3 g5 (l:=l) hr h1 (fun _=>⟨by rw [g4]; exact hl,hq⟩) (fun hf=>by rw [g6,BD] at hf; cases hf)
      ·cases hq
     ·rename_i BD
      split at hq
      ·rename_i l hl
       exact mY g3 g5 (l:=l) hr h1 (fun hf=>by rw [g6] at hf; exact absurd hf BD) (fun _=>⟨hl,hq⟩)
      ·cases hq
    obtain ⟨c,k1,k2⟩:=key
    refine au h ?_ k2
    have g1':fl[j]?=some f:=by simpa using g1
    simp [execOp,ho,Instr.field,run_underlying e2,g1',fY,asAgg,g2,k1]
   ·cases hq
  ·cases hq
 ·cases hq
theorem E3 (h:bo E R w β s a) (t:TypeId) (x ix:Operand) (ho:o.op=.index t x ix) {v:AV} (hq:ER E t (bM E s.ae x) (bM E s.ae ix)=some (true,v)) :
  b7 E R w β s a o (s.put o.dst (.v v)):=by
 have rx:=aX h x
 have ri:=aX h ix
 unfold ER at hq
 split at hq
 ·rename_i i l k n hi hx YH
  rw [hx] at rx
  rw [YH] at ri
  have S9:Rel R w (.int k n) (a.eval ix):=ri
  have eI:Rel R w (.str l) (a.eval x):=rx
  generalize N5:a.eval ix=iv at S9
  generalize fY:a.eval x=xv at eI
  cases S9
  cases eI
  obtain ⟨ig,u,e1,e2,e3,e4,e5,e6⟩:=cn E hi
  split at hq
  ·rename_i hk
   rw [hk] at e5
   have:=k9 e5
   subst this
   injection hq with hq
   injection hq with xx pf
   subst pf
   obtain ⟨BC,JF⟩:=of_decide_eq_true xx
   have cu:n.toNat < l.length:=by omega
   refine au h (c:=.int .u8 (l.getD n.toNat 0).toNat) ?_ (Rel.int _ _)
   have kE:(⟨⟨l⟩⟩:ByteArray)[n.toNat]?=some (l.getD n.toNat 0):=by
    have hs:n.toNat < (⟨⟨l⟩⟩:ByteArray).size:=cu
    rw [getElem?_pos (⟨⟨l⟩⟩:ByteArray) n.toNat hs]
    congr 1
    simp [List.getD,List.getElem?_eq_getElem cu]
    rfl
   simp [execOp,ho,Instr.index,N5,fY,asIntOf,run_underlying e2,BC,kE]
  ·cases hq
 ·rename_i i cs k n hi hx YH
  rw [hx] at rx
  rw [YH] at ri
  have S9:Rel R w (.int k n) (a.eval ix):=ri
  have eI:Rel R w (.agg cs) (a.eval x):=rx
  generalize N5:a.eval ix=iv at S9
  generalize fY:a.eval x=xv at eI
  cases S9
  cases eI with
  | @agg _ vs hr h1=>
  obtain ⟨ig,u,e1,e2,e3,e4,e5,e6⟩:=cn E hi
  split at hq
  ·rename_i len esz ag hk
   rw [hk] at e5
   obtain ⟨e,ie,ue,rfl,f1,f2,f3,f4⟩:=pc e5
   split at hq
   ·rename_i v' Uk
    injection hq with hq
    injection hq with xx pf
    subst pf
    have gf:=of_decide_eq_true xx
    have key:∃ c,(part e ⟨vs⟩ (n.toNat * esz)).run E.P w=.ok c w∧Rel R w v' c:=by
     split at Uk
     ·rename_i BD
      split at Uk
      ·rename_i l hl
       exact mY f1 f3 (l:=l) hr h1 (fun _=>⟨by rw [f2]; exact hl,Uk⟩) (fun hf=>by rw [f4,BD] at hf; cases hf)
      ·cases Uk
     ·rename_i BD
      split at Uk
      ·rename_i l hl
       exact mY f1 f3 (l:=l) hr h1 (fun hf=>by rw [f4] at hf; exact absurd hf BD) (fun _=>⟨hl,Uk⟩)
      ·cases Uk
    obtain ⟨c,k1,k2⟩:=key
    refine au h ?_ k2
    simp [execOp,ho,Instr.index,N5,fY,asIntOf,run_underlying e2,gf,run_sizeOf w f1,f2,k1]
   ·cases hq
  ·cases hq
 ·cases hq
theorem BE (h:bo E R w β s a) (x:Operand) (j:Nat) (ho:o.op=.extract x j) {vs:List AV} {v:AV} (hx:bM E s.ae x=.v (.bp vs)) (hn:nth vs j=some v) :
  b7 E R w β s a o (s.put o.dst (.v v)):=by
 have rx:=aX h x
 rw [hx] at rx
 have eI:Rel R w (.bp vs) (a.eval x):=rx
 generalize fY:a.eval x=xv at eI
 cases eI with
 | @bp _ us hr=>
 rw [bf] at hn
 obtain ⟨c,h1,h2⟩:=hr.get hn
 refine au h ?_ h2
 simp [execOp,ho,Instr.extract,fY,h1]
theorem gT (h:bo E R w β s a):∀ {l:List Operand} {vs:List AV},mP E s.ae l=some vs→aQ R w vs (l.map a.eval)
 | [],vs,hl=>by simp [mP] at hl; subst hl; exact .nil
 | x :: l,vs,hl=>by
  unfold mP at hl
  split at hl
  ·rename_i v r h1 h2
   cases hl
   have:=aX h x
   rw [h1] at this
   exact .cons this (gT h h2)
  ·cases hl
theorem zW (h:bo E R w β s a) (g:FuncId) (x y:Array Operand) (ho:o.op=.makeFunc (.func g) x y) {p q:List AV} (hp:mP E s.ae x.toList=some p) (hq:mP E s.ae y.toList=some q) :
  b7 E R w β s a o (s.put o.dst (.v (.fn g p q))):=by
 have h1:=gT h hp
 have h2:=gT h hq
 refine au h (c:=.func (.func g) ⟨x.toList.map a.eval⟩ ⟨y.toList.map a.eval⟩) ?_ (Rel.fn h1 h2)
 have e1:x.map a.eval=⟨x.toList.map a.eval⟩:=Array.ext' (by simp)
 have e2:y.map a.eval=⟨y.toList.map a.eval⟩:=Array.ext' (by simp)
 simp [execOp,ho,Instr.makeFunc,e1,e2]
end ops
end Go.Am
namespace Go.Am
open Go
section ops
variable {E:Env} {R:an} {w:World} {β:Nat→Nat} {s:St} {a:Act} {o:Oper}
theorem size_bytes (l:List UInt8):(⟨⟨l⟩⟩:ByteArray).size=l.length:=rfl
theorem sI (l:List UInt8):(⟨⟨l⟩⟩:ByteArray).toList=l:=by rw [ByteArray.toList_eq]
theorem BF (l r:List UInt8):((⟨⟨l⟩⟩:ByteArray)++⟨⟨r⟩⟩)=⟨⟨l++r⟩⟩:=by
 apply ByteArray.ext
 rw [ByteArray.data_append]
 simp
theorem Ij (op:BinOp) (t:TypeId) (x y:Operand) (k k':IntKind) (n m:Int):(eqGuard op t x y (.int k n) (.int k' m)).run E.P w=.ok () w:=by
 unfold eqGuard
 cases op <;> rfl
theorem Ik (op:BinOp) (t:TypeId) (x y:Operand) (n m:ByteArray):(eqGuard op t x y (.string n) (.string m)).run E.P w=.ok () w:=by
 unfold eqGuard
 cases op <;> rfl
theorem E4 (h:bo E R w β s a) (op:BinOp) (t u:TypeId) (x y:Operand) (ho:o.op=.binOp op t x y u) {p q v:AV} (hx:bM E s.ae x=.v p) (hy:bM E s.ae y=.v q) (hv:CG op p q=some (true,v)) :
  b7 E R w β s a o (s.put o.dst (.v v)):=by
 have rx:=aX h x
 have ry:=aX h y
 rw [hx] at rx
 rw [hy] at ry
 have eI:Rel R w p (a.eval x):=rx
 have ra:Rel R w q (a.eval y):=ry
 have key:∃ c,(do eqGuard op t x y (a.eval x) (a.eval y); binOp op t (a.eval x) (a.eval y):Sem Value).run E.P w=.ok c w∧Rel R w v c:=by
  generalize fY:a.eval x=xv at eI
  generalize YI:a.eval y=yv at ra
  unfold CG at hv
  split at hv
  ·rename_i k n k' m
   cases eI
   cases ra
   simp only [Sem.run_bind,Ij,Result.andThen_ok]
   split at hv
   ·injection hv with hv
    injection hv with h1 h2
    subst h2
    have hm:=of_decide_eq_true h1
    have Ul:¬ m < 0:=by omega
    exact ⟨.int k (k.wrap (n * 2 ^ (min m.toNat k.bits))),by simp [binOp,Op.shift,Ul],.int _ _⟩
   ·injection hv with hv
    injection hv with h1 h2
    subst h2
    have hm:=of_decide_eq_true h1
    have Ul:¬ m < 0:=by omega
    exact ⟨.int k (n.fdiv (2 ^ (min m.toNat k.bits))),by simp [binOp,Op.shift,Ul],.int _ _⟩
   ·rename_i Ta hs2
    split at hv
    ·rename_i J3
     subst J3
     split at hv
     ·cases hv; exact ⟨.int k (k.wrap (n+m)),by simp [binOp,Op.intArith],.int _ _⟩
     ·cases hv; exact ⟨.int k (k.wrap (n - m)),by simp [binOp,Op.intArith],.int _ _⟩
     ·cases hv; exact ⟨.int k (k.wrap (n * m)),by simp [binOp,Op.intArith],.int _ _⟩
     ·injection hv with hv
      injection hv with h1 h2
      subst h2
      have hm:¬ m=0:=by simpa using h1
      exact ⟨.int k (k.wrap (n.tdiv m)),by simp [binOp,Op.intDiv,hm],.int _ _⟩
     ·injection hv with hv
      injection hv with h1 h2
      subst h2
      have hm:¬ m=0:=by simpa using h1
      exact ⟨.int k (n.tmod m),by simp [binOp,Op.intDiv,hm],.int _ _⟩
     ·cases hv; exact ⟨.int k (H5 k n m),by simp [binOp,Op.intBits,H5],.int _ _⟩
     ·cases hv; exact ⟨.int k (orI k n m),by simp [binOp,Op.intBits,orI],.int _ _⟩
     ·cases hv; exact ⟨.int k (H6 k n m),by simp [binOp,Op.intBits,H6],.int _ _⟩
     ·cases hv; exact ⟨.bool (n == m),by simp [binOp,Op.intCmp],.bool _⟩
     ·cases hv; exact ⟨.bool (n != m),by simp [binOp,Op.intCmp],.bool _⟩
     ·cases hv; exact ⟨.bool (decide (n < m)),by simp [binOp,Op.intCmp],.bool _⟩
     ·cases hv; exact ⟨.bool (decide (n≤m)),by simp [binOp,Op.intCmp],.bool _⟩
     ·cases hv; exact ⟨.bool (decide (n > m)),by simp [binOp,Op.intCmp],.bool _⟩
     ·cases hv; exact ⟨.bool (decide (n≥m)),by simp [binOp,Op.intCmp],.bool _⟩
     ·cases hv
    ·cases hv
  ·rename_i l r
   cases eI
   cases ra
   simp only [Sem.run_bind,Ik,Result.andThen_ok]
   split at hv
   ·injection hv with hv
    injection hv with h1 h2
    subst h2
    have hm:=of_decide_eq_true h1
    refine ⟨.string ⟨⟨l++r⟩⟩,?_,.str _⟩
    have Um:¬ ((l.length+r.length:Nat):Int) > IntKind.i64.max:=by
     have:IntKind.i64.max=9223372036854775807:=by decide
     omega
    simp only [binOp,Op.stringOp,size_bytes,if_neg Um,BF,Sem.run_pure]
   ·cases hv; exact ⟨.bool (l == r),by simp [binOp,Op.stringOp],.bool _⟩
   ·cases hv; exact ⟨.bool (!(l == r)),by simp [binOp,Op.stringOp],.bool _⟩
   ·cases hv; exact ⟨.bool (Op.bytesLess l r),by simp [binOp,Op.stringOp],.bool _⟩
   ·cases hv; exact ⟨.bool (Op.bytesLess l r || l == r),by simp [binOp,Op.stringOp],.bool _⟩
   ·cases hv; exact ⟨.bool (!(Op.bytesLess l r || l == r)),by simp [binOp,Op.stringOp],.bool _⟩
   ·cases hv; exact ⟨.bool (!(Op.bytesLess l r)),by simp [binOp,Op.stringOp],.bool _⟩
   ·cases hv
  ·cases hv
 obtain ⟨c,k1,k2⟩:=key
 refine au h (c:=c) ?_ k2
 simp only [Sem.run_bind] at k1
 simp only [execOp,ho,Sem.run_bind,k1,Result.andThen_ok,Sem.run_pure]
theorem kO {t:TypeId} {i:TypeInfo} {u:TypeDesc} (h1:E.P.info? t=some i) (h2:E.P.underlying t=some u) {off:Nat} {cs:List AV} {vs:List Value} {v:AV} (hr:aQ R w cs vs) (h3:∀ x∈vs,x.oneCell'=true)
  (h:GG (kh u) off i.size cs=some v):∃ c,(part t ⟨vs⟩ off).run E.P w=.ok c w∧Rel R w v c:=by
 unfold GG at h
 cases ha:kh u with
 | true=>
  rw [ha] at h
  simp only [if_true] at h
  split at h
  ·rename_i l hl
   exact mY h1 h2 hr h3 (fun _=>⟨hl,h⟩) (fun e=>by rw [ha] at e; cases e)
  ·cases h
 | false=>
  rw [ha] at h
  simp only [Bool.false_eq_true,if_false] at h
  split at h
  ·rename_i l hl
   exact mY h1 h2 hr h3 (fun e=>by rw [ha] at e; cases e) (fun _=>⟨hl,h⟩)
  ·cases h
theorem CL {ek:TypeId→EK} {d:Nat} (ih:∀ (t:TypeId) (a b:AV) (r:Bool) (x y:Value),lS (ek t) a b=some r→Rel R w a x→Rel R w b y→(Op.equalIn d t x y).run E.P w=.ok r w) {xs ys:List AV} {vs us:List Value}
  (hx:aQ R w xs vs) (vY:∀ x∈vs,x.oneCell'=true) (hy:aQ R w ys us) (Ox:∀ x∈us,x.oneCell'=true) :
  ∀ (fs:List Field) (l:S5) (r:Bool),EP E.P ek fs=some l→tU l xs ys=some r→(Op.eqFields d ⟨vs⟩ ⟨us⟩ fs).run E.P w=.ok r w
 | [],l,r,hl,hr=>by
  simp [EP] at hl
  subst hl
  simp [tU] at hr
  subst hr
  rfl
 | f :: fs,l,r,hl,hr=>by
  unfold EP at hl
  split at hl
  ·cases hl
  ·rename_i hn
   split at hl
   ·rename_i i u l' h1 h2 h3
    cases hl
    unfold tU at hr
    split at hr
    ·rename_i a b ha hb
     split at hr
     ·rename_i p q hp hq
      cases hr
      obtain ⟨c,k1,k2⟩:=kO h1 h2 hx vY ha
      obtain ⟨c',k3,k4⟩:=kO h1 h2 hy Ox hb
      have cD : f.name ≠ "_" := by simpa using hn
      have he:=ih f.type a b p c c' hp k2 k4
      have xy:=CL ih hx vY hy Ox fs l' q h3 hq
      simp only [Op.eqFields,cD,ne_eq,not_false_eq_true,if_true,Sem.run_bind,k1,k3,he,Result.andThen_ok]
      cases p with
      | true=>simp [xy]
      | false=>simp
     ·cases hr
    ·cases hr
   ·cases hl
theorem AA {ek:EK} {d:Nat} {e:TypeId} {i:TypeInfo} {u:TypeDesc} (h1:E.P.info? e=some i) (h2:E.P.underlying e=some u) (ih:∀ (a b:AV) (r:Bool) (x y:Value),lS ek a b=some r→Rel R w a x→Rel R w b y→(Op.equalIn d e x y).run E.P w=.ok r w) {xs ys:List AV} {vs us:List Value}
  (hx:aQ R w xs vs) (vY:∀ x∈vs,x.oneCell'=true) (hy:aQ R w ys us) (Ox:∀ x∈us,x.oneCell'=true) :
  ∀ (m k:Nat) (r:Bool),tU (xj i.size (kh u) ek m k) xs ys=some r→(Op.eqItems d e i.size ⟨vs⟩ ⟨us⟩ (List.range' k m)).run E.P w=.ok r w
 | 0,k,r,hr=>by
  simp [xj,tU] at hr
  subst hr
  rfl
 | m+1,k,r,hr=>by
  unfold xj tU at hr
  split at hr
  ·rename_i a b ha hb
   split at hr
   ·rename_i p q hp hq
    cases hr
    obtain ⟨c,k1,k2⟩:=kO h1 h2 hx vY ha
    obtain ⟨c',k3,k4⟩:=kO h1 h2 hy Ox hb
    have he:=ih a b p c c' hp k2 k4
    have xy:=AA h1 h2 ih hx vY hy Ox m (k+1) q hq
    simp only [List.range'_succ,Op.eqItems,Sem.run_bind,k1,k3,he,Result.andThen_ok]
    cases p with
    | true=>simpa using xy
    | false=>simp
   ·cases hr
  ·cases hr
theorem BG:∀ (n d:Nat),n≤d→∀ (t:TypeId) (a b:AV) (r:Bool) (x y:Value),lS (qO E.P n t) a b=some r→Rel R w a x→Rel R w b y→(Op.equalIn d t x y).run E.P w=.ok r w
 | 0,_,_,t,a,b,r,x,y,h,_,_=>by simp [qO,lS] at h
 | n+1,0,hd,_,_,_,_,_,_,_,_,_=>by omega
 | n+1,d+1,hd,t,a,b,r,x,y,h,hx,hy=>by
  unfold qO at h
  split at h
  ·rename_i hu
   unfold lS at h
   split at h
   all_goals (try contradiction)
   cases hx; cases hy; cases h
   exact run_equalIn_bool' w d t _ _ hu
  ·rename_i k hu
   unfold lS at h
   split at h
   all_goals (try contradiction)
   split at h
   ·rename_i hk
    subst hk
    cases hx; cases hy; cases h
    exact run_equalIn_int w d t _ k _ _ hu
   ·cases h
  ·rename_i hu
   unfold lS at h
   split at h
   all_goals (try contradiction)
   cases hx; cases hy; cases h
   rw [run_equalIn_string w d t _ _ hu,sI,sI]
  ·rename_i fs hu
   split at h
   ·simp [lS] at h
   ·rename_i hs
    split at h
    ·rename_i l hl
     unfold lS at h
     split at h
     all_goals (try contradiction)
     rename_i By xs ys hk
     cases hk
     cases hx with
     | agg hx vY=>
     cases hy with
     | agg hy Ox=>
     have hf:E.P.fieldsOf t=fs:=by simp [Program.fieldsOf,hu]
     rw [run_equalIn_struct w d t _ _ (by rw [hf]; exact hu) (by simpa using hs),hf]
     exact CL (fun t a b r x y=>BG n d (by omega) t a b r x y) hx vY hy Ox fs.toList _ r hl h
    ·simp [lS] at h
  ·rename_i m e hu
   split at h
   ·rename_i i ud g1 g2
    unfold lS at h
    split at h
    all_goals (try contradiction)
    rename_i By xs ys hk
    cases hk
    cases hx with
    | agg hx vY=>
    cases hy with
    | agg hy Ox=>
    have ql:E.P.cellsOf e=i.size:=by simp [Program.cellsOf,g1]
    rw [run_equalIn_array (P:=E.P) w d _ _ hu g1,ql,List.range_eq_range']
    exact AA g1 g2 (fun a b r x y=>BG n d (by omega) e a b r x y) hx vY hy Ox m 0 r h
   ·simp [lS] at h
  ·simp [lS] at h
theorem kP {t:TypeId} {i:TI} (hi:E.ti t=some i) {p q:AV} {r:Bool} {x y:Value} (h:lS i.ek p q=some r) (hx:Rel R w p x) (hy:Rel R w q y) :
  (Op.equalIn 10000 t x y).run E.P w=.ok r w∧((∃ b c,x=.bool b∧y=.bool c)∨(∃ k n k' m,x=.int k n∧y=.int k' m)∨(∃ n m,x=.string n∧y=.string m)∨(∃ n m,x=.agg n∧y=.agg m∧E.P.eqGuardType E.P.depth t=false)):=by
 have AB:i.ek=vi E.P t:=by
  have:=E.H4 t i hi
  unfold H3 at this
  split at this
  ·split at this
   ·cases this; rfl
   ·cases this
  ·cases this
 rw [AB] at h
 have hg:lS (qO E.P 6 t) p q=some r∧((∃ l,qO E.P 6 t=.st l)→E.P.eqGuardType E.P.depth t=false):=by
  unfold vi at h
  split at h
  ·rename_i l hl
   split at h
   ·simp [lS] at h
   ·rename_i E5
    exact ⟨by rw [hl]; exact h,fun _=>by simpa using E5⟩
  ·rename_i k hk
   exact ⟨h,fun ⟨l,hl⟩=>absurd hl (hk l)⟩
 refine ⟨BG 6 10000 (by omega) t p q r x y hg.1 hx hy,?_⟩
 have h2:=hg.1
 have h3:=hg.2
 generalize qO E.P 6 t=k at h2 h3
 unfold lS at h2
 split at h2
 ·cases hx; cases hy; exact .inl ⟨_,_,rfl,rfl⟩
 ·cases hx; cases hy; exact .inr (.inl ⟨_,_,_,_,rfl,rfl⟩)
 ·cases hx; cases hy; exact .inr (.inr (.inl ⟨_,_,rfl,rfl⟩))
 ·cases hx; cases hy; exact .inr (.inr (.inr ⟨_,_,rfl,rfl,h3 ⟨_,rfl⟩⟩))
 ·cases h2
theorem J4 (h:bo E R w β s a) (op:BinOp) (t u:TypeId) (x y:Operand) (ho:o.op=.binOp op t x y u) {p q:AV} {r:Bool} (hx:bM E s.ae x=.v p) (hy:bM E s.ae y=.v q) (hb:CG op p q=none) (hv:eqO E op t p q=some r) :
  b7 E R w β s a o (s.put o.dst (.v (.bool r))):=by
 have rx:=aX h x
 have ry:=aX h y
 rw [hx] at rx
 rw [hy] at ry
 have eI:Rel R w p (a.eval x):=rx
 have ra:Rel R w q (a.eval y):=ry
 have key:(do eqGuard op t x y (a.eval x) (a.eval y); binOp op t (a.eval x) (a.eval y):Sem Value).run E.P w=.ok (.bool r) w:=by
  generalize fY:a.eval x=xv at eI
  generalize YI:a.eval y=yv at ra
  unfold eqO at hv
  split at hv
  ·rename_i i hi
   obtain ⟨k1,k2⟩:=kP hi hv eI ra
   rcases k2 with ⟨b,c,rfl,rfl⟩ | ⟨k,n,k',m,rfl,rfl⟩ | ⟨n,m,rfl,rfl⟩ | ⟨n,m,rfl,rfl,hg⟩
   ·have E6:(eqGuard .eql t x y (.bool b) (.bool c)).run E.P w=.ok () w:=rfl
    simp [E6,binOp,Op.equal,Op.maxDepth,k1]
   ·cases eI; cases ra; simp [CG] at hb
    cases hk:i.ek <;> simp [hk,lS] at hv
    exact absurd hv.1 hb
   ·cases eI; cases ra; simp [CG] at hb
   ·simp only [Sem.run_bind,run_eqGuard_agg w _ t x y n m hg,Result.andThen_ok,run_eql_struct,k1]
  ·rename_i i hi
   split at hv
   ·rename_i r' kQ
    cases hv
    obtain ⟨k1,k2⟩:=kP hi kQ eI ra
    rcases k2 with ⟨b,c,rfl,rfl⟩ | ⟨k,n,k',m,rfl,rfl⟩ | ⟨n,m,rfl,rfl⟩ | ⟨n,m,rfl,rfl,hg⟩
    ·have E6:(eqGuard .neq t x y (.bool b) (.bool c)).run E.P w=.ok () w:=rfl
     simp [E6,binOp,Op.equal,Op.maxDepth,k1]
    ·cases eI; cases ra; simp [CG] at hb
     cases hk:i.ek <;> simp [hk,lS] at kQ
     exact absurd kQ.1 hb
    ·cases eI; cases ra; simp [CG] at hb
    ·simp only [Sem.run_bind,run_eqGuard_agg w _ t x y n m hg,Result.andThen_ok,run_neq_struct,k1]
   ·cases hv
  ·cases hv
 refine au h (c:=.bool r) ?_ (.bool r)
 simp only [Sem.run_bind] at key
 simp only [execOp,ho,Sem.run_bind,key,Result.andThen_ok,Sem.run_pure]
theorem J5 (h:bo E R w β s a) (t:TypeId) (x:Operand) (ho:o.op=.unOp .not t x) {b:Bool} (hx:bM E s.ae x=.v (.bool b)):b7 E R w β s a o (s.put o.dst (.v (.bool (!b)))):=by
 have rx:=aX h x
 rw [hx] at rx
 have eI:Rel R w (.bool b) (a.eval x):=rx
 generalize fY:a.eval x=xv at eI
 cases eI
 refine au h (c:=.bool (!b)) ?_ (Rel.bool _)
 simp [execOp,ho,Op.unary,fY]
theorem J6 (h:bo E R w β s a) (t:TypeId) (x:Operand) (ho:o.op=.unOp .neg t x) {k:IntKind} {n:Int} (hx:bM E s.ae x=.v (.int k n)):b7 E R w β s a o (s.put o.dst (.v (.int k (k.wrap (0 - n))))):=by
 have rx:=aX h x
 rw [hx] at rx
 have eI:Rel R w (.int k n) (a.eval x):=rx
 generalize fY:a.eval x=xv at eI
 cases eI
 refine au h (c:=.int k (k.wrap (0 - n))) ?_ (Rel.int _ _)
 simp [execOp,ho,Op.unary,Op.intArith,fY]
theorem AD:∀ (us:List Value) (off j0:Nat) (cells:Array Value),off+j0+us.length≤cells.size →
  ((us.zipIdx j0).foldl (fun (cs:Array Value) (p:Value × Nat)=>cs.setIfInBounds (off+p.2) p.1) cells).toList=cells.toList.take (off+j0)++us++cells.toList.drop (off+j0+us.length)
 | [],off,j0,cells,_=>by simp
 | u :: us,off,j0,cells,h=>by
  have cu:off+j0 < cells.size:=by simp at h; omega
  have ih:=AD us off (j0+1) (cells.setIfInBounds (off+j0) u) (by simp at h ⊢; omega)
  simp only [List.zipIdx_cons,List.foldl_cons]
  rw [ih]
  have e:=list_seg_step cells.toList (off+j0) u us (by simp at h ⊢; omega)
  simpa [Array.toList_setIfInBounds,Nat.add_assoc] using e
theorem pg (place:Nat→Option (Nat × Nat)):∀ {ps:List (Nat × AV)} {qs:List (Nat × Value)} {cells xz:List AV} {vs:List Value},
  aQ R w (ps.map (·.2)) (qs.map (·.2))→ps.map (·.1)=qs.map (·.1)→aQ R w cells vs→(∀ x∈vs,x.oneCell'=true)→vj place cells ps=some xz →
  ∃ us,Instr.fill place ⟨vs⟩ qs=some ⟨us⟩∧aQ R w xz us∧∀ x∈us,x.oneCell'=true
 | [],qs,cells,xz,vs,h1,h2,h3,h4,h5=>by
  have:qs=[]:=by simpa using h2.symm
  subst this
  simp [vj] at h5
  subst h5
  exact ⟨vs,rfl,h3,h4⟩
 | (i,v) :: ps,[],cells,xz,vs,h1,h2,h3,h4,h5=>by simp at h2
 | (i,v) :: ps,(j,c) :: qs,cells,xz,vs,h1,h2,h3,h4,h5=>by
  simp only [List.map_cons,List.cons.injEq] at h2
  obtain ⟨rfl,h2⟩:=h2
  cases h1 with
  | cons hr h1=>
  unfold vj at h5
  split at h5
  ·cases h5
  ·rename_i off sz hp
   split at h5
   ·rename_i gf
    simp only [Bool.and_eq_true] at gf
    obtain ⟨⟨N3,hlen⟩,hle⟩:=gf
    have hlen:=Nat.eq_of_beq_eq_true hlen
    have hle:=Nat.le_of_ble_eq_true hle
    obtain ⟨c1,c2⟩:=Rel.cells hr N3
    have GN:c.cells.toList.length=sz:=by rw [← c1.length]; exact hlen
    have hb:off+v.cells.length≤cells.length:=by omega
    obtain ⟨us,u1,u2,u3⟩:=pg place h1 h2 (h3.ck c1 hb) (jD h4 c2) h5
    refine ⟨us,?_,u2,u3⟩
    have fu:c.cells.size=sz:=by simpa using GN
    have Tb:vs.length=cells.length:=h3.length.symm
    have YJ:c.cells.zipIdx.foldl (fun (cs:Array Value) (x:Value × Nat)=>cs.setIfInBounds (off+x.2) x.1) ⟨vs⟩=⟨vs.take off++c.cells.toList++vs.drop (off+c.cells.toList.length)⟩:=by
     apply Array.ext'
     rw [← Array.foldl_toList,Array.toList_zipIdx]
     have:=AD c.cells.toList off 0 ⟨vs⟩ (by simp only [List.size_toArray]; omega)
     simpa using this
    have cN:(c.cells.size≠sz || decide (off+c.cells.size > (⟨vs⟩:Array Value).size))=false:=by
     have Ta:decide (c.cells.size≠sz)=false:=by simp [fu]
     have hs2:decide (off+c.cells.size > (⟨vs⟩:Array Value).size)=false:=by
      rw [decide_eq_false_iff_not,fu]
      show ¬ off+sz > vs.length
      omega
     rw [Ta,hs2]
     rfl
    unfold Instr.fill
    simp only [hp,cN,Bool.false_eq_true,if_false]
    rw [← u1]
    exact congrArg (fun z=>Instr.fill place z qs) YJ
   ·cases h5
theorem wI (h:bo E R w β s a):∀ {l:List (Nat × Operand)} {ps:List (Nat × AV)},N1 E s.ae l=some ps →
  aQ R w (ps.map (·.2)) ((l.map fun x=>(x.1,a.eval x.2)).map (·.2))∧ps.map (·.1)=(l.map fun x=>(x.1,a.eval x.2)).map (·.1)
 | [],ps,hl=>by simp [N1] at hl; subst hl; exact ⟨.nil,rfl⟩
 | (i,x) :: l,ps,hl=>by
  unfold N1 at hl
  split at hl
  ·rename_i v r h1 h2
   cases hl
   have hx:=aX h x
   rw [h1] at hx
   obtain ⟨g1,g2⟩:=wI h h2
   exact ⟨.cons hx g1,by simpa using g2⟩
  ·cases hl
theorem E7 (h:bo E R w β s a) (t:TypeId) (parts:Array (Nat × Operand)) (ho:o.op=.build t parts) {v:AV} (hv:nH E s t parts.toList=some v) :
  b7 E R w β s a o (s.put o.dst (.v v)):=by
 unfold nH at hv
 split at hv
 ·rename_i i ps hi JG
  split at hv
  ·rename_i z hz
   split at hv
   ·rename_i cs ql
    split at hv
    ·rename_i BD
     cases hv
     simp only [Bool.and_eq_true] at BD
     obtain ⟨BD,sr⟩:=BD
     obtain ⟨ig,u,e1,e2,e3,e4,e5,e6⟩:=cn E hi
     rw [hz] at e6
     obtain ⟨zc,rN,EF⟩:=dB e6
     obtain ⟨p1,p2⟩:=wI h JG
     obtain ⟨c1,c2⟩:=Rel.cells (EF R w) sr
     have Un:(parts.map fun (x:Nat × Operand)=>(x.1,a.eval x.2)).toList=parts.toList.map fun x=>(x.1,a.eval x.2):=by simp
     have key:∃ us,E.P.built t (parts.toList.map fun x=>(x.1,a.eval x.2))=some ⟨us⟩∧aQ R w cs us∧∀ x∈us,x.oneCell'=true:=by
      cases u <;> simp only [kh] at e4 <;> first | (rw [BD] at e4; cases e4; done) | skip
      ·rename_i n e
       simp only [qN] at e5
       split at e5
       ·rename_i ie ue f1 f2
        injection e5 with e5
        rw [← e5] at ql
        obtain ⟨us,u1,u2,u3⟩:=pg (R:=R) (w:=w) _ p1 p2 c1 c2 ql
        refine ⟨us,?_,u2,u3⟩
        unfold Program.built
        simp only [e1,e2,rN,f1]
        rw [← u1]
        rfl
       ·cases e5
      ·rename_i fs
       simp only [qN] at e5
       split at e5
       ·rename_i l hl
        injection e5 with e5
        rw [← e5] at ql
        obtain ⟨us,u1,u2,u3⟩:=pg (R:=R) (w:=w) _ p1 p2 c1 c2 ql
        refine ⟨us,?_,u2,u3⟩
        unfold Program.built
        simp only [e1,e2,rN,oH hl]
        rw [← u1]
        have XW:placeOf (.st l)=fun j=>(l.map fun x=>(x.1,x.2.1)).toArray[j]?:=by
         funext j
         simp only [placeOf,bf,List.getElem?_toArray,List.getElem?_map]
         cases l[j]? <;> rfl
        rw [XW]
       ·cases e5
     obtain ⟨us,u1,u2,u3⟩:=key
     refine au h (c:=.agg ⟨us⟩) ?_ (Rel.agg u2 u3)
     have bK:=run_build (P:=E.P) w t (parts.map fun (x:Nat × Operand)=>(x.1,a.eval x.2)) ⟨us⟩ (by rw [Un]; exact u1)
     simp only [execOp,ho,Sem.run_bind,bK,Result.andThen_ok,Sem.run_pure]
    ·cases hv
   ·cases hv
  ·cases hv
 ·cases hv
end ops
end Go.Am
