/- The abstract machine: lists of cells; what keeps a state's meaning; loads and stores. -/
import Derived.Test.YtegoimldbgdeiaaAmKA
import Derived.Laws.CopyRow
import Derived.Laws.Slices
import Derived.Laws.StructEq
import Derived.ChangeKeysEq
import Derived.Laws.Cover3
import Derived.Laws.Pointers
import Derived.Lib.SliceRun
set_option linter.all false
namespace Go.Am
open Go
section lists
variable {α:Type}
theorem tN (n:Nat) (l:List α):fm n l=l.drop n:=by
 induction n generalizing l with
 | zero=>simp [fm]
 | succ n ih=>cases l <;> simp [fm,ih]
theorem F6 {n:Nat} {l r:List α} (h:takeN n l=some r):r=l.take n∧r.length=n:=by
 induction n generalizing l r with
 | zero=>simp [takeN] at h; subst h; simp
 | succ n ih=>
  cases l with
  | nil=>simp [takeN] at h
  | cons a l=>
   unfold takeN at h
   split at h
   ·rename_i r' hr
    cases h
    obtain ⟨h1,h2⟩:=ih hr
    exact ⟨by simp [h1],by simp [h2]⟩
   ·cases h
theorem Mf {off n:Nat} {l r:List α} (h:Dm off n l=some r):r=(l.drop off).take n∧r.length=n:=by
 unfold Dm at h
 rw [tN] at h
 exact F6 h
theorem eB (l:List α) (off:Nat) (ys:List α) (h:off+ys.length≤l.length):bR l off ys=l.take off++ys++l.drop (off+ys.length):=by
 induction l generalizing off ys with
 | nil=>
  have hy:ys=[]:=List.eq_nil_of_length_eq_zero (by rw [List.length_nil] at h; omega)
  subst hy
  simp [bR]
 | cons a l ih=>
  cases ys with
  | nil=>simp [bR]
  | cons y ys=>
   cases off with
   | zero=>
    simp only [bR]
    rw [ih 0 ys (by simp at h ⊢; omega)]
    simp
   | succ n=>
    simp only [bR]
    rw [ih n (y :: ys) (by simp at h ⊢; omega)]
    rw [show n+1+(y :: ys).length=(n+(y :: ys).length)+1 by omega]
    simp
theorem wH (l:List α) (off:Nat) (ys:List α) (h:off+ys.length≤l.length):(bR l off ys).length=l.length:=by
 rw [eB l off ys h]
 simp
 omega
end lists
section rel
variable {R:ak} {w:World}
theorem aI.length {l:List AV} {vs:List Value} (h:aI R w l vs):l.length=vs.length:=by
 induction l generalizing vs with
 | nil=>cases h; rfl
 | cons a l ih=>cases h with | cons h t=>simp [ih t]
theorem aI.get {l:List AV} {vs:List Value} (h:aI R w l vs) {i:Nat} {a:AV} (ha:l[i]?=some a):∃ c,vs[i]?=some c∧Rel R w a c:=by
 induction l generalizing vs i with
 | nil=>simp at ha
 | cons x l ih=>
  cases h with
  | cons h t=>
   cases i with
   | zero=>simp at ha; subst ha; exact ⟨_,by simp,h⟩
   | succ i=>simp at ha; obtain ⟨c,h1,h2⟩:=ih t ha; exact ⟨c,by simpa using h1,h2⟩
theorem aI.drop {l:List AV} {vs:List Value} (h:aI R w l vs) (n:Nat):aI R w (l.drop n) (vs.drop n):=by
 induction n generalizing l vs with
 | zero=>simpa using h
 | succ n ih=>cases h with
  | nil=>simpa using aI.nil
  | cons h t=>simpa using ih t
theorem aI.take {l:List AV} {vs:List Value} (h:aI R w l vs) (n:Nat):aI R w (l.take n) (vs.take n):=by
 induction n generalizing l vs with
 | zero=>simpa using aI.nil
 | succ n ih=>cases h with
  | nil=>simpa using aI.nil
  | cons h t=>simpa using aI.cons h (ih t)
theorem aI.append {l r:List AV} {vs us:List Value} (h:aI R w l vs) (k:aI R w r us):aI R w (l++r) (vs++us):=by
 induction l generalizing vs with
 | nil=>cases h; simpa using k
 | cons a l ih=>cases h with | cons h t=>exact .cons h (ih t)
theorem aI.one {a:AV} {c:Value} (h:Rel R w a c):aI R w [a] [c]:=.cons h .nil
theorem Rel.cells {a:AV} {c:Value} (h:Rel R w a c) (ht:a.aP=true):aI R w a.cells c.cells.toList∧∀ v∈c.cells.toList,v.oneCell'=true:=by
 cases h with
 | agg h h1=>exact ⟨h,h1⟩
 | bh h=>simp [AV.aP] at ht
 | bool=>exact ⟨.one (.bool _),by simp [Value.cells,Value.oneCell']⟩
 | int=>exact ⟨.one (.int _ _),by simp [Value.cells,Value.oneCell']⟩
 | str=>exact ⟨.one (.str _),by simp [Value.cells,Value.oneCell']⟩
 | lj=>exact ⟨.one .lj,by simp [Value.cells,Value.oneCell']⟩
 | ptr h=>exact ⟨.one (.ptr h),by simp [Value.cells,Value.oneCell']⟩
 | ep h=>exact ⟨.one (.ep h),by simp [Value.cells,Value.oneCell']⟩
 | iF=>exact ⟨.one .iF,by simp [Value.cells,Value.oneCell']⟩
 | ia=>exact ⟨.one .ia,by simp [Value.cells,Value.oneCell']⟩
 | lY=>exact ⟨.one .lY,by simp [Value.cells,Value.oneCell']⟩
 | lZ h ho=>exact ⟨.one (.lZ h ho),by simp [Value.cells,Value.oneCell']⟩
 | kV h ho=>exact ⟨.one (.kV h ho),by simp [Value.cells,Value.oneCell']⟩
 | list h hl hc hk=>exact ⟨.one (.list h hl hc hk),by simp [Value.cells,Value.oneCell']⟩
 | iR h hc=>exact ⟨.one (.iR h hc),by simp [Value.cells,Value.oneCell']⟩
 | iY h ho=>exact ⟨.one (.iY h ho),by simp [Value.cells,Value.oneCell']⟩
 | dT h ho hc=>exact ⟨.one (.dT h ho hc),by simp [Value.cells,Value.oneCell']⟩
 | gp h ho=>exact ⟨.one (.gp h ho),by simp [Value.cells,Value.oneCell']⟩
 | jt=>exact ⟨.one .jt,by simp [Value.cells,Value.oneCell']⟩
 | map h=>exact ⟨.one (.map h),by simp [Value.cells,Value.oneCell']⟩
 | dD=>exact ⟨.one .dD,by simp [Value.cells,Value.oneCell']⟩
 | fn h h'=>exact ⟨.one (.fn h h'),by simp [Value.cells,Value.oneCell']⟩
 | yield h=>exact ⟨.one (.yield h),by simp [Value.cells,Value.oneCell']⟩
 | oB=>exact ⟨.one .oB,by simp [Value.cells,Value.oneCell']⟩
 | iface h=>exact ⟨.one (.iface h),by simp [Value.cells,Value.oneCell']⟩
mutual
theorem Rel.gj:∀ {a:AV} {c:Value},Rel R w a c→Rel R w a.gj c
 | _,_,.bool b=>.bool b
 | _,_,.int k n=>.int k n
 | _,_,.str l=>.str l
 | _,_,.agg h h1=>.agg h.gj h1
 | _,_,.bh h=>.bh h.gj
 | _,_,.lj=>.lj
 | _,_,.ptr h=>.ptr h
 | _,_,.ep h=>.ep h
 | _,_,.iF=>.iF
 | _,_,.ia=>.ia
 | _,_,.lY=>.lY
 | _,_,.lZ _ _=>.ia
 | _,_,.kV _ _=>.ia
 | _,_,@Rel.list _ _ .nil _ _ _ _ _ _ h hl hc hk=>.list h hl hc hk
 | _,_,@Rel.list _ _ .full _ _ _ _ _ _ h hl hc hk=>.list h hl hc hk
 | _,_,@Rel.list _ _ .iU _ _ _ _ _ _ h hl hc hk=>.list h hl hc hk
 | _,_,@Rel.list _ _ (.own _) _ _ _ _ _ _ h hl hc _=>.list h hl hc trivial
 | _,_,@Rel.list _ _ (.aX _ _) _ _ _ _ _ _ h hl hc _=>.list h hl hc trivial
 | _,_,.iR h hc=>.iR h hc
 | _,_,.iY h ho=>.iY h ho
 | _,_,.dT h ho hc=>.dT h ho hc
 | _,_,.gp h ho=>.gp h ho
 | _,_,.jt=>.jt
 | _,_,.map h=>.map h
 | _,_,.dD=>.dD
 | _,_,.fn h h'=>.fn h h'
 | _,_,.yield h=>.yield h
 | _,_,.oB=>.oB
 | _,_,.iface h=>.iface h
theorem aI.gj:∀ {l:List AV} {cs:List Value},aI R w l cs→aI R w (kE l) cs
 | _,_,.nil=>.nil
 | _,_,.cons h t=>.cons h.gj t.gj
end
theorem ew.get {b o:Nat} {l:List AV} (h:ew R w b o l):∃ vs,aI R w l vs∧(∀ v∈vs,v.oneCell'=true)∧(∀ j v,vs[j]?=some v→w.cell? ⟨b,o+j,none⟩=some v)∧∀ j,j < l.length→R.I b (o+j):=by
 induction l generalizing o with
 | nil=>exact ⟨[],.nil,by simp,by simp,by simp⟩
 | cons a l ih=>
  cases h with
  | @cons _ _ _ c _ hc h1 hi h t=>
   obtain ⟨vs,k1,k2,k3,k4⟩:=ih t
   refine ⟨c :: vs,.cons h k1,?_,?_,?_⟩
   ·intro v hv
    rcases List.mem_cons.1 hv with rfl | hv
    ·exact h1
    ·exact k2 v hv
   ·intro j v hv
    cases j with
    | zero=>simp at hv; subst hv; exact hc
    | succ j=>simp at hv; have:=k3 j v hv; rwa [show o+1+j=o+(j+1) by omega] at this
   ·intro j hj
    cases j with
    | zero=>exact hi
    | succ j=>have:=k4 j (by simp at hj; omega); rwa [show o+1+j=o+(j+1) by omega] at this
theorem ew.make {b o:Nat} {l:List AV} {vs:List Value} (h:aI R w l vs) (h1:∀ v∈vs,v.oneCell'=true) (hc:∀ j v,vs[j]?=some v→w.cell? ⟨b,o+j,none⟩=some v) (hi:∀ j,j < l.length→R.I b (o+j)):ew R w b o l:=by
 induction l generalizing vs o with
 | nil=>exact .nil
 | cons a l ih=>
  cases h with
  | cons h t=>
   refine .cons (hc 0 _ (by simp)) (h1 _ (by simp)) (hi 0 (by simp)) h (ih t (fun v hv=>h1 v (by simp [hv])) (fun j v hv=>?_) (fun j hj=>?_))
   ·have:=hc (j+1) v (by simpa using hv); rwa [show o+(j+1)=o+1+j by omega] at this
   ·have:=hi (j+1) (by simpa using hj); rwa [show o+(j+1)=o+1+j by omega] at this
theorem ew.drop {b o:Nat} {l:List AV} (h:ew R w b o l) (n:Nat):ew R w b (o+n) (l.drop n):=by
 induction n generalizing o l with
 | zero=>simpa using h
 | succ n ih=>cases h with
  | nil=>simpa using ew.nil
  | cons hc h1 hi h t=>have:=ih t; rw [show o+1+n=o+(n+1) by omega] at this; simpa using this
end rel
theorem cn (b o n:Nat):(⟨b,o,none⟩:Addr).add n=⟨b,o+n,none⟩:=by unfold Addr.add; split <;> simp_all
section aZ
variable {E:Env} {R R':ak} {w w':World} {β β':Nat→Nat} {s:St} {a:Act}
theorem mW.mono (e:Ext R w R' w') {sl:aW} {tm:Array Value} (h:mW R w β sl tm):mW R' w' β sl tm:=
 fun i hi=>let ⟨c,h1,h2⟩:=h i hi; ⟨c,h1,h2.mono e⟩
theorem di.mono (e:Ext R w R' w'):∀ {l:List (AV × AV)} {es:List MapEntry},di R w l es→di R' w' l es
 | [],[],_=>trivial
 | (_,_) :: _,_ :: _,h=>⟨h.1.mono e,h.2.1.mono e,di.mono e h.2.2⟩
 | [],_ :: _,h=>h.elim
 | _ :: _,[],h=>h.elim
theorem mX {w w':World} {b:Nat} (h:b < w.heap.size) (e:w'.heap[b]?=w.heap[b]?):b < w'.heap.size:=by
 rw [Array.getElem?_eq_getElem h] at e
 exact (Array.getElem?_eq_some_iff.1 e).1
theorem gd.mono (e:Ext R w R' w') {go:GO} {ro:RO} (h:gd R w go ro) (hb:∀ b,ro.has b→w'.heap[b]?=w.heap[b]?) (hi:∀ b o,ro.has b→R'.I b o→R.I b o):gd R' w' go ro:=by
 cases ro with
 | none=>cases go <;> first | exact h | exact h.elim
 | bn=>cases go <;> first | exact h | exact h.elim
 | bB b=>
  have li:=hb b rfl
  cases go with
  | dead=>exact mX h li
  | row cs el=>obtain ⟨vs,h1,h2,h3,h4⟩:=h; exact ⟨vs,li.trans h1,h2.mono e,h3,fun o ho=>h4 o (hi b o rfl ho)⟩
  | tok f sz el=>exact h.elim
  | aX _ _ _=>exact h.elim
  | gR pg n left _=>obtain ⟨bm,seen,c0,h1,h2,h3⟩:=h; exact ⟨bm,seen,c0,e.bB h1,li.trans h2,h3⟩
  | dE es sz el=>exact h.elim
  | map es=>obtain ⟨aw,clock,h1,h2,h3⟩:=h; exact ⟨aw,clock,li.trans h1,di.mono e h2,h3⟩
  | fZ l pos=>exact li.trans h
  | loop busy pending fn ae n params assign body defers done=>
   obtain ⟨⟨r,db,h1,h2,h3,h4,h5,h6,h7,h8,h9,XV⟩,h10⟩:=h
   exact ⟨⟨r,db,li.trans h1,h2,h3,h4.mono e,h5,h6,h7,h8,h9,e.bB XV⟩,h10⟩
  | defers o=>exact li.trans h
 | tok f b c=>
  have li:=hb b rfl
  cases go with
  | tok f' sz el=>
   obtain ⟨h0,cur,h1,h2,h3,h4,h5⟩:=h
   exact ⟨h0,cur,li.trans h1,h2,h3,h4,fun o ho oI=>h5 o ho (hi b o rfl oI)⟩
  | dE es sz el=>
   obtain ⟨h0,n7,cur,vs,h1,h2,h3,h4,h5,h6,h7,h8⟩:=h
   exact ⟨h0,n7,cur,vs,li.trans h1,h2,h3,h4,fun o ho=>h5 o (hi b o rfl ho),h6.mono e,h7,h8⟩
  | dead=>exact mX h li
  | row cs=>exact h.elim
  | aX _ _ _=>exact h.elim
  | gR _ _ _ _=>exact h.elim
  | map es=>exact h.elim
  | fZ l pos=>exact h.elim
  | loop=>exact h.elim
  | defers o=>exact h.elim
 | aX ts=>
  cases go with
  | aX fs sz el=>
   obtain ⟨h1,h2,h3⟩:=h
   refine ⟨h1,h2,fun j f t hf ht=>?_⟩
   have h4:=h3 j f t hf ht
   cases t with
   | bn=>exact h4
   | full f'=>exact h4
   | tok f' b c=>
    obtain ⟨h5,cur,k1,k2,k3,k4,k5⟩:=h4
    have hh:RO.has (.aX ts) b:=⟨j,f',c,ht⟩
    exact ⟨h5,cur,(hb b hh).trans k1,k2,k3,k4,fun o ho oI=>k5 o ho (hi b o hh oI)⟩
  | dead=>exact fun j f b c ht=>mX (h j f b c ht) (hb b ⟨j,f,c,ht⟩)
  | _=>exact h.elim
theorem Live.of {id b:Nat} {ro:RO} (h:nth R.obj id=some ro) (hb:ro.has b):Live R b:=⟨id,ro,h,hb⟩
theorem dW.aZ {G:List GO} (h:dW E R w G) (e:Ext R w R' w') (ho:R'.obj=R.obj) (hb:∀ b,Live R b→w'.heap[b]?=w.heap[b]?) (hi:∀ b o,Live R b→R'.I b o→R.I b o) (wf:∀ b o,R'.I b o→b < w'.heap.size) (hd:E.lo≤w.drawn→E.lo≤w'.drawn:=by first | exact fun h=>h | exact fun h=>Nat.le_succ_of_le h):dW E R' w' G where
 lo:=hd h.lo
 len:=by rw [ho]; exact h.len
 obj:=fun id go ro hg hr=>by
  rw [ho] at hr
  exact (h.obj id go ro hg hr).mono e (fun b PL=>hb b (.of hr PL)) (fun b o PL=>hi b o (.of hr PL))
 inj:=fun i j ri rj b h1 h2=>by rw [ho] at h1 h2; exact h.inj i j ri rj b h1 h2
 wf:=wf
 dK:=fun g cs hg=>(h.dK g cs hg).mono e
theorem I2.aZ {bx:cA} (h:I2 R w β bx) (e:Ext R w R' w') (hb:∀ k cs,dy bx k=some cs→w'.heap[β k]?=w.heap[β k]?) (hi:∀ k cs o,dy bx k=some cs→R'.I (β k) o→R.I (β k) o) (hl:∀ k cs,dy bx k=some cs→Live R' (β k)→Live R (β k)):I2 R' w' β bx where
 box:=fun k cs hk=>by
  obtain ⟨⟨vs,el,h1,h2,h3⟩,h4,h5⟩:=h.box k cs hk
  exact ⟨⟨vs,el,(hb k cs hk).trans h1,h2.mono e,h3⟩,fun o ho=>h4 o (hi k cs o hk ho),fun zC=>h5 (hl k cs hk zC)⟩
 inj:=h.inj
theorem oF.mono (e:Ext R w R' w'):∀ {l:List Nat} {ds:List Deferred},oF R l ds→oF R' l ds
 | [],[],_=>trivial
 | _ :: _,_ :: _,h=>let ⟨⟨b,h1,h2⟩,h3⟩:=h; ⟨⟨b,e.bB h1,h2⟩,oF.mono e h3⟩
 | [],_ :: _,h=>h.elim
 | _ :: _,[],h=>h.elim
theorem aY.aZ (h:aY E R w β s a) (e:Ext R w R' w') (ho:R'.obj=R.obj) (hb:∀ b,Own R β s.boxes b→w'.heap[b]?=w.heap[b]?) (hi:∀ b o,Own R β s.boxes b→R'.I b o→R.I b o) (wf:∀ b o,R'.I b o→b < w'.heap.size) (hd:E.lo≤w.drawn→E.lo≤w'.drawn:=by first | exact fun h=>h | exact fun h=>Nat.le_succ_of_le h):aY E R' w' β s a where
 g:=h.g.aZ e ho (fun b hl=>hb b (.inl hl)) (fun b o hl=>hi b o (.inl hl)) wf hd
 b:=h.b.aZ e (fun k cs hk=>hb _ (.inr ⟨k,cs,hk,rfl⟩)) (fun k cs o hk=>hi _ o (.inr ⟨k,cs,hk,rfl⟩)) (fun k cs _ hl=>by obtain ⟨id,ro,h1,h2⟩:=hl; rw [ho] at h1; exact ⟨id,ro,h1,h2⟩)
 t:=h.t.mono e
 n:=h.n
 d:=h.d.mono e
theorem a8 {w:World} {b:Nat} {o:Obj} (h:w.heap[b]?=some o):b < w.heap.size:=(Array.getElem?_eq_some_iff.1 h).1
theorem gd.lt {go:GO} {ro:RO} (h:gd R w go ro) {b:Nat} (hb:ro.has b):b < w.heap.size:=by
 cases ro with
 | none=>exact hb.elim
 | bn=>exact hb.elim
 | bB x=>
  have hb:b=x:=hb
  subst hb
  cases go with
  | dead=>exact h
  | row cs el=>obtain ⟨vs,h1,_⟩:=h; exact a8 h1
  | tok f sz el=>exact h.elim
  | aX _ _ _=>exact h.elim
  | gR pg n left _=>obtain ⟨bm,seen,c0,_,h2,_⟩:=h; exact a8 h2
  | dE es sz el=>exact h.elim
  | map es=>obtain ⟨aw,clock,h1,_⟩:=h; exact a8 h1
  | fZ l pos=>exact a8 h
  | loop=>obtain ⟨⟨r,db,h1,_⟩,_⟩:=h; exact a8 h1
  | defers o=>exact a8 h
 | tok f x c=>
  have hb:b=x:=hb
  subst hb
  cases go with
  | tok f' sz el=>obtain ⟨_,cur,h1,_⟩:=h; exact a8 h1
  | dE es sz el=>obtain ⟨_,_,cur,vs,h1,_⟩:=h; exact a8 h1
  | dead=>exact h
  | row cs=>exact h.elim
  | aX _ _ _=>exact h.elim
  | gR _ _ _ _=>exact h.elim
  | map es=>exact h.elim
  | fZ l pos=>exact h.elim
  | loop=>exact h.elim
  | defers o=>exact h.elim
 | aX ts=>
  obtain ⟨j,f,c,ht⟩:=hb
  cases go with
  | aX fs sz el=>
   obtain ⟨h1,h2,h3⟩:=h
   have bT:=bz ht
   rw [h1] at bT
   obtain ⟨f',hf⟩:∃ f',nth fs j=some f':=⟨fs[j],by rw [aU]; exact List.getElem?_eq_getElem bT⟩
   obtain ⟨_,cur,k1,_⟩:=h3 j f' _ hf ht
   exact a8 k1
  | dead=>exact h j f b c ht
  | _=>exact h.elim
theorem dW.cj {G:List GO} (h:dW E R w G) {b:Nat} (hl:Live R b):b < w.heap.size:=by
 obtain ⟨id,ro,h1,h2⟩:=hl
 have bT:=bz h1
 rw [h.len] at bT
 obtain ⟨go,gS⟩:∃ go,nth G id=some go:=⟨G[id],by rw [aU]; exact List.getElem?_eq_getElem bT⟩
 exact (h.obj id go ro gS h1).lt h2
theorem aY.dS (h:aY E R w β s a) {b:Nat} (ho:Own R β s.boxes b):b < w.heap.size:=by
 rcases ho with hl | ⟨k,cs,hk,rfl⟩
 ·exact h.g.cj hl
 ·obtain ⟨⟨vs,el,h1,_⟩,_⟩:=h.b.box k cs hk
  exact a8 h1
theorem b8 {w w':World} {b:Nat} (h:w'.heap[b]?=w.heap[b]?) (o:Nat):w'.cell? ⟨b,o,none⟩=w.cell? ⟨b,o,none⟩:=by simp [World.cell?,h]
theorem xj (wf:∀ b o,R.I b o→b < w.heap.size) (x:Obj):Ext R w R (w.alloc x):=
 ⟨fun _ _ h=>h,fun b o h=>b8 (heap_alloc_old w x b (wf b o h)) o,fun _ ro h=>⟨ro,h,cp.refl ro⟩,.old fun b hb=>heap_alloc_old w x b hb⟩
theorem aY.alloc (h:aY E R w β s a) (x:Obj):aY E R (w.alloc x) β s a:=
 h.aZ (xj h.g.wf x) rfl (fun b hb=>heap_alloc_old w x b (h.dS hb)) (fun _ _ _ hi=>hi) (fun b o hi=>by have:=h.g.wf b o hi; simp; omega)
end aZ
end Go.Am
namespace Go.Am
open Go
theorem F7 {a b:AV} (h:pP a b=true):a=b:=by
 unfold pP at h
 split at h
 all_goals (first | (cases h; done) | skip)
 all_goals (try simp only [Bool.and_eq_true,beq_iff_eq,Nat.beq_eq] at h)
 all_goals (simp [*])
mutual
theorem iG:∀ {a b:AV},cX a b=true→a=b:=by
 intro a b h
 unfold cX at h
 split at h
 ·simp only [Bool.and_eq_true,Nat.beq_eq] at h; rw [h.1.1,fI h.1.2,fI h.2]
 ·rw [fI h]
 ·rw [fI h]
 ·rw [fI h]
 ·simp only [Bool.and_eq_true,Nat.beq_eq] at h; rw [h.1,fI h.2]
 ·simp only [Bool.and_eq_true,Nat.beq_eq] at h; rw [h.1,fI h.2]
 ·simp only [Bool.and_eq_true,Nat.beq_eq] at h; rw [h.1,fI h.2]
 ·simp only [Bool.and_eq_true,Nat.beq_eq] at h; rw [h.1.1,h.1.2,fI h.2]
 ·simp only [Bool.and_eq_true,Nat.beq_eq] at h; rw [h.1.1.1,h.1.1.2,h.1.2,fI h.2]
 ·exact F7 h
theorem fI:∀ {l r:List AV},bo l r=true→l=r:=by
 intro l r h
 unfold bo at h
 split at h
 ·rfl
 ·rw [Bool.and_eq_true] at h; rw [iG h.1,fI h.2]
 ·cases h
end
def yo (a b:AV):Prop:=∀ (R:ak) (w:World) (c:Value),Rel R w a c→Rel R w b c
def cu:List AV→List AV→Prop
 | [],[]=>True
 | a :: l,b :: r=>yo a b∧cu l r
 | _,_=>False
theorem yo.refl (a:AV):yo a a:=fun _ _ _ h=>h
theorem cu.refl:∀ l:List AV,cu l l
 | []=>trivial
 | a :: l=>⟨yo.refl a,cu.refl l⟩
theorem cu.length:∀ {l r:List AV},cu l r→l.length=r.length
 | [],[],_=>rfl
 | _ :: _,_ :: _,h=>by simp [cu.length h.2]
 | [],_ :: _,h=>h.elim
 | _ :: _,[],h=>h.elim
theorem cu.rel {R:ak} {w:World}:∀ {l r:List AV} {cs:List Value},cu l r→aI R w l cs→aI R w r cs
 | [],[],_,_,h=>h
 | _ :: _,_ :: _,_,k,.cons h t=>.cons (k.1 _ _ _ h) (cu.rel k.2 t)
 | [],_ :: _,_,h,_=>h.elim
 | _ :: _,[],_,h,_=>h.elim
theorem cu.F8 {R:ak} {w:World}:∀ {l r:List AV} {b o:Nat},cu l r→ew R w b o l→ew R w b o r
 | [],[],_,_,_,_=>.nil
 | _ :: _,_ :: _,_,_,k,.cons hc h1 hi h t=>.cons hc h1 hi (k.1 _ _ _ h) (cu.F8 k.2 t)
 | [],_ :: _,_,_,h,_=>h.elim
 | _ :: _,[],_,_,h,_=>h.elim
theorem cu.append:∀ {a b c d:List AV},cu a b→cu c d→cu (a++c) (b++d)
 | [],[],_,_,_,h=>h
 | _ :: _,_ :: _,_,_,k,h=>⟨k.1,cu.append k.2 h⟩
 | [],_ :: _,_,_,h,_=>h.elim
 | _ :: _,[],_,_,h,_=>h.elim
structure hX (v u:AV):Prop where
 gj:yo v u
 bh:u.aP=v.aP
 cells:v.aP=true→cu v.cells u.cells
 closed:v.closed=true→u.closed=true
theorem th {u v a:AV} (h:(ah.two u v).fits a=true):(ah.two u v).enc ((ah.two u v).ba a)=a:=by
 change (cX a u || cX a v)=true at h
 change (bif cX a v then v else u)=a
 cases hs:cX a v with
 | true=>exact (iG hs).symm
 | false=>
  rw [hs,Bool.or_false] at h
  exact (iG h).symm
theorem hX.refl (v:AV):hX v v:=⟨yo.refl v,rfl,fun _=>cu.refl _,fun h=>h⟩
theorem BI {a b:IntKind} (h:PJ a b=true):a=b:=of_decide_eq_true h
theorem pX {α:Type} {f:AV→Bool} {d:AV→α} {g:α→AV} (Dr:∀ v,f v=true→hX v (g (d v))) {R:ak} {w:World} :
  ∀ {es:List AV} {b o sz:Nat},allFit f es=true→gl R w b o sz es→gl R w b o sz ((es.map d).map g)
 | [],b,o,sz,_,_=>.nil
 | e :: es,b,o,sz,h,hr=>by
  simp only [allFit,Bool.and_eq_true] at h
  cases hr with
  | cons hl ht hk hc t=>
   have d':=Dr e h.1
   have wc:=d'.cells ht
   exact .cons (by rw [← wc.length,hl]) (by rw [d'.bh,ht]) (d'.closed hk) (wc.F8 hc) (pX Dr h.2 t)
theorem ED {R:ak} {w:World} {b o sz bq:Nat} {es:List AV} (h:es=[]∨sz=bq) (hr:gl R w b o bq es):gl R w b o sz es:=by
 rcases h with rfl | rfl
 ·exact .nil
 ·exact hr
theorem EE {α:Type} {f:AV→Bool} {d:AV→α} {g:α→AV} (Dr:∀ v,f v=true→hX v (g (d v))) {k:LK} {sz bq:Nat} {es:List AV} (hs:es=[]∨sz=bq) (h:allFit f es=true) :
  yo (.list k bq es) (.list .iU sz ((es.map d).map g)):=fun R w c hr=>by
 cases hr with
 | iF=>exact .ia
 | ia=>exact .ia
 | lY=>exact .lY
 | lZ _ _=>exact .ia
 | kV _ _=>exact .ia
 | list hr hlen hc hk=>exact .list (pX Dr h (ED hs hr)) (by simp [hlen]) hc trivial
theorem F9 {α:Type} {f:AV→Bool} {d:AV→α} {g:α→AV} (Dr:∀ v,f v=true→hX v (g (d v))) {id sz:Nat} {es:List AV} (h:allFit f es=true) :
  yo (.list (.own id) sz es) (.list (.own id) sz ((es.map d).map g)):=fun R w c hr=>by
 cases hr with
 | lZ h1 h2=>exact .lZ h1 h2
 | list hr hlen hc hk=>exact .list (pX Dr h hr) (by simp [hlen]) hc hk
theorem Ga {α:Type} {f:AV→Bool} {d:AV→α} {g:α→AV} (Dr:∀ v,f v=true→hX v (g (d v))) {id j sz:Nat} {es:List AV} (h:allFit f es=true) :
  yo (.list (.aX id j) sz es) (.list (.aX id j) sz ((es.map d).map g)):=fun R w c hr=>by
 cases hr with
 | kV h1 h2=>exact .kV h1 h2
 | list hr hlen hc hk=>exact .list (pX Dr h hr) (by simp [hlen]) hc hk
mutual
theorem ah.cG:∀ (p:ah) {v:AV},p.fits v=true→hX v (p.enc (p.ba v))
 | .int k,v,h=>by
  cases v with
  | int k' n=>
   have hk:PJ k k'=true:=h
   rw [BI hk]
   exact hX.refl _
  | _=>cases h
 | .bool,v,h=>by
  cases v with
  | bool b=>exact hX.refl _
  | _=>cases h
 | .str,v,h=>by
  cases v with
  | str b=>exact hX.refl _
  | _=>cases h
 | .agg ps,v,h=>by
  cases v with
  | agg cs=>
   obtain ⟨h1,h2⟩:=ps.cG (show ps.fits cs=true from h)
   exact ⟨fun R w c hr=>by cases hr with | agg hr sN=>exact .agg (h1.rel hr) sN,rfl,fun _=>h1,fun hc=>by
    have pY:aR cs=true:=by simpa [AV.closed] using hc
    show AV.closed (.agg (ps.enc (ps.ba cs)))=true
    simp only [AV.closed]; exact h2 pY⟩
  | _=>cases h
 | .bh ps,v,h=>by
  cases v with
  | bh cs=>
   obtain ⟨h1,h2⟩:=ps.cG (show ps.fits cs=true from h)
   exact ⟨fun R w c hr=>by cases hr with | bh hr=>exact .bh (h1.rel hr),rfl,fun hn=>by simp [AV.aP] at hn,fun hc=>by
    have pY:aR cs=true:=by simpa [AV.closed] using hc
    show AV.closed (.bh (ps.enc (ps.ba cs)))=true
    simp only [AV.closed]; exact h2 pY⟩
  | _=>cases h
 | .list sz p,v,h=>by
  cases v with
  | list k bq es=>
   have hb:((Nat.beq sz bq || es.isEmpty)&&allFit p.fits es)=true:=h
   simp only [Bool.and_eq_true,Bool.or_eq_true,Nat.beq_eq,List.isEmpty_iff] at hb
   have hw:=EE (k:=k) (fun v=>p.cG) hb.1.symm hb.2
   exact ⟨hw,rfl,fun _=>⟨hw,trivial⟩,fun _=>rfl⟩
  | _=>cases h
 | .own id sz p,v,h=>by
  cases v with
  | list k bq es=>
   cases k with
   | own iS=>
    have hb:((Nat.beq id iS&&Nat.beq sz bq)&&allFit p.fits es)=true:=h
    simp only [Bool.and_eq_true,Nat.beq_eq] at hb
    obtain ⟨⟨rfl,rfl⟩,hf⟩:=hb
    have hw:=F9 (id:=id) (sz:=sz) (fun v=>p.cG) hf
    exact ⟨hw,rfl,fun _=>⟨hw,trivial⟩,fun hc=>by simp [AV.closed,LK.closed] at hc⟩
   | _=>cases h
  | _=>cases h
 | .aX id sz p,v,h=>by
  cases v with
  | list k bq es=>
   cases k with
   | aX iS j=>
    have hb:((Nat.beq id iS&&Nat.beq sz bq)&&allFit p.fits es)=true:=h
    simp only [Bool.and_eq_true,Nat.beq_eq] at hb
    obtain ⟨⟨rfl,rfl⟩,hf⟩:=hb
    have hw:=Ga (id:=id) (j:=j) (sz:=sz) (fun v=>p.cG) hf
    exact ⟨hw,rfl,fun _=>⟨hw,trivial⟩,fun hc=>by simp [AV.closed,LK.closed] at hc⟩
   | _=>cases h
  | _=>cases h
 | .oH u,v,h=>by
  have:=iG (show cX v u=true from h)
  subst this
  exact hX.refl _
 | .two u v,a,h=>by
  have hv:(ah.two u v).enc ((ah.two u v).ba a)=a:=th h
  rw [hv]
  exact hX.refl _
theorem aH.cG:∀ (ps:aH) {l:List AV},ps.fits l=true→cu l (ps.enc (ps.ba l))∧(aR l=true→aR (ps.enc (ps.ba l))=true)
 | .nil,l,h=>by
  cases l with
  | nil=>exact ⟨trivial,fun h=>h⟩
  | cons _ _=>cases h
 | .cons p .nil,l,h=>by
  match l,h with
  | [],h=>cases h
  | a :: l,h=>
   have h':(p.fits a&&l.isEmpty)=true:=h
   simp only [Bool.and_eq_true,List.isEmpty_iff] at h'
   obtain ⟨h1,rfl⟩:=h'
   have d:=p.cG h1
   exact ⟨⟨d.gj,trivial⟩,fun hc=>by
    simp only [aR,Bool.and_true] at hc
    show aR [p.enc (p.ba a)]=true
    simp only [aR,Bool.and_true]
    exact d.closed hc⟩
 | .cons p (.cons q ps),l,h=>by
  cases l with
  | nil=>cases h
  | cons a l=>
   have h':(p.fits a&&(aH.cons q ps).fits l)=true:=h
   rw [Bool.and_eq_true] at h'
   have d:=p.cG h'.1
   obtain ⟨k1,k2⟩:=(aH.cons q ps).cG h'.2
   exact ⟨⟨d.gj,k1⟩,fun hc=>by
    simp only [aR,Bool.and_eq_true] at hc
    show aR (p.enc (p.ba a) :: (aH.cons q ps).enc ((aH.cons q ps).ba l))=true
    simp only [aR,Bool.and_eq_true]
    exact ⟨d.closed hc.1,k2 hc.2⟩⟩
end
theorem ah.pj (p:ah) {v:AV} {x:p.T} (h:p.dec v=some x):hX v (p.enc x):=by
 unfold ah.dec at h
 cases hf:p.fits v with
 | true=>rw [hf] at h; cases h; exact p.cG hf
 | false=>rw [hf] at h; cases h
theorem aH.pj (ps:aH) {l:List AV} {x:ps.T} (h:ps.dec l=some x):cu l (ps.enc x)∧(aR l=true→aR (ps.enc x)=true):=by
 unfold aH.dec at h
 cases hf:ps.fits l with
 | true=>rw [hf] at h; cases h; exact ps.cG hf
 | false=>rw [hf] at h; cases h
mutual
def ah.plain:ah→Bool
 | .agg ps=>ps.plain
 | .bh ps=>ps.plain
 | .list _ p=>p.plain
 | .own _ _ p=>p.plain
 | .aX _ _ p=>p.plain
 | .oH v=>cX v v
 | .two u v=>cX u u&&cX v v&&!cX u v
 | _=>true
def aH.plain:aH→Bool
 | .nil=>true
 | .cons p ps=>p.plain&&ps.plain
end
theorem mc {α:Type} {f:AV→Bool} {g:α→AV} (h:∀ x,f (g x)=true):∀ xs:List α,allFit f (xs.map g)=true
 | []=>rfl
 | x :: xs=>by simp only [List.map_cons,allFit,h x,mc h xs,Bool.and_self]
theorem tj {α:Type} {d:AV→α} {g:α→AV} (h:∀ x,d (g x)=x):∀ xs:List α,(xs.map g).map d=xs
 | []=>rfl
 | x :: xs=>by simp only [List.map_cons,h x,tj h xs]
mutual
theorem ah.bc:∀ (p:ah) (x:p.T),p.plain=true→p.fits (p.enc x)=true∧p.ba (p.enc x)=x
 | .int k,x,_=>⟨decide_eq_true rfl,rfl⟩
 | .bool,x,_=>⟨rfl,rfl⟩
 | .str,x,_=>⟨rfl,rfl⟩
 | .agg ps,x,h=>ps.bc x h
 | .bh ps,x,h=>ps.bc x h
 | .list sz p,x,h=>by
  refine ⟨?_,tj (fun y=>(p.bc y h).2) x⟩
  change ((Nat.beq sz sz || (List.map p.enc x).isEmpty)&&allFit p.fits (List.map p.enc x))=true
  rw [Nat.beq_refl,Bool.true_or,Bool.true_and]
  exact mc (fun y=>(p.bc y h).1) x
 | .own id sz p,x,h=>by
  refine ⟨?_,tj (fun y=>(p.bc y h).2) x⟩
  change ((Nat.beq id id&&Nat.beq sz sz)&&allFit p.fits (List.map p.enc x))=true
  rw [Nat.beq_refl,Nat.beq_refl,Bool.true_and,Bool.true_and]
  exact mc (fun y=>(p.bc y h).1) x
 | .aX id sz p,(x:Nat × List p.T),h=>by
  refine ⟨?_,?_⟩
  ·change ((Nat.beq id id&&Nat.beq sz sz)&&allFit p.fits (List.map p.enc x.2))=true
   rw [Nat.beq_refl,Nat.beq_refl,Bool.true_and,Bool.true_and]
   exact mc (fun y=>(p.bc y h).1) x.2
  ·change (x.1,(List.map p.enc x.2).map p.ba)=x
   rw [tj (fun y=>(p.bc y h).2) x.2]
 | .oH v,x,h=>⟨h,rfl⟩
 | .two u v,(x:Bool),h=>by
  change (cX u u&&cX v v&&!cX u v)=true at h
  simp only [Bool.and_eq_true,Bool.not_eq_true'] at h
  obtain ⟨⟨h1,h2⟩,h3⟩:=h
  cases x
  ·exact ⟨by change (cX u u || cX u v)=true; rw [h1]; rfl,h3⟩
  ·exact ⟨by change (cX v u || cX v v)=true; rw [h2,Bool.or_true],h2⟩
theorem aH.bc:∀ (ps:aH) (x:ps.T),ps.plain=true→ps.fits (ps.enc x)=true∧ps.ba (ps.enc x)=x
 | .nil,x,_=>⟨rfl,rfl⟩
 | .cons p .nil,x,h=>by
  have h':(p.plain&&true)=true:=h
  rw [Bool.and_true] at h'
  have:=p.bc x h'
  exact ⟨by change (p.fits (p.enc x)&&true)=true; rw [this.1]; rfl,this.2⟩
 | .cons p (.cons q ps),x,h=>by
  have h':(p.plain&&(aH.cons q ps).plain)=true:=h
  rw [Bool.and_eq_true] at h'
  have h1:=p.bc x.1 h'.1
  have h2:=(aH.cons q ps).bc x.2 h'.2
  refine ⟨?_,?_⟩
  ·change (p.fits (p.enc x.1)&&(aH.cons q ps).fits ((aH.cons q ps).enc x.2))=true
   rw [h1.1,h2.1]
   rfl
  ·change (p.ba (p.enc x.1),(aH.cons q ps).ba ((aH.cons q ps).enc x.2))=x
   rw [h1.2,h2.2]
   rfl
end
end Go.Am
namespace Go.Am
open Go
theorem bP (E:Env) {t:TypeId} {i:TI} (h:E.ti t=some i) :
  ∃ gf u,E.P.info? t=some gf∧E.P.underlying t=some u∧gf.size=i.size∧iV u=i.agg∧oC E.P u=some i.k∧fU gf=i.zero:=by
 have h1:=E.Ew t i h
 unfold Ev at h1
 split at h1
 ·rename_i gf u h2 h3
  split at h1
  ·rename_i k hk
   cases h1
   exact ⟨gf,u,h2,h3,rfl,rfl,hk,rfl⟩
  ·cases h1
 ·cases h1
section runs
variable {P:Program} (w:World)
theorem xl {t:TypeId} {u:TypeDesc} (h:P.underlying t=some u):(isAgg t).run P w=.ok (iV u) w:=by
 unfold isAgg
 simp only [Sem.run_bind,run_underlying h,Result.andThen_ok]
 cases u <;> rfl
theorem run_sizeOf {t:TypeId} {i:TypeInfo} (h:P.info? t=some i):(sizeOf t).run P w=.ok i.size w:=by
 simp [sizeOf,typeInfo,h]
theorem gm {t:TypeId} {i:TypeInfo} {z:Value} (h:P.info? t=some i) (hz:i.zero=some z):(zeroValue t).run P w=.ok z w:=by
 simp [zeroValue,typeInfo,h,hz]
theorem tO (t:TypeId) (v:Value):(newVar t v).run P w=.ok ⟨w.heap.size,0,none⟩ (w.alloc (.cells v.cells t)):=by
 simp only [newVar,newRow,Sem.run_bind,run_newObj,Result.andThen_ok,Sem.run_pure]
 rfl
end runs
theorem tP {R:ak} {w:World} {ag:Bool} {l:List AV} {v:AV} {vs:List Value} (hm:rq ag l=some v) (h:aI R w l vs) (h1:∀ x∈vs,x.oneCell'=true) :
  (ag=true→Rel R w v (.agg ⟨vs⟩))∧(ag=false→∃ c,vs=[c]∧Rel R w v c):=by
 unfold rq at hm
 cases ag with
 | true=>
  simp at hm
  subst hm
  exact ⟨fun _=>.agg h h1,fun e=>by cases e⟩
 | false=>
  refine ⟨(fun e=>by cases e),fun _=>?_⟩
  simp only [Bool.false_eq_true,if_false] at hm
  split at hm
  ·cases hm
   cases h with
   | cons h t=>
    cases t
    exact ⟨_,rfl,h⟩
  ·cases hm
theorem mY {E:Env} {R:ak} {w:World} {t:TypeId} {i:TI} (hi:E.ti t=some i) {b off:Nat} {l:List AV} {vs:List Value} {v:AV}
  (hl:l.length=i.size) (hr:aI R w l vs) (h1:∀ x∈vs,x.oneCell'=true) (hc:∀ j x,vs[j]?=some x→w.cell? ⟨b,off+j,none⟩=some x) (hm:rq i.agg l=some v) :
  ∃ c,(loadVar t ⟨b,off,none⟩).run E.P w=.ok c w∧Rel R w v c:=by
 obtain ⟨gf,u,e1,e2,e3,e4,_⟩:=bP E hi
 obtain ⟨m1,m2⟩:=tP hm hr h1
 unfold loadVar
 simp only [Sem.run_bind,xl w e2,Result.andThen_ok,e4]
 cases ha:i.agg with
 | true=>
  refine ⟨.agg ⟨vs⟩,?_,m1 ha⟩
  have hlen:gf.size=vs.length:=by rw [e3,← hl,hr.length]
  have:=run_loadCells_list (P:=E.P) w ⟨b,off,none⟩ vs (fun j x hx=>by rw [cn]; exact hc j x hx)
  simp [run_sizeOf w e1,hlen,this]
 | false=>
  obtain ⟨c,rfl,dF⟩:=m2 ha
  refine ⟨c,?_,dF⟩
  have:=hc 0 c (by simp)
  simp only [Nat.add_zero] at this
  simp [run_load,this]
theorem iH {w:World} {b:Nat} {vs:List Value} {el:TypeId} {fr:Nat × Nat} (h:w.heap[b]?=some (.cells ⟨vs⟩ el fr)) (j:Nat):w.cell? ⟨b,j,none⟩=vs[j]?:=by
 simp [World.cell?,h]
theorem sf {E:Env} {R:ak} {w:World} {β:Nat→Nat} {s:St} {a:Act} (h:aY E R w β s a) {p:SV} {c:Value} (hp:oE R w β p c) {cs:List AV} {off:Nat} (hc:lS s p=some (cs,off)) :
  ∃ b o vs,c=.pointer (some ⟨b,o+off,none⟩)∧aI R w cs vs∧(∀ x∈vs,x.oneCell'=true)∧∀ j x,vs[j]?=some x→w.cell? ⟨b,o+j,none⟩=some x:=by
 unfold lS at hc
 split at hc
 ·rename_i k fH
  split at hc
  ·rename_i eQ hk
   cases hc
   obtain ⟨⟨vs,el,h1,h2,h3⟩,_⟩:=h.b.box k cs hk
   exact ⟨β k,0,vs,by rw [hp]; simp,h2,h3,fun j x hx=>by rw [iH h1]; simpa using hx⟩
  ·cases hc
 ·rename_i id fH
  split at hc
  ·rename_i eQ hk
   cases hc
   cases hp with
   | @ptr _ _ b hb=>
    obtain ⟨vs,h1,h2,h3,_⟩:=h.g.obj id _ _ hk hb
    exact ⟨b,0,vs,by simp,h2,h3,fun j x hx=>by rw [iH h1]; simpa using hx⟩
  ·cases hc
 ·rename_i eQ
  cases hc
  cases hp with
  | ep hr=>
   obtain ⟨vs,h1,h2,h3,_⟩:=hr.get
   exact ⟨_,_,vs,rfl,h1,h2,h3⟩
 ·cases hc
theorem n8 {R:ak} {w:World} {off n:Nat} {cs l:List AV} {vs:List Value} (hs:Dm off n cs=some l) (h:aI R w cs vs) (h1:∀ x∈vs,x.oneCell'=true) :
  l.length=n∧aI R w l ((vs.drop off).take n)∧(∀ x∈(vs.drop off).take n,x.oneCell'=true)∧∀ j x,((vs.drop off).take n)[j]?=some x→vs[off+j]?=some x:=by
 obtain ⟨e1,e2⟩:=Mf hs
 subst e1
 refine ⟨e2,(h.drop off).take n,fun x hx=>h1 x (List.mem_of_mem_drop (List.mem_of_mem_take hx)),fun j x hx=>?_⟩
 rw [List.getElem?_take] at hx
 split at hx
 ·rwa [List.getElem?_drop] at hx
 ·cases hx
def bH (E:Env) (R:ak) (w:World) (β:Nat→Nat) (s:St) (a:Act) (o:Oper) (s':St):Prop:=
 ∃ nx x w' R' β',(execOp a.eval o).run E.P w=.ok nx w'∧(nx=.value x∨(nx=.skip∧x=undef))∧aY E R' w' β' s' (a.put o.dst x)∧Step R w β s.boxes R' w' β' s'.boxes
section ops
variable {E:Env} {R:ak} {w:World} {β:Nat→Nat} {s:St} {a:Act} {o:Oper}
@[simp] theorem aS (s:St) (d:Option Tmp) (x:SV):(s.put d x).boxes=s.boxes:=by
 cases d with
 | none=>rfl
 | some d=>simp only [St.put]; split <;> rfl
theorem ap (h:aY E R w β s a) {c:Value} {sv:SV} (hx:(execOp a.eval o).run E.P w=.ok (.value c) w) (hr:oE R w β sv c):bH E R w β s a o (s.put o.dst sv):=
 ⟨.value c,c,w,R,β,hx,.inl rfl,h.put o.dst hr,by rw [aS]; exact Step.refl R w β s.boxes⟩
theorem BJ {t:Bool} {x y:AV} {c d:Value} (hx:Rel R w x c) (hy:Rel R w y d):Rel R w (yj t x y) (if t=true then c else d):=by
 unfold yj
 split
 ·cases hx; cases hy; cases t <;> exact .bool _
 ·cases hx; cases hy
  split
  ·rename_i e; subst e; cases t <;> exact .int _ _
  ·cases t <;> exact .int _ _
 ·cases t
  ·exact hy
  ·exact hx
theorem jH (h:aY E R w β s a) (x:Operand) (ho:o.op=.move x∨o.op=.assign x) {y:SV} (hy:bi E s.ae x=y):bH E R w β s a o (s.put o.dst y):=by
 subst hy
 refine ap h (c:=a.eval x) ?_ (aN h x)
 rcases ho with ho | ho <;> simp [execOp,ho]
theorem EF (h:aY E R w β s a) (c x y:Operand) (ho:o.op=.pick c x y) {t:Bool} {p q:AV} (h1:bi E s.ae c=.v (.bool t)) (h2:bi E s.ae x=.v p) (h3:bi E s.ae y=.v q) :
  bH E R w β s a o (s.put o.dst (.v (yj t p q))):=by
 have r1:=aN h c
 have r2:=aN h x
 have r3:=aN h y
 rw [h1] at r1; rw [h2] at r2; rw [h3] at r3
 refine ap h (c:=if t=true then a.eval x else a.eval y) ?_ (BJ r2 r3)
 have Wg:Rel R w (.bool t) (a.eval c):=r1
 generalize Mg:a.eval c=cc at Wg
 cases Wg
 simp [execOp,ho,asBool,Mg]
theorem EG (h:aY E R w β s a) (t:TypeId) (x:Operand) (ho:o.op=.load t x) {v:AV} (hl:pQ E s t (bi E s.ae x)=some v) :
  bH E R w β s a o (s.put o.dst (.v v)):=by
 unfold pQ at hl
 split at hl
 ·rename_i i cs off hi hc
  split at hl
  ·rename_i l hs
   obtain ⟨b,o',vs,e,h1,h2,h3⟩:=sf h (aN h x) hc
   obtain ⟨k1,k2,k3,k4⟩:=n8 hs h1 h2
   obtain ⟨c,hc,dF⟩:=mY (E:=E) hi (b:=b) (off:=o'+off) k1 k2 k3 (fun j y hy=>by rw [Nat.add_assoc]; exact h3 _ _ (k4 j y hy)) hl
   refine ap h (c:=c) ?_ dF
   simp [execOp,ho,Instr.loadAt,e,Instr.sureAddr,hc]
  ·cases hl
 ·cases hl
theorem jT {b:Nat} (hI:∀ o,¬ R.I b o) (cs:Array Value):Ext R w R (w.setRow b cs):=
 ⟨fun _ _ h=>h,fun b' o h=>b8 (setRow_other w b b' cs (fun e=>hI o (e ▸ h))) o,fun _ ro h=>⟨ro,h,cp.refl ro⟩,fun b' r hb=>⟨r,by
  by_cases e:b'=b
  ·subst e
   have bT:b' < w.heap.size:=a8 hb
   have hv:w.heap[b']=.loop r:=(Array.getElem?_eq_some_iff.1 hb).2
   unfold World.setRow
   rw [Array.getElem?_eq_getElem (by simpa using bT),Array.getElem_modify]
   simp [hv]
  ·exact (setRow_other w b b' cs e).trans hb,rfl,rfl,rfl,rfl,rfl⟩⟩
theorem aI.bR {cs ys:List AV} {vs us:List Value} {off:Nat} (h:aI R w cs vs) (k:aI R w ys us) (hl:off+ys.length≤cs.length) :
  aI R w (bR cs off ys) (vs.take off++us++vs.drop (off+us.length)):=by
 rw [eB cs off ys hl,← k.length]
 exact ((h.take off).append k).append (h.drop _)
theorem ib {vs us:List Value} {off n:Nat} (h:∀ x∈vs,x.oneCell'=true) (k:∀ x∈us,x.oneCell'=true):∀ x∈vs.take off++us++vs.drop n,x.oneCell'=true:=by
 intro x hx
 simp only [List.mem_append] at hx
 rcases hx with (hx | hx) | hx
 ·exact h x (List.mem_of_mem_take hx)
 ·exact k x hx
 ·exact h x (List.mem_of_mem_drop hx)
theorem jv {t:TypeId} {i:TI} (hi:E.ti t=some i) {b off:Nat} {vs:List Value} {el:TypeId} {c:Value} (hb:w.heap[b]?=some (.cells ⟨vs⟩ el (0,0)))
  (hs:c.cells.toList.length=i.size) (hl:off+c.cells.toList.length≤vs.length) (h1:∀ v∈c.cells.toList,v.oneCell'=true) :
  (storeVar t ⟨b,off,none⟩ c).run E.P w=.ok () (w.setRow b ⟨vs.take off++c.cells.toList++vs.drop (off+c.cells.toList.length)⟩):=by
 obtain ⟨gf,u,e1,e2,e3,_⟩:=bP E hi
 have jI:=run_storeCells_at (P:=E.P) b off el c.cells.toList 0 ⟨vs⟩ w hb (by simpa using hl) h1
 have cM:c.cells.size=gf.size:=by rw [e3,← hs]; simp
 simp only [Nat.add_zero] at jI
 unfold storeVar
 simp only [Sem.run_bind,run_sizeOf w e1,Result.andThen_ok,Sem.run_ite,cM,ne_eq,not_true_eq_false,if_false]
 simpa using jI
theorem aY.BK (h:aY E R w β s a) {id b k:Nat} {cs:List AV} (hb:nth R.obj id=some (.bB b)) (hk:dy s.boxes k=some cs):β k≠b:=by
 intro e
 exact (h.b.box k cs hk).2.2 ⟨id,_,hb,by rw [e]; rfl⟩
theorem BL (h:aY E R w β s a) (t:TypeId) (p x:Operand) (ho:o.op=.store t p x) (hd:o.dst=none) {s':St} (hs:iW E s t (bi E s.ae p) (bi E s.ae x)=some s') :
  bH E R w β s a o s':=by
 unfold iW at hs
 have rp:=aN h p
 have rx:=aN h x
 split at hs
 ·rename_i i v hi hx
  rw [hx] at rx
  split at hs
  ·rename_i fq
   simp only [Bool.and_eq_true] at fq
   obtain ⟨ID,hlen⟩:=fq
   have hlen:=Nat.eq_of_beq_eq_true hlen
   obtain ⟨c1,c2⟩:=Rel.cells rx ID
   have zC:v.cells.length=(a.eval x).cells.toList.length:=c1.length
   split at hs
   ·-- a local box
    rename_i k off QB
    rw [QB] at rp
    split at hs
    ·rename_i cs hk
     split at hs
     ·rename_i hle
      cases hs
      have hle:=Nat.le_of_ble_eq_true hle
      obtain ⟨⟨vs,el,b1,b2,b3⟩,b4,b5⟩:=h.b.box k cs hk
      have bj:=jv (E:=E) (w:=w) hi (off:=off) (c:=a.eval x) b1 (by rw [← zC]; exact hlen) (by rw [← zC,← b2.length]; exact hle) c2
      have hex:=jT (R:=R) (w:=w) b4 ⟨vs.take off++(a.eval x).cells.toList++vs.drop (off+(a.eval x).cells.toList.length)⟩
      refine ⟨.skip,undef,w.setRow (β k) ⟨vs.take off++(a.eval x).cells.toList++vs.drop (off+(a.eval x).cells.toList.length)⟩,R,β,?_,.inr ⟨rfl,rfl⟩,?_,?_⟩
      ·simp [execOp,ho,Instr.storeAt,show a.eval p=.pointer (some ⟨β k,off,none⟩) from rp,Instr.sureAddr,bj]
      ·rw [hd]
       refine ⟨?_,?_,h.t.mono hex,h.n,h.d⟩
       ·exact h.g.aZ hex rfl (fun b hb=>setRow_other w _ b _ (fun e=>b5 (e ▸ hb))) (fun _ _ _ hi=>hi) (fun b o hi=>by have:=h.g.wf b o hi; simp; omega)
       ·refine ⟨fun k' eQ ja=>?_,fun k1 k2 x1 x2 g1 g2=>?_⟩
        ·rcases eA ja with ⟨rfl,e⟩ | ⟨cM,QC⟩
         ·cases e
          exact ⟨⟨_,el,setRow_heap w _ _ _ el (0,0) b1,(b2.bR c1 hle).mono hex,ib b3 c2⟩,b4,b5⟩
         ·obtain ⟨⟨vs',SU,d1,d2,d3⟩,d4,d5⟩:=h.b.box k' eQ QC
          refine ⟨⟨vs',SU,?_,d2.mono hex,d3⟩,d4,d5⟩
          rw [setRow_other]
          ·exact d1
          ·exact fun e=>cM (h.b.inj k' k eQ cs QC hk e).symm
        ·have q1:∃ y,dy s.boxes k1=some y:=by
          rcases eA g1 with ⟨rfl,_⟩ | ⟨_,g⟩
          ·exact ⟨_,hk⟩
          ·exact ⟨_,g⟩
         have q2:∃ y,dy s.boxes k2=some y:=by
          rcases eA g2 with ⟨rfl,_⟩ | ⟨_,g⟩
          ·exact ⟨_,hk⟩
          ·exact ⟨_,g⟩
         obtain ⟨y1,q1⟩:=q1
         obtain ⟨y2,q2⟩:=q2
         exact h.b.inj k1 k2 y1 y2 q1 q2
      ·have yp:Own R β s.boxes (β k):=.inr ⟨k,cs,hk,rfl⟩
       refine ⟨hex,rfl,rfl,rfl,by simp,fun b _ hn=>setRow_other w _ b _ (fun e=>hn (e ▸ yp)),fun b _ hb=>?_,fun b o hi _ _=>hi⟩
       rcases hb with hb | ⟨k',eQ,ja,e⟩
       ·exact .inl hb
       ·rcases eA ja with ⟨rfl,_⟩ | ⟨_,g⟩
        ·exact .inr ⟨k,cs,hk,e⟩
        ·exact .inr ⟨k',eQ,g,e⟩
     ·cases hs
    ·cases hs
   ·-- an object
    rename_i id off QB
    rw [QB] at rp
    split at hs
    ·rename_i cs hk
     split at hs
     ·rename_i hle
      cases hs
      have hle:=Nat.le_of_ble_eq_true hle
      have QD:Rel R w (.ptr id off) (a.eval p):=rp
      generalize QE:a.eval p=pv at QD
      cases QD with
      | @ptr _ _ b hb=>
      obtain ⟨vs,b1,b2,b3,b4⟩:=h.g.obj id _ _ hk hb
      have bj:=jv (E:=E) (w:=w) hi (off:=off) (c:=a.eval x) b1 (by rw [← zC]; exact hlen) (by rw [← zC,← b2.length]; exact hle) c2
      have hex:=jT (R:=R) (w:=w) b4 ⟨vs.take off++(a.eval x).cells.toList++vs.drop (off+(a.eval x).cells.toList.length)⟩
      refine ⟨.skip,undef,w.setRow b ⟨vs.take off++(a.eval x).cells.toList++vs.drop (off+(a.eval x).cells.toList.length)⟩,R,β,?_,.inr ⟨rfl,rfl⟩,?_,?_⟩
      ·simp [execOp,ho,Instr.storeAt,QE,Instr.sureAddr,bj]
      ·rw [hd]
       refine ⟨⟨?_,fun iS go ro hg hr=>?_,h.g.inj,fun b' o' oI=>by have:=h.g.wf b' o' oI; simp; omega,fun g eQ hg=>(h.g.dK g eQ hg).mono hex,by first | exact h.g.lo | exact Nat.le_succ_of_le h.g.lo⟩,?_,h.t.mono hex,h.n,h.d⟩
       ·simp [St.bO,h.g.len]
       ·rcases cY hg with ⟨rfl,rfl,_⟩ | ⟨cM,zD⟩
        ·rw [hb] at hr
         cases hr
         exact ⟨_,setRow_heap w _ _ _ _ (0,0) b1,(b2.bR c1 hle).mono hex,ib b3 c2,b4⟩
        ·refine (h.g.obj iS go ro zD hr).mono hex (fun b' li=>setRow_other w _ b' _ (fun e=>cM ?_)) (fun _ _ _ hi=>hi)
         subst e
         exact h.g.inj id iS _ _ b' hb hr rfl li
       ·exact h.b.aZ hex (fun k eQ ja=>setRow_other w _ _ _ (h.BK hb ja)) (fun _ _ _ _ hi=>hi) (fun _ _ _ hl=>hl)
      ·have yp:Own R β s.boxes b:=.inl ⟨id,_,hb,rfl⟩
       exact ⟨hex,rfl,rfl,rfl,by simp,fun b' _ hn=>setRow_other w _ b' _ (fun e=>hn (e ▸ yp)),fun _ _ hb=>hb,fun b o hi _ _=>hi⟩
     ·cases hs
    ·cases hs
   ·cases hs
  ·cases hs
 ·cases hs
end ops
end Go.Am
namespace Go.Am
open Go
section ops
variable {E:Env} {R:ak} {w:World} {β:Nat→Nat} {s:St} {a:Act} {o:Oper}
def ak.add (R:ak) (ro:RO):ak:=⟨R.I,R.obj++[ro]⟩
theorem fW (wf:∀ b o,R.I b o→b < w.heap.size) (x:Obj) (ro:RO):Ext R w (R.add ro) (w.alloc x):=
 ⟨fun _ _ h=>h,fun b o h=>b8 (heap_alloc_old w x b (wf b o h)) o,fun _ r h=>⟨r,cZ h,cp.refl r⟩,.old fun b hb=>heap_alloc_old w x b hb⟩
theorem lq {ro:RO} {b:Nat} (h:Live (R.add ro) b):Live R b∨ro.has b:=by
 obtain ⟨id,r,h1,h2⟩:=h
 rcases av h1 with h1 | ⟨_,rfl⟩
 ·exact .inl ⟨id,r,h1,h2⟩
 ·exact .inr h2
theorem aY.jU (h:aY E R w β s a) (x:Obj) (go:GO) (ro:RO) (bI:∀ b,ro.has b→b=w.heap.size) (gS:gd (R.add ro) (w.alloc x) go ro):aY E (R.add ro) (w.alloc x) β (s.dH go) a where
 g:=by
  have e:=fW (R:=R) (w:=w) h.g.wf x ro
  refine ⟨by simp [St.dH,ak.add,h.g.len],fun id g r h1 h2=>?_,fun i j ri rj b h1 h2 b1 b2=>?_,fun b o hi=>?_,fun g cs hg=>(h.g.dK g cs hg).mono e,by first | exact h.g.lo | exact Nat.le_succ_of_le h.g.lo⟩
  ·rcases av h2 with h2 | ⟨h3,rfl⟩
   ·have bT:=bz h2
    rw [h.g.len] at bT
    rcases av h1 with h1 | ⟨h4,_⟩
    ·exact (h.g.obj id g r h1 h2).mono e (fun b hb=>heap_alloc_old w x b (h.g.cj ⟨id,r,h2,hb⟩)) (fun _ _ _ hi=>hi)
    ·omega
   ·rcases av h1 with h1 | ⟨h4,rfl⟩
    ·have:=bz h1
     rw [h3,h.g.len] at this
     omega
    ·exact gS
  ·rcases av h1 with g1 | ⟨h3,e1⟩
   ·rcases av h2 with g2 | ⟨h4,e2⟩
    ·exact h.g.inj i j ri rj b g1 g2 b1 b2
    ·have:=h.g.cj ⟨i,ri,g1,b1⟩
     rw [e2] at b2
     have:=bI b b2
     omega
   ·rcases av h2 with g2 | ⟨h4,e2⟩
    ·have:=h.g.cj ⟨j,rj,g2,b2⟩
     rw [e1] at b1
     have:=bI b b1
     omega
    ·omega
  ·have:=h.g.wf b o hi
   simp
   omega
 b:=h.b.aZ (fW h.g.wf x ro) (fun k cs hk=>heap_alloc_old w x _ (h.dS (.inr ⟨k,cs,hk,rfl⟩))) (fun _ _ _ _ hi=>hi) (fun k cs hk hl=>by
  rcases lq hl with hl | hl
  ·exact hl
  ·have:=h.dS (.inr ⟨k,cs,hk,rfl⟩)
   have hl:=bI _ hl
   omega)
 t:=h.t.mono (fW h.g.wf x ro)
 n:=h.n
 d:=h.d.mono (fW h.g.wf x ro)
theorem cB (h:aY E R w β s a) (x:Obj) (ro:RO) (bI:∀ b,ro.has b→b=w.heap.size):Step R w β s.boxes (R.add ro) (w.alloc x) β s.boxes:=
 ⟨fW h.g.wf x ro,rfl,rfl,rfl,by simp,fun b hb _=>heap_alloc_old w x b hb,fun b hb ho=>by
  rcases ho with ho | ho
  ·rcases lq ho with ho | ho
   ·exact .inl ho
   ·have ho:=bI _ ho
    omega
  ·exact .inr ho,fun _ _ hi _ _=>hi⟩
theorem ft (h:aY E R w β s a) (ro:RO):nth (R.add ro).obj s.G.length=some ro:=by
 rw [← h.g.len]
 exact ey _ _
theorem zO {f:FuncId} (h:aY E R w β s a) {v:AV} {c:Value} {t:TypeId} (hv:Rel R w v c) (hn:v.aP=true)
  (hx:(execOp a.eval o).run E.P w=.ok (.value (.pointer (some ⟨w.heap.size,0,none⟩))) (w.alloc (.cells c.cells t))) {s':St} (ha:eR E f s o.dst t v.cells=some (true,s')) :
  bH E R w β s a o s':=by
 obtain ⟨c1,c2⟩:=Rel.cells hv hn
 unfold eR at ha
 split at ha
 ·cases ha
 ·rename_i d hd
  split at ha
  ·-- an object
   cases ha
   have gS:gd (R.add (.bB w.heap.size)) (w.alloc (.cells c.cells t)) (.row v.cells t) (.bB w.heap.size):=
    ⟨c.cells.toList,heap_alloc_new w _,c1.mono (fW h.g.wf _ _),c2,fun o' hi=>by have:=h.g.wf _ _ hi; omega⟩
   have cT:=h.jU (.cells c.cells t) (.row v.cells t) (.bB w.heap.size) (by exact fun _ h=>h) gS
   refine ⟨_,.pointer (some ⟨w.heap.size,0,none⟩),_,R.add (.bB w.heap.size),β,hx,.inl rfl,?_,?_⟩
   ·rw [hd]
    exact cT.put (some d) (x:=.v (.ptr s.G.length 0)) (Rel.ptr (ft h _))
   ·rw [aS]
    exact cB h _ _ (by exact fun _ h=>h)
  ·split at ha
   ·rename_i SW
    injection ha with ha
    injection ha with _ I4
    subst I4
    have e:=xj (R:=R) (w:=w) h.g.wf (.cells c.cells t)
    let β':Nat→Nat:=fun k=>if k=d then w.heap.size else β k
    have Ds:β' d=w.heap.size:=by simp [β']
    have cM:∀ k,k≠d→β' k=β k:=fun k hk=>by simp [β',hk]
    have XW:d < a.tmps.size:=by rw [h.n]; exact Nat.le_of_ble_eq_true SW
    have BM:((s.kill d).sM d v.cells).put (some d) (.lp d 0)=⟨.put d (.lp d 0) :: .kill d :: s.ae,(d,v.cells) :: s.boxes,s.G,s.marks,s.ro,s.n⟩:=by
     simp only [St.put,St.sM,St.kill,SW]
    refine ⟨_,.pointer (some ⟨w.heap.size,0,none⟩),_,R,β',hx,.inl rfl,?_,?_⟩
    ·rw [hd,BM]
     refine ⟨?_,⟨fun k cs hk=>?_,fun k k' cs eQ hk ja he=>?_⟩,?_,by simp [Act.put,h.n],h.d⟩
     ·exact h.g.aZ e rfl (fun b hb=>heap_alloc_old w _ b (h.g.cj hb)) (fun _ _ _ hi=>hi) (fun b o hi=>by have:=h.g.wf b o hi; simp; omega)
     ·rcases eA hk with ⟨rfl,he⟩ | ⟨IE,hk⟩
      ·cases he
       rw [Ds]
       exact ⟨⟨c.cells.toList,t,heap_alloc_new w _,c1.mono e,c2⟩,fun o' hi=>by have:=h.g.wf _ _ hi; omega,fun hl=>by have:=h.g.cj hl; omega⟩
      ·rw [cM k (Ne.symm IE)]
       obtain ⟨⟨vs,el,b1,b2,b3⟩,b4,b5⟩:=h.b.box k cs hk
       exact ⟨⟨vs,el,(heap_alloc_old w _ _ (a8 b1)).trans b1,b2.mono e,b3⟩,b4,b5⟩
     ·rcases eA hk with ⟨rfl,_⟩ | ⟨IE,hk⟩
      ·rcases eA ja with ⟨rfl,_⟩ | ⟨Mh,ja⟩
       ·rfl
       ·rw [Ds,cM k' (Ne.symm Mh)] at he
        have:=h.dS (.inr ⟨k',eQ,ja,rfl⟩)
        omega
      ·rcases eA ja with ⟨rfl,_⟩ | ⟨Mh,ja⟩
       ·rw [Ds,cM k (Ne.symm IE)] at he
        have:=h.dS (.inr ⟨k,cs,hk,rfl⟩)
        omega
       ·rw [cM k (Ne.symm IE),cM k' (Ne.symm Mh)] at he
        exact h.b.inj k k' cs eQ hk ja he
     ·intro i hi
      by_cases TM:d=i
      ·subst TM
       rw [ay]
       refine ⟨.pointer (some ⟨w.heap.size,0,none⟩),by simp [Act.put,XW],?_⟩
       show Value.pointer _=_
       rw [Ds]
      ·rw [aL TM] at hi ⊢
       rcases Dq (l:=s.ae) (d:=d) (t:=i) with ⟨h1,h2⟩ | h1
       ·rw [h1] at hi ⊢
        obtain ⟨c',q1,q2⟩:=h.t i hi
        refine ⟨c',?_,?_⟩
        ·simp only [Act.put]
         rw [Array.getElem?_setIfInBounds_ne TM]
         exact q1
        ·cases sO:lk s.ae i with
         | none=>trivial
         | v y=>rw [sO] at q2; exact Rel.mono e q2
         | lp k off=>
          rw [sO] at q2
          show c'=_
          rw [cM k (h2 k off sO)]
          exact q2
       ·exact absurd h1 hi
    ·rw [BM]
     refine ⟨e,rfl,rfl,rfl,by simp,fun b hb _=>heap_alloc_old w _ b hb,fun b hb ho=>?_,fun _ _ hi _ _=>hi⟩
     rcases ho with ho | ⟨k,cs,hk,he⟩
     ·exact .inl ho
     ·rcases eA hk with ⟨rfl,_⟩ | ⟨IE,hk⟩
      ·rw [Ds] at he
       omega
      ·rw [cM k (Ne.symm IE)] at he
       exact .inr ⟨k,cs,hk,he⟩
   ·cases ha
theorem cU {i:TypeInfo} {z:AV} (h:fU i=some z):∃ c,i.zero=some c∧∀ R w,Rel R w z c:=by
 unfold fU at h
 split at h
 ·rename_i c hc
  exact ⟨c,hc,fun R w=>se h⟩
 ·cases h
theorem BN {f:FuncId} (h:aY E R w β s a) (t:TypeId) (ho:o.op=.alloc t) {i:TI} {z:AV} (hi:E.ti t=some i) (hz:i.zero=some z) (hn:z.aP=true) {s':St} (ha:eR E f s o.dst t z.cells=some (true,s')) :
  bH E R w β s a o s':=by
 obtain ⟨gf,u,e1,e2,e3,e4,e5,e6⟩:=bP E hi
 rw [hz] at e6
 obtain ⟨c,hc,hr⟩:=cU e6
 refine zO h (hr R w) hn (t:=t) ?_ ha
 simp [execOp,ho,Instr.alloc,gm w e1 hc,tO]
theorem Gb {f:FuncId} (h:aY E R w β s a) (t:TypeId) (x:Operand) (ho:o.op=.box t x) {v:AV} (hv:bi E s.ae x=.v v) (hn:v.aP=true) {s':St} (ha:eR E f s o.dst t v.cells=some (true,s')) :
  bH E R w β s a o s':=by
 have hr:=aN h x
 rw [hv] at hr
 refine zO h hr hn (t:=t) ?_ ha
 simp [execOp,ho,Instr.box,tO]
end ops
end Go.Am
namespace Go.Am
open Go
section types
variable {P:Program}
theorem me:∀ {fs:List Field} {l:List (Nat × Nat × Bool)},fieldsOf P fs=some l→∀ {j o sz:Nat} {ag:Bool},nth l j=some (o,sz,ag) →
  ∃ f fi u,fs[j]?=some f∧f.offset=o∧P.info? f.type=some fi∧fi.size=sz∧P.underlying f.type=some u∧iV u=ag
 | [],l,h,j,o,sz,ag,hn=>by simp [fieldsOf] at h; subst h; simp [nth] at hn
 | f :: fs,l,h,j,o,sz,ag,hn=>by
  unfold fieldsOf at h
  split at h
  ·rename_i i u r h1 h2 h3
   cases h
   cases j with
   | zero=>simp [nth] at hn; obtain ⟨e1,e2,e3⟩:=hn; exact ⟨f,i,u,by simp,e1,h1,e2,h2,e3⟩
   | succ j=>
    obtain ⟨f',fi,u',g1,g2⟩:=me h3 (show nth r j=some (o,sz,ag) from hn)
    exact ⟨f',fi,u',by simpa using g1,g2⟩
  ·cases h
theorem mJ:∀ {fs:List Field} {l:List (Nat × Nat × Bool)},fieldsOf P fs=some l→fs.mapM (fun f=>(P.info? f.type).map fun i=>(f.offset,i.size))=some (l.map fun x=>(x.1,x.2.1))
 | [],l,h=>by simp [fieldsOf] at h; subst h; simp
 | f :: fs,l,h=>by
  unfold fieldsOf at h
  split at h
  ·rename_i i u r h1 h2 h3
   cases h
   simp [List.mapM_cons,h1,mJ h3]
  ·cases h
theorem Dt {u:TypeDesc} {l:List (Nat × Nat × Bool)} (h:oC P u=some (.st l)):∃ fs,u=.struct fs∧fieldsOf P fs.toList=some l:=by
 cases u <;> simp only [oC] at h <;> try (cases h; done)
 all_goals (try (split at h <;> cases h; done))
 rename_i fs
 split at h
 ·rename_i l' hl
  cases h
  exact ⟨fs,rfl,hl⟩
 ·cases h
theorem mZ {u:TypeDesc} {n esz:Nat} {ag:Bool} (h:oC P u=some (.arr n esz ag)):∃ e i ue,u=.array n e∧P.info? e=some i∧i.size=esz∧P.underlying e=some ue∧iV ue=ag:=by
 cases u <;> simp only [oC] at h <;> try (cases h; done)
 all_goals (try (split at h <;> cases h; done))
 rename_i m e
 split at h
 ·rename_i i ue h1 h2
  cases h
  exact ⟨e,i,ue,rfl,h1,rfl,h2,rfl⟩
 ·cases h
theorem dm {u:TypeDesc} {e esz na:Nat} {ag:Bool} {z:Option AV} (h:oC P u=some (.sl e esz ag na z)) :
  ∃ i ue,u=.slice e∧P.info? e=some i∧i.size=esz∧i.bytes=na∧P.underlying e=some ue∧iV ue=ag∧fU i=z:=by
 cases u <;> simp only [oC] at h <;> try (cases h; done)
 all_goals (try (split at h <;> cases h; done))
 rename_i e'
 split at h
 ·rename_i i ue h1 h2
  injection h with h
  injection h with g1 g2 g3 g4 g5
  subst g1; subst g2; subst g3; subst g4; subst g5
  exact ⟨i,ue,rfl,h1,rfl,rfl,h2,rfl,rfl⟩
 ·cases h
theorem jV {u:TypeDesc} (h:oC P u=some .str):u=.string:=by
 cases u <;> simp only [oC] at h <;> try (cases h; done)
 all_goals (try (split at h <;> cases h; done))
 rfl
theorem pZ {u:TypeDesc} {k:IntKind} (h:oC P u=some (.int k)):u=.int k:=by
 cases u <;> simp only [oC] at h <;> try (cases h; done)
 all_goals (try (split at h <;> cases h; done))
 cases h
 rfl
theorem lr {u:TypeDesc} {k e:TypeId} {z:Option AV} (h:oC P u=some (.map k e z)):u=.map k e∧∃ i,P.info? e=some i∧fU i=z:=by
 cases u <;> simp only [oC] at h <;> try (cases h; done)
 all_goals (try (split at h <;> cases h; done))
 split at h
 ·rename_i i h1
  cases h
  exact ⟨rfl,i,h1,rfl⟩
 ·cases h
end types
section ops
variable {E:Env} {R:ak} {w:World} {β:Nat→Nat} {s:St} {a:Act} {o:Oper}
theorem xm {p q:SV} {c:Value} {n:Nat} (hp:oE R w β p c) (hm:xd n p=some q) :
  ∃ b o,c=.pointer (some ⟨b,o,none⟩)∧oE R w β q (.pointer (some ⟨b,o+n,none⟩)):=by
 unfold xd at hm
 split at hm
 ·cases hm
  exact ⟨_,_,hp,rfl⟩
 ·cases hm
  cases hp with
  | @ptr _ _ b hb=>exact ⟨b,_,rfl,Rel.ptr hb⟩
 ·cases hm
  cases hp with
  | @ep _ b o hr=>
   refine ⟨b,o,rfl,Rel.ep ?_⟩
   rw [tN]
   exact hr.drop n
 ·cases hm
  cases hp with
  | @gp _ _ _ _ _ b o _ ro hr eY=>
   refine ⟨b,o,rfl,Rel.gp hr ?_⟩
   cases ro with
   | none=>trivial
   | bn=>exact eY.elim
   | bB _=>exact eY.elim
   | aX _=>exact eY.elim
   | tok f1 b1 c1=>exact ⟨eY.1,fun e=>⟨(eY.2 e).1,by rw [(eY.2 e).2,Nat.add_assoc]⟩⟩
 ·cases hm
theorem tQ (h:aY E R w β s a) (t:TypeId) (x:Operand) (j:Nat) (ho:o.op=.fieldAddr t x j) {q:SV} (hq:jS E t (bi E s.ae x) j=some q) :
  bH E R w β s a o (s.put o.dst q):=by
 unfold jS at hq
 split at hq
 ·rename_i i hi
  split at hq
  ·rename_i fs hk
   split at hq
   ·rename_i off sz ag hn
    split at hq
    ·rename_i eC
     have eC:=Nat.le_of_ble_eq_true eC
     obtain ⟨gf,u,e1,e2,e3,e4,e5,e6⟩:=bP E hi
     rw [hk] at e5
     obtain ⟨fl,rfl,hf⟩:=Dt e5
     obtain ⟨f,fi,u',g1,g2,g3,g4,g5,g6⟩:=me hf hn
     obtain ⟨b,o',m1,m2⟩:=xm (aN h x) hq
     refine ap h ?_ m2
     have TN:fl[j]?=some f:=by simpa using g1
     have cM:¬ fi.size=0:=by omega
     simp [execOp,ho,Instr.fieldAt,run_underlying e2,TN,m1,Instr.sureAddr,fieldPlace,run_sizeOf w g3,cM,cn,g2]
    ·cases hq
   ·cases hq
  ·cases hq
 ·cases hq
theorem zP {b o sz:Nat} {es:List AV} (h:gl R w b o sz es) {n:Nat} {e:AV} (hn:nth es n=some e):ew R w b (o+n * sz) e.cells∧e.cells.length=sz∧e.aP=true:=by
 induction es generalizing o n with
 | nil=>simp [nth] at hn
 | cons x l ih=>
  cases h with
  | cons hl ht _ h t=>
   cases n with
   | zero=>simp [nth] at hn; subst hn; exact ⟨by simpa using h,hl,ht⟩
   | succ n=>
    have:=ih t (show nth l n=some e from hn)
    rw [show o+sz+n * sz=o+(n+1) * sz by rw [Nat.add_mul]; omega] at this
    exact this
theorem tR (h:aY E R w β s a) (t:TypeId) (x ix:Operand) (ho:o.op=.indexAddr t x ix) {q:SV} (hq:jR E t (bi E s.ae x) (bi E s.ae ix)=some (true,q)) :
  bH E R w β s a o (s.put o.dst q):=by
 have rx:=aN h x
 have ri:=aN h ix
 unfold jR at hq
 split at hq
 ·rename_i i k n hi QF
  rw [QF] at ri
  have KX:Rel R w (.int k n) (a.eval ix):=ri
  generalize IF:a.eval ix=iv at KX
  cases KX
  obtain ⟨gf,u,e1,e2,e3,e4,e5,e6⟩:=bP E hi
  split at hq
  ·-- a list
   rename_i elem esz ag na z kk sz es hk hx
   rw [hx] at rx
   rw [hk] at e5
   obtain ⟨ie,ue,rfl,f1,f2,f3,f4,f5,f6⟩:=dm e5
   split at hq
   ·rename_i hc
    have key:∀ (u:AV),(0≤n∧n < (es.length:Int))→cu (ai es n.toNat).cells u.cells→bH E R w β s a o (s.put o.dst (.v (.ep u.cells))):=fun u tS hu=>by
     obtain ⟨yq,FQ⟩:=tS
     have dA:Rel R w (.list kk sz es) (a.eval x):=rx
     generalize e8:a.eval x=xv at dA
     cases dA with
     | iF=>simp at FQ; omega
     | ia=>simp at FQ; omega
     | lY=>simp at FQ; omega
     | lZ=>simp at FQ; omega
     | kV=>simp at FQ; omega
     | @list _ _ _ b o' len cap hr hl ic Gc=>
      subst hl
      have bT:n.toNat < es.length:=by omega
      obtain ⟨e,he⟩:∃ e,nth es n.toNat=some e:=⟨es[n.toNat],by rw [aU]; exact List.getElem?_eq_getElem bT⟩
      have eC:sz=esz:=by
       simp only [Bool.or_eq_true] at hc
       rcases hc with hc | hc
       ·exact Nat.eq_of_beq_eq_true hc
       ·cases es with
        | nil=>simp at bT
        | cons _ _=>simp at hc
      obtain ⟨g1,_,_⟩:=zP hr he
      refine ap h (c:=.pointer (some ⟨b,o'+n.toNat * sz,none⟩)) ?_ ?_
      ·have fq:0≤n∧n < (es.length:Int):=⟨yq,FQ⟩
       simp [execOp,ho,Instr.indexAt,IF,e8,asIntOf,run_underlying e2,fq,run_sizeOf w f1,f2,eC,cn]
      ·have:ai es n.toNat=e:=by simp [ai,he]
       rw [this] at hu
       exact .ep (hu.F8 g1)
    split at hq
    ·rename_i p hp
     injection hq with hq
     injection hq with tS nf
     subst nf
     rw [Bool.and_eq_true] at tS
     have fq:=of_decide_eq_true tS.1
     have hd:=p.cG tS.2
     have bT:n.toNat < es.length:=by omega
     refine key _ fq (hd.cells ?_)
     obtain ⟨e,he⟩:∃ e,nth es n.toNat=some e:=⟨es[n.toNat],by rw [aU]; exact List.getElem?_eq_getElem bT⟩
     have:ai es n.toNat=e:=by simp [ai,he]
     rw [this]
     have dA:Rel R w (.list kk sz es) (a.eval x):=rx
     generalize a.eval x=xv at dA
     cases dA with
     | iF=>simp at bT
     | ia=>simp at bT
     | lY=>simp at bT
     | lZ=>simp at bT
     | kV=>simp at bT
     | list hr _ _ _=>exact (zP hr he).2.2
    ·injection hq with hq
     injection hq with tS nf
     subst nf
     exact key _ (of_decide_eq_true tS) (cu.refl _)
   ·cases hq
  ·-- a heap slice
   rename_i elem esz ag na z id off sz len cap hk hx
   rw [hx] at rx
   rw [hk] at e5
   obtain ⟨ie,ue,rfl,f1,f2,f3,f4,f5,f6⟩:=dm e5
   split at hq
   ·rename_i hc
    have eC:=Nat.eq_of_beq_eq_true hc
    injection hq with hq
    injection hq with tS nf
    subst nf
    have fq:=of_decide_eq_true tS
    have dA:Rel R w (.iR id off sz len cap) (a.eval x):=rx
    generalize e8:a.eval x=xv at dA
    cases dA with
    | @iR _ _ _ _ _ b hb _=>
     refine ap h (c:=.pointer (some ⟨b,off+n.toNat * sz,none⟩)) ?_ (Rel.ptr hb)
     simp [execOp,ho,Instr.indexAt,IF,e8,asIntOf,run_underlying e2,fq,run_sizeOf w f1,f2,eC,cn]
   ·cases hq
  ·-- a slice that grows
   rename_i elem esz ag na z id f' off sz len hk hx
   rw [hx] at rx
   rw [hk] at e5
   obtain ⟨ie,ue,rfl,f1,f2,f3,f4,f5,f6⟩:=dm e5
   split at hq
   ·rename_i hc
    have eC:=Nat.eq_of_beq_eq_true hc
    injection hq with hq
    injection hq with tS nf
    subst nf
    have fq:=of_decide_eq_true tS
    have dA:Rel R w (.dT id f' off sz len) (a.eval x):=rx
    generalize e8:a.eval x=xv at dA
    cases dA with
    | iY _ _=>omega
    | @dT _ _ _ _ _ cap b o' ro bI eY ic=>
     refine ap h (c:=.pointer (some ⟨b,o'+n.toNat * sz,none⟩)) ?_ (Rel.gp bI ?_)
     ·simp [execOp,ho,Instr.indexAt,IF,e8,asIntOf,run_underlying e2,fq,run_sizeOf w f1,f2,eC,cn]
     ·cases ro with
      | none=>trivial
      | bn=>exact eY.elim
      | bB _=>exact eY.elim
      | aX _=>exact eY.elim
      | tok f1 b1 c1=>
       refine ⟨eY.1,fun e=>?_⟩
       obtain ⟨k1,k2,k3⟩:=eY.2 e
       refine ⟨k1,?_⟩
       rcases k3 with k3 | k3
       ·rw [k3,Nat.add_zero,Nat.add_mul]
       ·omega
   ·cases hq
  ·-- an array that is never written
   rename_i len esz ag cs hk hx
   rw [hx] at rx
   rw [hk] at e5
   obtain ⟨e,ie,ue,rfl,f1,f2,f3,f4⟩:=mZ e5
   have dA:Rel R w (.ep cs) (a.eval x):=rx
   generalize e8:a.eval x=xv at dA
   cases dA with
   | @ep _ b o' hr=>
    split at hq
    ·rename_i p hp
     split at hq
     ·rename_i hc
      rw [Bool.and_eq_true] at hc
      have hz:=Nat.eq_of_beq_eq_true hc.1
      have hl:=Nat.le_of_ble_eq_true hc.2
      injection hq with hq
      injection hq with tS nf
      subst nf
      rw [Bool.and_eq_true] at tS
      have fq:=of_decide_eq_true tS.1
      have hd:=p.cG tS.2
      have bT:n.toNat < cs.length:=by omega
      have Wh:=hr.drop n.toNat
      rw [List.drop_eq_getElem_cons bT] at Wh
      have hn:ai cs n.toNat=cs[n.toNat]:=by
       unfold ai
       rw [aU,List.getElem?_eq_getElem bT]
      rw [hn] at hd ⊢
      refine ap h (c:=.pointer (some ⟨b,o'+n.toNat * esz,none⟩)) ?_ ?_
      ·simp [execOp,ho,Instr.indexAt,IF,e8,Instr.sureAddr,asIntOf,run_underlying e2,fq,run_sizeOf w f1,f2,cn]
      ·subst hz
       rw [Nat.mul_one]
       cases Wh with
       | cons hc h1 hi dF t=>exact .ep (.cons hc h1 hi (hd.1 _ _ _ dF) .nil)
     ·cases hq
    ·injection hq with hq
     injection hq with tS nf
     subst nf
     have fq:=of_decide_eq_true tS
     refine ap h (c:=.pointer (some ⟨b,o'+n.toNat * esz,none⟩)) ?_ ?_
     ·simp [execOp,ho,Instr.indexAt,IF,e8,Instr.sureAddr,asIntOf,run_underlying e2,fq,run_sizeOf w f1,f2,cn]
     ·rw [tN]
      exact .ep (hr.drop _)
  ·-- an array
   rename_i len esz ag hk _
   rw [hk] at e5
   obtain ⟨e,ie,ue,rfl,f1,f2,f3,f4⟩:=mZ e5
   split at hq
   ·rename_i q' hm
    injection hq with hq
    injection hq with tS nf
    subst nf
    have fq:=of_decide_eq_true tS
    obtain ⟨b,o',m1,m2⟩:=xm rx hm
    refine ap h ?_ m2
    simp [execOp,ho,Instr.indexAt,IF,m1,Instr.sureAddr,asIntOf,run_underlying e2,fq,run_sizeOf w f1,f2,cn]
   ·cases hq
  ·cases hq
 ·cases hq
theorem ls {t:TypeId} {i:TypeInfo} {u:TypeDesc} (h1:E.P.info? t=some i) (h2:E.P.underlying t=some u) {off:Nat} {cs l:List AV} {vs:List Value} {v:AV} (hr:aI R w cs vs) (h3:∀ x∈vs,x.oneCell'=true)
  (yt:iV u=true→Dm off i.size cs=some l∧rq true l=some v) (XX:iV u=false→Dm off 1 cs=some l∧rq false l=some v) :
  ∃ c,(part t ⟨vs⟩ off).run E.P w=.ok c w∧Rel R w v c:=by
 unfold part
 simp only [Sem.run_bind,xl w h2,Result.andThen_ok]
 cases ha:iV u with
 | true=>
  obtain ⟨g1,g2⟩:=yt ha
  obtain ⟨k1,k2,k3,k4⟩:=n8 g1 hr h3
  obtain ⟨m1,_⟩:=tP g2 k2 k3
  refine ⟨_,?_,m1 rfl⟩
  have:(⟨vs⟩:Array Value).extract off (off+i.size)=⟨(vs.drop off).take i.size⟩:=by
   apply Array.ext'
   simp [List.extract_eq_take_drop]
  simp [run_sizeOf w h1]
 | false=>
  obtain ⟨g1,g2⟩:=XX ha
  obtain ⟨k1,k2,k3,k4⟩:=n8 g1 hr h3
  obtain ⟨_,m2⟩:=tP g2 k2 k3
  obtain ⟨c,hc,dF⟩:=m2 rfl
  refine ⟨c,?_,dF⟩
  have h0:=k4 0 c (by rw [hc]; simp)
  simp only [Nat.add_zero] at h0
  simp [h0]
theorem BO (h:aY E R w β s a) (t:TypeId) (x:Operand) (j:Nat) (ho:o.op=.field t x j) {v:AV} (hq:BB E t (bi E s.ae x) j=some v) :
  bH E R w β s a o (s.put o.dst (.v v)):=by
 have rx:=aN h x
 unfold BB at hq
 split at hq
 ·rename_i i cs hi hx
  rw [hx] at rx
  have dA:Rel R w (.agg cs) (a.eval x):=rx
  generalize e8:a.eval x=xv at dA
  cases dA with
  | @agg _ vs hr h1=>
  split at hq
  ·rename_i fs hk
   split at hq
   ·rename_i off sz ag hn
    obtain ⟨gf,u,e1,e2,e3,e4,e5,e6⟩:=bP E hi
    rw [hk] at e5
    obtain ⟨fl,rfl,hf⟩:=Dt e5
    obtain ⟨f,fi,u',g1,g2,g3,g4,g5,g6⟩:=me hf hn
    have key:∃ c,(part f.type ⟨vs⟩ off).run E.P w=.ok c w∧Rel R w v c:=by
     split at hq
     ·rename_i yt
      split at hq
      ·rename_i l hl
       exact ls g3 g5 (l:=l) hr h1 (fun _=>⟨by rw [g4]; exact hl,hq⟩) (fun hf=>by rw [g6,yt] at hf; cases hf)
      ·cases hq
     ·rename_i yt
      split at hq
      ·rename_i l hl
       exact ls g3 g5 (l:=l) hr h1 (fun hf=>by rw [g6] at hf; exact absurd hf yt) (fun _=>⟨hl,hq⟩)
      ·cases hq
    obtain ⟨c,k1,k2⟩:=key
    refine ap h ?_ k2
    have TN:fl[j]?=some f:=by simpa using g1
    simp [execOp,ho,Instr.field,run_underlying e2,TN,e8,asAgg,g2,k1]
   ·cases hq
  ·cases hq
 ·cases hq
theorem BP (h:aY E R w β s a) (t:TypeId) (x ix:Operand) (ho:o.op=.index t x ix) {v:AV} (hq:BC E t (bi E s.ae x) (bi E s.ae ix)=some (true,v)) :
  bH E R w β s a o (s.put o.dst (.v v)):=by
 have rx:=aN h x
 have ri:=aN h ix
 unfold BC at hq
 split at hq
 ·rename_i i l k n hi hx QF
  rw [hx] at rx
  rw [QF] at ri
  have KX:Rel R w (.int k n) (a.eval ix):=ri
  have dA:Rel R w (.str l) (a.eval x):=rx
  generalize IF:a.eval ix=iv at KX
  generalize e8:a.eval x=xv at dA
  cases KX
  cases dA
  obtain ⟨gf,u,e1,e2,e3,e4,e5,e6⟩:=bP E hi
  split at hq
  ·rename_i hk
   rw [hk] at e5
   have:=jV e5
   subst this
   injection hq with hq
   injection hq with tS nf
   subst nf
   obtain ⟨yq,FQ⟩:=of_decide_eq_true tS
   have bT:n.toNat < l.length:=by omega
   refine ap h (c:=.int .u8 (l.getD n.toNat 0).toNat) ?_ (Rel.int _ _)
   have jw:(⟨⟨l⟩⟩:ByteArray)[n.toNat]?=some (l.getD n.toNat 0):=by
    have hs:n.toNat < (⟨⟨l⟩⟩:ByteArray).size:=bT
    rw [getElem?_pos (⟨⟨l⟩⟩:ByteArray) n.toNat hs]
    congr 1
    simp [List.getD,List.getElem?_eq_getElem bT]
    rfl
   simp [execOp,ho,Instr.index,IF,e8,asIntOf,run_underlying e2,yq,jw]
  ·cases hq
 ·rename_i i cs k n hi hx QF
  rw [hx] at rx
  rw [QF] at ri
  have KX:Rel R w (.int k n) (a.eval ix):=ri
  have dA:Rel R w (.agg cs) (a.eval x):=rx
  generalize IF:a.eval ix=iv at KX
  generalize e8:a.eval x=xv at dA
  cases KX
  cases dA with
  | @agg _ vs hr h1=>
  obtain ⟨gf,u,e1,e2,e3,e4,e5,e6⟩:=bP E hi
  split at hq
  ·rename_i len esz ag hk
   rw [hk] at e5
   obtain ⟨e,ie,ue,rfl,f1,f2,f3,f4⟩:=mZ e5
   split at hq
   ·rename_i v' Mi
    injection hq with hq
    injection hq with tS nf
    subst nf
    have fq:=of_decide_eq_true tS
    have key:∃ c,(part e ⟨vs⟩ (n.toNat * esz)).run E.P w=.ok c w∧Rel R w v' c:=by
     split at Mi
     ·rename_i yt
      split at Mi
      ·rename_i l hl
       exact ls f1 f3 (l:=l) hr h1 (fun _=>⟨by rw [f2]; exact hl,Mi⟩) (fun hf=>by rw [f4,yt] at hf; cases hf)
      ·cases Mi
     ·rename_i yt
      split at Mi
      ·rename_i l hl
       exact ls f1 f3 (l:=l) hr h1 (fun hf=>by rw [f4] at hf; exact absurd hf yt) (fun _=>⟨hl,Mi⟩)
      ·cases Mi
    obtain ⟨c,k1,k2⟩:=key
    refine ap h ?_ k2
    simp [execOp,ho,Instr.index,IF,e8,asIntOf,run_underlying e2,fq,run_sizeOf w f1,f2,k1]
   ·cases hq
  ·cases hq
 ·cases hq
theorem yu (h:aY E R w β s a) (x:Operand) (j:Nat) (ho:o.op=.extract x j) {vs:List AV} {v:AV} (hx:bi E s.ae x=.v (.bh vs)) (hn:nth vs j=some v) :
  bH E R w β s a o (s.put o.dst (.v v)):=by
 have rx:=aN h x
 rw [hx] at rx
 have dA:Rel R w (.bh vs) (a.eval x):=rx
 generalize e8:a.eval x=xv at dA
 cases dA with
 | @bh _ us hr=>
 rw [aU] at hn
 obtain ⟨c,h1,h2⟩:=hr.get hn
 refine ap h ?_ h2
 simp [execOp,ho,Instr.extract,e8,h1]
theorem fu (h:aY E R w β s a):∀ {l:List Operand} {vs:List AV},kS E s.ae l=some vs→aI R w vs (l.map a.eval)
 | [],vs,hl=>by simp [kS] at hl; subst hl; exact .nil
 | x :: l,vs,hl=>by
  unfold kS at hl
  split at hl
  ·rename_i v r h1 h2
   cases hl
   have:=aN h x
   rw [h1] at this
   exact .cons this (fu h h2)
  ·cases hl
theorem wI (h:aY E R w β s a) (g:FuncId) (x y:Array Operand) (ho:o.op=.makeFunc (.func g) x y) {p q:List AV} (hp:kS E s.ae x.toList=some p) (hq:kS E s.ae y.toList=some q) :
  bH E R w β s a o (s.put o.dst (.v (.fn g p q))):=by
 have h1:=fu h hp
 have h2:=fu h hq
 refine ap h (c:=.func (.func g) ⟨x.toList.map a.eval⟩ ⟨y.toList.map a.eval⟩) ?_ (Rel.fn h1 h2)
 have e1:x.map a.eval=⟨x.toList.map a.eval⟩:=Array.ext' (by simp)
 have e2:y.map a.eval=⟨y.toList.map a.eval⟩:=Array.ext' (by simp)
 simp [execOp,ho,Instr.makeFunc,e1,e2]
end ops
end Go.Am
namespace Go.Am
open Go
section ops
variable {E:Env} {R:ak} {w:World} {β:Nat→Nat} {s:St} {a:Act} {o:Oper}
theorem size_bytes (l:List UInt8):(⟨⟨l⟩⟩:ByteArray).size=l.length:=rfl
theorem p9 (l:List UInt8):(⟨⟨l⟩⟩:ByteArray).toList=l:=by rw [ByteArray.toList_eq]
theorem yw (l r:List UInt8):((⟨⟨l⟩⟩:ByteArray)++⟨⟨r⟩⟩)=⟨⟨l++r⟩⟩:=by
 apply ByteArray.ext
 rw [ByteArray.data_append]
 simp
theorem EH (op:BinOp) (t:TypeId) (x y:Operand) (k k':IntKind) (n m:Int):(eqGuard op t x y (.int k n) (.int k' m)).run E.P w=.ok () w:=by
 unfold eqGuard
 cases op <;> rfl
theorem EI (op:BinOp) (t:TypeId) (x y:Operand) (n m:ByteArray):(eqGuard op t x y (.string n) (.string m)).run E.P w=.ok () w:=by
 unfold eqGuard
 cases op <;> rfl
theorem BQ (h:aY E R w β s a) (op:BinOp) (t u:TypeId) (x y:Operand) (ho:o.op=.binOp op t x y u) {p q v:AV} (hx:bi E s.ae x=.v p) (hy:bi E s.ae y=.v q) (hv:zL op p q=some (true,v)) :
  bH E R w β s a o (s.put o.dst (.v v)):=by
 have rx:=aN h x
 have ry:=aN h y
 rw [hx] at rx
 rw [hy] at ry
 have dA:Rel R w p (a.eval x):=rx
 have mQ:Rel R w q (a.eval y):=ry
 have key:∃ c,(do eqGuard op t x y (a.eval x) (a.eval y); binOp op t (a.eval x) (a.eval y):Sem Value).run E.P w=.ok c w∧Rel R w v c:=by
  generalize e8:a.eval x=xv at dA
  generalize PM:a.eval y=yv at mQ
  unfold zL at hv
  split at hv
  ·rename_i k n k' m
   cases dA
   cases mQ
   simp only [Sem.run_bind,EH,Result.andThen_ok]
   split at hv
   ·injection hv with hv
    injection hv with h1 h2
    subst h2
    have hm:=of_decide_eq_true h1
    have Mj:¬ m < 0:=by omega
    exact ⟨.int k (k.wrap (n * 2 ^ (min m.toNat k.bits))),by simp [binOp,Op.shift,Mj],.int _ _⟩
   ·injection hv with hv
    injection hv with h1 h2
    subst h2
    have hm:=of_decide_eq_true h1
    have Mj:¬ m < 0:=by omega
    exact ⟨.int k (n.fdiv (2 ^ (min m.toNat k.bits))),by simp [binOp,Op.shift,Mj],.int _ _⟩
   ·rename_i KY Wi
    split at hv
    ·rename_i Gc
     subst Gc
     split at hv
     ·cases hv; exact ⟨.int k (k.wrap (n+m)),by simp [binOp,Op.intArith],.int _ _⟩
     ·cases hv; exact ⟨.int k (k.wrap (n - m)),by simp [binOp,Op.intArith],.int _ _⟩
     ·cases hv; exact ⟨.int k (k.wrap (n * m)),by simp [binOp,Op.intArith],.int _ _⟩
     ·injection hv with hv
      injection hv with h1 h2
      subst h2
      have hm:¬ m=0:=by simpa using h1
      exact ⟨.int k (k.wrap (n.tdiv m)),by simp [binOp,Op.intDiv,hm],.int _ _⟩
     ·injection hv with hv
      injection hv with h1 h2
      subst h2
      have hm:¬ m=0:=by simpa using h1
      exact ⟨.int k (n.tmod m),by simp [binOp,Op.intDiv,hm],.int _ _⟩
     ·cases hv; exact ⟨.int k (L8 k n m),by simp [binOp,Op.intBits,L8],.int _ _⟩
     ·cases hv; exact ⟨.int k (TG k n m),by simp [binOp,Op.intBits,TG],.int _ _⟩
     ·cases hv; exact ⟨.int k (L9 k n m),by simp [binOp,Op.intBits,L9],.int _ _⟩
     ·cases hv; exact ⟨.bool (n == m),by simp [binOp,Op.intCmp],.bool _⟩
     ·cases hv; exact ⟨.bool (n != m),by simp [binOp,Op.intCmp],.bool _⟩
     ·cases hv; exact ⟨.bool (decide (n < m)),by simp [binOp,Op.intCmp],.bool _⟩
     ·cases hv; exact ⟨.bool (decide (n≤m)),by simp [binOp,Op.intCmp],.bool _⟩
     ·cases hv; exact ⟨.bool (decide (n > m)),by simp [binOp,Op.intCmp],.bool _⟩
     ·cases hv; exact ⟨.bool (decide (n≥m)),by simp [binOp,Op.intCmp],.bool _⟩
     ·cases hv
    ·cases hv
  ·rename_i l r
   cases dA
   cases mQ
   simp only [Sem.run_bind,EI,Result.andThen_ok]
   split at hv
   ·injection hv with hv
    injection hv with h1 h2
    subst h2
    have hm:=of_decide_eq_true h1
    refine ⟨.string ⟨⟨l++r⟩⟩,?_,.str _⟩
    have Mk:¬ ((l.length+r.length:Nat):Int) > IntKind.i64.max:=by
     have:IntKind.i64.max=9223372036854775807:=by decide
     omega
    simp only [binOp,Op.stringOp,size_bytes,if_neg Mk,yw,Sem.run_pure]
   ·cases hv; exact ⟨.bool (l == r),by simp [binOp,Op.stringOp],.bool _⟩
   ·cases hv; exact ⟨.bool (!(l == r)),by simp [binOp,Op.stringOp],.bool _⟩
   ·cases hv; exact ⟨.bool (Op.bytesLess l r),by simp [binOp,Op.stringOp],.bool _⟩
   ·cases hv; exact ⟨.bool (Op.bytesLess l r || l == r),by simp [binOp,Op.stringOp],.bool _⟩
   ·cases hv; exact ⟨.bool (!(Op.bytesLess l r || l == r)),by simp [binOp,Op.stringOp],.bool _⟩
   ·cases hv; exact ⟨.bool (!(Op.bytesLess l r)),by simp [binOp,Op.stringOp],.bool _⟩
   ·cases hv
  ·cases hv
 obtain ⟨c,k1,k2⟩:=key
 refine ap h (c:=c) ?_ k2
 simp only [Sem.run_bind] at k1
 simp only [execOp,ho,Sem.run_bind,k1,Result.andThen_ok,Sem.run_pure]
theorem jJ {t:TypeId} {i:TypeInfo} {u:TypeDesc} (h1:E.P.info? t=some i) (h2:E.P.underlying t=some u) {off:Nat} {cs:List AV} {vs:List Value} {v:AV} (hr:aI R w cs vs) (h3:∀ x∈vs,x.oneCell'=true)
  (h:Dn (iV u) off i.size cs=some v):∃ c,(part t ⟨vs⟩ off).run E.P w=.ok c w∧Rel R w v c:=by
 unfold Dn at h
 cases ha:iV u with
 | true=>
  rw [ha] at h
  simp only [if_true] at h
  split at h
  ·rename_i l hl
   exact ls h1 h2 hr h3 (fun _=>⟨hl,h⟩) (fun e=>by rw [ha] at e; cases e)
  ·cases h
 | false=>
  rw [ha] at h
  simp only [Bool.false_eq_true,if_false] at h
  split at h
  ·rename_i l hl
   exact ls h1 h2 hr h3 (fun e=>by rw [ha] at e; cases e) (fun _=>⟨hl,h⟩)
  ·cases h
theorem zQ {ek:TypeId→EK} {d:Nat} (ih:∀ (t:TypeId) (a b:AV) (r:Bool) (x y:Value),kz (ek t) a b=some r→Rel R w a x→Rel R w b y→(Op.equalIn d t x y).run E.P w=.ok r w) {xs ys:List AV} {vs us:List Value}
  (hx:aI R w xs vs) (sP:∀ x∈vs,x.oneCell'=true) (hy:aI R w ys us) (I5:∀ x∈us,x.oneCell'=true) :
  ∀ (fs:List Field) (l:L5) (r:Bool),BA E.P ek fs=some l→rr l xs ys=some r→(Op.eqFields d ⟨vs⟩ ⟨us⟩ fs).run E.P w=.ok r w
 | [],l,r,hl,hr=>by
  simp [BA] at hl
  subst hl
  simp [rr] at hr
  subst hr
  rfl
 | f :: fs,l,r,hl,hr=>by
  unfold BA at hl
  split at hl
  ·cases hl
  ·rename_i hn
   split at hl
   ·rename_i i u l' h1 h2 h3
    cases hl
    unfold rr at hr
    split at hr
    ·rename_i a b ha hb
     split at hr
     ·rename_i p q hp hq
      cases hr
      obtain ⟨c,k1,k2⟩:=jJ h1 h2 hx sP ha
      obtain ⟨c',k3,k4⟩:=jJ h1 h2 hy I5 hb
      have cM : f.name ≠ "_" := by simpa using hn
      have he:=ih f.type a b p c c' hp k2 k4
      have tT:=zQ ih hx sP hy I5 fs l' q h3 hq
      simp only [Op.eqFields,cM,ne_eq,not_false_eq_true,if_true,Sem.run_bind,k1,k3,he,Result.andThen_ok]
      cases p with
      | true=>simp [tT]
      | false=>simp
     ·cases hr
    ·cases hr
   ·cases hl
theorem xn {ek:EK} {d:Nat} {e:TypeId} {i:TypeInfo} {u:TypeDesc} (h1:E.P.info? e=some i) (h2:E.P.underlying e=some u) (ih:∀ (a b:AV) (r:Bool) (x y:Value),kz ek a b=some r→Rel R w a x→Rel R w b y→(Op.equalIn d e x y).run E.P w=.ok r w) {xs ys:List AV} {vs us:List Value}
  (hx:aI R w xs vs) (sP:∀ x∈vs,x.oneCell'=true) (hy:aI R w ys us) (I5:∀ x∈us,x.oneCell'=true) :
  ∀ (m k:Nat) (r:Bool),rr (tJ i.size (iV u) ek m k) xs ys=some r→(Op.eqItems d e i.size ⟨vs⟩ ⟨us⟩ (List.range' k m)).run E.P w=.ok r w
 | 0,k,r,hr=>by
  simp [tJ,rr] at hr
  subst hr
  rfl
 | m+1,k,r,hr=>by
  unfold tJ rr at hr
  split at hr
  ·rename_i a b ha hb
   split at hr
   ·rename_i p q hp hq
    cases hr
    obtain ⟨c,k1,k2⟩:=jJ h1 h2 hx sP ha
    obtain ⟨c',k3,k4⟩:=jJ h1 h2 hy I5 hb
    have he:=ih a b p c c' hp k2 k4
    have tT:=xn h1 h2 ih hx sP hy I5 m (k+1) q hq
    simp only [List.range'_succ,Op.eqItems,Sem.run_bind,k1,k3,he,Result.andThen_ok]
    cases p with
    | true=>simpa using tT
    | false=>simp
   ·cases hr
  ·cases hr
theorem yx:∀ (n d:Nat),n≤d→∀ (t:TypeId) (a b:AV) (r:Bool) (x y:Value),kz (oD E.P n t) a b=some r→Rel R w a x→Rel R w b y→(Op.equalIn d t x y).run E.P w=.ok r w
 | 0,_,_,t,a,b,r,x,y,h,_,_=>by simp [oD,kz] at h
 | n+1,0,hd,_,_,_,_,_,_,_,_,_=>by omega
 | n+1,d+1,hd,t,a,b,r,x,y,h,hx,hy=>by
  unfold oD at h
  split at h
  ·rename_i hu
   unfold kz at h
   split at h
   all_goals (try contradiction)
   cases hx; cases hy; cases h
   exact run_equalIn_bool' w d t _ _ hu
  ·rename_i k hu
   unfold kz at h
   split at h
   all_goals (try contradiction)
   split at h
   ·rename_i hk
    subst hk
    cases hx; cases hy; cases h
    exact run_equalIn_int w d t _ k _ _ hu
   ·cases h
  ·rename_i hu
   unfold kz at h
   split at h
   all_goals (try contradiction)
   cases hx; cases hy; cases h
   rw [run_equalIn_string w d t _ _ hu,p9,p9]
  ·rename_i fs hu
   split at h
   ·simp [kz] at h
   ·rename_i hs
    split at h
    ·rename_i l hl
     unfold kz at h
     split at h
     all_goals (try contradiction)
     rename_i ym xs ys hk
     cases hk
     cases hx with
     | agg hx sP=>
     cases hy with
     | agg hy I5=>
     have hf:E.P.fieldsOf t=fs:=by simp [Program.fieldsOf,hu]
     rw [run_equalIn_struct w d t _ _ (by rw [hf]; exact hu) (by simpa using hs),hf]
     exact zQ (fun t a b r x y=>yx n d (by omega) t a b r x y) hx sP hy I5 fs.toList _ r hl h
    ·simp [kz] at h
  ·rename_i m e hu
   split at h
   ·rename_i i ud g1 g2
    unfold kz at h
    split at h
    all_goals (try contradiction)
    rename_i ym xs ys hk
    cases hk
    cases hx with
    | agg hx sP=>
    cases hy with
    | agg hy I5=>
    have qa:E.P.cellsOf e=i.size:=by simp [Program.cellsOf,g1]
    rw [run_equalIn_array (P:=E.P) w d _ _ hu g1,qa,List.range_eq_range']
    exact xn g1 g2 (fun a b r x y=>yx n d (by omega) e a b r x y) hx sP hy I5 m 0 r h
   ·simp [kz] at h
  ·simp [kz] at h
theorem jK {t:TypeId} {i:TI} (hi:E.ti t=some i) {p q:AV} {r:Bool} {x y:Value} (h:kz i.ek p q=some r) (hx:Rel R w p x) (hy:Rel R w q y) :
  (Op.equalIn 10000 t x y).run E.P w=.ok r w∧((∃ b c,x=.bool b∧y=.bool c)∨(∃ k n k' m,x=.int k n∧y=.int k' m)∨(∃ n m,x=.string n∧y=.string m)∨(∃ n m,x=.agg n∧y=.agg m∧E.P.eqGuardType E.P.depth t=false)):=by
 have xo:i.ek=r8 E.P t:=by
  have:=E.Ew t i hi
  unfold Ev at this
  split at this
  ·split at this
   ·cases this; rfl
   ·cases this
  ·cases this
 rw [xo] at h
 have hg:kz (oD E.P 6 t) p q=some r∧((∃ l,oD E.P 6 t=.st l)→E.P.eqGuardType E.P.depth t=false):=by
  unfold r8 at h
  split at h
  ·rename_i l hl
   split at h
   ·simp [kz] at h
   ·rename_i IG
    exact ⟨by rw [hl]; exact h,fun _=>by simpa using IG⟩
  ·rename_i k hk
   exact ⟨h,fun ⟨l,hl⟩=>absurd hl (hk l)⟩
 refine ⟨yx 6 10000 (by omega) t p q r x y hg.1 hx hy,?_⟩
 have h2:=hg.1
 have h3:=hg.2
 generalize oD E.P 6 t=k at h2 h3
 unfold kz at h2
 split at h2
 ·cases hx; cases hy; exact .inl ⟨_,_,rfl,rfl⟩
 ·cases hx; cases hy; exact .inr (.inl ⟨_,_,_,_,rfl,rfl⟩)
 ·cases hx; cases hy; exact .inr (.inr (.inl ⟨_,_,rfl,rfl⟩))
 ·cases hx; cases hy; exact .inr (.inr (.inr ⟨_,_,rfl,rfl,h3 ⟨_,rfl⟩⟩))
 ·cases h2
theorem Gd (h:aY E R w β s a) (op:BinOp) (t u:TypeId) (x y:Operand) (ho:o.op=.binOp op t x y u) {p q:AV} {r:Bool} (hx:bi E s.ae x=.v p) (hy:bi E s.ae y=.v q) (hb:zL op p q=none) (hv:TJ E op t p q=some r) :
  bH E R w β s a o (s.put o.dst (.v (.bool r))):=by
 have rx:=aN h x
 have ry:=aN h y
 rw [hx] at rx
 rw [hy] at ry
 have dA:Rel R w p (a.eval x):=rx
 have mQ:Rel R w q (a.eval y):=ry
 have key:(do eqGuard op t x y (a.eval x) (a.eval y); binOp op t (a.eval x) (a.eval y):Sem Value).run E.P w=.ok (.bool r) w:=by
  generalize e8:a.eval x=xv at dA
  generalize PM:a.eval y=yv at mQ
  unfold TJ at hv
  split at hv
  ·rename_i i hi
   obtain ⟨k1,k2⟩:=jK hi hv dA mQ
   rcases k2 with ⟨b,c,rfl,rfl⟩ | ⟨k,n,k',m,rfl,rfl⟩ | ⟨n,m,rfl,rfl⟩ | ⟨n,m,rfl,rfl,hg⟩
   ·have BR:(eqGuard .eql t x y (.bool b) (.bool c)).run E.P w=.ok () w:=rfl
    simp [BR,binOp,Op.equal,Op.maxDepth,k1]
   ·cases dA; cases mQ; simp [zL] at hb
    cases hk:i.ek <;> simp [hk,kz] at hv
    exact absurd hv.1 hb
   ·cases dA; cases mQ; simp [zL] at hb
   ·simp only [Sem.run_bind,run_eqGuard_agg w _ t x y n m hg,Result.andThen_ok,run_eql_struct,k1]
  ·rename_i i hi
   split at hv
   ·rename_i r' kA
    cases hv
    obtain ⟨k1,k2⟩:=jK hi kA dA mQ
    rcases k2 with ⟨b,c,rfl,rfl⟩ | ⟨k,n,k',m,rfl,rfl⟩ | ⟨n,m,rfl,rfl⟩ | ⟨n,m,rfl,rfl,hg⟩
    ·have BR:(eqGuard .neq t x y (.bool b) (.bool c)).run E.P w=.ok () w:=rfl
     simp [BR,binOp,Op.equal,Op.maxDepth,k1]
    ·cases dA; cases mQ; simp [zL] at hb
     cases hk:i.ek <;> simp [hk,kz] at kA
     exact absurd kA.1 hb
    ·cases dA; cases mQ; simp [zL] at hb
    ·simp only [Sem.run_bind,run_eqGuard_agg w _ t x y n m hg,Result.andThen_ok,run_neq_struct,k1]
   ·cases hv
  ·cases hv
 refine ap h (c:=.bool r) ?_ (.bool r)
 simp only [Sem.run_bind] at key
 simp only [execOp,ho,Sem.run_bind,key,Result.andThen_ok,Sem.run_pure]
theorem zR {p:AV} {r:Bool} {x:Value} (hv:IZ p=some r) (hx:Rel R w p x):(SS p=true∧∃ a n c,x=.slice a n c∧a.isNone=r)∨(SS p=false∧∃ a,x=.pointer a∧a.isNone=r):=by
 unfold IZ at hv
 split at hv
 ·cases hv
  cases hx with
  | iF=>exact .inl ⟨rfl,_,_,_,rfl,rfl⟩
  | list _ _ _ hk=>exact hk.elim
 ·cases hv
  cases hx with
  | list _ _ _ _=>exact .inl ⟨rfl,_,_,_,rfl,rfl⟩
 ·cases hv
  cases hx with
  | list _ _ _ _=>exact .inl ⟨rfl,_,_,_,rfl,rfl⟩
 ·cases hv
  cases hx with
  | iR _ _=>exact .inl ⟨rfl,_,_,_,rfl,rfl⟩
 ·cases hv
  cases hx with
  | dT _ _ _=>exact .inl ⟨rfl,_,_,_,rfl,rfl⟩
 ·cases hv
  cases hx
  exact .inr ⟨rfl,_,rfl,rfl⟩
 ·cases hv
  cases hx with
  | ptr _=>exact .inr ⟨rfl,_,rfl,rfl⟩
 ·cases hv
  cases hx with
  | ep _=>exact .inr ⟨rfl,_,rfl,rfl⟩
 ·cases hv
theorem tU {p:AV} {b:Bool} {x:Value} (hv:BH p=some b) (hx:Rel R w p x):(b=true∧x=.slice none 0 0)∨(b=false∧x=.pointer none):=by
 unfold BH at hv
 split at hv
 ·cases hv
  cases hx with
  | iF=>exact .inl ⟨rfl,rfl⟩
  | list _ _ _ hk=>exact hk.elim
 ·cases hv
  cases hx
  exact .inr ⟨rfl,rfl⟩
 ·cases hv
theorem I6 {P:Program} {t:TypeId} (h:Mb P t=true):∃ e,P.underlying t=some (.slice e):=by
 unfold Mb at h
 split at h
 ·rename_i e he; exact ⟨e,he⟩
 ·cases h
theorem I7 {P:Program} {t:TypeId} (h:Mc P t=true):P.underlying t=some (.pointer (P.pointee t)):=by
 unfold Mc at h
 split at h
 ·rename_i e he
  unfold Program.pointee
  rw [he]
 ·cases h
theorem EJ (h:aY E R w β s a) (op:BinOp) (t u:TypeId) (x y:Operand) (ho:o.op=.binOp op t x y u) {p q:AV} {r:Bool} (hx:bi E s.ae x=.v p) (hy:bi E s.ae y=.v q) (hv:Md E op t p q=some r) :
  bH E R w β s a o (s.put o.dst (.v (.bool r))):=by
 have rx:=aN h x
 rw [hx] at rx
 have ry:=aN h y
 rw [hy] at ry
 have dA:Rel R w p (a.eval x):=rx
 have mQ:Rel R w q (a.eval y):=ry
 have key:(do eqGuard op t x y (a.eval x) (a.eval y); binOp op t (a.eval x) (a.eval y):Sem Value).run E.P w=.ok (.bool r) w:=by
  generalize e8:a.eval x=xv at dA
  generalize PM:a.eval y=yv at mQ
  have two:∀ {r0:Bool},IZ p=some r0→sa E.P t p q=true→(∃ a n c e,xv=.slice a n c∧yv=.slice none 0 0∧a.isNone=r0∧E.P.underlying t=some (.slice e))∨(∃ a,xv=.pointer a∧yv=.pointer none∧a.isNone=r0∧E.P.underlying t=some (.pointer (E.P.pointee t))):=by
   intro r0 h1 h2
   unfold sa at h2
   split at h2
   ·rename_i hb
    rw [Bool.and_eq_true] at h2
    obtain ⟨e,he⟩:=I6 h2.2
    rcases tU hb mQ with ⟨_,rfl⟩ | ⟨hf,_⟩
    ·rcases zR h1 dA with ⟨_,a,n,c,rfl,hn⟩ | ⟨hs,_⟩
     ·exact .inl ⟨a,n,c,e,rfl,rfl,hn,he⟩
     ·rw [h2.1] at hs; cases hs
    ·cases hf
   ·rename_i hb
    rw [Bool.and_eq_true] at h2
    have hp:=I7 h2.2
    rcases tU hb mQ with ⟨hf,_⟩ | ⟨_,rfl⟩
    ·cases hf
    ·rcases zR h1 dA with ⟨hs,_⟩ | ⟨_,a,rfl,hn⟩
     ·rw [hs] at h2; cases h2.1
     ·exact .inr ⟨a,rfl,rfl,hn,hp⟩
   ·cases h2
  unfold Md at hv
  split at hv
  ·rename_i r0 h1
   obtain ⟨h2,h3⟩:sa E.P t p q=true∧_:=by
    cases h2:sa E.P t p q with
    | false=>rw [h2] at hv; cases hv
    | true=>rw [h2] at hv; exact ⟨rfl,Option.some.inj hv⟩
   subst h3
   rcases two h1 h2 with ⟨a,n,c,e,rfl,rfl,hn,he⟩ | ⟨a,rfl,rfl,hn,hp⟩
   ·have hg:(eqGuard .eql t x y (.slice a n c) (.slice none 0 0)).run E.P w=.ok () w:=rfl
    simp only [Sem.run_bind,hg,Result.andThen_ok,Lib.run_eql_slice_nil w t e a n c 0 0 he,hn]
   ·have hg:(eqGuard .eql t x y (.pointer a) (.pointer none)).run E.P w=.ok () w:=rfl
    simp only [Sem.run_bind,hg,Result.andThen_ok,run_eql_pointer_nil w t a hp,hn]
  ·rename_i r0 h1
   obtain ⟨h2,h3⟩:sa E.P t p q=true∧_:=by
    cases h2:sa E.P t p q with
    | false=>rw [h2] at hv; cases hv
    | true=>rw [h2] at hv; exact ⟨rfl,Option.some.inj hv⟩
   subst h3
   rcases two h1 h2 with ⟨a,n,c,e,rfl,rfl,hn,he⟩ | ⟨a,rfl,rfl,hn,hp⟩
   ·have hg:(eqGuard .neq t x y (.slice a n c) (.slice none 0 0)).run E.P w=.ok () w:=rfl
    simp only [Sem.run_bind,hg,Result.andThen_ok,run_neq_slice_nil w t e a n c he,hn]
   ·have hg:(eqGuard .neq t x y (.pointer a) (.pointer none)).run E.P w=.ok () w:=rfl
    simp only [Sem.run_bind,hg,Result.andThen_ok,run_neq_pointer_nil w t a hp,hn]
  ·cases hv
 refine ap h (c:=.bool r) ?_ (.bool r)
 simp only [Sem.run_bind] at key
 simp only [execOp,ho,Sem.run_bind,key,Result.andThen_ok,Sem.run_pure]
theorem Ge (h:aY E R w β s a) (t:TypeId) (x:Operand) (ho:o.op=.unOp .not t x) {b:Bool} (hx:bi E s.ae x=.v (.bool b)):bH E R w β s a o (s.put o.dst (.v (.bool (!b)))):=by
 have rx:=aN h x
 rw [hx] at rx
 have dA:Rel R w (.bool b) (a.eval x):=rx
 generalize e8:a.eval x=xv at dA
 cases dA
 refine ap h (c:=.bool (!b)) ?_ (Rel.bool _)
 simp [execOp,ho,Op.unary,e8]
theorem Gf (h:aY E R w β s a) (t:TypeId) (x:Operand) (ho:o.op=.unOp .neg t x) {k:IntKind} {n:Int} (hx:bi E s.ae x=.v (.int k n)):bH E R w β s a o (s.put o.dst (.v (.int k (k.wrap (0 - n))))):=by
 have rx:=aN h x
 rw [hx] at rx
 have dA:Rel R w (.int k n) (a.eval x):=rx
 generalize e8:a.eval x=xv at dA
 cases dA
 refine ap h (c:=.int k (k.wrap (0 - n))) ?_ (Rel.int _ _)
 simp [execOp,ho,Op.unary,Op.intArith,e8]
theorem xp:∀ (us:List Value) (off j0:Nat) (cells:Array Value),off+j0+us.length≤cells.size →
  ((us.zipIdx j0).foldl (fun (cs:Array Value) (p:Value × Nat)=>cs.setIfInBounds (off+p.2) p.1) cells).toList=cells.toList.take (off+j0)++us++cells.toList.drop (off+j0+us.length)
 | [],off,j0,cells,_=>by simp
 | u :: us,off,j0,cells,h=>by
  have bT:off+j0 < cells.size:=by simp at h; omega
  have ih:=xp us off (j0+1) (cells.setIfInBounds (off+j0) u) (by simp at h ⊢; omega)
  simp only [List.zipIdx_cons,List.foldl_cons]
  rw [ih]
  have e:=list_seg_step cells.toList (off+j0) u us (by simp at h ⊢; omega)
  simpa [Array.toList_setIfInBounds,Nat.add_assoc] using e
theorem ng (place:Nat→Option (Nat × Nat)):∀ {ps:List (Nat × AV)} {qs:List (Nat × Value)} {cells tV:List AV} {vs:List Value},
  aI R w (ps.map (·.2)) (qs.map (·.2))→ps.map (·.1)=qs.map (·.1)→aI R w cells vs→(∀ x∈vs,x.oneCell'=true)→r9 place cells ps=some tV →
  ∃ us,Instr.fill place ⟨vs⟩ qs=some ⟨us⟩∧aI R w tV us∧∀ x∈us,x.oneCell'=true
 | [],qs,cells,tV,vs,h1,h2,h3,h4,h5=>by
  have:qs=[]:=by simpa using h2.symm
  subst this
  simp [r9] at h5
  subst h5
  exact ⟨vs,rfl,h3,h4⟩
 | (i,v) :: ps,[],cells,tV,vs,h1,h2,h3,h4,h5=>by simp at h2
 | (i,v) :: ps,(j,c) :: qs,cells,tV,vs,h1,h2,h3,h4,h5=>by
  simp only [List.map_cons,List.cons.injEq] at h2
  obtain ⟨rfl,h2⟩:=h2
  cases h1 with
  | cons hr h1=>
  unfold r9 at h5
  split at h5
  ·cases h5
  ·rename_i off sz hp
   split at h5
   ·rename_i fq
    simp only [Bool.and_eq_true] at fq
    obtain ⟨⟨ID,hlen⟩,hle⟩:=fq
    have hlen:=Nat.eq_of_beq_eq_true hlen
    have hle:=Nat.le_of_ble_eq_true hle
    obtain ⟨c1,c2⟩:=Rel.cells hr ID
    have zE:c.cells.toList.length=sz:=by rw [← c1.length]; exact hlen
    have hb:off+v.cells.length≤cells.length:=by omega
    obtain ⟨us,u1,u2,u3⟩:=ng place h1 h2 (h3.bR c1 hb) (ib h4 c2) h5
    refine ⟨us,?_,u2,u3⟩
    have eC:c.cells.size=sz:=by simpa using zE
    have KZ:vs.length=cells.length:=h3.length.symm
    have QG:c.cells.zipIdx.foldl (fun (cs:Array Value) (x:Value × Nat)=>cs.setIfInBounds (off+x.2) x.1) ⟨vs⟩=⟨vs.take off++c.cells.toList++vs.drop (off+c.cells.toList.length)⟩:=by
     apply Array.ext'
     rw [← Array.foldl_toList,Array.toList_zipIdx]
     have:=xp c.cells.toList off 0 ⟨vs⟩ (by simp only [List.size_toArray]; omega)
     simpa using this
    have cC:(c.cells.size≠sz || decide (off+c.cells.size > (⟨vs⟩:Array Value).size))=false:=by
     have KY:decide (c.cells.size≠sz)=false:=by simp [eC]
     have Wi:decide (off+c.cells.size > (⟨vs⟩:Array Value).size)=false:=by
      rw [decide_eq_false_iff_not,eC]
      show ¬ off+sz > vs.length
      omega
     rw [KY,Wi]
     rfl
    unfold Instr.fill
    simp only [hp,cC,Bool.false_eq_true,if_false]
    rw [← u1]
    exact congrArg (fun z=>Instr.fill place z qs) QG
   ·cases h5
theorem tk (h:aY E R w β s a):∀ {l:List (Nat × Operand)} {ps:List (Nat × AV)},IC E s.ae l=some ps →
  aI R w (ps.map (·.2)) ((l.map fun x=>(x.1,a.eval x.2)).map (·.2))∧ps.map (·.1)=(l.map fun x=>(x.1,a.eval x.2)).map (·.1)
 | [],ps,hl=>by simp [IC] at hl; subst hl; exact ⟨.nil,rfl⟩
 | (i,x) :: l,ps,hl=>by
  unfold IC at hl
  split at hl
  ·rename_i v r h1 h2
   cases hl
   have hx:=aN h x
   rw [h1] at hx
   obtain ⟨g1,g2⟩:=tk h h2
   exact ⟨.cons hx g1,by simpa using g2⟩
  ·cases hl
theorem BS (h:aY E R w β s a) (t:TypeId) (parts:Array (Nat × Operand)) (ho:o.op=.build t parts) {v:AV} (hv:lT E s t parts.toList=some v) :
  bH E R w β s a o (s.put o.dst (.v v)):=by
 unfold lT at hv
 split at hv
 ·rename_i i ps hi FR
  split at hv
  ·rename_i z hz
   split at hv
   ·rename_i cs qa
    split at hv
    ·rename_i yt
     cases hv
     simp only [Bool.and_eq_true] at yt
     obtain ⟨yt,oJ⟩:=yt
     obtain ⟨gf,u,e1,e2,e3,e4,e5,e6⟩:=bP E hi
     rw [hz] at e6
     obtain ⟨zc,n9,Bt⟩:=cU e6
     obtain ⟨p1,p2⟩:=tk h FR
     obtain ⟨c1,c2⟩:=Rel.cells (Bt R w) oJ
     have Ml:(parts.map fun (x:Nat × Operand)=>(x.1,a.eval x.2)).toList=parts.toList.map fun x=>(x.1,a.eval x.2):=by simp
     have key:∃ us,E.P.built t (parts.toList.map fun x=>(x.1,a.eval x.2))=some ⟨us⟩∧aI R w cs us∧∀ x∈us,x.oneCell'=true:=by
      cases u <;> simp only [iV] at e4 <;> first | (rw [yt] at e4; cases e4; done) | skip
      ·rename_i n e
       simp only [oC] at e5
       split at e5
       ·rename_i ie ue f1 f2
        injection e5 with e5
        rw [← e5] at qa
        obtain ⟨us,u1,u2,u3⟩:=ng (R:=R) (w:=w) _ p1 p2 c1 c2 qa
        refine ⟨us,?_,u2,u3⟩
        unfold Program.built
        simp only [e1,e2,n9,f1]
        rw [← u1]
        rfl
       ·cases e5
      ·rename_i fs
       simp only [oC] at e5
       split at e5
       ·rename_i l hl
        injection e5 with e5
        rw [← e5] at qa
        obtain ⟨us,u1,u2,u3⟩:=ng (R:=R) (w:=w) _ p1 p2 c1 c2 qa
        refine ⟨us,?_,u2,u3⟩
        unfold Program.built
        simp only [e1,e2,n9,mJ hl]
        rw [← u1]
        have SX:placeOf (.st l)=fun j=>(l.map fun x=>(x.1,x.2.1)).toArray[j]?:=by
         funext j
         simp only [placeOf,aU,List.getElem?_toArray,List.getElem?_map]
         cases l[j]? <;> rfl
        rw [SX]
       ·cases e5
     obtain ⟨us,u1,u2,u3⟩:=key
     refine ap h (c:=.agg ⟨us⟩) ?_ (Rel.agg u2 u3)
     have bj:=run_build (P:=E.P) w t (parts.map fun (x:Nat × Operand)=>(x.1,a.eval x.2)) ⟨us⟩ (by rw [Ml]; exact u1)
     simp only [execOp,ho,Sem.run_bind,bj,Result.andThen_ok,Sem.run_pure]
    ·cases hv
   ·cases hv
  ·cases hv
 ·cases hv
end ops
end Go.Am
