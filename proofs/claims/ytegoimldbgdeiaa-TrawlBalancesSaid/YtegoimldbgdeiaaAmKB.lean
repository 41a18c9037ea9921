/- The abstract machine: lists of cells; what keeps a state's meaning; loads and stores. -/
import Derived.Test.YtegoimldbgdeiaaAmKA
import Derived.Laws.CopyRow
import Derived.Laws.Slices
import Derived.Laws.StructEq
import Derived.ChangeKeysEq
import Derived.Laws.Cover3
import Derived.Laws.Pointers
import Derived.Lib.SliceRun
set_option linter.all false
namespace Go.Am
open Go
section lists
variable {α:Type}
theorem tu (n:Nat) (l:List α):fk n l=l.drop n:=by
 induction n generalizing l with
 | zero=>simp [fk]
 | succ n ih=>cases l <;> simp [fk,ih]
theorem EW {n:Nat} {l r:List α} (h:takeN n l=some r):r=l.take n∧r.length=n:=by
 induction n generalizing l r with
 | zero=>simp [takeN] at h; subst h; simp
 | succ n ih=>
  cases l with
  | nil=>simp [takeN] at h
  | cons a l=>
   unfold takeN at h
   split at h
   ·rename_i r' hr
    cases h
    obtain ⟨h1,h2⟩:=ih hr
    exact ⟨by simp [h1],by simp [h2]⟩
   ·cases h
theorem KS {off n:Nat} {l r:List α} (h:Ct off n l=some r):r=(l.drop off).take n∧r.length=n:=by
 unfold Ct at h
 rw [tu] at h
 exact EW h
theorem eB (l:List α) (off:Nat) (ys:List α) (h:off+ys.length≤l.length):bI l off ys=l.take off++ys++l.drop (off+ys.length):=by
 induction l generalizing off ys with
 | nil=>
  have hy:ys=[]:=List.eq_nil_of_length_eq_zero (by rw [List.length_nil] at h; omega)
  subst hy
  simp [bI]
 | cons a l ih=>
  cases ys with
  | nil=>simp [bI]
  | cons y ys=>
   cases off with
   | zero=>
    simp only [bI]
    rw [ih 0 ys (by simp at h ⊢; omega)]
    simp
   | succ n=>
    simp only [bI]
    rw [ih n (y :: ys) (by simp at h ⊢; omega)]
    rw [show n+1+(y :: ys).length=(n+(y :: ys).length)+1 by omega]
    simp
theorem vF (l:List α) (off:Nat) (ys:List α) (h:off+ys.length≤l.length):(bI l off ys).length=l.length:=by
 rw [eB l off ys h]
 simp
 omega
end lists
section rel
variable {R:aj} {w:World}
theorem aE.length {l:List AV} {vs:List Value} (h:aE R w l vs):l.length=vs.length:=by
 induction l generalizing vs with
 | nil=>cases h; rfl
 | cons a l ih=>cases h with | cons h t=>simp [ih t]
theorem aE.get {l:List AV} {vs:List Value} (h:aE R w l vs) {i:Nat} {a:AV} (ha:l[i]?=some a):∃ c,vs[i]?=some c∧Rel R w a c:=by
 induction l generalizing vs i with
 | nil=>simp at ha
 | cons x l ih=>
  cases h with
  | cons h t=>
   cases i with
   | zero=>simp at ha; subst ha; exact ⟨_,by simp,h⟩
   | succ i=>simp at ha; obtain ⟨c,h1,h2⟩:=ih t ha; exact ⟨c,by simpa using h1,h2⟩
theorem aE.drop {l:List AV} {vs:List Value} (h:aE R w l vs) (n:Nat):aE R w (l.drop n) (vs.drop n):=by
 induction n generalizing l vs with
 | zero=>simpa using h
 | succ n ih=>cases h with
  | nil=>simpa using aE.nil
  | cons h t=>simpa using ih t
theorem aE.take {l:List AV} {vs:List Value} (h:aE R w l vs) (n:Nat):aE R w (l.take n) (vs.take n):=by
 induction n generalizing l vs with
 | zero=>simpa using aE.nil
 | succ n ih=>cases h with
  | nil=>simpa using aE.nil
  | cons h t=>simpa using aE.cons h (ih t)
theorem aE.append {l r:List AV} {vs us:List Value} (h:aE R w l vs) (k:aE R w r us):aE R w (l++r) (vs++us):=by
 induction l generalizing vs with
 | nil=>cases h; simpa using k
 | cons a l ih=>cases h with | cons h t=>exact .cons h (ih t)
theorem aE.one {a:AV} {c:Value} (h:Rel R w a c):aE R w [a] [c]:=.cons h .nil
theorem Rel.cells {a:AV} {c:Value} (h:Rel R w a c) (ht:a.aL=true):aE R w a.cells c.cells.toList∧∀ v∈c.cells.toList,v.oneCell'=true:=by
 cases h with
 | agg h h1=>exact ⟨h,h1⟩
 | bk h=>simp [AV.aL] at ht
 | bool=>exact ⟨.one (.bool _),by simp [Value.cells,Value.oneCell']⟩
 | int=>exact ⟨.one (.int _ _),by simp [Value.cells,Value.oneCell']⟩
 | str=>exact ⟨.one (.str _),by simp [Value.cells,Value.oneCell']⟩
 | li=>exact ⟨.one .li,by simp [Value.cells,Value.oneCell']⟩
 | ptr h=>exact ⟨.one (.ptr h),by simp [Value.cells,Value.oneCell']⟩
 | ep h=>exact ⟨.one (.ep h),by simp [Value.cells,Value.oneCell']⟩
 | iF=>exact ⟨.one .iF,by simp [Value.cells,Value.oneCell']⟩
 | ib=>exact ⟨.one .ib,by simp [Value.cells,Value.oneCell']⟩
 | lT=>exact ⟨.one .lT,by simp [Value.cells,Value.oneCell']⟩
 | lU h ho=>exact ⟨.one (.lU h ho),by simp [Value.cells,Value.oneCell']⟩
 | kT h ho=>exact ⟨.one (.kT h ho),by simp [Value.cells,Value.oneCell']⟩
 | list h hl hc hk=>exact ⟨.one (.list h hl hc hk),by simp [Value.cells,Value.oneCell']⟩
 | iR h hc=>exact ⟨.one (.iR h hc),by simp [Value.cells,Value.oneCell']⟩
 | iW h ho=>exact ⟨.one (.iW h ho),by simp [Value.cells,Value.oneCell']⟩
 | dM h ho hc=>exact ⟨.one (.dM h ho hc),by simp [Value.cells,Value.oneCell']⟩
 | gp h ho=>exact ⟨.one (.gp h ho),by simp [Value.cells,Value.oneCell']⟩
 | jq=>exact ⟨.one .jq,by simp [Value.cells,Value.oneCell']⟩
 | map h=>exact ⟨.one (.map h),by simp [Value.cells,Value.oneCell']⟩
 | dq=>exact ⟨.one .dq,by simp [Value.cells,Value.oneCell']⟩
 | fn h h'=>exact ⟨.one (.fn h h'),by simp [Value.cells,Value.oneCell']⟩
 | yield h=>exact ⟨.one (.yield h),by simp [Value.cells,Value.oneCell']⟩
 | ot=>exact ⟨.one .ot,by simp [Value.cells,Value.oneCell']⟩
 | iface h=>exact ⟨.one (.iface h),by simp [Value.cells,Value.oneCell']⟩
mutual
theorem Rel.gf:∀ {a:AV} {c:Value},Rel R w a c→Rel R w a.gf c
 | _,_,.bool b=>.bool b
 | _,_,.int k n=>.int k n
 | _,_,.str l=>.str l
 | _,_,.agg h h1=>.agg h.gf h1
 | _,_,.bk h=>.bk h.gf
 | _,_,.li=>.li
 | _,_,.ptr h=>.ptr h
 | _,_,.ep h=>.ep h
 | _,_,.iF=>.iF
 | _,_,.ib=>.ib
 | _,_,.lT=>.lT
 | _,_,.lU _ _=>.ib
 | _,_,.kT _ _=>.ib
 | _,_,@Rel.list _ _ .nil _ _ _ _ _ _ h hl hc hk=>.list h hl hc hk
 | _,_,@Rel.list _ _ .full _ _ _ _ _ _ h hl hc hk=>.list h hl hc hk
 | _,_,@Rel.list _ _ .kr _ _ _ _ _ _ h hl hc hk=>.list h hl hc hk
 | _,_,@Rel.list _ _ (.own _) _ _ _ _ _ _ h hl hc _=>.list h hl hc trivial
 | _,_,@Rel.list _ _ (.aU _ _) _ _ _ _ _ _ h hl hc _=>.list h hl hc trivial
 | _,_,.iR h hc=>.iR h hc
 | _,_,.iW h ho=>.iW h ho
 | _,_,.dM h ho hc=>.dM h ho hc
 | _,_,.gp h ho=>.gp h ho
 | _,_,.jq=>.jq
 | _,_,.map h=>.map h
 | _,_,.dq=>.dq
 | _,_,.fn h h'=>.fn h h'
 | _,_,.yield h=>.yield h
 | _,_,.ot=>.ot
 | _,_,.iface h=>.iface h
theorem aE.gf:∀ {l:List AV} {cs:List Value},aE R w l cs→aE R w (kC l) cs
 | _,_,.nil=>.nil
 | _,_,.cons h t=>.cons h.gf t.gf
end
theorem eu.get {b o:Nat} {l:List AV} (h:eu R w b o l):∃ vs,aE R w l vs∧(∀ v∈vs,v.oneCell'=true)∧(∀ j v,vs[j]?=some v→w.cell? ⟨b,o+j,none⟩=some v)∧∀ j,j < l.length→R.I b (o+j):=by
 induction l generalizing o with
 | nil=>exact ⟨[],.nil,by simp,by simp,by simp⟩
 | cons a l ih=>
  cases h with
  | @cons _ _ _ c _ hc h1 hi h t=>
   obtain ⟨vs,k1,k2,k3,k4⟩:=ih t
   refine ⟨c :: vs,.cons h k1,?_,?_,?_⟩
   ·intro v hv
    rcases List.mem_cons.1 hv with rfl | hv
    ·exact h1
    ·exact k2 v hv
   ·intro j v hv
    cases j with
    | zero=>simp at hv; subst hv; exact hc
    | succ j=>simp at hv; have:=k3 j v hv; rwa [show o+1+j=o+(j+1) by omega] at this
   ·intro j hj
    cases j with
    | zero=>exact hi
    | succ j=>have:=k4 j (by simp at hj; omega); rwa [show o+1+j=o+(j+1) by omega] at this
theorem eu.make {b o:Nat} {l:List AV} {vs:List Value} (h:aE R w l vs) (h1:∀ v∈vs,v.oneCell'=true) (hc:∀ j v,vs[j]?=some v→w.cell? ⟨b,o+j,none⟩=some v) (hi:∀ j,j < l.length→R.I b (o+j)):eu R w b o l:=by
 induction l generalizing vs o with
 | nil=>exact .nil
 | cons a l ih=>
  cases h with
  | cons h t=>
   refine .cons (hc 0 _ (by simp)) (h1 _ (by simp)) (hi 0 (by simp)) h (ih t (fun v hv=>h1 v (by simp [hv])) (fun j v hv=>?_) (fun j hj=>?_))
   ·have:=hc (j+1) v (by simpa using hv); rwa [show o+(j+1)=o+1+j by omega] at this
   ·have:=hi (j+1) (by simpa using hj); rwa [show o+(j+1)=o+1+j by omega] at this
theorem eu.drop {b o:Nat} {l:List AV} (h:eu R w b o l) (n:Nat):eu R w b (o+n) (l.drop n):=by
 induction n generalizing o l with
 | zero=>simpa using h
 | succ n ih=>cases h with
  | nil=>simpa using eu.nil
  | cons hc h1 hi h t=>have:=ih t; rw [show o+1+n=o+(n+1) by omega] at this; simpa using this
end rel
theorem bY (b o n:Nat):(⟨b,o,none⟩:Addr).add n=⟨b,o+n,none⟩:=by unfold Addr.add; split <;> simp_all
section aW
variable {E:Env} {R R':aj} {w w':World} {β β':Nat→Nat} {s:St} {a:Act}
theorem mQ.mono (e:Ext R w R' w') {sl:aT} {tm:Array Value} (h:mQ R w β sl tm):mQ R' w' β sl tm:=
 fun i hi=>let ⟨c,h1,h2⟩:=h i hi; ⟨c,h1,h2.mono e⟩
theorem cU.mono (e:Ext R w R' w'):∀ {l:List (AV × AV)} {es:List MapEntry},cU R w l es→cU R' w' l es
 | [],[],_=>trivial
 | (_,_) :: _,_ :: _,h=>⟨h.1.mono e,h.2.1.mono e,cU.mono e h.2.2⟩
 | [],_ :: _,h=>h.elim
 | _ :: _,[],h=>h.elim
theorem mR {w w':World} {b:Nat} (h:b < w.heap.size) (e:w'.heap[b]?=w.heap[b]?):b < w'.heap.size:=by
 rw [Array.getElem?_eq_getElem h] at e
 exact (Array.getElem?_eq_some_iff.1 e).1
theorem fZ.mono (e:Ext R w R' w') {go:GO} {ro:RO} (h:fZ R w go ro) (hb:∀ b,ro.has b→w'.heap[b]?=w.heap[b]?) (hi:∀ b o,ro.has b→R'.I b o→R.I b o):fZ R' w' go ro:=by
 cases ro with
 | none=>cases go <;> first | exact h | exact h.elim
 | bj=>cases go <;> first | exact h | exact h.elim
 | bq b=>
  have kF:=hb b rfl
  cases go with
  | dead=>exact mR h kF
  | row cs el=>obtain ⟨vs,h1,h2,h3,h4⟩:=h; exact ⟨vs,kF.trans h1,h2.mono e,h3,fun o ho=>h4 o (hi b o rfl ho)⟩
  | tok f sz el=>exact h.elim
  | aU _ _ _=>exact h.elim
  | gQ oS n left _=>obtain ⟨bm,seen,c0,h1,h2,h3⟩:=h; exact ⟨bm,seen,c0,e.bq h1,kF.trans h2,h3⟩
  | du es sz el=>exact h.elim
  | map es=>obtain ⟨av,clock,h1,h2,h3⟩:=h; exact ⟨av,clock,kF.trans h1,cU.mono e h2,h3⟩
  | fV l pos=>exact kF.trans h
  | loop busy pending fn ae n params assign body defers done=>
   obtain ⟨⟨r,db,h1,h2,h3,h4,h5,h6,h7,h8,h9,U6⟩,h10⟩:=h
   exact ⟨⟨r,db,kF.trans h1,h2,h3,h4.mono e,h5,h6,h7,h8,h9,e.bq U6⟩,h10⟩
  | defers o=>exact kF.trans h
 | tok f b c=>
  have kF:=hb b rfl
  cases go with
  | tok f' sz el=>
   obtain ⟨h0,cur,h1,h2,h3,h4,h5⟩:=h
   exact ⟨h0,cur,kF.trans h1,h2,h3,h4,fun o ho oB=>h5 o ho (hi b o rfl oB)⟩
  | du es sz el=>
   obtain ⟨h0,nV,cur,vs,h1,h2,h3,h4,h5,h6,h7,h8⟩:=h
   exact ⟨h0,nV,cur,vs,kF.trans h1,h2,h3,h4,fun o ho=>h5 o (hi b o rfl ho),h6.mono e,h7,h8⟩
  | dead=>exact mR h kF
  | row cs=>exact h.elim
  | aU _ _ _=>exact h.elim
  | gQ _ _ _ _=>exact h.elim
  | map es=>exact h.elim
  | fV l pos=>exact h.elim
  | loop=>exact h.elim
  | defers o=>exact h.elim
 | aU ts=>
  cases go with
  | aU fs sz el=>
   obtain ⟨h1,h2,h3⟩:=h
   refine ⟨h1,h2,fun j f t hf ht=>?_⟩
   have h4:=h3 j f t hf ht
   cases t with
   | bj=>exact h4
   | full f'=>exact h4
   | tok f' b c=>
    obtain ⟨h5,cur,k1,k2,k3,k4,k5⟩:=h4
    have hh:RO.has (.aU ts) b:=⟨j,f',c,ht⟩
    exact ⟨h5,cur,(hb b hh).trans k1,k2,k3,k4,fun o ho oB=>k5 o ho (hi b o hh oB)⟩
  | dead=>exact fun j f b c ht=>mR (h j f b c ht) (hb b ⟨j,f,c,ht⟩)
  | _=>exact h.elim
theorem Live.of {id b:Nat} {ro:RO} (h:nth R.obj id=some ro) (hb:ro.has b):Live R b:=⟨id,ro,h,hb⟩
theorem dP.aW {G:List GO} (h:dP E R w G) (e:Ext R w R' w') (ho:R'.obj=R.obj) (hb:∀ b,Live R b→w'.heap[b]?=w.heap[b]?) (hi:∀ b o,Live R b→R'.I b o→R.I b o) (wf:∀ b o,R'.I b o→b < w'.heap.size) (hd:E.lo≤w.drawn→E.lo≤w'.drawn:=by first | exact fun h=>h | exact fun h=>Nat.le_succ_of_le h):dP E R' w' G where
 lo:=hd h.lo
 len:=by rw [ho]; exact h.len
 obj:=fun id go ro hg hr=>by
  rw [ho] at hr
  exact (h.obj id go ro hg hr).mono e (fun b NI=>hb b (.of hr NI)) (fun b o NI=>hi b o (.of hr NI))
 inj:=fun i j ri rj b h1 h2=>by rw [ho] at h1 h2; exact h.inj i j ri rj b h1 h2
 wf:=wf
 dD:=fun g cs hg=>(h.dD g cs hg).mono e
theorem HL.aW {bx:ck} (h:HL R w β bx) (e:Ext R w R' w') (hb:∀ k cs,de bx k=some cs→w'.heap[β k]?=w.heap[β k]?) (hi:∀ k cs o,de bx k=some cs→R'.I (β k) o→R.I (β k) o) (hl:∀ k cs,de bx k=some cs→Live R' (β k)→Live R (β k)):HL R' w' β bx where
 box:=fun k cs hk=>by
  obtain ⟨⟨vs,el,h1,h2,h3⟩,h4,h5⟩:=h.box k cs hk
  exact ⟨⟨vs,el,(hb k cs hk).trans h1,h2.mono e,h3⟩,fun o ho=>h4 o (hi k cs o hk ho),fun yM=>h5 (hl k cs hk yM)⟩
 inj:=h.inj
theorem ox.mono (e:Ext R w R' w'):∀ {l:List Nat} {ds:List Deferred},ox R l ds→ox R' l ds
 | [],[],_=>trivial
 | _ :: _,_ :: _,h=>let ⟨⟨b,h1,h2⟩,h3⟩:=h; ⟨⟨b,e.bq h1,h2⟩,ox.mono e h3⟩
 | [],_ :: _,h=>h.elim
 | _ :: _,[],h=>h.elim
theorem aV.aW (h:aV E R w β s a) (e:Ext R w R' w') (ho:R'.obj=R.obj) (hb:∀ b,Own R β s.boxes b→w'.heap[b]?=w.heap[b]?) (hi:∀ b o,Own R β s.boxes b→R'.I b o→R.I b o) (wf:∀ b o,R'.I b o→b < w'.heap.size) (hd:E.lo≤w.drawn→E.lo≤w'.drawn:=by first | exact fun h=>h | exact fun h=>Nat.le_succ_of_le h):aV E R' w' β s a where
 g:=h.g.aW e ho (fun b hl=>hb b (.inl hl)) (fun b o hl=>hi b o (.inl hl)) wf hd
 b:=h.b.aW e (fun k cs hk=>hb _ (.inr ⟨k,cs,hk,rfl⟩)) (fun k cs o hk=>hi _ o (.inr ⟨k,cs,hk,rfl⟩)) (fun k cs _ hl=>by obtain ⟨id,ro,h1,h2⟩:=hl; rw [ho] at h1; exact ⟨id,ro,h1,h2⟩)
 t:=h.t.mono e
 n:=h.n
 d:=h.d.mono e
theorem aY {w:World} {b:Nat} {o:Obj} (h:w.heap[b]?=some o):b < w.heap.size:=(Array.getElem?_eq_some_iff.1 h).1
theorem fZ.lt {go:GO} {ro:RO} (h:fZ R w go ro) {b:Nat} (hb:ro.has b):b < w.heap.size:=by
 cases ro with
 | none=>exact hb.elim
 | bj=>exact hb.elim
 | bq x=>
  have hb:b=x:=hb
  subst hb
  cases go with
  | dead=>exact h
  | row cs el=>obtain ⟨vs,h1,_⟩:=h; exact aY h1
  | tok f sz el=>exact h.elim
  | aU _ _ _=>exact h.elim
  | gQ oS n left _=>obtain ⟨bm,seen,c0,_,h2,_⟩:=h; exact aY h2
  | du es sz el=>exact h.elim
  | map es=>obtain ⟨av,clock,h1,_⟩:=h; exact aY h1
  | fV l pos=>exact aY h
  | loop=>obtain ⟨⟨r,db,h1,_⟩,_⟩:=h; exact aY h1
  | defers o=>exact aY h
 | tok f x c=>
  have hb:b=x:=hb
  subst hb
  cases go with
  | tok f' sz el=>obtain ⟨_,cur,h1,_⟩:=h; exact aY h1
  | du es sz el=>obtain ⟨_,_,cur,vs,h1,_⟩:=h; exact aY h1
  | dead=>exact h
  | row cs=>exact h.elim
  | aU _ _ _=>exact h.elim
  | gQ _ _ _ _=>exact h.elim
  | map es=>exact h.elim
  | fV l pos=>exact h.elim
  | loop=>exact h.elim
  | defers o=>exact h.elim
 | aU ts=>
  obtain ⟨j,f,c,ht⟩:=hb
  cases go with
  | aU fs sz el=>
   obtain ⟨h1,h2,h3⟩:=h
   have bK:=bp ht
   rw [h1] at bK
   obtain ⟨f',hf⟩:∃ f',nth fs j=some f':=⟨fs[j],by rw [aR]; exact List.getElem?_eq_getElem bK⟩
   obtain ⟨_,cur,k1,_⟩:=h3 j f' _ hf ht
   exact aY k1
  | dead=>exact h j f b c ht
  | _=>exact h.elim
theorem dP.bU {G:List GO} (h:dP E R w G) {b:Nat} (hl:Live R b):b < w.heap.size:=by
 obtain ⟨id,ro,h1,h2⟩:=hl
 have bK:=bp h1
 rw [h.len] at bK
 obtain ⟨go,gR⟩:∃ go,nth G id=some go:=⟨G[id],by rw [aR]; exact List.getElem?_eq_getElem bK⟩
 exact (h.obj id go ro gR h1).lt h2
theorem aV.dL (h:aV E R w β s a) {b:Nat} (ho:Own R β s.boxes b):b < w.heap.size:=by
 rcases ho with hl | ⟨k,cs,hk,rfl⟩
 ·exact h.g.bU hl
 ·obtain ⟨⟨vs,el,h1,_⟩,_⟩:=h.b.box k cs hk
  exact aY h1
theorem bQ {w w':World} {b:Nat} (h:w'.heap[b]?=w.heap[b]?) (o:Nat):w'.cell? ⟨b,o,none⟩=w.cell? ⟨b,o,none⟩:=by simp [World.cell?,h]
theorem wj (wf:∀ b o,R.I b o→b < w.heap.size) (x:Obj):Ext R w R (w.alloc x):=
 ⟨fun _ _ h=>h,fun b o h=>bQ (heap_alloc_old w x b (wf b o h)) o,fun _ ro h=>⟨ro,h,bZ.refl ro⟩,.old fun b hb=>heap_alloc_old w x b hb⟩
theorem aV.alloc (h:aV E R w β s a) (x:Obj):aV E R (w.alloc x) β s a:=
 h.aW (wj h.g.wf x) rfl (fun b hb=>heap_alloc_old w x b (h.dL hb)) (fun _ _ _ hi=>hi) (fun b o hi=>by have:=h.g.wf b o hi; simp; omega)
end aW
end Go.Am
namespace Go.Am
open Go
theorem EX {a b:AV} (h:vX a b=true):a=b:=by
 unfold vX at h
 split at h
 all_goals (first | (cases h; done) | skip)
 all_goals (try simp only [Bool.and_eq_true,beq_iff_eq,Nat.beq_eq] at h)
 all_goals (simp [*])
mutual
theorem iG:∀ {a b:AV},dx a b=true→a=b:=by
 intro a b h
 unfold dx at h
 split at h
 ·simp only [Bool.and_eq_true,Nat.beq_eq] at h; rw [h.1.1,fF h.1.2,fF h.2]
 ·rw [fF h]
 ·rw [fF h]
 ·rw [fF h]
 ·simp only [Bool.and_eq_true,Nat.beq_eq] at h; rw [h.1,fF h.2]
 ·simp only [Bool.and_eq_true,Nat.beq_eq] at h; rw [h.1,fF h.2]
 ·simp only [Bool.and_eq_true,Nat.beq_eq] at h; rw [h.1,fF h.2]
 ·simp only [Bool.and_eq_true,Nat.beq_eq] at h; rw [h.1.1,h.1.2,fF h.2]
 ·simp only [Bool.and_eq_true,Nat.beq_eq] at h; rw [h.1.1.1,h.1.1.2,h.1.2,fF h.2]
 ·exact EX h
theorem fF:∀ {l r:List AV},ea l r=true→l=r:=by
 intro l r h
 unfold ea at h
 split at h
 ·rfl
 ·rw [Bool.and_eq_true] at h; rw [iG h.1,fF h.2]
 ·cases h
end
def xy (a b:AV):Prop:=∀ (R:aj) (w:World) (c:Value),Rel R w a c→Rel R w b c
def ca:List AV→List AV→Prop
 | [],[]=>True
 | a :: l,b :: r=>xy a b∧ca l r
 | _,_=>False
theorem xy.refl (a:AV):xy a a:=fun _ _ _ h=>h
theorem ca.refl:∀ l:List AV,ca l l
 | []=>trivial
 | a :: l=>⟨xy.refl a,ca.refl l⟩
theorem ca.length:∀ {l r:List AV},ca l r→l.length=r.length
 | [],[],_=>rfl
 | _ :: _,_ :: _,h=>by simp [ca.length h.2]
 | [],_ :: _,h=>h.elim
 | _ :: _,[],h=>h.elim
theorem ca.rel {R:aj} {w:World}:∀ {l r:List AV} {cs:List Value},ca l r→aE R w l cs→aE R w r cs
 | [],[],_,_,h=>h
 | _ :: _,_ :: _,_,k,.cons h t=>.cons (k.1 _ _ _ h) (ca.rel k.2 t)
 | [],_ :: _,_,h,_=>h.elim
 | _ :: _,[],_,h,_=>h.elim
theorem ca.EY {R:aj} {w:World}:∀ {l r:List AV} {b o:Nat},ca l r→eu R w b o l→eu R w b o r
 | [],[],_,_,_,_=>.nil
 | _ :: _,_ :: _,_,_,k,.cons hc h1 hi h t=>.cons hc h1 hi (k.1 _ _ _ h) (ca.EY k.2 t)
 | [],_ :: _,_,_,h,_=>h.elim
 | _ :: _,[],_,_,h,_=>h.elim
theorem ca.append:∀ {a b c d:List AV},ca a b→ca c d→ca (a++c) (b++d)
 | [],[],_,_,_,h=>h
 | _ :: _,_ :: _,_,_,k,h=>⟨k.1,ca.append k.2 h⟩
 | [],_ :: _,_,_,h,_=>h.elim
 | _ :: _,[],_,_,h,_=>h.elim
structure hY (v u:AV):Prop where
 gf:xy v u
 bk:u.aL=v.aL
 cells:v.aL=true→ca v.cells u.cells
 closed:v.closed=true→u.closed=true
theorem sU {u v a:AV} (h:(ah.two u v).fits a=true):(ah.two u v).enc ((ah.two u v).a7 a)=a:=by
 change (dx a u || dx a v)=true at h
 change (bif dx a v then v else u)=a
 cases hs:dx a v with
 | true=>exact (iG hs).symm
 | false=>
  rw [hs,Bool.or_false] at h
  exact (iG h).symm
theorem hY.refl (v:AV):hY v v:=⟨xy.refl v,rfl,fun _=>ca.refl _,fun h=>h⟩
theorem AX {a b:IntKind} (h:NG a b=true):a=b:=of_decide_eq_true h
theorem pL {α:Type} {f:AV→Bool} {d:AV→α} {g:α→AV} (Cx:∀ v,f v=true→hY v (g (d v))) {R:aj} {w:World} :
  ∀ {es:List AV} {b o sz:Nat},allFit f es=true→gj R w b o sz es→gj R w b o sz ((es.map d).map g)
 | [],b,o,sz,_,_=>.nil
 | e :: es,b,o,sz,h,hr=>by
  simp only [allFit,Bool.and_eq_true] at h
  cases hr with
  | cons hl ht hk hc t=>
   have d':=Cx e h.1
   have wc:=d'.cells ht
   exact .cons (by rw [← wc.length,hl]) (by rw [d'.bk,ht]) (d'.closed hk) (wc.EY hc) (pL Cx h.2 t)
theorem Dy {R:aj} {w:World} {b o sz bl:Nat} {es:List AV} (h:es=[]∨sz=bl) (hr:gj R w b o bl es):gj R w b o sz es:=by
 rcases h with rfl | rfl
 ·exact .nil
 ·exact hr
theorem Dz {α:Type} {f:AV→Bool} {d:AV→α} {g:α→AV} (Cx:∀ v,f v=true→hY v (g (d v))) {k:LK} {sz bl:Nat} {es:List AV} (hs:es=[]∨sz=bl) (h:allFit f es=true) :
  xy (.list k bl es) (.list .kr sz ((es.map d).map g)):=fun R w c hr=>by
 cases hr with
 | iF=>exact .ib
 | ib=>exact .ib
 | lT=>exact .lT
 | lU _ _=>exact .ib
 | kT _ _=>exact .ib
 | list hr hlen hc hk=>exact .list (pL Cx h (Dy hs hr)) (by simp [hlen]) hc trivial
theorem EZ {α:Type} {f:AV→Bool} {d:AV→α} {g:α→AV} (Cx:∀ v,f v=true→hY v (g (d v))) {id sz:Nat} {es:List AV} (h:allFit f es=true) :
  xy (.list (.own id) sz es) (.list (.own id) sz ((es.map d).map g)):=fun R w c hr=>by
 cases hr with
 | lU h1 h2=>exact .lU h1 h2
 | list hr hlen hc hk=>exact .list (pL Cx h hr) (by simp [hlen]) hc hk
theorem E0 {α:Type} {f:AV→Bool} {d:AV→α} {g:α→AV} (Cx:∀ v,f v=true→hY v (g (d v))) {id j sz:Nat} {es:List AV} (h:allFit f es=true) :
  xy (.list (.aU id j) sz es) (.list (.aU id j) sz ((es.map d).map g)):=fun R w c hr=>by
 cases hr with
 | kT h1 h2=>exact .kT h1 h2
 | list hr hlen hc hk=>exact .list (pL Cx h hr) (by simp [hlen]) hc hk
mutual
theorem ah.cz:∀ (p:ah) {v:AV},p.fits v=true→hY v (p.enc (p.a7 v))
 | .int k,v,h=>by
  cases v with
  | int k' n=>
   have hk:NG k k'=true:=h
   rw [AX hk]
   exact hY.refl _
  | _=>cases h
 | .bool,v,h=>by
  cases v with
  | bool b=>exact hY.refl _
  | _=>cases h
 | .str,v,h=>by
  cases v with
  | str b=>exact hY.refl _
  | _=>cases h
 | .agg ps,v,h=>by
  cases v with
  | agg cs=>
   obtain ⟨h1,h2⟩:=ps.cz (show ps.fits cs=true from h)
   exact ⟨fun R w c hr=>by cases hr with | agg hr qT=>exact .agg (h1.rel hr) qT,rfl,fun _=>h1,fun hc=>by
    have pM:aM cs=true:=by simpa [AV.closed] using hc
    show AV.closed (.agg (ps.enc (ps.a7 cs)))=true
    simp only [AV.closed]; exact h2 pM⟩
  | _=>cases h
 | .bk ps,v,h=>by
  cases v with
  | bk cs=>
   obtain ⟨h1,h2⟩:=ps.cz (show ps.fits cs=true from h)
   exact ⟨fun R w c hr=>by cases hr with | bk hr=>exact .bk (h1.rel hr),rfl,fun hn=>by simp [AV.aL] at hn,fun hc=>by
    have pM:aM cs=true:=by simpa [AV.closed] using hc
    show AV.closed (.bk (ps.enc (ps.a7 cs)))=true
    simp only [AV.closed]; exact h2 pM⟩
  | _=>cases h
 | .list sz p,v,h=>by
  cases v with
  | list k bl es=>
   have hb:((Nat.beq sz bl || es.isEmpty)&&allFit p.fits es)=true:=h
   simp only [Bool.and_eq_true,Bool.or_eq_true,Nat.beq_eq,List.isEmpty_iff] at hb
   have hw:=Dz (k:=k) (fun v=>p.cz) hb.1.symm hb.2
   exact ⟨hw,rfl,fun _=>⟨hw,trivial⟩,fun _=>rfl⟩
  | _=>cases h
 | .own id sz p,v,h=>by
  cases v with
  | list k bl es=>
   cases k with
   | own iS=>
    have hb:((Nat.beq id iS&&Nat.beq sz bl)&&allFit p.fits es)=true:=h
    simp only [Bool.and_eq_true,Nat.beq_eq] at hb
    obtain ⟨⟨rfl,rfl⟩,hf⟩:=hb
    have hw:=EZ (id:=id) (sz:=sz) (fun v=>p.cz) hf
    exact ⟨hw,rfl,fun _=>⟨hw,trivial⟩,fun hc=>by simp [AV.closed,LK.closed] at hc⟩
   | _=>cases h
  | _=>cases h
 | .aU id sz p,v,h=>by
  cases v with
  | list k bl es=>
   cases k with
   | aU iS j=>
    have hb:((Nat.beq id iS&&Nat.beq sz bl)&&allFit p.fits es)=true:=h
    simp only [Bool.and_eq_true,Nat.beq_eq] at hb
    obtain ⟨⟨rfl,rfl⟩,hf⟩:=hb
    have hw:=E0 (id:=id) (j:=j) (sz:=sz) (fun v=>p.cz) hf
    exact ⟨hw,rfl,fun _=>⟨hw,trivial⟩,fun hc=>by simp [AV.closed,LK.closed] at hc⟩
   | _=>cases h
  | _=>cases h
 | .py u,v,h=>by
  have:=iG (show dx v u=true from h)
  subst this
  exact hY.refl _
 | .two u v,a,h=>by
  have hv:(ah.two u v).enc ((ah.two u v).a7 a)=a:=sU h
  rw [hv]
  exact hY.refl _
theorem aC.cz:∀ (ps:aC) {l:List AV},ps.fits l=true→ca l (ps.enc (ps.a7 l))∧(aM l=true→aM (ps.enc (ps.a7 l))=true)
 | .nil,l,h=>by
  cases l with
  | nil=>exact ⟨trivial,fun h=>h⟩
  | cons _ _=>cases h
 | .cons p .nil,l,h=>by
  match l,h with
  | [],h=>cases h
  | a :: l,h=>
   have h':(p.fits a&&l.isEmpty)=true:=h
   simp only [Bool.and_eq_true,List.isEmpty_iff] at h'
   obtain ⟨h1,rfl⟩:=h'
   have d:=p.cz h1
   exact ⟨⟨d.gf,trivial⟩,fun hc=>by
    simp only [aM,Bool.and_true] at hc
    show aM [p.enc (p.a7 a)]=true
    simp only [aM,Bool.and_true]
    exact d.closed hc⟩
 | .cons p (.cons q ps),l,h=>by
  cases l with
  | nil=>cases h
  | cons a l=>
   have h':(p.fits a&&(aC.cons q ps).fits l)=true:=h
   rw [Bool.and_eq_true] at h'
   have d:=p.cz h'.1
   obtain ⟨k1,k2⟩:=(aC.cons q ps).cz h'.2
   exact ⟨⟨d.gf,k1⟩,fun hc=>by
    simp only [aM,Bool.and_eq_true] at hc
    show aM (p.enc (p.a7 a) :: (aC.cons q ps).enc ((aC.cons q ps).a7 l))=true
    simp only [aM,Bool.and_eq_true]
    exact ⟨d.closed hc.1,k2 hc.2⟩⟩
end
theorem ah.oX (p:ah) {v:AV} {x:p.T} (h:p.dec v=some x):hY v (p.enc x):=by
 unfold ah.dec at h
 cases hf:p.fits v with
 | true=>rw [hf] at h; cases h; exact p.cz hf
 | false=>rw [hf] at h; cases h
theorem aC.oX (ps:aC) {l:List AV} {x:ps.T} (h:ps.dec l=some x):ca l (ps.enc x)∧(aM l=true→aM (ps.enc x)=true):=by
 unfold aC.dec at h
 cases hf:ps.fits l with
 | true=>rw [hf] at h; cases h; exact ps.cz hf
 | false=>rw [hf] at h; cases h
mutual
def ah.plain:ah→Bool
 | .agg ps=>ps.plain
 | .bk ps=>ps.plain
 | .list _ p=>p.plain
 | .own _ _ p=>p.plain
 | .aU _ _ p=>p.plain
 | .py v=>dx v v
 | .two u v=>dx u u&&dx v v&&!dx u v
 | _=>true
def aC.plain:aC→Bool
 | .nil=>true
 | .cons p ps=>p.plain&&ps.plain
end
theorem lX {α:Type} {f:AV→Bool} {g:α→AV} (h:∀ x,f (g x)=true):∀ xs:List α,allFit f (xs.map g)=true
 | []=>rfl
 | x :: xs=>by simp only [List.map_cons,allFit,h x,lX h xs,Bool.and_self]
theorem sV {α:Type} {d:AV→α} {g:α→AV} (h:∀ x,d (g x)=x):∀ xs:List α,(xs.map g).map d=xs
 | []=>rfl
 | x :: xs=>by simp only [List.map_cons,h x,sV h xs]
mutual
theorem ah.ba:∀ (p:ah) (x:p.T),p.plain=true→p.fits (p.enc x)=true∧p.a7 (p.enc x)=x
 | .int k,x,_=>⟨decide_eq_true rfl,rfl⟩
 | .bool,x,_=>⟨rfl,rfl⟩
 | .str,x,_=>⟨rfl,rfl⟩
 | .agg ps,x,h=>ps.ba x h
 | .bk ps,x,h=>ps.ba x h
 | .list sz p,x,h=>by
  refine ⟨?_,sV (fun y=>(p.ba y h).2) x⟩
  change ((Nat.beq sz sz || (List.map p.enc x).isEmpty)&&allFit p.fits (List.map p.enc x))=true
  rw [Nat.beq_refl,Bool.true_or,Bool.true_and]
  exact lX (fun y=>(p.ba y h).1) x
 | .own id sz p,x,h=>by
  refine ⟨?_,sV (fun y=>(p.ba y h).2) x⟩
  change ((Nat.beq id id&&Nat.beq sz sz)&&allFit p.fits (List.map p.enc x))=true
  rw [Nat.beq_refl,Nat.beq_refl,Bool.true_and,Bool.true_and]
  exact lX (fun y=>(p.ba y h).1) x
 | .aU id sz p,(x:Nat × List p.T),h=>by
  refine ⟨?_,?_⟩
  ·change ((Nat.beq id id&&Nat.beq sz sz)&&allFit p.fits (List.map p.enc x.2))=true
   rw [Nat.beq_refl,Nat.beq_refl,Bool.true_and,Bool.true_and]
   exact lX (fun y=>(p.ba y h).1) x.2
  ·change (x.1,(List.map p.enc x.2).map p.a7)=x
   rw [sV (fun y=>(p.ba y h).2) x.2]
 | .py v,x,h=>⟨h,rfl⟩
 | .two u v,(x:Bool),h=>by
  change (dx u u&&dx v v&&!dx u v)=true at h
  simp only [Bool.and_eq_true,Bool.not_eq_true'] at h
  obtain ⟨⟨h1,h2⟩,h3⟩:=h
  cases x
  ·exact ⟨by change (dx u u || dx u v)=true; rw [h1]; rfl,h3⟩
  ·exact ⟨by change (dx v u || dx v v)=true; rw [h2,Bool.or_true],h2⟩
theorem aC.ba:∀ (ps:aC) (x:ps.T),ps.plain=true→ps.fits (ps.enc x)=true∧ps.a7 (ps.enc x)=x
 | .nil,x,_=>⟨rfl,rfl⟩
 | .cons p .nil,x,h=>by
  have h':(p.plain&&true)=true:=h
  rw [Bool.and_true] at h'
  have:=p.ba x h'
  exact ⟨by change (p.fits (p.enc x)&&true)=true; rw [this.1]; rfl,this.2⟩
 | .cons p (.cons q ps),x,h=>by
  have h':(p.plain&&(aC.cons q ps).plain)=true:=h
  rw [Bool.and_eq_true] at h'
  have h1:=p.ba x.1 h'.1
  have h2:=(aC.cons q ps).ba x.2 h'.2
  refine ⟨?_,?_⟩
  ·change (p.fits (p.enc x.1)&&(aC.cons q ps).fits ((aC.cons q ps).enc x.2))=true
   rw [h1.1,h2.1]
   rfl
  ·change (p.a7 (p.enc x.1),(aC.cons q ps).a7 ((aC.cons q ps).enc x.2))=x
   rw [h1.2,h2.2]
   rfl
end
end Go.Am
namespace Go.Am
open Go
theorem bG (E:Env) {t:TypeId} {i:TI} (h:E.ti t=some i) :
  ∃ gb u,E.P.info? t=some gb∧E.P.underlying t=some u∧gb.size=i.size∧iT u=i.agg∧ou E.P u=some i.k∧fQ gb=i.zero:=by
 have h1:=E.Dr t i h
 unfold Dq at h1
 split at h1
 ·rename_i gb u h2 h3
  split at h1
  ·rename_i k hk
   cases h1
   exact ⟨gb,u,h2,h3,rfl,rfl,hk,rfl⟩
  ·cases h1
 ·cases h1
section runs
variable {P:Program} (w:World)
theorem wo {t:TypeId} {u:TypeDesc} (h:P.underlying t=some u):(isAgg t).run P w=.ok (iT u) w:=by
 unfold isAgg
 simp only [Sem.run_bind,run_underlying h,Result.andThen_ok]
 cases u <;> rfl
theorem run_sizeOf {t:TypeId} {i:TypeInfo} (h:P.info? t=some i):(sizeOf t).run P w=.ok i.size w:=by
 simp [sizeOf,typeInfo,h]
theorem gk {t:TypeId} {i:TypeInfo} {z:Value} (h:P.info? t=some i) (hz:i.zero=some z):(zeroValue t).run P w=.ok z w:=by
 simp [zeroValue,typeInfo,h,hz]
theorem tv (t:TypeId) (v:Value):(newVar t v).run P w=.ok ⟨w.heap.size,0,none⟩ (w.alloc (.cells v.cells t)):=by
 simp only [newVar,newRow,Sem.run_bind,run_newObj,Result.andThen_ok,Sem.run_pure]
 rfl
end runs
theorem tw {R:aj} {w:World} {ag:Bool} {l:List AV} {v:AV} {vs:List Value} (hm:qM ag l=some v) (h:aE R w l vs) (h1:∀ x∈vs,x.oneCell'=true) :
  (ag=true→Rel R w v (.agg ⟨vs⟩))∧(ag=false→∃ c,vs=[c]∧Rel R w v c):=by
 unfold qM at hm
 cases ag with
 | true=>
  simp at hm
  subst hm
  exact ⟨fun _=>.agg h h1,fun e=>by cases e⟩
 | false=>
  refine ⟨(fun e=>by cases e),fun _=>?_⟩
  simp only [Bool.false_eq_true,if_false] at hm
  split at hm
  ·cases hm
   cases h with
   | cons h t=>
    cases t
    exact ⟨_,rfl,h⟩
  ·cases hm
theorem mS {E:Env} {R:aj} {w:World} {t:TypeId} {i:TI} (hi:E.ti t=some i) {b off:Nat} {l:List AV} {vs:List Value} {v:AV}
  (hl:l.length=i.size) (hr:aE R w l vs) (h1:∀ x∈vs,x.oneCell'=true) (hc:∀ j x,vs[j]?=some x→w.cell? ⟨b,off+j,none⟩=some x) (hm:qM i.agg l=some v) :
  ∃ c,(loadVar t ⟨b,off,none⟩).run E.P w=.ok c w∧Rel R w v c:=by
 obtain ⟨gb,u,e1,e2,e3,e4,_⟩:=bG E hi
 obtain ⟨m1,m2⟩:=tw hm hr h1
 unfold loadVar
 simp only [Sem.run_bind,wo w e2,Result.andThen_ok,e4]
 cases ha:i.agg with
 | true=>
  refine ⟨.agg ⟨vs⟩,?_,m1 ha⟩
  have hlen:gb.size=vs.length:=by rw [e3,← hl,hr.length]
  have:=run_loadCells_list (P:=E.P) w ⟨b,off,none⟩ vs (fun j x hx=>by rw [bY]; exact hc j x hx)
  simp [run_sizeOf w e1,hlen,this]
 | false=>
  obtain ⟨c,rfl,dv⟩:=m2 ha
  refine ⟨c,?_,dv⟩
  have:=hc 0 c (by simp)
  simp only [Nat.add_zero] at this
  simp [run_load,this]
theorem iH {w:World} {b:Nat} {vs:List Value} {el:TypeId} {fr:Nat × Nat} (h:w.heap[b]?=some (.cells ⟨vs⟩ el fr)) (j:Nat):w.cell? ⟨b,j,none⟩=vs[j]?:=by
 simp [World.cell?,h]
theorem rT {E:Env} {R:aj} {w:World} {β:Nat→Nat} {s:St} {a:Act} (h:aV E R w β s a) {p:SV} {c:Value} (hp:ow R w β p c) {cs:List AV} {off:Nat} (hc:lN s p=some (cs,off)) :
  ∃ b o vs,c=.pointer (some ⟨b,o+off,none⟩)∧aE R w cs vs∧(∀ x∈vs,x.oneCell'=true)∧∀ j x,vs[j]?=some x→w.cell? ⟨b,o+j,none⟩=some x:=by
 unfold lN at hc
 split at hc
 ·rename_i k fE
  split at hc
  ·rename_i eO hk
   cases hc
   obtain ⟨⟨vs,el,h1,h2,h3⟩,_⟩:=h.b.box k cs hk
   exact ⟨β k,0,vs,by rw [hp]; simp,h2,h3,fun j x hx=>by rw [iH h1]; simpa using hx⟩
  ·cases hc
 ·rename_i id fE
  split at hc
  ·rename_i eO hk
   cases hc
   cases hp with
   | @ptr _ _ b hb=>
    obtain ⟨vs,h1,h2,h3,_⟩:=h.g.obj id _ _ hk hb
    exact ⟨b,0,vs,by simp,h2,h3,fun j x hx=>by rw [iH h1]; simpa using hx⟩
  ·cases hc
 ·rename_i eO
  cases hc
  cases hp with
  | ep hr=>
   obtain ⟨vs,h1,h2,h3,_⟩:=hr.get
   exact ⟨_,_,vs,rfl,h1,h2,h3⟩
 ·cases hc
theorem nW {R:aj} {w:World} {off n:Nat} {cs l:List AV} {vs:List Value} (hs:Ct off n cs=some l) (h:aE R w cs vs) (h1:∀ x∈vs,x.oneCell'=true) :
  l.length=n∧aE R w l ((vs.drop off).take n)∧(∀ x∈(vs.drop off).take n,x.oneCell'=true)∧∀ j x,((vs.drop off).take n)[j]?=some x→vs[off+j]?=some x:=by
 obtain ⟨e1,e2⟩:=KS hs
 subst e1
 refine ⟨e2,(h.drop off).take n,fun x hx=>h1 x (List.mem_of_mem_drop (List.mem_of_mem_take hx)),fun j x hx=>?_⟩
 rw [List.getElem?_take] at hx
 split at hx
 ·rwa [List.getElem?_drop] at hx
 ·cases hx
def bz (E:Env) (R:aj) (w:World) (β:Nat→Nat) (s:St) (a:Act) (o:Oper) (s':St):Prop:=
 ∃ nx x w' R' β',(execOp a.eval o).run E.P w=.ok nx w'∧(nx=.value x∨(nx=.skip∧x=undef))∧aV E R' w' β' s' (a.put o.dst x)∧Step R w β s.boxes R' w' β' s'.boxes
section ops
variable {E:Env} {R:aj} {w:World} {β:Nat→Nat} {s:St} {a:Act} {o:Oper}
@[simp] theorem aP (s:St) (d:Option Tmp) (x:SV):(s.put d x).boxes=s.boxes:=by
 cases d with
 | none=>rfl
 | some d=>simp only [St.put]; split <;> rfl
theorem ap (h:aV E R w β s a) {c:Value} {sv:SV} (hx:(execOp a.eval o).run E.P w=.ok (.value c) w) (hr:ow R w β sv c):bz E R w β s a o (s.put o.dst sv):=
 ⟨.value c,c,w,R,β,hx,.inl rfl,h.put o.dst hr,by rw [aP]; exact Step.refl R w β s.boxes⟩
theorem AY {t:Bool} {x y:AV} {c d:Value} (hx:Rel R w x c) (hy:Rel R w y d):Rel R w (xq t x y) (if t=true then c else d):=by
 unfold xq
 split
 ·cases hx; cases hy; cases t <;> exact .bool _
 ·cases hx; cases hy
  split
  ·rename_i e; subst e; cases t <;> exact .int _ _
  ·cases t <;> exact .int _ _
 ·cases t
  ·exact hy
  ·exact hx
theorem jD (h:aV E R w β s a) (x:Operand) (ho:o.op=.move x∨o.op=.assign x) {y:SV} (hy:bc E s.ae x=y):bz E R w β s a o (s.put o.dst y):=by
 subst hy
 refine ap h (c:=a.eval x) ?_ (aI h x)
 rcases ho with ho | ho <;> simp [execOp,ho]
theorem DA (h:aV E R w β s a) (c x y:Operand) (ho:o.op=.pick c x y) {t:Bool} {p q:AV} (h1:bc E s.ae c=.v (.bool t)) (h2:bc E s.ae x=.v p) (h3:bc E s.ae y=.v q) :
  bz E R w β s a o (s.put o.dst (.v (xq t p q))):=by
 have r1:=aI h c
 have r2:=aI h x
 have r3:=aI h y
 rw [h1] at r1; rw [h2] at r2; rw [h3] at r3
 refine ap h (c:=if t=true then a.eval x else a.eval y) ?_ (AY r2 r3)
 have TJ:Rel R w (.bool t) (a.eval c):=r1
 generalize KT:a.eval c=cc at TJ
 cases TJ
 simp [execOp,ho,asBool,KT]
theorem DB (h:aV E R w β s a) (t:TypeId) (x:Operand) (ho:o.op=.load t x) {v:AV} (hl:pE E s t (bc E s.ae x)=some v) :
  bz E R w β s a o (s.put o.dst (.v v)):=by
 unfold pE at hl
 split at hl
 ·rename_i i cs off hi hc
  split at hl
  ·rename_i l hs
   obtain ⟨b,o',vs,e,h1,h2,h3⟩:=rT h (aI h x) hc
   obtain ⟨k1,k2,k3,k4⟩:=nW hs h1 h2
   obtain ⟨c,hc,dv⟩:=mS (E:=E) hi (b:=b) (off:=o'+off) k1 k2 k3 (fun j y hy=>by rw [Nat.add_assoc]; exact h3 _ _ (k4 j y hy)) hl
   refine ap h (c:=c) ?_ dv
   simp [execOp,ho,Instr.loadAt,e,Instr.sureAddr,hc]
  ·cases hl
 ·cases hl
theorem jN {b:Nat} (hI:∀ o,¬ R.I b o) (cs:Array Value):Ext R w R (w.setRow b cs):=
 ⟨fun _ _ h=>h,fun b' o h=>bQ (setRow_other w b b' cs (fun e=>hI o (e ▸ h))) o,fun _ ro h=>⟨ro,h,bZ.refl ro⟩,fun b' r hb=>⟨r,by
  by_cases e:b'=b
  ·subst e
   have bK:b' < w.heap.size:=aY hb
   have hv:w.heap[b']=.loop r:=(Array.getElem?_eq_some_iff.1 hb).2
   unfold World.setRow
   rw [Array.getElem?_eq_getElem (by simpa using bK),Array.getElem_modify]
   simp [hv]
  ·exact (setRow_other w b b' cs e).trans hb,rfl,rfl,rfl,rfl,rfl⟩⟩
theorem aE.bI {cs ys:List AV} {vs us:List Value} {off:Nat} (h:aE R w cs vs) (k:aE R w ys us) (hl:off+ys.length≤cs.length) :
  aE R w (bI cs off ys) (vs.take off++us++vs.drop (off+us.length)):=by
 rw [eB cs off ys hl,← k.length]
 exact ((h.take off).append k).append (h.drop _)
theorem ic {vs us:List Value} {off n:Nat} (h:∀ x∈vs,x.oneCell'=true) (k:∀ x∈us,x.oneCell'=true):∀ x∈vs.take off++us++vs.drop n,x.oneCell'=true:=by
 intro x hx
 simp only [List.mem_append] at hx
 rcases hx with (hx | hx) | hx
 ·exact h x (List.mem_of_mem_take hx)
 ·exact k x hx
 ·exact h x (List.mem_of_mem_drop hx)
theorem js {t:TypeId} {i:TI} (hi:E.ti t=some i) {b off:Nat} {vs:List Value} {el:TypeId} {c:Value} (hb:w.heap[b]?=some (.cells ⟨vs⟩ el (0,0)))
  (hs:c.cells.toList.length=i.size) (hl:off+c.cells.toList.length≤vs.length) (h1:∀ v∈c.cells.toList,v.oneCell'=true) :
  (storeVar t ⟨b,off,none⟩ c).run E.P w=.ok () (w.setRow b ⟨vs.take off++c.cells.toList++vs.drop (off+c.cells.toList.length)⟩):=by
 obtain ⟨gb,u,e1,e2,e3,_⟩:=bG E hi
 have jE:=run_storeCells_at (P:=E.P) b off el c.cells.toList 0 ⟨vs⟩ w hb (by simpa using hl) h1
 have cq:c.cells.size=gb.size:=by rw [e3,← hs]; simp
 simp only [Nat.add_zero] at jE
 unfold storeVar
 simp only [Sem.run_bind,run_sizeOf w e1,Result.andThen_ok,Sem.run_ite,cq,ne_eq,not_true_eq_false,if_false]
 simpa using jE
theorem aV.AZ (h:aV E R w β s a) {id b k:Nat} {cs:List AV} (hb:nth R.obj id=some (.bq b)) (hk:de s.boxes k=some cs):β k≠b:=by
 intro e
 exact (h.b.box k cs hk).2.2 ⟨id,_,hb,by rw [e]; rfl⟩
theorem A0 (h:aV E R w β s a) (t:TypeId) (p x:Operand) (ho:o.op=.store t p x) (hd:o.dst=none) {s':St} (hs:iU E s t (bc E s.ae p) (bc E s.ae x)=some s') :
  bz E R w β s a o s':=by
 unfold iU at hs
 have rp:=aI h p
 have rx:=aI h x
 split at hs
 ·rename_i i v hi hx
  rw [hx] at rx
  split at hs
  ·rename_i fm
   simp only [Bool.and_eq_true] at fm
   obtain ⟨Hm,hlen⟩:=fm
   have hlen:=Nat.eq_of_beq_eq_true hlen
   obtain ⟨c1,c2⟩:=Rel.cells rx Hm
   have yM:v.cells.length=(a.eval x).cells.toList.length:=c1.length
   split at hs
   ·-- a local box
    rename_i k off Ot
    rw [Ot] at rp
    split at hs
    ·rename_i cs hk
     split at hs
     ·rename_i hle
      cases hs
      have hle:=Nat.le_of_ble_eq_true hle
      obtain ⟨⟨vs,el,b1,b2,b3⟩,b4,b5⟩:=h.b.box k cs hk
      have bf:=js (E:=E) (w:=w) hi (off:=off) (c:=a.eval x) b1 (by rw [← yM]; exact hlen) (by rw [← yM,← b2.length]; exact hle) c2
      have hex:=jN (R:=R) (w:=w) b4 ⟨vs.take off++(a.eval x).cells.toList++vs.drop (off+(a.eval x).cells.toList.length)⟩
      refine ⟨.skip,undef,w.setRow (β k) ⟨vs.take off++(a.eval x).cells.toList++vs.drop (off+(a.eval x).cells.toList.length)⟩,R,β,?_,.inr ⟨rfl,rfl⟩,?_,?_⟩
      ·simp [execOp,ho,Instr.storeAt,show a.eval p=.pointer (some ⟨β k,off,none⟩) from rp,Instr.sureAddr,bf]
      ·rw [hd]
       refine ⟨?_,?_,h.t.mono hex,h.n,h.d⟩
       ·exact h.g.aW hex rfl (fun b hb=>setRow_other w _ b _ (fun e=>b5 (e ▸ hb))) (fun _ _ _ hi=>hi) (fun b o hi=>by have:=h.g.wf b o hi; simp; omega)
       ·refine ⟨fun k' eO iY=>?_,fun k1 k2 x1 x2 g1 g2=>?_⟩
        ·rcases eA iY with ⟨rfl,e⟩ | ⟨cq,Ou⟩
         ·cases e
          exact ⟨⟨_,el,setRow_heap w _ _ _ el (0,0) b1,(b2.bI c1 hle).mono hex,ic b3 c2⟩,b4,b5⟩
         ·obtain ⟨⟨vs',Qx,d1,d2,d3⟩,d4,d5⟩:=h.b.box k' eO Ou
          refine ⟨⟨vs',Qx,?_,d2.mono hex,d3⟩,d4,d5⟩
          rw [setRow_other]
          ·exact d1
          ·exact fun e=>cq (h.b.inj k' k eO cs Ou hk e).symm
        ·have q1:∃ y,de s.boxes k1=some y:=by
          rcases eA g1 with ⟨rfl,_⟩ | ⟨_,g⟩
          ·exact ⟨_,hk⟩
          ·exact ⟨_,g⟩
         have q2:∃ y,de s.boxes k2=some y:=by
          rcases eA g2 with ⟨rfl,_⟩ | ⟨_,g⟩
          ·exact ⟨_,hk⟩
          ·exact ⟨_,g⟩
         obtain ⟨y1,q1⟩:=q1
         obtain ⟨y2,q2⟩:=q2
         exact h.b.inj k1 k2 y1 y2 q1 q2
      ·have xz:Own R β s.boxes (β k):=.inr ⟨k,cs,hk,rfl⟩
       refine ⟨hex,rfl,rfl,rfl,by simp,fun b _ hn=>setRow_other w _ b _ (fun e=>hn (e ▸ xz)),fun b _ hb=>?_,fun b o hi _ _=>hi⟩
       rcases hb with hb | ⟨k',eO,iY,e⟩
       ·exact .inl hb
       ·rcases eA iY with ⟨rfl,_⟩ | ⟨_,g⟩
        ·exact .inr ⟨k,cs,hk,e⟩
        ·exact .inr ⟨k',eO,g,e⟩
     ·cases hs
    ·cases hs
   ·-- an object
    rename_i id off Ot
    rw [Ot] at rp
    split at hs
    ·rename_i cs hk
     split at hs
     ·rename_i hle
      cases hs
      have hle:=Nat.le_of_ble_eq_true hle
      have Ov:Rel R w (.ptr id off) (a.eval p):=rp
      generalize Ow:a.eval p=pv at Ov
      cases Ov with
      | @ptr _ _ b hb=>
      obtain ⟨vs,b1,b2,b3,b4⟩:=h.g.obj id _ _ hk hb
      have bf:=js (E:=E) (w:=w) hi (off:=off) (c:=a.eval x) b1 (by rw [← yM]; exact hlen) (by rw [← yM,← b2.length]; exact hle) c2
      have hex:=jN (R:=R) (w:=w) b4 ⟨vs.take off++(a.eval x).cells.toList++vs.drop (off+(a.eval x).cells.toList.length)⟩
      refine ⟨.skip,undef,w.setRow b ⟨vs.take off++(a.eval x).cells.toList++vs.drop (off+(a.eval x).cells.toList.length)⟩,R,β,?_,.inr ⟨rfl,rfl⟩,?_,?_⟩
      ·simp [execOp,ho,Instr.storeAt,Ow,Instr.sureAddr,bf]
      ·rw [hd]
       refine ⟨⟨?_,fun iS go ro hg hr=>?_,h.g.inj,fun b' o' oB=>by have:=h.g.wf b' o' oB; simp; omega,fun g eO hg=>(h.g.dD g eO hg).mono hex,by first | exact h.g.lo | exact Nat.le_succ_of_le h.g.lo⟩,?_,h.t.mono hex,h.n,h.d⟩
       ·simp [St.bF,h.g.len]
       ·rcases cP hg with ⟨rfl,rfl,_⟩ | ⟨cq,yN⟩
        ·rw [hb] at hr
         cases hr
         exact ⟨_,setRow_heap w _ _ _ _ (0,0) b1,(b2.bI c1 hle).mono hex,ic b3 c2,b4⟩
        ·refine (h.g.obj iS go ro yN hr).mono hex (fun b' kF=>setRow_other w _ b' _ (fun e=>cq ?_)) (fun _ _ _ hi=>hi)
         subst e
         exact h.g.inj id iS _ _ b' hb hr rfl kF
       ·exact h.b.aW hex (fun k eO iY=>setRow_other w _ _ _ (h.AZ hb iY)) (fun _ _ _ _ hi=>hi) (fun _ _ _ hl=>hl)
      ·have xz:Own R β s.boxes b:=.inl ⟨id,_,hb,rfl⟩
       exact ⟨hex,rfl,rfl,rfl,by simp,fun b' _ hn=>setRow_other w _ b' _ (fun e=>hn (e ▸ xz)),fun _ _ hb=>hb,fun b o hi _ _=>hi⟩
     ·cases hs
    ·cases hs
   ·cases hs
  ·cases hs
 ·cases hs
end ops
end Go.Am
namespace Go.Am
open Go
section ops
variable {E:Env} {R:aj} {w:World} {β:Nat→Nat} {s:St} {a:Act} {o:Oper}
def aj.add (R:aj) (ro:RO):aj:=⟨R.I,R.obj++[ro]⟩
theorem fS (wf:∀ b o,R.I b o→b < w.heap.size) (x:Obj) (ro:RO):Ext R w (R.add ro) (w.alloc x):=
 ⟨fun _ _ h=>h,fun b o h=>bQ (heap_alloc_old w x b (wf b o h)) o,fun _ r h=>⟨r,cQ h,bZ.refl r⟩,.old fun b hb=>heap_alloc_old w x b hb⟩
theorem ln {ro:RO} {b:Nat} (h:Live (R.add ro) b):Live R b∨ro.has b:=by
 obtain ⟨id,r,h1,h2⟩:=h
 rcases au h1 with h1 | ⟨_,rfl⟩
 ·exact .inl ⟨id,r,h1,h2⟩
 ·exact .inr h2
theorem aV.jO (h:aV E R w β s a) (x:Obj) (go:GO) (ro:RO) (bA:∀ b,ro.has b→b=w.heap.size) (gR:fZ (R.add ro) (w.alloc x) go ro):aV E (R.add ro) (w.alloc x) β (s.dA go) a where
 g:=by
  have e:=fS (R:=R) (w:=w) h.g.wf x ro
  refine ⟨by simp [St.dA,aj.add,h.g.len],fun id g r h1 h2=>?_,fun i j ri rj b h1 h2 b1 b2=>?_,fun b o hi=>?_,fun g cs hg=>(h.g.dD g cs hg).mono e,by first | exact h.g.lo | exact Nat.le_succ_of_le h.g.lo⟩
  ·rcases au h2 with h2 | ⟨h3,rfl⟩
   ·have bK:=bp h2
    rw [h.g.len] at bK
    rcases au h1 with h1 | ⟨h4,_⟩
    ·exact (h.g.obj id g r h1 h2).mono e (fun b hb=>heap_alloc_old w x b (h.g.bU ⟨id,r,h2,hb⟩)) (fun _ _ _ hi=>hi)
    ·omega
   ·rcases au h1 with h1 | ⟨h4,rfl⟩
    ·have:=bp h1
     rw [h3,h.g.len] at this
     omega
    ·exact gR
  ·rcases au h1 with g1 | ⟨h3,e1⟩
   ·rcases au h2 with g2 | ⟨h4,e2⟩
    ·exact h.g.inj i j ri rj b g1 g2 b1 b2
    ·have:=h.g.bU ⟨i,ri,g1,b1⟩
     rw [e2] at b2
     have:=bA b b2
     omega
   ·rcases au h2 with g2 | ⟨h4,e2⟩
    ·have:=h.g.bU ⟨j,rj,g2,b2⟩
     rw [e1] at b1
     have:=bA b b1
     omega
    ·omega
  ·have:=h.g.wf b o hi
   simp
   omega
 b:=h.b.aW (fS h.g.wf x ro) (fun k cs hk=>heap_alloc_old w x _ (h.dL (.inr ⟨k,cs,hk,rfl⟩))) (fun _ _ _ _ hi=>hi) (fun k cs hk hl=>by
  rcases ln hl with hl | hl
  ·exact hl
  ·have:=h.dL (.inr ⟨k,cs,hk,rfl⟩)
   have hl:=bA _ hl
   omega)
 t:=h.t.mono (fS h.g.wf x ro)
 n:=h.n
 d:=h.d.mono (fS h.g.wf x ro)
theorem cm (h:aV E R w β s a) (x:Obj) (ro:RO) (bA:∀ b,ro.has b→b=w.heap.size):Step R w β s.boxes (R.add ro) (w.alloc x) β s.boxes:=
 ⟨fS h.g.wf x ro,rfl,rfl,rfl,by simp,fun b hb _=>heap_alloc_old w x b hb,fun b hb ho=>by
  rcases ho with ho | ho
  ·rcases ln ho with ho | ho
   ·exact .inl ho
   ·have ho:=bA _ ho
    omega
  ·exact .inr ho,fun _ _ hi _ _=>hi⟩
theorem fq (h:aV E R w β s a) (ro:RO):nth (R.add ro).obj s.G.length=some ro:=by
 rw [← h.g.len]
 exact ey _ _
theorem y8 {f:FuncId} (h:aV E R w β s a) {v:AV} {c:Value} {t:TypeId} (hv:Rel R w v c) (hn:v.aL=true)
  (hx:(execOp a.eval o).run E.P w=.ok (.value (.pointer (some ⟨w.heap.size,0,none⟩))) (w.alloc (.cells c.cells t))) {s':St} (ha:eP E f s o.dst t v.cells=some (true,s')) :
  bz E R w β s a o s':=by
 obtain ⟨c1,c2⟩:=Rel.cells hv hn
 unfold eP at ha
 split at ha
 ·cases ha
 ·rename_i d hd
  split at ha
  ·-- an object
   cases ha
   have gR:fZ (R.add (.bq w.heap.size)) (w.alloc (.cells c.cells t)) (.row v.cells t) (.bq w.heap.size):=
    ⟨c.cells.toList,heap_alloc_new w _,c1.mono (fS h.g.wf _ _),c2,fun o' hi=>by have:=h.g.wf _ _ hi; omega⟩
   have cL:=h.jO (.cells c.cells t) (.row v.cells t) (.bq w.heap.size) (by exact fun _ h=>h) gR
   refine ⟨_,.pointer (some ⟨w.heap.size,0,none⟩),_,R.add (.bq w.heap.size),β,hx,.inl rfl,?_,?_⟩
   ·rw [hd]
    exact cL.put (some d) (x:=.v (.ptr s.G.length 0)) (Rel.ptr (fq h _))
   ·rw [aP]
    exact cm h _ _ (by exact fun _ h=>h)
  ·split at ha
   ·rename_i Qy
    injection ha with ha
    injection ha with _ KU
    subst KU
    have e:=wj (R:=R) (w:=w) h.g.wf (.cells c.cells t)
    let β':Nat→Nat:=fun k=>if k=d then w.heap.size else β k
    have vC:β' d=w.heap.size:=by simp [β']
    have cq:∀ k,k≠d→β' k=β k:=fun k hk=>by simp [β',hk]
    have U7:d < a.tmps.size:=by rw [h.n]; exact Nat.le_of_ble_eq_true Qy
    have A1:((s.kill d).sx d v.cells).put (some d) (.lp d 0)=⟨.put d (.lp d 0) :: .kill d :: s.ae,(d,v.cells) :: s.boxes,s.G,s.marks,s.ro,s.n⟩:=by
     simp only [St.put,St.sx,St.kill,Qy]
    refine ⟨_,.pointer (some ⟨w.heap.size,0,none⟩),_,R,β',hx,.inl rfl,?_,?_⟩
    ·rw [hd,A1]
     refine ⟨?_,⟨fun k cs hk=>?_,fun k k' cs eO hk iY he=>?_⟩,?_,by simp [Act.put,h.n],h.d⟩
     ·exact h.g.aW e rfl (fun b hb=>heap_alloc_old w _ b (h.g.bU hb)) (fun _ _ _ hi=>hi) (fun b o hi=>by have:=h.g.wf b o hi; simp; omega)
     ·rcases eA hk with ⟨rfl,he⟩ | ⟨Hn,hk⟩
      ·cases he
       rw [vC]
       exact ⟨⟨c.cells.toList,t,heap_alloc_new w _,c1.mono e,c2⟩,fun o' hi=>by have:=h.g.wf _ _ hi; omega,fun hl=>by have:=h.g.bU hl; omega⟩
      ·rw [cq k (Ne.symm Hn)]
       obtain ⟨⟨vs,el,b1,b2,b3⟩,b4,b5⟩:=h.b.box k cs hk
       exact ⟨⟨vs,el,(heap_alloc_old w _ _ (aY b1)).trans b1,b2.mono e,b3⟩,b4,b5⟩
     ·rcases eA hk with ⟨rfl,_⟩ | ⟨Hn,hk⟩
      ·rcases eA iY with ⟨rfl,_⟩ | ⟨KV,iY⟩
       ·rfl
       ·rw [vC,cq k' (Ne.symm KV)] at he
        have:=h.dL (.inr ⟨k',eO,iY,rfl⟩)
        omega
      ·rcases eA iY with ⟨rfl,_⟩ | ⟨KV,iY⟩
       ·rw [vC,cq k (Ne.symm Hn)] at he
        have:=h.dL (.inr ⟨k,cs,hk,rfl⟩)
        omega
       ·rw [cq k (Ne.symm Hn),cq k' (Ne.symm KV)] at he
        exact h.b.inj k k' cs eO hk iY he
     ·intro i hi
      by_cases Rg:d=i
      ·subst Rg
       rw [aw]
       refine ⟨.pointer (some ⟨w.heap.size,0,none⟩),by simp [Act.put,U7],?_⟩
       show Value.pointer _=_
       rw [vC]
      ·rw [aG Rg] at hi ⊢
       rcases Cw (l:=s.ae) (d:=d) (t:=i) with ⟨h1,h2⟩ | h1
       ·rw [h1] at hi ⊢
        obtain ⟨c',q1,q2⟩:=h.t i hi
        refine ⟨c',?_,?_⟩
        ·simp only [Act.put]
         rw [Array.getElem?_setIfInBounds_ne Rg]
         exact q1
        ·cases sy:lk s.ae i with
         | none=>trivial
         | v y=>rw [sy] at q2; exact Rel.mono e q2
         | lp k off=>
          rw [sy] at q2
          show c'=_
          rw [cq k (h2 k off sy)]
          exact q2
       ·exact absurd h1 hi
    ·rw [A1]
     refine ⟨e,rfl,rfl,rfl,by simp,fun b hb _=>heap_alloc_old w _ b hb,fun b hb ho=>?_,fun _ _ hi _ _=>hi⟩
     rcases ho with ho | ⟨k,cs,hk,he⟩
     ·exact .inl ho
     ·rcases eA hk with ⟨rfl,_⟩ | ⟨Hn,hk⟩
      ·rw [vC] at he
       omega
      ·rw [cq k (Ne.symm Hn)] at he
       exact .inr ⟨k,cs,hk,he⟩
   ·cases ha
theorem cM {i:TypeInfo} {z:AV} (h:fQ i=some z):∃ c,i.zero=some c∧∀ R w,Rel R w z c:=by
 unfold fQ at h
 split at h
 ·rename_i c hc
  exact ⟨c,hc,fun R w=>rS h⟩
 ·cases h
theorem A2 {f:FuncId} (h:aV E R w β s a) (t:TypeId) (ho:o.op=.alloc t) {i:TI} {z:AV} (hi:E.ti t=some i) (hz:i.zero=some z) (hn:z.aL=true) {s':St} (ha:eP E f s o.dst t z.cells=some (true,s')) :
  bz E R w β s a o s':=by
 obtain ⟨gb,u,e1,e2,e3,e4,e5,e6⟩:=bG E hi
 rw [hz] at e6
 obtain ⟨c,hc,hr⟩:=cM e6
 refine y8 h (hr R w) hn (t:=t) ?_ ha
 simp [execOp,ho,Instr.alloc,gk w e1 hc,tv]
theorem E1 {f:FuncId} (h:aV E R w β s a) (t:TypeId) (x:Operand) (ho:o.op=.box t x) {v:AV} (hv:bc E s.ae x=.v v) (hn:v.aL=true) {s':St} (ha:eP E f s o.dst t v.cells=some (true,s')) :
  bz E R w β s a o s':=by
 have hr:=aI h x
 rw [hv] at hr
 refine y8 h hr hn (t:=t) ?_ ha
 simp [execOp,ho,Instr.box,tv]
end ops
end Go.Am
namespace Go.Am
open Go
section types
variable {P:Program}
theorem lY:∀ {fs:List Field} {l:List (Nat × Nat × Bool)},fieldsOf P fs=some l→∀ {j o sz:Nat} {ag:Bool},nth l j=some (o,sz,ag) →
  ∃ f fi u,fs[j]?=some f∧f.offset=o∧P.info? f.type=some fi∧fi.size=sz∧P.underlying f.type=some u∧iT u=ag
 | [],l,h,j,o,sz,ag,hn=>by simp [fieldsOf] at h; subst h; simp [nth] at hn
 | f :: fs,l,h,j,o,sz,ag,hn=>by
  unfold fieldsOf at h
  split at h
  ·rename_i i u r h1 h2 h3
   cases h
   cases j with
   | zero=>simp [nth] at hn; obtain ⟨e1,e2,e3⟩:=hn; exact ⟨f,i,u,by simp,e1,h1,e2,h2,e3⟩
   | succ j=>
    obtain ⟨f',fi,u',g1,g2⟩:=lY h3 (show nth r j=some (o,sz,ag) from hn)
    exact ⟨f',fi,u',by simpa using g1,g2⟩
  ·cases h
theorem mE:∀ {fs:List Field} {l:List (Nat × Nat × Bool)},fieldsOf P fs=some l→fs.mapM (fun f=>(P.info? f.type).map fun i=>(f.offset,i.size))=some (l.map fun x=>(x.1,x.2.1))
 | [],l,h=>by simp [fieldsOf] at h; subst h; simp
 | f :: fs,l,h=>by
  unfold fieldsOf at h
  split at h
  ·rename_i i u r h1 h2 h3
   cases h
   simp [List.mapM_cons,h1,mE h3]
  ·cases h
theorem Cy {u:TypeDesc} {l:List (Nat × Nat × Bool)} (h:ou P u=some (.st l)):∃ fs,u=.struct fs∧fieldsOf P fs.toList=some l:=by
 cases u <;> simp only [ou] at h <;> try (cases h; done)
 all_goals (try (split at h <;> cases h; done))
 rename_i fs
 split at h
 ·rename_i l' hl
  cases h
  exact ⟨fs,rfl,hl⟩
 ·cases h
theorem mT {u:TypeDesc} {n esz:Nat} {ag:Bool} (h:ou P u=some (.arr n esz ag)):∃ e i ue,u=.array n e∧P.info? e=some i∧i.size=esz∧P.underlying e=some ue∧iT ue=ag:=by
 cases u <;> simp only [ou] at h <;> try (cases h; done)
 all_goals (try (split at h <;> cases h; done))
 rename_i m e
 split at h
 ·rename_i i ue h1 h2
  cases h
  exact ⟨e,i,ue,rfl,h1,rfl,h2,rfl⟩
 ·cases h
theorem cW {u:TypeDesc} {e esz mU:Nat} {ag:Bool} {z:Option AV} (h:ou P u=some (.sl e esz ag mU z)) :
  ∃ i ue,u=.slice e∧P.info? e=some i∧i.size=esz∧i.bytes=mU∧P.underlying e=some ue∧iT ue=ag∧fQ i=z:=by
 cases u <;> simp only [ou] at h <;> try (cases h; done)
 all_goals (try (split at h <;> cases h; done))
 rename_i e'
 split at h
 ·rename_i i ue h1 h2
  injection h with h
  injection h with g1 g2 g3 g4 g5
  subst g1; subst g2; subst g3; subst g4; subst g5
  exact ⟨i,ue,rfl,h1,rfl,rfl,h2,rfl,rfl⟩
 ·cases h
theorem jP {u:TypeDesc} (h:ou P u=some .str):u=.string:=by
 cases u <;> simp only [ou] at h <;> try (cases h; done)
 all_goals (try (split at h <;> cases h; done))
 rfl
theorem pN {u:TypeDesc} {k:IntKind} (h:ou P u=some (.int k)):u=.int k:=by
 cases u <;> simp only [ou] at h <;> try (cases h; done)
 all_goals (try (split at h <;> cases h; done))
 cases h
 rfl
theorem lq {u:TypeDesc} {k e:TypeId} {z:Option AV} (h:ou P u=some (.map k e z)):u=.map k e∧∃ i,P.info? e=some i∧fQ i=z:=by
 cases u <;> simp only [ou] at h <;> try (cases h; done)
 all_goals (try (split at h <;> cases h; done))
 split at h
 ·rename_i i h1
  cases h
  exact ⟨rfl,i,h1,rfl⟩
 ·cases h
end types
section ops
variable {E:Env} {R:aj} {w:World} {β:Nat→Nat} {s:St} {a:Act} {o:Oper}
theorem wq {p q:SV} {c:Value} {n:Nat} (hp:ow R w β p c) (hm:vY n p=some q) :
  ∃ b o,c=.pointer (some ⟨b,o,none⟩)∧ow R w β q (.pointer (some ⟨b,o+n,none⟩)):=by
 unfold vY at hm
 split at hm
 ·cases hm
  exact ⟨_,_,hp,rfl⟩
 ·cases hm
  cases hp with
  | @ptr _ _ b hb=>exact ⟨b,_,rfl,Rel.ptr hb⟩
 ·cases hm
  cases hp with
  | @ep _ b o hr=>
   refine ⟨b,o,rfl,Rel.ep ?_⟩
   rw [tu]
   exact hr.drop n
 ·cases hm
  cases hp with
  | @gp _ _ _ _ _ b o _ ro hr eW=>
   refine ⟨b,o,rfl,Rel.gp hr ?_⟩
   cases ro with
   | none=>trivial
   | bj=>exact eW.elim
   | bq _=>exact eW.elim
   | aU _=>exact eW.elim
   | tok f1 b1 c1=>exact ⟨eW.1,fun e=>⟨(eW.2 e).1,by rw [(eW.2 e).2,Nat.add_assoc]⟩⟩
 ·cases hm
theorem tx (h:aV E R w β s a) (t:TypeId) (x:Operand) (j:Nat) (ho:o.op=.fieldAddr t x j) {q:SV} (hq:jM E t (bc E s.ae x) j=some q) :
  bz E R w β s a o (s.put o.dst q):=by
 unfold jM at hq
 split at hq
 ·rename_i i hi
  split at hq
  ·rename_i fs hk
   split at hq
   ·rename_i off sz ag hn
    split at hq
    ·rename_i eC
     have eC:=Nat.le_of_ble_eq_true eC
     obtain ⟨gb,u,e1,e2,e3,e4,e5,e6⟩:=bG E hi
     rw [hk] at e5
     obtain ⟨fl,rfl,hf⟩:=Cy e5
     obtain ⟨f,fi,u',g1,g2,g3,g4,g5,g6⟩:=lY hf hn
     obtain ⟨b,o',m1,m2⟩:=wq (aI h x) hq
     refine ap h ?_ m2
     have Rh:fl[j]?=some f:=by simpa using g1
     have cq:¬ fi.size=0:=by omega
     simp [execOp,ho,Instr.fieldAt,run_underlying e2,Rh,m1,Instr.sureAddr,fieldPlace,run_sizeOf w g3,cq,bY,g2]
    ·cases hq
   ·cases hq
  ·cases hq
 ·cases hq
theorem y9 {b o sz:Nat} {es:List AV} (h:gj R w b o sz es) {n:Nat} {e:AV} (hn:nth es n=some e):eu R w b (o+n * sz) e.cells∧e.cells.length=sz∧e.aL=true:=by
 induction es generalizing o n with
 | nil=>simp [nth] at hn
 | cons x l ih=>
  cases h with
  | cons hl ht _ h t=>
   cases n with
   | zero=>simp [nth] at hn; subst hn; exact ⟨by simpa using h,hl,ht⟩
   | succ n=>
    have:=ih t (show nth l n=some e from hn)
    rw [show o+sz+n * sz=o+(n+1) * sz by rw [Nat.add_mul]; omega] at this
    exact this
theorem tA (h:aV E R w β s a) (t:TypeId) (x ix:Operand) (ho:o.op=.indexAddr t x ix) {q:SV} (hq:jL E t (bc E s.ae x) (bc E s.ae ix)=some (true,q)) :
  bz E R w β s a o (s.put o.dst q):=by
 have rx:=aI h x
 have ri:=aI h ix
 unfold jL at hq
 split at hq
 ·rename_i i k n hi Ox
  rw [Ox] at ri
  have JG:Rel R w (.int k n) (a.eval ix):=ri
  generalize Ho:a.eval ix=iv at JG
  cases JG
  obtain ⟨gb,u,e1,e2,e3,e4,e5,e6⟩:=bG E hi
  split at hq
  ·-- a list
   rename_i elem esz ag mU z kk sz es hk hx
   rw [hx] at rx
   rw [hk] at e5
   obtain ⟨ie,ue,rfl,f1,f2,f3,f4,f5,f6⟩:=cW e5
   split at hq
   ·rename_i hc
    have key:∀ (u:AV),(0≤n∧n < (es.length:Int))→ca (ak es n.toNat).cells u.cells→bz E R w β s a o (s.put o.dst (.v (.ep u.cells))):=fun u tB hu=>by
     obtain ⟨wu,EE⟩:=tB
     have df:Rel R w (.list kk sz es) (a.eval x):=rx
     generalize eX:a.eval x=xv at df
     cases df with
     | iF=>simp at EE; omega
     | ib=>simp at EE; omega
     | lT=>simp at EE; omega
     | lU=>simp at EE; omega
     | kT=>simp at EE; omega
     | @list _ _ _ b o' len cap hr hl ig E2=>
      subst hl
      have bK:n.toNat < es.length:=by omega
      obtain ⟨e,he⟩:∃ e,nth es n.toNat=some e:=⟨es[n.toNat],by rw [aR]; exact List.getElem?_eq_getElem bK⟩
      have eC:sz=esz:=by
       simp only [Bool.or_eq_true] at hc
       rcases hc with hc | hc
       ·exact Nat.eq_of_beq_eq_true hc
       ·cases es with
        | nil=>simp at bK
        | cons _ _=>simp at hc
      obtain ⟨g1,_,_⟩:=y9 hr he
      refine ap h (c:=.pointer (some ⟨b,o'+n.toNat * sz,none⟩)) ?_ ?_
      ·have fm:0≤n∧n < (es.length:Int):=⟨wu,EE⟩
       simp [execOp,ho,Instr.indexAt,Ho,eX,asIntOf,run_underlying e2,fm,run_sizeOf w f1,f2,eC,bY]
      ·have:ak es n.toNat=e:=by simp [ak,he]
       rw [this] at hu
       exact .ep (hu.EY g1)
    split at hq
    ·rename_i p hp
     injection hq with hq
     injection hq with tB mV
     subst mV
     rw [Bool.and_eq_true] at tB
     have fm:=of_decide_eq_true tB.1
     have hd:=p.cz tB.2
     have bK:n.toNat < es.length:=by omega
     refine key _ fm (hd.cells ?_)
     obtain ⟨e,he⟩:∃ e,nth es n.toNat=some e:=⟨es[n.toNat],by rw [aR]; exact List.getElem?_eq_getElem bK⟩
     have:ak es n.toNat=e:=by simp [ak,he]
     rw [this]
     have df:Rel R w (.list kk sz es) (a.eval x):=rx
     generalize a.eval x=xv at df
     cases df with
     | iF=>simp at bK
     | ib=>simp at bK
     | lT=>simp at bK
     | lU=>simp at bK
     | kT=>simp at bK
     | list hr _ _ _=>exact (y9 hr he).2.2
    ·injection hq with hq
     injection hq with tB mV
     subst mV
     exact key _ (of_decide_eq_true tB) (ca.refl _)
   ·cases hq
  ·-- a heap slice
   rename_i elem esz ag mU z id off sz len cap hk hx
   rw [hx] at rx
   rw [hk] at e5
   obtain ⟨ie,ue,rfl,f1,f2,f3,f4,f5,f6⟩:=cW e5
   split at hq
   ·rename_i hc
    have eC:=Nat.eq_of_beq_eq_true hc
    injection hq with hq
    injection hq with tB mV
    subst mV
    have fm:=of_decide_eq_true tB
    have df:Rel R w (.iR id off sz len cap) (a.eval x):=rx
    generalize eX:a.eval x=xv at df
    cases df with
    | @iR _ _ _ _ _ b hb _=>
     refine ap h (c:=.pointer (some ⟨b,off+n.toNat * sz,none⟩)) ?_ (Rel.ptr hb)
     simp [execOp,ho,Instr.indexAt,Ho,eX,asIntOf,run_underlying e2,fm,run_sizeOf w f1,f2,eC,bY]
   ·cases hq
  ·-- a slice that grows
   rename_i elem esz ag mU z id f' off sz len hk hx
   rw [hx] at rx
   rw [hk] at e5
   obtain ⟨ie,ue,rfl,f1,f2,f3,f4,f5,f6⟩:=cW e5
   split at hq
   ·rename_i hc
    have eC:=Nat.eq_of_beq_eq_true hc
    injection hq with hq
    injection hq with tB mV
    subst mV
    have fm:=of_decide_eq_true tB
    have df:Rel R w (.dM id f' off sz len) (a.eval x):=rx
    generalize eX:a.eval x=xv at df
    cases df with
    | iW _ _=>omega
    | @dM _ _ _ _ _ cap b o' ro bA eW ig=>
     refine ap h (c:=.pointer (some ⟨b,o'+n.toNat * sz,none⟩)) ?_ (Rel.gp bA ?_)
     ·simp [execOp,ho,Instr.indexAt,Ho,eX,asIntOf,run_underlying e2,fm,run_sizeOf w f1,f2,eC,bY]
     ·cases ro with
      | none=>trivial
      | bj=>exact eW.elim
      | bq _=>exact eW.elim
      | aU _=>exact eW.elim
      | tok f1 b1 c1=>
       refine ⟨eW.1,fun e=>?_⟩
       obtain ⟨k1,k2,k3⟩:=eW.2 e
       refine ⟨k1,?_⟩
       rcases k3 with k3 | k3
       ·rw [k3,Nat.add_zero,Nat.add_mul]
       ·omega
   ·cases hq
  ·-- an array that is never written
   rename_i len esz ag cs hk hx
   rw [hx] at rx
   rw [hk] at e5
   obtain ⟨e,ie,ue,rfl,f1,f2,f3,f4⟩:=mT e5
   have df:Rel R w (.ep cs) (a.eval x):=rx
   generalize eX:a.eval x=xv at df
   cases df with
   | @ep _ b o' hr=>
    split at hq
    ·rename_i p hp
     split at hq
     ·rename_i hc
      rw [Bool.and_eq_true] at hc
      have hz:=Nat.eq_of_beq_eq_true hc.1
      have hl:=Nat.le_of_ble_eq_true hc.2
      injection hq with hq
      injection hq with tB mV
      subst mV
      rw [Bool.and_eq_true] at tB
      have fm:=of_decide_eq_true tB.1
      have hd:=p.cz tB.2
      have bK:n.toNat < cs.length:=by omega
      have TL:=hr.drop n.toNat
      rw [List.drop_eq_getElem_cons bK] at TL
      have hn:ak cs n.toNat=cs[n.toNat]:=by
       unfold ak
       rw [aR,List.getElem?_eq_getElem bK]
      rw [hn] at hd ⊢
      refine ap h (c:=.pointer (some ⟨b,o'+n.toNat * esz,none⟩)) ?_ ?_
      ·simp [execOp,ho,Instr.indexAt,Ho,eX,Instr.sureAddr,asIntOf,run_underlying e2,fm,run_sizeOf w f1,f2,bY]
      ·subst hz
       rw [Nat.mul_one]
       cases TL with
       | cons hc h1 hi dv t=>exact .ep (.cons hc h1 hi (hd.1 _ _ _ dv) .nil)
     ·cases hq
    ·injection hq with hq
     injection hq with tB mV
     subst mV
     have fm:=of_decide_eq_true tB
     refine ap h (c:=.pointer (some ⟨b,o'+n.toNat * esz,none⟩)) ?_ ?_
     ·simp [execOp,ho,Instr.indexAt,Ho,eX,Instr.sureAddr,asIntOf,run_underlying e2,fm,run_sizeOf w f1,f2,bY]
     ·rw [tu]
      exact .ep (hr.drop _)
  ·-- an array
   rename_i len esz ag hk _
   rw [hk] at e5
   obtain ⟨e,ie,ue,rfl,f1,f2,f3,f4⟩:=mT e5
   split at hq
   ·rename_i q' hm
    injection hq with hq
    injection hq with tB mV
    subst mV
    have fm:=of_decide_eq_true tB
    obtain ⟨b,o',m1,m2⟩:=wq rx hm
    refine ap h ?_ m2
    simp [execOp,ho,Instr.indexAt,Ho,m1,Instr.sureAddr,asIntOf,run_underlying e2,fm,run_sizeOf w f1,f2,bY]
   ·cases hq
  ·cases hq
 ·cases hq
theorem lr {t:TypeId} {i:TypeInfo} {u:TypeDesc} (h1:E.P.info? t=some i) (h2:E.P.underlying t=some u) {off:Nat} {cs l:List AV} {vs:List Value} {v:AV} (hr:aE R w cs vs) (h3:∀ x∈vs,x.oneCell'=true)
  (xA:iT u=true→Ct off i.size cs=some l∧qM true l=some v) (U8:iT u=false→Ct off 1 cs=some l∧qM false l=some v) :
  ∃ c,(part t ⟨vs⟩ off).run E.P w=.ok c w∧Rel R w v c:=by
 unfold part
 simp only [Sem.run_bind,wo w h2,Result.andThen_ok]
 cases ha:iT u with
 | true=>
  obtain ⟨g1,g2⟩:=xA ha
  obtain ⟨k1,k2,k3,k4⟩:=nW g1 hr h3
  obtain ⟨m1,_⟩:=tw g2 k2 k3
  refine ⟨_,?_,m1 rfl⟩
  have:(⟨vs⟩:Array Value).extract off (off+i.size)=⟨(vs.drop off).take i.size⟩:=by
   apply Array.ext'
   simp [List.extract_eq_take_drop]
  simp [run_sizeOf w h1]
 | false=>
  obtain ⟨g1,g2⟩:=U8 ha
  obtain ⟨k1,k2,k3,k4⟩:=nW g1 hr h3
  obtain ⟨_,m2⟩:=tw g2 k2 k3
  obtain ⟨c,hc,dv⟩:=m2 rfl
  refine ⟨c,?_,dv⟩
  have h0:=k4 0 c (by rw [hc]; simp)
  simp only [Nat.add_zero] at h0
  simp [h0]
theorem A3 (h:aV E R w β s a) (t:TypeId) (x:Operand) (j:Nat) (ho:o.op=.field t x j) {v:AV} (hq:AP E t (bc E s.ae x) j=some v) :
  bz E R w β s a o (s.put o.dst (.v v)):=by
 have rx:=aI h x
 unfold AP at hq
 split at hq
 ·rename_i i cs hi hx
  rw [hx] at rx
  have df:Rel R w (.agg cs) (a.eval x):=rx
  generalize eX:a.eval x=xv at df
  cases df with
  | @agg _ vs hr h1=>
  split at hq
  ·rename_i fs hk
   split at hq
   ·rename_i off sz ag hn
    obtain ⟨gb,u,e1,e2,e3,e4,e5,e6⟩:=bG E hi
    rw [hk] at e5
    obtain ⟨fl,rfl,hf⟩:=Cy e5
    obtain ⟨f,fi,u',g1,g2,g3,g4,g5,g6⟩:=lY hf hn
    have key:∃ c,(part f.type ⟨vs⟩ off).run E.P w=.ok c w∧Rel R w v c:=by
     split at hq
     ·rename_i xA
      split at hq
      ·rename_i l hl
       exact lr g3 g5 (l:=l) hr h1 (fun _=>⟨by rw [g4]; exact hl,hq⟩) (fun hf=>by rw [g6,xA] at hf; cases hf)
      ·cases hq
     ·rename_i xA
      split at hq
      ·rename_i l hl
       exact lr g3 g5 (l:=l) hr h1 (fun hf=>by rw [g6] at hf; exact absurd hf xA) (fun _=>⟨hl,hq⟩)
      ·cases hq
    obtain ⟨c,k1,k2⟩:=key
    refine ap h ?_ k2
    have Rh:fl[j]?=some f:=by simpa using g1
    simp [execOp,ho,Instr.field,run_underlying e2,Rh,eX,asAgg,g2,k1]
   ·cases hq
  ·cases hq
 ·cases hq
theorem A4 (h:aV E R w β s a) (t:TypeId) (x ix:Operand) (ho:o.op=.index t x ix) {v:AV} (hq:AQ E t (bc E s.ae x) (bc E s.ae ix)=some (true,v)) :
  bz E R w β s a o (s.put o.dst (.v v)):=by
 have rx:=aI h x
 have ri:=aI h ix
 unfold AQ at hq
 split at hq
 ·rename_i i l k n hi hx Ox
  rw [hx] at rx
  rw [Ox] at ri
  have JG:Rel R w (.int k n) (a.eval ix):=ri
  have df:Rel R w (.str l) (a.eval x):=rx
  generalize Ho:a.eval ix=iv at JG
  generalize eX:a.eval x=xv at df
  cases JG
  cases df
  obtain ⟨gb,u,e1,e2,e3,e4,e5,e6⟩:=bG E hi
  split at hq
  ·rename_i hk
   rw [hk] at e5
   have:=jP e5
   subst this
   injection hq with hq
   injection hq with tB mV
   subst mV
   obtain ⟨wu,EE⟩:=of_decide_eq_true tB
   have bK:n.toNat < l.length:=by omega
   refine ap h (c:=.int .u8 (l.getD n.toNat 0).toNat) ?_ (Rel.int _ _)
   have jt:(⟨⟨l⟩⟩:ByteArray)[n.toNat]?=some (l.getD n.toNat 0):=by
    have hs:n.toNat < (⟨⟨l⟩⟩:ByteArray).size:=bK
    rw [getElem?_pos (⟨⟨l⟩⟩:ByteArray) n.toNat hs]
    congr 1
    simp [List.getD,List.getElem?_eq_getElem bK]
    rfl
   simp [execOp,ho,Instr.index,Ho,eX,asIntOf,run_underlying e2,wu,jt]
  ·cases hq
 ·rename_i i cs k n hi hx Ox
  rw [hx] at rx
  rw [Ox] at ri
  have JG:Rel R w (.int k n) (a.eval ix):=ri
  have df:Rel R w (.agg cs) (a.eval x):=rx
  generalize Ho:a.eval ix=iv at JG
  generalize eX:a.eval x=xv at df
  cases JG
  cases df with
  | @agg _ vs hr h1=>
  obtain ⟨gb,u,e1,e2,e3,e4,e5,e6⟩:=bG E hi
  split at hq
  ·rename_i len esz ag hk
   rw [hk] at e5
   obtain ⟨e,ie,ue,rfl,f1,f2,f3,f4⟩:=mT e5
   split at hq
   ·rename_i v' KW
    injection hq with hq
    injection hq with tB mV
    subst mV
    have fm:=of_decide_eq_true tB
    have key:∃ c,(part e ⟨vs⟩ (n.toNat * esz)).run E.P w=.ok c w∧Rel R w v' c:=by
     split at KW
     ·rename_i xA
      split at KW
      ·rename_i l hl
       exact lr f1 f3 (l:=l) hr h1 (fun _=>⟨by rw [f2]; exact hl,KW⟩) (fun hf=>by rw [f4,xA] at hf; cases hf)
      ·cases KW
     ·rename_i xA
      split at KW
      ·rename_i l hl
       exact lr f1 f3 (l:=l) hr h1 (fun hf=>by rw [f4] at hf; exact absurd hf xA) (fun _=>⟨hl,KW⟩)
      ·cases KW
    obtain ⟨c,k1,k2⟩:=key
    refine ap h ?_ k2
    simp [execOp,ho,Instr.index,Ho,eX,asIntOf,run_underlying e2,fm,run_sizeOf w f1,f2,k1]
   ·cases hq
  ·cases hq
 ·cases hq
theorem xB (h:aV E R w β s a) (x:Operand) (j:Nat) (ho:o.op=.extract x j) {vs:List AV} {v:AV} (hx:bc E s.ae x=.v (.bk vs)) (hn:nth vs j=some v) :
  bz E R w β s a o (s.put o.dst (.v v)):=by
 have rx:=aI h x
 rw [hx] at rx
 have df:Rel R w (.bk vs) (a.eval x):=rx
 generalize eX:a.eval x=xv at df
 cases df with
 | @bk _ us hr=>
 rw [aR] at hn
 obtain ⟨c,h1,h2⟩:=hr.get hn
 refine ap h ?_ h2
 simp [execOp,ho,Instr.extract,eX,h1]
theorem ft (h:aV E R w β s a):∀ {l:List Operand} {vs:List AV},kQ E s.ae l=some vs→aE R w vs (l.map a.eval)
 | [],vs,hl=>by simp [kQ] at hl; subst hl; exact .nil
 | x :: l,vs,hl=>by
  unfold kQ at hl
  split at hl
  ·rename_i v r h1 h2
   cases hl
   have:=aI h x
   rw [h1] at this
   exact .cons this (ft h h2)
  ·cases hl
theorem vG (h:aV E R w β s a) (g:FuncId) (x y:Array Operand) (ho:o.op=.makeFunc (.func g) x y) {p q:List AV} (hp:kQ E s.ae x.toList=some p) (hq:kQ E s.ae y.toList=some q) :
  bz E R w β s a o (s.put o.dst (.v (.fn g p q))):=by
 have h1:=ft h hp
 have h2:=ft h hq
 refine ap h (c:=.func (.func g) ⟨x.toList.map a.eval⟩ ⟨y.toList.map a.eval⟩) ?_ (Rel.fn h1 h2)
 have e1:x.map a.eval=⟨x.toList.map a.eval⟩:=Array.ext' (by simp)
 have e2:y.map a.eval=⟨y.toList.map a.eval⟩:=Array.ext' (by simp)
 simp [execOp,ho,Instr.makeFunc,e1,e2]
end ops
end Go.Am
namespace Go.Am
open Go
section ops
variable {E:Env} {R:aj} {w:World} {β:Nat→Nat} {s:St} {a:Act} {o:Oper}
theorem size_bytes (l:List UInt8):(⟨⟨l⟩⟩:ByteArray).size=l.length:=rfl
theorem pO (l:List UInt8):(⟨⟨l⟩⟩:ByteArray).toList=l:=by rw [ByteArray.toList_eq]
theorem xC (l r:List UInt8):((⟨⟨l⟩⟩:ByteArray)++⟨⟨r⟩⟩)=⟨⟨l++r⟩⟩:=by
 apply ByteArray.ext
 rw [ByteArray.data_append]
 simp
theorem DC (op:BinOp) (t:TypeId) (x y:Operand) (k k':IntKind) (n m:Int):(eqGuard op t x y (.int k n) (.int k' m)).run E.P w=.ok () w:=by
 unfold eqGuard
 cases op <;> rfl
theorem DD (op:BinOp) (t:TypeId) (x y:Operand) (n m:ByteArray):(eqGuard op t x y (.string n) (.string m)).run E.P w=.ok () w:=by
 unfold eqGuard
 cases op <;> rfl
theorem A5 (h:aV E R w β s a) (op:BinOp) (t u:TypeId) (x y:Operand) (ho:o.op=.binOp op t x y u) {p q v:AV} (hx:bc E s.ae x=.v p) (hy:bc E s.ae y=.v q) (hv:yX op p q=some (true,v)) :
  bz E R w β s a o (s.put o.dst (.v v)):=by
 have rx:=aI h x
 have ry:=aI h y
 rw [hx] at rx
 rw [hy] at ry
 have df:Rel R w p (a.eval x):=rx
 have mK:Rel R w q (a.eval y):=ry
 have key:∃ c,(do eqGuard op t x y (a.eval x) (a.eval y); binOp op t (a.eval x) (a.eval y):Sem Value).run E.P w=.ok c w∧Rel R w v c:=by
  generalize eX:a.eval x=xv at df
  generalize NJ:a.eval y=yv at mK
  unfold yX at hv
  split at hv
  ·rename_i k n k' m
   cases df
   cases mK
   simp only [Sem.run_bind,DC,Result.andThen_ok]
   split at hv
   ·injection hv with hv
    injection hv with h1 h2
    subst h2
    have hm:=of_decide_eq_true h1
    have KX:¬ m < 0:=by omega
    exact ⟨.int k (k.wrap (n * 2 ^ (min m.toNat k.bits))),by simp [binOp,Op.shift,KX],.int _ _⟩
   ·injection hv with hv
    injection hv with h1 h2
    subst h2
    have hm:=of_decide_eq_true h1
    have KX:¬ m < 0:=by omega
    exact ⟨.int k (n.fdiv (2 ^ (min m.toNat k.bits))),by simp [binOp,Op.shift,KX],.int _ _⟩
   ·rename_i JH TM
    split at hv
    ·rename_i E2
     subst E2
     split at hv
     ·cases hv; exact ⟨.int k (k.wrap (n+m)),by simp [binOp,Op.intArith],.int _ _⟩
     ·cases hv; exact ⟨.int k (k.wrap (n - m)),by simp [binOp,Op.intArith],.int _ _⟩
     ·cases hv; exact ⟨.int k (k.wrap (n * m)),by simp [binOp,Op.intArith],.int _ _⟩
     ·injection hv with hv
      injection hv with h1 h2
      subst h2
      have hm:¬ m=0:=by simpa using h1
      exact ⟨.int k (k.wrap (n.tdiv m)),by simp [binOp,Op.intDiv,hm],.int _ _⟩
     ·injection hv with hv
      injection hv with h1 h2
      subst h2
      have hm:¬ m=0:=by simpa using h1
      exact ⟨.int k (n.tmod m),by simp [binOp,Op.intDiv,hm],.int _ _⟩
     ·cases hv; exact ⟨.int k (KL k n m),by simp [binOp,Op.intBits,KL],.int _ _⟩
     ·cases hv; exact ⟨.int k (Rc k n m),by simp [binOp,Op.intBits,Rc],.int _ _⟩
     ·cases hv; exact ⟨.int k (KM k n m),by simp [binOp,Op.intBits,KM],.int _ _⟩
     ·cases hv; exact ⟨.bool (n == m),by simp [binOp,Op.intCmp],.bool _⟩
     ·cases hv; exact ⟨.bool (n != m),by simp [binOp,Op.intCmp],.bool _⟩
     ·cases hv; exact ⟨.bool (decide (n < m)),by simp [binOp,Op.intCmp],.bool _⟩
     ·cases hv; exact ⟨.bool (decide (n≤m)),by simp [binOp,Op.intCmp],.bool _⟩
     ·cases hv; exact ⟨.bool (decide (n > m)),by simp [binOp,Op.intCmp],.bool _⟩
     ·cases hv; exact ⟨.bool (decide (n≥m)),by simp [binOp,Op.intCmp],.bool _⟩
     ·cases hv
    ·cases hv
  ·rename_i l r
   cases df
   cases mK
   simp only [Sem.run_bind,DD,Result.andThen_ok]
   split at hv
   ·injection hv with hv
    injection hv with h1 h2
    subst h2
    have hm:=of_decide_eq_true h1
    refine ⟨.string ⟨⟨l++r⟩⟩,?_,.str _⟩
    have KY:¬ ((l.length+r.length:Nat):Int) > IntKind.i64.max:=by
     have:IntKind.i64.max=9223372036854775807:=by decide
     omega
    simp only [binOp,Op.stringOp,size_bytes,if_neg KY,xC,Sem.run_pure]
   ·cases hv; exact ⟨.bool (l == r),by simp [binOp,Op.stringOp],.bool _⟩
   ·cases hv; exact ⟨.bool (!(l == r)),by simp [binOp,Op.stringOp],.bool _⟩
   ·cases hv; exact ⟨.bool (Op.bytesLess l r),by simp [binOp,Op.stringOp],.bool _⟩
   ·cases hv; exact ⟨.bool (Op.bytesLess l r || l == r),by simp [binOp,Op.stringOp],.bool _⟩
   ·cases hv; exact ⟨.bool (!(Op.bytesLess l r || l == r)),by simp [binOp,Op.stringOp],.bool _⟩
   ·cases hv; exact ⟨.bool (!(Op.bytesLess l r)),by simp [binOp,Op.stringOp],.bool _⟩
   ·cases hv
  ·cases hv
 obtain ⟨c,k1,k2⟩:=key
 refine ap h (c:=c) ?_ k2
 simp only [Sem.run_bind] at k1
 simp only [execOp,ho,Sem.run_bind,k1,Result.andThen_ok,Sem.run_pure]
theorem jF {t:TypeId} {i:TypeInfo} {u:TypeDesc} (h1:E.P.info? t=some i) (h2:E.P.underlying t=some u) {off:Nat} {cs:List AV} {vs:List Value} {v:AV} (hr:aE R w cs vs) (h3:∀ x∈vs,x.oneCell'=true)
  (h:Cu (iT u) off i.size cs=some v):∃ c,(part t ⟨vs⟩ off).run E.P w=.ok c w∧Rel R w v c:=by
 unfold Cu at h
 cases ha:iT u with
 | true=>
  rw [ha] at h
  simp only [if_true] at h
  split at h
  ·rename_i l hl
   exact lr h1 h2 hr h3 (fun _=>⟨hl,h⟩) (fun e=>by rw [ha] at e; cases e)
  ·cases h
 | false=>
  rw [ha] at h
  simp only [Bool.false_eq_true,if_false] at h
  split at h
  ·rename_i l hl
   exact lr h1 h2 hr h3 (fun e=>by rw [ha] at e; cases e) (fun _=>⟨hl,h⟩)
  ·cases h
theorem za {ek:TypeId→EK} {d:Nat} (ih:∀ (t:TypeId) (a b:AV) (r:Bool) (x y:Value),kw (ek t) a b=some r→Rel R w a x→Rel R w b y→(Op.equalIn d t x y).run E.P w=.ok r w) {xs ys:List AV} {vs us:List Value}
  (hx:aE R w xs vs) (sA:∀ x∈vs,x.oneCell'=true) (hy:aE R w ys us) (HN:∀ x∈us,x.oneCell'=true) :
  ∀ (fs:List Field) (l:KI) (r:Bool),AO E.P ek fs=some l→qN l xs ys=some r→(Op.eqFields d ⟨vs⟩ ⟨us⟩ fs).run E.P w=.ok r w
 | [],l,r,hl,hr=>by
  simp [AO] at hl
  subst hl
  simp [qN] at hr
  subst hr
  rfl
 | f :: fs,l,r,hl,hr=>by
  unfold AO at hl
  split at hl
  ·cases hl
  ·rename_i hn
   split at hl
   ·rename_i i u l' h1 h2 h3
    cases hl
    unfold qN at hr
    split at hr
    ·rename_i a b ha hb
     split at hr
     ·rename_i p q hp hq
      cases hr
      obtain ⟨c,k1,k2⟩:=jF h1 h2 hx sA ha
      obtain ⟨c',k3,k4⟩:=jF h1 h2 hy HN hb
      have cq : f.name ≠ "_" := by simpa using hn
      have he:=ih f.type a b p c c' hp k2 k4
      have tC:=za ih hx sA hy HN fs l' q h3 hq
      simp only [Op.eqFields,cq,ne_eq,not_false_eq_true,if_true,Sem.run_bind,k1,k3,he,Result.andThen_ok]
      cases p with
      | true=>simp [tC]
      | false=>simp
     ·cases hr
    ·cases hr
   ·cases hl
theorem wv {ek:EK} {d:Nat} {e:TypeId} {i:TypeInfo} {u:TypeDesc} (h1:E.P.info? e=some i) (h2:E.P.underlying e=some u) (ih:∀ (a b:AV) (r:Bool) (x y:Value),kw ek a b=some r→Rel R w a x→Rel R w b y→(Op.equalIn d e x y).run E.P w=.ok r w) {xs ys:List AV} {vs us:List Value}
  (hx:aE R w xs vs) (sA:∀ x∈vs,x.oneCell'=true) (hy:aE R w ys us) (HN:∀ x∈us,x.oneCell'=true) :
  ∀ (m k:Nat) (r:Bool),qN (tn i.size (iT u) ek m k) xs ys=some r→(Op.eqItems d e i.size ⟨vs⟩ ⟨us⟩ (List.range' k m)).run E.P w=.ok r w
 | 0,k,r,hr=>by
  simp [tn,qN] at hr
  subst hr
  rfl
 | m+1,k,r,hr=>by
  unfold tn qN at hr
  split at hr
  ·rename_i a b ha hb
   split at hr
   ·rename_i p q hp hq
    cases hr
    obtain ⟨c,k1,k2⟩:=jF h1 h2 hx sA ha
    obtain ⟨c',k3,k4⟩:=jF h1 h2 hy HN hb
    have he:=ih a b p c c' hp k2 k4
    have tC:=wv h1 h2 ih hx sA hy HN m (k+1) q hq
    simp only [List.range'_succ,Op.eqItems,Sem.run_bind,k1,k3,he,Result.andThen_ok]
    cases p with
    | true=>simpa using tC
    | false=>simp
   ·cases hr
  ·cases hr
theorem xD:∀ (n d:Nat),n≤d→∀ (t:TypeId) (a b:AV) (r:Bool) (x y:Value),kw (ov E.P n t) a b=some r→Rel R w a x→Rel R w b y→(Op.equalIn d t x y).run E.P w=.ok r w
 | 0,_,_,t,a,b,r,x,y,h,_,_=>by simp [ov,kw] at h
 | n+1,0,hd,_,_,_,_,_,_,_,_,_=>by omega
 | n+1,d+1,hd,t,a,b,r,x,y,h,hx,hy=>by
  unfold ov at h
  split at h
  ·rename_i hu
   unfold kw at h
   split at h
   all_goals (try contradiction)
   cases hx; cases hy; cases h
   exact run_equalIn_bool' w d t _ _ hu
  ·rename_i k hu
   unfold kw at h
   split at h
   all_goals (try contradiction)
   split at h
   ·rename_i hk
    subst hk
    cases hx; cases hy; cases h
    exact run_equalIn_int w d t _ k _ _ hu
   ·cases h
  ·rename_i hu
   unfold kw at h
   split at h
   all_goals (try contradiction)
   cases hx; cases hy; cases h
   rw [run_equalIn_string w d t _ _ hu,pO,pO]
  ·rename_i fs hu
   split at h
   ·simp [kw] at h
   ·rename_i hs
    split at h
    ·rename_i l hl
     unfold kw at h
     split at h
     all_goals (try contradiction)
     rename_i xw xs ys hk
     cases hk
     cases hx with
     | agg hx sA=>
     cases hy with
     | agg hy HN=>
     have hf:E.P.fieldsOf t=fs:=by simp [Program.fieldsOf,hu]
     rw [run_equalIn_struct w d t _ _ (by rw [hf]; exact hu) (by simpa using hs),hf]
     exact za (fun t a b r x y=>xD n d (by omega) t a b r x y) hx sA hy HN fs.toList _ r hl h
    ·simp [kw] at h
  ·rename_i m e hu
   split at h
   ·rename_i i ud g1 g2
    unfold kw at h
    split at h
    all_goals (try contradiction)
    rename_i xw xs ys hk
    cases hk
    cases hx with
    | agg hx sA=>
    cases hy with
    | agg hy HN=>
    have pP:E.P.cellsOf e=i.size:=by simp [Program.cellsOf,g1]
    rw [run_equalIn_array (P:=E.P) w d _ _ hu g1,pP,List.range_eq_range']
    exact wv g1 g2 (fun a b r x y=>xD n d (by omega) e a b r x y) hx sA hy HN m 0 r h
   ·simp [kw] at h
  ·simp [kw] at h
theorem jG {t:TypeId} {i:TI} (hi:E.ti t=some i) {p q:AV} {r:Bool} {x y:Value} (h:kw i.ek p q=some r) (hx:Rel R w p x) (hy:Rel R w q y) :
  (Op.equalIn 10000 t x y).run E.P w=.ok r w∧((∃ b c,x=.bool b∧y=.bool c)∨(∃ k n k' m,x=.int k n∧y=.int k' m)∨(∃ n m,x=.string n∧y=.string m)∨(∃ n m,x=.agg n∧y=.agg m∧E.P.eqGuardType E.P.depth t=false)):=by
 have wx:i.ek=rO E.P t:=by
  have:=E.Dr t i hi
  unfold Dq at this
  split at this
  ·split at this
   ·cases this; rfl
   ·cases this
  ·cases this
 rw [wx] at h
 have hg:kw (ov E.P 6 t) p q=some r∧((∃ l,ov E.P 6 t=.st l)→E.P.eqGuardType E.P.depth t=false):=by
  unfold rO at h
  split at h
  ·rename_i l hl
   split at h
   ·simp [kw] at h
   ·rename_i Hp
    exact ⟨by rw [hl]; exact h,fun _=>by simpa using Hp⟩
  ·rename_i k hk
   exact ⟨h,fun ⟨l,hl⟩=>absurd hl (hk l)⟩
 refine ⟨xD 6 10000 (by omega) t p q r x y hg.1 hx hy,?_⟩
 have h2:=hg.1
 have h3:=hg.2
 generalize ov E.P 6 t=k at h2 h3
 unfold kw at h2
 split at h2
 ·cases hx; cases hy; exact .inl ⟨_,_,rfl,rfl⟩
 ·cases hx; cases hy; exact .inr (.inl ⟨_,_,_,_,rfl,rfl⟩)
 ·cases hx; cases hy; exact .inr (.inr (.inl ⟨_,_,rfl,rfl⟩))
 ·cases hx; cases hy; exact .inr (.inr (.inr ⟨_,_,rfl,rfl,h3 ⟨_,rfl⟩⟩))
 ·cases h2
theorem E3 (h:aV E R w β s a) (op:BinOp) (t u:TypeId) (x y:Operand) (ho:o.op=.binOp op t x y u) {p q:AV} {r:Bool} (hx:bc E s.ae x=.v p) (hy:bc E s.ae y=.v q) (hb:yX op p q=none) (hv:Re E op t p q=some r) :
  bz E R w β s a o (s.put o.dst (.v (.bool r))):=by
 have rx:=aI h x
 have ry:=aI h y
 rw [hx] at rx
 rw [hy] at ry
 have df:Rel R w p (a.eval x):=rx
 have mK:Rel R w q (a.eval y):=ry
 have key:(do eqGuard op t x y (a.eval x) (a.eval y); binOp op t (a.eval x) (a.eval y):Sem Value).run E.P w=.ok (.bool r) w:=by
  generalize eX:a.eval x=xv at df
  generalize NJ:a.eval y=yv at mK
  unfold Re at hv
  split at hv
  ·rename_i i hi
   obtain ⟨k1,k2⟩:=jG hi hv df mK
   rcases k2 with ⟨b,c,rfl,rfl⟩ | ⟨k,n,k',m,rfl,rfl⟩ | ⟨n,m,rfl,rfl⟩ | ⟨n,m,rfl,rfl,hg⟩
   ·have A6:(eqGuard .eql t x y (.bool b) (.bool c)).run E.P w=.ok () w:=rfl
    simp [A6,binOp,Op.equal,Op.maxDepth,k1]
   ·cases df; cases mK; simp [yX] at hb
    cases hk:i.ek <;> simp [hk,kw] at hv
    exact absurd hv.1 hb
   ·cases df; cases mK; simp [yX] at hb
   ·simp only [Sem.run_bind,run_eqGuard_agg w _ t x y n m hg,Result.andThen_ok,run_eql_struct,k1]
  ·rename_i i hi
   split at hv
   ·rename_i r' ky
    cases hv
    obtain ⟨k1,k2⟩:=jG hi ky df mK
    rcases k2 with ⟨b,c,rfl,rfl⟩ | ⟨k,n,k',m,rfl,rfl⟩ | ⟨n,m,rfl,rfl⟩ | ⟨n,m,rfl,rfl,hg⟩
    ·have A6:(eqGuard .neq t x y (.bool b) (.bool c)).run E.P w=.ok () w:=rfl
     simp [A6,binOp,Op.equal,Op.maxDepth,k1]
    ·cases df; cases mK; simp [yX] at hb
     cases hk:i.ek <;> simp [hk,kw] at ky
     exact absurd ky.1 hb
    ·cases df; cases mK; simp [yX] at hb
    ·simp only [Sem.run_bind,run_eqGuard_agg w _ t x y n m hg,Result.andThen_ok,run_neq_struct,k1]
   ·cases hv
  ·cases hv
 refine ap h (c:=.bool r) ?_ (.bool r)
 simp only [Sem.run_bind] at key
 simp only [execOp,ho,Sem.run_bind,key,Result.andThen_ok,Sem.run_pure]
theorem zb {p:AV} {r:Bool} {x:Value} (hv:HI p=some r) (hx:Rel R w p x):(Qw p=true∧∃ a n c,x=.slice a n c∧a.isNone=r)∨(Qw p=false∧∃ a,x=.pointer a∧a.isNone=r):=by
 unfold HI at hv
 split at hv
 ·cases hv
  cases hx with
  | iF=>exact .inl ⟨rfl,_,_,_,rfl,rfl⟩
  | list _ _ _ hk=>exact hk.elim
 ·cases hv
  cases hx with
  | list _ _ _ _=>exact .inl ⟨rfl,_,_,_,rfl,rfl⟩
 ·cases hv
  cases hx with
  | list _ _ _ _=>exact .inl ⟨rfl,_,_,_,rfl,rfl⟩
 ·cases hv
  cases hx with
  | iR _ _=>exact .inl ⟨rfl,_,_,_,rfl,rfl⟩
 ·cases hv
  cases hx with
  | dM _ _ _=>exact .inl ⟨rfl,_,_,_,rfl,rfl⟩
 ·cases hv
  cases hx
  exact .inr ⟨rfl,_,rfl,rfl⟩
 ·cases hv
  cases hx with
  | ptr _=>exact .inr ⟨rfl,_,rfl,rfl⟩
 ·cases hv
  cases hx with
  | ep _=>exact .inr ⟨rfl,_,rfl,rfl⟩
 ·cases hv
theorem tD {p:AV} {b:Bool} {x:Value} (hv:AW p=some b) (hx:Rel R w p x):(b=true∧x=.slice none 0 0)∨(b=false∧x=.pointer none):=by
 unfold AW at hv
 split at hv
 ·cases hv
  cases hx with
  | iF=>exact .inl ⟨rfl,rfl⟩
  | list _ _ _ hk=>exact hk.elim
 ·cases hv
  cases hx
  exact .inr ⟨rfl,rfl⟩
 ·cases hv
theorem HO {P:Program} {t:TypeId} (h:KO P t=true):∃ e,P.underlying t=some (.slice e):=by
 unfold KO at h
 split at h
 ·rename_i e he; exact ⟨e,he⟩
 ·cases h
theorem HP {P:Program} {t:TypeId} (h:KP P t=true):P.underlying t=some (.pointer (P.pointee t)):=by
 unfold KP at h
 split at h
 ·rename_i e he
  unfold Program.pointee
  rw [he]
 ·cases h
theorem DE (h:aV E R w β s a) (op:BinOp) (t u:TypeId) (x y:Operand) (ho:o.op=.binOp op t x y u) {p q:AV} {r:Bool} (hx:bc E s.ae x=.v p) (hy:bc E s.ae y=.v q) (hv:KQ E op t p q=some r) :
  bz E R w β s a o (s.put o.dst (.v (.bool r))):=by
 have rx:=aI h x
 rw [hx] at rx
 have ry:=aI h y
 rw [hy] at ry
 have df:Rel R w p (a.eval x):=rx
 have mK:Rel R w q (a.eval y):=ry
 have key:(do eqGuard op t x y (a.eval x) (a.eval y); binOp op t (a.eval x) (a.eval y):Sem Value).run E.P w=.ok (.bool r) w:=by
  generalize eX:a.eval x=xv at df
  generalize NJ:a.eval y=yv at mK
  have two:∀ {r0:Bool},HI p=some r0→rQ E.P t p q=true→(∃ a n c e,xv=.slice a n c∧yv=.slice none 0 0∧a.isNone=r0∧E.P.underlying t=some (.slice e))∨(∃ a,xv=.pointer a∧yv=.pointer none∧a.isNone=r0∧E.P.underlying t=some (.pointer (E.P.pointee t))):=by
   intro r0 h1 h2
   unfold rQ at h2
   split at h2
   ·rename_i hb
    rw [Bool.and_eq_true] at h2
    obtain ⟨e,he⟩:=HO h2.2
    rcases tD hb mK with ⟨_,rfl⟩ | ⟨hf,_⟩
    ·rcases zb h1 df with ⟨_,a,n,c,rfl,hn⟩ | ⟨hs,_⟩
     ·exact .inl ⟨a,n,c,e,rfl,rfl,hn,he⟩
     ·rw [h2.1] at hs; cases hs
    ·cases hf
   ·rename_i hb
    rw [Bool.and_eq_true] at h2
    have hp:=HP h2.2
    rcases tD hb mK with ⟨hf,_⟩ | ⟨_,rfl⟩
    ·cases hf
    ·rcases zb h1 df with ⟨hs,_⟩ | ⟨_,a,rfl,hn⟩
     ·rw [hs] at h2; cases h2.1
     ·exact .inr ⟨a,rfl,rfl,hn,hp⟩
   ·cases h2
  unfold KQ at hv
  split at hv
  ·rename_i r0 h1
   obtain ⟨h2,h3⟩:rQ E.P t p q=true∧_:=by
    cases h2:rQ E.P t p q with
    | false=>rw [h2] at hv; cases hv
    | true=>rw [h2] at hv; exact ⟨rfl,Option.some.inj hv⟩
   subst h3
   rcases two h1 h2 with ⟨a,n,c,e,rfl,rfl,hn,he⟩ | ⟨a,rfl,rfl,hn,hp⟩
   ·have hg:(eqGuard .eql t x y (.slice a n c) (.slice none 0 0)).run E.P w=.ok () w:=rfl
    simp only [Sem.run_bind,hg,Result.andThen_ok,Lib.run_eql_slice_nil w t e a n c 0 0 he,hn]
   ·have hg:(eqGuard .eql t x y (.pointer a) (.pointer none)).run E.P w=.ok () w:=rfl
    simp only [Sem.run_bind,hg,Result.andThen_ok,run_eql_pointer_nil w t a hp,hn]
  ·rename_i r0 h1
   obtain ⟨h2,h3⟩:rQ E.P t p q=true∧_:=by
    cases h2:rQ E.P t p q with
    | false=>rw [h2] at hv; cases hv
    | true=>rw [h2] at hv; exact ⟨rfl,Option.some.inj hv⟩
   subst h3
   rcases two h1 h2 with ⟨a,n,c,e,rfl,rfl,hn,he⟩ | ⟨a,rfl,rfl,hn,hp⟩
   ·have hg:(eqGuard .neq t x y (.slice a n c) (.slice none 0 0)).run E.P w=.ok () w:=rfl
    simp only [Sem.run_bind,hg,Result.andThen_ok,run_neq_slice_nil w t e a n c he,hn]
   ·have hg:(eqGuard .neq t x y (.pointer a) (.pointer none)).run E.P w=.ok () w:=rfl
    simp only [Sem.run_bind,hg,Result.andThen_ok,run_neq_pointer_nil w t a hp,hn]
  ·cases hv
 refine ap h (c:=.bool r) ?_ (.bool r)
 simp only [Sem.run_bind] at key
 simp only [execOp,ho,Sem.run_bind,key,Result.andThen_ok,Sem.run_pure]
theorem E4 (h:aV E R w β s a) (t:TypeId) (x:Operand) (ho:o.op=.unOp .not t x) {b:Bool} (hx:bc E s.ae x=.v (.bool b)):bz E R w β s a o (s.put o.dst (.v (.bool (!b)))):=by
 have rx:=aI h x
 rw [hx] at rx
 have df:Rel R w (.bool b) (a.eval x):=rx
 generalize eX:a.eval x=xv at df
 cases df
 refine ap h (c:=.bool (!b)) ?_ (Rel.bool _)
 simp [execOp,ho,Op.unary,eX]
theorem E5 (h:aV E R w β s a) (t:TypeId) (x:Operand) (ho:o.op=.unOp .neg t x) {k:IntKind} {n:Int} (hx:bc E s.ae x=.v (.int k n)):bz E R w β s a o (s.put o.dst (.v (.int k (k.wrap (0 - n))))):=by
 have rx:=aI h x
 rw [hx] at rx
 have df:Rel R w (.int k n) (a.eval x):=rx
 generalize eX:a.eval x=xv at df
 cases df
 refine ap h (c:=.int k (k.wrap (0 - n))) ?_ (Rel.int _ _)
 simp [execOp,ho,Op.unary,Op.intArith,eX]
theorem wy:∀ (us:List Value) (off j0:Nat) (cells:Array Value),off+j0+us.length≤cells.size →
  ((us.zipIdx j0).foldl (fun (cs:Array Value) (p:Value × Nat)=>cs.setIfInBounds (off+p.2) p.1) cells).toList=cells.toList.take (off+j0)++us++cells.toList.drop (off+j0+us.length)
 | [],off,j0,cells,_=>by simp
 | u :: us,off,j0,cells,h=>by
  have bK:off+j0 < cells.size:=by simp at h; omega
  have ih:=wy us off (j0+1) (cells.setIfInBounds (off+j0) u) (by simp at h ⊢; omega)
  simp only [List.zipIdx_cons,List.foldl_cons]
  rw [ih]
  have e:=list_seg_step cells.toList (off+j0) u us (by simp at h ⊢; omega)
  simpa [Array.toList_setIfInBounds,Nat.add_assoc] using e
theorem mW (place:Nat→Option (Nat × Nat)):∀ {ps:List (Nat × AV)} {qs:List (Nat × Value)} {cells tE:List AV} {vs:List Value},
  aE R w (ps.map (·.2)) (qs.map (·.2))→ps.map (·.1)=qs.map (·.1)→aE R w cells vs→(∀ x∈vs,x.oneCell'=true)→rP place cells ps=some tE →
  ∃ us,Instr.fill place ⟨vs⟩ qs=some ⟨us⟩∧aE R w tE us∧∀ x∈us,x.oneCell'=true
 | [],qs,cells,tE,vs,h1,h2,h3,h4,h5=>by
  have:qs=[]:=by simpa using h2.symm
  subst this
  simp [rP] at h5
  subst h5
  exact ⟨vs,rfl,h3,h4⟩
 | (i,v) :: ps,[],cells,tE,vs,h1,h2,h3,h4,h5=>by simp at h2
 | (i,v) :: ps,(j,c) :: qs,cells,tE,vs,h1,h2,h3,h4,h5=>by
  simp only [List.map_cons,List.cons.injEq] at h2
  obtain ⟨rfl,h2⟩:=h2
  cases h1 with
  | cons hr h1=>
  unfold rP at h5
  split at h5
  ·cases h5
  ·rename_i off sz hp
   split at h5
   ·rename_i fm
    simp only [Bool.and_eq_true] at fm
    obtain ⟨⟨Hm,hlen⟩,hle⟩:=fm
    have hlen:=Nat.eq_of_beq_eq_true hlen
    have hle:=Nat.le_of_ble_eq_true hle
    obtain ⟨c1,c2⟩:=Rel.cells hr Hm
    have yO:c.cells.toList.length=sz:=by rw [← c1.length]; exact hlen
    have hb:off+v.cells.length≤cells.length:=by omega
    obtain ⟨us,u1,u2,u3⟩:=mW place h1 h2 (h3.bI c1 hb) (ic h4 c2) h5
    refine ⟨us,?_,u2,u3⟩
    have eC:c.cells.size=sz:=by simpa using yO
    have JI:vs.length=cells.length:=h3.length.symm
    have Oy:c.cells.zipIdx.foldl (fun (cs:Array Value) (x:Value × Nat)=>cs.setIfInBounds (off+x.2) x.1) ⟨vs⟩=⟨vs.take off++c.cells.toList++vs.drop (off+c.cells.toList.length)⟩:=by
     apply Array.ext'
     rw [← Array.foldl_toList,Array.toList_zipIdx]
     have:=wy c.cells.toList off 0 ⟨vs⟩ (by simp only [List.size_toArray]; omega)
     simpa using this
    have cp:(c.cells.size≠sz || decide (off+c.cells.size > (⟨vs⟩:Array Value).size))=false:=by
     have JH:decide (c.cells.size≠sz)=false:=by simp [eC]
     have TM:decide (off+c.cells.size > (⟨vs⟩:Array Value).size)=false:=by
      rw [decide_eq_false_iff_not,eC]
      show ¬ off+sz > vs.length
      omega
     rw [JH,TM]
     rfl
    unfold Instr.fill
    simp only [hp,cp,Bool.false_eq_true,if_false]
    rw [← u1]
    exact congrArg (fun z=>Instr.fill place z qs) Oy
   ·cases h5
theorem sW (h:aV E R w β s a):∀ {l:List (Nat × Operand)} {ps:List (Nat × AV)},Hl E s.ae l=some ps →
  aE R w (ps.map (·.2)) ((l.map fun x=>(x.1,a.eval x.2)).map (·.2))∧ps.map (·.1)=(l.map fun x=>(x.1,a.eval x.2)).map (·.1)
 | [],ps,hl=>by simp [Hl] at hl; subst hl; exact ⟨.nil,rfl⟩
 | (i,x) :: l,ps,hl=>by
  unfold Hl at hl
  split at hl
  ·rename_i v r h1 h2
   cases hl
   have hx:=aI h x
   rw [h1] at hx
   obtain ⟨g1,g2⟩:=sW h h2
   exact ⟨.cons hx g1,by simpa using g2⟩
  ·cases hl
theorem A7 (h:aV E R w β s a) (t:TypeId) (parts:Array (Nat × Operand)) (ho:o.op=.build t parts) {v:AV} (hv:lO E s t parts.toList=some v) :
  bz E R w β s a o (s.put o.dst (.v v)):=by
 unfold lO at hv
 split at hv
 ·rename_i i ps hi EF
  split at hv
  ·rename_i z hz
   split at hv
   ·rename_i cs pP
    split at hv
    ·rename_i xA
     cases hv
     simp only [Bool.and_eq_true] at xA
     obtain ⟨xA,oC⟩:=xA
     obtain ⟨gb,u,e1,e2,e3,e4,e5,e6⟩:=bG E hi
     rw [hz] at e6
     obtain ⟨zc,nX,AI⟩:=cM e6
     obtain ⟨p1,p2⟩:=sW h EF
     obtain ⟨c1,c2⟩:=Rel.cells (AI R w) oC
     have KZ:(parts.map fun (x:Nat × Operand)=>(x.1,a.eval x.2)).toList=parts.toList.map fun x=>(x.1,a.eval x.2):=by simp
     have key:∃ us,E.P.built t (parts.toList.map fun x=>(x.1,a.eval x.2))=some ⟨us⟩∧aE R w cs us∧∀ x∈us,x.oneCell'=true:=by
      cases u <;> simp only [iT] at e4 <;> first | (rw [xA] at e4; cases e4; done) | skip
      ·rename_i n e
       simp only [ou] at e5
       split at e5
       ·rename_i ie ue f1 f2
        injection e5 with e5
        rw [← e5] at pP
        obtain ⟨us,u1,u2,u3⟩:=mW (R:=R) (w:=w) _ p1 p2 c1 c2 pP
        refine ⟨us,?_,u2,u3⟩
        unfold Program.built
        simp only [e1,e2,nX,f1]
        rw [← u1]
        rfl
       ·cases e5
      ·rename_i fs
       simp only [ou] at e5
       split at e5
       ·rename_i l hl
        injection e5 with e5
        rw [← e5] at pP
        obtain ⟨us,u1,u2,u3⟩:=mW (R:=R) (w:=w) _ p1 p2 c1 c2 pP
        refine ⟨us,?_,u2,u3⟩
        unfold Program.built
        simp only [e1,e2,nX,mE hl]
        rw [← u1]
        have Qz:placeOf (.st l)=fun j=>(l.map fun x=>(x.1,x.2.1)).toArray[j]?:=by
         funext j
         simp only [placeOf,aR,List.getElem?_toArray,List.getElem?_map]
         cases l[j]? <;> rfl
        rw [Qz]
       ·cases e5
     obtain ⟨us,u1,u2,u3⟩:=key
     refine ap h (c:=.agg ⟨us⟩) ?_ (Rel.agg u2 u3)
     have bf:=run_build (P:=E.P) w t (parts.map fun (x:Nat × Operand)=>(x.1,a.eval x.2)) ⟨us⟩ (by rw [KZ]; exact u1)
     simp only [execOp,ho,Sem.run_bind,bf,Result.andThen_ok,Sem.run_pure]
    ·cases hv
   ·cases hv
  ·cases hv
 ·cases hv
end ops
end Go.Am
