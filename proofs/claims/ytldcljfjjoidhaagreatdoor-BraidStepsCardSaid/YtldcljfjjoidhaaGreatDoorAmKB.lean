/- The abstract machine: lists of cells; what keeps a state's meaning; loads and stores. -/
import Derived.Test.YtldcljfjjoidhaaGreatDoorAmKA
import Derived.Laws.CopyRow
import Derived.Laws.Slices
import Derived.Laws.StructEq
import Derived.ChangeKeysEq
set_option linter.all false
namespace Go.Am
open Go
section lists
variable {α:Type}
theorem uz (n:Nat) (l:List α):eN n l=l.drop n:=by
 induction n generalizing l with
 | zero=>simp [eN]
 | succ n ih=>cases l <;> simp [eN,ih]
theorem Hs {n:Nat} {l r:List α} (h:takeN n l=some r):r=l.take n∧r.length=n:=by
 induction n generalizing l r with
 | zero=>simp [takeN] at h; subst h; simp
 | succ n ih=>
  cases l with
  | nil=>simp [takeN] at h
  | cons a l=>
   unfold takeN at h
   split at h
   ·rename_i r' hr
    cases h
    obtain ⟨h1,h2⟩:=ih hr
    exact ⟨by simp [h1],by simp [h2]⟩
   ·cases h
theorem QV {off n:Nat} {l r:List α} (h:Em off n l=some r):r=(l.drop off).take n∧r.length=n:=by
 unfold Em at h
 rw [uz] at h
 exact Hs h
theorem dX (l:List α) (off:Nat) (ys:List α) (h:off+ys.length≤l.length):a7 l off ys=l.take off++ys++l.drop (off+ys.length):=by
 induction l generalizing off ys with
 | nil=>
  have hy:ys=[]:=List.eq_nil_of_length_eq_zero (by rw [List.length_nil] at h; omega)
  subst hy
  simp [a7]
 | cons a l ih=>
  cases ys with
  | nil=>simp [a7]
  | cons y ys=>
   cases off with
   | zero=>
    simp only [a7]
    rw [ih 0 ys (by simp at h ⊢; omega)]
    simp
   | succ n=>
    simp only [a7]
    rw [ih n (y :: ys) (by simp at h ⊢; omega)]
    rw [show n+1+(y :: ys).length=(n+(y :: ys).length)+1 by omega]
    simp
theorem xm (l:List α) (off:Nat) (ys:List α) (h:off+ys.length≤l.length):(a7 l off ys).length=l.length:=by
 rw [dX l off ys h]
 simp
 omega
end lists
section rel
variable {R:ak} {w:World}
theorem aH.length {l:List AV} {vs:List Value} (h:aH R w l vs):l.length=vs.length:=by
 induction l generalizing vs with
 | nil=>cases h; rfl
 | cons a l ih=>cases h with | cons h t=>simp [ih t]
theorem aH.get {l:List AV} {vs:List Value} (h:aH R w l vs) {i:Nat} {a:AV} (ha:l[i]?=some a):∃ c,vs[i]?=some c∧Rel R w a c:=by
 induction l generalizing vs i with
 | nil=>simp at ha
 | cons x l ih=>
  cases h with
  | cons h t=>
   cases i with
   | zero=>simp at ha; subst ha; exact ⟨_,by simp,h⟩
   | succ i=>simp at ha; obtain ⟨c,h1,h2⟩:=ih t ha; exact ⟨c,by simpa using h1,h2⟩
theorem aH.drop {l:List AV} {vs:List Value} (h:aH R w l vs) (n:Nat):aH R w (l.drop n) (vs.drop n):=by
 induction n generalizing l vs with
 | zero=>simpa using h
 | succ n ih=>cases h with
  | nil=>simpa using aH.nil
  | cons h t=>simpa using ih t
theorem aH.take {l:List AV} {vs:List Value} (h:aH R w l vs) (n:Nat):aH R w (l.take n) (vs.take n):=by
 induction n generalizing l vs with
 | zero=>simpa using aH.nil
 | succ n ih=>cases h with
  | nil=>simpa using aH.nil
  | cons h t=>simpa using aH.cons h (ih t)
theorem aH.append {l r:List AV} {vs us:List Value} (h:aH R w l vs) (k:aH R w r us):aH R w (l++r) (vs++us):=by
 induction l generalizing vs with
 | nil=>cases h; simpa using k
 | cons a l ih=>cases h with | cons h t=>exact .cons h (ih t)
theorem aH.one {a:AV} {c:Value} (h:Rel R w a c):aH R w [a] [c]:=.cons h .nil
theorem Rel.cells {a:AV} {c:Value} (h:Rel R w a c) (ht:a.aQ=true):aH R w a.cells c.cells.toList∧∀ v∈c.cells.toList,v.oneCell'=true:=by
 cases h with
 | agg h h1=>exact ⟨h,h1⟩
 | bf h=>simp [AV.aQ] at ht
 | bool=>exact ⟨.one (.bool _),by simp [Value.cells,Value.oneCell']⟩
 | int=>exact ⟨.one (.int _ _),by simp [Value.cells,Value.oneCell']⟩
 | str=>exact ⟨.one (.str _),by simp [Value.cells,Value.oneCell']⟩
 | gG=>exact ⟨.one .gG,by simp [Value.cells,Value.oneCell']⟩
 | ptr h=>exact ⟨.one (.ptr h),by simp [Value.cells,Value.oneCell']⟩
 | ep h=>exact ⟨.one (.ep h),by simp [Value.cells,Value.oneCell']⟩
 | jj=>exact ⟨.one .jj,by simp [Value.cells,Value.oneCell']⟩
 | hY=>exact ⟨.one .hY,by simp [Value.cells,Value.oneCell']⟩
 | lU=>exact ⟨.one .lU,by simp [Value.cells,Value.oneCell']⟩
 | ln h ho=>exact ⟨.one (.ln h ho),by simp [Value.cells,Value.oneCell']⟩
 | kL h ho=>exact ⟨.one (.kL h ho),by simp [Value.cells,Value.oneCell']⟩
 | list h hl hc hk=>exact ⟨.one (.list h hl hc hk),by simp [Value.cells,Value.oneCell']⟩
 | jh h hc=>exact ⟨.one (.jh h hc),by simp [Value.cells,Value.oneCell']⟩
 | iB h ho=>exact ⟨.one (.iB h ho),by simp [Value.cells,Value.oneCell']⟩
 | dA h ho hc=>exact ⟨.one (.dA h ho hc),by simp [Value.cells,Value.oneCell']⟩
 | gp h ho=>exact ⟨.one (.gp h ho),by simp [Value.cells,Value.oneCell']⟩
 | jE=>exact ⟨.one .jE,by simp [Value.cells,Value.oneCell']⟩
 | map h=>exact ⟨.one (.map h),by simp [Value.cells,Value.oneCell']⟩
 | cm=>exact ⟨.one .cm,by simp [Value.cells,Value.oneCell']⟩
 | fn h h'=>exact ⟨.one (.fn h h'),by simp [Value.cells,Value.oneCell']⟩
 | yield h=>exact ⟨.one (.yield h),by simp [Value.cells,Value.oneCell']⟩
 | mN=>exact ⟨.one .mN,by simp [Value.cells,Value.oneCell']⟩
 | iface h=>exact ⟨.one (.iface h),by simp [Value.cells,Value.oneCell']⟩
mutual
theorem Rel.fM:∀ {a:AV} {c:Value},Rel R w a c→Rel R w a.fM c
 | _,_,.bool b=>.bool b
 | _,_,.int k n=>.int k n
 | _,_,.str l=>.str l
 | _,_,.agg h h1=>.agg h.fM h1
 | _,_,.bf h=>.bf h.fM
 | _,_,.gG=>.gG
 | _,_,.ptr h=>.ptr h
 | _,_,.ep h=>.ep h
 | _,_,.jj=>.jj
 | _,_,.hY=>.hY
 | _,_,.lU=>.lU
 | _,_,.ln _ _=>.hY
 | _,_,.kL _ _=>.hY
 | _,_,@Rel.list _ _ .nil _ _ _ _ _ _ h hl hc hk=>.list h hl hc hk
 | _,_,@Rel.list _ _ .full _ _ _ _ _ _ h hl hc hk=>.list h hl hc hk
 | _,_,@Rel.list _ _ .ki _ _ _ _ _ _ h hl hc hk=>.list h hl hc hk
 | _,_,@Rel.list _ _ (.own _) _ _ _ _ _ _ h hl hc _=>.list h hl hc trivial
 | _,_,@Rel.list _ _ (.ba _ _) _ _ _ _ _ _ h hl hc _=>.list h hl hc trivial
 | _,_,.jh h hc=>.jh h hc
 | _,_,.iB h ho=>.iB h ho
 | _,_,.dA h ho hc=>.dA h ho hc
 | _,_,.gp h ho=>.gp h ho
 | _,_,.jE=>.jE
 | _,_,.map h=>.map h
 | _,_,.cm=>.cm
 | _,_,.fn h h'=>.fn h h'
 | _,_,.yield h=>.yield h
 | _,_,.mN=>.mN
 | _,_,.iface h=>.iface h
theorem aH.fM:∀ {l:List AV} {cs:List Value},aH R w l cs→aH R w (kr l) cs
 | _,_,.nil=>.nil
 | _,_,.cons h t=>.cons h.fM t.fM
end
theorem dx.get {b o:Nat} {l:List AV} (h:dx R w b o l):∃ vs,aH R w l vs∧(∀ v∈vs,v.oneCell'=true)∧(∀ j v,vs[j]?=some v→w.cell? ⟨b,o+j,none⟩=some v)∧∀ j,j < l.length→R.I b (o+j):=by
 induction l generalizing o with
 | nil=>exact ⟨[],.nil,by simp,by simp,by simp⟩
 | cons a l ih=>
  cases h with
  | @cons _ _ _ c _ hc h1 hi h t=>
   obtain ⟨vs,k1,k2,k3,k4⟩:=ih t
   refine ⟨c :: vs,.cons h k1,?_,?_,?_⟩
   ·intro v hv
    rcases List.mem_cons.1 hv with rfl | hv
    ·exact h1
    ·exact k2 v hv
   ·intro j v hv
    cases j with
    | zero=>simp at hv; subst hv; exact hc
    | succ j=>simp at hv; have:=k3 j v hv; rwa [show o+1+j=o+(j+1) by omega] at this
   ·intro j hj
    cases j with
    | zero=>exact hi
    | succ j=>have:=k4 j (by simp at hj; omega); rwa [show o+1+j=o+(j+1) by omega] at this
theorem dx.make {b o:Nat} {l:List AV} {vs:List Value} (h:aH R w l vs) (h1:∀ v∈vs,v.oneCell'=true) (hc:∀ j v,vs[j]?=some v→w.cell? ⟨b,o+j,none⟩=some v) (hi:∀ j,j < l.length→R.I b (o+j)):dx R w b o l:=by
 induction l generalizing vs o with
 | nil=>exact .nil
 | cons a l ih=>
  cases h with
  | cons h t=>
   refine .cons (hc 0 _ (by simp)) (h1 _ (by simp)) (hi 0 (by simp)) h (ih t (fun v hv=>h1 v (by simp [hv])) (fun j v hv=>?_) (fun j hj=>?_))
   ·have:=hc (j+1) v (by simpa using hv); rwa [show o+(j+1)=o+1+j by omega] at this
   ·have:=hi (j+1) (by simpa using hj); rwa [show o+(j+1)=o+1+j by omega] at this
theorem dx.drop {b o:Nat} {l:List AV} (h:dx R w b o l) (n:Nat):dx R w b (o+n) (l.drop n):=by
 induction n generalizing o l with
 | zero=>simpa using h
 | succ n ih=>cases h with
  | nil=>simpa using dx.nil
  | cons hc h1 hi h t=>have:=ih t; rw [show o+1+n=o+(n+1) by omega] at this; simpa using this
end rel
theorem cn (b o n:Nat):(⟨b,o,none⟩:Addr).add n=⟨b,o+n,none⟩:=by unfold Addr.add; split <;> simp_all
section bp
variable {E:Env} {R R':ak} {w w':World} {β β':Nat→Nat} {s:St} {a:Act}
theorem mV.mono (e:Ext R w R' w') {sl:a8} {tm:Array Value} (h:mV R w β sl tm):mV R' w' β sl tm:=
 fun i hi=>let ⟨c,h1,h2⟩:=h i hi; ⟨c,h1,h2.mono e⟩
theorem dc.mono (e:Ext R w R' w'):∀ {l:List (AV × AV)} {es:List MapEntry},dc R w l es→dc R' w' l es
 | [],[],_=>trivial
 | (_,_) :: _,_ :: _,h=>⟨h.1.mono e,h.2.1.mono e,dc.mono e h.2.2⟩
 | [],_ :: _,h=>h.elim
 | _ :: _,[],h=>h.elim
theorem mW {w w':World} {b:Nat} (h:b < w.heap.size) (e:w'.heap[b]?=w.heap[b]?):b < w'.heap.size:=by
 rw [Array.getElem?_eq_getElem h] at e
 exact (Array.getElem?_eq_some_iff.1 e).1
theorem fP.mono (e:Ext R w R' w') {go:GO} {ro:RO} (h:fP R w go ro) (hb:∀ b,ro.has b→w'.heap[b]?=w.heap[b]?) (hi:∀ b o,ro.has b→R'.I b o→R.I b o):fP R' w' go ro:=by
 cases ro with
 | none=>cases go <;> first | exact h | exact h.elim
 | bC=>cases go <;> first | exact h | exact h.elim
 | bU b=>
  have jI:=hb b rfl
  cases go with
  | dead=>exact mW h jI
  | row cs el=>obtain ⟨vs,h1,h2,h3,h4⟩:=h; exact ⟨vs,jI.trans h1,h2.mono e,h3,fun o ho=>h4 o (hi b o rfl ho)⟩
  | tok f sz el=>exact h.elim
  | ba _ _ _=>exact h.elim
  | mJ pt n left _=>obtain ⟨bm,seen,c0,h1,h2,h3⟩:=h; exact ⟨bm,seen,c0,e.bU h1,jI.trans h2,h3⟩
  | cS es sz el=>exact h.elim
  | map es=>obtain ⟨aw,clock,h1,h2,h3⟩:=h; exact ⟨aw,clock,jI.trans h1,dc.mono e h2,h3⟩
  | fG l pos=>exact jI.trans h
  | loop busy pending fn ae n params assign body defers done=>
   obtain ⟨⟨r,db,h1,h2,h3,h4,h5,h6,h7,h8,h9,h11⟩,h10⟩:=h
   exact ⟨⟨r,db,jI.trans h1,h2,h3,h4.mono e,h5,h6,h7,h8,h9,e.bU h11⟩,h10⟩
  | defers o=>exact jI.trans h
 | tok f b c=>
  have jI:=hb b rfl
  cases go with
  | tok f' sz el=>
   obtain ⟨h0,cur,h1,h2,h3,h4,h5⟩:=h
   exact ⟨h0,cur,jI.trans h1,h2,h3,h4,fun o ho rH=>h5 o ho (hi b o rfl rH)⟩
  | cS es sz el=>
   obtain ⟨h0,oQ,cur,vs,h1,h2,h3,h4,h5,h6,h7,h8⟩:=h
   exact ⟨h0,oQ,cur,vs,jI.trans h1,h2,h3,h4,fun o ho=>h5 o (hi b o rfl ho),h6.mono e,h7,h8⟩
  | dead=>exact mW h jI
  | row cs=>exact h.elim
  | ba _ _ _=>exact h.elim
  | mJ _ _ _ _=>exact h.elim
  | map es=>exact h.elim
  | fG l pos=>exact h.elim
  | loop=>exact h.elim
  | defers o=>exact h.elim
 | ba ts=>
  cases go with
  | ba fs sz el=>
   obtain ⟨h1,h2,h3⟩:=h
   refine ⟨h1,h2,fun j f t hf ht=>?_⟩
   have h4:=h3 j f t hf ht
   cases t with
   | bC=>exact h4
   | full f'=>exact h4
   | tok f' b c=>
    obtain ⟨h5,cur,k1,k2,k3,k4,k5⟩:=h4
    have hh:RO.has (.ba ts) b:=⟨j,f',c,ht⟩
    exact ⟨h5,cur,(hb b hh).trans k1,k2,k3,k4,fun o ho rH=>k5 o ho (hi b o hh rH)⟩
  | dead=>exact fun j f b c ht=>mW (h j f b c ht) (hb b ⟨j,f,c,ht⟩)
  | _=>exact h.elim
theorem Live.of {id b:Nat} {ro:RO} (h:nth R.obj id=some ro) (hb:ro.has b):Live R b:=⟨id,ro,h,hb⟩
theorem de.bp {G:List GO} (h:de E R w G) (e:Ext R w R' w') (ho:R'.obj=R.obj) (hb:∀ b,Live R b→w'.heap[b]?=w.heap[b]?) (hi:∀ b o,Live R b→R'.I b o→R.I b o) (wf:∀ b o,R'.I b o→b < w'.heap.size) (hd:E.lo≤w.drawn→E.lo≤w'.drawn:=by first | exact fun h=>h | exact fun h=>Nat.le_succ_of_le h):de E R' w' G where
 lo:=hd h.lo
 len:=by rw [ho]; exact h.len
 obj:=fun id go ro hg hr=>by
  rw [ho] at hr
  exact (h.obj id go ro hg hr).mono e (fun b Uw=>hb b (.of hr Uw)) (fun b o Uw=>hi b o (.of hr Uw))
 inj:=fun i j ri rj b h1 h2=>by rw [ho] at h1 h2; exact h.inj i j ri rj b h1 h2
 wf:=wf
 bY:=fun g cs hg=>(h.bY g cs hg).mono e
theorem Lx.bp {bx:cw} (h:Lx R w β bx) (e:Ext R w R' w') (hb:∀ k cs,dm bx k=some cs→w'.heap[β k]?=w.heap[β k]?) (hi:∀ k cs o,dm bx k=some cs→R'.I (β k) o→R.I (β k) o) (hl:∀ k cs,dm bx k=some cs→Live R' (β k)→Live R (β k)):Lx R' w' β bx where
 box:=fun k cs hk=>by
  obtain ⟨⟨vs,el,h1,h2,h3⟩,h4,h5⟩:=h.box k cs hk
  exact ⟨⟨vs,el,(hb k cs hk).trans h1,h2.mono e,h3⟩,fun o ho=>h4 o (hi k cs o hk ho),fun AB=>h5 (hl k cs hk AB)⟩
 inj:=h.inj
theorem oL.mono (e:Ext R w R' w'):∀ {l:List Nat} {ds:List Deferred},oL R l ds→oL R' l ds
 | [],[],_=>trivial
 | _ :: _,_ :: _,h=>let ⟨⟨b,h1,h2⟩,h3⟩:=h; ⟨⟨b,e.bU h1,h2⟩,oL.mono e h3⟩
 | [],_ :: _,h=>h.elim
 | _ :: _,[],h=>h.elim
theorem bg.bp (h:bg E R w β s a) (e:Ext R w R' w') (ho:R'.obj=R.obj) (hb:∀ b,Own R β s.boxes b→w'.heap[b]?=w.heap[b]?) (hi:∀ b o,Own R β s.boxes b→R'.I b o→R.I b o) (wf:∀ b o,R'.I b o→b < w'.heap.size) (hd:E.lo≤w.drawn→E.lo≤w'.drawn:=by first | exact fun h=>h | exact fun h=>Nat.le_succ_of_le h):bg E R' w' β s a where
 g:=h.g.bp e ho (fun b hl=>hb b (.inl hl)) (fun b o hl=>hi b o (.inl hl)) wf hd
 b:=h.b.bp e (fun k cs hk=>hb _ (.inr ⟨k,cs,hk,rfl⟩)) (fun k cs o hk=>hi _ o (.inr ⟨k,cs,hk,rfl⟩)) (fun k cs _ hl=>by obtain ⟨id,ro,h1,h2⟩:=hl; rw [ho] at h1; exact ⟨id,ro,h1,h2⟩)
 t:=h.t.mono e
 n:=h.n
 d:=h.d.mono e
theorem bh {w:World} {b:Nat} {o:Obj} (h:w.heap[b]?=some o):b < w.heap.size:=(Array.getElem?_eq_some_iff.1 h).1
theorem fP.lt {go:GO} {ro:RO} (h:fP R w go ro) {b:Nat} (hb:ro.has b):b < w.heap.size:=by
 cases ro with
 | none=>exact hb.elim
 | bC=>exact hb.elim
 | bU x=>
  have hb:b=x:=hb
  subst hb
  cases go with
  | dead=>exact h
  | row cs el=>obtain ⟨vs,h1,_⟩:=h; exact bh h1
  | tok f sz el=>exact h.elim
  | ba _ _ _=>exact h.elim
  | mJ pt n left _=>obtain ⟨bm,seen,c0,_,h2,_⟩:=h; exact bh h2
  | cS es sz el=>exact h.elim
  | map es=>obtain ⟨aw,clock,h1,_⟩:=h; exact bh h1
  | fG l pos=>exact bh h
  | loop=>obtain ⟨⟨r,db,h1,_⟩,_⟩:=h; exact bh h1
  | defers o=>exact bh h
 | tok f x c=>
  have hb:b=x:=hb
  subst hb
  cases go with
  | tok f' sz el=>obtain ⟨_,cur,h1,_⟩:=h; exact bh h1
  | cS es sz el=>obtain ⟨_,_,cur,vs,h1,_⟩:=h; exact bh h1
  | dead=>exact h
  | row cs=>exact h.elim
  | ba _ _ _=>exact h.elim
  | mJ _ _ _ _=>exact h.elim
  | map es=>exact h.elim
  | fG l pos=>exact h.elim
  | loop=>exact h.elim
  | defers o=>exact h.elim
 | ba ts=>
  obtain ⟨j,f,c,ht⟩:=hb
  cases go with
  | ba fs sz el=>
   obtain ⟨h1,h2,h3⟩:=h
   have bM:=bJ ht
   rw [h1] at bM
   obtain ⟨f',hf⟩:∃ f',nth fs j=some f':=⟨fs[j],by rw [aX]; exact List.getElem?_eq_getElem bM⟩
   obtain ⟨_,cur,k1,_⟩:=h3 j f' _ hf ht
   exact bh k1
  | dead=>exact h j f b c ht
  | _=>exact h.elim
theorem de.bT {G:List GO} (h:de E R w G) {b:Nat} (hl:Live R b):b < w.heap.size:=by
 obtain ⟨id,ro,h1,h2⟩:=hl
 have bM:=bJ h1
 rw [h.len] at bM
 obtain ⟨go,gF⟩:∃ go,nth G id=some go:=⟨G[id],by rw [aX]; exact List.getElem?_eq_getElem bM⟩
 exact (h.obj id go ro gF h1).lt h2
theorem bg.dI (h:bg E R w β s a) {b:Nat} (ho:Own R β s.boxes b):b < w.heap.size:=by
 rcases ho with hl | ⟨k,cs,hk,rfl⟩
 ·exact h.g.bT hl
 ·obtain ⟨⟨vs,el,h1,_⟩,_⟩:=h.b.box k cs hk
  exact bh h1
theorem bV {w w':World} {b:Nat} (h:w'.heap[b]?=w.heap[b]?) (o:Nat):w'.cell? ⟨b,o,none⟩=w.cell? ⟨b,o,none⟩:=by simp [World.cell?,h]
theorem rI (wf:∀ b o,R.I b o→b < w.heap.size) (x:Obj):Ext R w R (w.alloc x):=
 ⟨fun _ _ h=>h,fun b o h=>bV (heap_alloc_old w x b (wf b o h)) o,fun _ ro h=>⟨ro,h,ck.refl ro⟩,.old fun b hb=>heap_alloc_old w x b hb⟩
theorem bg.alloc (h:bg E R w β s a) (x:Obj):bg E R (w.alloc x) β s a:=
 h.bp (rI h.g.wf x) rfl (fun b hb=>heap_alloc_old w x b (h.dI hb)) (fun _ _ _ hi=>hi) (fun b o hi=>by have:=h.g.wf b o hi; simp; omega)
end bp
end Go.Am
namespace Go.Am
open Go
theorem Ht {a b:AV} (h:Hm a b=true):a=b:=by
 unfold Hm at h
 split at h
 all_goals (first | (cases h; done) | skip)
 all_goals (try simp only [Bool.and_eq_true,beq_iff_eq,Nat.beq_eq] at h)
 all_goals (simp [*])
mutual
theorem iC:∀ {a b:AV},dK a b=true→a=b:=by
 intro a b h
 unfold dK at h
 split at h
 ·simp only [Bool.and_eq_true,Nat.beq_eq] at h; rw [h.1.1,e7 h.1.2,e7 h.2]
 ·rw [e7 h]
 ·rw [e7 h]
 ·rw [e7 h]
 ·simp only [Bool.and_eq_true,Nat.beq_eq] at h; rw [h.1,e7 h.2]
 ·simp only [Bool.and_eq_true,Nat.beq_eq] at h; rw [h.1,e7 h.2]
 ·simp only [Bool.and_eq_true,Nat.beq_eq] at h; rw [h.1,e7 h.2]
 ·simp only [Bool.and_eq_true,Nat.beq_eq] at h; rw [h.1.1,h.1.2,e7 h.2]
 ·simp only [Bool.and_eq_true,Nat.beq_eq] at h; rw [h.1.1.1,h.1.1.2,h.1.2,e7 h.2]
 ·exact Ht h
theorem e7:∀ {l r:List AV},lh l r=true→l=r:=by
 intro l r h
 unfold lh at h
 split at h
 ·rfl
 ·rw [Bool.and_eq_true] at h; rw [iC h.1,e7 h.2]
 ·cases h
end
def zh (a b:AV):Prop:=∀ (R:ak) (w:World) (c:Value),Rel R w a c→Rel R w b c
def cz:List AV→List AV→Prop
 | [],[]=>True
 | a :: l,b :: r=>zh a b∧cz l r
 | _,_=>False
theorem zh.refl (a:AV):zh a a:=fun _ _ _ h=>h
theorem cz.refl:∀ l:List AV,cz l l
 | []=>trivial
 | a :: l=>⟨zh.refl a,cz.refl l⟩
theorem cz.length:∀ {l r:List AV},cz l r→l.length=r.length
 | [],[],_=>rfl
 | _ :: _,_ :: _,h=>by simp [cz.length h.2]
 | [],_ :: _,h=>h.elim
 | _ :: _,[],h=>h.elim
theorem cz.rel {R:ak} {w:World}:∀ {l r:List AV} {cs:List Value},cz l r→aH R w l cs→aH R w r cs
 | [],[],_,_,h=>h
 | _ :: _,_ :: _,_,k,.cons h t=>.cons (k.1 _ _ _ h) (cz.rel k.2 t)
 | [],_ :: _,_,h,_=>h.elim
 | _ :: _,[],_,h,_=>h.elim
theorem cz.Hu {R:ak} {w:World}:∀ {l r:List AV} {b o:Nat},cz l r→dx R w b o l→dx R w b o r
 | [],[],_,_,_,_=>.nil
 | _ :: _,_ :: _,_,_,k,.cons hc h1 hi h t=>.cons hc h1 hi (k.1 _ _ _ h) (cz.Hu k.2 t)
 | [],_ :: _,_,_,h,_=>h.elim
 | _ :: _,[],_,_,h,_=>h.elim
theorem cz.append:∀ {a b c d:List AV},cz a b→cz c d→cz (a++c) (b++d)
 | [],[],_,_,_,h=>h
 | _ :: _,_ :: _,_,_,k,h=>⟨k.1,cz.append k.2 h⟩
 | [],_ :: _,_,_,h,_=>h.elim
 | _ :: _,[],_,_,h,_=>h.elim
structure hU (v u:AV):Prop where
 fM:zh v u
 bf:u.aQ=v.aQ
 cells:v.aQ=true→cz v.cells u.cells
 closed:v.closed=true→u.closed=true
theorem tV {u v a:AV} (h:(aj.two u v).fits a=true):(aj.two u v).enc ((aj.two u v).bn a)=a:=by
 change (dK a u || dK a v)=true at h
 change (bif dK a v then v else u)=a
 cases hs:dK a v with
 | true=>exact (iC hs).symm
 | false=>
  rw [hs,Bool.or_false] at h
  exact (iC h).symm
theorem hU.refl (v:AV):hU v v:=⟨zh.refl v,rfl,fun _=>cz.refl _,fun h=>h⟩
theorem CE {a b:IntKind} (h:QQ a b=true):a=b:=of_decide_eq_true h
theorem qi {α:Type} {f:AV→Bool} {d:AV→α} {g:α→AV} (Er:∀ v,f v=true→hU v (g (d v))) {R:ak} {w:World} :
  ∀ {es:List AV} {b o sz:Nat},allFit f es=true→fx R w b o sz es→fx R w b o sz ((es.map d).map g)
 | [],b,o,sz,_,_=>.nil
 | e :: es,b,o,sz,h,hr=>by
  simp only [allFit,Bool.and_eq_true] at h
  cases hr with
  | cons hl ht hk hc t=>
   have d':=Er e h.1
   have wc:=d'.cells ht
   exact .cons (by rw [← wc.length,hl]) (by rw [d'.bf,ht]) (d'.closed hk) (wc.Hu hc) (qi Er h.2 t)
theorem FO {R:ak} {w:World} {b o sz bI:Nat} {es:List AV} (h:es=[]∨sz=bI) (hr:fx R w b o bI es):fx R w b o sz es:=by
 rcases h with rfl | rfl
 ·exact .nil
 ·exact hr
theorem FP {α:Type} {f:AV→Bool} {d:AV→α} {g:α→AV} (Er:∀ v,f v=true→hU v (g (d v))) {k:LK} {sz bI:Nat} {es:List AV} (hs:es=[]∨sz=bI) (h:allFit f es=true) :
  zh (.list k bI es) (.list .ki sz ((es.map d).map g)):=fun R w c hr=>by
 cases hr with
 | jj=>exact .hY
 | hY=>exact .hY
 | lU=>exact .lU
 | ln _ _=>exact .hY
 | kL _ _=>exact .hY
 | list hr hlen hc hk=>exact .list (qi Er h (FO hs hr)) (by simp [hlen]) hc trivial
theorem Hv {α:Type} {f:AV→Bool} {d:AV→α} {g:α→AV} (Er:∀ v,f v=true→hU v (g (d v))) {id sz:Nat} {es:List AV} (h:allFit f es=true) :
  zh (.list (.own id) sz es) (.list (.own id) sz ((es.map d).map g)):=fun R w c hr=>by
 cases hr with
 | ln h1 h2=>exact .ln h1 h2
 | list hr hlen hc hk=>exact .list (qi Er h hr) (by simp [hlen]) hc hk
theorem Hw {α:Type} {f:AV→Bool} {d:AV→α} {g:α→AV} (Er:∀ v,f v=true→hU v (g (d v))) {id j sz:Nat} {es:List AV} (h:allFit f es=true) :
  zh (.list (.ba id j) sz es) (.list (.ba id j) sz ((es.map d).map g)):=fun R w c hr=>by
 cases hr with
 | kL h1 h2=>exact .kL h1 h2
 | list hr hlen hc hk=>exact .list (qi Er h hr) (by simp [hlen]) hc hk
mutual
theorem aj.cH:∀ (p:aj) {v:AV},p.fits v=true→hU v (p.enc (p.bn v))
 | .int k,v,h=>by
  cases v with
  | int k' n=>
   have hk:QQ k k'=true:=h
   rw [CE hk]
   exact hU.refl _
  | _=>cases h
 | .bool,v,h=>by
  cases v with
  | bool b=>exact hU.refl _
  | _=>cases h
 | .str,v,h=>by
  cases v with
  | str b=>exact hU.refl _
  | _=>cases h
 | .agg ps,v,h=>by
  cases v with
  | agg cs=>
   obtain ⟨h1,h2⟩:=ps.cH (show ps.fits cs=true from h)
   exact ⟨fun R w c hr=>by cases hr with | agg hr uA=>exact .agg (h1.rel hr) uA,rfl,fun _=>h1,fun hc=>by
    have tA:aB cs=true:=by simpa [AV.closed] using hc
    show AV.closed (.agg (ps.enc (ps.bn cs)))=true
    simp only [AV.closed]; exact h2 tA⟩
  | _=>cases h
 | .bf ps,v,h=>by
  cases v with
  | bf cs=>
   obtain ⟨h1,h2⟩:=ps.cH (show ps.fits cs=true from h)
   exact ⟨fun R w c hr=>by cases hr with | bf hr=>exact .bf (h1.rel hr),rfl,fun hn=>by simp [AV.aQ] at hn,fun hc=>by
    have tA:aB cs=true:=by simpa [AV.closed] using hc
    show AV.closed (.bf (ps.enc (ps.bn cs)))=true
    simp only [AV.closed]; exact h2 tA⟩
  | _=>cases h
 | .list sz p,v,h=>by
  cases v with
  | list k bI es=>
   have hb:((Nat.beq sz bI || es.isEmpty)&&allFit p.fits es)=true:=h
   simp only [Bool.and_eq_true,Bool.or_eq_true,Nat.beq_eq,List.isEmpty_iff] at hb
   have hw:=FP (k:=k) (fun v=>p.cH) hb.1.symm hb.2
   exact ⟨hw,rfl,fun _=>⟨hw,trivial⟩,fun _=>rfl⟩
  | _=>cases h
 | .own id sz p,v,h=>by
  cases v with
  | list k bI es=>
   cases k with
   | own iS=>
    have hb:((Nat.beq id iS&&Nat.beq sz bI)&&allFit p.fits es)=true:=h
    simp only [Bool.and_eq_true,Nat.beq_eq] at hb
    obtain ⟨⟨rfl,rfl⟩,hf⟩:=hb
    have hw:=Hv (id:=id) (sz:=sz) (fun v=>p.cH) hf
    exact ⟨hw,rfl,fun _=>⟨hw,trivial⟩,fun hc=>by simp [AV.closed,LK.closed] at hc⟩
   | _=>cases h
  | _=>cases h
 | .ba id sz p,v,h=>by
  cases v with
  | list k bI es=>
   cases k with
   | ba iS j=>
    have hb:((Nat.beq id iS&&Nat.beq sz bI)&&allFit p.fits es)=true:=h
    simp only [Bool.and_eq_true,Nat.beq_eq] at hb
    obtain ⟨⟨rfl,rfl⟩,hf⟩:=hb
    have hw:=Hw (id:=id) (j:=j) (sz:=sz) (fun v=>p.cH) hf
    exact ⟨hw,rfl,fun _=>⟨hw,trivial⟩,fun hc=>by simp [AV.closed,LK.closed] at hc⟩
   | _=>cases h
  | _=>cases h
 | .fk u,v,h=>by
  have:=iC (show dK v u=true from h)
  subst this
  exact hU.refl _
 | .two u v,a,h=>by
  have hv:(aj.two u v).enc ((aj.two u v).bn a)=a:=tV h
  rw [hv]
  exact hU.refl _
theorem aJ.cH:∀ (ps:aJ) {l:List AV},ps.fits l=true→cz l (ps.enc (ps.bn l))∧(aB l=true→aB (ps.enc (ps.bn l))=true)
 | .nil,l,h=>by
  cases l with
  | nil=>exact ⟨trivial,fun h=>h⟩
  | cons _ _=>cases h
 | .cons p .nil,l,h=>by
  match l,h with
  | [],h=>cases h
  | a :: l,h=>
   have h':(p.fits a&&l.isEmpty)=true:=h
   simp only [Bool.and_eq_true,List.isEmpty_iff] at h'
   obtain ⟨h1,rfl⟩:=h'
   have d:=p.cH h1
   exact ⟨⟨d.fM,trivial⟩,fun hc=>by
    simp only [aB,Bool.and_true] at hc
    show aB [p.enc (p.bn a)]=true
    simp only [aB,Bool.and_true]
    exact d.closed hc⟩
 | .cons p (.cons q ps),l,h=>by
  cases l with
  | nil=>cases h
  | cons a l=>
   have h':(p.fits a&&(aJ.cons q ps).fits l)=true:=h
   rw [Bool.and_eq_true] at h'
   have d:=p.cH h'.1
   obtain ⟨k1,k2⟩:=(aJ.cons q ps).cH h'.2
   exact ⟨⟨d.fM,k1⟩,fun hc=>by
    simp only [aB,Bool.and_eq_true] at hc
    show aB (p.enc (p.bn a) :: (aJ.cons q ps).enc ((aJ.cons q ps).bn l))=true
    simp only [aB,Bool.and_eq_true]
    exact ⟨d.closed hc.1,k2 hc.2⟩⟩
end
theorem aj.pu (p:aj) {v:AV} {x:p.T} (h:p.dec v=some x):hU v (p.enc x):=by
 unfold aj.dec at h
 cases hf:p.fits v with
 | true=>rw [hf] at h; cases h; exact p.cH hf
 | false=>rw [hf] at h; cases h
theorem aJ.pu (ps:aJ) {l:List AV} {x:ps.T} (h:ps.dec l=some x):cz l (ps.enc x)∧(aB l=true→aB (ps.enc x)=true):=by
 unfold aJ.dec at h
 cases hf:ps.fits l with
 | true=>rw [hf] at h; cases h; exact ps.cH hf
 | false=>rw [hf] at h; cases h
mutual
def aj.plain:aj→Bool
 | .agg ps=>ps.plain
 | .bf ps=>ps.plain
 | .list _ p=>p.plain
 | .own _ _ p=>p.plain
 | .ba _ _ p=>p.plain
 | .fk v=>dK v v
 | .two u v=>dK u u&&dK v v&&!dK u v
 | _=>true
def aJ.plain:aJ→Bool
 | .nil=>true
 | .cons p ps=>p.plain&&ps.plain
end
theorem lX {α:Type} {f:AV→Bool} {g:α→AV} (h:∀ x,f (g x)=true):∀ xs:List α,allFit f (xs.map g)=true
 | []=>rfl
 | x :: xs=>by simp only [List.map_cons,allFit,h x,lX h xs,Bool.and_self]
theorem tW {α:Type} {d:AV→α} {g:α→AV} (h:∀ x,d (g x)=x):∀ xs:List α,(xs.map g).map d=xs
 | []=>rfl
 | x :: xs=>by simp only [List.map_cons,h x,tW h xs]
mutual
theorem aj.bO:∀ (p:aj) (x:p.T),p.plain=true→p.fits (p.enc x)=true∧p.bn (p.enc x)=x
 | .int k,x,_=>⟨decide_eq_true rfl,rfl⟩
 | .bool,x,_=>⟨rfl,rfl⟩
 | .str,x,_=>⟨rfl,rfl⟩
 | .agg ps,x,h=>ps.bO x h
 | .bf ps,x,h=>ps.bO x h
 | .list sz p,x,h=>by
  refine ⟨?_,tW (fun y=>(p.bO y h).2) x⟩
  change ((Nat.beq sz sz || (List.map p.enc x).isEmpty)&&allFit p.fits (List.map p.enc x))=true
  rw [Nat.beq_refl,Bool.true_or,Bool.true_and]
  exact lX (fun y=>(p.bO y h).1) x
 | .own id sz p,x,h=>by
  refine ⟨?_,tW (fun y=>(p.bO y h).2) x⟩
  change ((Nat.beq id id&&Nat.beq sz sz)&&allFit p.fits (List.map p.enc x))=true
  rw [Nat.beq_refl,Nat.beq_refl,Bool.true_and,Bool.true_and]
  exact lX (fun y=>(p.bO y h).1) x
 | .ba id sz p,(x:Nat × List p.T),h=>by
  refine ⟨?_,?_⟩
  ·change ((Nat.beq id id&&Nat.beq sz sz)&&allFit p.fits (List.map p.enc x.2))=true
   rw [Nat.beq_refl,Nat.beq_refl,Bool.true_and,Bool.true_and]
   exact lX (fun y=>(p.bO y h).1) x.2
  ·change (x.1,(List.map p.enc x.2).map p.bn)=x
   rw [tW (fun y=>(p.bO y h).2) x.2]
 | .fk v,x,h=>⟨h,rfl⟩
 | .two u v,(x:Bool),h=>by
  change (dK u u&&dK v v&&!dK u v)=true at h
  simp only [Bool.and_eq_true,Bool.not_eq_true'] at h
  obtain ⟨⟨h1,h2⟩,h3⟩:=h
  cases x
  ·exact ⟨by change (dK u u || dK u v)=true; rw [h1]; rfl,h3⟩
  ·exact ⟨by change (dK v u || dK v v)=true; rw [h2,Bool.or_true],h2⟩
theorem aJ.bO:∀ (ps:aJ) (x:ps.T),ps.plain=true→ps.fits (ps.enc x)=true∧ps.bn (ps.enc x)=x
 | .nil,x,_=>⟨rfl,rfl⟩
 | .cons p .nil,x,h=>by
  have h':(p.plain&&true)=true:=h
  rw [Bool.and_true] at h'
  have:=p.bO x h'
  exact ⟨by change (p.fits (p.enc x)&&true)=true; rw [this.1]; rfl,this.2⟩
 | .cons p (.cons q ps),x,h=>by
  have h':(p.plain&&(aJ.cons q ps).plain)=true:=h
  rw [Bool.and_eq_true] at h'
  have h1:=p.bO x.1 h'.1
  have h2:=(aJ.cons q ps).bO x.2 h'.2
  refine ⟨?_,?_⟩
  ·change (p.fits (p.enc x.1)&&(aJ.cons q ps).fits ((aJ.cons q ps).enc x.2))=true
   rw [h1.1,h2.1]
   rfl
  ·change (p.bn (p.enc x.1),(aJ.cons q ps).bn ((aJ.cons q ps).enc x.2))=x
   rw [h1.2,h2.2]
   rfl
end
end Go.Am
namespace Go.Am
open Go
theorem b6 (E:Env) {t:TypeId} {i:TI} (h:E.ti t=some i) :
  ∃ fQ u,E.P.info? t=some fQ∧E.P.underlying t=some u∧fQ.size=i.size∧iT u=i.agg∧oI E.P u=some i.k∧ft fQ=i.zero:=by
 have h1:=E.FF t i h
 unfold FE at h1
 split at h1
 ·rename_i fQ u h2 h3
  split at h1
  ·rename_i k hk
   cases h1
   exact ⟨fQ,u,h2,h3,rfl,rfl,hk,rfl⟩
  ·cases h1
 ·cases h1
section runs
variable {P:Program} (w:World)
theorem xZ {t:TypeId} {u:TypeDesc} (h:P.underlying t=some u):(isAgg t).run P w=.ok (iT u) w:=by
 unfold isAgg
 simp only [Sem.run_bind,run_underlying h,Result.andThen_ok]
 cases u <;> rfl
theorem run_sizeOf {t:TypeId} {i:TypeInfo} (h:P.info? t=some i):(sizeOf t).run P w=.ok i.size w:=by
 simp [sizeOf,typeInfo,h]
theorem fR {t:TypeId} {i:TypeInfo} {z:Value} (h:P.info? t=some i) (hz:i.zero=some z):(zeroValue t).run P w=.ok z w:=by
 simp [zeroValue,typeInfo,h,hz]
theorem uB (t:TypeId) (v:Value):(newVar t v).run P w=.ok ⟨w.heap.size,0,none⟩ (w.alloc (.cells v.cells t)):=by
 simp only [newVar,newRow,Sem.run_bind,run_newObj,Result.andThen_ok,Sem.run_pure]
 rfl
end runs
theorem uC {R:ak} {w:World} {ag:Bool} {l:List AV} {v:AV} {vs:List Value} (hm:rA ag l=some v) (h:aH R w l vs) (h1:∀ x∈vs,x.oneCell'=true) :
  (ag=true→Rel R w v (.agg ⟨vs⟩))∧(ag=false→∃ c,vs=[c]∧Rel R w v c):=by
 unfold rA at hm
 cases ag with
 | true=>
  simp at hm
  subst hm
  exact ⟨fun _=>.agg h h1,fun e=>by cases e⟩
 | false=>
  refine ⟨(fun e=>by cases e),fun _=>?_⟩
  simp only [Bool.false_eq_true,if_false] at hm
  split at hm
  ·cases hm
   cases h with
   | cons h t=>
    cases t
    exact ⟨_,rfl,h⟩
  ·cases hm
theorem mX {E:Env} {R:ak} {w:World} {t:TypeId} {i:TI} (hi:E.ti t=some i) {b off:Nat} {l:List AV} {vs:List Value} {v:AV}
  (hl:l.length=i.size) (hr:aH R w l vs) (h1:∀ x∈vs,x.oneCell'=true) (hc:∀ j x,vs[j]?=some x→w.cell? ⟨b,off+j,none⟩=some x) (hm:rA i.agg l=some v) :
  ∃ c,(loadVar t ⟨b,off,none⟩).run E.P w=.ok c w∧Rel R w v c:=by
 obtain ⟨fQ,u,e1,e2,e3,e4,_⟩:=b6 E hi
 obtain ⟨m1,m2⟩:=uC hm hr h1
 unfold loadVar
 simp only [Sem.run_bind,xZ w e2,Result.andThen_ok,e4]
 cases ha:i.agg with
 | true=>
  refine ⟨.agg ⟨vs⟩,?_,m1 ha⟩
  have hlen:fQ.size=vs.length:=by rw [e3,← hl,hr.length]
  have:=run_loadCells_list (P:=E.P) w ⟨b,off,none⟩ vs (fun j x hx=>by rw [cn]; exact hc j x hx)
  simp [run_sizeOf w e1,hlen,this]
 | false=>
  obtain ⟨c,rfl,dS⟩:=m2 ha
  refine ⟨c,?_,dS⟩
  have:=hc 0 c (by simp)
  simp only [Nat.add_zero] at this
  simp [run_load,this]
theorem iD {w:World} {b:Nat} {vs:List Value} {el:TypeId} {fr:Nat × Nat} (h:w.heap[b]?=some (.cells ⟨vs⟩ el fr)) (j:Nat):w.cell? ⟨b,j,none⟩=vs[j]?:=by
 simp [World.cell?,h]
theorem sK {E:Env} {R:ak} {w:World} {β:Nat→Nat} {s:St} {a:Act} (h:bg E R w β s a) {p:SV} {c:Value} (hp:oK R w β p c) {cs:List AV} {off:Nat} (hc:lQ s p=some (cs,off)) :
  ∃ b o vs,c=.pointer (some ⟨b,o+off,none⟩)∧aH R w cs vs∧(∀ x∈vs,x.oneCell'=true)∧∀ j x,vs[j]?=some x→w.cell? ⟨b,o+j,none⟩=some x:=by
 unfold lQ at hc
 split at hc
 ·rename_i k eY
  split at hc
  ·rename_i cs' hk
   cases hc
   obtain ⟨⟨vs,el,h1,h2,h3⟩,_⟩:=h.b.box k cs hk
   exact ⟨β k,0,vs,by rw [hp]; simp,h2,h3,fun j x hx=>by rw [iD h1]; simpa using hx⟩
  ·cases hc
 ·rename_i id eY
  split at hc
  ·rename_i cs' hk
   cases hc
   cases hp with
   | @ptr _ _ b hb=>
    obtain ⟨vs,h1,h2,h3,_⟩:=h.g.obj id _ _ hk hb
    exact ⟨b,0,vs,by simp,h2,h3,fun j x hx=>by rw [iD h1]; simpa using hx⟩
  ·cases hc
 ·rename_i cs'
  cases hc
  cases hp with
  | ep hr=>
   obtain ⟨vs,h1,h2,h3,_⟩:=hr.get
   exact ⟨_,_,vs,rfl,h1,h2,h3⟩
 ·cases hc
theorem oh {R:ak} {w:World} {off n:Nat} {cs l:List AV} {vs:List Value} (hs:Em off n cs=some l) (h:aH R w cs vs) (h1:∀ x∈vs,x.oneCell'=true) :
  l.length=n∧aH R w l ((vs.drop off).take n)∧(∀ x∈(vs.drop off).take n,x.oneCell'=true)∧∀ j x,((vs.drop off).take n)[j]?=some x→vs[off+j]?=some x:=by
 obtain ⟨e1,e2⟩:=QV hs
 subst e1
 refine ⟨e2,(h.drop off).take n,fun x hx=>h1 x (List.mem_of_mem_drop (List.mem_of_mem_take hx)),fun j x hx=>?_⟩
 rw [List.getElem?_take] at hx
 split at hx
 ·rwa [List.getElem?_drop] at hx
 ·cases hx
def bS (E:Env) (R:ak) (w:World) (β:Nat→Nat) (s:St) (a:Act) (o:Oper) (s':St):Prop:=
 ∃ nx x w' R' β',(execOp a.eval o).run E.P w=.ok nx w'∧(nx=.value x∨(nx=.skip∧x=undef))∧bg E R' w' β' s' (a.put o.dst x)∧Step R w β s.boxes R' w' β' s'.boxes
section ops
variable {E:Env} {R:ak} {w:World} {β:Nat→Nat} {s:St} {a:Act} {o:Oper}
@[simp] theorem aW (s:St) (d:Option Tmp) (x:SV):(s.put d x).boxes=s.boxes:=by
 cases d with
 | none=>rfl
 | some d=>simp only [St.put]; split <;> rfl
theorem aq (h:bg E R w β s a) {c:Value} {sv:SV} (hx:(execOp a.eval o).run E.P w=.ok (.value c) w) (hr:oK R w β sv c):bS E R w β s a o (s.put o.dst sv):=
 ⟨.value c,c,w,R,β,hx,.inl rfl,h.put o.dst hr,by rw [aW]; exact Step.refl R w β s.boxes⟩
theorem CF {t:Bool} {x y:AV} {c d:Value} (hx:Rel R w x c) (hy:Rel R w y d):Rel R w (zb t x y) (if t=true then c else d):=by
 unfold zb
 split
 ·cases hx; cases hy; cases t <;> exact .bool _
 ·cases hx; cases hy
  split
  ·rename_i e; subst e; cases t <;> exact .int _ _
  ·cases t <;> exact .int _ _
 ·cases t
  ·exact hy
  ·exact hx
theorem jv (h:bg E R w β s a) (x:Operand) (ho:o.op=.move x∨o.op=.assign x) {y:SV} (hy:bB E s.ae x=y):bS E R w β s a o (s.put o.dst y):=by
 subst hy
 refine aq h (c:=a.eval x) ?_ (aN h x)
 rcases ho with ho | ho <;> simp [execOp,ho]
theorem FQ (h:bg E R w β s a) (c x y:Operand) (ho:o.op=.pick c x y) {t:Bool} {p q:AV} (h1:bB E s.ae c=.v (.bool t)) (h2:bB E s.ae x=.v p) (h3:bB E s.ae y=.v q) :
  bS E R w β s a o (s.put o.dst (.v (zb t p q))):=by
 have r1:=aN h c
 have r2:=aN h x
 have r3:=aN h y
 rw [h1] at r1; rw [h2] at r2; rw [h3] at r3
 refine aq h (c:=if t=true then a.eval x else a.eval y) ?_ (CF r2 r3)
 have r1':Rel R w (.bool t) (a.eval c):=r1
 generalize FR:a.eval c=cc at r1'
 cases r1'
 simp [execOp,ho,asBool,FR]
theorem FT (h:bg E R w β s a) (t:TypeId) (x:Operand) (ho:o.op=.load t x) {v:AV} (hl:qb E s t (bB E s.ae x)=some v) :
  bS E R w β s a o (s.put o.dst (.v v)):=by
 unfold qb at hl
 split at hl
 ·rename_i i cs off hi hc
  split at hl
  ·rename_i l hs
   obtain ⟨b,o',vs,e,h1,h2,h3⟩:=sK h (aN h x) hc
   obtain ⟨k1,k2,k3,k4⟩:=oh hs h1 h2
   obtain ⟨c,hc,dS⟩:=mX (E:=E) hi (b:=b) (off:=o'+off) k1 k2 k3 (fun j y hy=>by rw [Nat.add_assoc]; exact h3 _ _ (k4 j y hy)) hl
   refine aq h (c:=c) ?_ dS
   simp [execOp,ho,Instr.loadAt,e,Instr.sureAddr,hc]
  ·cases hl
 ·cases hl
theorem hZ {b:Nat} (hI:∀ o,¬ R.I b o) (cs:Array Value):Ext R w R (w.setRow b cs):=
 ⟨fun _ _ h=>h,fun b' o h=>bV (setRow_other w b b' cs (fun e=>hI o (e ▸ h))) o,fun _ ro h=>⟨ro,h,ck.refl ro⟩,fun b' r hb=>⟨r,by
  by_cases e:b'=b
  ·subst e
   have bM:b' < w.heap.size:=bh hb
   have hv:w.heap[b']=.loop r:=(Array.getElem?_eq_some_iff.1 hb).2
   unfold World.setRow
   rw [Array.getElem?_eq_getElem (by simpa using bM),Array.getElem_modify]
   simp [hv]
  ·exact (setRow_other w b b' cs e).trans hb,rfl,rfl,rfl,rfl,rfl⟩⟩
theorem aH.a7 {cs ys:List AV} {vs us:List Value} {off:Nat} (h:aH R w cs vs) (k:aH R w ys us) (hl:off+ys.length≤cs.length) :
  aH R w (a7 cs off ys) (vs.take off++us++vs.drop (off+us.length)):=by
 rw [dX cs off ys hl,← k.length]
 exact ((h.take off).append k).append (h.drop _)
theorem ia {vs us:List Value} {off n:Nat} (h:∀ x∈vs,x.oneCell'=true) (k:∀ x∈us,x.oneCell'=true):∀ x∈vs.take off++us++vs.drop n,x.oneCell'=true:=by
 intro x hx
 simp only [List.mem_append] at hx
 rcases hx with (hx | hx) | hx
 ·exact h x (List.mem_of_mem_take hx)
 ·exact k x hx
 ·exact h x (List.mem_of_mem_drop hx)
theorem jk {t:TypeId} {i:TI} (hi:E.ti t=some i) {b off:Nat} {vs:List Value} {el:TypeId} {c:Value} (hb:w.heap[b]?=some (.cells ⟨vs⟩ el (0,0)))
  (hs:c.cells.toList.length=i.size) (hl:off+c.cells.toList.length≤vs.length) (h1:∀ v∈c.cells.toList,v.oneCell'=true) :
  (storeVar t ⟨b,off,none⟩ c).run E.P w=.ok () (w.setRow b ⟨vs.take off++c.cells.toList++vs.drop (off+c.cells.toList.length)⟩):=by
 obtain ⟨fQ,u,e1,e2,e3,_⟩:=b6 E hi
 have kn:=run_storeCells_at (P:=E.P) b off el c.cells.toList 0 ⟨vs⟩ w hb (by simpa using hl) h1
 have cA:c.cells.size=fQ.size:=by rw [e3,← hs]; simp
 simp only [Nat.add_zero] at kn
 unfold storeVar
 simp only [Sem.run_bind,run_sizeOf w e1,Result.andThen_ok,Sem.run_ite,cA,ne_eq,not_true_eq_false,if_false]
 simpa using kn
theorem bg.CG (h:bg E R w β s a) {id b k:Nat} {cs:List AV} (hb:nth R.obj id=some (.bU b)) (hk:dm s.boxes k=some cs):β k≠b:=by
 intro e
 exact (h.b.box k cs hk).2.2 ⟨id,_,hb,by rw [e]; rfl⟩
theorem CH (h:bg E R w β s a) (t:TypeId) (p x:Operand) (ho:o.op=.store t p x) (hd:o.dst=none) {s':St} (hs:iU E s t (bB E s.ae p) (bB E s.ae x)=some s') :
  bS E R w β s a o s':=by
 unfold iU at hs
 have rp:=aN h p
 have rx:=aN h x
 split at hs
 ·rename_i i v hi hx
  rw [hx] at rx
  split at hs
  ·rename_i eO
   simp only [Bool.and_eq_true] at eO
   obtain ⟨Lb,hlen⟩:=eO
   have hlen:=Nat.eq_of_beq_eq_true hlen
   obtain ⟨c1,c2⟩:=Rel.cells rx Lb
   have AB:v.cells.length=(a.eval x).cells.toList.length:=c1.length
   split at hs
   ·-- a local box
    rename_i k off Ve
    rw [Ve] at rp
    split at hs
    ·rename_i cs hk
     split at hs
     ·rename_i hle
      cases hs
      have hle:=Nat.le_of_ble_eq_true hle
      obtain ⟨⟨vs,el,b1,b2,b3⟩,b4,b5⟩:=h.b.box k cs hk
      have bw:=jk (E:=E) (w:=w) hi (off:=off) (c:=a.eval x) b1 (by rw [← AB]; exact hlen) (by rw [← AB,← b2.length]; exact hle) c2
      have hex:=hZ (R:=R) (w:=w) b4 ⟨vs.take off++(a.eval x).cells.toList++vs.drop (off+(a.eval x).cells.toList.length)⟩
      refine ⟨.skip,undef,w.setRow (β k) ⟨vs.take off++(a.eval x).cells.toList++vs.drop (off+(a.eval x).cells.toList.length)⟩,R,β,?_,.inr ⟨rfl,rfl⟩,?_,?_⟩
      ·simp [execOp,ho,Instr.storeAt,show a.eval p=.pointer (some ⟨β k,off,none⟩) from rp,Instr.sureAddr,bw]
      ·rw [hd]
       refine ⟨?_,?_,h.t.mono hex,h.n,h.d⟩
       ·exact h.g.bp hex rfl (fun b hb=>setRow_other w _ b _ (fun e=>b5 (e ▸ hb))) (fun _ _ _ hi=>hi) (fun b o hi=>by have:=h.g.wf b o hi; simp; omega)
       ·refine ⟨fun k' cs' gX=>?_,fun k1 k2 x1 x2 g1 g2=>?_⟩
        ·rcases dW gX with ⟨rfl,e⟩ | ⟨cA,Vf⟩
         ·cases e
          exact ⟨⟨_,el,setRow_heap w _ _ _ el (0,0) b1,(b2.a7 c1 hle).mono hex,ia b3 c2⟩,b4,b5⟩
         ·obtain ⟨⟨vs',XS,d1,d2,d3⟩,d4,d5⟩:=h.b.box k' cs' Vf
          refine ⟨⟨vs',XS,?_,d2.mono hex,d3⟩,d4,d5⟩
          rw [setRow_other]
          ·exact d1
          ·exact fun e=>cA (h.b.inj k' k cs' cs Vf hk e).symm
        ·have q1:∃ y,dm s.boxes k1=some y:=by
          rcases dW g1 with ⟨rfl,_⟩ | ⟨_,g⟩
          ·exact ⟨_,hk⟩
          ·exact ⟨_,g⟩
         have q2:∃ y,dm s.boxes k2=some y:=by
          rcases dW g2 with ⟨rfl,_⟩ | ⟨_,g⟩
          ·exact ⟨_,hk⟩
          ·exact ⟨_,g⟩
         obtain ⟨y1,q1⟩:=q1
         obtain ⟨y2,q2⟩:=q2
         exact h.b.inj k1 k2 y1 y2 q1 q2
      ·have zi:Own R β s.boxes (β k):=.inr ⟨k,cs,hk,rfl⟩
       refine ⟨hex,rfl,rfl,rfl,by simp,fun b _ hn=>setRow_other w _ b _ (fun e=>hn (e ▸ zi)),fun b _ hb=>?_,fun b o hi _ _=>hi⟩
       rcases hb with hb | ⟨k',cs',gX,e⟩
       ·exact .inl hb
       ·rcases dW gX with ⟨rfl,_⟩ | ⟨_,g⟩
        ·exact .inr ⟨k,cs,hk,e⟩
        ·exact .inr ⟨k',cs',g,e⟩
     ·cases hs
    ·cases hs
   ·-- an object
    rename_i id off Ve
    rw [Ve] at rp
    split at hs
    ·rename_i cs hk
     split at hs
     ·rename_i hle
      cases hs
      have hle:=Nat.le_of_ble_eq_true hle
      have Vg:Rel R w (.ptr id off) (a.eval p):=rp
      generalize Vh:a.eval p=pv at Vg
      cases Vg with
      | @ptr _ _ b hb=>
      obtain ⟨vs,b1,b2,b3,b4⟩:=h.g.obj id _ _ hk hb
      have bw:=jk (E:=E) (w:=w) hi (off:=off) (c:=a.eval x) b1 (by rw [← AB]; exact hlen) (by rw [← AB,← b2.length]; exact hle) c2
      have hex:=hZ (R:=R) (w:=w) b4 ⟨vs.take off++(a.eval x).cells.toList++vs.drop (off+(a.eval x).cells.toList.length)⟩
      refine ⟨.skip,undef,w.setRow b ⟨vs.take off++(a.eval x).cells.toList++vs.drop (off+(a.eval x).cells.toList.length)⟩,R,β,?_,.inr ⟨rfl,rfl⟩,?_,?_⟩
      ·simp [execOp,ho,Instr.storeAt,Vh,Instr.sureAddr,bw]
      ·rw [hd]
       refine ⟨⟨?_,fun iS go ro hg hr=>?_,h.g.inj,fun b' o' rH=>by have:=h.g.wf b' o' rH; simp; omega,fun g cs' hg=>(h.g.bY g cs' hg).mono hex,by first | exact h.g.lo | exact Nat.le_succ_of_le h.g.lo⟩,?_,h.t.mono hex,h.n,h.d⟩
       ·simp [St.bW,h.g.len]
       ·rcases cV hg with ⟨rfl,rfl,_⟩ | ⟨cA,pw⟩
        ·rw [hb] at hr
         cases hr
         exact ⟨_,setRow_heap w _ _ _ _ (0,0) b1,(b2.a7 c1 hle).mono hex,ia b3 c2,b4⟩
        ·refine (h.g.obj iS go ro pw hr).mono hex (fun b' jI=>setRow_other w _ b' _ (fun e=>cA ?_)) (fun _ _ _ hi=>hi)
         subst e
         exact h.g.inj id iS _ _ b' hb hr rfl jI
       ·exact h.b.bp hex (fun k cs' gX=>setRow_other w _ _ _ (h.CG hb gX)) (fun _ _ _ _ hi=>hi) (fun _ _ _ hl=>hl)
      ·have zi:Own R β s.boxes b:=.inl ⟨id,_,hb,rfl⟩
       exact ⟨hex,rfl,rfl,rfl,by simp,fun b' _ hn=>setRow_other w _ b' _ (fun e=>hn (e ▸ zi)),fun _ _ hb=>hb,fun b o hi _ _=>hi⟩
     ·cases hs
    ·cases hs
   ·cases hs
  ·cases hs
 ·cases hs
end ops
end Go.Am
namespace Go.Am
open Go
section ops
variable {E:Env} {R:ak} {w:World} {β:Nat→Nat} {s:St} {a:Act} {o:Oper}
def ak.add (R:ak) (ro:RO):ak:=⟨R.I,R.obj++[ro]⟩
theorem fZ (wf:∀ b o,R.I b o→b < w.heap.size) (x:Obj) (ro:RO):Ext R w (R.add ro) (w.alloc x):=
 ⟨fun _ _ h=>h,fun b o h=>bV (heap_alloc_old w x b (wf b o h)) o,fun _ r h=>⟨r,cW h,ck.refl r⟩,.old fun b hb=>heap_alloc_old w x b hb⟩
theorem lq {ro:RO} {b:Nat} (h:Live (R.add ro) b):Live R b∨ro.has b:=by
 obtain ⟨id,r,h1,h2⟩:=h
 rcases av h1 with h1 | ⟨_,rfl⟩
 ·exact .inl ⟨id,r,h1,h2⟩
 ·exact .inr h2
theorem bg.kO (h:bg E R w β s a) (x:Obj) (go:GO) (ro:RO) (bP:∀ b,ro.has b→b=w.heap.size) (gF:fP (R.add ro) (w.alloc x) go ro):bg E (R.add ro) (w.alloc x) β (s.dC go) a where
 g:=by
  have e:=fZ (R:=R) (w:=w) h.g.wf x ro
  refine ⟨by simp [St.dC,ak.add,h.g.len],fun id g r h1 h2=>?_,fun i j ri rj b h1 h2 b1 b2=>?_,fun b o hi=>?_,fun g cs hg=>(h.g.bY g cs hg).mono e,by first | exact h.g.lo | exact Nat.le_succ_of_le h.g.lo⟩
  ·rcases av h2 with h2 | ⟨h3,rfl⟩
   ·have bM:=bJ h2
    rw [h.g.len] at bM
    rcases av h1 with h1 | ⟨h4,_⟩
    ·exact (h.g.obj id g r h1 h2).mono e (fun b hb=>heap_alloc_old w x b (h.g.bT ⟨id,r,h2,hb⟩)) (fun _ _ _ hi=>hi)
    ·omega
   ·rcases av h1 with h1 | ⟨h4,rfl⟩
    ·have:=bJ h1
     rw [h3,h.g.len] at this
     omega
    ·exact gF
  ·rcases av h1 with g1 | ⟨h3,e1⟩
   ·rcases av h2 with g2 | ⟨h4,e2⟩
    ·exact h.g.inj i j ri rj b g1 g2 b1 b2
    ·have:=h.g.bT ⟨i,ri,g1,b1⟩
     rw [e2] at b2
     have:=bP b b2
     omega
   ·rcases av h2 with g2 | ⟨h4,e2⟩
    ·have:=h.g.bT ⟨j,rj,g2,b2⟩
     rw [e1] at b1
     have:=bP b b1
     omega
    ·omega
  ·have:=h.g.wf b o hi
   simp
   omega
 b:=h.b.bp (fZ h.g.wf x ro) (fun k cs hk=>heap_alloc_old w x _ (h.dI (.inr ⟨k,cs,hk,rfl⟩))) (fun _ _ _ _ hi=>hi) (fun k cs hk hl=>by
  rcases lq hl with hl | hl
  ·exact hl
  ·have:=h.dI (.inr ⟨k,cs,hk,rfl⟩)
   have hl:=bP _ hl
   omega)
 t:=h.t.mono (fZ h.g.wf x ro)
 n:=h.n
 d:=h.d.mono (fZ h.g.wf x ro)
theorem cX (h:bg E R w β s a) (x:Obj) (ro:RO) (bP:∀ b,ro.has b→b=w.heap.size):Step R w β s.boxes (R.add ro) (w.alloc x) β s.boxes:=
 ⟨fZ h.g.wf x ro,rfl,rfl,rfl,by simp,fun b hb _=>heap_alloc_old w x b hb,fun b hb ho=>by
  rcases ho with ho | ho
  ·rcases lq ho with ho | ho
   ·exact .inl ho
   ·have ho:=bP _ ho
    omega
  ·exact .inr ho,fun _ _ hi _ _=>hi⟩
theorem ga (h:bg E R w β s a) (ro:RO):nth (R.add ro).obj s.G.length=some ro:=by
 rw [← h.g.len]
 exact eZ _ _
theorem AM {f:FuncId} (h:bg E R w β s a) {v:AV} {c:Value} {t:TypeId} (hv:Rel R w v c) (hn:v.aQ=true)
  (hx:(execOp a.eval o).run E.P w=.ok (.value (.pointer (some ⟨w.heap.size,0,none⟩))) (w.alloc (.cells c.cells t))) {s':St} (ha:er E f s o.dst t v.cells=some (true,s')) :
  bS E R w β s a o s':=by
 obtain ⟨c1,c2⟩:=Rel.cells hv hn
 unfold er at ha
 split at ha
 ·cases ha
 ·rename_i d hd
  split at ha
  ·-- an object
   cases ha
   have gF:fP (R.add (.bU w.heap.size)) (w.alloc (.cells c.cells t)) (.row v.cells t) (.bU w.heap.size):=
    ⟨c.cells.toList,heap_alloc_new w _,c1.mono (fZ h.g.wf _ _),c2,fun o' hi=>by have:=h.g.wf _ _ hi; omega⟩
   have cN:=h.kO (.cells c.cells t) (.row v.cells t) (.bU w.heap.size) (by exact fun _ h=>h) gF
   refine ⟨_,.pointer (some ⟨w.heap.size,0,none⟩),_,R.add (.bU w.heap.size),β,hx,.inl rfl,?_,?_⟩
   ·rw [hd]
    exact cN.put (some d) (x:=.v (.ptr s.G.length 0)) (Rel.ptr (ga h _))
   ·rw [aW]
    exact cX h _ _ (by exact fun _ h=>h)
  ·split at ha
   ·rename_i XU
    injection ha with ha
    injection ha with _ QW
    subst QW
    have e:=rI (R:=R) (w:=w) h.g.wf (.cells c.cells t)
    let β':Nat→Nat:=fun k=>if k=d then w.heap.size else β k
    have Es:β' d=w.heap.size:=by simp [β']
    have cA:∀ k,k≠d→β' k=β k:=fun k hk=>by simp [β',hk]
    have hdn:d < a.tmps.size:=by rw [h.n]; exact Nat.le_of_ble_eq_true XU
    have CI:((s.kill d).tz d v.cells).put (some d) (.lp d 0)=⟨.put d (.lp d 0) :: .kill d :: s.ae,(d,v.cells) :: s.boxes,s.G,s.marks,s.ro,s.n⟩:=by
     simp only [St.put,St.tz,St.kill,XU]
    refine ⟨_,.pointer (some ⟨w.heap.size,0,none⟩),_,R,β',hx,.inl rfl,?_,?_⟩
    ·rw [hd,CI]
     refine ⟨?_,⟨fun k cs hk=>?_,fun k k' cs cs' hk gX he=>?_⟩,?_,by simp [Act.put,h.n],h.d⟩
     ·exact h.g.bp e rfl (fun b hb=>heap_alloc_old w _ b (h.g.bT hb)) (fun _ _ _ hi=>hi) (fun b o hi=>by have:=h.g.wf b o hi; simp; omega)
     ·rcases dW hk with ⟨rfl,he⟩ | ⟨Lc,hk⟩
      ·cases he
       rw [Es]
       exact ⟨⟨c.cells.toList,t,heap_alloc_new w _,c1.mono e,c2⟩,fun o' hi=>by have:=h.g.wf _ _ hi; omega,fun hl=>by have:=h.g.bT hl; omega⟩
      ·rw [cA k (Ne.symm Lc)]
       obtain ⟨⟨vs,el,b1,b2,b3⟩,b4,b5⟩:=h.b.box k cs hk
       exact ⟨⟨vs,el,(heap_alloc_old w _ _ (bh b1)).trans b1,b2.mono e,b3⟩,b4,b5⟩
     ·rcases dW hk with ⟨rfl,_⟩ | ⟨Lc,hk⟩
      ·rcases dW gX with ⟨rfl,_⟩ | ⟨QX,gX⟩
       ·rfl
       ·rw [Es,cA k' (Ne.symm QX)] at he
        have:=h.dI (.inr ⟨k',cs',gX,rfl⟩)
        omega
      ·rcases dW gX with ⟨rfl,_⟩ | ⟨QX,gX⟩
       ·rw [Es,cA k (Ne.symm Lc)] at he
        have:=h.dI (.inr ⟨k,cs,hk,rfl⟩)
        omega
       ·rw [cA k (Ne.symm Lc),cA k' (Ne.symm QX)] at he
        exact h.b.inj k k' cs cs' hk gX he
     ·intro i hi
      by_cases YO:d=i
      ·subst YO
       rw [ay]
       refine ⟨.pointer (some ⟨w.heap.size,0,none⟩),by simp [Act.put,hdn],?_⟩
       show Value.pointer _=_
       rw [Es]
      ·rw [aK YO] at hi ⊢
       rcases Ep (l:=s.ae) (d:=d) (t:=i) with ⟨h1,h2⟩ | h1
       ·rw [h1] at hi ⊢
        obtain ⟨c',q1,q2⟩:=h.t i hi
        refine ⟨c',?_,?_⟩
        ·simp only [Act.put]
         rw [Array.getElem?_setIfInBounds_ne YO]
         exact q1
        ·cases qj:lk s.ae i with
         | none=>trivial
         | v y=>rw [qj] at q2; exact Rel.mono e q2
         | lp k off=>
          rw [qj] at q2
          show c'=_
          rw [cA k (h2 k off qj)]
          exact q2
       ·exact absurd h1 hi
    ·rw [CI]
     refine ⟨e,rfl,rfl,rfl,by simp,fun b hb _=>heap_alloc_old w _ b hb,fun b hb ho=>?_,fun _ _ hi _ _=>hi⟩
     rcases ho with ho | ⟨k,cs,hk,he⟩
     ·exact .inl ho
     ·rcases dW hk with ⟨rfl,_⟩ | ⟨Lc,hk⟩
      ·rw [Es] at he
       omega
      ·rw [cA k (Ne.symm Lc)] at he
       exact .inr ⟨k,cs,hk,he⟩
   ·cases ha
theorem cT {i:TypeInfo} {z:AV} (h:ft i=some z):∃ c,i.zero=some c∧∀ R w,Rel R w z c:=by
 unfold ft at h
 split at h
 ·rename_i c hc
  exact ⟨c,hc,fun R w=>sJ h⟩
 ·cases h
theorem CJ {f:FuncId} (h:bg E R w β s a) (t:TypeId) (ho:o.op=.alloc t) {i:TI} {z:AV} (hi:E.ti t=some i) (hz:i.zero=some z) (hn:z.aQ=true) {s':St} (ha:er E f s o.dst t z.cells=some (true,s')) :
  bS E R w β s a o s':=by
 obtain ⟨fQ,u,e1,e2,e3,e4,e5,e6⟩:=b6 E hi
 rw [hz] at e6
 obtain ⟨c,hc,hr⟩:=cT e6
 refine AM h (hr R w) hn (t:=t) ?_ ha
 simp [execOp,ho,Instr.alloc,fR w e1 hc,uB]
theorem Hx {f:FuncId} (h:bg E R w β s a) (t:TypeId) (x:Operand) (ho:o.op=.box t x) {v:AV} (hv:bB E s.ae x=.v v) (hn:v.aQ=true) {s':St} (ha:er E f s o.dst t v.cells=some (true,s')) :
  bS E R w β s a o s':=by
 have hr:=aN h x
 rw [hv] at hr
 refine AM h hr hn (t:=t) ?_ ha
 simp [execOp,ho,Instr.box,uB]
end ops
end Go.Am
namespace Go.Am
open Go
section types
variable {P:Program}
theorem lY:∀ {fs:List Field} {l:List (Nat × Nat × Bool)},fieldsOf P fs=some l→∀ {j o sz:Nat} {ag:Bool},nth l j=some (o,sz,ag) →
  ∃ f fi u,fs[j]?=some f∧f.offset=o∧P.info? f.type=some fi∧fi.size=sz∧P.underlying f.type=some u∧iT u=ag
 | [],l,h,j,o,sz,ag,hn=>by simp [fieldsOf] at h; subst h; simp [nth] at hn
 | f :: fs,l,h,j,o,sz,ag,hn=>by
  unfold fieldsOf at h
  split at h
  ·rename_i i u r h1 h2 h3
   cases h
   cases j with
   | zero=>simp [nth] at hn; obtain ⟨e1,e2,e3⟩:=hn; exact ⟨f,i,u,by simp,e1,h1,e2,h2,e3⟩
   | succ j=>
    obtain ⟨f',fi,u',g1,g2⟩:=lY h3 (show nth r j=some (o,sz,ag) from hn)
    exact ⟨f',fi,u',by simpa using g1,g2⟩
  ·cases h
theorem mK:∀ {fs:List Field} {l:List (Nat × Nat × Bool)},fieldsOf P fs=some l→fs.mapM (fun f=>(P.info? f.type).map fun i=>(f.offset,i.size))=some (l.map fun x=>(x.1,x.2.1))
 | [],l,h=>by simp [fieldsOf] at h; subst h; simp
 | f :: fs,l,h=>by
  unfold fieldsOf at h
  split at h
  ·rename_i i u r h1 h2 h3
   cases h
   simp [List.mapM_cons,h1,mK h3]
  ·cases h
theorem Et {u:TypeDesc} {l:List (Nat × Nat × Bool)} (h:oI P u=some (.st l)):∃ fs,u=.struct fs∧fieldsOf P fs.toList=some l:=by
 cases u <;> simp only [oI] at h <;> try (cases h; done)
 all_goals (try (split at h <;> cases h; done))
 rename_i fs
 split at h
 ·rename_i l' hl
  cases h
  exact ⟨fs,rfl,hl⟩
 ·cases h
theorem mY {u:TypeDesc} {n esz:Nat} {ag:Bool} (h:oI P u=some (.arr n esz ag)):∃ e i ue,u=.array n e∧P.info? e=some i∧i.size=esz∧P.underlying e=some ue∧iT ue=ag:=by
 cases u <;> simp only [oI] at h <;> try (cases h; done)
 all_goals (try (split at h <;> cases h; done))
 rename_i m e
 split at h
 ·rename_i i ue h1 h2
  cases h
  exact ⟨e,i,ue,rfl,h1,rfl,h2,rfl⟩
 ·cases h
theorem dq {u:TypeDesc} {e esz oM:Nat} {ag:Bool} {z:Option AV} (h:oI P u=some (.sl e esz ag oM z)) :
  ∃ i ue,u=.slice e∧P.info? e=some i∧i.size=esz∧i.bytes=oM∧P.underlying e=some ue∧iT ue=ag∧ft i=z:=by
 cases u <;> simp only [oI] at h <;> try (cases h; done)
 all_goals (try (split at h <;> cases h; done))
 rename_i e'
 split at h
 ·rename_i i ue h1 h2
  injection h with h
  injection h with g1 g2 g3 g4 g5
  subst g1; subst g2; subst g3; subst g4; subst g5
  exact ⟨i,ue,rfl,h1,rfl,rfl,h2,rfl,rfl⟩
 ·cases h
theorem jJ {u:TypeDesc} (h:oI P u=some .str):u=.string:=by
 cases u <;> simp only [oI] at h <;> try (cases h; done)
 all_goals (try (split at h <;> cases h; done))
 rfl
theorem qk {u:TypeDesc} {k:IntKind} (h:oI P u=some (.int k)):u=.int k:=by
 cases u <;> simp only [oI] at h <;> try (cases h; done)
 all_goals (try (split at h <;> cases h; done))
 cases h
 rfl
theorem lr {u:TypeDesc} {k e:TypeId} {z:Option AV} (h:oI P u=some (.map k e z)):u=.map k e∧∃ i,P.info? e=some i∧ft i=z:=by
 cases u <;> simp only [oI] at h <;> try (cases h; done)
 all_goals (try (split at h <;> cases h; done))
 split at h
 ·rename_i i h1
  cases h
  exact ⟨rfl,i,h1,rfl⟩
 ·cases h
end types
section ops
variable {E:Env} {R:ak} {w:World} {β:Nat→Nat} {s:St} {a:Act} {o:Oper}
theorem yd {p q:SV} {c:Value} {n:Nat} (hp:oK R w β p c) (hm:xT n p=some q) :
  ∃ b o,c=.pointer (some ⟨b,o,none⟩)∧oK R w β q (.pointer (some ⟨b,o+n,none⟩)):=by
 unfold xT at hm
 split at hm
 ·cases hm
  exact ⟨_,_,hp,rfl⟩
 ·cases hm
  cases hp with
  | @ptr _ _ b hb=>exact ⟨b,_,rfl,Rel.ptr hb⟩
 ·cases hm
  cases hp with
  | @ep _ b o hr=>
   refine ⟨b,o,rfl,Rel.ep ?_⟩
   rw [uz]
   exact hr.drop n
 ·cases hm
  cases hp with
  | @gp _ _ _ _ _ b o _ ro hr dY=>
   refine ⟨b,o,rfl,Rel.gp hr ?_⟩
   cases ro with
   | none=>trivial
   | bC=>exact dY.elim
   | bU _=>exact dY.elim
   | ba _=>exact dY.elim
   | tok f1 b1 c1=>exact ⟨dY.1,fun e=>⟨(dY.2 e).1,by rw [(dY.2 e).2,Nat.add_assoc]⟩⟩
 ·cases hm
theorem uD (h:bg E R w β s a) (t:TypeId) (x:Operand) (j:Nat) (ho:o.op=.fieldAddr t x j) {q:SV} (hq:jG E t (bB E s.ae x) j=some q) :
  bS E R w β s a o (s.put o.dst q):=by
 unfold jG at hq
 split at hq
 ·rename_i i hi
  split at hq
  ·rename_i fs hk
   split at hq
   ·rename_i off sz ag hn
    split at hq
    ·rename_i dV
     have dV:=Nat.le_of_ble_eq_true dV
     obtain ⟨fQ,u,e1,e2,e3,e4,e5,e6⟩:=b6 E hi
     rw [hk] at e5
     obtain ⟨fl,rfl,hf⟩:=Et e5
     obtain ⟨f,fi,u',g1,g2,g3,g4,g5,g6⟩:=lY hf hn
     obtain ⟨b,o',m1,m2⟩:=yd (aN h x) hq
     refine aq h ?_ m2
     have YP:fl[j]?=some f:=by simpa using g1
     have cA:¬ fi.size=0:=by omega
     simp [execOp,ho,Instr.fieldAt,run_underlying e2,YP,m1,Instr.sureAddr,fieldPlace,run_sizeOf w g3,cA,cn,g2]
    ·cases hq
   ·cases hq
  ·cases hq
 ·cases hq
theorem AN {b o sz:Nat} {es:List AV} (h:fx R w b o sz es) {n:Nat} {e:AV} (hn:nth es n=some e):dx R w b (o+n * sz) e.cells∧e.cells.length=sz∧e.aQ=true:=by
 induction es generalizing o n with
 | nil=>simp [nth] at hn
 | cons x l ih=>
  cases h with
  | cons hl ht _ h t=>
   cases n with
   | zero=>simp [nth] at hn; subst hn; exact ⟨by simpa using h,hl,ht⟩
   | succ n=>
    have:=ih t (show nth l n=some e from hn)
    rw [show o+sz+n * sz=o+(n+1) * sz by rw [Nat.add_mul]; omega] at this
    exact this
theorem uE (h:bg E R w β s a) (t:TypeId) (x ix:Operand) (ho:o.op=.indexAddr t x ix) {q:SV} (hq:jF E t (bB E s.ae x) (bB E s.ae ix)=some (true,q)) :
  bS E R w β s a o (s.put o.dst q):=by
 have rx:=aN h x
 have ri:=aN h ix
 unfold jF at hq
 split at hq
 ·rename_i i k n hi Vi
  rw [Vi] at ri
  have PV:Rel R w (.int k n) (a.eval ix):=ri
  generalize Ld:a.eval ix=iv at PV
  cases PV
  obtain ⟨fQ,u,e1,e2,e3,e4,e5,e6⟩:=b6 E hi
  split at hq
  ·-- a list
   rename_i elem esz ag oM z kk sz es hk hx
   rw [hx] at rx
   rw [hk] at e5
   obtain ⟨ie,ue,rfl,f1,f2,f3,f4,f5,f6⟩:=dq e5
   split at hq
   ·rename_i hc
    have key:∀ (u:AV),(0≤n∧n < (es.length:Int))→cz (ah es n.toNat).cells u.cells→bS E R w β s a o (s.put o.dst (.v (.ep u.cells))):=fun u uF hu=>by
     obtain ⟨AD,Hd⟩:=uF
     have du:Rel R w (.list kk sz es) (a.eval x):=rx
     generalize eJ:a.eval x=xv at du
     cases du with
     | jj=>simp at Hd; omega
     | hY=>simp at Hd; omega
     | lU=>simp at Hd; omega
     | ln=>simp at Hd; omega
     | kL=>simp at Hd; omega
     | @list _ _ _ b o' len cap hr hl gC Hy=>
      subst hl
      have bM:n.toNat < es.length:=by omega
      obtain ⟨e,he⟩:∃ e,nth es n.toNat=some e:=⟨es[n.toNat],by rw [aX]; exact List.getElem?_eq_getElem bM⟩
      have dV:sz=esz:=by
       simp only [Bool.or_eq_true] at hc
       rcases hc with hc | hc
       ·exact Nat.eq_of_beq_eq_true hc
       ·cases es with
        | nil=>simp at bM
        | cons _ _=>simp at hc
      obtain ⟨g1,_,_⟩:=AN hr he
      refine aq h (c:=.pointer (some ⟨b,o'+n.toNat * sz,none⟩)) ?_ ?_
      ·have eO:0≤n∧n < (es.length:Int):=⟨AD,Hd⟩
       simp [execOp,ho,Instr.indexAt,Ld,eJ,asIntOf,run_underlying e2,eO,run_sizeOf w f1,f2,dV,cn]
      ·have:ah es n.toNat=e:=by simp [ah,he]
       rw [this] at hu
       exact .ep (hu.Hu g1)
    split at hq
    ·rename_i p hp
     injection hq with hq
     injection hq with uF mZ
     subst mZ
     rw [Bool.and_eq_true] at uF
     have eO:=of_decide_eq_true uF.1
     have hd:=p.cH uF.2
     have bM:n.toNat < es.length:=by omega
     refine key _ eO (hd.cells ?_)
     obtain ⟨e,he⟩:∃ e,nth es n.toNat=some e:=⟨es[n.toNat],by rw [aX]; exact List.getElem?_eq_getElem bM⟩
     have:ah es n.toNat=e:=by simp [ah,he]
     rw [this]
     have du:Rel R w (.list kk sz es) (a.eval x):=rx
     generalize a.eval x=xv at du
     cases du with
     | jj=>simp at bM
     | hY=>simp at bM
     | lU=>simp at bM
     | ln=>simp at bM
     | kL=>simp at bM
     | list hr _ _ _=>exact (AN hr he).2.2
    ·injection hq with hq
     injection hq with uF mZ
     subst mZ
     exact key _ (of_decide_eq_true uF) (cz.refl _)
   ·cases hq
  ·-- a heap slice
   rename_i elem esz ag oM z id off sz len cap hk hx
   rw [hx] at rx
   rw [hk] at e5
   obtain ⟨ie,ue,rfl,f1,f2,f3,f4,f5,f6⟩:=dq e5
   split at hq
   ·rename_i hc
    have dV:=Nat.eq_of_beq_eq_true hc
    injection hq with hq
    injection hq with uF mZ
    subst mZ
    have eO:=of_decide_eq_true uF
    have du:Rel R w (.jh id off sz len cap) (a.eval x):=rx
    generalize eJ:a.eval x=xv at du
    cases du with
    | @jh _ _ _ _ _ b hb _=>
     refine aq h (c:=.pointer (some ⟨b,off+n.toNat * sz,none⟩)) ?_ (Rel.ptr hb)
     simp [execOp,ho,Instr.indexAt,Ld,eJ,asIntOf,run_underlying e2,eO,run_sizeOf w f1,f2,dV,cn]
   ·cases hq
  ·-- a slice that grows
   rename_i elem esz ag oM z id f' off sz len hk hx
   rw [hx] at rx
   rw [hk] at e5
   obtain ⟨ie,ue,rfl,f1,f2,f3,f4,f5,f6⟩:=dq e5
   split at hq
   ·rename_i hc
    have dV:=Nat.eq_of_beq_eq_true hc
    injection hq with hq
    injection hq with uF mZ
    subst mZ
    have eO:=of_decide_eq_true uF
    have du:Rel R w (.dA id f' off sz len) (a.eval x):=rx
    generalize eJ:a.eval x=xv at du
    cases du with
    | iB _ _=>omega
    | @dA _ _ _ _ _ cap b o' ro bP dY gC=>
     refine aq h (c:=.pointer (some ⟨b,o'+n.toNat * sz,none⟩)) ?_ (Rel.gp bP ?_)
     ·simp [execOp,ho,Instr.indexAt,Ld,eJ,asIntOf,run_underlying e2,eO,run_sizeOf w f1,f2,dV,cn]
     ·cases ro with
      | none=>trivial
      | bC=>exact dY.elim
      | bU _=>exact dY.elim
      | ba _=>exact dY.elim
      | tok f1 b1 c1=>
       refine ⟨dY.1,fun e=>?_⟩
       obtain ⟨k1,k2,k3⟩:=dY.2 e
       refine ⟨k1,?_⟩
       rcases k3 with k3 | k3
       ·rw [k3,Nat.add_zero,Nat.add_mul]
       ·omega
   ·cases hq
  ·-- an array that is never written
   rename_i len esz ag cs hk hx
   rw [hx] at rx
   rw [hk] at e5
   obtain ⟨e,ie,ue,rfl,f1,f2,f3,f4⟩:=mY e5
   have du:Rel R w (.ep cs) (a.eval x):=rx
   generalize eJ:a.eval x=xv at du
   cases du with
   | @ep _ b o' hr=>
    split at hq
    ·rename_i p hp
     split at hq
     ·rename_i hc
      rw [Bool.and_eq_true] at hc
      have hz:=Nat.eq_of_beq_eq_true hc.1
      have hl:=Nat.le_of_ble_eq_true hc.2
      injection hq with hq
      injection hq with uF mZ
      subst mZ
      rw [Bool.and_eq_true] at uF
      have eO:=of_decide_eq_true uF.1
      have hd:=p.cH uF.2
      have bM:n.toNat < cs.length:=by omega
      have hdr:=hr.drop n.toNat
      rw [List.drop_eq_getElem_cons bM] at hdr
      have hn:ah cs n.toNat=cs[n.toNat]:=by
       unfold ah
       rw [aX,List.getElem?_eq_getElem bM]
      rw [hn] at hd ⊢
      refine aq h (c:=.pointer (some ⟨b,o'+n.toNat * esz,none⟩)) ?_ ?_
      ·simp [execOp,ho,Instr.indexAt,Ld,eJ,Instr.sureAddr,asIntOf,run_underlying e2,eO,run_sizeOf w f1,f2,cn]
      ·subst hz
       rw [Nat.mul_one]
       cases hdr with
       | cons hc h1 hi dS t=>exact .ep (.cons hc h1 hi (hd.1 _ _ _ dS) .nil)
     ·cases hq
    ·injection hq with hq
     injection hq with uF mZ
     subst mZ
     have eO:=of_decide_eq_true uF
     refine aq h (c:=.pointer (some ⟨b,o'+n.toNat * esz,none⟩)) ?_ ?_
     ·simp [execOp,ho,Instr.indexAt,Ld,eJ,Instr.sureAddr,asIntOf,run_underlying e2,eO,run_sizeOf w f1,f2,cn]
     ·rw [uz]
      exact .ep (hr.drop _)
  ·-- an array
   rename_i len esz ag hk _
   rw [hk] at e5
   obtain ⟨e,ie,ue,rfl,f1,f2,f3,f4⟩:=mY e5
   split at hq
   ·rename_i q' hm
    injection hq with hq
    injection hq with uF mZ
    subst mZ
    have eO:=of_decide_eq_true uF
    obtain ⟨b,o',m1,m2⟩:=yd rx hm
    refine aq h ?_ m2
    simp [execOp,ho,Instr.indexAt,Ld,m1,Instr.sureAddr,asIntOf,run_underlying e2,eO,run_sizeOf w f1,f2,cn]
   ·cases hq
  ·cases hq
 ·cases hq
theorem ls {t:TypeId} {i:TypeInfo} {u:TypeDesc} (h1:E.P.info? t=some i) (h2:E.P.underlying t=some u) {off:Nat} {cs l:List AV} {vs:List Value} {v:AV} (hr:aH R w cs vs) (h3:∀ x∈vs,x.oneCell'=true)
  (zj:iT u=true→Em off i.size cs=some l∧rA true l=some v) (XV:iT u=false→Em off 1 cs=some l∧rA false l=some v) :
  ∃ c,(part t ⟨vs⟩ off).run E.P w=.ok c w∧Rel R w v c:=by
 unfold part
 simp only [Sem.run_bind,xZ w h2,Result.andThen_ok]
 cases ha:iT u with
 | true=>
  obtain ⟨g1,g2⟩:=zj ha
  obtain ⟨k1,k2,k3,k4⟩:=oh g1 hr h3
  obtain ⟨m1,_⟩:=uC g2 k2 k3
  refine ⟨_,?_,m1 rfl⟩
  have:(⟨vs⟩:Array Value).extract off (off+i.size)=⟨(vs.drop off).take i.size⟩:=by
   apply Array.ext'
   simp [List.extract_eq_take_drop]
  simp [run_sizeOf w h1]
 | false=>
  obtain ⟨g1,g2⟩:=XV ha
  obtain ⟨k1,k2,k3,k4⟩:=oh g1 hr h3
  obtain ⟨_,m2⟩:=uC g2 k2 k3
  obtain ⟨c,hc,dS⟩:=m2 rfl
  refine ⟨c,?_,dS⟩
  have h0:=k4 0 c (by rw [hc]; simp)
  simp only [Nat.add_zero] at h0
  simp [h0]
theorem CK (h:bg E R w β s a) (t:TypeId) (x:Operand) (j:Nat) (ho:o.op=.field t x j) {v:AV} (hq:Cy E t (bB E s.ae x) j=some v) :
  bS E R w β s a o (s.put o.dst (.v v)):=by
 have rx:=aN h x
 unfold Cy at hq
 split at hq
 ·rename_i i cs hi hx
  rw [hx] at rx
  have du:Rel R w (.agg cs) (a.eval x):=rx
  generalize eJ:a.eval x=xv at du
  cases du with
  | @agg _ vs hr h1=>
  split at hq
  ·rename_i fs hk
   split at hq
   ·rename_i off sz ag hn
    obtain ⟨fQ,u,e1,e2,e3,e4,e5,e6⟩:=b6 E hi
    rw [hk] at e5
    obtain ⟨fl,rfl,hf⟩:=Et e5
    obtain ⟨f,fi,u',g1,g2,g3,g4,g5,g6⟩:=lY hf hn
    have key:∃ c,(part f.type ⟨vs⟩ off).run E.P w=.ok c w∧Rel R w v c:=by
     split at hq
     ·rename_i zj
      split at hq
      ·rename_i l hl
       exact ls g3 g5 (l:=l) hr h1 (fun _=>⟨by rw [g4]; exact hl,hq⟩) (fun hf=>by rw [g6,zj] at hf; cases hf)
      ·cases hq
     ·rename_i zj
      split at hq
      ·rename_i l hl
       exact ls g3 g5 (l:=l) hr h1 (fun hf=>by rw [g6] at hf; exact absurd hf zj) (fun _=>⟨hl,hq⟩)
      ·cases hq
    obtain ⟨c,k1,k2⟩:=key
    refine aq h ?_ k2
    have YP:fl[j]?=some f:=by simpa using g1
    simp [execOp,ho,Instr.field,run_underlying e2,YP,eJ,asAgg,g2,k1]
   ·cases hq
  ·cases hq
 ·cases hq
theorem CL (h:bg E R w β s a) (t:TypeId) (x ix:Operand) (ho:o.op=.index t x ix) {v:AV} (hq:Cz E t (bB E s.ae x) (bB E s.ae ix)=some (true,v)) :
  bS E R w β s a o (s.put o.dst (.v v)):=by
 have rx:=aN h x
 have ri:=aN h ix
 unfold Cz at hq
 split at hq
 ·rename_i i l k n hi hx Vi
  rw [hx] at rx
  rw [Vi] at ri
  have PV:Rel R w (.int k n) (a.eval ix):=ri
  have du:Rel R w (.str l) (a.eval x):=rx
  generalize Ld:a.eval ix=iv at PV
  generalize eJ:a.eval x=xv at du
  cases PV
  cases du
  obtain ⟨fQ,u,e1,e2,e3,e4,e5,e6⟩:=b6 E hi
  split at hq
  ·rename_i hk
   rw [hk] at e5
   have:=jJ e5
   subst this
   injection hq with hq
   injection hq with uF mZ
   subst mZ
   obtain ⟨AD,Hd⟩:=of_decide_eq_true uF
   have bM:n.toNat < l.length:=by omega
   refine aq h (c:=.int .u8 (l.getD n.toNat 0).toNat) ?_ (Rel.int _ _)
   have jl:(⟨⟨l⟩⟩:ByteArray)[n.toNat]?=some (l.getD n.toNat 0):=by
    have hs:n.toNat < (⟨⟨l⟩⟩:ByteArray).size:=bM
    rw [getElem?_pos (⟨⟨l⟩⟩:ByteArray) n.toNat hs]
    congr 1
    simp [List.getD,List.getElem?_eq_getElem bM]
    rfl
   simp [execOp,ho,Instr.index,Ld,eJ,asIntOf,run_underlying e2,AD,jl]
  ·cases hq
 ·rename_i i cs k n hi hx Vi
  rw [hx] at rx
  rw [Vi] at ri
  have PV:Rel R w (.int k n) (a.eval ix):=ri
  have du:Rel R w (.agg cs) (a.eval x):=rx
  generalize Ld:a.eval ix=iv at PV
  generalize eJ:a.eval x=xv at du
  cases PV
  cases du with
  | @agg _ vs hr h1=>
  obtain ⟨fQ,u,e1,e2,e3,e4,e5,e6⟩:=b6 E hi
  split at hq
  ·rename_i len esz ag hk
   rw [hk] at e5
   obtain ⟨e,ie,ue,rfl,f1,f2,f3,f4⟩:=mY e5
   split at hq
   ·rename_i v' QY
    injection hq with hq
    injection hq with uF mZ
    subst mZ
    have eO:=of_decide_eq_true uF
    have key:∃ c,(part e ⟨vs⟩ (n.toNat * esz)).run E.P w=.ok c w∧Rel R w v' c:=by
     split at QY
     ·rename_i zj
      split at QY
      ·rename_i l hl
       exact ls f1 f3 (l:=l) hr h1 (fun _=>⟨by rw [f2]; exact hl,QY⟩) (fun hf=>by rw [f4,zj] at hf; cases hf)
      ·cases QY
     ·rename_i zj
      split at QY
      ·rename_i l hl
       exact ls f1 f3 (l:=l) hr h1 (fun hf=>by rw [f4] at hf; exact absurd hf zj) (fun _=>⟨hl,QY⟩)
      ·cases QY
    obtain ⟨c,k1,k2⟩:=key
    refine aq h ?_ k2
    simp [execOp,ho,Instr.index,Ld,eJ,asIntOf,run_underlying e2,eO,run_sizeOf w f1,f2,k1]
   ·cases hq
  ·cases hq
 ·cases hq
theorem zk (h:bg E R w β s a) (x:Operand) (j:Nat) (ho:o.op=.extract x j) {vs:List AV} {v:AV} (hx:bB E s.ae x=.v (.bf vs)) (hn:nth vs j=some v) :
  bS E R w β s a o (s.put o.dst (.v v)):=by
 have rx:=aN h x
 rw [hx] at rx
 have du:Rel R w (.bf vs) (a.eval x):=rx
 generalize eJ:a.eval x=xv at du
 cases du with
 | @bf _ us hr=>
 rw [aX] at hn
 obtain ⟨c,h1,h2⟩:=hr.get hn
 refine aq h ?_ h2
 simp [execOp,ho,Instr.extract,eJ,h1]
theorem fA (h:bg E R w β s a):∀ {l:List Operand} {vs:List AV},kZ E s.ae l=some vs→aH R w vs (l.map a.eval)
 | [],vs,hl=>by simp [kZ] at hl; subst hl; exact .nil
 | x :: l,vs,hl=>by
  unfold kZ at hl
  split at hl
  ·rename_i v r h1 h2
   cases hl
   have:=aN h x
   rw [h1] at this
   exact .cons this (fA h h2)
  ·cases hl
theorem xn (h:bg E R w β s a) (g:FuncId) (x y:Array Operand) (ho:o.op=.makeFunc (.func g) x y) {p q:List AV} (hp:kZ E s.ae x.toList=some p) (hq:kZ E s.ae y.toList=some q) :
  bS E R w β s a o (s.put o.dst (.v (.fn g p q))):=by
 have h1:=fA h hp
 have h2:=fA h hq
 refine aq h (c:=.func (.func g) ⟨x.toList.map a.eval⟩ ⟨y.toList.map a.eval⟩) ?_ (Rel.fn h1 h2)
 have e1:x.map a.eval=⟨x.toList.map a.eval⟩:=Array.ext' (by simp)
 have e2:y.map a.eval=⟨y.toList.map a.eval⟩:=Array.ext' (by simp)
 simp [execOp,ho,Instr.makeFunc,e1,e2]
end ops
end Go.Am
namespace Go.Am
open Go
section ops
variable {E:Env} {R:ak} {w:World} {β:Nat→Nat} {s:St} {a:Act} {o:Oper}
theorem size_bytes (l:List UInt8):(⟨⟨l⟩⟩:ByteArray).size=l.length:=rfl
theorem ql (l:List UInt8):(⟨⟨l⟩⟩:ByteArray).toList=l:=by rw [ByteArray.toList_eq]
theorem zl (l r:List UInt8):((⟨⟨l⟩⟩:ByteArray)++⟨⟨r⟩⟩)=⟨⟨l++r⟩⟩:=by
 apply ByteArray.ext
 rw [ByteArray.data_append]
 simp
theorem FU (op:BinOp) (t:TypeId) (x y:Operand) (k k':IntKind) (n m:Int):(eqGuard op t x y (.int k n) (.int k' m)).run E.P w=.ok () w:=by
 unfold eqGuard
 cases op <;> rfl
theorem FV (op:BinOp) (t:TypeId) (x y:Operand) (n m:ByteArray):(eqGuard op t x y (.string n) (.string m)).run E.P w=.ok () w:=by
 unfold eqGuard
 cases op <;> rfl
theorem CM (h:bg E R w β s a) (op:BinOp) (t u:TypeId) (x y:Operand) (ho:o.op=.binOp op t x y u) {p q v:AV} (hx:bB E s.ae x=.v p) (hy:bB E s.ae y=.v q) (hv:AJ op p q=some (true,v)) :
  bS E R w β s a o (s.put o.dst (.v v)):=by
 have rx:=aN h x
 have ry:=aN h y
 rw [hx] at rx
 rw [hy] at ry
 have du:Rel R w p (a.eval x):=rx
 have oR:Rel R w q (a.eval y):=ry
 have key:∃ c,(do eqGuard op t x y (a.eval x) (a.eval y); binOp op t (a.eval x) (a.eval y):Sem Value).run E.P w=.ok c w∧Rel R w v c:=by
  generalize eJ:a.eval x=xv at du
  generalize Vj:a.eval y=yv at oR
  unfold AJ at hv
  split at hv
  ·rename_i k n k' m
   cases du
   cases oR
   simp only [Sem.run_bind,FU,Result.andThen_ok]
   split at hv
   ·injection hv with hv
    injection hv with h1 h2
    subst h2
    have hm:=of_decide_eq_true h1
    have QZ:¬ m < 0:=by omega
    exact ⟨.int k (k.wrap (n * 2 ^ (min m.toNat k.bits))),by simp [binOp,Op.shift,QZ],.int _ _⟩
   ·injection hv with hv
    injection hv with h1 h2
    subst h2
    have hm:=of_decide_eq_true h1
    have QZ:¬ m < 0:=by omega
    exact ⟨.int k (n.fdiv (2 ^ (min m.toNat k.bits))),by simp [binOp,Op.shift,QZ],.int _ _⟩
   ·rename_i Eu hs2
    split at hv
    ·rename_i Hy
     subst Hy
     split at hv
     ·cases hv; exact ⟨.int k (k.wrap (n+m)),by simp [binOp,Op.intArith],.int _ _⟩
     ·cases hv; exact ⟨.int k (k.wrap (n - m)),by simp [binOp,Op.intArith],.int _ _⟩
     ·cases hv; exact ⟨.int k (k.wrap (n * m)),by simp [binOp,Op.intArith],.int _ _⟩
     ·injection hv with hv
      injection hv with h1 h2
      subst h2
      have hm:¬ m=0:=by simpa using h1
      exact ⟨.int k (k.wrap (n.tdiv m)),by simp [binOp,Op.intDiv,hm],.int _ _⟩
     ·injection hv with hv
      injection hv with h1 h2
      subst h2
      have hm:¬ m=0:=by simpa using h1
      exact ⟨.int k (n.tmod m),by simp [binOp,Op.intDiv,hm],.int _ _⟩
     ·cases hv; exact ⟨.int k (FG k n m),by simp [binOp,Op.intBits,FG],.int _ _⟩
     ·cases hv; exact ⟨.int k (YK k n m),by simp [binOp,Op.intBits,YK],.int _ _⟩
     ·cases hv; exact ⟨.int k (FH k n m),by simp [binOp,Op.intBits,FH],.int _ _⟩
     ·cases hv; exact ⟨.bool (n == m),by simp [binOp,Op.intCmp],.bool _⟩
     ·cases hv; exact ⟨.bool (n != m),by simp [binOp,Op.intCmp],.bool _⟩
     ·cases hv; exact ⟨.bool (decide (n < m)),by simp [binOp,Op.intCmp],.bool _⟩
     ·cases hv; exact ⟨.bool (decide (n≤m)),by simp [binOp,Op.intCmp],.bool _⟩
     ·cases hv; exact ⟨.bool (decide (n > m)),by simp [binOp,Op.intCmp],.bool _⟩
     ·cases hv; exact ⟨.bool (decide (n≥m)),by simp [binOp,Op.intCmp],.bool _⟩
     ·cases hv
    ·cases hv
  ·rename_i l r
   cases du
   cases oR
   simp only [Sem.run_bind,FV,Result.andThen_ok]
   split at hv
   ·injection hv with hv
    injection hv with h1 h2
    subst h2
    have hm:=of_decide_eq_true h1
    refine ⟨.string ⟨⟨l++r⟩⟩,?_,.str _⟩
    have Q0:¬ ((l.length+r.length:Nat):Int) > IntKind.i64.max:=by
     have:IntKind.i64.max=9223372036854775807:=by decide
     omega
    simp only [binOp,Op.stringOp,size_bytes,if_neg Q0,zl,Sem.run_pure]
   ·cases hv; exact ⟨.bool (l == r),by simp [binOp,Op.stringOp],.bool _⟩
   ·cases hv; exact ⟨.bool (!(l == r)),by simp [binOp,Op.stringOp],.bool _⟩
   ·cases hv; exact ⟨.bool (Op.bytesLess l r),by simp [binOp,Op.stringOp],.bool _⟩
   ·cases hv; exact ⟨.bool (Op.bytesLess l r || l == r),by simp [binOp,Op.stringOp],.bool _⟩
   ·cases hv; exact ⟨.bool (!(Op.bytesLess l r || l == r)),by simp [binOp,Op.stringOp],.bool _⟩
   ·cases hv; exact ⟨.bool (!(Op.bytesLess l r)),by simp [binOp,Op.stringOp],.bool _⟩
   ·cases hv
  ·cases hv
 obtain ⟨c,k1,k2⟩:=key
 refine aq h (c:=c) ?_ k2
 simp only [Sem.run_bind] at k1
 simp only [execOp,ho,Sem.run_bind,k1,Result.andThen_ok,Sem.run_pure]
theorem jw {t:TypeId} {i:TypeInfo} {u:TypeDesc} (h1:E.P.info? t=some i) (h2:E.P.underlying t=some u) {off:Nat} {cs:List AV} {vs:List Value} {v:AV} (hr:aH R w cs vs) (h3:∀ x∈vs,x.oneCell'=true)
  (h:En (iT u) off i.size cs=some v):∃ c,(part t ⟨vs⟩ off).run E.P w=.ok c w∧Rel R w v c:=by
 unfold En at h
 cases ha:iT u with
 | true=>
  rw [ha] at h
  simp only [if_true] at h
  split at h
  ·rename_i l hl
   exact ls h1 h2 hr h3 (fun _=>⟨hl,h⟩) (fun e=>by rw [ha] at e; cases e)
  ·cases h
 | false=>
  rw [ha] at h
  simp only [Bool.false_eq_true,if_false] at h
  split at h
  ·rename_i l hl
   exact ls h1 h2 hr h3 (fun e=>by rw [ha] at e; cases e) (fun _=>⟨hl,h⟩)
  ·cases h
theorem AO {ek:TypeId→EK} {d:Nat} (ih:∀ (t:TypeId) (a b:AV) (r:Bool) (x y:Value),km (ek t) a b=some r→Rel R w a x→Rel R w b y→(Op.equalIn d t x y).run E.P w=.ok r w) {xs ys:List AV} {vs us:List Value}
  (hx:aH R w xs vs) (tB:∀ x∈vs,x.oneCell'=true) (hy:aH R w ys us) (Lz:∀ x∈us,x.oneCell'=true) :
  ∀ (fs:List Field) (l:QP) (r:Bool),Cx E.P ek fs=some l→rB l xs ys=some r→(Op.eqFields d ⟨vs⟩ ⟨us⟩ fs).run E.P w=.ok r w
 | [],l,r,hl,hr=>by
  simp [Cx] at hl
  subst hl
  simp [rB] at hr
  subst hr
  rfl
 | f :: fs,l,r,hl,hr=>by
  unfold Cx at hl
  split at hl
  ·cases hl
  ·rename_i hn
   split at hl
   ·rename_i i u l' h1 h2 h3
    cases hl
    unfold rB at hr
    split at hr
    ·rename_i a b ha hb
     split at hr
     ·rename_i p q hp hq
      cases hr
      obtain ⟨c,k1,k2⟩:=jw h1 h2 hx tB ha
      obtain ⟨c',k3,k4⟩:=jw h1 h2 hy Lz hb
      have cA : f.name ≠ "_" := by simpa using hn
      have he:=ih f.type a b p c c' hp k2 k4
      have uG:=AO ih hx tB hy Lz fs l' q h3 hq
      simp only [Op.eqFields,cA,ne_eq,not_false_eq_true,if_true,Sem.run_bind,k1,k3,he,Result.andThen_ok]
      cases p with
      | true=>simp [uG]
      | false=>simp
     ·cases hr
    ·cases hr
   ·cases hl
theorem ye {ek:EK} {d:Nat} {e:TypeId} {i:TypeInfo} {u:TypeDesc} (h1:E.P.info? e=some i) (h2:E.P.underlying e=some u) (ih:∀ (a b:AV) (r:Bool) (x y:Value),km ek a b=some r→Rel R w a x→Rel R w b y→(Op.equalIn d e x y).run E.P w=.ok r w) {xs ys:List AV} {vs us:List Value}
  (hx:aH R w xs vs) (tB:∀ x∈vs,x.oneCell'=true) (hy:aH R w ys us) (Lz:∀ x∈us,x.oneCell'=true) :
  ∀ (m k:Nat) (r:Bool),rB (uv i.size (iT u) ek m k) xs ys=some r→(Op.eqItems d e i.size ⟨vs⟩ ⟨us⟩ (List.range' k m)).run E.P w=.ok r w
 | 0,k,r,hr=>by
  simp [uv,rB] at hr
  subst hr
  rfl
 | m+1,k,r,hr=>by
  unfold uv rB at hr
  split at hr
  ·rename_i a b ha hb
   split at hr
   ·rename_i p q hp hq
    cases hr
    obtain ⟨c,k1,k2⟩:=jw h1 h2 hx tB ha
    obtain ⟨c',k3,k4⟩:=jw h1 h2 hy Lz hb
    have he:=ih a b p c c' hp k2 k4
    have uG:=ye h1 h2 ih hx tB hy Lz m (k+1) q hq
    simp only [List.range'_succ,Op.eqItems,Sem.run_bind,k1,k3,he,Result.andThen_ok]
    cases p with
    | true=>simpa using uG
    | false=>simp
   ·cases hr
  ·cases hr
theorem zm:∀ (n d:Nat),n≤d→∀ (t:TypeId) (a b:AV) (r:Bool) (x y:Value),km (oJ E.P n t) a b=some r→Rel R w a x→Rel R w b y→(Op.equalIn d t x y).run E.P w=.ok r w
 | 0,_,_,t,a,b,r,x,y,h,_,_=>by simp [oJ,km] at h
 | n+1,0,hd,_,_,_,_,_,_,_,_,_=>by omega
 | n+1,d+1,hd,t,a,b,r,x,y,h,hx,hy=>by
  unfold oJ at h
  split at h
  ·rename_i hu
   unfold km at h
   split at h
   all_goals (try contradiction)
   cases hx; cases hy; cases h
   exact run_equalIn_bool' w d t _ _ hu
  ·rename_i k hu
   unfold km at h
   split at h
   all_goals (try contradiction)
   split at h
   ·rename_i hk
    subst hk
    cases hx; cases hy; cases h
    exact run_equalIn_int w d t _ k _ _ hu
   ·cases h
  ·rename_i hu
   unfold km at h
   split at h
   all_goals (try contradiction)
   cases hx; cases hy; cases h
   rw [run_equalIn_string w d t _ _ hu,ql,ql]
  ·rename_i fs hu
   split at h
   ·simp [km] at h
   ·rename_i hs
    split at h
    ·rename_i l hl
     unfold km at h
     split at h
     all_goals (try contradiction)
     rename_i zf xs ys hk
     cases hk
     cases hx with
     | agg hx tB=>
     cases hy with
     | agg hy Lz=>
     have hf:E.P.fieldsOf t=fs:=by simp [Program.fieldsOf,hu]
     rw [run_equalIn_struct w d t _ _ (by rw [hf]; exact hu) (by simpa using hs),hf]
     exact AO (fun t a b r x y=>zm n d (by omega) t a b r x y) hx tB hy Lz fs.toList _ r hl h
    ·simp [km] at h
  ·rename_i m e hu
   split at h
   ·rename_i i ud g1 g2
    unfold km at h
    split at h
    all_goals (try contradiction)
    rename_i zf xs ys hk
    cases hk
    cases hx with
    | agg hx tB=>
    cases hy with
    | agg hy Lz=>
    have ol:E.P.cellsOf e=i.size:=by simp [Program.cellsOf,g1]
    rw [run_equalIn_array (P:=E.P) w d _ _ hu g1,ol,List.range_eq_range']
    exact ye g1 g2 (fun a b r x y=>zm n d (by omega) e a b r x y) hx tB hy Lz m 0 r h
   ·simp [km] at h
  ·simp [km] at h
theorem jx {t:TypeId} {i:TI} (hi:E.ti t=some i) {p q:AV} {r:Bool} {x y:Value} (h:km i.ek p q=some r) (hx:Rel R w p x) (hy:Rel R w q y) :
  (Op.equalIn 10000 t x y).run E.P w=.ok r w∧((∃ b c,x=.bool b∧y=.bool c)∨(∃ k n k' m,x=.int k n∧y=.int k' m)∨(∃ n m,x=.string n∧y=.string m)∨(∃ n m,x=.agg n∧y=.agg m∧E.P.eqGuardType E.P.depth t=false)):=by
 have yf:i.ek=sG E.P t:=by
  have:=E.FF t i hi
  unfold FE at this
  split at this
  ·split at this
   ·cases this; rfl
   ·cases this
  ·cases this
 rw [yf] at h
 have hg:km (oJ E.P 6 t) p q=some r∧((∃ l,oJ E.P 6 t=.st l)→E.P.eqGuardType E.P.depth t=false):=by
  unfold sG at h
  split at h
  ·rename_i l hl
   split at h
   ·simp [km] at h
   ·rename_i FW
    exact ⟨by rw [hl]; exact h,fun _=>by simpa using FW⟩
  ·rename_i k hk
   exact ⟨h,fun ⟨l,hl⟩=>absurd hl (hk l)⟩
 refine ⟨zm 6 10000 (by omega) t p q r x y hg.1 hx hy,?_⟩
 have h2:=hg.1
 have h3:=hg.2
 generalize oJ E.P 6 t=k at h2 h3
 unfold km at h2
 split at h2
 ·cases hx; cases hy; exact .inl ⟨_,_,rfl,rfl⟩
 ·cases hx; cases hy; exact .inr (.inl ⟨_,_,_,_,rfl,rfl⟩)
 ·cases hx; cases hy; exact .inr (.inr (.inl ⟨_,_,rfl,rfl⟩))
 ·cases hx; cases hy; exact .inr (.inr (.inr ⟨_,_,rfl,rfl,h3 ⟨_,rfl⟩⟩))
 ·cases h2
theorem Hz (h:bg E R w β s a) (op:BinOp) (t u:TypeId) (x y:Operand) (ho:o.op=.binOp op t x y u) {p q:AV} {r:Bool} (hx:bB E s.ae x=.v p) (hy:bB E s.ae y=.v q) (hb:AJ op p q=none) (hv:YM E op t p q=some r) :
  bS E R w β s a o (s.put o.dst (.v (.bool r))):=by
 have rx:=aN h x
 have ry:=aN h y
 rw [hx] at rx
 rw [hy] at ry
 have du:Rel R w p (a.eval x):=rx
 have oR:Rel R w q (a.eval y):=ry
 have key:(do eqGuard op t x y (a.eval x) (a.eval y); binOp op t (a.eval x) (a.eval y):Sem Value).run E.P w=.ok (.bool r) w:=by
  generalize eJ:a.eval x=xv at du
  generalize Vj:a.eval y=yv at oR
  unfold YM at hv
  split at hv
  ·rename_i i hi
   obtain ⟨k1,k2⟩:=jx hi hv du oR
   rcases k2 with ⟨b,c,rfl,rfl⟩ | ⟨k,n,k',m,rfl,rfl⟩ | ⟨n,m,rfl,rfl⟩ | ⟨n,m,rfl,rfl,hg⟩
   ·have CN:(eqGuard .eql t x y (.bool b) (.bool c)).run E.P w=.ok () w:=rfl
    simp [CN,binOp,Op.equal,Op.maxDepth,k1]
   ·cases du; cases oR; simp [AJ] at hb
    cases hk:i.ek <;> simp [hk,km] at hv
    exact absurd hv.1 hb
   ·cases du; cases oR; simp [AJ] at hb
   ·simp only [Sem.run_bind,run_eqGuard_agg w _ t x y n m hg,Result.andThen_ok,run_eql_struct,k1]
  ·rename_i i hi
   split at hv
   ·rename_i r' kP
    cases hv
    obtain ⟨k1,k2⟩:=jx hi kP du oR
    rcases k2 with ⟨b,c,rfl,rfl⟩ | ⟨k,n,k',m,rfl,rfl⟩ | ⟨n,m,rfl,rfl⟩ | ⟨n,m,rfl,rfl,hg⟩
    ·have CN:(eqGuard .neq t x y (.bool b) (.bool c)).run E.P w=.ok () w:=rfl
     simp [CN,binOp,Op.equal,Op.maxDepth,k1]
    ·cases du; cases oR; simp [AJ] at hb
     cases hk:i.ek <;> simp [hk,km] at kP
     exact absurd kP.1 hb
    ·cases du; cases oR; simp [AJ] at hb
    ·simp only [Sem.run_bind,run_eqGuard_agg w _ t x y n m hg,Result.andThen_ok,run_neq_struct,k1]
   ·cases hv
  ·cases hv
 refine aq h (c:=.bool r) ?_ (.bool r)
 simp only [Sem.run_bind] at key
 simp only [execOp,ho,Sem.run_bind,key,Result.andThen_ok,Sem.run_pure]
theorem HA (h:bg E R w β s a) (t:TypeId) (x:Operand) (ho:o.op=.unOp .not t x) {b:Bool} (hx:bB E s.ae x=.v (.bool b)):bS E R w β s a o (s.put o.dst (.v (.bool (!b)))):=by
 have rx:=aN h x
 rw [hx] at rx
 have du:Rel R w (.bool b) (a.eval x):=rx
 generalize eJ:a.eval x=xv at du
 cases du
 refine aq h (c:=.bool (!b)) ?_ (Rel.bool _)
 simp [execOp,ho,Op.unary,eJ]
theorem HB (h:bg E R w β s a) (t:TypeId) (x:Operand) (ho:o.op=.unOp .neg t x) {k:IntKind} {n:Int} (hx:bB E s.ae x=.v (.int k n)):bS E R w β s a o (s.put o.dst (.v (.int k (k.wrap (0 - n))))):=by
 have rx:=aN h x
 rw [hx] at rx
 have du:Rel R w (.int k n) (a.eval x):=rx
 generalize eJ:a.eval x=xv at du
 cases du
 refine aq h (c:=.int k (k.wrap (0 - n))) ?_ (Rel.int _ _)
 simp [execOp,ho,Op.unary,Op.intArith,eJ]
theorem yg:∀ (us:List Value) (off j0:Nat) (cells:Array Value),off+j0+us.length≤cells.size →
  ((us.zipIdx j0).foldl (fun (cs:Array Value) (p:Value × Nat)=>cs.setIfInBounds (off+p.2) p.1) cells).toList=cells.toList.take (off+j0)++us++cells.toList.drop (off+j0+us.length)
 | [],off,j0,cells,_=>by simp
 | u :: us,off,j0,cells,h=>by
  have bM:off+j0 < cells.size:=by simp at h; omega
  have ih:=yg us off (j0+1) (cells.setIfInBounds (off+j0) u) (by simp at h ⊢; omega)
  simp only [List.zipIdx_cons,List.foldl_cons]
  rw [ih]
  have e:=list_seg_step cells.toList (off+j0) u us (by simp at h ⊢; omega)
  simpa [Array.toList_setIfInBounds,Nat.add_assoc] using e
theorem na (place:Nat→Option (Nat × Nat)):∀ {ps:List (Nat × AV)} {qs:List (Nat × Value)} {cells uH:List AV} {vs:List Value},
  aH R w (ps.map (·.2)) (qs.map (·.2))→ps.map (·.1)=qs.map (·.1)→aH R w cells vs→(∀ x∈vs,x.oneCell'=true)→sH place cells ps=some uH →
  ∃ us,Instr.fill place ⟨vs⟩ qs=some ⟨us⟩∧aH R w uH us∧∀ x∈us,x.oneCell'=true
 | [],qs,cells,uH,vs,h1,h2,h3,h4,h5=>by
  have:qs=[]:=by simpa using h2.symm
  subst this
  simp [sH] at h5
  subst h5
  exact ⟨vs,rfl,h3,h4⟩
 | (i,v) :: ps,[],cells,uH,vs,h1,h2,h3,h4,h5=>by simp at h2
 | (i,v) :: ps,(j,c) :: qs,cells,uH,vs,h1,h2,h3,h4,h5=>by
  simp only [List.map_cons,List.cons.injEq] at h2
  obtain ⟨rfl,h2⟩:=h2
  cases h1 with
  | cons hr h1=>
  unfold sH at h5
  split at h5
  ·cases h5
  ·rename_i off sz hp
   split at h5
   ·rename_i eO
    simp only [Bool.and_eq_true] at eO
    obtain ⟨⟨Lb,hlen⟩,hle⟩:=eO
    have hlen:=Nat.eq_of_beq_eq_true hlen
    have hle:=Nat.le_of_ble_eq_true hle
    obtain ⟨c1,c2⟩:=Rel.cells hr Lb
    have Ev:c.cells.toList.length=sz:=by rw [← c1.length]; exact hlen
    have hb:off+v.cells.length≤cells.length:=by omega
    obtain ⟨us,u1,u2,u3⟩:=na place h1 h2 (h3.a7 c1 hb) (ia h4 c2) h5
    refine ⟨us,?_,u2,u3⟩
    have dV:c.cells.size=sz:=by simpa using Ev
    have PW:vs.length=cells.length:=h3.length.symm
    have Vk:c.cells.zipIdx.foldl (fun (cs:Array Value) (x:Value × Nat)=>cs.setIfInBounds (off+x.2) x.1) ⟨vs⟩=⟨vs.take off++c.cells.toList++vs.drop (off+c.cells.toList.length)⟩:=by
     apply Array.ext'
     rw [← Array.foldl_toList,Array.toList_zipIdx]
     have:=yg c.cells.toList off 0 ⟨vs⟩ (by simp only [List.size_toArray]; omega)
     simpa using this
    have cD:(c.cells.size≠sz || decide (off+c.cells.size > (⟨vs⟩:Array Value).size))=false:=by
     have Eu:decide (c.cells.size≠sz)=false:=by simp [dV]
     have hs2:decide (off+c.cells.size > (⟨vs⟩:Array Value).size)=false:=by
      rw [decide_eq_false_iff_not,dV]
      show ¬ off+sz > vs.length
      omega
     rw [Eu,hs2]
     rfl
    unfold Instr.fill
    simp only [hp,cD,Bool.false_eq_true,if_false]
    rw [← u1]
    exact congrArg (fun z=>Instr.fill place z qs) Vk
   ·cases h5
theorem tX (h:bg E R w β s a):∀ {l:List (Nat × Operand)} {ps:List (Nat × AV)},La E s.ae l=some ps →
  aH R w (ps.map (·.2)) ((l.map fun x=>(x.1,a.eval x.2)).map (·.2))∧ps.map (·.1)=(l.map fun x=>(x.1,a.eval x.2)).map (·.1)
 | [],ps,hl=>by simp [La] at hl; subst hl; exact ⟨.nil,rfl⟩
 | (i,x) :: l,ps,hl=>by
  unfold La at hl
  split at hl
  ·rename_i v r h1 h2
   cases hl
   have hx:=aN h x
   rw [h1] at hx
   obtain ⟨g1,g2⟩:=tX h h2
   exact ⟨.cons hx g1,by simpa using g2⟩
  ·cases hl
theorem CO (h:bg E R w β s a) (t:TypeId) (parts:Array (Nat × Operand)) (ho:o.op=.build t parts) {v:AV} (hv:lR E s t parts.toList=some v) :
  bS E R w β s a o (s.put o.dst (.v v)):=by
 unfold lR at hv
 split at hv
 ·rename_i i ps hi He
  split at hv
  ·rename_i z hz
   split at hv
   ·rename_i cs ol
    split at hv
    ·rename_i zj
     cases hv
     simp only [Bool.and_eq_true] at zj
     obtain ⟨zj,pY⟩:=zj
     obtain ⟨fQ,u,e1,e2,e3,e4,e5,e6⟩:=b6 E hi
     rw [hz] at e6
     obtain ⟨zc,px,Cq⟩:=cT e6
     obtain ⟨p1,p2⟩:=tX h He
     obtain ⟨c1,c2⟩:=Rel.cells (Cq R w) pY
     have Q1:(parts.map fun (x:Nat × Operand)=>(x.1,a.eval x.2)).toList=parts.toList.map fun x=>(x.1,a.eval x.2):=by simp
     have key:∃ us,E.P.built t (parts.toList.map fun x=>(x.1,a.eval x.2))=some ⟨us⟩∧aH R w cs us∧∀ x∈us,x.oneCell'=true:=by
      cases u <;> simp only [iT] at e4 <;> first | (rw [zj] at e4; cases e4; done) | skip
      ·rename_i n e
       simp only [oI] at e5
       split at e5
       ·rename_i ie ue f1 f2
        injection e5 with e5
        rw [← e5] at ol
        obtain ⟨us,u1,u2,u3⟩:=na (R:=R) (w:=w) _ p1 p2 c1 c2 ol
        refine ⟨us,?_,u2,u3⟩
        unfold Program.built
        simp only [e1,e2,px,f1]
        rw [← u1]
        rfl
       ·cases e5
      ·rename_i fs
       simp only [oI] at e5
       split at e5
       ·rename_i l hl
        injection e5 with e5
        rw [← e5] at ol
        obtain ⟨us,u1,u2,u3⟩:=na (R:=R) (w:=w) _ p1 p2 c1 c2 ol
        refine ⟨us,?_,u2,u3⟩
        unfold Program.built
        simp only [e1,e2,px,mK hl]
        rw [← u1]
        have Ux:placeOf (.st l)=fun j=>(l.map fun x=>(x.1,x.2.1)).toArray[j]?:=by
         funext j
         simp only [placeOf,aX,List.getElem?_toArray,List.getElem?_map]
         cases l[j]? <;> rfl
        rw [Ux]
       ·cases e5
     obtain ⟨us,u1,u2,u3⟩:=key
     refine aq h (c:=.agg ⟨us⟩) ?_ (Rel.agg u2 u3)
     have bw:=run_build (P:=E.P) w t (parts.map fun (x:Nat × Operand)=>(x.1,a.eval x.2)) ⟨us⟩ (by rw [Q1]; exact u1)
     simp only [execOp,ho,Sem.run_bind,bw,Result.andThen_ok,Sem.run_pure]
    ·cases hv
   ·cases hv
  ·cases hv
 ·cases hv
end ops
end Go.Am
