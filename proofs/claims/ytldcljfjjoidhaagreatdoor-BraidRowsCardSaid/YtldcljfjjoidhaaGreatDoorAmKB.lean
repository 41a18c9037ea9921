/- The abstract machine: lists of cells; what keeps a state's meaning; loads and stores. -/
import Derived.Test.YtldcljfjjoidhaaGreatDoorAmKA
import Derived.Laws.CopyRow
import Derived.Laws.Slices
import Derived.Laws.StructEq
import Derived.ChangeKeysEq
set_option linter.all false
namespace Go.Am
open Go
section lists
variable {α:Type}
theorem vC (n:Nat) (l:List α):fE n l=l.drop n:=by
 induction n generalizing l with
 | zero=>simp [fE]
 | succ n ih=>cases l <;> simp [fE,ih]
theorem II {n:Nat} {l r:List α} (h:takeN n l=some r):r=l.take n∧r.length=n:=by
 induction n generalizing l r with
 | zero=>simp [takeN] at h; subst h; simp
 | succ n ih=>
  cases l with
  | nil=>simp [takeN] at h
  | cons a l=>
   unfold takeN at h
   split at h
   ·rename_i r' hr
    cases h
    obtain ⟨h1,h2⟩:=ih hr
    exact ⟨by simp [h1],by simp [h2]⟩
   ·cases h
theorem R5 {off n:Nat} {l r:List α} (h:Fs off n l=some r):r=(l.drop off).take n∧r.length=n:=by
 unfold Fs at h
 rw [vC] at h
 exact II h
theorem eU (l:List α) (off:Nat) (ys:List α) (h:off+ys.length≤l.length):bZ l off ys=l.take off++ys++l.drop (off+ys.length):=by
 induction l generalizing off ys with
 | nil=>
  have hy:ys=[]:=List.eq_nil_of_length_eq_zero (by rw [List.length_nil] at h; omega)
  subst hy
  simp [bZ]
 | cons a l ih=>
  cases ys with
  | nil=>simp [bZ]
  | cons y ys=>
   cases off with
   | zero=>
    simp only [bZ]
    rw [ih 0 ys (by simp at h ⊢; omega)]
    simp
   | succ n=>
    simp only [bZ]
    rw [ih n (y :: ys) (by simp at h ⊢; omega)]
    rw [show n+1+(y :: ys).length=(n+(y :: ys).length)+1 by omega]
    simp
theorem yC (l:List α) (off:Nat) (ys:List α) (h:off+ys.length≤l.length):(bZ l off ys).length=l.length:=by
 rw [eU l off ys h]
 simp
 omega
end lists
section rel
variable {R:ai} {w:World}
theorem aM.length {l:List AV} {vs:List Value} (h:aM R w l vs):l.length=vs.length:=by
 induction l generalizing vs with
 | nil=>cases h; rfl
 | cons a l ih=>cases h with | cons h t=>simp [ih t]
theorem aM.get {l:List AV} {vs:List Value} (h:aM R w l vs) {i:Nat} {a:AV} (ha:l[i]?=some a):∃ c,vs[i]?=some c∧Rel R w a c:=by
 induction l generalizing vs i with
 | nil=>simp at ha
 | cons x l ih=>
  cases h with
  | cons h t=>
   cases i with
   | zero=>simp at ha; subst ha; exact ⟨_,by simp,h⟩
   | succ i=>simp at ha; obtain ⟨c,h1,h2⟩:=ih t ha; exact ⟨c,by simpa using h1,h2⟩
theorem aM.drop {l:List AV} {vs:List Value} (h:aM R w l vs) (n:Nat):aM R w (l.drop n) (vs.drop n):=by
 induction n generalizing l vs with
 | zero=>simpa using h
 | succ n ih=>cases h with
  | nil=>simpa using aM.nil
  | cons h t=>simpa using ih t
theorem aM.take {l:List AV} {vs:List Value} (h:aM R w l vs) (n:Nat):aM R w (l.take n) (vs.take n):=by
 induction n generalizing l vs with
 | zero=>simpa using aM.nil
 | succ n ih=>cases h with
  | nil=>simpa using aM.nil
  | cons h t=>simpa using aM.cons h (ih t)
theorem aM.append {l r:List AV} {vs us:List Value} (h:aM R w l vs) (k:aM R w r us):aM R w (l++r) (vs++us):=by
 induction l generalizing vs with
 | nil=>cases h; simpa using k
 | cons a l ih=>cases h with | cons h t=>exact .cons h (ih t)
theorem aM.one {a:AV} {c:Value} (h:Rel R w a c):aM R w [a] [c]:=.cons h .nil
theorem Rel.cells {a:AV} {c:Value} (h:Rel R w a c) (ht:a.aV=true):aM R w a.cells c.cells.toList∧∀ v∈c.cells.toList,v.oneCell'=true:=by
 cases h with
 | agg h h1=>exact ⟨h,h1⟩
 | bh h=>simp [AV.aV] at ht
 | bool=>exact ⟨.one (.bool _),by simp [Value.cells,Value.oneCell']⟩
 | int=>exact ⟨.one (.int _ _),by simp [Value.cells,Value.oneCell']⟩
 | str=>exact ⟨.one (.str _),by simp [Value.cells,Value.oneCell']⟩
 | iA=>exact ⟨.one .iA,by simp [Value.cells,Value.oneCell']⟩
 | ptr h=>exact ⟨.one (.ptr h),by simp [Value.cells,Value.oneCell']⟩
 | ep h=>exact ⟨.one (.ep h),by simp [Value.cells,Value.oneCell']⟩
 | jE=>exact ⟨.one .jE,by simp [Value.cells,Value.oneCell']⟩
 | iR=>exact ⟨.one .iR,by simp [Value.cells,Value.oneCell']⟩
 | mL=>exact ⟨.one .mL,by simp [Value.cells,Value.oneCell']⟩
 | lZ h ho=>exact ⟨.one (.lZ h ho),by simp [Value.cells,Value.oneCell']⟩
 | lE h ho=>exact ⟨.one (.lE h ho),by simp [Value.cells,Value.oneCell']⟩
 | list h hl hc hk=>exact ⟨.one (.list h hl hc hk),by simp [Value.cells,Value.oneCell']⟩
 | jS h hc=>exact ⟨.one (.jS h hc),by simp [Value.cells,Value.oneCell']⟩
 | iM h ho=>exact ⟨.one (.iM h ho),by simp [Value.cells,Value.oneCell']⟩
 | dX h ho hc=>exact ⟨.one (.dX h ho hc),by simp [Value.cells,Value.oneCell']⟩
 | gp h ho=>exact ⟨.one (.gp h ho),by simp [Value.cells,Value.oneCell']⟩
 | kr=>exact ⟨.one .kr,by simp [Value.cells,Value.oneCell']⟩
 | map h=>exact ⟨.one (.map h),by simp [Value.cells,Value.oneCell']⟩
 | cz=>exact ⟨.one .cz,by simp [Value.cells,Value.oneCell']⟩
 | fn h h'=>exact ⟨.one (.fn h h'),by simp [Value.cells,Value.oneCell']⟩
 | yield h=>exact ⟨.one (.yield h),by simp [Value.cells,Value.oneCell']⟩
 | nG=>exact ⟨.one .nG,by simp [Value.cells,Value.oneCell']⟩
 | iface h=>exact ⟨.one (.iface h),by simp [Value.cells,Value.oneCell']⟩
mutual
theorem Rel.gD:∀ {a:AV} {c:Value},Rel R w a c→Rel R w a.gD c
 | _,_,.bool b=>.bool b
 | _,_,.int k n=>.int k n
 | _,_,.str l=>.str l
 | _,_,.agg h h1=>.agg h.gD h1
 | _,_,.bh h=>.bh h.gD
 | _,_,.iA=>.iA
 | _,_,.ptr h=>.ptr h
 | _,_,.ep h=>.ep h
 | _,_,.jE=>.jE
 | _,_,.iR=>.iR
 | _,_,.mL=>.mL
 | _,_,.lZ _ _=>.iR
 | _,_,.lE _ _=>.iR
 | _,_,@Rel.list _ _ .nil _ _ _ _ _ _ h hl hc hk=>.list h hl hc hk
 | _,_,@Rel.list _ _ .full _ _ _ _ _ _ h hl hc hk=>.list h hl hc hk
 | _,_,@Rel.list _ _ .jP _ _ _ _ _ _ h hl hc hk=>.list h hl hc hk
 | _,_,@Rel.list _ _ (.own _) _ _ _ _ _ _ h hl hc _=>.list h hl hc trivial
 | _,_,@Rel.list _ _ (.bf _ _) _ _ _ _ _ _ h hl hc _=>.list h hl hc trivial
 | _,_,.jS h hc=>.jS h hc
 | _,_,.iM h ho=>.iM h ho
 | _,_,.dX h ho hc=>.dX h ho hc
 | _,_,.gp h ho=>.gp h ho
 | _,_,.kr=>.kr
 | _,_,.map h=>.map h
 | _,_,.cz=>.cz
 | _,_,.fn h h'=>.fn h h'
 | _,_,.yield h=>.yield h
 | _,_,.nG=>.nG
 | _,_,.iface h=>.iface h
theorem aM.gD:∀ {l:List AV} {cs:List Value},aM R w l cs→aM R w (lj l) cs
 | _,_,.nil=>.nil
 | _,_,.cons h t=>.cons h.gD t.gD
end
theorem dP.get {b o:Nat} {l:List AV} (h:dP R w b o l):∃ vs,aM R w l vs∧(∀ v∈vs,v.oneCell'=true)∧(∀ j v,vs[j]?=some v→w.cell? ⟨b,o+j,none⟩=some v)∧∀ j,j < l.length→R.I b (o+j):=by
 induction l generalizing o with
 | nil=>exact ⟨[],.nil,by simp,by simp,by simp⟩
 | cons a l ih=>
  cases h with
  | @cons _ _ _ c _ hc h1 hi h t=>
   obtain ⟨vs,k1,k2,k3,k4⟩:=ih t
   refine ⟨c :: vs,.cons h k1,?_,?_,?_⟩
   ·intro v hv
    rcases List.mem_cons.1 hv with rfl | hv
    ·exact h1
    ·exact k2 v hv
   ·intro j v hv
    cases j with
    | zero=>simp at hv; subst hv; exact hc
    | succ j=>simp at hv; have:=k3 j v hv; rwa [show o+1+j=o+(j+1) by omega] at this
   ·intro j hj
    cases j with
    | zero=>exact hi
    | succ j=>have:=k4 j (by simp at hj; omega); rwa [show o+1+j=o+(j+1) by omega] at this
theorem dP.make {b o:Nat} {l:List AV} {vs:List Value} (h:aM R w l vs) (h1:∀ v∈vs,v.oneCell'=true) (hc:∀ j v,vs[j]?=some v→w.cell? ⟨b,o+j,none⟩=some v) (hi:∀ j,j < l.length→R.I b (o+j)):dP R w b o l:=by
 induction l generalizing vs o with
 | nil=>exact .nil
 | cons a l ih=>
  cases h with
  | cons h t=>
   refine .cons (hc 0 _ (by simp)) (h1 _ (by simp)) (hi 0 (by simp)) h (ih t (fun v hv=>h1 v (by simp [hv])) (fun j v hv=>?_) (fun j hj=>?_))
   ·have:=hc (j+1) v (by simpa using hv); rwa [show o+(j+1)=o+1+j by omega] at this
   ·have:=hi (j+1) (by simpa using hj); rwa [show o+(j+1)=o+1+j by omega] at this
theorem dP.drop {b o:Nat} {l:List AV} (h:dP R w b o l) (n:Nat):dP R w b (o+n) (l.drop n):=by
 induction n generalizing o l with
 | zero=>simpa using h
 | succ n ih=>cases h with
  | nil=>simpa using dP.nil
  | cons hc h1 hi h t=>have:=ih t; rw [show o+1+n=o+(n+1) by omega] at this; simpa using this
end rel
theorem cA (b o n:Nat):(⟨b,o,none⟩:Addr).add n=⟨b,o+n,none⟩:=by unfold Addr.add; split <;> simp_all
section cq
variable {E:Env} {R R':ai} {w w':World} {β β':Nat→Nat} {s:St} {a:Act}
theorem nP.mono (e:Ext R w R' w') {sl:bc} {tm:Array Value} (h:nP R w β sl tm):nP R' w' β sl tm:=
 fun i hi=>let ⟨c,h1,h2⟩:=h i hi; ⟨c,h1,h2.mono e⟩
theorem dp.mono (e:Ext R w R' w'):∀ {l:List (AV × AV)} {es:List MapEntry},dp R w l es→dp R' w' l es
 | [],[],_=>trivial
 | (_,_) :: _,_ :: _,h=>⟨h.1.mono e,h.2.1.mono e,dp.mono e h.2.2⟩
 | [],_ :: _,h=>h.elim
 | _ :: _,[],h=>h.elim
theorem nQ {w w':World} {b:Nat} (h:b < w.heap.size) (e:w'.heap[b]?=w.heap[b]?):b < w'.heap.size:=by
 rw [Array.getElem?_eq_getElem h] at e
 exact (Array.getElem?_eq_some_iff.1 e).1
theorem gF.mono (e:Ext R w R' w') {go:GO} {ro:RO} (h:gF R w go ro) (hb:∀ b,ro.has b→w'.heap[b]?=w.heap[b]?) (hi:∀ b o,ro.has b→R'.I b o→R.I b o):gF R' w' go ro:=by
 cases ro with
 | none=>cases go <;> first | exact h | exact h.elim
 | bz=>cases go <;> first | exact h | exact h.elim
 | bU b=>
  have iS:=hb b rfl
  cases go with
  | dead=>exact nQ h iS
  | row cs el=>obtain ⟨vs,h1,h2,h3,h4⟩:=h; exact ⟨vs,iS.trans h1,h2.mono e,h3,fun o ho=>h4 o (hi b o rfl ho)⟩
  | tok f sz el=>exact h.elim
  | bf _ _ _=>exact h.elim
  | nB qb n left _=>obtain ⟨bm,seen,c0,h1,h2,h3⟩:=h; exact ⟨bm,seen,c0,e.bU h1,iS.trans h2,h3⟩
  | dG es sz el=>exact h.elim
  | map es=>obtain ⟨az,clock,h1,h2,h3⟩:=h; exact ⟨az,clock,iS.trans h1,dp.mono e h2,h3⟩
  | gB l pos=>exact iS.trans h
  | loop busy pending fn af n params assign body defers done=>
   obtain ⟨⟨r,db,h1,h2,h3,h4,h5,h6,h7,h8,h9,h11⟩,h10⟩:=h
   exact ⟨⟨r,db,iS.trans h1,h2,h3,h4.mono e,h5,h6,h7,h8,h9,e.bU h11⟩,h10⟩
  | defers o=>exact iS.trans h
 | tok f b c=>
  have iS:=hb b rfl
  cases go with
  | tok f' sz el=>
   obtain ⟨h0,cur,h1,h2,h3,h4,h5⟩:=h
   exact ⟨h0,cur,iS.trans h1,h2,h3,h4,fun o ho qM=>h5 o ho (hi b o rfl qM)⟩
  | dG es sz el=>
   obtain ⟨h0,oS,cur,vs,h1,h2,h3,h4,h5,h6,h7,h8⟩:=h
   exact ⟨h0,oS,cur,vs,iS.trans h1,h2,h3,h4,fun o ho=>h5 o (hi b o rfl ho),h6.mono e,h7,h8⟩
  | dead=>exact nQ h iS
  | row cs=>exact h.elim
  | bf _ _ _=>exact h.elim
  | nB _ _ _ _=>exact h.elim
  | map es=>exact h.elim
  | gB l pos=>exact h.elim
  | loop=>exact h.elim
  | defers o=>exact h.elim
 | bf ts=>
  cases go with
  | bf fs sz el=>
   obtain ⟨h1,h2,h3⟩:=h
   refine ⟨h1,h2,fun j f t hf ht=>?_⟩
   have h4:=h3 j f t hf ht
   cases t with
   | bz=>exact h4
   | full f'=>exact h4
   | tok f' b c=>
    obtain ⟨h5,cur,k1,k2,k3,k4,k5⟩:=h4
    have hh:RO.has (.bf ts) b:=⟨j,f',c,ht⟩
    exact ⟨h5,cur,(hb b hh).trans k1,k2,k3,k4,fun o ho qM=>k5 o ho (hi b o hh qM)⟩
  | dead=>exact fun j f b c ht=>nQ (h j f b c ht) (hb b ⟨j,f,c,ht⟩)
  | _=>exact h.elim
theorem Live.of {id b:Nat} {ro:RO} (h:nth R.obj id=some ro) (hb:ro.has b):Live R b:=⟨id,ro,h,hb⟩
theorem dq.cq {G:List GO} (h:dq E R w G) (e:Ext R w R' w') (ho:R'.obj=R.obj) (hb:∀ b,Live R b→w'.heap[b]?=w.heap[b]?) (hi:∀ b o,Live R b→R'.I b o→R.I b o) (wf:∀ b o,R'.I b o→b < w'.heap.size) (hd:E.lo≤w.drawn→E.lo≤w'.drawn:=by first | exact fun h=>h | exact fun h=>Nat.le_succ_of_le h):dq E R' w' G where
 lo:=hd h.lo
 len:=by rw [ho]; exact h.len
 obj:=fun id go ro hg hr=>by
  rw [ho] at hr
  exact (h.obj id go ro hg hr).mono e (fun b MC=>hb b (.of hr MC)) (fun b o MC=>hi b o (.of hr MC))
 inj:=fun i j ri rj b h1 h2=>by rw [ho] at h1 h2; exact h.inj i j ri rj b h1 h2
 wf:=wf
 b6:=fun g cs hg=>(h.b6 g cs hg).mono e
theorem MY.cq {bx:cE} (h:MY R w β bx) (e:Ext R w R' w') (hb:∀ k cs,dm bx k=some cs→w'.heap[β k]?=w.heap[β k]?) (hi:∀ k cs o,dm bx k=some cs→R'.I (β k) o→R.I (β k) o) (hl:∀ k cs,dm bx k=some cs→Live R' (β k)→Live R (β k)):MY R' w' β bx where
 box:=fun k cs hk=>by
  obtain ⟨⟨vs,el,h1,h2,h3⟩,h4,h5⟩:=h.box k cs hk
  exact ⟨⟨vs,el,(hb k cs hk).trans h1,h2.mono e,h3⟩,fun o ho=>h4 o (hi k cs o hk ho),fun BD=>h5 (hl k cs hk BD)⟩
 inj:=h.inj
theorem pD.mono (e:Ext R w R' w'):∀ {l:List Nat} {ds:List Deferred},pD R l ds→pD R' l ds
 | [],[],_=>trivial
 | _ :: _,_ :: _,h=>let ⟨⟨b,h1,h2⟩,h3⟩:=h; ⟨⟨b,e.bU h1,h2⟩,pD.mono e h3⟩
 | [],_ :: _,h=>h.elim
 | _ :: _,[],h=>h.elim
theorem bi.cq (h:bi E R w β s a) (e:Ext R w R' w') (ho:R'.obj=R.obj) (hb:∀ b,Own R β s.boxes b→w'.heap[b]?=w.heap[b]?) (hi:∀ b o,Own R β s.boxes b→R'.I b o→R.I b o) (wf:∀ b o,R'.I b o→b < w'.heap.size) (hd:E.lo≤w.drawn→E.lo≤w'.drawn:=by first | exact fun h=>h | exact fun h=>Nat.le_succ_of_le h):bi E R' w' β s a where
 g:=h.g.cq e ho (fun b hl=>hb b (.inl hl)) (fun b o hl=>hi b o (.inl hl)) wf hd
 b:=h.b.cq e (fun k cs hk=>hb _ (.inr ⟨k,cs,hk,rfl⟩)) (fun k cs o hk=>hi _ o (.inr ⟨k,cs,hk,rfl⟩)) (fun k cs _ hl=>by obtain ⟨id,ro,h1,h2⟩:=hl; rw [ho] at h1; exact ⟨id,ro,h1,h2⟩)
 t:=h.t.mono e
 n:=h.n
 d:=h.d.mono e
theorem bg {w:World} {b:Nat} {o:Obj} (h:w.heap[b]?=some o):b < w.heap.size:=(Array.getElem?_eq_some_iff.1 h).1
theorem gF.lt {go:GO} {ro:RO} (h:gF R w go ro) {b:Nat} (hb:ro.has b):b < w.heap.size:=by
 cases ro with
 | none=>exact hb.elim
 | bz=>exact hb.elim
 | bU x=>
  have hb:b=x:=hb
  subst hb
  cases go with
  | dead=>exact h
  | row cs el=>obtain ⟨vs,h1,_⟩:=h; exact bg h1
  | tok f sz el=>exact h.elim
  | bf _ _ _=>exact h.elim
  | nB qb n left _=>obtain ⟨bm,seen,c0,_,h2,_⟩:=h; exact bg h2
  | dG es sz el=>exact h.elim
  | map es=>obtain ⟨az,clock,h1,_⟩:=h; exact bg h1
  | gB l pos=>exact bg h
  | loop=>obtain ⟨⟨r,db,h1,_⟩,_⟩:=h; exact bg h1
  | defers o=>exact bg h
 | tok f x c=>
  have hb:b=x:=hb
  subst hb
  cases go with
  | tok f' sz el=>obtain ⟨_,cur,h1,_⟩:=h; exact bg h1
  | dG es sz el=>obtain ⟨_,_,cur,vs,h1,_⟩:=h; exact bg h1
  | dead=>exact h
  | row cs=>exact h.elim
  | bf _ _ _=>exact h.elim
  | nB _ _ _ _=>exact h.elim
  | map es=>exact h.elim
  | gB l pos=>exact h.elim
  | loop=>exact h.elim
  | defers o=>exact h.elim
 | bf ts=>
  obtain ⟨j,f,c,ht⟩:=hb
  cases go with
  | bf fs sz el=>
   obtain ⟨h1,h2,h3⟩:=h
   have cg:=bF ht
   rw [h1] at cg
   obtain ⟨f',hf⟩:∃ f',nth fs j=some f':=⟨fs[j],by rw [a8]; exact List.getElem?_eq_getElem cg⟩
   obtain ⟨_,cur,k1,_⟩:=h3 j f' _ hf ht
   exact bg k1
  | dead=>exact h j f b c ht
  | _=>exact h.elim
theorem dq.bS {G:List GO} (h:dq E R w G) {b:Nat} (hl:Live R b):b < w.heap.size:=by
 obtain ⟨id,ro,h1,h2⟩:=hl
 have cg:=bF h1
 rw [h.len] at cg
 obtain ⟨go,iy⟩:∃ go,nth G id=some go:=⟨G[id],by rw [a8]; exact List.getElem?_eq_getElem cg⟩
 exact (h.obj id go ro iy h1).lt h2
theorem bi.ee (h:bi E R w β s a) {b:Nat} (ho:Own R β s.boxes b):b < w.heap.size:=by
 rcases ho with hl | ⟨k,cs,hk,rfl⟩
 ·exact h.g.bS hl
 ·obtain ⟨⟨vs,el,h1,_⟩,_⟩:=h.b.box k cs hk
  exact bg h1
theorem bV {w w':World} {b:Nat} (h:w'.heap[b]?=w.heap[b]?) (o:Nat):w'.cell? ⟨b,o,none⟩=w.cell? ⟨b,o,none⟩:=by simp [World.cell?,h]
theorem sN (wf:∀ b o,R.I b o→b < w.heap.size) (x:Obj):Ext R w R (w.alloc x):=
 ⟨fun _ _ h=>h,fun b o h=>bV (heap_alloc_old w x b (wf b o h)) o,fun _ ro h=>⟨ro,h,cw.refl ro⟩,.old fun b hb=>heap_alloc_old w x b hb⟩
theorem bi.alloc (h:bi E R w β s a) (x:Obj):bi E R (w.alloc x) β s a:=
 h.cq (sN h.g.wf x) rfl (fun b hb=>heap_alloc_old w x b (h.ee hb)) (fun _ _ _ hi=>hi) (fun b o hi=>by have:=h.g.wf b o hi; simp; omega)
end cq
end Go.Am
namespace Go.Am
open Go
theorem IJ {a b:AV} (h:IC a b=true):a=b:=by
 unfold IC at h
 split at h
 all_goals (first | (cases h; done) | skip)
 all_goals (try simp only [Bool.and_eq_true,beq_iff_eq,Nat.beq_eq] at h)
 all_goals (simp [*])
mutual
theorem jk:∀ {a b:AV},ej a b=true→a=b:=by
 intro a b h
 unfold ej at h
 split at h
 ·simp only [Bool.and_eq_true,Nat.beq_eq] at h; rw [h.1.1,fO h.1.2,fO h.2]
 ·rw [fO h]
 ·rw [fO h]
 ·rw [fO h]
 ·simp only [Bool.and_eq_true,Nat.beq_eq] at h; rw [h.1,fO h.2]
 ·simp only [Bool.and_eq_true,Nat.beq_eq] at h; rw [h.1,fO h.2]
 ·simp only [Bool.and_eq_true,Nat.beq_eq] at h; rw [h.1,fO h.2]
 ·simp only [Bool.and_eq_true,Nat.beq_eq] at h; rw [h.1.1,h.1.2,fO h.2]
 ·simp only [Bool.and_eq_true,Nat.beq_eq] at h; rw [h.1.1.1,h.1.1.2,h.1.2,fO h.2]
 ·exact IJ h
theorem fO:∀ {l r:List AV},lV l r=true→l=r:=by
 intro l r h
 unfold lV at h
 split at h
 ·rfl
 ·rw [Bool.and_eq_true] at h; rw [jk h.1,fO h.2]
 ·cases h
end
def Ar (a b:AV):Prop:=∀ (R:ai) (w:World) (c:Value),Rel R w a c→Rel R w b c
def cF:List AV→List AV→Prop
 | [],[]=>True
 | a :: l,b :: r=>Ar a b∧cF l r
 | _,_=>False
theorem Ar.refl (a:AV):Ar a a:=fun _ _ _ h=>h
theorem cF.refl:∀ l:List AV,cF l l
 | []=>trivial
 | a :: l=>⟨Ar.refl a,cF.refl l⟩
theorem cF.length:∀ {l r:List AV},cF l r→l.length=r.length
 | [],[],_=>rfl
 | _ :: _,_ :: _,h=>by simp [cF.length h.2]
 | [],_ :: _,h=>h.elim
 | _ :: _,[],h=>h.elim
theorem cF.rel {R:ai} {w:World}:∀ {l r:List AV} {cs:List Value},cF l r→aM R w l cs→aM R w r cs
 | [],[],_,_,h=>h
 | _ :: _,_ :: _,_,k,.cons h t=>.cons (k.1 _ _ _ h) (cF.rel k.2 t)
 | [],_ :: _,_,h,_=>h.elim
 | _ :: _,[],_,h,_=>h.elim
theorem cF.IK {R:ai} {w:World}:∀ {l r:List AV} {b o:Nat},cF l r→dP R w b o l→dP R w b o r
 | [],[],_,_,_,_=>.nil
 | _ :: _,_ :: _,_,_,k,.cons hc h1 hi h t=>.cons hc h1 hi (k.1 _ _ _ h) (cF.IK k.2 t)
 | [],_ :: _,_,_,h,_=>h.elim
 | _ :: _,[],_,_,h,_=>h.elim
theorem cF.append:∀ {a b c d:List AV},cF a b→cF c d→cF (a++c) (b++d)
 | [],[],_,_,_,h=>h
 | _ :: _,_ :: _,_,_,k,h=>⟨k.1,cF.append k.2 h⟩
 | [],_ :: _,_,_,h,_=>h.elim
 | _ :: _,[],_,_,h,_=>h.elim
structure iQ (v u:AV):Prop where
 gD:Ar v u
 bh:u.aV=v.aV
 cells:v.aV=true→cF v.cells u.cells
 closed:v.closed=true→u.closed=true
theorem uY {u v a:AV} (h:(aO.two u v).fits a=true):(aO.two u v).enc ((aO.two u v).bo a)=a:=by
 change (ej a u || ej a v)=true at h
 change (bif ej a v then v else u)=a
 cases hs:ej a v with
 | true=>exact (jk hs).symm
 | false=>
  rw [hs,Bool.or_false] at h
  exact (jk h).symm
theorem iQ.refl (v:AV):iQ v v:=⟨Ar.refl v,rfl,fun _=>cF.refl _,fun h=>h⟩
theorem DM {a b:IntKind} (h:RW a b=true):a=b:=of_decide_eq_true h
theorem q8 {α:Type} {f:AV→Bool} {d:AV→α} {g:α→AV} (Fw:∀ v,f v=true→iQ v (g (d v))) {R:ai} {w:World} :
  ∀ {es:List AV} {b o sz:Nat},allFit f es=true→gk R w b o sz es→gk R w b o sz ((es.map d).map g)
 | [],b,o,sz,_,_=>.nil
 | e :: es,b,o,sz,h,hr=>by
  simp only [allFit,Bool.and_eq_true] at h
  cases hr with
  | cons hl ht hk hc t=>
   have d':=Fw e h.1
   have wc:=d'.cells ht
   exact .cons (by rw [← wc.length,hl]) (by rw [d'.bh,ht]) (d'.closed hk) (wc.IK hc) (q8 Fw h.2 t)
theorem GW {R:ai} {w:World} {b o sz bE:Nat} {es:List AV} (h:es=[]∨sz=bE) (hr:gk R w b o bE es):gk R w b o sz es:=by
 rcases h with rfl | rfl
 ·exact .nil
 ·exact hr
theorem GX {α:Type} {f:AV→Bool} {d:AV→α} {g:α→AV} (Fw:∀ v,f v=true→iQ v (g (d v))) {k:LK} {sz bE:Nat} {es:List AV} (hs:es=[]∨sz=bE) (h:allFit f es=true) :
  Ar (.list k bE es) (.list .jP sz ((es.map d).map g)):=fun R w c hr=>by
 cases hr with
 | jE=>exact .iR
 | iR=>exact .iR
 | mL=>exact .mL
 | lZ _ _=>exact .iR
 | lE _ _=>exact .iR
 | list hr hlen hc hk=>exact .list (q8 Fw h (GW hs hr)) (by simp [hlen]) hc trivial
theorem IL {α:Type} {f:AV→Bool} {d:AV→α} {g:α→AV} (Fw:∀ v,f v=true→iQ v (g (d v))) {id sz:Nat} {es:List AV} (h:allFit f es=true) :
  Ar (.list (.own id) sz es) (.list (.own id) sz ((es.map d).map g)):=fun R w c hr=>by
 cases hr with
 | lZ h1 h2=>exact .lZ h1 h2
 | list hr hlen hc hk=>exact .list (q8 Fw h hr) (by simp [hlen]) hc hk
theorem IM {α:Type} {f:AV→Bool} {d:AV→α} {g:α→AV} (Fw:∀ v,f v=true→iQ v (g (d v))) {id j sz:Nat} {es:List AV} (h:allFit f es=true) :
  Ar (.list (.bf id j) sz es) (.list (.bf id j) sz ((es.map d).map g)):=fun R w c hr=>by
 cases hr with
 | lE h1 h2=>exact .lE h1 h2
 | list hr hlen hc hk=>exact .list (q8 Fw h hr) (by simp [hlen]) hc hk
mutual
theorem aO.cL:∀ (p:aO) {v:AV},p.fits v=true→iQ v (p.enc (p.bo v))
 | .int k,v,h=>by
  cases v with
  | int k' n=>
   have hk:RW k k'=true:=h
   rw [DM hk]
   exact iQ.refl _
  | _=>cases h
 | .bool,v,h=>by
  cases v with
  | bool b=>exact iQ.refl _
  | _=>cases h
 | .str,v,h=>by
  cases v with
  | str b=>exact iQ.refl _
  | _=>cases h
 | .agg ps,v,h=>by
  cases v with
  | agg cs=>
   obtain ⟨h1,h2⟩:=ps.cL (show ps.fits cs=true from h)
   exact ⟨fun R w c hr=>by cases hr with | agg hr sO=>exact .agg (h1.rel hr) sO,rfl,fun _=>h1,fun hc=>by
    have q9:ba cs=true:=by simpa [AV.closed] using hc
    show AV.closed (.agg (ps.enc (ps.bo cs)))=true
    simp only [AV.closed]; exact h2 q9⟩
  | _=>cases h
 | .bh ps,v,h=>by
  cases v with
  | bh cs=>
   obtain ⟨h1,h2⟩:=ps.cL (show ps.fits cs=true from h)
   exact ⟨fun R w c hr=>by cases hr with | bh hr=>exact .bh (h1.rel hr),rfl,fun hn=>by simp [AV.aV] at hn,fun hc=>by
    have q9:ba cs=true:=by simpa [AV.closed] using hc
    show AV.closed (.bh (ps.enc (ps.bo cs)))=true
    simp only [AV.closed]; exact h2 q9⟩
  | _=>cases h
 | .list sz p,v,h=>by
  cases v with
  | list k bE es=>
   have hb:((Nat.beq sz bE || es.isEmpty)&&allFit p.fits es)=true:=h
   simp only [Bool.and_eq_true,Bool.or_eq_true,Nat.beq_eq,List.isEmpty_iff] at hb
   have hw:=GX (k:=k) (fun v=>p.cL) hb.1.symm hb.2
   exact ⟨hw,rfl,fun _=>⟨hw,trivial⟩,fun _=>rfl⟩
  | _=>cases h
 | .own id sz p,v,h=>by
  cases v with
  | list k bE es=>
   cases k with
   | own jz=>
    have hb:((Nat.beq id jz&&Nat.beq sz bE)&&allFit p.fits es)=true:=h
    simp only [Bool.and_eq_true,Nat.beq_eq] at hb
    obtain ⟨⟨rfl,rfl⟩,hf⟩:=hb
    have hw:=IL (id:=id) (sz:=sz) (fun v=>p.cL) hf
    exact ⟨hw,rfl,fun _=>⟨hw,trivial⟩,fun hc=>by simp [AV.closed,LK.closed] at hc⟩
   | _=>cases h
  | _=>cases h
 | .bf id sz p,v,h=>by
  cases v with
  | list k bE es=>
   cases k with
   | bf jz j=>
    have hb:((Nat.beq id jz&&Nat.beq sz bE)&&allFit p.fits es)=true:=h
    simp only [Bool.and_eq_true,Nat.beq_eq] at hb
    obtain ⟨⟨rfl,rfl⟩,hf⟩:=hb
    have hw:=IM (id:=id) (j:=j) (sz:=sz) (fun v=>p.cL) hf
    exact ⟨hw,rfl,fun _=>⟨hw,trivial⟩,fun hc=>by simp [AV.closed,LK.closed] at hc⟩
   | _=>cases h
  | _=>cases h
 | .mF u,v,h=>by
  have:=jk (show ej v u=true from h)
  subst this
  exact iQ.refl _
 | .two u v,a,h=>by
  have hv:(aO.two u v).enc ((aO.two u v).bo a)=a:=uY h
  rw [hv]
  exact iQ.refl _
theorem aP.cL:∀ (ps:aP) {l:List AV},ps.fits l=true→cF l (ps.enc (ps.bo l))∧(ba l=true→ba (ps.enc (ps.bo l))=true)
 | .nil,l,h=>by
  cases l with
  | nil=>exact ⟨trivial,fun h=>h⟩
  | cons _ _=>cases h
 | .cons p .nil,l,h=>by
  match l,h with
  | [],h=>cases h
  | a :: l,h=>
   have h':(p.fits a&&l.isEmpty)=true:=h
   simp only [Bool.and_eq_true,List.isEmpty_iff] at h'
   obtain ⟨h1,rfl⟩:=h'
   have d:=p.cL h1
   exact ⟨⟨d.gD,trivial⟩,fun hc=>by
    simp only [ba,Bool.and_true] at hc
    show ba [p.enc (p.bo a)]=true
    simp only [ba,Bool.and_true]
    exact d.closed hc⟩
 | .cons p (.cons q ps),l,h=>by
  cases l with
  | nil=>cases h
  | cons a l=>
   have h':(p.fits a&&(aP.cons q ps).fits l)=true:=h
   rw [Bool.and_eq_true] at h'
   have d:=p.cL h'.1
   obtain ⟨k1,k2⟩:=(aP.cons q ps).cL h'.2
   exact ⟨⟨d.gD,k1⟩,fun hc=>by
    simp only [ba,Bool.and_eq_true] at hc
    show ba (p.enc (p.bo a) :: (aP.cons q ps).enc ((aP.cons q ps).bo l))=true
    simp only [ba,Bool.and_eq_true]
    exact ⟨d.closed hc.1,k2 hc.2⟩⟩
end
theorem aO.qc (p:aO) {v:AV} {x:p.T} (h:p.dec v=some x):iQ v (p.enc x):=by
 unfold aO.dec at h
 cases hf:p.fits v with
 | true=>rw [hf] at h; cases h; exact p.cL hf
 | false=>rw [hf] at h; cases h
theorem aP.qc (ps:aP) {l:List AV} {x:ps.T} (h:ps.dec l=some x):cF l (ps.enc x)∧(ba l=true→ba (ps.enc x)=true):=by
 unfold aP.dec at h
 cases hf:ps.fits l with
 | true=>rw [hf] at h; cases h; exact ps.cL hf
 | false=>rw [hf] at h; cases h
mutual
def aO.plain:aO→Bool
 | .agg ps=>ps.plain
 | .bh ps=>ps.plain
 | .list _ p=>p.plain
 | .own _ _ p=>p.plain
 | .bf _ _ p=>p.plain
 | .mF v=>ej v v
 | .two u v=>ej u u&&ej v v&&!ej u v
 | _=>true
def aP.plain:aP→Bool
 | .nil=>true
 | .cons p ps=>p.plain&&ps.plain
end
theorem mO {α:Type} {f:AV→Bool} {g:α→AV} (h:∀ x,f (g x)=true):∀ xs:List α,allFit f (xs.map g)=true
 | []=>rfl
 | x :: xs=>by simp only [List.map_cons,allFit,h x,mO h xs,Bool.and_self]
theorem uZ {α:Type} {d:AV→α} {g:α→AV} (h:∀ x,d (g x)=x):∀ xs:List α,(xs.map g).map d=xs
 | []=>rfl
 | x :: xs=>by simp only [List.map_cons,h x,uZ h xs]
mutual
theorem aO.bC:∀ (p:aO) (x:p.T),p.plain=true→p.fits (p.enc x)=true∧p.bo (p.enc x)=x
 | .int k,x,_=>⟨decide_eq_true rfl,rfl⟩
 | .bool,x,_=>⟨rfl,rfl⟩
 | .str,x,_=>⟨rfl,rfl⟩
 | .agg ps,x,h=>ps.bC x h
 | .bh ps,x,h=>ps.bC x h
 | .list sz p,x,h=>by
  refine ⟨?_,uZ (fun y=>(p.bC y h).2) x⟩
  change ((Nat.beq sz sz || (List.map p.enc x).isEmpty)&&allFit p.fits (List.map p.enc x))=true
  rw [Nat.beq_refl,Bool.true_or,Bool.true_and]
  exact mO (fun y=>(p.bC y h).1) x
 | .own id sz p,x,h=>by
  refine ⟨?_,uZ (fun y=>(p.bC y h).2) x⟩
  change ((Nat.beq id id&&Nat.beq sz sz)&&allFit p.fits (List.map p.enc x))=true
  rw [Nat.beq_refl,Nat.beq_refl,Bool.true_and,Bool.true_and]
  exact mO (fun y=>(p.bC y h).1) x
 | .bf id sz p,(x:Nat × List p.T),h=>by
  refine ⟨?_,?_⟩
  ·change ((Nat.beq id id&&Nat.beq sz sz)&&allFit p.fits (List.map p.enc x.2))=true
   rw [Nat.beq_refl,Nat.beq_refl,Bool.true_and,Bool.true_and]
   exact mO (fun y=>(p.bC y h).1) x.2
  ·change (x.1,(List.map p.enc x.2).map p.bo)=x
   rw [uZ (fun y=>(p.bC y h).2) x.2]
 | .mF v,x,h=>⟨h,rfl⟩
 | .two u v,(x:Bool),h=>by
  change (ej u u&&ej v v&&!ej u v)=true at h
  simp only [Bool.and_eq_true,Bool.not_eq_true'] at h
  obtain ⟨⟨h1,h2⟩,h3⟩:=h
  cases x
  ·exact ⟨by change (ej u u || ej u v)=true; rw [h1]; rfl,h3⟩
  ·exact ⟨by change (ej v u || ej v v)=true; rw [h2,Bool.or_true],h2⟩
theorem aP.bC:∀ (ps:aP) (x:ps.T),ps.plain=true→ps.fits (ps.enc x)=true∧ps.bo (ps.enc x)=x
 | .nil,x,_=>⟨rfl,rfl⟩
 | .cons p .nil,x,h=>by
  have h':(p.plain&&true)=true:=h
  rw [Bool.and_true] at h'
  have:=p.bC x h'
  exact ⟨by change (p.fits (p.enc x)&&true)=true; rw [this.1]; rfl,this.2⟩
 | .cons p (.cons q ps),x,h=>by
  have h':(p.plain&&(aP.cons q ps).plain)=true:=h
  rw [Bool.and_eq_true] at h'
  have h1:=p.bC x.1 h'.1
  have h2:=(aP.cons q ps).bC x.2 h'.2
  refine ⟨?_,?_⟩
  ·change (p.fits (p.enc x.1)&&(aP.cons q ps).fits ((aP.cons q ps).enc x.2))=true
   rw [h1.1,h2.1]
   rfl
  ·change (p.bo (p.enc x.1),(aP.cons q ps).bo ((aP.cons q ps).enc x.2))=x
   rw [h1.2,h2.2]
   rfl
end
end Go.Am
namespace Go.Am
open Go
theorem b7 (E:Env) {t:TypeId} {i:TI} (h:E.ti t=some i) :
  ∃ gG u,E.P.info? t=some gG∧E.P.underlying t=some u∧gG.size=i.size∧jA u=i.agg∧pz E.P u=some i.k∧gd gG=i.zero:=by
 have h1:=E.GK t i h
 unfold GJ at h1
 split at h1
 ·rename_i gG u h2 h3
  split at h1
  ·rename_i k hk
   cases h1
   exact ⟨gG,u,h2,h3,rfl,rfl,hk,rfl⟩
  ·cases h1
 ·cases h1
section runs
variable {P:Program} (w:World)
theorem zi {t:TypeId} {u:TypeDesc} (h:P.underlying t=some u):(isAgg t).run P w=.ok (jA u) w:=by
 unfold isAgg
 simp only [Sem.run_bind,run_underlying h,Result.andThen_ok]
 cases u <;> rfl
theorem run_sizeOf {t:TypeId} {i:TypeInfo} (h:P.info? t=some i):(sizeOf t).run P w=.ok i.size w:=by
 simp [sizeOf,typeInfo,h]
theorem gH {t:TypeId} {i:TypeInfo} {z:Value} (h:P.info? t=some i) (hz:i.zero=some z):(zeroValue t).run P w=.ok z w:=by
 simp [zeroValue,typeInfo,h,hz]
theorem vD (t:TypeId) (v:Value):(newVar t v).run P w=.ok ⟨w.heap.size,0,none⟩ (w.alloc (.cells v.cells t)):=by
 simp only [newVar,newRow,Sem.run_bind,run_newObj,Result.andThen_ok,Sem.run_pure]
 rfl
end runs
theorem vE {R:ai} {w:World} {ag:Bool} {l:List AV} {v:AV} {vs:List Value} (hm:sF ag l=some v) (h:aM R w l vs) (h1:∀ x∈vs,x.oneCell'=true) :
  (ag=true→Rel R w v (.agg ⟨vs⟩))∧(ag=false→∃ c,vs=[c]∧Rel R w v c):=by
 unfold sF at hm
 cases ag with
 | true=>
  simp at hm
  subst hm
  exact ⟨fun _=>.agg h h1,fun e=>by cases e⟩
 | false=>
  refine ⟨(fun e=>by cases e),fun _=>?_⟩
  simp only [Bool.false_eq_true,if_false] at hm
  split at hm
  ·cases hm
   cases h with
   | cons h t=>
    cases t
    exact ⟨_,rfl,h⟩
  ·cases hm
theorem nR {E:Env} {R:ai} {w:World} {t:TypeId} {i:TI} (hi:E.ti t=some i) {b off:Nat} {l:List AV} {vs:List Value} {v:AV}
  (hl:l.length=i.size) (hr:aM R w l vs) (h1:∀ x∈vs,x.oneCell'=true) (hc:∀ j x,vs[j]?=some x→w.cell? ⟨b,off+j,none⟩=some x) (hm:sF i.agg l=some v) :
  ∃ c,(loadVar t ⟨b,off,none⟩).run E.P w=.ok c w∧Rel R w v c:=by
 obtain ⟨gG,u,e1,e2,e3,e4,_⟩:=b7 E hi
 obtain ⟨m1,m2⟩:=vE hm hr h1
 unfold loadVar
 simp only [Sem.run_bind,zi w e2,Result.andThen_ok,e4]
 cases ha:i.agg with
 | true=>
  refine ⟨.agg ⟨vs⟩,?_,m1 ha⟩
  have hlen:gG.size=vs.length:=by rw [e3,← hl,hr.length]
  have:=run_loadCells_list (P:=E.P) w ⟨b,off,none⟩ vs (fun j x hx=>by rw [cA]; exact hc j x hx)
  simp [run_sizeOf w e1,hlen,this]
 | false=>
  obtain ⟨c,rfl,eh⟩:=m2 ha
  refine ⟨c,?_,eh⟩
  have:=hc 0 c (by simp)
  simp only [Nat.add_zero] at this
  simp [run_load,this]
theorem jl {w:World} {b:Nat} {vs:List Value} {el:TypeId} {fr:Nat × Nat} (h:w.heap[b]?=some (.cells ⟨vs⟩ el fr)) (j:Nat):w.cell? ⟨b,j,none⟩=vs[j]?:=by
 simp [World.cell?,h]
theorem tL {E:Env} {R:ai} {w:World} {β:Nat→Nat} {s:St} {a:Act} (h:bi E R w β s a) {p:SV} {c:Value} (hp:pC R w β p c) {cs:List AV} {off:Nat} (hc:mG s p=some (cs,off)) :
  ∃ b o vs,c=.pointer (some ⟨b,o+off,none⟩)∧aM R w cs vs∧(∀ x∈vs,x.oneCell'=true)∧∀ j x,vs[j]?=some x→w.cell? ⟨b,o+j,none⟩=some x:=by
 unfold mG at hc
 split at hc
 ·rename_i k fN
  split at hc
  ·rename_i cs' hk
   cases hc
   obtain ⟨⟨vs,el,h1,h2,h3⟩,_⟩:=h.b.box k cs hk
   exact ⟨β k,0,vs,by rw [hp]; simp,h2,h3,fun j x hx=>by rw [jl h1]; simpa using hx⟩
  ·cases hc
 ·rename_i id fN
  split at hc
  ·rename_i cs' hk
   cases hc
   cases hp with
   | @ptr _ _ b hb=>
    obtain ⟨vs,h1,h2,h3,_⟩:=h.g.obj id _ _ hk hb
    exact ⟨b,0,vs,by simp,h2,h3,fun j x hx=>by rw [jl h1]; simpa using hx⟩
  ·cases hc
 ·rename_i cs'
  cases hc
  cases hp with
  | ep hr=>
   obtain ⟨vs,h1,h2,h3,_⟩:=hr.get
   exact ⟨_,_,vs,rfl,h1,h2,h3⟩
 ·cases hc
theorem oU {R:ai} {w:World} {off n:Nat} {cs l:List AV} {vs:List Value} (hs:Fs off n cs=some l) (h:aM R w cs vs) (h1:∀ x∈vs,x.oneCell'=true) :
  l.length=n∧aM R w l ((vs.drop off).take n)∧(∀ x∈(vs.drop off).take n,x.oneCell'=true)∧∀ j x,((vs.drop off).take n)[j]?=some x→vs[off+j]?=some x:=by
 obtain ⟨e1,e2⟩:=R5 hs
 subst e1
 refine ⟨e2,(h.drop off).take n,fun x hx=>h1 x (List.mem_of_mem_drop (List.mem_of_mem_take hx)),fun j x hx=>?_⟩
 rw [List.getElem?_take] at hx
 split at hx
 ·rwa [List.getElem?_drop] at hx
 ·cases hx
def bQ (E:Env) (R:ai) (w:World) (β:Nat→Nat) (s:St) (a:Act) (o:Oper) (s':St):Prop:=
 ∃ nx x w' R' β',(execOp a.eval o).run E.P w=.ok nx w'∧(nx=.value x∨(nx=.skip∧x=undef))∧bi E R' w' β' s' (a.put o.dst x)∧Step R w β s.boxes R' w' β' s'.boxes
section ops
variable {E:Env} {R:ai} {w:World} {β:Nat→Nat} {s:St} {a:Act} {o:Oper}
@[simp] theorem a7 (s:St) (d:Option Tmp) (x:SV):(s.put d x).boxes=s.boxes:=by
 cases d with
 | none=>rfl
 | some d=>simp only [St.put]; split <;> rfl
theorem ar (h:bi E R w β s a) {c:Value} {sv:SV} (hx:(execOp a.eval o).run E.P w=.ok (.value c) w) (hr:pC R w β sv c):bQ E R w β s a o (s.put o.dst sv):=
 ⟨.value c,c,w,R,β,hx,.inl rfl,h.put o.dst hr,by rw [a7]; exact Step.refl R w β s.boxes⟩
theorem DN {t:Bool} {x y:AV} {c d:Value} (hx:Rel R w x c) (hy:Rel R w y d):Rel R w (Al t x y) (if t=true then c else d):=by
 unfold Al
 split
 ·cases hx; cases hy; cases t <;> exact .bool _
 ·cases hx; cases hy
  split
  ·rename_i e; subst e; cases t <;> exact .int _ _
  ·cases t <;> exact .int _ _
 ·cases t
  ·exact hy
  ·exact hx
theorem ka (h:bi E R w β s a) (x:Operand) (ho:o.op=.move x∨o.op=.assign x) {y:SV} (hy:bw E s.af x=y):bQ E R w β s a o (s.put o.dst y):=by
 subst hy
 refine ar h (c:=a.eval x) ?_ (aT h x)
 rcases ho with ho | ho <;> simp [execOp,ho]
theorem GY (h:bi E R w β s a) (c x y:Operand) (ho:o.op=.pick c x y) {t:Bool} {p q:AV} (h1:bw E s.af c=.v (.bool t)) (h2:bw E s.af x=.v p) (h3:bw E s.af y=.v q) :
  bQ E R w β s a o (s.put o.dst (.v (Al t p q))):=by
 have r1:=aT h c
 have r2:=aT h x
 have r3:=aT h y
 rw [h1] at r1; rw [h2] at r2; rw [h3] at r3
 refine ar h (c:=if t=true then a.eval x else a.eval y) ?_ (DN r2 r3)
 have r1':Rel R w (.bool t) (a.eval c):=r1
 generalize DA:a.eval c=cc at r1'
 cases r1'
 simp [execOp,ho,asBool,DA]
theorem GZ (h:bi E R w β s a) (t:TypeId) (x:Operand) (ho:o.op=.load t x) {v:AV} (hl:qT E s t (bw E s.af x)=some v) :
  bQ E R w β s a o (s.put o.dst (.v v)):=by
 unfold qT at hl
 split at hl
 ·rename_i i cs off hi hc
  split at hl
  ·rename_i l hs
   obtain ⟨b,o',vs,e,h1,h2,h3⟩:=tL h (aT h x) hc
   obtain ⟨k1,k2,k3,k4⟩:=oU hs h1 h2
   obtain ⟨c,hc,eh⟩:=nR (E:=E) hi (b:=b) (off:=o'+off) k1 k2 k3 (fun j y hy=>by rw [Nat.add_assoc]; exact h3 _ _ (k4 j y hy)) hl
   refine ar h (c:=c) ?_ eh
   simp [execOp,ho,Instr.loadAt,e,Instr.sureAddr,hc]
  ·cases hl
 ·cases hl
theorem iT {b:Nat} (hI:∀ o,¬ R.I b o) (cs:Array Value):Ext R w R (w.setRow b cs):=
 ⟨fun _ _ h=>h,fun b' o h=>bV (setRow_other w b b' cs (fun e=>hI o (e ▸ h))) o,fun _ ro h=>⟨ro,h,cw.refl ro⟩,fun b' r hb=>⟨r,by
  by_cases e:b'=b
  ·subst e
   have cg:b' < w.heap.size:=bg hb
   have hv:w.heap[b']=.loop r:=(Array.getElem?_eq_some_iff.1 hb).2
   unfold World.setRow
   rw [Array.getElem?_eq_getElem (by simpa using cg),Array.getElem_modify]
   simp [hv]
  ·exact (setRow_other w b b' cs e).trans hb,rfl,rfl,rfl,rfl,rfl⟩⟩
theorem aM.bZ {cs ys:List AV} {vs us:List Value} {off:Nat} (h:aM R w cs vs) (k:aM R w ys us) (hl:off+ys.length≤cs.length) :
  aM R w (bZ cs off ys) (vs.take off++us++vs.drop (off+us.length)):=by
 rw [eU cs off ys hl,← k.length]
 exact ((h.take off).append k).append (h.drop _)
theorem iU {vs us:List Value} {off n:Nat} (h:∀ x∈vs,x.oneCell'=true) (k:∀ x∈us,x.oneCell'=true):∀ x∈vs.take off++us++vs.drop n,x.oneCell'=true:=by
 intro x hx
 simp only [List.mem_append] at hx
 rcases hx with (hx | hx) | hx
 ·exact h x (List.mem_of_mem_take hx)
 ·exact k x hx
 ·exact h x (List.mem_of_mem_drop hx)
theorem jU {t:TypeId} {i:TI} (hi:E.ti t=some i) {b off:Nat} {vs:List Value} {el:TypeId} {c:Value} (hb:w.heap[b]?=some (.cells ⟨vs⟩ el (0,0)))
  (hs:c.cells.toList.length=i.size) (hl:off+c.cells.toList.length≤vs.length) (h1:∀ v∈c.cells.toList,v.oneCell'=true) :
  (storeVar t ⟨b,off,none⟩ c).run E.P w=.ok () (w.setRow b ⟨vs.take off++c.cells.toList++vs.drop (off+c.cells.toList.length)⟩):=by
 obtain ⟨gG,u,e1,e2,e3,_⟩:=b7 E hi
 have lf:=run_storeCells_at (P:=E.P) b off el c.cells.toList 0 ⟨vs⟩ w hb (by simpa using hl) h1
 have cm:c.cells.size=gG.size:=by rw [e3,← hs]; simp
 simp only [Nat.add_zero] at lf
 unfold storeVar
 simp only [Sem.run_bind,run_sizeOf w e1,Result.andThen_ok,Sem.run_ite,cm,ne_eq,not_true_eq_false,if_false]
 simpa using lf
theorem bi.DO (h:bi E R w β s a) {id b k:Nat} {cs:List AV} (hb:nth R.obj id=some (.bU b)) (hk:dm s.boxes k=some cs):β k≠b:=by
 intro e
 exact (h.b.box k cs hk).2.2 ⟨id,_,hb,by rw [e]; rfl⟩
theorem DP (h:bi E R w β s a) (t:TypeId) (p x:Operand) (ho:o.op=.store t p x) (hd:o.dst=none) {s':St} (hs:jB E s t (bw E s.af p) (bw E s.af x)=some s') :
  bQ E R w β s a o s':=by
 unfold jB at hs
 have rp:=aT h p
 have rx:=aT h x
 split at hs
 ·rename_i i v hi hx
  rw [hx] at rx
  split at hs
  ·rename_i fF
   simp only [Bool.and_eq_true] at fF
   obtain ⟨MD,hlen⟩:=fF
   have hlen:=Nat.eq_of_beq_eq_true hlen
   obtain ⟨c1,c2⟩:=Rel.cells rx MD
   have BD:v.cells.length=(a.eval x).cells.toList.length:=c1.length
   split at hs
   ·-- a local box
    rename_i k off VY
    rw [VY] at rp
    split at hs
    ·rename_i cs hk
     split at hs
     ·rename_i hle
      cases hs
      have hle:=Nat.le_of_ble_eq_true hle
      obtain ⟨⟨vs,el,b1,b2,b3⟩,b4,b5⟩:=h.b.box k cs hk
      have bt:=jU (E:=E) (w:=w) hi (off:=off) (c:=a.eval x) b1 (by rw [← BD]; exact hlen) (by rw [← BD,← b2.length]; exact hle) c2
      have hex:=iT (R:=R) (w:=w) b4 ⟨vs.take off++(a.eval x).cells.toList++vs.drop (off+(a.eval x).cells.toList.length)⟩
      refine ⟨.skip,undef,w.setRow (β k) ⟨vs.take off++(a.eval x).cells.toList++vs.drop (off+(a.eval x).cells.toList.length)⟩,R,β,?_,.inr ⟨rfl,rfl⟩,?_,?_⟩
      ·simp [execOp,ho,Instr.storeAt,show a.eval p=.pointer (some ⟨β k,off,none⟩) from rp,Instr.sureAddr,bt]
      ·rw [hd]
       refine ⟨?_,?_,h.t.mono hex,h.n,h.d⟩
       ·exact h.g.cq hex rfl (fun b hb=>setRow_other w _ b _ (fun e=>b5 (e ▸ hb))) (fun _ _ _ hi=>hi) (fun b o hi=>by have:=h.g.wf b o hi; simp; omega)
       ·refine ⟨fun k' cs' iK=>?_,fun k1 k2 x1 x2 g1 g2=>?_⟩
        ·rcases eT iK with ⟨rfl,e⟩ | ⟨cm,VZ⟩
         ·cases e
          exact ⟨⟨_,el,setRow_heap w _ _ _ el (0,0) b1,(b2.bZ c1 hle).mono hex,iU b3 c2⟩,b4,b5⟩
         ·obtain ⟨⟨vs',Yy,d1,d2,d3⟩,d4,d5⟩:=h.b.box k' cs' VZ
          refine ⟨⟨vs',Yy,?_,d2.mono hex,d3⟩,d4,d5⟩
          rw [setRow_other]
          ·exact d1
          ·exact fun e=>cm (h.b.inj k' k cs' cs VZ hk e).symm
        ·have q1:∃ y,dm s.boxes k1=some y:=by
          rcases eT g1 with ⟨rfl,_⟩ | ⟨_,g⟩
          ·exact ⟨_,hk⟩
          ·exact ⟨_,g⟩
         have q2:∃ y,dm s.boxes k2=some y:=by
          rcases eT g2 with ⟨rfl,_⟩ | ⟨_,g⟩
          ·exact ⟨_,hk⟩
          ·exact ⟨_,g⟩
         obtain ⟨y1,q1⟩:=q1
         obtain ⟨y2,q2⟩:=q2
         exact h.b.inj k1 k2 y1 y2 q1 q2
      ·have As:Own R β s.boxes (β k):=.inr ⟨k,cs,hk,rfl⟩
       refine ⟨hex,rfl,rfl,rfl,by simp,fun b _ hn=>setRow_other w _ b _ (fun e=>hn (e ▸ As)),fun b _ hb=>?_,fun b o hi _ _=>hi⟩
       rcases hb with hb | ⟨k',cs',iK,e⟩
       ·exact .inl hb
       ·rcases eT iK with ⟨rfl,_⟩ | ⟨_,g⟩
        ·exact .inr ⟨k,cs,hk,e⟩
        ·exact .inr ⟨k',cs',g,e⟩
     ·cases hs
    ·cases hs
   ·-- an object
    rename_i id off VY
    rw [VY] at rp
    split at hs
    ·rename_i cs hk
     split at hs
     ·rename_i hle
      cases hs
      have hle:=Nat.le_of_ble_eq_true hle
      have V0:Rel R w (.ptr id off) (a.eval p):=rp
      generalize V1:a.eval p=pv at V0
      cases V0 with
      | @ptr _ _ b hb=>
      obtain ⟨vs,b1,b2,b3,b4⟩:=h.g.obj id _ _ hk hb
      have bt:=jU (E:=E) (w:=w) hi (off:=off) (c:=a.eval x) b1 (by rw [← BD]; exact hlen) (by rw [← BD,← b2.length]; exact hle) c2
      have hex:=iT (R:=R) (w:=w) b4 ⟨vs.take off++(a.eval x).cells.toList++vs.drop (off+(a.eval x).cells.toList.length)⟩
      refine ⟨.skip,undef,w.setRow b ⟨vs.take off++(a.eval x).cells.toList++vs.drop (off+(a.eval x).cells.toList.length)⟩,R,β,?_,.inr ⟨rfl,rfl⟩,?_,?_⟩
      ·simp [execOp,ho,Instr.storeAt,V1,Instr.sureAddr,bt]
      ·rw [hd]
       refine ⟨⟨?_,fun jz go ro hg hr=>?_,h.g.inj,fun b' o' qM=>by have:=h.g.wf b' o' qM; simp; omega,fun g cs' hg=>(h.g.b6 g cs' hg).mono hex,by first | exact h.g.lo | exact Nat.le_succ_of_le h.g.lo⟩,?_,h.t.mono hex,h.n,h.d⟩
       ·simp [St.bW,h.g.len]
       ·rcases da hg with ⟨rfl,rfl,_⟩ | ⟨cm,qd⟩
        ·rw [hb] at hr
         cases hr
         exact ⟨_,setRow_heap w _ _ _ _ (0,0) b1,(b2.bZ c1 hle).mono hex,iU b3 c2,b4⟩
        ·refine (h.g.obj jz go ro qd hr).mono hex (fun b' iS=>setRow_other w _ b' _ (fun e=>cm ?_)) (fun _ _ _ hi=>hi)
         subst e
         exact h.g.inj id jz _ _ b' hb hr rfl iS
       ·exact h.b.cq hex (fun k cs' iK=>setRow_other w _ _ _ (h.DO hb iK)) (fun _ _ _ _ hi=>hi) (fun _ _ _ hl=>hl)
      ·have As:Own R β s.boxes b:=.inl ⟨id,_,hb,rfl⟩
       exact ⟨hex,rfl,rfl,rfl,by simp,fun b' _ hn=>setRow_other w _ b' _ (fun e=>hn (e ▸ As)),fun _ _ hb=>hb,fun b o hi _ _=>hi⟩
     ·cases hs
    ·cases hs
   ·cases hs
  ·cases hs
 ·cases hs
end ops
end Go.Am
namespace Go.Am
open Go
section ops
variable {E:Env} {R:ai} {w:World} {β:Nat→Nat} {s:St} {a:Act} {o:Oper}
def ai.add (R:ai) (ro:RO):ai:=⟨R.I,R.obj++[ro]⟩
theorem gQ (wf:∀ b o,R.I b o→b < w.heap.size) (x:Obj) (ro:RO):Ext R w (R.add ro) (w.alloc x):=
 ⟨fun _ _ h=>h,fun b o h=>bV (heap_alloc_old w x b (wf b o h)) o,fun _ r h=>⟨r,dc h,cw.refl r⟩,.old fun b hb=>heap_alloc_old w x b hb⟩
theorem ma {ro:RO} {b:Nat} (h:Live (R.add ro) b):Live R b∨ro.has b:=by
 obtain ⟨id,r,h1,h2⟩:=h
 rcases aw h1 with h1 | ⟨_,rfl⟩
 ·exact .inl ⟨id,r,h1,h2⟩
 ·exact .inr h2
theorem bi.lG (h:bi E R w β s a) (x:Obj) (go:GO) (ro:RO) (bH:∀ b,ro.has b→b=w.heap.size) (iy:gF (R.add ro) (w.alloc x) go ro):bi E (R.add ro) (w.alloc x) β (s.dO go) a where
 g:=by
  have e:=gQ (R:=R) (w:=w) h.g.wf x ro
  refine ⟨by simp [St.dO,ai.add,h.g.len],fun id g r h1 h2=>?_,fun i j ri rj b h1 h2 b1 b2=>?_,fun b o hi=>?_,fun g cs hg=>(h.g.b6 g cs hg).mono e,by first | exact h.g.lo | exact Nat.le_succ_of_le h.g.lo⟩
  ·rcases aw h2 with h2 | ⟨h3,rfl⟩
   ·have cg:=bF h2
    rw [h.g.len] at cg
    rcases aw h1 with h1 | ⟨h4,_⟩
    ·exact (h.g.obj id g r h1 h2).mono e (fun b hb=>heap_alloc_old w x b (h.g.bS ⟨id,r,h2,hb⟩)) (fun _ _ _ hi=>hi)
    ·omega
   ·rcases aw h1 with h1 | ⟨h4,rfl⟩
    ·have:=bF h1
     rw [h3,h.g.len] at this
     omega
    ·exact iy
  ·rcases aw h1 with g1 | ⟨h3,e1⟩
   ·rcases aw h2 with g2 | ⟨h4,e2⟩
    ·exact h.g.inj i j ri rj b g1 g2 b1 b2
    ·have:=h.g.bS ⟨i,ri,g1,b1⟩
     rw [e2] at b2
     have:=bH b b2
     omega
   ·rcases aw h2 with g2 | ⟨h4,e2⟩
    ·have:=h.g.bS ⟨j,rj,g2,b2⟩
     rw [e1] at b1
     have:=bH b b1
     omega
    ·omega
  ·have:=h.g.wf b o hi
   simp
   omega
 b:=h.b.cq (gQ h.g.wf x ro) (fun k cs hk=>heap_alloc_old w x _ (h.ee (.inr ⟨k,cs,hk,rfl⟩))) (fun _ _ _ _ hi=>hi) (fun k cs hk hl=>by
  rcases ma hl with hl | hl
  ·exact hl
  ·have:=h.ee (.inr ⟨k,cs,hk,rfl⟩)
   have hl:=bH _ hl
   omega)
 t:=h.t.mono (gQ h.g.wf x ro)
 n:=h.n
 d:=h.d.mono (gQ h.g.wf x ro)
theorem cN (h:bi E R w β s a) (x:Obj) (ro:RO) (bH:∀ b,ro.has b→b=w.heap.size):Step R w β s.boxes (R.add ro) (w.alloc x) β s.boxes:=
 ⟨gQ h.g.wf x ro,rfl,rfl,rfl,by simp,fun b hb _=>heap_alloc_old w x b hb,fun b hb ho=>by
  rcases ho with ho | ho
  ·rcases ma ho with ho | ho
   ·exact .inl ho
   ·have ho:=bH _ ho
    omega
  ·exact .inr ho,fun _ _ hi _ _=>hi⟩
theorem gn (h:bi E R w β s a) (ro:RO):nth (R.add ro).obj s.G.length=some ro:=by
 rw [← h.g.len]
 exact eR _ _
theorem BQ {f:FuncId} (h:bi E R w β s a) {v:AV} {c:Value} {t:TypeId} (hv:Rel R w v c) (hn:v.aV=true)
  (hx:(execOp a.eval o).run E.P w=.ok (.value (.pointer (some ⟨w.heap.size,0,none⟩))) (w.alloc (.cells c.cells t))) {s':St} (ha:fc E f s o.dst t v.cells=some (true,s')) :
  bQ E R w β s a o s':=by
 obtain ⟨c1,c2⟩:=Rel.cells hv hn
 unfold fc at ha
 split at ha
 ·cases ha
 ·rename_i d hd
  split at ha
  ·-- an object
   cases ha
   have iy:gF (R.add (.bU w.heap.size)) (w.alloc (.cells c.cells t)) (.row v.cells t) (.bU w.heap.size):=
    ⟨c.cells.toList,heap_alloc_new w _,c1.mono (gQ h.g.wf _ _),c2,fun o' hi=>by have:=h.g.wf _ _ hi; omega⟩
   have cH:=h.lG (.cells c.cells t) (.row v.cells t) (.bU w.heap.size) (by exact fun _ h=>h) iy
   refine ⟨_,.pointer (some ⟨w.heap.size,0,none⟩),_,R.add (.bU w.heap.size),β,hx,.inl rfl,?_,?_⟩
   ·rw [hd]
    exact cH.put (some d) (x:=.v (.ptr s.G.length 0)) (Rel.ptr (gn h _))
   ·rw [a7]
    exact cN h _ _ (by exact fun _ h=>h)
  ·split at ha
   ·rename_i Yz
    injection ha with ha
    injection ha with _ R6
    subst R6
    have e:=sN (R:=R) (w:=w) h.g.wf (.cells c.cells t)
    let β':Nat→Nat:=fun k=>if k=d then w.heap.size else β k
    have Fx:β' d=w.heap.size:=by simp [β']
    have cm:∀ k,k≠d→β' k=β k:=fun k hk=>by simp [β',hk]
    have hdn:d < a.tmps.size:=by rw [h.n]; exact Nat.le_of_ble_eq_true Yz
    have DQ:((s.kill d).uz d v.cells).put (some d) (.lp d 0)=⟨.put d (.lp d 0) :: .kill d :: s.af,(d,v.cells) :: s.boxes,s.G,s.marks,s.ro,s.n⟩:=by
     simp only [St.put,St.uz,St.kill,Yz]
    refine ⟨_,.pointer (some ⟨w.heap.size,0,none⟩),_,R,β',hx,.inl rfl,?_,?_⟩
    ·rw [hd,DQ]
     refine ⟨?_,⟨fun k cs hk=>?_,fun k k' cs cs' hk iK he=>?_⟩,?_,by simp [Act.put,h.n],h.d⟩
     ·exact h.g.cq e rfl (fun b hb=>heap_alloc_old w _ b (h.g.bS hb)) (fun _ _ _ hi=>hi) (fun b o hi=>by have:=h.g.wf b o hi; simp; omega)
     ·rcases eT hk with ⟨rfl,he⟩ | ⟨ME,hk⟩
      ·cases he
       rw [Fx]
       exact ⟨⟨c.cells.toList,t,heap_alloc_new w _,c1.mono e,c2⟩,fun o' hi=>by have:=h.g.wf _ _ hi; omega,fun hl=>by have:=h.g.bS hl; omega⟩
      ·rw [cm k (Ne.symm ME)]
       obtain ⟨⟨vs,el,b1,b2,b3⟩,b4,b5⟩:=h.b.box k cs hk
       exact ⟨⟨vs,el,(heap_alloc_old w _ _ (bg b1)).trans b1,b2.mono e,b3⟩,b4,b5⟩
     ·rcases eT hk with ⟨rfl,_⟩ | ⟨ME,hk⟩
      ·rcases eT iK with ⟨rfl,_⟩ | ⟨R7,iK⟩
       ·rfl
       ·rw [Fx,cm k' (Ne.symm R7)] at he
        have:=h.ee (.inr ⟨k',cs',iK,rfl⟩)
        omega
      ·rcases eT iK with ⟨rfl,_⟩ | ⟨R7,iK⟩
       ·rw [Fx,cm k (Ne.symm ME)] at he
        have:=h.ee (.inr ⟨k,cs,hk,rfl⟩)
        omega
       ·rw [cm k (Ne.symm ME),cm k' (Ne.symm R7)] at he
        exact h.b.inj k k' cs cs' hk iK he
     ·intro i hi
      by_cases ZB:d=i
      ·subst ZB
       rw [aA]
       refine ⟨.pointer (some ⟨w.heap.size,0,none⟩),by simp [Act.put,hdn],?_⟩
       show Value.pointer _=_
       rw [Fx]
      ·rw [aR ZB] at hi ⊢
       rcases Fv (l:=s.af) (d:=d) (t:=i) with ⟨h1,h2⟩ | h1
       ·rw [h1] at hi ⊢
        obtain ⟨c',q1,q2⟩:=h.t i hi
        refine ⟨c',?_,?_⟩
        ·simp only [Act.put]
         rw [Array.getElem?_setIfInBounds_ne ZB]
         exact q1
        ·cases pE:lk s.af i with
         | none=>trivial
         | v y=>rw [pE] at q2; exact Rel.mono e q2
         | lp k off=>
          rw [pE] at q2
          show c'=_
          rw [cm k (h2 k off pE)]
          exact q2
       ·exact absurd h1 hi
    ·rw [DQ]
     refine ⟨e,rfl,rfl,rfl,by simp,fun b hb _=>heap_alloc_old w _ b hb,fun b hb ho=>?_,fun _ _ hi _ _=>hi⟩
     rcases ho with ho | ⟨k,cs,hk,he⟩
     ·exact .inl ho
     ·rcases eT hk with ⟨rfl,_⟩ | ⟨ME,hk⟩
      ·rw [Fx] at he
       omega
      ·rw [cm k (Ne.symm ME)] at he
       exact .inr ⟨k,cs,hk,he⟩
   ·cases ha
theorem cY {i:TypeInfo} {z:AV} (h:gd i=some z):∃ c,i.zero=some c∧∀ R w,Rel R w z c:=by
 unfold gd at h
 split at h
 ·rename_i c hc
  exact ⟨c,hc,fun R w=>tK h⟩
 ·cases h
theorem DR {f:FuncId} (h:bi E R w β s a) (t:TypeId) (ho:o.op=.alloc t) {i:TI} {z:AV} (hi:E.ti t=some i) (hz:i.zero=some z) (hn:z.aV=true) {s':St} (ha:fc E f s o.dst t z.cells=some (true,s')) :
  bQ E R w β s a o s':=by
 obtain ⟨gG,u,e1,e2,e3,e4,e5,e6⟩:=b7 E hi
 rw [hz] at e6
 obtain ⟨c,hc,hr⟩:=cY e6
 refine BQ h (hr R w) hn (t:=t) ?_ ha
 simp [execOp,ho,Instr.alloc,gH w e1 hc,vD]
theorem IN {f:FuncId} (h:bi E R w β s a) (t:TypeId) (x:Operand) (ho:o.op=.box t x) {v:AV} (hv:bw E s.af x=.v v) (hn:v.aV=true) {s':St} (ha:fc E f s o.dst t v.cells=some (true,s')) :
  bQ E R w β s a o s':=by
 have hr:=aT h x
 rw [hv] at hr
 refine BQ h hr hn (t:=t) ?_ ha
 simp [execOp,ho,Instr.box,vD]
end ops
end Go.Am
namespace Go.Am
open Go
section types
variable {P:Program}
theorem mP:∀ {fs:List Field} {l:List (Nat × Nat × Bool)},fieldsOf P fs=some l→∀ {j o sz:Nat} {ag:Bool},nth l j=some (o,sz,ag) →
  ∃ f fi u,fs[j]?=some f∧f.offset=o∧P.info? f.type=some fi∧fi.size=sz∧P.underlying f.type=some u∧jA u=ag
 | [],l,h,j,o,sz,ag,hn=>by simp [fieldsOf] at h; subst h; simp [nth] at hn
 | f :: fs,l,h,j,o,sz,ag,hn=>by
  unfold fieldsOf at h
  split at h
  ·rename_i i u r h1 h2 h3
   cases h
   cases j with
   | zero=>simp [nth] at hn; obtain ⟨e1,e2,e3⟩:=hn; exact ⟨f,i,u,by simp,e1,h1,e2,h2,e3⟩
   | succ j=>
    obtain ⟨f',fi,u',g1,g2⟩:=mP h3 (show nth r j=some (o,sz,ag) from hn)
    exact ⟨f',fi,u',by simpa using g1,g2⟩
  ·cases h
theorem nC:∀ {fs:List Field} {l:List (Nat × Nat × Bool)},fieldsOf P fs=some l→fs.mapM (fun f=>(P.info? f.type).map fun i=>(f.offset,i.size))=some (l.map fun x=>(x.1,x.2.1))
 | [],l,h=>by simp [fieldsOf] at h; subst h; simp
 | f :: fs,l,h=>by
  unfold fieldsOf at h
  split at h
  ·rename_i i u r h1 h2 h3
   cases h
   simp [List.mapM_cons,h1,nC h3]
  ·cases h
theorem Fy {u:TypeDesc} {l:List (Nat × Nat × Bool)} (h:pz P u=some (.st l)):∃ fs,u=.struct fs∧fieldsOf P fs.toList=some l:=by
 cases u <;> simp only [pz] at h <;> try (cases h; done)
 all_goals (try (split at h <;> cases h; done))
 rename_i fs
 split at h
 ·rename_i l' hl
  cases h
  exact ⟨fs,rfl,hl⟩
 ·cases h
theorem nS {u:TypeDesc} {n esz:Nat} {ag:Bool} (h:pz P u=some (.arr n esz ag)):∃ e i ue,u=.array n e∧P.info? e=some i∧i.size=esz∧P.underlying e=some ue∧jA ue=ag:=by
 cases u <;> simp only [pz] at h <;> try (cases h; done)
 all_goals (try (split at h <;> cases h; done))
 rename_i m e
 split at h
 ·rename_i i ue h1 h2
  cases h
  exact ⟨e,i,ue,rfl,h1,rfl,h2,rfl⟩
 ·cases h
theorem dI {u:TypeDesc} {e esz nT:Nat} {ag:Bool} {z:Option AV} (h:pz P u=some (.sl e esz ag nT z)) :
  ∃ i ue,u=.slice e∧P.info? e=some i∧i.size=esz∧i.bytes=nT∧P.underlying e=some ue∧jA ue=ag∧gd i=z:=by
 cases u <;> simp only [pz] at h <;> try (cases h; done)
 all_goals (try (split at h <;> cases h; done))
 rename_i e'
 split at h
 ·rename_i i ue h1 h2
  injection h with h
  injection h with g1 g2 g3 g4 g5
  subst g1; subst g2; subst g3; subst g4; subst g5
  exact ⟨i,ue,rfl,h1,rfl,rfl,h2,rfl,rfl⟩
 ·cases h
theorem kw {u:TypeDesc} (h:pz P u=some .str):u=.string:=by
 cases u <;> simp only [pz] at h <;> try (cases h; done)
 all_goals (try (split at h <;> cases h; done))
 rfl
theorem ra {u:TypeDesc} {k:IntKind} (h:pz P u=some (.int k)):u=.int k:=by
 cases u <;> simp only [pz] at h <;> try (cases h; done)
 all_goals (try (split at h <;> cases h; done))
 cases h
 rfl
theorem mb {u:TypeDesc} {k e:TypeId} {z:Option AV} (h:pz P u=some (.map k e z)):u=.map k e∧∃ i,P.info? e=some i∧gd i=z:=by
 cases u <;> simp only [pz] at h <;> try (cases h; done)
 all_goals (try (split at h <;> cases h; done))
 split at h
 ·rename_i i h1
  cases h
  exact ⟨rfl,i,h1,rfl⟩
 ·cases h
end types
section ops
variable {E:Env} {R:ai} {w:World} {β:Nat→Nat} {s:St} {a:Act} {o:Oper}
theorem zj {p q:SV} {c:Value} {n:Nat} (hp:pC R w β p c) (hm:zb n p=some q) :
  ∃ b o,c=.pointer (some ⟨b,o,none⟩)∧pC R w β q (.pointer (some ⟨b,o+n,none⟩)):=by
 unfold zb at hm
 split at hm
 ·cases hm
  exact ⟨_,_,hp,rfl⟩
 ·cases hm
  cases hp with
  | @ptr _ _ b hb=>exact ⟨b,_,rfl,Rel.ptr hb⟩
 ·cases hm
  cases hp with
  | @ep _ b o hr=>
   refine ⟨b,o,rfl,Rel.ep ?_⟩
   rw [vC]
   exact hr.drop n
 ·cases hm
  cases hp with
  | @gp _ _ _ _ _ b o _ ro hr dE=>
   refine ⟨b,o,rfl,Rel.gp hr ?_⟩
   cases ro with
   | none=>trivial
   | bz=>exact dE.elim
   | bU _=>exact dE.elim
   | bf _=>exact dE.elim
   | tok f1 b1 c1=>exact ⟨dE.1,fun e=>⟨(dE.2 e).1,by rw [(dE.2 e).2,Nat.add_assoc]⟩⟩
 ·cases hm
theorem vF (h:bi E R w β s a) (t:TypeId) (x:Operand) (j:Nat) (ho:o.op=.fieldAddr t x j) {q:SV} (hq:kv E t (bw E s.af x) j=some q) :
  bQ E R w β s a o (s.put o.dst q):=by
 unfold kv at hq
 split at hq
 ·rename_i i hi
  split at hq
  ·rename_i fs hk
   split at hq
   ·rename_i off sz ag hn
    split at hq
    ·rename_i eO
     have eO:=Nat.le_of_ble_eq_true eO
     obtain ⟨gG,u,e1,e2,e3,e4,e5,e6⟩:=b7 E hi
     rw [hk] at e5
     obtain ⟨fl,rfl,hf⟩:=Fy e5
     obtain ⟨f,fi,u',g1,g2,g3,g4,g5,g6⟩:=mP hf hn
     obtain ⟨b,o',m1,m2⟩:=zj (aT h x) hq
     refine ar h ?_ m2
     have ZC:fl[j]?=some f:=by simpa using g1
     have cm:¬ fi.size=0:=by omega
     simp [execOp,ho,Instr.fieldAt,run_underlying e2,ZC,m1,Instr.sureAddr,fieldPlace,run_sizeOf w g3,cm,cA,g2]
    ·cases hq
   ·cases hq
  ·cases hq
 ·cases hq
theorem BR {b o sz:Nat} {es:List AV} (h:gk R w b o sz es) {n:Nat} {e:AV} (hn:nth es n=some e):dP R w b (o+n * sz) e.cells∧e.cells.length=sz∧e.aV=true:=by
 induction es generalizing o n with
 | nil=>simp [nth] at hn
 | cons x l ih=>
  cases h with
  | cons hl ht _ h t=>
   cases n with
   | zero=>simp [nth] at hn; subst hn; exact ⟨by simpa using h,hl,ht⟩
   | succ n=>
    have:=ih t (show nth l n=some e from hn)
    rw [show o+sz+n * sz=o+(n+1) * sz by rw [Nat.add_mul]; omega] at this
    exact this
theorem vG (h:bi E R w β s a) (t:TypeId) (x ix:Operand) (ho:o.op=.indexAddr t x ix) {q:SV} (hq:ku E t (bw E s.af x) (bw E s.af ix)=some (true,q)) :
  bQ E R w β s a o (s.put o.dst q):=by
 have rx:=aT h x
 have ri:=aT h ix
 unfold ku at hq
 split at hq
 ·rename_i i k n hi V2
  rw [V2] at ri
  have QT:Rel R w (.int k n) (a.eval ix):=ri
  generalize MF:a.eval ix=iv at QT
  cases QT
  obtain ⟨gG,u,e1,e2,e3,e4,e5,e6⟩:=b7 E hi
  split at hq
  ·-- a list
   rename_i elem esz ag nT z kk sz es hk hx
   rw [hx] at rx
   rw [hk] at e5
   obtain ⟨ie,ue,rfl,f1,f2,f3,f4,f5,f6⟩:=dI e5
   split at hq
   ·rename_i hc
    have key:∀ (u:AV),(0≤n∧n < (es.length:Int))→cF (aj es n.toNat).cells u.cells→bQ E R w β s a o (s.put o.dst (.v (.ep u.cells))):=fun u vH hu=>by
     obtain ⟨Au,Fz⟩:=vH
     have dK:Rel R w (.list kk sz es) (a.eval x):=rx
     generalize fy:a.eval x=xv at dK
     cases dK with
     | jE=>simp at Fz; omega
     | iR=>simp at Fz; omega
     | mL=>simp at Fz; omega
     | lZ=>simp at Fz; omega
     | lE=>simp at Fz; omega
     | @list _ _ _ b o' len cap hr hl gX IP=>
      subst hl
      have cg:n.toNat < es.length:=by omega
      obtain ⟨e,he⟩:∃ e,nth es n.toNat=some e:=⟨es[n.toNat],by rw [a8]; exact List.getElem?_eq_getElem cg⟩
      have eO:sz=esz:=by
       simp only [Bool.or_eq_true] at hc
       rcases hc with hc | hc
       ·exact Nat.eq_of_beq_eq_true hc
       ·cases es with
        | nil=>simp at cg
        | cons _ _=>simp at hc
      obtain ⟨g1,_,_⟩:=BR hr he
      refine ar h (c:=.pointer (some ⟨b,o'+n.toNat * sz,none⟩)) ?_ ?_
      ·have fF:0≤n∧n < (es.length:Int):=⟨Au,Fz⟩
       simp [execOp,ho,Instr.indexAt,MF,fy,asIntOf,run_underlying e2,fF,run_sizeOf w f1,f2,eO,cA]
      ·have:aj es n.toNat=e:=by simp [aj,he]
       rw [this] at hu
       exact .ep (hu.IK g1)
    split at hq
    ·rename_i p hp
     injection hq with hq
     injection hq with vH nU
     subst nU
     rw [Bool.and_eq_true] at vH
     have fF:=of_decide_eq_true vH.1
     have hd:=p.cL vH.2
     have cg:n.toNat < es.length:=by omega
     refine key _ fF (hd.cells ?_)
     obtain ⟨e,he⟩:∃ e,nth es n.toNat=some e:=⟨es[n.toNat],by rw [a8]; exact List.getElem?_eq_getElem cg⟩
     have:aj es n.toNat=e:=by simp [aj,he]
     rw [this]
     have dK:Rel R w (.list kk sz es) (a.eval x):=rx
     generalize a.eval x=xv at dK
     cases dK with
     | jE=>simp at cg
     | iR=>simp at cg
     | mL=>simp at cg
     | lZ=>simp at cg
     | lE=>simp at cg
     | list hr _ _ _=>exact (BR hr he).2.2
    ·injection hq with hq
     injection hq with vH nU
     subst nU
     exact key _ (of_decide_eq_true vH) (cF.refl _)
   ·cases hq
  ·-- a heap slice
   rename_i elem esz ag nT z id off sz len cap hk hx
   rw [hx] at rx
   rw [hk] at e5
   obtain ⟨ie,ue,rfl,f1,f2,f3,f4,f5,f6⟩:=dI e5
   split at hq
   ·rename_i hc
    have eO:=Nat.eq_of_beq_eq_true hc
    injection hq with hq
    injection hq with vH nU
    subst nU
    have fF:=of_decide_eq_true vH
    have dK:Rel R w (.jS id off sz len cap) (a.eval x):=rx
    generalize fy:a.eval x=xv at dK
    cases dK with
    | @jS _ _ _ _ _ b hb _=>
     refine ar h (c:=.pointer (some ⟨b,off+n.toNat * sz,none⟩)) ?_ (Rel.ptr hb)
     simp [execOp,ho,Instr.indexAt,MF,fy,asIntOf,run_underlying e2,fF,run_sizeOf w f1,f2,eO,cA]
   ·cases hq
  ·-- a slice that grows
   rename_i elem esz ag nT z id f' off sz len hk hx
   rw [hx] at rx
   rw [hk] at e5
   obtain ⟨ie,ue,rfl,f1,f2,f3,f4,f5,f6⟩:=dI e5
   split at hq
   ·rename_i hc
    have eO:=Nat.eq_of_beq_eq_true hc
    injection hq with hq
    injection hq with vH nU
    subst nU
    have fF:=of_decide_eq_true vH
    have dK:Rel R w (.dX id f' off sz len) (a.eval x):=rx
    generalize fy:a.eval x=xv at dK
    cases dK with
    | iM _ _=>omega
    | @dX _ _ _ _ _ cap b o' ro bH dE gX=>
     refine ar h (c:=.pointer (some ⟨b,o'+n.toNat * sz,none⟩)) ?_ (Rel.gp bH ?_)
     ·simp [execOp,ho,Instr.indexAt,MF,fy,asIntOf,run_underlying e2,fF,run_sizeOf w f1,f2,eO,cA]
     ·cases ro with
      | none=>trivial
      | bz=>exact dE.elim
      | bU _=>exact dE.elim
      | bf _=>exact dE.elim
      | tok f1 b1 c1=>
       refine ⟨dE.1,fun e=>?_⟩
       obtain ⟨k1,k2,k3⟩:=dE.2 e
       refine ⟨k1,?_⟩
       rcases k3 with k3 | k3
       ·rw [k3,Nat.add_zero,Nat.add_mul]
       ·omega
   ·cases hq
  ·-- an array that is never written
   rename_i len esz ag cs hk hx
   rw [hx] at rx
   rw [hk] at e5
   obtain ⟨e,ie,ue,rfl,f1,f2,f3,f4⟩:=nS e5
   have dK:Rel R w (.ep cs) (a.eval x):=rx
   generalize fy:a.eval x=xv at dK
   cases dK with
   | @ep _ b o' hr=>
    split at hq
    ·rename_i p hp
     split at hq
     ·rename_i hc
      rw [Bool.and_eq_true] at hc
      have hz:=Nat.eq_of_beq_eq_true hc.1
      have hl:=Nat.le_of_ble_eq_true hc.2
      injection hq with hq
      injection hq with vH nU
      subst nU
      rw [Bool.and_eq_true] at vH
      have fF:=of_decide_eq_true vH.1
      have hd:=p.cL vH.2
      have cg:n.toNat < cs.length:=by omega
      have hdr:=hr.drop n.toNat
      rw [List.drop_eq_getElem_cons cg] at hdr
      have hn:aj cs n.toNat=cs[n.toNat]:=by
       unfold aj
       rw [a8,List.getElem?_eq_getElem cg]
      rw [hn] at hd ⊢
      refine ar h (c:=.pointer (some ⟨b,o'+n.toNat * esz,none⟩)) ?_ ?_
      ·simp [execOp,ho,Instr.indexAt,MF,fy,Instr.sureAddr,asIntOf,run_underlying e2,fF,run_sizeOf w f1,f2,cA]
      ·subst hz
       rw [Nat.mul_one]
       cases hdr with
       | cons hc h1 hi eh t=>exact .ep (.cons hc h1 hi (hd.1 _ _ _ eh) .nil)
     ·cases hq
    ·injection hq with hq
     injection hq with vH nU
     subst nU
     have fF:=of_decide_eq_true vH
     refine ar h (c:=.pointer (some ⟨b,o'+n.toNat * esz,none⟩)) ?_ ?_
     ·simp [execOp,ho,Instr.indexAt,MF,fy,Instr.sureAddr,asIntOf,run_underlying e2,fF,run_sizeOf w f1,f2,cA]
     ·rw [vC]
      exact .ep (hr.drop _)
  ·-- an array
   rename_i len esz ag hk _
   rw [hk] at e5
   obtain ⟨e,ie,ue,rfl,f1,f2,f3,f4⟩:=nS e5
   split at hq
   ·rename_i q' hm
    injection hq with hq
    injection hq with vH nU
    subst nU
    have fF:=of_decide_eq_true vH
    obtain ⟨b,o',m1,m2⟩:=zj rx hm
    refine ar h ?_ m2
    simp [execOp,ho,Instr.indexAt,MF,m1,Instr.sureAddr,asIntOf,run_underlying e2,fF,run_sizeOf w f1,f2,cA]
   ·cases hq
  ·cases hq
 ·cases hq
theorem mc {t:TypeId} {i:TypeInfo} {u:TypeDesc} (h1:E.P.info? t=some i) (h2:E.P.underlying t=some u) {off:Nat} {cs l:List AV} {vs:List Value} {v:AV} (hr:aM R w cs vs) (h3:∀ x∈vs,x.oneCell'=true)
  (Av:jA u=true→Fs off i.size cs=some l∧sF true l=some v) (R8:jA u=false→Fs off 1 cs=some l∧sF false l=some v) :
  ∃ c,(part t ⟨vs⟩ off).run E.P w=.ok c w∧Rel R w v c:=by
 unfold part
 simp only [Sem.run_bind,zi w h2,Result.andThen_ok]
 cases ha:jA u with
 | true=>
  obtain ⟨g1,g2⟩:=Av ha
  obtain ⟨k1,k2,k3,k4⟩:=oU g1 hr h3
  obtain ⟨m1,_⟩:=vE g2 k2 k3
  refine ⟨_,?_,m1 rfl⟩
  have:(⟨vs⟩:Array Value).extract off (off+i.size)=⟨(vs.drop off).take i.size⟩:=by
   apply Array.ext'
   simp [List.extract_eq_take_drop]
  simp [run_sizeOf w h1]
 | false=>
  obtain ⟨g1,g2⟩:=R8 ha
  obtain ⟨k1,k2,k3,k4⟩:=oU g1 hr h3
  obtain ⟨_,m2⟩:=vE g2 k2 k3
  obtain ⟨c,hc,eh⟩:=m2 rfl
  refine ⟨c,?_,eh⟩
  have h0:=k4 0 c (by rw [hc]; simp)
  simp only [Nat.add_zero] at h0
  simp [h0]
theorem DS (h:bi E R w β s a) (t:TypeId) (x:Operand) (j:Nat) (ho:o.op=.field t x j) {v:AV} (hq:DG E t (bw E s.af x) j=some v) :
  bQ E R w β s a o (s.put o.dst (.v v)):=by
 have rx:=aT h x
 unfold DG at hq
 split at hq
 ·rename_i i cs hi hx
  rw [hx] at rx
  have dK:Rel R w (.agg cs) (a.eval x):=rx
  generalize fy:a.eval x=xv at dK
  cases dK with
  | @agg _ vs hr h1=>
  split at hq
  ·rename_i fs hk
   split at hq
   ·rename_i off sz ag hn
    obtain ⟨gG,u,e1,e2,e3,e4,e5,e6⟩:=b7 E hi
    rw [hk] at e5
    obtain ⟨fl,rfl,hf⟩:=Fy e5
    obtain ⟨f,fi,u',g1,g2,g3,g4,g5,g6⟩:=mP hf hn
    have key:∃ c,(part f.type ⟨vs⟩ off).run E.P w=.ok c w∧Rel R w v c:=by
     split at hq
     ·rename_i Av
      split at hq
      ·rename_i l hl
       exact mc g3 g5 (l:=l) hr h1 (fun _=>⟨by rw [g4]; exact hl,hq⟩) (fun hf=>by rw [g6,Av] at hf; cases hf)
      ·cases hq
     ·rename_i Av
      split at hq
      ·rename_i l hl
       exact mc g3 g5 (l:=l) hr h1 (fun hf=>by rw [g6] at hf; exact absurd hf Av) (fun _=>⟨hl,hq⟩)
      ·cases hq
    obtain ⟨c,k1,k2⟩:=key
    refine ar h ?_ k2
    have ZC:fl[j]?=some f:=by simpa using g1
    simp [execOp,ho,Instr.field,run_underlying e2,ZC,fy,asAgg,g2,k1]
   ·cases hq
  ·cases hq
 ·cases hq
theorem DU (h:bi E R w β s a) (t:TypeId) (x ix:Operand) (ho:o.op=.index t x ix) {v:AV} (hq:DH E t (bw E s.af x) (bw E s.af ix)=some (true,v)) :
  bQ E R w β s a o (s.put o.dst (.v v)):=by
 have rx:=aT h x
 have ri:=aT h ix
 unfold DH at hq
 split at hq
 ·rename_i i l k n hi hx V2
  rw [hx] at rx
  rw [V2] at ri
  have QT:Rel R w (.int k n) (a.eval ix):=ri
  have dK:Rel R w (.str l) (a.eval x):=rx
  generalize MF:a.eval ix=iv at QT
  generalize fy:a.eval x=xv at dK
  cases QT
  cases dK
  obtain ⟨gG,u,e1,e2,e3,e4,e5,e6⟩:=b7 E hi
  split at hq
  ·rename_i hk
   rw [hk] at e5
   have:=kw e5
   subst this
   injection hq with hq
   injection hq with vH nU
   subst nU
   obtain ⟨Au,Fz⟩:=of_decide_eq_true vH
   have cg:n.toNat < l.length:=by omega
   refine ar h (c:=.int .u8 (l.getD n.toNat 0).toNat) ?_ (Rel.int _ _)
   have jV:(⟨⟨l⟩⟩:ByteArray)[n.toNat]?=some (l.getD n.toNat 0):=by
    have hs:n.toNat < (⟨⟨l⟩⟩:ByteArray).size:=cg
    rw [getElem?_pos (⟨⟨l⟩⟩:ByteArray) n.toNat hs]
    congr 1
    simp [List.getD,List.getElem?_eq_getElem cg]
    rfl
   simp [execOp,ho,Instr.index,MF,fy,asIntOf,run_underlying e2,Au,jV]
  ·cases hq
 ·rename_i i cs k n hi hx V2
  rw [hx] at rx
  rw [V2] at ri
  have QT:Rel R w (.int k n) (a.eval ix):=ri
  have dK:Rel R w (.agg cs) (a.eval x):=rx
  generalize MF:a.eval ix=iv at QT
  generalize fy:a.eval x=xv at dK
  cases QT
  cases dK with
  | @agg _ vs hr h1=>
  obtain ⟨gG,u,e1,e2,e3,e4,e5,e6⟩:=b7 E hi
  split at hq
  ·rename_i len esz ag hk
   rw [hk] at e5
   obtain ⟨e,ie,ue,rfl,f1,f2,f3,f4⟩:=nS e5
   split at hq
   ·rename_i v' R9
    injection hq with hq
    injection hq with vH nU
    subst nU
    have fF:=of_decide_eq_true vH
    have key:∃ c,(part e ⟨vs⟩ (n.toNat * esz)).run E.P w=.ok c w∧Rel R w v' c:=by
     split at R9
     ·rename_i Av
      split at R9
      ·rename_i l hl
       exact mc f1 f3 (l:=l) hr h1 (fun _=>⟨by rw [f2]; exact hl,R9⟩) (fun hf=>by rw [f4,Av] at hf; cases hf)
      ·cases R9
     ·rename_i Av
      split at R9
      ·rename_i l hl
       exact mc f1 f3 (l:=l) hr h1 (fun hf=>by rw [f4] at hf; exact absurd hf Av) (fun _=>⟨hl,R9⟩)
      ·cases R9
    obtain ⟨c,k1,k2⟩:=key
    refine ar h ?_ k2
    simp [execOp,ho,Instr.index,MF,fy,asIntOf,run_underlying e2,fF,run_sizeOf w f1,f2,k1]
   ·cases hq
  ·cases hq
 ·cases hq
theorem Aw (h:bi E R w β s a) (x:Operand) (j:Nat) (ho:o.op=.extract x j) {vs:List AV} {v:AV} (hx:bw E s.af x=.v (.bh vs)) (hn:nth vs j=some v) :
  bQ E R w β s a o (s.put o.dst (.v v)):=by
 have rx:=aT h x
 rw [hx] at rx
 have dK:Rel R w (.bh vs) (a.eval x):=rx
 generalize fy:a.eval x=xv at dK
 cases dK with
 | @bh _ us hr=>
 rw [a8] at hn
 obtain ⟨c,h1,h2⟩:=hr.get hn
 refine ar h ?_ h2
 simp [execOp,ho,Instr.extract,fy,h1]
theorem gq (h:bi E R w β s a):∀ {l:List Operand} {vs:List AV},lS E s.af l=some vs→aM R w vs (l.map a.eval)
 | [],vs,hl=>by simp [lS] at hl; subst hl; exact .nil
 | x :: l,vs,hl=>by
  unfold lS at hl
  split at hl
  ·rename_i v r h1 h2
   cases hl
   have:=aT h x
   rw [h1] at this
   exact .cons this (gq h h2)
  ·cases hl
theorem yD (h:bi E R w β s a) (g:FuncId) (x y:Array Operand) (ho:o.op=.makeFunc (.func g) x y) {p q:List AV} (hp:lS E s.af x.toList=some p) (hq:lS E s.af y.toList=some q) :
  bQ E R w β s a o (s.put o.dst (.v (.fn g p q))):=by
 have h1:=gq h hp
 have h2:=gq h hq
 refine ar h (c:=.func (.func g) ⟨x.toList.map a.eval⟩ ⟨y.toList.map a.eval⟩) ?_ (Rel.fn h1 h2)
 have e1:x.map a.eval=⟨x.toList.map a.eval⟩:=Array.ext' (by simp)
 have e2:y.map a.eval=⟨y.toList.map a.eval⟩:=Array.ext' (by simp)
 simp [execOp,ho,Instr.makeFunc,e1,e2]
end ops
end Go.Am
namespace Go.Am
open Go
section ops
variable {E:Env} {R:ai} {w:World} {β:Nat→Nat} {s:St} {a:Act} {o:Oper}
theorem size_bytes (l:List UInt8):(⟨⟨l⟩⟩:ByteArray).size=l.length:=rfl
theorem rb (l:List UInt8):(⟨⟨l⟩⟩:ByteArray).toList=l:=by rw [ByteArray.toList_eq]
theorem Ax (l r:List UInt8):((⟨⟨l⟩⟩:ByteArray)++⟨⟨r⟩⟩)=⟨⟨l++r⟩⟩:=by
 apply ByteArray.ext
 rw [ByteArray.data_append]
 simp
theorem G3 (op:BinOp) (t:TypeId) (x y:Operand) (k k':IntKind) (n m:Int):(eqGuard op t x y (.int k n) (.int k' m)).run E.P w=.ok () w:=by
 unfold eqGuard
 cases op <;> rfl
theorem G4 (op:BinOp) (t:TypeId) (x y:Operand) (n m:ByteArray):(eqGuard op t x y (.string n) (.string m)).run E.P w=.ok () w:=by
 unfold eqGuard
 cases op <;> rfl
theorem DV (h:bi E R w β s a) (op:BinOp) (t u:TypeId) (x y:Operand) (ho:o.op=.binOp op t x y u) {p q v:AV} (hx:bw E s.af x=.v p) (hy:bw E s.af y=.v q) (hv:BN op p q=some (true,v)) :
  bQ E R w β s a o (s.put o.dst (.v v)):=by
 have rx:=aT h x
 have ry:=aT h y
 rw [hx] at rx
 rw [hy] at ry
 have dK:Rel R w p (a.eval x):=rx
 have pK:Rel R w q (a.eval y):=ry
 have key:∃ c,(do eqGuard op t x y (a.eval x) (a.eval y); binOp op t (a.eval x) (a.eval y):Sem Value).run E.P w=.ok c w∧Rel R w v c:=by
  generalize fy:a.eval x=xv at dK
  generalize V3:a.eval y=yv at pK
  unfold BN at hv
  split at hv
  ·rename_i k n k' m
   cases dK
   cases pK
   simp only [Sem.run_bind,G3,Result.andThen_ok]
   split at hv
   ·injection hv with hv
    injection hv with h1 h2
    subst h2
    have hm:=of_decide_eq_true h1
    have Sa:¬ m < 0:=by omega
    exact ⟨.int k (k.wrap (n * 2 ^ (min m.toNat k.bits))),by simp [binOp,Op.shift,Sa],.int _ _⟩
   ·injection hv with hv
    injection hv with h1 h2
    subst h2
    have hm:=of_decide_eq_true h1
    have Sa:¬ m < 0:=by omega
    exact ⟨.int k (n.fdiv (2 ^ (min m.toNat k.bits))),by simp [binOp,Op.shift,Sa],.int _ _⟩
   ·rename_i QU hs2
    split at hv
    ·rename_i IP
     subst IP
     split at hv
     ·cases hv; exact ⟨.int k (k.wrap (n+m)),by simp [binOp,Op.intArith],.int _ _⟩
     ·cases hv; exact ⟨.int k (k.wrap (n - m)),by simp [binOp,Op.intArith],.int _ _⟩
     ·cases hv; exact ⟨.int k (k.wrap (n * m)),by simp [binOp,Op.intArith],.int _ _⟩
     ·injection hv with hv
      injection hv with h1 h2
      subst h2
      have hm:¬ m=0:=by simpa using h1
      exact ⟨.int k (k.wrap (n.tdiv m)),by simp [binOp,Op.intDiv,hm],.int _ _⟩
     ·injection hv with hv
      injection hv with h1 h2
      subst h2
      have hm:¬ m=0:=by simpa using h1
      exact ⟨.int k (n.tmod m),by simp [binOp,Op.intDiv,hm],.int _ _⟩
     ·cases hv; exact ⟨.int k (GM k n m),by simp [binOp,Op.intBits,GM],.int _ _⟩
     ·cases hv; exact ⟨.int k (Zx k n m),by simp [binOp,Op.intBits,Zx],.int _ _⟩
     ·cases hv; exact ⟨.int k (GN k n m),by simp [binOp,Op.intBits,GN],.int _ _⟩
     ·cases hv; exact ⟨.bool (n == m),by simp [binOp,Op.intCmp],.bool _⟩
     ·cases hv; exact ⟨.bool (n != m),by simp [binOp,Op.intCmp],.bool _⟩
     ·cases hv; exact ⟨.bool (decide (n < m)),by simp [binOp,Op.intCmp],.bool _⟩
     ·cases hv; exact ⟨.bool (decide (n≤m)),by simp [binOp,Op.intCmp],.bool _⟩
     ·cases hv; exact ⟨.bool (decide (n > m)),by simp [binOp,Op.intCmp],.bool _⟩
     ·cases hv; exact ⟨.bool (decide (n≥m)),by simp [binOp,Op.intCmp],.bool _⟩
     ·cases hv
    ·cases hv
  ·rename_i l r
   cases dK
   cases pK
   simp only [Sem.run_bind,G4,Result.andThen_ok]
   split at hv
   ·injection hv with hv
    injection hv with h1 h2
    subst h2
    have hm:=of_decide_eq_true h1
    refine ⟨.string ⟨⟨l++r⟩⟩,?_,.str _⟩
    have Sb:¬ ((l.length+r.length:Nat):Int) > IntKind.i64.max:=by
     have:IntKind.i64.max=9223372036854775807:=by decide
     omega
    simp only [binOp,Op.stringOp,size_bytes,if_neg Sb,Ax,Sem.run_pure]
   ·cases hv; exact ⟨.bool (l == r),by simp [binOp,Op.stringOp],.bool _⟩
   ·cases hv; exact ⟨.bool (!(l == r)),by simp [binOp,Op.stringOp],.bool _⟩
   ·cases hv; exact ⟨.bool (Op.bytesLess l r),by simp [binOp,Op.stringOp],.bool _⟩
   ·cases hv; exact ⟨.bool (Op.bytesLess l r || l == r),by simp [binOp,Op.stringOp],.bool _⟩
   ·cases hv; exact ⟨.bool (!(Op.bytesLess l r || l == r)),by simp [binOp,Op.stringOp],.bool _⟩
   ·cases hv; exact ⟨.bool (!(Op.bytesLess l r)),by simp [binOp,Op.stringOp],.bool _⟩
   ·cases hv
  ·cases hv
 obtain ⟨c,k1,k2⟩:=key
 refine ar h (c:=c) ?_ k2
 simp only [Sem.run_bind] at k1
 simp only [execOp,ho,Sem.run_bind,k1,Result.andThen_ok,Sem.run_pure]
theorem kb {t:TypeId} {i:TypeInfo} {u:TypeDesc} (h1:E.P.info? t=some i) (h2:E.P.underlying t=some u) {off:Nat} {cs:List AV} {vs:List Value} {v:AV} (hr:aM R w cs vs) (h3:∀ x∈vs,x.oneCell'=true)
  (h:Ft (jA u) off i.size cs=some v):∃ c,(part t ⟨vs⟩ off).run E.P w=.ok c w∧Rel R w v c:=by
 unfold Ft at h
 cases ha:jA u with
 | true=>
  rw [ha] at h
  simp only [if_true] at h
  split at h
  ·rename_i l hl
   exact mc h1 h2 hr h3 (fun _=>⟨hl,h⟩) (fun e=>by rw [ha] at e; cases e)
  ·cases h
 | false=>
  rw [ha] at h
  simp only [Bool.false_eq_true,if_false] at h
  split at h
  ·rename_i l hl
   exact mc h1 h2 hr h3 (fun e=>by rw [ha] at e; cases e) (fun _=>⟨hl,h⟩)
  ·cases h
theorem BS {ek:TypeId→EK} {d:Nat} (ih:∀ (t:TypeId) (a b:AV) (r:Bool) (x y:Value),k9 (ek t) a b=some r→Rel R w a x→Rel R w b y→(Op.equalIn d t x y).run E.P w=.ok r w) {xs ys:List AV} {vs us:List Value}
  (hx:aM R w xs vs) (uA:∀ x∈vs,x.oneCell'=true) (hy:aM R w ys us) (M0:∀ x∈us,x.oneCell'=true) :
  ∀ (fs:List Field) (l:QP) (r:Bool),DF E.P ek fs=some l→sG l xs ys=some r→(Op.eqFields d ⟨vs⟩ ⟨us⟩ fs).run E.P w=.ok r w
 | [],l,r,hl,hr=>by
  simp [DF] at hl
  subst hl
  simp [sG] at hr
  subst hr
  rfl
 | f :: fs,l,r,hl,hr=>by
  unfold DF at hl
  split at hl
  ·cases hl
  ·rename_i hn
   split at hl
   ·rename_i i u l' h1 h2 h3
    cases hl
    unfold sG at hr
    split at hr
    ·rename_i a b ha hb
     split at hr
     ·rename_i p q hp hq
      cases hr
      obtain ⟨c,k1,k2⟩:=kb h1 h2 hx uA ha
      obtain ⟨c',k3,k4⟩:=kb h1 h2 hy M0 hb
      have cm : f.name ≠ "_" := by simpa using hn
      have he:=ih f.type a b p c c' hp k2 k4
      have vI:=BS ih hx uA hy M0 fs l' q h3 hq
      simp only [Op.eqFields,cm,ne_eq,not_false_eq_true,if_true,Sem.run_bind,k1,k3,he,Result.andThen_ok]
      cases p with
      | true=>simp [vI]
      | false=>simp
     ·cases hr
    ·cases hr
   ·cases hl
theorem zk {ek:EK} {d:Nat} {e:TypeId} {i:TypeInfo} {u:TypeDesc} (h1:E.P.info? e=some i) (h2:E.P.underlying e=some u) (ih:∀ (a b:AV) (r:Bool) (x y:Value),k9 ek a b=some r→Rel R w a x→Rel R w b y→(Op.equalIn d e x y).run E.P w=.ok r w) {xs ys:List AV} {vs us:List Value}
  (hx:aM R w xs vs) (uA:∀ x∈vs,x.oneCell'=true) (hy:aM R w ys us) (M0:∀ x∈us,x.oneCell'=true) :
  ∀ (m k:Nat) (r:Bool),sG (vy i.size (jA u) ek m k) xs ys=some r→(Op.eqItems d e i.size ⟨vs⟩ ⟨us⟩ (List.range' k m)).run E.P w=.ok r w
 | 0,k,r,hr=>by
  simp [vy,sG] at hr
  subst hr
  rfl
 | m+1,k,r,hr=>by
  unfold vy sG at hr
  split at hr
  ·rename_i a b ha hb
   split at hr
   ·rename_i p q hp hq
    cases hr
    obtain ⟨c,k1,k2⟩:=kb h1 h2 hx uA ha
    obtain ⟨c',k3,k4⟩:=kb h1 h2 hy M0 hb
    have he:=ih a b p c c' hp k2 k4
    have vI:=zk h1 h2 ih hx uA hy M0 m (k+1) q hq
    simp only [List.range'_succ,Op.eqItems,Sem.run_bind,k1,k3,he,Result.andThen_ok]
    cases p with
    | true=>simpa using vI
    | false=>simp
   ·cases hr
  ·cases hr
theorem Ay:∀ (n d:Nat),n≤d→∀ (t:TypeId) (a b:AV) (r:Bool) (x y:Value),k9 (pA E.P n t) a b=some r→Rel R w a x→Rel R w b y→(Op.equalIn d t x y).run E.P w=.ok r w
 | 0,_,_,t,a,b,r,x,y,h,_,_=>by simp [pA,k9] at h
 | n+1,0,hd,_,_,_,_,_,_,_,_,_=>by omega
 | n+1,d+1,hd,t,a,b,r,x,y,h,hx,hy=>by
  unfold pA at h
  split at h
  ·rename_i hu
   unfold k9 at h
   split at h
   all_goals (try contradiction)
   cases hx; cases hy; cases h
   exact run_equalIn_bool' w d t _ _ hu
  ·rename_i k hu
   unfold k9 at h
   split at h
   all_goals (try contradiction)
   split at h
   ·rename_i hk
    subst hk
    cases hx; cases hy; cases h
    exact run_equalIn_int w d t _ k _ _ hu
   ·cases h
  ·rename_i hu
   unfold k9 at h
   split at h
   all_goals (try contradiction)
   cases hx; cases hy; cases h
   rw [run_equalIn_string w d t _ _ hu,rb,rb]
  ·rename_i fs hu
   split at h
   ·simp [k9] at h
   ·rename_i hs
    split at h
    ·rename_i l hl
     unfold k9 at h
     split at h
     all_goals (try contradiction)
     rename_i Ap xs ys hk
     cases hk
     cases hx with
     | agg hx uA=>
     cases hy with
     | agg hy M0=>
     have hf:E.P.fieldsOf t=fs:=by simp [Program.fieldsOf,hu]
     rw [run_equalIn_struct w d t _ _ (by rw [hf]; exact hu) (by simpa using hs),hf]
     exact BS (fun t a b r x y=>Ay n d (by omega) t a b r x y) hx uA hy M0 fs.toList _ r hl h
    ·simp [k9] at h
  ·rename_i m e hu
   split at h
   ·rename_i i ud g1 g2
    unfold k9 at h
    split at h
    all_goals (try contradiction)
    rename_i Ap xs ys hk
    cases hk
    cases hx with
    | agg hx uA=>
    cases hy with
    | agg hy M0=>
    have oV:E.P.cellsOf e=i.size:=by simp [Program.cellsOf,g1]
    rw [run_equalIn_array (P:=E.P) w d _ _ hu g1,oV,List.range_eq_range']
    exact zk g1 g2 (fun a b r x y=>Ay n d (by omega) e a b r x y) hx uA hy M0 m 0 r h
   ·simp [k9] at h
  ·simp [k9] at h
theorem kd {t:TypeId} {i:TI} (hi:E.ti t=some i) {p q:AV} {r:Bool} {x y:Value} (h:k9 i.ek p q=some r) (hx:Rel R w p x) (hy:Rel R w q y) :
  (Op.equalIn 10000 t x y).run E.P w=.ok r w∧((∃ b c,x=.bool b∧y=.bool c)∨(∃ k n k' m,x=.int k n∧y=.int k' m)∨(∃ n m,x=.string n∧y=.string m)∨(∃ n m,x=.agg n∧y=.agg m∧E.P.eqGuardType E.P.depth t=false)):=by
 have zl:i.ek=tG E.P t:=by
  have:=E.GK t i hi
  unfold GJ at this
  split at this
  ·split at this
   ·cases this; rfl
   ·cases this
  ·cases this
 rw [zl] at h
 have hg:k9 (pA E.P 6 t) p q=some r∧((∃ l,pA E.P 6 t=.st l)→E.P.eqGuardType E.P.depth t=false):=by
  unfold tG at h
  split at h
  ·rename_i l hl
   split at h
   ·simp [k9] at h
   ·rename_i DW
    exact ⟨by rw [hl]; exact h,fun _=>by simpa using DW⟩
  ·rename_i k hk
   exact ⟨h,fun ⟨l,hl⟩=>absurd hl (hk l)⟩
 refine ⟨Ay 6 10000 (by omega) t p q r x y hg.1 hx hy,?_⟩
 have h2:=hg.1
 have h3:=hg.2
 generalize pA E.P 6 t=k at h2 h3
 unfold k9 at h2
 split at h2
 ·cases hx; cases hy; exact .inl ⟨_,_,rfl,rfl⟩
 ·cases hx; cases hy; exact .inr (.inl ⟨_,_,_,_,rfl,rfl⟩)
 ·cases hx; cases hy; exact .inr (.inr (.inl ⟨_,_,rfl,rfl⟩))
 ·cases hx; cases hy; exact .inr (.inr (.inr ⟨_,_,rfl,rfl,h3 ⟨_,rfl⟩⟩))
 ·cases h2
theorem IQ (h:bi E R w β s a) (op:BinOp) (t u:TypeId) (x y:Operand) (ho:o.op=.binOp op t x y u) {p q:AV} {r:Bool} (hx:bw E s.af x=.v p) (hy:bw E s.af y=.v q) (hb:BN op p q=none) (hv:Zz E op t p q=some r) :
  bQ E R w β s a o (s.put o.dst (.v (.bool r))):=by
 have rx:=aT h x
 have ry:=aT h y
 rw [hx] at rx
 rw [hy] at ry
 have dK:Rel R w p (a.eval x):=rx
 have pK:Rel R w q (a.eval y):=ry
 have key:(do eqGuard op t x y (a.eval x) (a.eval y); binOp op t (a.eval x) (a.eval y):Sem Value).run E.P w=.ok (.bool r) w:=by
  generalize fy:a.eval x=xv at dK
  generalize V3:a.eval y=yv at pK
  unfold Zz at hv
  split at hv
  ·rename_i i hi
   obtain ⟨k1,k2⟩:=kd hi hv dK pK
   rcases k2 with ⟨b,c,rfl,rfl⟩ | ⟨k,n,k',m,rfl,rfl⟩ | ⟨n,m,rfl,rfl⟩ | ⟨n,m,rfl,rfl,hg⟩
   ·have DX:(eqGuard .eql t x y (.bool b) (.bool c)).run E.P w=.ok () w:=rfl
    simp [DX,binOp,Op.equal,Op.maxDepth,k1]
   ·cases dK; cases pK; simp [BN] at hb
    cases hk:i.ek <;> simp [hk,k9] at hv
    exact absurd hv.1 hb
   ·cases dK; cases pK; simp [BN] at hb
   ·simp only [Sem.run_bind,run_eqGuard_agg w _ t x y n m hg,Result.andThen_ok,run_eql_struct,k1]
  ·rename_i i hi
   split at hv
   ·rename_i r' lH
    cases hv
    obtain ⟨k1,k2⟩:=kd hi lH dK pK
    rcases k2 with ⟨b,c,rfl,rfl⟩ | ⟨k,n,k',m,rfl,rfl⟩ | ⟨n,m,rfl,rfl⟩ | ⟨n,m,rfl,rfl,hg⟩
    ·have DX:(eqGuard .neq t x y (.bool b) (.bool c)).run E.P w=.ok () w:=rfl
     simp [DX,binOp,Op.equal,Op.maxDepth,k1]
    ·cases dK; cases pK; simp [BN] at hb
     cases hk:i.ek <;> simp [hk,k9] at lH
     exact absurd lH.1 hb
    ·cases dK; cases pK; simp [BN] at hb
    ·simp only [Sem.run_bind,run_eqGuard_agg w _ t x y n m hg,Result.andThen_ok,run_neq_struct,k1]
   ·cases hv
  ·cases hv
 refine ar h (c:=.bool r) ?_ (.bool r)
 simp only [Sem.run_bind] at key
 simp only [execOp,ho,Sem.run_bind,key,Result.andThen_ok,Sem.run_pure]
theorem IR (h:bi E R w β s a) (t:TypeId) (x:Operand) (ho:o.op=.unOp .not t x) {b:Bool} (hx:bw E s.af x=.v (.bool b)):bQ E R w β s a o (s.put o.dst (.v (.bool (!b)))):=by
 have rx:=aT h x
 rw [hx] at rx
 have dK:Rel R w (.bool b) (a.eval x):=rx
 generalize fy:a.eval x=xv at dK
 cases dK
 refine ar h (c:=.bool (!b)) ?_ (Rel.bool _)
 simp [execOp,ho,Op.unary,fy]
theorem IS (h:bi E R w β s a) (t:TypeId) (x:Operand) (ho:o.op=.unOp .neg t x) {k:IntKind} {n:Int} (hx:bw E s.af x=.v (.int k n)):bQ E R w β s a o (s.put o.dst (.v (.int k (k.wrap (0 - n))))):=by
 have rx:=aT h x
 rw [hx] at rx
 have dK:Rel R w (.int k n) (a.eval x):=rx
 generalize fy:a.eval x=xv at dK
 cases dK
 refine ar h (c:=.int k (k.wrap (0 - n))) ?_ (Rel.int _ _)
 simp [execOp,ho,Op.unary,Op.intArith,fy]
theorem zm:∀ (us:List Value) (off j0:Nat) (cells:Array Value),off+j0+us.length≤cells.size →
  ((us.zipIdx j0).foldl (fun (cs:Array Value) (p:Value × Nat)=>cs.setIfInBounds (off+p.2) p.1) cells).toList=cells.toList.take (off+j0)++us++cells.toList.drop (off+j0+us.length)
 | [],off,j0,cells,_=>by simp
 | u :: us,off,j0,cells,h=>by
  have cg:off+j0 < cells.size:=by simp at h; omega
  have ih:=zm us off (j0+1) (cells.setIfInBounds (off+j0) u) (by simp at h ⊢; omega)
  simp only [List.zipIdx_cons,List.foldl_cons]
  rw [ih]
  have e:=list_seg_step cells.toList (off+j0) u us (by simp at h ⊢; omega)
  simpa [Array.toList_setIfInBounds,Nat.add_assoc] using e
theorem nV (place:Nat→Option (Nat × Nat)):∀ {ps:List (Nat × AV)} {qs:List (Nat × Value)} {cells vJ:List AV} {vs:List Value},
  aM R w (ps.map (·.2)) (qs.map (·.2))→ps.map (·.1)=qs.map (·.1)→aM R w cells vs→(∀ x∈vs,x.oneCell'=true)→tH place cells ps=some vJ →
  ∃ us,Instr.fill place ⟨vs⟩ qs=some ⟨us⟩∧aM R w vJ us∧∀ x∈us,x.oneCell'=true
 | [],qs,cells,vJ,vs,h1,h2,h3,h4,h5=>by
  have:qs=[]:=by simpa using h2.symm
  subst this
  simp [tH] at h5
  subst h5
  exact ⟨vs,rfl,h3,h4⟩
 | (i,v) :: ps,[],cells,vJ,vs,h1,h2,h3,h4,h5=>by simp at h2
 | (i,v) :: ps,(j,c) :: qs,cells,vJ,vs,h1,h2,h3,h4,h5=>by
  simp only [List.map_cons,List.cons.injEq] at h2
  obtain ⟨rfl,h2⟩:=h2
  cases h1 with
  | cons hr h1=>
  unfold tH at h5
  split at h5
  ·cases h5
  ·rename_i off sz hp
   split at h5
   ·rename_i fF
    simp only [Bool.and_eq_true] at fF
    obtain ⟨⟨MD,hlen⟩,hle⟩:=fF
    have hlen:=Nat.eq_of_beq_eq_true hlen
    have hle:=Nat.le_of_ble_eq_true hle
    obtain ⟨c1,c2⟩:=Rel.cells hr MD
    have FA:c.cells.toList.length=sz:=by rw [← c1.length]; exact hlen
    have hb:off+v.cells.length≤cells.length:=by omega
    obtain ⟨us,u1,u2,u3⟩:=nV place h1 h2 (h3.bZ c1 hb) (iU h4 c2) h5
    refine ⟨us,?_,u2,u3⟩
    have eO:c.cells.size=sz:=by simpa using FA
    have QV:vs.length=cells.length:=h3.length.symm
    have zn:c.cells.zipIdx.foldl (fun (cs:Array Value) (x:Value × Nat)=>cs.setIfInBounds (off+x.2) x.1) ⟨vs⟩=⟨vs.take off++c.cells.toList++vs.drop (off+c.cells.toList.length)⟩:=by
     apply Array.ext'
     rw [← Array.foldl_toList,Array.toList_zipIdx]
     have:=zm c.cells.toList off 0 ⟨vs⟩ (by simp only [List.size_toArray]; omega)
     simpa using this
    have cC:(c.cells.size≠sz || decide (off+c.cells.size > (⟨vs⟩:Array Value).size))=false:=by
     have QU:decide (c.cells.size≠sz)=false:=by simp [eO]
     have hs2:decide (off+c.cells.size > (⟨vs⟩:Array Value).size)=false:=by
      rw [decide_eq_false_iff_not,eO]
      show ¬ off+sz > vs.length
      omega
     rw [QU,hs2]
     rfl
    unfold Instr.fill
    simp only [hp,cC,Bool.false_eq_true,if_false]
    rw [← u1]
    exact congrArg (fun z=>Instr.fill place z qs) zn
   ·cases h5
theorem u0 (h:bi E R w β s a):∀ {l:List (Nat × Operand)} {ps:List (Nat × AV)},MB E s.af l=some ps →
  aM R w (ps.map (·.2)) ((l.map fun x=>(x.1,a.eval x.2)).map (·.2))∧ps.map (·.1)=(l.map fun x=>(x.1,a.eval x.2)).map (·.1)
 | [],ps,hl=>by simp [MB] at hl; subst hl; exact ⟨.nil,rfl⟩
 | (i,x) :: l,ps,hl=>by
  unfold MB at hl
  split at hl
  ·rename_i v r h1 h2
   cases hl
   have hx:=aT h x
   rw [h1] at hx
   obtain ⟨g1,g2⟩:=u0 h h2
   exact ⟨.cons hx g1,by simpa using g2⟩
  ·cases hl
theorem DY (h:bi E R w β s a) (t:TypeId) (parts:Array (Nat × Operand)) (ho:o.op=.build t parts) {v:AV} (hv:mH E s t parts.toList=some v) :
  bQ E R w β s a o (s.put o.dst (.v v)):=by
 unfold mH at hv
 split at hv
 ·rename_i i ps hi Iq
  split at hv
  ·rename_i z hz
   split at hv
   ·rename_i cs oV
    split at hv
    ·rename_i Av
     cases hv
     simp only [Bool.and_eq_true] at Av
     obtain ⟨Av,qN⟩:=Av
     obtain ⟨gG,u,e1,e2,e3,e4,e5,e6⟩:=b7 E hi
     rw [hz] at e6
     obtain ⟨zc,qe,DB⟩:=cY e6
     obtain ⟨p1,p2⟩:=u0 h Iq
     obtain ⟨c1,c2⟩:=Rel.cells (DB R w) qN
     have Sc:(parts.map fun (x:Nat × Operand)=>(x.1,a.eval x.2)).toList=parts.toList.map fun x=>(x.1,a.eval x.2):=by simp
     have key:∃ us,E.P.built t (parts.toList.map fun x=>(x.1,a.eval x.2))=some ⟨us⟩∧aM R w cs us∧∀ x∈us,x.oneCell'=true:=by
      cases u <;> simp only [jA] at e4 <;> first | (rw [Av] at e4; cases e4; done) | skip
      ·rename_i n e
       simp only [pz] at e5
       split at e5
       ·rename_i ie ue f1 f2
        injection e5 with e5
        rw [← e5] at oV
        obtain ⟨us,u1,u2,u3⟩:=nV (R:=R) (w:=w) _ p1 p2 c1 c2 oV
        refine ⟨us,?_,u2,u3⟩
        unfold Program.built
        simp only [e1,e2,qe,f1]
        rw [← u1]
        rfl
       ·cases e5
      ·rename_i fs
       simp only [pz] at e5
       split at e5
       ·rename_i l hl
        injection e5 with e5
        rw [← e5] at oV
        obtain ⟨us,u1,u2,u3⟩:=nV (R:=R) (w:=w) _ p1 p2 c1 c2 oV
        refine ⟨us,?_,u2,u3⟩
        unfold Program.built
        simp only [e1,e2,qe,nC hl]
        rw [← u1]
        have YA:placeOf (.st l)=fun j=>(l.map fun x=>(x.1,x.2.1)).toArray[j]?:=by
         funext j
         simp only [placeOf,a8,List.getElem?_toArray,List.getElem?_map]
         cases l[j]? <;> rfl
        rw [YA]
       ·cases e5
     obtain ⟨us,u1,u2,u3⟩:=key
     refine ar h (c:=.agg ⟨us⟩) ?_ (Rel.agg u2 u3)
     have bt:=run_build (P:=E.P) w t (parts.map fun (x:Nat × Operand)=>(x.1,a.eval x.2)) ⟨us⟩ (by rw [Sc]; exact u1)
     simp only [execOp,ho,Sem.run_bind,bt,Result.andThen_ok,Sem.run_pure]
    ·cases hv
   ·cases hv
  ·cases hv
 ·cases hv
end ops
end Go.Am
