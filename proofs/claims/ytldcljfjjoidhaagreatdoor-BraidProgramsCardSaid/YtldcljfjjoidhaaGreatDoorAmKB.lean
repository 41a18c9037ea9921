/- The abstract machine: lists of cells; what keeps a state's meaning; loads and stores. -/
import Derived.Test.YtldcljfjjoidhaaGreatDoorAmKA
import Derived.Laws.CopyRow
import Derived.Laws.Slices
import Derived.Laws.StructEq
import Derived.ChangeKeysEq
set_option linter.all false
namespace Go.Am
open Go
section lists
variable {α:Type}
theorem ul (n:Nat) (l:List α):eK n l=l.drop n:=by
 induction n generalizing l with
 | zero=>simp [eK]
 | succ n ih=>cases l <;> simp [eK,ih]
theorem Hj {n:Nat} {l r:List α} (h:takeN n l=some r):r=l.take n∧r.length=n:=by
 induction n generalizing l r with
 | zero=>simp [takeN] at h; subst h; simp
 | succ n ih=>
  cases l with
  | nil=>simp [takeN] at h
  | cons a l=>
   unfold takeN at h
   split at h
   ·rename_i r' hr
    cases h
    obtain ⟨h1,h2⟩:=ih hr
    exact ⟨by simp [h1],by simp [h2]⟩
   ·cases h
theorem Qy {off n:Nat} {l r:List α} (h:Ed off n l=some r):r=(l.drop off).take n∧r.length=n:=by
 unfold Ed at h
 rw [ul] at h
 exact Hj h
theorem dQ (l:List α) (off:Nat) (ys:List α) (h:off+ys.length≤l.length):aZ l off ys=l.take off++ys++l.drop (off+ys.length):=by
 induction l generalizing off ys with
 | nil=>
  have hy:ys=[]:=List.eq_nil_of_length_eq_zero (by rw [List.length_nil] at h; omega)
  subst hy
  simp [aZ]
 | cons a l ih=>
  cases ys with
  | nil=>simp [aZ]
  | cons y ys=>
   cases off with
   | zero=>
    simp only [aZ]
    rw [ih 0 ys (by simp at h ⊢; omega)]
    simp
   | succ n=>
    simp only [aZ]
    rw [ih n (y :: ys) (by simp at h ⊢; omega)]
    rw [show n+1+(y :: ys).length=(n+(y :: ys).length)+1 by omega]
    simp
theorem wX (l:List α) (off:Nat) (ys:List α) (h:off+ys.length≤l.length):(aZ l off ys).length=l.length:=by
 rw [dQ l off ys h]
 simp
 omega
end lists
section rel
variable {R:ak} {w:World}
theorem aG.length {l:List AV} {vs:List Value} (h:aG R w l vs):l.length=vs.length:=by
 induction l generalizing vs with
 | nil=>cases h; rfl
 | cons a l ih=>cases h with | cons h t=>simp [ih t]
theorem aG.get {l:List AV} {vs:List Value} (h:aG R w l vs) {i:Nat} {a:AV} (ha:l[i]?=some a):∃ c,vs[i]?=some c∧Rel R w a c:=by
 induction l generalizing vs i with
 | nil=>simp at ha
 | cons x l ih=>
  cases h with
  | cons h t=>
   cases i with
   | zero=>simp at ha; subst ha; exact ⟨_,by simp,h⟩
   | succ i=>simp at ha; obtain ⟨c,h1,h2⟩:=ih t ha; exact ⟨c,by simpa using h1,h2⟩
theorem aG.drop {l:List AV} {vs:List Value} (h:aG R w l vs) (n:Nat):aG R w (l.drop n) (vs.drop n):=by
 induction n generalizing l vs with
 | zero=>simpa using h
 | succ n ih=>cases h with
  | nil=>simpa using aG.nil
  | cons h t=>simpa using ih t
theorem aG.take {l:List AV} {vs:List Value} (h:aG R w l vs) (n:Nat):aG R w (l.take n) (vs.take n):=by
 induction n generalizing l vs with
 | zero=>simpa using aG.nil
 | succ n ih=>cases h with
  | nil=>simpa using aG.nil
  | cons h t=>simpa using aG.cons h (ih t)
theorem aG.append {l r:List AV} {vs us:List Value} (h:aG R w l vs) (k:aG R w r us):aG R w (l++r) (vs++us):=by
 induction l generalizing vs with
 | nil=>cases h; simpa using k
 | cons a l ih=>cases h with | cons h t=>exact .cons h (ih t)
theorem aG.one {a:AV} {c:Value} (h:Rel R w a c):aG R w [a] [c]:=.cons h .nil
theorem Rel.cells {a:AV} {c:Value} (h:Rel R w a c) (ht:a.aR=true):aG R w a.cells c.cells.toList∧∀ v∈c.cells.toList,v.oneCell'=true:=by
 cases h with
 | agg h h1=>exact ⟨h,h1⟩
 | bg h=>simp [AV.aR] at ht
 | bool=>exact ⟨.one (.bool _),by simp [Value.cells,Value.oneCell']⟩
 | int=>exact ⟨.one (.int _ _),by simp [Value.cells,Value.oneCell']⟩
 | str=>exact ⟨.one (.str _),by simp [Value.cells,Value.oneCell']⟩
 | gD=>exact ⟨.one .gD,by simp [Value.cells,Value.oneCell']⟩
 | ptr h=>exact ⟨.one (.ptr h),by simp [Value.cells,Value.oneCell']⟩
 | ep h=>exact ⟨.one (.ep h),by simp [Value.cells,Value.oneCell']⟩
 | jc=>exact ⟨.one .jc,by simp [Value.cells,Value.oneCell']⟩
 | gW=>exact ⟨.one .gW,by simp [Value.cells,Value.oneCell']⟩
 | lL=>exact ⟨.one .lL,by simp [Value.cells,Value.oneCell']⟩
 | kY h ho=>exact ⟨.one (.kY h ho),by simp [Value.cells,Value.oneCell']⟩
 | kD h ho=>exact ⟨.one (.kD h ho),by simp [Value.cells,Value.oneCell']⟩
 | list h hl hc hk=>exact ⟨.one (.list h hl hc hk),by simp [Value.cells,Value.oneCell']⟩
 | ja h hc=>exact ⟨.one (.ja h hc),by simp [Value.cells,Value.oneCell']⟩
 | iq h ho=>exact ⟨.one (.iq h ho),by simp [Value.cells,Value.oneCell']⟩
 | du h ho hc=>exact ⟨.one (.du h ho hc),by simp [Value.cells,Value.oneCell']⟩
 | gp h ho=>exact ⟨.one (.gp h ho),by simp [Value.cells,Value.oneCell']⟩
 | ju=>exact ⟨.one .ju,by simp [Value.cells,Value.oneCell']⟩
 | map h=>exact ⟨.one (.map h),by simp [Value.cells,Value.oneCell']⟩
 | cb=>exact ⟨.one .cb,by simp [Value.cells,Value.oneCell']⟩
 | fn h h'=>exact ⟨.one (.fn h h'),by simp [Value.cells,Value.oneCell']⟩
 | yield h=>exact ⟨.one (.yield h),by simp [Value.cells,Value.oneCell']⟩
 | mC=>exact ⟨.one .mC,by simp [Value.cells,Value.oneCell']⟩
 | iface h=>exact ⟨.one (.iface h),by simp [Value.cells,Value.oneCell']⟩
mutual
theorem Rel.fJ:∀ {a:AV} {c:Value},Rel R w a c→Rel R w a.fJ c
 | _,_,.bool b=>.bool b
 | _,_,.int k n=>.int k n
 | _,_,.str l=>.str l
 | _,_,.agg h h1=>.agg h.fJ h1
 | _,_,.bg h=>.bg h.fJ
 | _,_,.gD=>.gD
 | _,_,.ptr h=>.ptr h
 | _,_,.ep h=>.ep h
 | _,_,.jc=>.jc
 | _,_,.gW=>.gW
 | _,_,.lL=>.lL
 | _,_,.kY _ _=>.gW
 | _,_,.kD _ _=>.gW
 | _,_,@Rel.list _ _ .nil _ _ _ _ _ _ h hl hc hk=>.list h hl hc hk
 | _,_,@Rel.list _ _ .full _ _ _ _ _ _ h hl hc hk=>.list h hl hc hk
 | _,_,@Rel.list _ _ .ka _ _ _ _ _ _ h hl hc hk=>.list h hl hc hk
 | _,_,@Rel.list _ _ (.own _) _ _ _ _ _ _ h hl hc _=>.list h hl hc trivial
 | _,_,@Rel.list _ _ (.a7 _ _) _ _ _ _ _ _ h hl hc _=>.list h hl hc trivial
 | _,_,.ja h hc=>.ja h hc
 | _,_,.iq h ho=>.iq h ho
 | _,_,.du h ho hc=>.du h ho hc
 | _,_,.gp h ho=>.gp h ho
 | _,_,.ju=>.ju
 | _,_,.map h=>.map h
 | _,_,.cb=>.cb
 | _,_,.fn h h'=>.fn h h'
 | _,_,.yield h=>.yield h
 | _,_,.mC=>.mC
 | _,_,.iface h=>.iface h
theorem aG.fJ:∀ {l:List AV} {cs:List Value},aG R w l cs→aG R w (kj l) cs
 | _,_,.nil=>.nil
 | _,_,.cons h t=>.cons h.fJ t.fJ
end
theorem dp.get {b o:Nat} {l:List AV} (h:dp R w b o l):∃ vs,aG R w l vs∧(∀ v∈vs,v.oneCell'=true)∧(∀ j v,vs[j]?=some v→w.cell? ⟨b,o+j,none⟩=some v)∧∀ j,j < l.length→R.I b (o+j):=by
 induction l generalizing o with
 | nil=>exact ⟨[],.nil,by simp,by simp,by simp⟩
 | cons a l ih=>
  cases h with
  | @cons _ _ _ c _ hc h1 hi h t=>
   obtain ⟨vs,k1,k2,k3,k4⟩:=ih t
   refine ⟨c :: vs,.cons h k1,?_,?_,?_⟩
   ·intro v hv
    rcases List.mem_cons.1 hv with rfl | hv
    ·exact h1
    ·exact k2 v hv
   ·intro j v hv
    cases j with
    | zero=>simp at hv; subst hv; exact hc
    | succ j=>simp at hv; have:=k3 j v hv; rwa [show o+1+j=o+(j+1) by omega] at this
   ·intro j hj
    cases j with
    | zero=>exact hi
    | succ j=>have:=k4 j (by simp at hj; omega); rwa [show o+1+j=o+(j+1) by omega] at this
theorem dp.make {b o:Nat} {l:List AV} {vs:List Value} (h:aG R w l vs) (h1:∀ v∈vs,v.oneCell'=true) (hc:∀ j v,vs[j]?=some v→w.cell? ⟨b,o+j,none⟩=some v) (hi:∀ j,j < l.length→R.I b (o+j)):dp R w b o l:=by
 induction l generalizing vs o with
 | nil=>exact .nil
 | cons a l ih=>
  cases h with
  | cons h t=>
   refine .cons (hc 0 _ (by simp)) (h1 _ (by simp)) (hi 0 (by simp)) h (ih t (fun v hv=>h1 v (by simp [hv])) (fun j v hv=>?_) (fun j hj=>?_))
   ·have:=hc (j+1) v (by simpa using hv); rwa [show o+(j+1)=o+1+j by omega] at this
   ·have:=hi (j+1) (by simpa using hj); rwa [show o+(j+1)=o+1+j by omega] at this
theorem dp.drop {b o:Nat} {l:List AV} (h:dp R w b o l) (n:Nat):dp R w b (o+n) (l.drop n):=by
 induction n generalizing o l with
 | zero=>simpa using h
 | succ n ih=>cases h with
  | nil=>simpa using dp.nil
  | cons hc h1 hi h t=>have:=ih t; rw [show o+1+n=o+(n+1) by omega] at this; simpa using this
end rel
theorem cg (b o n:Nat):(⟨b,o,none⟩:Addr).add n=⟨b,o+n,none⟩:=by unfold Addr.add; split <;> simp_all
section bo
variable {E:Env} {R R':ak} {w w':World} {β β':Nat→Nat} {s:St} {a:Act}
theorem mL.mono (e:Ext R w R' w') {sl:a6} {tm:Array Value} (h:mL R w β sl tm):mL R' w' β sl tm:=
 fun i hi=>let ⟨c,h1,h2⟩:=h i hi; ⟨c,h1,h2.mono e⟩
theorem cV.mono (e:Ext R w R' w'):∀ {l:List (AV × AV)} {es:List MapEntry},cV R w l es→cV R' w' l es
 | [],[],_=>trivial
 | (_,_) :: _,_ :: _,h=>⟨h.1.mono e,h.2.1.mono e,cV.mono e h.2.2⟩
 | [],_ :: _,h=>h.elim
 | _ :: _,[],h=>h.elim
theorem mM {w w':World} {b:Nat} (h:b < w.heap.size) (e:w'.heap[b]?=w.heap[b]?):b < w'.heap.size:=by
 rw [Array.getElem?_eq_getElem h] at e
 exact (Array.getElem?_eq_some_iff.1 e).1
theorem fM.mono (e:Ext R w R' w') {go:GO} {ro:RO} (h:fM R w go ro) (hb:∀ b,ro.has b→w'.heap[b]?=w.heap[b]?) (hi:∀ b o,ro.has b→R'.I b o→R.I b o):fM R' w' go ro:=by
 cases ro with
 | none=>cases go <;> first | exact h | exact h.elim
 | bA=>cases go <;> first | exact h | exact h.elim
 | bT b=>
  have jy:=hb b rfl
  cases go with
  | dead=>exact mM h jy
  | row cs el=>obtain ⟨vs,h1,h2,h3,h4⟩:=h; exact ⟨vs,jy.trans h1,h2.mono e,h3,fun o ho=>h4 o (hi b o rfl ho)⟩
  | tok f sz el=>exact h.elim
  | a7 _ _ _=>exact h.elim
  | my pj n left _=>obtain ⟨bm,seen,c0,h1,h2,h3⟩:=h; exact ⟨bm,seen,c0,e.bT h1,jy.trans h2,h3⟩
  | cO es sz el=>exact h.elim
  | map es=>obtain ⟨aw,clock,h1,h2,h3⟩:=h; exact ⟨aw,clock,jy.trans h1,cV.mono e h2,h3⟩
  | fB l pos=>exact jy.trans h
  | loop busy pending fn ae n params assign body defers done=>
   obtain ⟨⟨r,db,h1,h2,h3,h4,h5,h6,h7,h8,h9,h11⟩,h10⟩:=h
   exact ⟨⟨r,db,jy.trans h1,h2,h3,h4.mono e,h5,h6,h7,h8,h9,e.bT h11⟩,h10⟩
  | defers o=>exact jy.trans h
 | tok f b c=>
  have jy:=hb b rfl
  cases go with
  | tok f' sz el=>
   obtain ⟨h0,cur,h1,h2,h3,h4,h5⟩:=h
   exact ⟨h0,cur,jy.trans h1,h2,h3,h4,fun o ho ru=>h5 o ho (hi b o rfl ru)⟩
  | cO es sz el=>
   obtain ⟨h0,oL,cur,vs,h1,h2,h3,h4,h5,h6,h7,h8⟩:=h
   exact ⟨h0,oL,cur,vs,jy.trans h1,h2,h3,h4,fun o ho=>h5 o (hi b o rfl ho),h6.mono e,h7,h8⟩
  | dead=>exact mM h jy
  | row cs=>exact h.elim
  | a7 _ _ _=>exact h.elim
  | my _ _ _ _=>exact h.elim
  | map es=>exact h.elim
  | fB l pos=>exact h.elim
  | loop=>exact h.elim
  | defers o=>exact h.elim
 | a7 ts=>
  cases go with
  | a7 fs sz el=>
   obtain ⟨h1,h2,h3⟩:=h
   refine ⟨h1,h2,fun j f t hf ht=>?_⟩
   have h4:=h3 j f t hf ht
   cases t with
   | bA=>exact h4
   | full f'=>exact h4
   | tok f' b c=>
    obtain ⟨h5,cur,k1,k2,k3,k4,k5⟩:=h4
    have hh:RO.has (.a7 ts) b:=⟨j,f',c,ht⟩
    exact ⟨h5,cur,(hb b hh).trans k1,k2,k3,k4,fun o ho ru=>k5 o ho (hi b o hh ru)⟩
  | dead=>exact fun j f b c ht=>mM (h j f b c ht) (hb b ⟨j,f,c,ht⟩)
  | _=>exact h.elim
theorem Live.of {id b:Nat} {ro:RO} (h:nth R.obj id=some ro) (hb:ro.has b):Live R b:=⟨id,ro,h,hb⟩
theorem cW.bo {G:List GO} (h:cW E R w G) (e:Ext R w R' w') (ho:R'.obj=R.obj) (hb:∀ b,Live R b→w'.heap[b]?=w.heap[b]?) (hi:∀ b o,Live R b→R'.I b o→R.I b o) (wf:∀ b o,R'.I b o→b < w'.heap.size) (hd:E.lo≤w.drawn→E.lo≤w'.drawn:=by first | exact fun h=>h | exact fun h=>Nat.le_succ_of_le h):cW E R' w' G where
 lo:=hd h.lo
 len:=by rw [ho]; exact h.len
 obj:=fun id go ro hg hr=>by
  rw [ho] at hr
  exact (h.obj id go ro hg hr).mono e (fun b T3=>hb b (.of hr T3)) (fun b o T3=>hi b o (.of hr T3))
 inj:=fun i j ri rj b h1 h2=>by rw [ho] at h1 h2; exact h.inj i j ri rj b h1 h2
 wf:=wf
 bY:=fun g cs hg=>(h.bY g cs hg).mono e
theorem Lk.bo {bx:cp} (h:Lk R w β bx) (e:Ext R w R' w') (hb:∀ k cs,dc bx k=some cs→w'.heap[β k]?=w.heap[β k]?) (hi:∀ k cs o,dc bx k=some cs→R'.I (β k) o→R.I (β k) o) (hl:∀ k cs,dc bx k=some cs→Live R' (β k)→Live R (β k)):Lk R' w' β bx where
 box:=fun k cs hk=>by
  obtain ⟨⟨vs,el,h1,h2,h3⟩,h4,h5⟩:=h.box k cs hk
  exact ⟨⟨vs,el,(hb k cs hk).trans h1,h2.mono e,h3⟩,fun o ho=>h4 o (hi k cs o hk ho),fun Ae=>h5 (hl k cs hk Ae)⟩
 inj:=h.inj
theorem oC.mono (e:Ext R w R' w'):∀ {l:List Nat} {ds:List Deferred},oC R l ds→oC R' l ds
 | [],[],_=>trivial
 | _ :: _,_ :: _,h=>let ⟨⟨b,h1,h2⟩,h3⟩:=h; ⟨⟨b,e.bT h1,h2⟩,oC.mono e h3⟩
 | [],_ :: _,h=>h.elim
 | _ :: _,[],h=>h.elim
theorem ba.bo (h:ba E R w β s a) (e:Ext R w R' w') (ho:R'.obj=R.obj) (hb:∀ b,Own R β s.boxes b→w'.heap[b]?=w.heap[b]?) (hi:∀ b o,Own R β s.boxes b→R'.I b o→R.I b o) (wf:∀ b o,R'.I b o→b < w'.heap.size) (hd:E.lo≤w.drawn→E.lo≤w'.drawn:=by first | exact fun h=>h | exact fun h=>Nat.le_succ_of_le h):ba E R' w' β s a where
 g:=h.g.bo e ho (fun b hl=>hb b (.inl hl)) (fun b o hl=>hi b o (.inl hl)) wf hd
 b:=h.b.bo e (fun k cs hk=>hb _ (.inr ⟨k,cs,hk,rfl⟩)) (fun k cs o hk=>hi _ o (.inr ⟨k,cs,hk,rfl⟩)) (fun k cs _ hl=>by obtain ⟨id,ro,h1,h2⟩:=hl; rw [ho] at h1; exact ⟨id,ro,h1,h2⟩)
 t:=h.t.mono e
 n:=h.n
 d:=h.d.mono e
theorem bc {w:World} {b:Nat} {o:Obj} (h:w.heap[b]?=some o):b < w.heap.size:=(Array.getElem?_eq_some_iff.1 h).1
theorem fM.lt {go:GO} {ro:RO} (h:fM R w go ro) {b:Nat} (hb:ro.has b):b < w.heap.size:=by
 cases ro with
 | none=>exact hb.elim
 | bA=>exact hb.elim
 | bT x=>
  have hb:b=x:=hb
  subst hb
  cases go with
  | dead=>exact h
  | row cs el=>obtain ⟨vs,h1,_⟩:=h; exact bc h1
  | tok f sz el=>exact h.elim
  | a7 _ _ _=>exact h.elim
  | my pj n left _=>obtain ⟨bm,seen,c0,_,h2,_⟩:=h; exact bc h2
  | cO es sz el=>exact h.elim
  | map es=>obtain ⟨aw,clock,h1,_⟩:=h; exact bc h1
  | fB l pos=>exact bc h
  | loop=>obtain ⟨⟨r,db,h1,_⟩,_⟩:=h; exact bc h1
  | defers o=>exact bc h
 | tok f x c=>
  have hb:b=x:=hb
  subst hb
  cases go with
  | tok f' sz el=>obtain ⟨_,cur,h1,_⟩:=h; exact bc h1
  | cO es sz el=>obtain ⟨_,_,cur,vs,h1,_⟩:=h; exact bc h1
  | dead=>exact h
  | row cs=>exact h.elim
  | a7 _ _ _=>exact h.elim
  | my _ _ _ _=>exact h.elim
  | map es=>exact h.elim
  | fB l pos=>exact h.elim
  | loop=>exact h.elim
  | defers o=>exact h.elim
 | a7 ts=>
  obtain ⟨j,f,c,ht⟩:=hb
  cases go with
  | a7 fs sz el=>
   obtain ⟨h1,h2,h3⟩:=h
   have bP:=bH ht
   rw [h1] at bP
   obtain ⟨f',hf⟩:∃ f',nth fs j=some f':=⟨fs[j],by rw [aX]; exact List.getElem?_eq_getElem bP⟩
   obtain ⟨_,cur,k1,_⟩:=h3 j f' _ hf ht
   exact bc k1
  | dead=>exact h j f b c ht
  | _=>exact h.elim
theorem cW.bS {G:List GO} (h:cW E R w G) {b:Nat} (hl:Live R b):b < w.heap.size:=by
 obtain ⟨id,ro,h1,h2⟩:=hl
 have bP:=bH h1
 rw [h.len] at bP
 obtain ⟨go,gC⟩:∃ go,nth G id=some go:=⟨G[id],by rw [aX]; exact List.getElem?_eq_getElem bP⟩
 exact (h.obj id go ro gC h1).lt h2
theorem ba.dD (h:ba E R w β s a) {b:Nat} (ho:Own R β s.boxes b):b < w.heap.size:=by
 rcases ho with hl | ⟨k,cs,hk,rfl⟩
 ·exact h.g.bS hl
 ·obtain ⟨⟨vs,el,h1,_⟩,_⟩:=h.b.box k cs hk
  exact bc h1
theorem bU {w w':World} {b:Nat} (h:w'.heap[b]?=w.heap[b]?) (o:Nat):w'.cell? ⟨b,o,none⟩=w.cell? ⟨b,o,none⟩:=by simp [World.cell?,h]
theorem rv (wf:∀ b o,R.I b o→b < w.heap.size) (x:Obj):Ext R w R (w.alloc x):=
 ⟨fun _ _ h=>h,fun b o h=>bU (heap_alloc_old w x b (wf b o h)) o,fun _ ro h=>⟨ro,h,ca.refl ro⟩,.old fun b hb=>heap_alloc_old w x b hb⟩
theorem ba.alloc (h:ba E R w β s a) (x:Obj):ba E R (w.alloc x) β s a:=
 h.bo (rv h.g.wf x) rfl (fun b hb=>heap_alloc_old w x b (h.dD hb)) (fun _ _ _ hi=>hi) (fun b o hi=>by have:=h.g.wf b o hi; simp; omega)
end bo
end Go.Am
namespace Go.Am
open Go
theorem Hk {a b:AV} (h:Hd a b=true):a=b:=by
 unfold Hd at h
 split at h
 all_goals (first | (cases h; done) | skip)
 all_goals (try simp only [Bool.and_eq_true,beq_iff_eq,Nat.beq_eq] at h)
 all_goals (simp [*])
mutual
theorem iu:∀ {a b:AV},dE a b=true→a=b:=by
 intro a b h
 unfold dE at h
 split at h
 ·simp only [Bool.and_eq_true,Nat.beq_eq] at h; rw [h.1.1,eV h.1.2,eV h.2]
 ·rw [eV h]
 ·rw [eV h]
 ·rw [eV h]
 ·simp only [Bool.and_eq_true,Nat.beq_eq] at h; rw [h.1,eV h.2]
 ·simp only [Bool.and_eq_true,Nat.beq_eq] at h; rw [h.1,eV h.2]
 ·simp only [Bool.and_eq_true,Nat.beq_eq] at h; rw [h.1,eV h.2]
 ·simp only [Bool.and_eq_true,Nat.beq_eq] at h; rw [h.1.1,h.1.2,eV h.2]
 ·simp only [Bool.and_eq_true,Nat.beq_eq] at h; rw [h.1.1.1,h.1.1.2,h.1.2,eV h.2]
 ·exact Hk h
theorem eV:∀ {l r:List AV},kU l r=true→l=r:=by
 intro l r h
 unfold kU at h
 split at h
 ·rfl
 ·rw [Bool.and_eq_true] at h; rw [iu h.1,eV h.2]
 ·cases h
end
def yS (a b:AV):Prop:=∀ (R:ak) (w:World) (c:Value),Rel R w a c→Rel R w b c
def cq:List AV→List AV→Prop
 | [],[]=>True
 | a :: l,b :: r=>yS a b∧cq l r
 | _,_=>False
theorem yS.refl (a:AV):yS a a:=fun _ _ _ h=>h
theorem cq.refl:∀ l:List AV,cq l l
 | []=>trivial
 | a :: l=>⟨yS.refl a,cq.refl l⟩
theorem cq.length:∀ {l r:List AV},cq l r→l.length=r.length
 | [],[],_=>rfl
 | _ :: _,_ :: _,h=>by simp [cq.length h.2]
 | [],_ :: _,h=>h.elim
 | _ :: _,[],h=>h.elim
theorem cq.rel {R:ak} {w:World}:∀ {l r:List AV} {cs:List Value},cq l r→aG R w l cs→aG R w r cs
 | [],[],_,_,h=>h
 | _ :: _,_ :: _,_,k,.cons h t=>.cons (k.1 _ _ _ h) (cq.rel k.2 t)
 | [],_ :: _,_,h,_=>h.elim
 | _ :: _,[],_,h,_=>h.elim
theorem cq.Hl {R:ak} {w:World}:∀ {l r:List AV} {b o:Nat},cq l r→dp R w b o l→dp R w b o r
 | [],[],_,_,_,_=>.nil
 | _ :: _,_ :: _,_,_,k,.cons hc h1 hi h t=>.cons hc h1 hi (k.1 _ _ _ h) (cq.Hl k.2 t)
 | [],_ :: _,_,_,h,_=>h.elim
 | _ :: _,[],_,_,h,_=>h.elim
theorem cq.append:∀ {a b c d:List AV},cq a b→cq c d→cq (a++c) (b++d)
 | [],[],_,_,_,h=>h
 | _ :: _,_ :: _,_,_,k,h=>⟨k.1,cq.append k.2 h⟩
 | [],_ :: _,_,_,h,_=>h.elim
 | _ :: _,[],_,_,h,_=>h.elim
structure gV (v u:AV):Prop where
 fJ:yS v u
 bg:u.aR=v.aR
 cells:v.aR=true→cq v.cells u.cells
 closed:v.closed=true→u.closed=true
theorem tG {u v a:AV} (h:(aj.two u v).fits a=true):(aj.two u v).enc ((aj.two u v).bi a)=a:=by
 change (dE a u || dE a v)=true at h
 change (bif dE a v then v else u)=a
 cases hs:dE a v with
 | true=>exact (iu hs).symm
 | false=>
  rw [hs,Bool.or_false] at h
  exact (iu h).symm
theorem gV.refl (v:AV):gV v v:=⟨yS.refl v,rfl,fun _=>cq.refl _,fun h=>h⟩
theorem Cs {a b:IntKind} (h:Qt a b=true):a=b:=of_decide_eq_true h
theorem qe {α:Type} {f:AV→Bool} {d:AV→α} {g:α→AV} (Eh:∀ v,f v=true→gV v (g (d v))) {R:ak} {w:World} :
  ∀ {es:List AV} {b o sz:Nat},allFit f es=true→fk R w b o sz es→fk R w b o sz ((es.map d).map g)
 | [],b,o,sz,_,_=>.nil
 | e :: es,b,o,sz,h,hr=>by
  simp only [allFit,Bool.and_eq_true] at h
  cases hr with
  | cons hl ht hk hc t=>
   have d':=Eh e h.1
   have wc:=d'.cells ht
   exact .cons (by rw [← wc.length,hl]) (by rw [d'.bg,ht]) (d'.closed hk) (wc.Hl hc) (qe Eh h.2 t)
theorem FD {R:ak} {w:World} {b o sz bG:Nat} {es:List AV} (h:es=[]∨sz=bG) (hr:fk R w b o bG es):fk R w b o sz es:=by
 rcases h with rfl | rfl
 ·exact .nil
 ·exact hr
theorem FE {α:Type} {f:AV→Bool} {d:AV→α} {g:α→AV} (Eh:∀ v,f v=true→gV v (g (d v))) {k:LK} {sz bG:Nat} {es:List AV} (hs:es=[]∨sz=bG) (h:allFit f es=true) :
  yS (.list k bG es) (.list .ka sz ((es.map d).map g)):=fun R w c hr=>by
 cases hr with
 | jc=>exact .gW
 | gW=>exact .gW
 | lL=>exact .lL
 | kY _ _=>exact .gW
 | kD _ _=>exact .gW
 | list hr hlen hc hk=>exact .list (qe Eh h (FD hs hr)) (by simp [hlen]) hc trivial
theorem Hm {α:Type} {f:AV→Bool} {d:AV→α} {g:α→AV} (Eh:∀ v,f v=true→gV v (g (d v))) {id sz:Nat} {es:List AV} (h:allFit f es=true) :
  yS (.list (.own id) sz es) (.list (.own id) sz ((es.map d).map g)):=fun R w c hr=>by
 cases hr with
 | kY h1 h2=>exact .kY h1 h2
 | list hr hlen hc hk=>exact .list (qe Eh h hr) (by simp [hlen]) hc hk
theorem Hn {α:Type} {f:AV→Bool} {d:AV→α} {g:α→AV} (Eh:∀ v,f v=true→gV v (g (d v))) {id j sz:Nat} {es:List AV} (h:allFit f es=true) :
  yS (.list (.a7 id j) sz es) (.list (.a7 id j) sz ((es.map d).map g)):=fun R w c hr=>by
 cases hr with
 | kD h1 h2=>exact .kD h1 h2
 | list hr hlen hc hk=>exact .list (qe Eh h hr) (by simp [hlen]) hc hk
mutual
theorem aj.cE:∀ (p:aj) {v:AV},p.fits v=true→gV v (p.enc (p.bi v))
 | .int k,v,h=>by
  cases v with
  | int k' n=>
   have hk:Qt k k'=true:=h
   rw [Cs hk]
   exact gV.refl _
  | _=>cases h
 | .bool,v,h=>by
  cases v with
  | bool b=>exact gV.refl _
  | _=>cases h
 | .str,v,h=>by
  cases v with
  | str b=>exact gV.refl _
  | _=>cases h
 | .agg ps,v,h=>by
  cases v with
  | agg cs=>
   obtain ⟨h1,h2⟩:=ps.cE (show ps.fits cs=true from h)
   exact ⟨fun R w c hr=>by cases hr with | agg hr um=>exact .agg (h1.rel hr) um,rfl,fun _=>h1,fun hc=>by
    have tg:aA cs=true:=by simpa [AV.closed] using hc
    show AV.closed (.agg (ps.enc (ps.bi cs)))=true
    simp only [AV.closed]; exact h2 tg⟩
  | _=>cases h
 | .bg ps,v,h=>by
  cases v with
  | bg cs=>
   obtain ⟨h1,h2⟩:=ps.cE (show ps.fits cs=true from h)
   exact ⟨fun R w c hr=>by cases hr with | bg hr=>exact .bg (h1.rel hr),rfl,fun hn=>by simp [AV.aR] at hn,fun hc=>by
    have tg:aA cs=true:=by simpa [AV.closed] using hc
    show AV.closed (.bg (ps.enc (ps.bi cs)))=true
    simp only [AV.closed]; exact h2 tg⟩
  | _=>cases h
 | .list sz p,v,h=>by
  cases v with
  | list k bG es=>
   have hb:((Nat.beq sz bG || es.isEmpty)&&allFit p.fits es)=true:=h
   simp only [Bool.and_eq_true,Bool.or_eq_true,Nat.beq_eq,List.isEmpty_iff] at hb
   have hw:=FE (k:=k) (fun v=>p.cE) hb.1.symm hb.2
   exact ⟨hw,rfl,fun _=>⟨hw,trivial⟩,fun _=>rfl⟩
  | _=>cases h
 | .own id sz p,v,h=>by
  cases v with
  | list k bG es=>
   cases k with
   | own iN=>
    have hb:((Nat.beq id iN&&Nat.beq sz bG)&&allFit p.fits es)=true:=h
    simp only [Bool.and_eq_true,Nat.beq_eq] at hb
    obtain ⟨⟨rfl,rfl⟩,hf⟩:=hb
    have hw:=Hm (id:=id) (sz:=sz) (fun v=>p.cE) hf
    exact ⟨hw,rfl,fun _=>⟨hw,trivial⟩,fun hc=>by simp [AV.closed,LK.closed] at hc⟩
   | _=>cases h
  | _=>cases h
 | .a7 id sz p,v,h=>by
  cases v with
  | list k bG es=>
   cases k with
   | a7 iN j=>
    have hb:((Nat.beq id iN&&Nat.beq sz bG)&&allFit p.fits es)=true:=h
    simp only [Bool.and_eq_true,Nat.beq_eq] at hb
    obtain ⟨⟨rfl,rfl⟩,hf⟩:=hb
    have hw:=Hn (id:=id) (j:=j) (sz:=sz) (fun v=>p.cE) hf
    exact ⟨hw,rfl,fun _=>⟨hw,trivial⟩,fun hc=>by simp [AV.closed,LK.closed] at hc⟩
   | _=>cases h
  | _=>cases h
 | .fe u,v,h=>by
  have:=iu (show dE v u=true from h)
  subst this
  exact gV.refl _
 | .two u v,a,h=>by
  have hv:(aj.two u v).enc ((aj.two u v).bi a)=a:=tG h
  rw [hv]
  exact gV.refl _
theorem aH.cE:∀ (ps:aH) {l:List AV},ps.fits l=true→cq l (ps.enc (ps.bi l))∧(aA l=true→aA (ps.enc (ps.bi l))=true)
 | .nil,l,h=>by
  cases l with
  | nil=>exact ⟨trivial,fun h=>h⟩
  | cons _ _=>cases h
 | .cons p .nil,l,h=>by
  match l,h with
  | [],h=>cases h
  | a :: l,h=>
   have h':(p.fits a&&l.isEmpty)=true:=h
   simp only [Bool.and_eq_true,List.isEmpty_iff] at h'
   obtain ⟨h1,rfl⟩:=h'
   have d:=p.cE h1
   exact ⟨⟨d.fJ,trivial⟩,fun hc=>by
    simp only [aA,Bool.and_true] at hc
    show aA [p.enc (p.bi a)]=true
    simp only [aA,Bool.and_true]
    exact d.closed hc⟩
 | .cons p (.cons q ps),l,h=>by
  cases l with
  | nil=>cases h
  | cons a l=>
   have h':(p.fits a&&(aH.cons q ps).fits l)=true:=h
   rw [Bool.and_eq_true] at h'
   have d:=p.cE h'.1
   obtain ⟨k1,k2⟩:=(aH.cons q ps).cE h'.2
   exact ⟨⟨d.fJ,k1⟩,fun hc=>by
    simp only [aA,Bool.and_eq_true] at hc
    show aA (p.enc (p.bi a) :: (aH.cons q ps).enc ((aH.cons q ps).bi l))=true
    simp only [aA,Bool.and_eq_true]
    exact ⟨d.closed hc.1,k2 hc.2⟩⟩
end
theorem aj.pn (p:aj) {v:AV} {x:p.T} (h:p.dec v=some x):gV v (p.enc x):=by
 unfold aj.dec at h
 cases hf:p.fits v with
 | true=>rw [hf] at h; cases h; exact p.cE hf
 | false=>rw [hf] at h; cases h
theorem aH.pn (ps:aH) {l:List AV} {x:ps.T} (h:ps.dec l=some x):cq l (ps.enc x)∧(aA l=true→aA (ps.enc x)=true):=by
 unfold aH.dec at h
 cases hf:ps.fits l with
 | true=>rw [hf] at h; cases h; exact ps.cE hf
 | false=>rw [hf] at h; cases h
mutual
def aj.plain:aj→Bool
 | .agg ps=>ps.plain
 | .bg ps=>ps.plain
 | .list _ p=>p.plain
 | .own _ _ p=>p.plain
 | .a7 _ _ p=>p.plain
 | .fe v=>dE v v
 | .two u v=>dE u u&&dE v v&&!dE u v
 | _=>true
def aH.plain:aH→Bool
 | .nil=>true
 | .cons p ps=>p.plain&&ps.plain
end
theorem lP {α:Type} {f:AV→Bool} {g:α→AV} (h:∀ x,f (g x)=true):∀ xs:List α,allFit f (xs.map g)=true
 | []=>rfl
 | x :: xs=>by simp only [List.map_cons,allFit,h x,lP h xs,Bool.and_self]
theorem tH {α:Type} {d:AV→α} {g:α→AV} (h:∀ x,d (g x)=x):∀ xs:List α,(xs.map g).map d=xs
 | []=>rfl
 | x :: xs=>by simp only [List.map_cons,h x,tH h xs]
mutual
theorem aj.bK:∀ (p:aj) (x:p.T),p.plain=true→p.fits (p.enc x)=true∧p.bi (p.enc x)=x
 | .int k,x,_=>⟨decide_eq_true rfl,rfl⟩
 | .bool,x,_=>⟨rfl,rfl⟩
 | .str,x,_=>⟨rfl,rfl⟩
 | .agg ps,x,h=>ps.bK x h
 | .bg ps,x,h=>ps.bK x h
 | .list sz p,x,h=>by
  refine ⟨?_,tH (fun y=>(p.bK y h).2) x⟩
  change ((Nat.beq sz sz || (List.map p.enc x).isEmpty)&&allFit p.fits (List.map p.enc x))=true
  rw [Nat.beq_refl,Bool.true_or,Bool.true_and]
  exact lP (fun y=>(p.bK y h).1) x
 | .own id sz p,x,h=>by
  refine ⟨?_,tH (fun y=>(p.bK y h).2) x⟩
  change ((Nat.beq id id&&Nat.beq sz sz)&&allFit p.fits (List.map p.enc x))=true
  rw [Nat.beq_refl,Nat.beq_refl,Bool.true_and,Bool.true_and]
  exact lP (fun y=>(p.bK y h).1) x
 | .a7 id sz p,(x:Nat × List p.T),h=>by
  refine ⟨?_,?_⟩
  ·change ((Nat.beq id id&&Nat.beq sz sz)&&allFit p.fits (List.map p.enc x.2))=true
   rw [Nat.beq_refl,Nat.beq_refl,Bool.true_and,Bool.true_and]
   exact lP (fun y=>(p.bK y h).1) x.2
  ·change (x.1,(List.map p.enc x.2).map p.bi)=x
   rw [tH (fun y=>(p.bK y h).2) x.2]
 | .fe v,x,h=>⟨h,rfl⟩
 | .two u v,(x:Bool),h=>by
  change (dE u u&&dE v v&&!dE u v)=true at h
  simp only [Bool.and_eq_true,Bool.not_eq_true'] at h
  obtain ⟨⟨h1,h2⟩,h3⟩:=h
  cases x
  ·exact ⟨by change (dE u u || dE u v)=true; rw [h1]; rfl,h3⟩
  ·exact ⟨by change (dE v u || dE v v)=true; rw [h2,Bool.or_true],h2⟩
theorem aH.bK:∀ (ps:aH) (x:ps.T),ps.plain=true→ps.fits (ps.enc x)=true∧ps.bi (ps.enc x)=x
 | .nil,x,_=>⟨rfl,rfl⟩
 | .cons p .nil,x,h=>by
  have h':(p.plain&&true)=true:=h
  rw [Bool.and_true] at h'
  have:=p.bK x h'
  exact ⟨by change (p.fits (p.enc x)&&true)=true; rw [this.1]; rfl,this.2⟩
 | .cons p (.cons q ps),x,h=>by
  have h':(p.plain&&(aH.cons q ps).plain)=true:=h
  rw [Bool.and_eq_true] at h'
  have h1:=p.bK x.1 h'.1
  have h2:=(aH.cons q ps).bK x.2 h'.2
  refine ⟨?_,?_⟩
  ·change (p.fits (p.enc x.1)&&(aH.cons q ps).fits ((aH.cons q ps).enc x.2))=true
   rw [h1.1,h2.1]
   rfl
  ·change (p.bi (p.enc x.1),(aH.cons q ps).bi ((aH.cons q ps).enc x.2))=x
   rw [h1.2,h2.2]
   rfl
end
end Go.Am
namespace Go.Am
open Go
theorem bZ (E:Env) {t:TypeId} {i:TI} (h:E.ti t=some i) :
  ∃ fN u,E.P.info? t=some fN∧E.P.underlying t=some u∧fN.size=i.size∧iO u=i.agg∧oz E.P u=some i.k∧fg fN=i.zero:=by
 have h1:=E.Fu t i h
 unfold Ft at h1
 split at h1
 ·rename_i fN u h2 h3
  split at h1
  ·rename_i k hk
   cases h1
   exact ⟨fN,u,h2,h3,rfl,rfl,hk,rfl⟩
  ·cases h1
 ·cases h1
section runs
variable {P:Program} (w:World)
theorem xJ {t:TypeId} {u:TypeDesc} (h:P.underlying t=some u):(isAgg t).run P w=.ok (iO u) w:=by
 unfold isAgg
 simp only [Sem.run_bind,run_underlying h,Result.andThen_ok]
 cases u <;> rfl
theorem run_sizeOf {t:TypeId} {i:TypeInfo} (h:P.info? t=some i):(sizeOf t).run P w=.ok i.size w:=by
 simp [sizeOf,typeInfo,h]
theorem fO {t:TypeId} {i:TypeInfo} {z:Value} (h:P.info? t=some i) (hz:i.zero=some z):(zeroValue t).run P w=.ok z w:=by
 simp [zeroValue,typeInfo,h,hz]
theorem uo (t:TypeId) (v:Value):(newVar t v).run P w=.ok ⟨w.heap.size,0,none⟩ (w.alloc (.cells v.cells t)):=by
 simp only [newVar,newRow,Sem.run_bind,run_newObj,Result.andThen_ok,Sem.run_pure]
 rfl
end runs
theorem uq {R:ak} {w:World} {ag:Bool} {l:List AV} {v:AV} {vs:List Value} (hm:ra ag l=some v) (h:aG R w l vs) (h1:∀ x∈vs,x.oneCell'=true) :
  (ag=true→Rel R w v (.agg ⟨vs⟩))∧(ag=false→∃ c,vs=[c]∧Rel R w v c):=by
 unfold ra at hm
 cases ag with
 | true=>
  simp at hm
  subst hm
  exact ⟨fun _=>.agg h h1,fun e=>by cases e⟩
 | false=>
  refine ⟨(fun e=>by cases e),fun _=>?_⟩
  simp only [Bool.false_eq_true,if_false] at hm
  split at hm
  ·cases hm
   cases h with
   | cons h t=>
    cases t
    exact ⟨_,rfl,h⟩
  ·cases hm
theorem mN {E:Env} {R:ak} {w:World} {t:TypeId} {i:TI} (hi:E.ti t=some i) {b off:Nat} {l:List AV} {vs:List Value} {v:AV}
  (hl:l.length=i.size) (hr:aG R w l vs) (h1:∀ x∈vs,x.oneCell'=true) (hc:∀ j x,vs[j]?=some x→w.cell? ⟨b,off+j,none⟩=some x) (hm:ra i.agg l=some v) :
  ∃ c,(loadVar t ⟨b,off,none⟩).run E.P w=.ok c w∧Rel R w v c:=by
 obtain ⟨fN,u,e1,e2,e3,e4,_⟩:=bZ E hi
 obtain ⟨m1,m2⟩:=uq hm hr h1
 unfold loadVar
 simp only [Sem.run_bind,xJ w e2,Result.andThen_ok,e4]
 cases ha:i.agg with
 | true=>
  refine ⟨.agg ⟨vs⟩,?_,m1 ha⟩
  have hlen:fN.size=vs.length:=by rw [e3,← hl,hr.length]
  have:=run_loadCells_list (P:=E.P) w ⟨b,off,none⟩ vs (fun j x hx=>by rw [cg]; exact hc j x hx)
  simp [run_sizeOf w e1,hlen,this]
 | false=>
  obtain ⟨c,rfl,dM⟩:=m2 ha
  refine ⟨c,?_,dM⟩
  have:=hc 0 c (by simp)
  simp only [Nat.add_zero] at this
  simp [run_load,this]
theorem iw {w:World} {b:Nat} {vs:List Value} {el:TypeId} {fr:Nat × Nat} (h:w.heap[b]?=some (.cells ⟨vs⟩ el fr)) (j:Nat):w.cell? ⟨b,j,none⟩=vs[j]?:=by
 simp [World.cell?,h]
theorem sy {E:Env} {R:ak} {w:World} {β:Nat→Nat} {s:St} {a:Act} (h:ba E R w β s a) {p:SV} {c:Value} (hp:oB R w β p c) {cs:List AV} {off:Nat} (hc:lH s p=some (cs,off)) :
  ∃ b o vs,c=.pointer (some ⟨b,o+off,none⟩)∧aG R w cs vs∧(∀ x∈vs,x.oneCell'=true)∧∀ j x,vs[j]?=some x→w.cell? ⟨b,o+j,none⟩=some x:=by
 unfold lH at hc
 split at hc
 ·rename_i k eT
  split at hc
  ·rename_i cs' hk
   cases hc
   obtain ⟨⟨vs,el,h1,h2,h3⟩,_⟩:=h.b.box k cs hk
   exact ⟨β k,0,vs,by rw [hp]; simp,h2,h3,fun j x hx=>by rw [iw h1]; simpa using hx⟩
  ·cases hc
 ·rename_i id eT
  split at hc
  ·rename_i cs' hk
   cases hc
   cases hp with
   | @ptr _ _ b hb=>
    obtain ⟨vs,h1,h2,h3,_⟩:=h.g.obj id _ _ hk hb
    exact ⟨b,0,vs,by simp,h2,h3,fun j x hx=>by rw [iw h1]; simpa using hx⟩
  ·cases hc
 ·rename_i cs'
  cases hc
  cases hp with
  | ep hr=>
   obtain ⟨vs,h1,h2,h3,_⟩:=hr.get
   exact ⟨_,_,vs,rfl,h1,h2,h3⟩
 ·cases hc
theorem nX {R:ak} {w:World} {off n:Nat} {cs l:List AV} {vs:List Value} (hs:Ed off n cs=some l) (h:aG R w cs vs) (h1:∀ x∈vs,x.oneCell'=true) :
  l.length=n∧aG R w l ((vs.drop off).take n)∧(∀ x∈(vs.drop off).take n,x.oneCell'=true)∧∀ j x,((vs.drop off).take n)[j]?=some x→vs[off+j]?=some x:=by
 obtain ⟨e1,e2⟩:=Qy hs
 subst e1
 refine ⟨e2,(h.drop off).take n,fun x hx=>h1 x (List.mem_of_mem_drop (List.mem_of_mem_take hx)),fun j x hx=>?_⟩
 rw [List.getElem?_take] at hx
 split at hx
 ·rwa [List.getElem?_drop] at hx
 ·cases hx
def bQ (E:Env) (R:ak) (w:World) (β:Nat→Nat) (s:St) (a:Act) (o:Oper) (s':St):Prop:=
 ∃ nx x w' R' β',(execOp a.eval o).run E.P w=.ok nx w'∧(nx=.value x∨(nx=.skip∧x=undef))∧ba E R' w' β' s' (a.put o.dst x)∧Step R w β s.boxes R' w' β' s'.boxes
section ops
variable {E:Env} {R:ak} {w:World} {β:Nat→Nat} {s:St} {a:Act} {o:Oper}
@[simp] theorem aW (s:St) (d:Option Tmp) (x:SV):(s.put d x).boxes=s.boxes:=by
 cases d with
 | none=>rfl
 | some d=>simp only [St.put]; split <;> rfl
theorem aq (h:ba E R w β s a) {c:Value} {sv:SV} (hx:(execOp a.eval o).run E.P w=.ok (.value c) w) (hr:oB R w β sv c):bQ E R w β s a o (s.put o.dst sv):=
 ⟨.value c,c,w,R,β,hx,.inl rfl,h.put o.dst hr,by rw [aW]; exact Step.refl R w β s.boxes⟩
theorem Ct {t:Bool} {x y:AV} {c d:Value} (hx:Rel R w x c) (hy:Rel R w y d):Rel R w (yN t x y) (if t=true then c else d):=by
 unfold yN
 split
 ·cases hx; cases hy; cases t <;> exact .bool _
 ·cases hx; cases hy
  split
  ·rename_i e; subst e; cases t <;> exact .int _ _
  ·cases t <;> exact .int _ _
 ·cases t
  ·exact hy
  ·exact hx
theorem jn (h:ba E R w β s a) (x:Operand) (ho:o.op=.move x∨o.op=.assign x) {y:SV} (hy:bw E s.ae x=y):bQ E R w β s a o (s.put o.dst y):=by
 subst hy
 refine aq h (c:=a.eval x) ?_ (aO h x)
 rcases ho with ho | ho <;> simp [execOp,ho]
theorem FF (h:ba E R w β s a) (c x y:Operand) (ho:o.op=.pick c x y) {t:Bool} {p q:AV} (h1:bw E s.ae c=.v (.bool t)) (h2:bw E s.ae x=.v p) (h3:bw E s.ae y=.v q) :
  bQ E R w β s a o (s.put o.dst (.v (yN t p q))):=by
 have r1:=aO h c
 have r2:=aO h x
 have r3:=aO h y
 rw [h1] at r1; rw [h2] at r2; rw [h3] at r3
 refine aq h (c:=if t=true then a.eval x else a.eval y) ?_ (Ct r2 r3)
 have r1':Rel R w (.bool t) (a.eval c):=r1
 generalize FG:a.eval c=cc at r1'
 cases r1'
 simp [execOp,ho,asBool,FG]
theorem FH (h:ba E R w β s a) (t:TypeId) (x:Operand) (ho:o.op=.load t x) {v:AV} (hl:pZ E s t (bw E s.ae x)=some v) :
  bQ E R w β s a o (s.put o.dst (.v v)):=by
 unfold pZ at hl
 split at hl
 ·rename_i i cs off hi hc
  split at hl
  ·rename_i l hs
   obtain ⟨b,o',vs,e,h1,h2,h3⟩:=sy h (aO h x) hc
   obtain ⟨k1,k2,k3,k4⟩:=nX hs h1 h2
   obtain ⟨c,hc,dM⟩:=mN (E:=E) hi (b:=b) (off:=o'+off) k1 k2 k3 (fun j y hy=>by rw [Nat.add_assoc]; exact h3 _ _ (k4 j y hy)) hl
   refine aq h (c:=c) ?_ dM
   simp [execOp,ho,Instr.loadAt,e,Instr.sureAddr,hc]
  ·cases hl
 ·cases hl
theorem gX {b:Nat} (hI:∀ o,¬ R.I b o) (cs:Array Value):Ext R w R (w.setRow b cs):=
 ⟨fun _ _ h=>h,fun b' o h=>bU (setRow_other w b b' cs (fun e=>hI o (e ▸ h))) o,fun _ ro h=>⟨ro,h,ca.refl ro⟩,fun b' r hb=>⟨r,by
  by_cases e:b'=b
  ·subst e
   have bP:b' < w.heap.size:=bc hb
   have hv:w.heap[b']=.loop r:=(Array.getElem?_eq_some_iff.1 hb).2
   unfold World.setRow
   rw [Array.getElem?_eq_getElem (by simpa using bP),Array.getElem_modify]
   simp [hv]
  ·exact (setRow_other w b b' cs e).trans hb,rfl,rfl,rfl,rfl,rfl⟩⟩
theorem aG.aZ {cs ys:List AV} {vs us:List Value} {off:Nat} (h:aG R w cs vs) (k:aG R w ys us) (hl:off+ys.length≤cs.length) :
  aG R w (aZ cs off ys) (vs.take off++us++vs.drop (off+us.length)):=by
 rw [dQ cs off ys hl,← k.length]
 exact ((h.take off).append k).append (h.drop _)
theorem gY {vs us:List Value} {off n:Nat} (h:∀ x∈vs,x.oneCell'=true) (k:∀ x∈us,x.oneCell'=true):∀ x∈vs.take off++us++vs.drop n,x.oneCell'=true:=by
 intro x hx
 simp only [List.mem_append] at hx
 rcases hx with (hx | hx) | hx
 ·exact h x (List.mem_of_mem_take hx)
 ·exact k x hx
 ·exact h x (List.mem_of_mem_drop hx)
theorem jd {t:TypeId} {i:TI} (hi:E.ti t=some i) {b off:Nat} {vs:List Value} {el:TypeId} {c:Value} (hb:w.heap[b]?=some (.cells ⟨vs⟩ el (0,0)))
  (hs:c.cells.toList.length=i.size) (hl:off+c.cells.toList.length≤vs.length) (h1:∀ v∈c.cells.toList,v.oneCell'=true) :
  (storeVar t ⟨b,off,none⟩ c).run E.P w=.ok () (w.setRow b ⟨vs.take off++c.cells.toList++vs.drop (off+c.cells.toList.length)⟩):=by
 obtain ⟨fN,u,e1,e2,e3,_⟩:=bZ E hi
 have ke:=run_storeCells_at (P:=E.P) b off el c.cells.toList 0 ⟨vs⟩ w hb (by simpa using hl) h1
 have cw:c.cells.size=fN.size:=by rw [e3,← hs]; simp
 simp only [Nat.add_zero] at ke
 unfold storeVar
 simp only [Sem.run_bind,run_sizeOf w e1,Result.andThen_ok,Sem.run_ite,cw,ne_eq,not_true_eq_false,if_false]
 simpa using ke
theorem ba.Cu (h:ba E R w β s a) {id b k:Nat} {cs:List AV} (hb:nth R.obj id=some (.bT b)) (hk:dc s.boxes k=some cs):β k≠b:=by
 intro e
 exact (h.b.box k cs hk).2.2 ⟨id,_,hb,by rw [e]; rfl⟩
theorem Cv (h:ba E R w β s a) (t:TypeId) (p x:Operand) (ho:o.op=.store t p x) (hd:o.dst=none) {s':St} (hs:iP E s t (bw E s.ae p) (bw E s.ae x)=some s') :
  bQ E R w β s a o s':=by
 unfold iP at hs
 have rp:=aO h p
 have rx:=aO h x
 split at hs
 ·rename_i i v hi hx
  rw [hx] at rx
  split at hs
  ·rename_i eL
   simp only [Bool.and_eq_true] at eL
   obtain ⟨KY,hlen⟩:=eL
   have hlen:=Nat.eq_of_beq_eq_true hlen
   obtain ⟨c1,c2⟩:=Rel.cells rx KY
   have Ae:v.cells.length=(a.eval x).cells.toList.length:=c1.length
   split at hs
   ·-- a local box
    rename_i k off UN
    rw [UN] at rp
    split at hs
    ·rename_i cs hk
     split at hs
     ·rename_i hle
      cases hs
      have hle:=Nat.le_of_ble_eq_true hle
      obtain ⟨⟨vs,el,b1,b2,b3⟩,b4,b5⟩:=h.b.box k cs hk
      have bt:=jd (E:=E) (w:=w) hi (off:=off) (c:=a.eval x) b1 (by rw [← Ae]; exact hlen) (by rw [← Ae,← b2.length]; exact hle) c2
      have hex:=gX (R:=R) (w:=w) b4 ⟨vs.take off++(a.eval x).cells.toList++vs.drop (off+(a.eval x).cells.toList.length)⟩
      refine ⟨.skip,undef,w.setRow (β k) ⟨vs.take off++(a.eval x).cells.toList++vs.drop (off+(a.eval x).cells.toList.length)⟩,R,β,?_,.inr ⟨rfl,rfl⟩,?_,?_⟩
      ·simp [execOp,ho,Instr.storeAt,show a.eval p=.pointer (some ⟨β k,off,none⟩) from rp,Instr.sureAddr,bt]
      ·rw [hd]
       refine ⟨?_,?_,h.t.mono hex,h.n,h.d⟩
       ·exact h.g.bo hex rfl (fun b hb=>setRow_other w _ b _ (fun e=>b5 (e ▸ hb))) (fun _ _ _ hi=>hi) (fun b o hi=>by have:=h.g.wf b o hi; simp; omega)
       ·refine ⟨fun k' cs' gS=>?_,fun k1 k2 x1 x2 g1 g2=>?_⟩
        ·rcases dP gS with ⟨rfl,e⟩ | ⟨cw,UO⟩
         ·cases e
          exact ⟨⟨_,el,setRow_heap w _ _ _ el (0,0) b1,(b2.aZ c1 hle).mono hex,gY b3 c2⟩,b4,b5⟩
         ·obtain ⟨⟨vs',Xq,d1,d2,d3⟩,d4,d5⟩:=h.b.box k' cs' UO
          refine ⟨⟨vs',Xq,?_,d2.mono hex,d3⟩,d4,d5⟩
          rw [setRow_other]
          ·exact d1
          ·exact fun e=>cw (h.b.inj k' k cs' cs UO hk e).symm
        ·have q1:∃ y,dc s.boxes k1=some y:=by
          rcases dP g1 with ⟨rfl,_⟩ | ⟨_,g⟩
          ·exact ⟨_,hk⟩
          ·exact ⟨_,g⟩
         have q2:∃ y,dc s.boxes k2=some y:=by
          rcases dP g2 with ⟨rfl,_⟩ | ⟨_,g⟩
          ·exact ⟨_,hk⟩
          ·exact ⟨_,g⟩
         obtain ⟨y1,q1⟩:=q1
         obtain ⟨y2,q2⟩:=q2
         exact h.b.inj k1 k2 y1 y2 q1 q2
      ·have yT:Own R β s.boxes (β k):=.inr ⟨k,cs,hk,rfl⟩
       refine ⟨hex,rfl,rfl,rfl,by simp,fun b _ hn=>setRow_other w _ b _ (fun e=>hn (e ▸ yT)),fun b _ hb=>?_,fun b o hi _ _=>hi⟩
       rcases hb with hb | ⟨k',cs',gS,e⟩
       ·exact .inl hb
       ·rcases dP gS with ⟨rfl,_⟩ | ⟨_,g⟩
        ·exact .inr ⟨k,cs,hk,e⟩
        ·exact .inr ⟨k',cs',g,e⟩
     ·cases hs
    ·cases hs
   ·-- an object
    rename_i id off UN
    rw [UN] at rp
    split at hs
    ·rename_i cs hk
     split at hs
     ·rename_i hle
      cases hs
      have hle:=Nat.le_of_ble_eq_true hle
      have UP:Rel R w (.ptr id off) (a.eval p):=rp
      generalize UQ:a.eval p=pv at UP
      cases UP with
      | @ptr _ _ b hb=>
      obtain ⟨vs,b1,b2,b3,b4⟩:=h.g.obj id _ _ hk hb
      have bt:=jd (E:=E) (w:=w) hi (off:=off) (c:=a.eval x) b1 (by rw [← Ae]; exact hlen) (by rw [← Ae,← b2.length]; exact hle) c2
      have hex:=gX (R:=R) (w:=w) b4 ⟨vs.take off++(a.eval x).cells.toList++vs.drop (off+(a.eval x).cells.toList.length)⟩
      refine ⟨.skip,undef,w.setRow b ⟨vs.take off++(a.eval x).cells.toList++vs.drop (off+(a.eval x).cells.toList.length)⟩,R,β,?_,.inr ⟨rfl,rfl⟩,?_,?_⟩
      ·simp [execOp,ho,Instr.storeAt,UQ,Instr.sureAddr,bt]
      ·rw [hd]
       refine ⟨⟨?_,fun iN go ro hg hr=>?_,h.g.inj,fun b' o' ru=>by have:=h.g.wf b' o' ru; simp; omega,fun g cs' hg=>(h.g.bY g cs' hg).mono hex,by first | exact h.g.lo | exact Nat.le_succ_of_le h.g.lo⟩,?_,h.t.mono hex,h.n,h.d⟩
       ·simp [St.bW,h.g.len]
       ·rcases cR hg with ⟨rfl,rfl,_⟩ | ⟨cw,po⟩
        ·rw [hb] at hr
         cases hr
         exact ⟨_,setRow_heap w _ _ _ _ (0,0) b1,(b2.aZ c1 hle).mono hex,gY b3 c2,b4⟩
        ·refine (h.g.obj iN go ro po hr).mono hex (fun b' jy=>setRow_other w _ b' _ (fun e=>cw ?_)) (fun _ _ _ hi=>hi)
         subst e
         exact h.g.inj id iN _ _ b' hb hr rfl jy
       ·exact h.b.bo hex (fun k cs' gS=>setRow_other w _ _ _ (h.Cu hb gS)) (fun _ _ _ _ hi=>hi) (fun _ _ _ hl=>hl)
      ·have yT:Own R β s.boxes b:=.inl ⟨id,_,hb,rfl⟩
       exact ⟨hex,rfl,rfl,rfl,by simp,fun b' _ hn=>setRow_other w _ b' _ (fun e=>hn (e ▸ yT)),fun _ _ hb=>hb,fun b o hi _ _=>hi⟩
     ·cases hs
    ·cases hs
   ·cases hs
  ·cases hs
 ·cases hs
end ops
end Go.Am
namespace Go.Am
open Go
section ops
variable {E:Env} {R:ak} {w:World} {β:Nat→Nat} {s:St} {a:Act} {o:Oper}
def ak.add (R:ak) (ro:RO):ak:=⟨R.I,R.obj++[ro]⟩
theorem fX (wf:∀ b o,R.I b o→b < w.heap.size) (x:Obj) (ro:RO):Ext R w (R.add ro) (w.alloc x):=
 ⟨fun _ _ h=>h,fun b o h=>bU (heap_alloc_old w x b (wf b o h)) o,fun _ r h=>⟨r,cS h,ca.refl r⟩,.old fun b hb=>heap_alloc_old w x b hb⟩
theorem kZ {ro:RO} {b:Nat} (h:Live (R.add ro) b):Live R b∨ro.has b:=by
 obtain ⟨id,r,h1,h2⟩:=h
 rcases au h1 with h1 | ⟨_,rfl⟩
 ·exact .inl ⟨id,r,h1,h2⟩
 ·exact .inr h2
theorem ba.kF (h:ba E R w β s a) (x:Obj) (go:GO) (ro:RO) (bL:∀ b,ro.has b→b=w.heap.size) (gC:fM (R.add ro) (w.alloc x) go ro):ba E (R.add ro) (w.alloc x) β (s.dw go) a where
 g:=by
  have e:=fX (R:=R) (w:=w) h.g.wf x ro
  refine ⟨by simp [St.dw,ak.add,h.g.len],fun id g r h1 h2=>?_,fun i j ri rj b h1 h2 b1 b2=>?_,fun b o hi=>?_,fun g cs hg=>(h.g.bY g cs hg).mono e,by first | exact h.g.lo | exact Nat.le_succ_of_le h.g.lo⟩
  ·rcases au h2 with h2 | ⟨h3,rfl⟩
   ·have bP:=bH h2
    rw [h.g.len] at bP
    rcases au h1 with h1 | ⟨h4,_⟩
    ·exact (h.g.obj id g r h1 h2).mono e (fun b hb=>heap_alloc_old w x b (h.g.bS ⟨id,r,h2,hb⟩)) (fun _ _ _ hi=>hi)
    ·omega
   ·rcases au h1 with h1 | ⟨h4,rfl⟩
    ·have:=bH h1
     rw [h3,h.g.len] at this
     omega
    ·exact gC
  ·rcases au h1 with g1 | ⟨h3,e1⟩
   ·rcases au h2 with g2 | ⟨h4,e2⟩
    ·exact h.g.inj i j ri rj b g1 g2 b1 b2
    ·have:=h.g.bS ⟨i,ri,g1,b1⟩
     rw [e2] at b2
     have:=bL b b2
     omega
   ·rcases au h2 with g2 | ⟨h4,e2⟩
    ·have:=h.g.bS ⟨j,rj,g2,b2⟩
     rw [e1] at b1
     have:=bL b b1
     omega
    ·omega
  ·have:=h.g.wf b o hi
   simp
   omega
 b:=h.b.bo (fX h.g.wf x ro) (fun k cs hk=>heap_alloc_old w x _ (h.dD (.inr ⟨k,cs,hk,rfl⟩))) (fun _ _ _ _ hi=>hi) (fun k cs hk hl=>by
  rcases kZ hl with hl | hl
  ·exact hl
  ·have:=h.dD (.inr ⟨k,cs,hk,rfl⟩)
   have hl:=bL _ hl
   omega)
 t:=h.t.mono (fX h.g.wf x ro)
 n:=h.n
 d:=h.d.mono (fX h.g.wf x ro)
theorem cT (h:ba E R w β s a) (x:Obj) (ro:RO) (bL:∀ b,ro.has b→b=w.heap.size):Step R w β s.boxes (R.add ro) (w.alloc x) β s.boxes:=
 ⟨fX h.g.wf x ro,rfl,rfl,rfl,by simp,fun b hb _=>heap_alloc_old w x b hb,fun b hb ho=>by
  rcases ho with ho | ho
  ·rcases kZ ho with ho | ho
   ·exact .inl ho
   ·have ho:=bL _ ho
    omega
  ·exact .inr ho,fun _ _ hi _ _=>hi⟩
theorem fY (h:ba E R w β s a) (ro:RO):nth (R.add ro).obj s.G.length=some ro:=by
 rw [← h.g.len]
 exact eU _ _
theorem Ar {f:FuncId} (h:ba E R w β s a) {v:AV} {c:Value} {t:TypeId} (hv:Rel R w v c) (hn:v.aR=true)
  (hx:(execOp a.eval o).run E.P w=.ok (.value (.pointer (some ⟨w.heap.size,0,none⟩))) (w.alloc (.cells c.cells t))) {s':St} (ha:ef E f s o.dst t v.cells=some (true,s')) :
  bQ E R w β s a o s':=by
 obtain ⟨c1,c2⟩:=Rel.cells hv hn
 unfold ef at ha
 split at ha
 ·cases ha
 ·rename_i d hd
  split at ha
  ·-- an object
   cases ha
   have gC:fM (R.add (.bT w.heap.size)) (w.alloc (.cells c.cells t)) (.row v.cells t) (.bT w.heap.size):=
    ⟨c.cells.toList,heap_alloc_new w _,c1.mono (fX h.g.wf _ _),c2,fun o' hi=>by have:=h.g.wf _ _ hi; omega⟩
   have cK:=h.kF (.cells c.cells t) (.row v.cells t) (.bT w.heap.size) (by exact fun _ h=>h) gC
   refine ⟨_,.pointer (some ⟨w.heap.size,0,none⟩),_,R.add (.bT w.heap.size),β,hx,.inl rfl,?_,?_⟩
   ·rw [hd]
    exact cK.put (some d) (x:=.v (.ptr s.G.length 0)) (Rel.ptr (fY h _))
   ·rw [aW]
    exact cT h _ _ (by exact fun _ h=>h)
  ·split at ha
   ·rename_i Xr
    injection ha with ha
    injection ha with _ Qz
    subst Qz
    have e:=rv (R:=R) (w:=w) h.g.wf (.cells c.cells t)
    let β':Nat→Nat:=fun k=>if k=d then w.heap.size else β k
    have Ei:β' d=w.heap.size:=by simp [β']
    have cw:∀ k,k≠d→β' k=β k:=fun k hk=>by simp [β',hk]
    have hdn:d < a.tmps.size:=by rw [h.n]; exact Nat.le_of_ble_eq_true Xr
    have Cw:((s.kill d).tf d v.cells).put (some d) (.lp d 0)=⟨.put d (.lp d 0) :: .kill d :: s.ae,(d,v.cells) :: s.boxes,s.G,s.marks,s.ro,s.n⟩:=by
     simp only [St.put,St.tf,St.kill,Xr]
    refine ⟨_,.pointer (some ⟨w.heap.size,0,none⟩),_,R,β',hx,.inl rfl,?_,?_⟩
    ·rw [hd,Cw]
     refine ⟨?_,⟨fun k cs hk=>?_,fun k k' cs cs' hk gS he=>?_⟩,?_,by simp [Act.put,h.n],h.d⟩
     ·exact h.g.bo e rfl (fun b hb=>heap_alloc_old w _ b (h.g.bS hb)) (fun _ _ _ hi=>hi) (fun b o hi=>by have:=h.g.wf b o hi; simp; omega)
     ·rcases dP hk with ⟨rfl,he⟩ | ⟨KZ,hk⟩
      ·cases he
       rw [Ei]
       exact ⟨⟨c.cells.toList,t,heap_alloc_new w _,c1.mono e,c2⟩,fun o' hi=>by have:=h.g.wf _ _ hi; omega,fun hl=>by have:=h.g.bS hl; omega⟩
      ·rw [cw k (Ne.symm KZ)]
       obtain ⟨⟨vs,el,b1,b2,b3⟩,b4,b5⟩:=h.b.box k cs hk
       exact ⟨⟨vs,el,(heap_alloc_old w _ _ (bc b1)).trans b1,b2.mono e,b3⟩,b4,b5⟩
     ·rcases dP hk with ⟨rfl,_⟩ | ⟨KZ,hk⟩
      ·rcases dP gS with ⟨rfl,_⟩ | ⟨QA,gS⟩
       ·rfl
       ·rw [Ei,cw k' (Ne.symm QA)] at he
        have:=h.dD (.inr ⟨k',cs',gS,rfl⟩)
        omega
      ·rcases dP gS with ⟨rfl,_⟩ | ⟨QA,gS⟩
       ·rw [Ei,cw k (Ne.symm KZ)] at he
        have:=h.dD (.inr ⟨k,cs,hk,rfl⟩)
        omega
       ·rw [cw k (Ne.symm KZ),cw k' (Ne.symm QA)] at he
        exact h.b.inj k k' cs cs' hk gS he
     ·intro i hi
      by_cases Yw:d=i
      ·subst Yw
       rw [ax]
       refine ⟨.pointer (some ⟨w.heap.size,0,none⟩),by simp [Act.put,hdn],?_⟩
       show Value.pointer _=_
       rw [Ei]
      ·rw [aK Yw] at hi ⊢
       rcases Eg (l:=s.ae) (d:=d) (t:=i) with ⟨h1,h2⟩ | h1
       ·rw [h1] at hi ⊢
        obtain ⟨c',q1,q2⟩:=h.t i hi
        refine ⟨c',?_,?_⟩
        ·simp only [Act.put]
         rw [Array.getElem?_setIfInBounds_ne Yw]
         exact q1
        ·cases qf:lk s.ae i with
         | none=>trivial
         | v y=>rw [qf] at q2; exact Rel.mono e q2
         | lp k off=>
          rw [qf] at q2
          show c'=_
          rw [cw k (h2 k off qf)]
          exact q2
       ·exact absurd h1 hi
    ·rw [Cw]
     refine ⟨e,rfl,rfl,rfl,by simp,fun b hb _=>heap_alloc_old w _ b hb,fun b hb ho=>?_,fun _ _ hi _ _=>hi⟩
     rcases ho with ho | ⟨k,cs,hk,he⟩
     ·exact .inl ho
     ·rcases dP hk with ⟨rfl,_⟩ | ⟨KZ,hk⟩
      ·rw [Ei] at he
       omega
      ·rw [cw k (Ne.symm KZ)] at he
       exact .inr ⟨k,cs,hk,he⟩
   ·cases ha
theorem cP {i:TypeInfo} {z:AV} (h:fg i=some z):∃ c,i.zero=some c∧∀ R w,Rel R w z c:=by
 unfold fg at h
 split at h
 ·rename_i c hc
  exact ⟨c,hc,fun R w=>sx h⟩
 ·cases h
theorem Cx {f:FuncId} (h:ba E R w β s a) (t:TypeId) (ho:o.op=.alloc t) {i:TI} {z:AV} (hi:E.ti t=some i) (hz:i.zero=some z) (hn:z.aR=true) {s':St} (ha:ef E f s o.dst t z.cells=some (true,s')) :
  bQ E R w β s a o s':=by
 obtain ⟨fN,u,e1,e2,e3,e4,e5,e6⟩:=bZ E hi
 rw [hz] at e6
 obtain ⟨c,hc,hr⟩:=cP e6
 refine Ar h (hr R w) hn (t:=t) ?_ ha
 simp [execOp,ho,Instr.alloc,fO w e1 hc,uo]
theorem Ho {f:FuncId} (h:ba E R w β s a) (t:TypeId) (x:Operand) (ho:o.op=.box t x) {v:AV} (hv:bw E s.ae x=.v v) (hn:v.aR=true) {s':St} (ha:ef E f s o.dst t v.cells=some (true,s')) :
  bQ E R w β s a o s':=by
 have hr:=aO h x
 rw [hv] at hr
 refine Ar h hr hn (t:=t) ?_ ha
 simp [execOp,ho,Instr.box,uo]
end ops
end Go.Am
namespace Go.Am
open Go
section types
variable {P:Program}
theorem lQ:∀ {fs:List Field} {l:List (Nat × Nat × Bool)},fieldsOf P fs=some l→∀ {j o sz:Nat} {ag:Bool},nth l j=some (o,sz,ag) →
  ∃ f fi u,fs[j]?=some f∧f.offset=o∧P.info? f.type=some fi∧fi.size=sz∧P.underlying f.type=some u∧iO u=ag
 | [],l,h,j,o,sz,ag,hn=>by simp [fieldsOf] at h; subst h; simp [nth] at hn
 | f :: fs,l,h,j,o,sz,ag,hn=>by
  unfold fieldsOf at h
  split at h
  ·rename_i i u r h1 h2 h3
   cases h
   cases j with
   | zero=>simp [nth] at hn; obtain ⟨e1,e2,e3⟩:=hn; exact ⟨f,i,u,by simp,e1,h1,e2,h2,e3⟩
   | succ j=>
    obtain ⟨f',fi,u',g1,g2⟩:=lQ h3 (show nth r j=some (o,sz,ag) from hn)
    exact ⟨f',fi,u',by simpa using g1,g2⟩
  ·cases h
theorem mz:∀ {fs:List Field} {l:List (Nat × Nat × Bool)},fieldsOf P fs=some l→fs.mapM (fun f=>(P.info? f.type).map fun i=>(f.offset,i.size))=some (l.map fun x=>(x.1,x.2.1))
 | [],l,h=>by simp [fieldsOf] at h; subst h; simp
 | f :: fs,l,h=>by
  unfold fieldsOf at h
  split at h
  ·rename_i i u r h1 h2 h3
   cases h
   simp [List.mapM_cons,h1,mz h3]
  ·cases h
theorem Ej {u:TypeDesc} {l:List (Nat × Nat × Bool)} (h:oz P u=some (.st l)):∃ fs,u=.struct fs∧fieldsOf P fs.toList=some l:=by
 cases u <;> simp only [oz] at h <;> try (cases h; done)
 all_goals (try (split at h <;> cases h; done))
 rename_i fs
 split at h
 ·rename_i l' hl
  cases h
  exact ⟨fs,rfl,hl⟩
 ·cases h
theorem mO {u:TypeDesc} {n esz:Nat} {ag:Bool} (h:oz P u=some (.arr n esz ag)):∃ e i ue,u=.array n e∧P.info? e=some i∧i.size=esz∧P.underlying e=some ue∧iO ue=ag:=by
 cases u <;> simp only [oz] at h <;> try (cases h; done)
 all_goals (try (split at h <;> cases h; done))
 rename_i m e
 split at h
 ·rename_i i ue h1 h2
  cases h
  exact ⟨e,i,ue,rfl,h1,rfl,h2,rfl⟩
 ·cases h
theorem df {u:TypeDesc} {e esz oD:Nat} {ag:Bool} {z:Option AV} (h:oz P u=some (.sl e esz ag oD z)) :
  ∃ i ue,u=.slice e∧P.info? e=some i∧i.size=esz∧i.bytes=oD∧P.underlying e=some ue∧iO ue=ag∧fg i=z:=by
 cases u <;> simp only [oz] at h <;> try (cases h; done)
 all_goals (try (split at h <;> cases h; done))
 rename_i e'
 split at h
 ·rename_i i ue h1 h2
  injection h with h
  injection h with g1 g2 g3 g4 g5
  subst g1; subst g2; subst g3; subst g4; subst g5
  exact ⟨i,ue,rfl,h1,rfl,rfl,h2,rfl,rfl⟩
 ·cases h
theorem jz {u:TypeDesc} (h:oz P u=some .str):u=.string:=by
 cases u <;> simp only [oz] at h <;> try (cases h; done)
 all_goals (try (split at h <;> cases h; done))
 rfl
theorem qg {u:TypeDesc} {k:IntKind} (h:oz P u=some (.int k)):u=.int k:=by
 cases u <;> simp only [oz] at h <;> try (cases h; done)
 all_goals (try (split at h <;> cases h; done))
 cases h
 rfl
theorem k9 {u:TypeDesc} {k e:TypeId} {z:Option AV} (h:oz P u=some (.map k e z)):u=.map k e∧∃ i,P.info? e=some i∧fg i=z:=by
 cases u <;> simp only [oz] at h <;> try (cases h; done)
 all_goals (try (split at h <;> cases h; done))
 split at h
 ·rename_i i h1
  cases h
  exact ⟨rfl,i,h1,rfl⟩
 ·cases h
end types
section ops
variable {E:Env} {R:ak} {w:World} {β:Nat→Nat} {s:St} {a:Act} {o:Oper}
theorem xK {p q:SV} {c:Value} {n:Nat} (hp:oB R w β p c) (hm:xC n p=some q) :
  ∃ b o,c=.pointer (some ⟨b,o,none⟩)∧oB R w β q (.pointer (some ⟨b,o+n,none⟩)):=by
 unfold xC at hm
 split at hm
 ·cases hm
  exact ⟨_,_,hp,rfl⟩
 ·cases hm
  cases hp with
  | @ptr _ _ b hb=>exact ⟨b,_,rfl,Rel.ptr hb⟩
 ·cases hm
  cases hp with
  | @ep _ b o hr=>
   refine ⟨b,o,rfl,Rel.ep ?_⟩
   rw [ul]
   exact hr.drop n
 ·cases hm
  cases hp with
  | @gp _ _ _ _ _ b o _ ro hr dR=>
   refine ⟨b,o,rfl,Rel.gp hr ?_⟩
   cases ro with
   | none=>trivial
   | bA=>exact dR.elim
   | bT _=>exact dR.elim
   | a7 _=>exact dR.elim
   | tok f1 b1 c1=>exact ⟨dR.1,fun e=>⟨(dR.2 e).1,by rw [(dR.2 e).2,Nat.add_assoc]⟩⟩
 ·cases hm
theorem ur (h:ba E R w β s a) (t:TypeId) (x:Operand) (j:Nat) (ho:o.op=.fieldAddr t x j) {q:SV} (hq:jw E t (bw E s.ae x) j=some q) :
  bQ E R w β s a o (s.put o.dst q):=by
 unfold jw at hq
 split at hq
 ·rename_i i hi
  split at hq
  ·rename_i fs hk
   split at hq
   ·rename_i off sz ag hn
    split at hq
    ·rename_i dO
     have dO:=Nat.le_of_ble_eq_true dO
     obtain ⟨fN,u,e1,e2,e3,e4,e5,e6⟩:=bZ E hi
     rw [hk] at e5
     obtain ⟨fl,rfl,hf⟩:=Ej e5
     obtain ⟨f,fi,u',g1,g2,g3,g4,g5,g6⟩:=lQ hf hn
     obtain ⟨b,o',m1,m2⟩:=xK (aO h x) hq
     refine aq h ?_ m2
     have Yx:fl[j]?=some f:=by simpa using g1
     have cw:¬ fi.size=0:=by omega
     simp [execOp,ho,Instr.fieldAt,run_underlying e2,Yx,m1,Instr.sureAddr,fieldPlace,run_sizeOf w g3,cw,cg,g2]
    ·cases hq
   ·cases hq
  ·cases hq
 ·cases hq
theorem As {b o sz:Nat} {es:List AV} (h:fk R w b o sz es) {n:Nat} {e:AV} (hn:nth es n=some e):dp R w b (o+n * sz) e.cells∧e.cells.length=sz∧e.aR=true:=by
 induction es generalizing o n with
 | nil=>simp [nth] at hn
 | cons x l ih=>
  cases h with
  | cons hl ht _ h t=>
   cases n with
   | zero=>simp [nth] at hn; subst hn; exact ⟨by simpa using h,hl,ht⟩
   | succ n=>
    have:=ih t (show nth l n=some e from hn)
    rw [show o+sz+n * sz=o+(n+1) * sz by rw [Nat.add_mul]; omega] at this
    exact this
theorem uu (h:ba E R w β s a) (t:TypeId) (x ix:Operand) (ho:o.op=.indexAddr t x ix) {q:SV} (hq:jv E t (bw E s.ae x) (bw E s.ae ix)=some (true,q)) :
  bQ E R w β s a o (s.put o.dst q):=by
 have rx:=aO h x
 have ri:=aO h ix
 unfold jv at hq
 split at hq
 ·rename_i i k n hi UR
  rw [UR] at ri
  have PA:Rel R w (.int k n) (a.eval ix):=ri
  generalize K0:a.eval ix=iv at PA
  cases PA
  obtain ⟨fN,u,e1,e2,e3,e4,e5,e6⟩:=bZ E hi
  split at hq
  ·-- a list
   rename_i elem esz ag oD z kk sz es hk hx
   rw [hx] at rx
   rw [hk] at e5
   obtain ⟨ie,ue,rfl,f1,f2,f3,f4,f5,f6⟩:=df e5
   split at hq
   ·rename_i hc
    have key:∀ (u:AV),(0≤n∧n < (es.length:Int))→cq (ah es n.toNat).cells u.cells→bQ E R w β s a o (s.put o.dst (.v (.ep u.cells))):=fun u uv hu=>by
     obtain ⟨Af,GY⟩:=uv
     have di:Rel R w (.list kk sz es) (a.eval x):=rx
     generalize eE:a.eval x=xv at di
     cases di with
     | jc=>simp at GY; omega
     | gW=>simp at GY; omega
     | lL=>simp at GY; omega
     | kY=>simp at GY; omega
     | kD=>simp at GY; omega
     | @list _ _ _ b o' len cap hr hl gB Hp=>
      subst hl
      have bP:n.toNat < es.length:=by omega
      obtain ⟨e,he⟩:∃ e,nth es n.toNat=some e:=⟨es[n.toNat],by rw [aX]; exact List.getElem?_eq_getElem bP⟩
      have dO:sz=esz:=by
       simp only [Bool.or_eq_true] at hc
       rcases hc with hc | hc
       ·exact Nat.eq_of_beq_eq_true hc
       ·cases es with
        | nil=>simp at bP
        | cons _ _=>simp at hc
      obtain ⟨g1,_,_⟩:=As hr he
      refine aq h (c:=.pointer (some ⟨b,o'+n.toNat * sz,none⟩)) ?_ ?_
      ·have eL:0≤n∧n < (es.length:Int):=⟨Af,GY⟩
       simp [execOp,ho,Instr.indexAt,K0,eE,asIntOf,run_underlying e2,eL,run_sizeOf w f1,f2,dO,cg]
      ·have:ah es n.toNat=e:=by simp [ah,he]
       rw [this] at hu
       exact .ep (hu.Hl g1)
    split at hq
    ·rename_i p hp
     injection hq with hq
     injection hq with uv mP
     subst mP
     rw [Bool.and_eq_true] at uv
     have eL:=of_decide_eq_true uv.1
     have hd:=p.cE uv.2
     have bP:n.toNat < es.length:=by omega
     refine key _ eL (hd.cells ?_)
     obtain ⟨e,he⟩:∃ e,nth es n.toNat=some e:=⟨es[n.toNat],by rw [aX]; exact List.getElem?_eq_getElem bP⟩
     have:ah es n.toNat=e:=by simp [ah,he]
     rw [this]
     have di:Rel R w (.list kk sz es) (a.eval x):=rx
     generalize a.eval x=xv at di
     cases di with
     | jc=>simp at bP
     | gW=>simp at bP
     | lL=>simp at bP
     | kY=>simp at bP
     | kD=>simp at bP
     | list hr _ _ _=>exact (As hr he).2.2
    ·injection hq with hq
     injection hq with uv mP
     subst mP
     exact key _ (of_decide_eq_true uv) (cq.refl _)
   ·cases hq
  ·-- a heap slice
   rename_i elem esz ag oD z id off sz len cap hk hx
   rw [hx] at rx
   rw [hk] at e5
   obtain ⟨ie,ue,rfl,f1,f2,f3,f4,f5,f6⟩:=df e5
   split at hq
   ·rename_i hc
    have dO:=Nat.eq_of_beq_eq_true hc
    injection hq with hq
    injection hq with uv mP
    subst mP
    have eL:=of_decide_eq_true uv
    have di:Rel R w (.ja id off sz len cap) (a.eval x):=rx
    generalize eE:a.eval x=xv at di
    cases di with
    | @ja _ _ _ _ _ b hb _=>
     refine aq h (c:=.pointer (some ⟨b,off+n.toNat * sz,none⟩)) ?_ (Rel.ptr hb)
     simp [execOp,ho,Instr.indexAt,K0,eE,asIntOf,run_underlying e2,eL,run_sizeOf w f1,f2,dO,cg]
   ·cases hq
  ·-- a slice that grows
   rename_i elem esz ag oD z id f' off sz len hk hx
   rw [hx] at rx
   rw [hk] at e5
   obtain ⟨ie,ue,rfl,f1,f2,f3,f4,f5,f6⟩:=df e5
   split at hq
   ·rename_i hc
    have dO:=Nat.eq_of_beq_eq_true hc
    injection hq with hq
    injection hq with uv mP
    subst mP
    have eL:=of_decide_eq_true uv
    have di:Rel R w (.du id f' off sz len) (a.eval x):=rx
    generalize eE:a.eval x=xv at di
    cases di with
    | iq _ _=>omega
    | @du _ _ _ _ _ cap b o' ro bL dR gB=>
     refine aq h (c:=.pointer (some ⟨b,o'+n.toNat * sz,none⟩)) ?_ (Rel.gp bL ?_)
     ·simp [execOp,ho,Instr.indexAt,K0,eE,asIntOf,run_underlying e2,eL,run_sizeOf w f1,f2,dO,cg]
     ·cases ro with
      | none=>trivial
      | bA=>exact dR.elim
      | bT _=>exact dR.elim
      | a7 _=>exact dR.elim
      | tok f1 b1 c1=>
       refine ⟨dR.1,fun e=>?_⟩
       obtain ⟨k1,k2,k3⟩:=dR.2 e
       refine ⟨k1,?_⟩
       rcases k3 with k3 | k3
       ·rw [k3,Nat.add_zero,Nat.add_mul]
       ·omega
   ·cases hq
  ·-- an array that is never written
   rename_i len esz ag cs hk hx
   rw [hx] at rx
   rw [hk] at e5
   obtain ⟨e,ie,ue,rfl,f1,f2,f3,f4⟩:=mO e5
   have di:Rel R w (.ep cs) (a.eval x):=rx
   generalize eE:a.eval x=xv at di
   cases di with
   | @ep _ b o' hr=>
    split at hq
    ·rename_i p hp
     split at hq
     ·rename_i hc
      rw [Bool.and_eq_true] at hc
      have hz:=Nat.eq_of_beq_eq_true hc.1
      have hl:=Nat.le_of_ble_eq_true hc.2
      injection hq with hq
      injection hq with uv mP
      subst mP
      rw [Bool.and_eq_true] at uv
      have eL:=of_decide_eq_true uv.1
      have hd:=p.cE uv.2
      have bP:n.toNat < cs.length:=by omega
      have hdr:=hr.drop n.toNat
      rw [List.drop_eq_getElem_cons bP] at hdr
      have hn:ah cs n.toNat=cs[n.toNat]:=by
       unfold ah
       rw [aX,List.getElem?_eq_getElem bP]
      rw [hn] at hd ⊢
      refine aq h (c:=.pointer (some ⟨b,o'+n.toNat * esz,none⟩)) ?_ ?_
      ·simp [execOp,ho,Instr.indexAt,K0,eE,Instr.sureAddr,asIntOf,run_underlying e2,eL,run_sizeOf w f1,f2,cg]
      ·subst hz
       rw [Nat.mul_one]
       cases hdr with
       | cons hc h1 hi dM t=>exact .ep (.cons hc h1 hi (hd.1 _ _ _ dM) .nil)
     ·cases hq
    ·injection hq with hq
     injection hq with uv mP
     subst mP
     have eL:=of_decide_eq_true uv
     refine aq h (c:=.pointer (some ⟨b,o'+n.toNat * esz,none⟩)) ?_ ?_
     ·simp [execOp,ho,Instr.indexAt,K0,eE,Instr.sureAddr,asIntOf,run_underlying e2,eL,run_sizeOf w f1,f2,cg]
     ·rw [ul]
      exact .ep (hr.drop _)
  ·-- an array
   rename_i len esz ag hk _
   rw [hk] at e5
   obtain ⟨e,ie,ue,rfl,f1,f2,f3,f4⟩:=mO e5
   split at hq
   ·rename_i q' hm
    injection hq with hq
    injection hq with uv mP
    subst mP
    have eL:=of_decide_eq_true uv
    obtain ⟨b,o',m1,m2⟩:=xK rx hm
    refine aq h ?_ m2
    simp [execOp,ho,Instr.indexAt,K0,m1,Instr.sureAddr,asIntOf,run_underlying e2,eL,run_sizeOf w f1,f2,cg]
   ·cases hq
  ·cases hq
 ·cases hq
theorem lf {t:TypeId} {i:TypeInfo} {u:TypeDesc} (h1:E.P.info? t=some i) (h2:E.P.underlying t=some u) {off:Nat} {cs l:List AV} {vs:List Value} {v:AV} (hr:aG R w cs vs) (h3:∀ x∈vs,x.oneCell'=true)
  (yU:iO u=true→Ed off i.size cs=some l∧ra true l=some v) (Xs:iO u=false→Ed off 1 cs=some l∧ra false l=some v) :
  ∃ c,(part t ⟨vs⟩ off).run E.P w=.ok c w∧Rel R w v c:=by
 unfold part
 simp only [Sem.run_bind,xJ w h2,Result.andThen_ok]
 cases ha:iO u with
 | true=>
  obtain ⟨g1,g2⟩:=yU ha
  obtain ⟨k1,k2,k3,k4⟩:=nX g1 hr h3
  obtain ⟨m1,_⟩:=uq g2 k2 k3
  refine ⟨_,?_,m1 rfl⟩
  have:(⟨vs⟩:Array Value).extract off (off+i.size)=⟨(vs.drop off).take i.size⟩:=by
   apply Array.ext'
   simp [List.extract_eq_take_drop]
  simp [run_sizeOf w h1]
 | false=>
  obtain ⟨g1,g2⟩:=Xs ha
  obtain ⟨k1,k2,k3,k4⟩:=nX g1 hr h3
  obtain ⟨_,m2⟩:=uq g2 k2 k3
  obtain ⟨c,hc,dM⟩:=m2 rfl
  refine ⟨c,?_,dM⟩
  have h0:=k4 0 c (by rw [hc]; simp)
  simp only [Nat.add_zero] at h0
  simp [h0]
theorem Cy (h:ba E R w β s a) (t:TypeId) (x:Operand) (j:Nat) (ho:o.op=.field t x j) {v:AV} (hq:Cm E t (bw E s.ae x) j=some v) :
  bQ E R w β s a o (s.put o.dst (.v v)):=by
 have rx:=aO h x
 unfold Cm at hq
 split at hq
 ·rename_i i cs hi hx
  rw [hx] at rx
  have di:Rel R w (.agg cs) (a.eval x):=rx
  generalize eE:a.eval x=xv at di
  cases di with
  | @agg _ vs hr h1=>
  split at hq
  ·rename_i fs hk
   split at hq
   ·rename_i off sz ag hn
    obtain ⟨fN,u,e1,e2,e3,e4,e5,e6⟩:=bZ E hi
    rw [hk] at e5
    obtain ⟨fl,rfl,hf⟩:=Ej e5
    obtain ⟨f,fi,u',g1,g2,g3,g4,g5,g6⟩:=lQ hf hn
    have key:∃ c,(part f.type ⟨vs⟩ off).run E.P w=.ok c w∧Rel R w v c:=by
     split at hq
     ·rename_i yU
      split at hq
      ·rename_i l hl
       exact lf g3 g5 (l:=l) hr h1 (fun _=>⟨by rw [g4]; exact hl,hq⟩) (fun hf=>by rw [g6,yU] at hf; cases hf)
      ·cases hq
     ·rename_i yU
      split at hq
      ·rename_i l hl
       exact lf g3 g5 (l:=l) hr h1 (fun hf=>by rw [g6] at hf; exact absurd hf yU) (fun _=>⟨hl,hq⟩)
      ·cases hq
    obtain ⟨c,k1,k2⟩:=key
    refine aq h ?_ k2
    have Yx:fl[j]?=some f:=by simpa using g1
    simp [execOp,ho,Instr.field,run_underlying e2,Yx,eE,asAgg,g2,k1]
   ·cases hq
  ·cases hq
 ·cases hq
theorem Cz (h:ba E R w β s a) (t:TypeId) (x ix:Operand) (ho:o.op=.index t x ix) {v:AV} (hq:Cn E t (bw E s.ae x) (bw E s.ae ix)=some (true,v)) :
  bQ E R w β s a o (s.put o.dst (.v v)):=by
 have rx:=aO h x
 have ri:=aO h ix
 unfold Cn at hq
 split at hq
 ·rename_i i l k n hi hx UR
  rw [hx] at rx
  rw [UR] at ri
  have PA:Rel R w (.int k n) (a.eval ix):=ri
  have di:Rel R w (.str l) (a.eval x):=rx
  generalize K0:a.eval ix=iv at PA
  generalize eE:a.eval x=xv at di
  cases PA
  cases di
  obtain ⟨fN,u,e1,e2,e3,e4,e5,e6⟩:=bZ E hi
  split at hq
  ·rename_i hk
   rw [hk] at e5
   have:=jz e5
   subst this
   injection hq with hq
   injection hq with uv mP
   subst mP
   obtain ⟨Af,GY⟩:=of_decide_eq_true uv
   have bP:n.toNat < l.length:=by omega
   refine aq h (c:=.int .u8 (l.getD n.toNat 0).toNat) ?_ (Rel.int _ _)
   have je:(⟨⟨l⟩⟩:ByteArray)[n.toNat]?=some (l.getD n.toNat 0):=by
    have hs:n.toNat < (⟨⟨l⟩⟩:ByteArray).size:=bP
    rw [getElem?_pos (⟨⟨l⟩⟩:ByteArray) n.toNat hs]
    congr 1
    simp [List.getD,List.getElem?_eq_getElem bP]
    rfl
   simp [execOp,ho,Instr.index,K0,eE,asIntOf,run_underlying e2,Af,je]
  ·cases hq
 ·rename_i i cs k n hi hx UR
  rw [hx] at rx
  rw [UR] at ri
  have PA:Rel R w (.int k n) (a.eval ix):=ri
  have di:Rel R w (.agg cs) (a.eval x):=rx
  generalize K0:a.eval ix=iv at PA
  generalize eE:a.eval x=xv at di
  cases PA
  cases di with
  | @agg _ vs hr h1=>
  obtain ⟨fN,u,e1,e2,e3,e4,e5,e6⟩:=bZ E hi
  split at hq
  ·rename_i len esz ag hk
   rw [hk] at e5
   obtain ⟨e,ie,ue,rfl,f1,f2,f3,f4⟩:=mO e5
   split at hq
   ·rename_i v' QB
    injection hq with hq
    injection hq with uv mP
    subst mP
    have eL:=of_decide_eq_true uv
    have key:∃ c,(part e ⟨vs⟩ (n.toNat * esz)).run E.P w=.ok c w∧Rel R w v' c:=by
     split at QB
     ·rename_i yU
      split at QB
      ·rename_i l hl
       exact lf f1 f3 (l:=l) hr h1 (fun _=>⟨by rw [f2]; exact hl,QB⟩) (fun hf=>by rw [f4,yU] at hf; cases hf)
      ·cases QB
     ·rename_i yU
      split at QB
      ·rename_i l hl
       exact lf f1 f3 (l:=l) hr h1 (fun hf=>by rw [f4] at hf; exact absurd hf yU) (fun _=>⟨hl,QB⟩)
      ·cases QB
    obtain ⟨c,k1,k2⟩:=key
    refine aq h ?_ k2
    simp [execOp,ho,Instr.index,K0,eE,asIntOf,run_underlying e2,eL,run_sizeOf w f1,f2,k1]
   ·cases hq
  ·cases hq
 ·cases hq
theorem yV (h:ba E R w β s a) (x:Operand) (j:Nat) (ho:o.op=.extract x j) {vs:List AV} {v:AV} (hx:bw E s.ae x=.v (.bg vs)) (hn:nth vs j=some v) :
  bQ E R w β s a o (s.put o.dst (.v v)):=by
 have rx:=aO h x
 rw [hx] at rx
 have di:Rel R w (.bg vs) (a.eval x):=rx
 generalize eE:a.eval x=xv at di
 cases di with
 | @bg _ us hr=>
 rw [aX] at hn
 obtain ⟨c,h1,h2⟩:=hr.get hn
 refine aq h ?_ h2
 simp [execOp,ho,Instr.extract,eE,h1]
theorem fq (h:ba E R w β s a):∀ {l:List Operand} {vs:List AV},kQ E s.ae l=some vs→aG R w vs (l.map a.eval)
 | [],vs,hl=>by simp [kQ] at hl; subst hl; exact .nil
 | x :: l,vs,hl=>by
  unfold kQ at hl
  split at hl
  ·rename_i v r h1 h2
   cases hl
   have:=aO h x
   rw [h1] at this
   exact .cons this (fq h h2)
  ·cases hl
theorem wY (h:ba E R w β s a) (g:FuncId) (x y:Array Operand) (ho:o.op=.makeFunc (.func g) x y) {p q:List AV} (hp:kQ E s.ae x.toList=some p) (hq:kQ E s.ae y.toList=some q) :
  bQ E R w β s a o (s.put o.dst (.v (.fn g p q))):=by
 have h1:=fq h hp
 have h2:=fq h hq
 refine aq h (c:=.func (.func g) ⟨x.toList.map a.eval⟩ ⟨y.toList.map a.eval⟩) ?_ (Rel.fn h1 h2)
 have e1:x.map a.eval=⟨x.toList.map a.eval⟩:=Array.ext' (by simp)
 have e2:y.map a.eval=⟨y.toList.map a.eval⟩:=Array.ext' (by simp)
 simp [execOp,ho,Instr.makeFunc,e1,e2]
end ops
end Go.Am
namespace Go.Am
open Go
section ops
variable {E:Env} {R:ak} {w:World} {β:Nat→Nat} {s:St} {a:Act} {o:Oper}
theorem size_bytes (l:List UInt8):(⟨⟨l⟩⟩:ByteArray).size=l.length:=rfl
theorem qh (l:List UInt8):(⟨⟨l⟩⟩:ByteArray).toList=l:=by rw [ByteArray.toList_eq]
theorem yW (l r:List UInt8):((⟨⟨l⟩⟩:ByteArray)++⟨⟨r⟩⟩)=⟨⟨l++r⟩⟩:=by
 apply ByteArray.ext
 rw [ByteArray.data_append]
 simp
theorem FI (op:BinOp) (t:TypeId) (x y:Operand) (k k':IntKind) (n m:Int):(eqGuard op t x y (.int k n) (.int k' m)).run E.P w=.ok () w:=by
 unfold eqGuard
 cases op <;> rfl
theorem FJ (op:BinOp) (t:TypeId) (x y:Operand) (n m:ByteArray):(eqGuard op t x y (.string n) (.string m)).run E.P w=.ok () w:=by
 unfold eqGuard
 cases op <;> rfl
theorem CA (h:ba E R w β s a) (op:BinOp) (t u:TypeId) (x y:Operand) (ho:o.op=.binOp op t x y u) {p q v:AV} (hx:bw E s.ae x=.v p) (hy:bw E s.ae y=.v q) (hv:Ao op p q=some (true,v)) :
  bQ E R w β s a o (s.put o.dst (.v v)):=by
 have rx:=aO h x
 have ry:=aO h y
 rw [hx] at rx
 rw [hy] at ry
 have di:Rel R w p (a.eval x):=rx
 have oM:Rel R w q (a.eval y):=ry
 have key:∃ c,(do eqGuard op t x y (a.eval x) (a.eval y); binOp op t (a.eval x) (a.eval y):Sem Value).run E.P w=.ok c w∧Rel R w v c:=by
  generalize eE:a.eval x=xv at di
  generalize US:a.eval y=yv at oM
  unfold Ao at hv
  split at hv
  ·rename_i k n k' m
   cases di
   cases oM
   simp only [Sem.run_bind,FI,Result.andThen_ok]
   split at hv
   ·injection hv with hv
    injection hv with h1 h2
    subst h2
    have hm:=of_decide_eq_true h1
    have QC:¬ m < 0:=by omega
    exact ⟨.int k (k.wrap (n * 2 ^ (min m.toNat k.bits))),by simp [binOp,Op.shift,QC],.int _ _⟩
   ·injection hv with hv
    injection hv with h1 h2
    subst h2
    have hm:=of_decide_eq_true h1
    have QC:¬ m < 0:=by omega
    exact ⟨.int k (n.fdiv (2 ^ (min m.toNat k.bits))),by simp [binOp,Op.shift,QC],.int _ _⟩
   ·rename_i Ek hs2
    split at hv
    ·rename_i Hp
     subst Hp
     split at hv
     ·cases hv; exact ⟨.int k (k.wrap (n+m)),by simp [binOp,Op.intArith],.int _ _⟩
     ·cases hv; exact ⟨.int k (k.wrap (n - m)),by simp [binOp,Op.intArith],.int _ _⟩
     ·cases hv; exact ⟨.int k (k.wrap (n * m)),by simp [binOp,Op.intArith],.int _ _⟩
     ·injection hv with hv
      injection hv with h1 h2
      subst h2
      have hm:¬ m=0:=by simpa using h1
      exact ⟨.int k (k.wrap (n.tdiv m)),by simp [binOp,Op.intDiv,hm],.int _ _⟩
     ·injection hv with hv
      injection hv with h1 h2
      subst h2
      have hm:¬ m=0:=by simpa using h1
      exact ⟨.int k (n.tmod m),by simp [binOp,Op.intDiv,hm],.int _ _⟩
     ·cases hv; exact ⟨.int k (Fv k n m),by simp [binOp,Op.intBits,Fv],.int _ _⟩
     ·cases hv; exact ⟨.int k (Ys k n m),by simp [binOp,Op.intBits,Ys],.int _ _⟩
     ·cases hv; exact ⟨.int k (Fw k n m),by simp [binOp,Op.intBits,Fw],.int _ _⟩
     ·cases hv; exact ⟨.bool (n == m),by simp [binOp,Op.intCmp],.bool _⟩
     ·cases hv; exact ⟨.bool (n != m),by simp [binOp,Op.intCmp],.bool _⟩
     ·cases hv; exact ⟨.bool (decide (n < m)),by simp [binOp,Op.intCmp],.bool _⟩
     ·cases hv; exact ⟨.bool (decide (n≤m)),by simp [binOp,Op.intCmp],.bool _⟩
     ·cases hv; exact ⟨.bool (decide (n > m)),by simp [binOp,Op.intCmp],.bool _⟩
     ·cases hv; exact ⟨.bool (decide (n≥m)),by simp [binOp,Op.intCmp],.bool _⟩
     ·cases hv
    ·cases hv
  ·rename_i l r
   cases di
   cases oM
   simp only [Sem.run_bind,FJ,Result.andThen_ok]
   split at hv
   ·injection hv with hv
    injection hv with h1 h2
    subst h2
    have hm:=of_decide_eq_true h1
    refine ⟨.string ⟨⟨l++r⟩⟩,?_,.str _⟩
    have QD:¬ ((l.length+r.length:Nat):Int) > IntKind.i64.max:=by
     have:IntKind.i64.max=9223372036854775807:=by decide
     omega
    simp only [binOp,Op.stringOp,size_bytes,if_neg QD,yW,Sem.run_pure]
   ·cases hv; exact ⟨.bool (l == r),by simp [binOp,Op.stringOp],.bool _⟩
   ·cases hv; exact ⟨.bool (!(l == r)),by simp [binOp,Op.stringOp],.bool _⟩
   ·cases hv; exact ⟨.bool (Op.bytesLess l r),by simp [binOp,Op.stringOp],.bool _⟩
   ·cases hv; exact ⟨.bool (Op.bytesLess l r || l == r),by simp [binOp,Op.stringOp],.bool _⟩
   ·cases hv; exact ⟨.bool (!(Op.bytesLess l r || l == r)),by simp [binOp,Op.stringOp],.bool _⟩
   ·cases hv; exact ⟨.bool (!(Op.bytesLess l r)),by simp [binOp,Op.stringOp],.bool _⟩
   ·cases hv
  ·cases hv
 obtain ⟨c,k1,k2⟩:=key
 refine aq h (c:=c) ?_ k2
 simp only [Sem.run_bind] at k1
 simp only [execOp,ho,Sem.run_bind,k1,Result.andThen_ok,Sem.run_pure]
theorem jo {t:TypeId} {i:TypeInfo} {u:TypeDesc} (h1:E.P.info? t=some i) (h2:E.P.underlying t=some u) {off:Nat} {cs:List AV} {vs:List Value} {v:AV} (hr:aG R w cs vs) (h3:∀ x∈vs,x.oneCell'=true)
  (h:Ee (iO u) off i.size cs=some v):∃ c,(part t ⟨vs⟩ off).run E.P w=.ok c w∧Rel R w v c:=by
 unfold Ee at h
 cases ha:iO u with
 | true=>
  rw [ha] at h
  simp only [if_true] at h
  split at h
  ·rename_i l hl
   exact lf h1 h2 hr h3 (fun _=>⟨hl,h⟩) (fun e=>by rw [ha] at e; cases e)
  ·cases h
 | false=>
  rw [ha] at h
  simp only [Bool.false_eq_true,if_false] at h
  split at h
  ·rename_i l hl
   exact lf h1 h2 hr h3 (fun e=>by rw [ha] at e; cases e) (fun _=>⟨hl,h⟩)
  ·cases h
theorem Au {ek:TypeId→EK} {d:Nat} (ih:∀ (t:TypeId) (a b:AV) (r:Bool) (x y:Value),kd (ek t) a b=some r→Rel R w a x→Rel R w b y→(Op.equalIn d t x y).run E.P w=.ok r w) {xs ys:List AV} {vs us:List Value}
  (hx:aG R w xs vs) (th:∀ x∈vs,x.oneCell'=true) (hy:aG R w ys us) (Lm:∀ x∈us,x.oneCell'=true) :
  ∀ (fs:List Field) (l:Qs) (r:Bool),Cl E.P ek fs=some l→rb l xs ys=some r→(Op.eqFields d ⟨vs⟩ ⟨us⟩ fs).run E.P w=.ok r w
 | [],l,r,hl,hr=>by
  simp [Cl] at hl
  subst hl
  simp [rb] at hr
  subst hr
  rfl
 | f :: fs,l,r,hl,hr=>by
  unfold Cl at hl
  split at hl
  ·cases hl
  ·rename_i hn
   split at hl
   ·rename_i i u l' h1 h2 h3
    cases hl
    unfold rb at hr
    split at hr
    ·rename_i a b ha hb
     split at hr
     ·rename_i p q hp hq
      cases hr
      obtain ⟨c,k1,k2⟩:=jo h1 h2 hx th ha
      obtain ⟨c',k3,k4⟩:=jo h1 h2 hy Lm hb
      have cw : f.name ≠ "_" := by simpa using hn
      have he:=ih f.type a b p c c' hp k2 k4
      have uw:=Au ih hx th hy Lm fs l' q h3 hq
      simp only [Op.eqFields,cw,ne_eq,not_false_eq_true,if_true,Sem.run_bind,k1,k3,he,Result.andThen_ok]
      cases p with
      | true=>simp [uw]
      | false=>simp
     ·cases hr
    ·cases hr
   ·cases hl
theorem xL {ek:EK} {d:Nat} {e:TypeId} {i:TypeInfo} {u:TypeDesc} (h1:E.P.info? e=some i) (h2:E.P.underlying e=some u) (ih:∀ (a b:AV) (r:Bool) (x y:Value),kd ek a b=some r→Rel R w a x→Rel R w b y→(Op.equalIn d e x y).run E.P w=.ok r w) {xs ys:List AV} {vs us:List Value}
  (hx:aG R w xs vs) (th:∀ x∈vs,x.oneCell'=true) (hy:aG R w ys us) (Lm:∀ x∈us,x.oneCell'=true) :
  ∀ (m k:Nat) (r:Bool),rb (uh i.size (iO u) ek m k) xs ys=some r→(Op.eqItems d e i.size ⟨vs⟩ ⟨us⟩ (List.range' k m)).run E.P w=.ok r w
 | 0,k,r,hr=>by
  simp [uh,rb] at hr
  subst hr
  rfl
 | m+1,k,r,hr=>by
  unfold uh rb at hr
  split at hr
  ·rename_i a b ha hb
   split at hr
   ·rename_i p q hp hq
    cases hr
    obtain ⟨c,k1,k2⟩:=jo h1 h2 hx th ha
    obtain ⟨c',k3,k4⟩:=jo h1 h2 hy Lm hb
    have he:=ih a b p c c' hp k2 k4
    have uw:=xL h1 h2 ih hx th hy Lm m (k+1) q hq
    simp only [List.range'_succ,Op.eqItems,Sem.run_bind,k1,k3,he,Result.andThen_ok]
    cases p with
    | true=>simpa using uw
    | false=>simp
   ·cases hr
  ·cases hr
theorem yX:∀ (n d:Nat),n≤d→∀ (t:TypeId) (a b:AV) (r:Bool) (x y:Value),kd (oA E.P n t) a b=some r→Rel R w a x→Rel R w b y→(Op.equalIn d t x y).run E.P w=.ok r w
 | 0,_,_,t,a,b,r,x,y,h,_,_=>by simp [oA,kd] at h
 | n+1,0,hd,_,_,_,_,_,_,_,_,_=>by omega
 | n+1,d+1,hd,t,a,b,r,x,y,h,hx,hy=>by
  unfold oA at h
  split at h
  ·rename_i hu
   unfold kd at h
   split at h
   all_goals (try contradiction)
   cases hx; cases hy; cases h
   exact run_equalIn_bool' w d t _ _ hu
  ·rename_i k hu
   unfold kd at h
   split at h
   all_goals (try contradiction)
   split at h
   ·rename_i hk
    subst hk
    cases hx; cases hy; cases h
    exact run_equalIn_int w d t _ k _ _ hu
   ·cases h
  ·rename_i hu
   unfold kd at h
   split at h
   all_goals (try contradiction)
   cases hx; cases hy; cases h
   rw [run_equalIn_string w d t _ _ hu,qh,qh]
  ·rename_i fs hu
   split at h
   ·simp [kd] at h
   ·rename_i hs
    split at h
    ·rename_i l hl
     unfold kd at h
     split at h
     all_goals (try contradiction)
     rename_i yQ xs ys hk
     cases hk
     cases hx with
     | agg hx th=>
     cases hy with
     | agg hy Lm=>
     have hf:E.P.fieldsOf t=fs:=by simp [Program.fieldsOf,hu]
     rw [run_equalIn_struct w d t _ _ (by rw [hf]; exact hu) (by simpa using hs),hf]
     exact Au (fun t a b r x y=>yX n d (by omega) t a b r x y) hx th hy Lm fs.toList _ r hl h
    ·simp [kd] at h
  ·rename_i m e hu
   split at h
   ·rename_i i ud g1 g2
    unfold kd at h
    split at h
    all_goals (try contradiction)
    rename_i yQ xs ys hk
    cases hk
    cases hx with
    | agg hx th=>
    cases hy with
    | agg hy Lm=>
    have nY:E.P.cellsOf e=i.size:=by simp [Program.cellsOf,g1]
    rw [run_equalIn_array (P:=E.P) w d _ _ hu g1,nY,List.range_eq_range']
    exact xL g1 g2 (fun a b r x y=>yX n d (by omega) e a b r x y) hx th hy Lm m 0 r h
   ·simp [kd] at h
  ·simp [kd] at h
theorem jq {t:TypeId} {i:TI} (hi:E.ti t=some i) {p q:AV} {r:Bool} {x y:Value} (h:kd i.ek p q=some r) (hx:Rel R w p x) (hy:Rel R w q y) :
  (Op.equalIn 10000 t x y).run E.P w=.ok r w∧((∃ b c,x=.bool b∧y=.bool c)∨(∃ k n k' m,x=.int k n∧y=.int k' m)∨(∃ n m,x=.string n∧y=.string m)∨(∃ n m,x=.agg n∧y=.agg m∧E.P.eqGuardType E.P.depth t=false)):=by
 have xM:i.ek=ss E.P t:=by
  have:=E.Fu t i hi
  unfold Ft at this
  split at this
  ·split at this
   ·cases this; rfl
   ·cases this
  ·cases this
 rw [xM] at h
 have hg:kd (oA E.P 6 t) p q=some r∧((∃ l,oA E.P 6 t=.st l)→E.P.eqGuardType E.P.depth t=false):=by
  unfold ss at h
  split at h
  ·rename_i l hl
   split at h
   ·simp [kd] at h
   ·rename_i FK
    exact ⟨by rw [hl]; exact h,fun _=>by simpa using FK⟩
  ·rename_i k hk
   exact ⟨h,fun ⟨l,hl⟩=>absurd hl (hk l)⟩
 refine ⟨yX 6 10000 (by omega) t p q r x y hg.1 hx hy,?_⟩
 have h2:=hg.1
 have h3:=hg.2
 generalize oA E.P 6 t=k at h2 h3
 unfold kd at h2
 split at h2
 ·cases hx; cases hy; exact .inl ⟨_,_,rfl,rfl⟩
 ·cases hx; cases hy; exact .inr (.inl ⟨_,_,_,_,rfl,rfl⟩)
 ·cases hx; cases hy; exact .inr (.inr (.inl ⟨_,_,rfl,rfl⟩))
 ·cases hx; cases hy; exact .inr (.inr (.inr ⟨_,_,rfl,rfl,h3 ⟨_,rfl⟩⟩))
 ·cases h2
theorem Hq (h:ba E R w β s a) (op:BinOp) (t u:TypeId) (x y:Operand) (ho:o.op=.binOp op t x y u) {p q:AV} {r:Bool} (hx:bw E s.ae x=.v p) (hy:bw E s.ae y=.v q) (hb:Ao op p q=none) (hv:Yu E op t p q=some r) :
  bQ E R w β s a o (s.put o.dst (.v (.bool r))):=by
 have rx:=aO h x
 have ry:=aO h y
 rw [hx] at rx
 rw [hy] at ry
 have di:Rel R w p (a.eval x):=rx
 have oM:Rel R w q (a.eval y):=ry
 have key:(do eqGuard op t x y (a.eval x) (a.eval y); binOp op t (a.eval x) (a.eval y):Sem Value).run E.P w=.ok (.bool r) w:=by
  generalize eE:a.eval x=xv at di
  generalize US:a.eval y=yv at oM
  unfold Yu at hv
  split at hv
  ·rename_i i hi
   obtain ⟨k1,k2⟩:=jq hi hv di oM
   rcases k2 with ⟨b,c,rfl,rfl⟩ | ⟨k,n,k',m,rfl,rfl⟩ | ⟨n,m,rfl,rfl⟩ | ⟨n,m,rfl,rfl,hg⟩
   ·have CB:(eqGuard .eql t x y (.bool b) (.bool c)).run E.P w=.ok () w:=rfl
    simp [CB,binOp,Op.equal,Op.maxDepth,k1]
   ·cases di; cases oM; simp [Ao] at hb
    cases hk:i.ek <;> simp [hk,kd] at hv
    exact absurd hv.1 hb
   ·cases di; cases oM; simp [Ao] at hb
   ·simp only [Sem.run_bind,run_eqGuard_agg w _ t x y n m hg,Result.andThen_ok,run_eql_struct,k1]
  ·rename_i i hi
   split at hv
   ·rename_i r' kG
    cases hv
    obtain ⟨k1,k2⟩:=jq hi kG di oM
    rcases k2 with ⟨b,c,rfl,rfl⟩ | ⟨k,n,k',m,rfl,rfl⟩ | ⟨n,m,rfl,rfl⟩ | ⟨n,m,rfl,rfl,hg⟩
    ·have CB:(eqGuard .neq t x y (.bool b) (.bool c)).run E.P w=.ok () w:=rfl
     simp [CB,binOp,Op.equal,Op.maxDepth,k1]
    ·cases di; cases oM; simp [Ao] at hb
     cases hk:i.ek <;> simp [hk,kd] at kG
     exact absurd kG.1 hb
    ·cases di; cases oM; simp [Ao] at hb
    ·simp only [Sem.run_bind,run_eqGuard_agg w _ t x y n m hg,Result.andThen_ok,run_neq_struct,k1]
   ·cases hv
  ·cases hv
 refine aq h (c:=.bool r) ?_ (.bool r)
 simp only [Sem.run_bind] at key
 simp only [execOp,ho,Sem.run_bind,key,Result.andThen_ok,Sem.run_pure]
theorem Hr (h:ba E R w β s a) (t:TypeId) (x:Operand) (ho:o.op=.unOp .not t x) {b:Bool} (hx:bw E s.ae x=.v (.bool b)):bQ E R w β s a o (s.put o.dst (.v (.bool (!b)))):=by
 have rx:=aO h x
 rw [hx] at rx
 have di:Rel R w (.bool b) (a.eval x):=rx
 generalize eE:a.eval x=xv at di
 cases di
 refine aq h (c:=.bool (!b)) ?_ (Rel.bool _)
 simp [execOp,ho,Op.unary,eE]
theorem Hs (h:ba E R w β s a) (t:TypeId) (x:Operand) (ho:o.op=.unOp .neg t x) {k:IntKind} {n:Int} (hx:bw E s.ae x=.v (.int k n)):bQ E R w β s a o (s.put o.dst (.v (.int k (k.wrap (0 - n))))):=by
 have rx:=aO h x
 rw [hx] at rx
 have di:Rel R w (.int k n) (a.eval x):=rx
 generalize eE:a.eval x=xv at di
 cases di
 refine aq h (c:=.int k (k.wrap (0 - n))) ?_ (Rel.int _ _)
 simp [execOp,ho,Op.unary,Op.intArith,eE]
theorem xN:∀ (us:List Value) (off j0:Nat) (cells:Array Value),off+j0+us.length≤cells.size →
  ((us.zipIdx j0).foldl (fun (cs:Array Value) (p:Value × Nat)=>cs.setIfInBounds (off+p.2) p.1) cells).toList=cells.toList.take (off+j0)++us++cells.toList.drop (off+j0+us.length)
 | [],off,j0,cells,_=>by simp
 | u :: us,off,j0,cells,h=>by
  have bP:off+j0 < cells.size:=by simp at h; omega
  have ih:=xN us off (j0+1) (cells.setIfInBounds (off+j0) u) (by simp at h ⊢; omega)
  simp only [List.zipIdx_cons,List.foldl_cons]
  rw [ih]
  have e:=list_seg_step cells.toList (off+j0) u us (by simp at h ⊢; omega)
  simpa [Array.toList_setIfInBounds,Nat.add_assoc] using e
theorem mQ (place:Nat→Option (Nat × Nat)):∀ {ps:List (Nat × AV)} {qs:List (Nat × Value)} {cells ux:List AV} {vs:List Value},
  aG R w (ps.map (·.2)) (qs.map (·.2))→ps.map (·.1)=qs.map (·.1)→aG R w cells vs→(∀ x∈vs,x.oneCell'=true)→su place cells ps=some ux →
  ∃ us,Instr.fill place ⟨vs⟩ qs=some ⟨us⟩∧aG R w ux us∧∀ x∈us,x.oneCell'=true
 | [],qs,cells,ux,vs,h1,h2,h3,h4,h5=>by
  have:qs=[]:=by simpa using h2.symm
  subst this
  simp [su] at h5
  subst h5
  exact ⟨vs,rfl,h3,h4⟩
 | (i,v) :: ps,[],cells,ux,vs,h1,h2,h3,h4,h5=>by simp at h2
 | (i,v) :: ps,(j,c) :: qs,cells,ux,vs,h1,h2,h3,h4,h5=>by
  simp only [List.map_cons,List.cons.injEq] at h2
  obtain ⟨rfl,h2⟩:=h2
  cases h1 with
  | cons hr h1=>
  unfold su at h5
  split at h5
  ·cases h5
  ·rename_i off sz hp
   split at h5
   ·rename_i eL
    simp only [Bool.and_eq_true] at eL
    obtain ⟨⟨KY,hlen⟩,hle⟩:=eL
    have hlen:=Nat.eq_of_beq_eq_true hlen
    have hle:=Nat.le_of_ble_eq_true hle
    obtain ⟨c1,c2⟩:=Rel.cells hr KY
    have El:c.cells.toList.length=sz:=by rw [← c1.length]; exact hlen
    have hb:off+v.cells.length≤cells.length:=by omega
    obtain ⟨us,u1,u2,u3⟩:=mQ place h1 h2 (h3.aZ c1 hb) (gY h4 c2) h5
    refine ⟨us,?_,u2,u3⟩
    have dO:c.cells.size=sz:=by simpa using El
    have PB:vs.length=cells.length:=h3.length.symm
    have UT:c.cells.zipIdx.foldl (fun (cs:Array Value) (x:Value × Nat)=>cs.setIfInBounds (off+x.2) x.1) ⟨vs⟩=⟨vs.take off++c.cells.toList++vs.drop (off+c.cells.toList.length)⟩:=by
     apply Array.ext'
     rw [← Array.foldl_toList,Array.toList_zipIdx]
     have:=xN c.cells.toList off 0 ⟨vs⟩ (by simp only [List.size_toArray]; omega)
     simpa using this
    have cB:(c.cells.size≠sz || decide (off+c.cells.size > (⟨vs⟩:Array Value).size))=false:=by
     have Ek:decide (c.cells.size≠sz)=false:=by simp [dO]
     have hs2:decide (off+c.cells.size > (⟨vs⟩:Array Value).size)=false:=by
      rw [decide_eq_false_iff_not,dO]
      show ¬ off+sz > vs.length
      omega
     rw [Ek,hs2]
     rfl
    unfold Instr.fill
    simp only [hp,cB,Bool.false_eq_true,if_false]
    rw [← u1]
    exact congrArg (fun z=>Instr.fill place z qs) UT
   ·cases h5
theorem tJ (h:ba E R w β s a):∀ {l:List (Nat × Operand)} {ps:List (Nat × AV)},KX E s.ae l=some ps →
  aG R w (ps.map (·.2)) ((l.map fun x=>(x.1,a.eval x.2)).map (·.2))∧ps.map (·.1)=(l.map fun x=>(x.1,a.eval x.2)).map (·.1)
 | [],ps,hl=>by simp [KX] at hl; subst hl; exact ⟨.nil,rfl⟩
 | (i,x) :: l,ps,hl=>by
  unfold KX at hl
  split at hl
  ·rename_i v r h1 h2
   cases hl
   have hx:=aO h x
   rw [h1] at hx
   obtain ⟨g1,g2⟩:=tJ h h2
   exact ⟨.cons hx g1,by simpa using g2⟩
  ·cases hl
theorem CC (h:ba E R w β s a) (t:TypeId) (parts:Array (Nat × Operand)) (ho:o.op=.build t parts) {v:AV} (hv:lI E s t parts.toList=some v) :
  bQ E R w β s a o (s.put o.dst (.v v)):=by
 unfold lI at hv
 split at hv
 ·rename_i i ps hi GZ
  split at hv
  ·rename_i z hz
   split at hv
   ·rename_i cs nY
    split at hv
    ·rename_i yU
     cases hv
     simp only [Bool.and_eq_true] at yU
     obtain ⟨yU,pV⟩:=yU
     obtain ⟨fN,u,e1,e2,e3,e4,e5,e6⟩:=bZ E hi
     rw [hz] at e6
     obtain ⟨zc,pq,Ce⟩:=cP e6
     obtain ⟨p1,p2⟩:=tJ h GZ
     obtain ⟨c1,c2⟩:=Rel.cells (Ce R w) pV
     have QE:(parts.map fun (x:Nat × Operand)=>(x.1,a.eval x.2)).toList=parts.toList.map fun x=>(x.1,a.eval x.2):=by simp
     have key:∃ us,E.P.built t (parts.toList.map fun x=>(x.1,a.eval x.2))=some ⟨us⟩∧aG R w cs us∧∀ x∈us,x.oneCell'=true:=by
      cases u <;> simp only [iO] at e4 <;> first | (rw [yU] at e4; cases e4; done) | skip
      ·rename_i n e
       simp only [oz] at e5
       split at e5
       ·rename_i ie ue f1 f2
        injection e5 with e5
        rw [← e5] at nY
        obtain ⟨us,u1,u2,u3⟩:=mQ (R:=R) (w:=w) _ p1 p2 c1 c2 nY
        refine ⟨us,?_,u2,u3⟩
        unfold Program.built
        simp only [e1,e2,pq,f1]
        rw [← u1]
        rfl
       ·cases e5
      ·rename_i fs
       simp only [oz] at e5
       split at e5
       ·rename_i l hl
        injection e5 with e5
        rw [← e5] at nY
        obtain ⟨us,u1,u2,u3⟩:=mQ (R:=R) (w:=w) _ p1 p2 c1 c2 nY
        refine ⟨us,?_,u2,u3⟩
        unfold Program.built
        simp only [e1,e2,pq,mz hl]
        rw [← u1]
        have T4:placeOf (.st l)=fun j=>(l.map fun x=>(x.1,x.2.1)).toArray[j]?:=by
         funext j
         simp only [placeOf,aX,List.getElem?_toArray,List.getElem?_map]
         cases l[j]? <;> rfl
        rw [T4]
       ·cases e5
     obtain ⟨us,u1,u2,u3⟩:=key
     refine aq h (c:=.agg ⟨us⟩) ?_ (Rel.agg u2 u3)
     have bt:=run_build (P:=E.P) w t (parts.map fun (x:Nat × Operand)=>(x.1,a.eval x.2)) ⟨us⟩ (by rw [QE]; exact u1)
     simp only [execOp,ho,Sem.run_bind,bt,Result.andThen_ok,Sem.run_pure]
    ·cases hv
   ·cases hv
  ·cases hv
 ·cases hv
end ops
end Go.Am
