/- The abstract machine: lists of cells; what keeps a state's meaning; loads and stores. -/
import Derived.Test.YtophnjjjmikmeaaGreatAmKA
import Derived.Laws.CopyRow
import Derived.Laws.Slices
set_option linter.all false
namespace Go.Am
open Go
section lists
variable {α:Type}
theorem vm (n:Nat) (l:List α):eI n l=l.drop n:=by
 induction n generalizing l with
 | zero=>simp [eI]
 | succ n ih=>cases l <;> simp [eI,ih]
theorem I9 {n:Nat} {l r:List α} (h:takeN n l=some r):r=l.take n∧r.length=n:=by
 induction n generalizing l r with
 | zero=>simp [takeN] at h; subst h; simp
 | succ n ih=>
  cases l with
  | nil=>simp [takeN] at h
  | cons a l=>
   unfold takeN at h
   split at h
   ·rename_i r' hr
    cases h
    obtain ⟨h1,h2⟩:=ih hr
    exact ⟨by simp [h1],by simp [h2]⟩
   ·cases h
theorem PS {off n:Nat} {l r:List α} (h:DP off n l=some r):r=(l.drop off).take n∧r.length=n:=by
 unfold DP at h
 rw [vm] at h
 exact I9 h
theorem dA (l:List α) (off:Nat) (ys:List α) (h:off+ys.length≤l.length):aY l off ys=l.take off++ys++l.drop (off+ys.length):=by
 induction l generalizing off ys with
 | nil=>
  have hy:ys=[]:=List.eq_nil_of_length_eq_zero (by rw [List.length_nil] at h; omega)
  subst hy
  simp [aY]
 | cons a l ih=>
  cases ys with
  | nil=>simp [aY]
  | cons y ys=>
   cases off with
   | zero=>
    simp only [aY]
    rw [ih 0 ys (by simp at h ⊢; omega)]
    simp
   | succ n=>
    simp only [aY]
    rw [ih n (y :: ys) (by simp at h ⊢; omega)]
    rw [show n+1+(y :: ys).length=(n+(y :: ys).length)+1 by omega]
    simp
theorem oQ (l:List α) (off:Nat) (ys:List α) (h:off+ys.length≤l.length):(aY l off ys).length=l.length:=by
 rw [dA l off ys h]
 simp
 omega
end lists
section rel
variable {R:af} {w:World}
theorem aC.length {l:List AV} {vs:List Value} (h:aC R w l vs):l.length=vs.length:=by
 induction l generalizing vs with
 | nil=>cases h; rfl
 | cons a l ih=>cases h with | cons h t=>simp [ih t]
theorem aC.get {l:List AV} {vs:List Value} (h:aC R w l vs) {i:Nat} {a:AV} (ha:l[i]?=some a):∃ c,vs[i]?=some c∧Rel R w a c:=by
 induction l generalizing vs i with
 | nil=>simp at ha
 | cons x l ih=>
  cases h with
  | cons h t=>
   cases i with
   | zero=>simp at ha; subst ha; exact ⟨_,by simp,h⟩
   | succ i=>simp at ha; obtain ⟨c,h1,h2⟩:=ih t ha; exact ⟨c,by simpa using h1,h2⟩
theorem aC.drop {l:List AV} {vs:List Value} (h:aC R w l vs) (n:Nat):aC R w (l.drop n) (vs.drop n):=by
 induction n generalizing l vs with
 | zero=>simpa using h
 | succ n ih=>cases h with
  | nil=>simpa using aC.nil
  | cons h t=>simpa using ih t
theorem aC.take {l:List AV} {vs:List Value} (h:aC R w l vs) (n:Nat):aC R w (l.take n) (vs.take n):=by
 induction n generalizing l vs with
 | zero=>simpa using aC.nil
 | succ n ih=>cases h with
  | nil=>simpa using aC.nil
  | cons h t=>simpa using aC.cons h (ih t)
theorem aC.append {l r:List AV} {vs us:List Value} (h:aC R w l vs) (k:aC R w r us):aC R w (l++r) (vs++us):=by
 induction l generalizing vs with
 | nil=>cases h; simpa using k
 | cons a l ih=>cases h with | cons h t=>exact .cons h (ih t)
theorem aC.one {a:AV} {c:Value} (h:Rel R w a c):aC R w [a] [c]:=.cons h .nil
theorem Rel.cells {a:AV} {c:Value} (h:Rel R w a c) (ht:a.aN=true):aC R w a.cells c.cells.toList∧∀ v∈c.cells.toList,v.oneCell'=true:=by
 cases h with
 | agg h h1=>exact ⟨h,h1⟩
 | bF h=>simp [AV.aN] at ht
 | bool=>exact ⟨.one (.bool _),by simp [Value.cells,Value.oneCell']⟩
 | int=>exact ⟨.one (.int _ _),by simp [Value.cells,Value.oneCell']⟩
 | str=>exact ⟨.one (.str _),by simp [Value.cells,Value.oneCell']⟩
 | iS=>exact ⟨.one .iS,by simp [Value.cells,Value.oneCell']⟩
 | ptr h=>exact ⟨.one (.ptr h),by simp [Value.cells,Value.oneCell']⟩
 | ep h=>exact ⟨.one (.ep h),by simp [Value.cells,Value.oneCell']⟩
 | iC=>exact ⟨.one .iC,by simp [Value.cells,Value.oneCell']⟩
 | hZ=>exact ⟨.one .hZ,by simp [Value.cells,Value.oneCell']⟩
 | lj=>exact ⟨.one .lj,by simp [Value.cells,Value.oneCell']⟩
 | jY h ho=>exact ⟨.one (.jY h ho),by simp [Value.cells,Value.oneCell']⟩
 | kH h ho=>exact ⟨.one (.kH h ho),by simp [Value.cells,Value.oneCell']⟩
 | list h hl hc hk=>exact ⟨.one (.list h hl hc hk),by simp [Value.cells,Value.oneCell']⟩
 | iy h hc=>exact ⟨.one (.iy h hc),by simp [Value.cells,Value.oneCell']⟩
 | gT h ho=>exact ⟨.one (.gT h ho),by simp [Value.cells,Value.oneCell']⟩
 | cT h ho hc=>exact ⟨.one (.cT h ho hc),by simp [Value.cells,Value.oneCell']⟩
 | gp h ho=>exact ⟨.one (.gp h ho),by simp [Value.cells,Value.oneCell']⟩
 | qq h ho=>exact ⟨.one (.qq h ho),by simp [Value.cells,Value.oneCell']⟩
 | gk h ho hc=>exact ⟨.one (.gk h ho hc),by simp [Value.cells,Value.oneCell']⟩
 | rp h ho=>exact ⟨.one (.rp h ho),by simp [Value.cells,Value.oneCell']⟩
 | lh=>exact ⟨.one .lh,by simp [Value.cells,Value.oneCell']⟩
 | map h=>exact ⟨.one (.map h),by simp [Value.cells,Value.oneCell']⟩
 | dB=>exact ⟨.one .dB,by simp [Value.cells,Value.oneCell']⟩
 | fn h h'=>exact ⟨.one (.fn h h'),by simp [Value.cells,Value.oneCell']⟩
 | yield h=>exact ⟨.one (.yield h),by simp [Value.cells,Value.oneCell']⟩
 | mV=>exact ⟨.one .mV,by simp [Value.cells,Value.oneCell']⟩
 | iface h=>exact ⟨.one (.iface h),by simp [Value.cells,Value.oneCell']⟩
mutual
theorem Rel.gq:∀ {a:AV} {c:Value},Rel R w a c→Rel R w a.gq c
 | _,_,.bool b=>.bool b
 | _,_,.int k n=>.int k n
 | _,_,.str l=>.str l
 | _,_,.agg h h1=>.agg h.gq h1
 | _,_,.bF h=>.bF h.gq
 | _,_,.iS=>.iS
 | _,_,.ptr h=>.ptr h
 | _,_,.ep h=>.ep h
 | _,_,.iC=>.iC
 | _,_,.hZ=>.hZ
 | _,_,.lj=>.lj
 | _,_,.jY _ _=>.hZ
 | _,_,.kH _ _=>.hZ
 | _,_,@Rel.list _ _ .nil _ _ _ _ _ _ h hl hc hk=>.list h hl hc hk
 | _,_,@Rel.list _ _ .full _ _ _ _ _ _ h hl hc hk=>.list h hl hc hk
 | _,_,@Rel.list _ _ .gX _ _ _ _ _ _ h hl hc hk=>.list h hl hc hk
 | _,_,@Rel.list _ _ (.own _) _ _ _ _ _ _ h hl hc _=>.list h hl hc trivial
 | _,_,@Rel.list _ _ (.aM _ _) _ _ _ _ _ _ h hl hc _=>.list h hl hc trivial
 | _,_,.iy h hc=>.iy h hc
 | _,_,.gT h ho=>.gT h ho
 | _,_,.cT h ho hc=>.cT h ho hc
 | _,_,.gp h ho=>.gp h ho
 | _,_,.qq h ho=>.qq h ho
 | _,_,.gk h ho hc=>.gk h ho hc
 | _,_,.rp h ho=>.rp h ho
 | _,_,.lh=>.lh
 | _,_,.map h=>.map h
 | _,_,.dB=>.dB
 | _,_,.fn h h'=>.fn h h'
 | _,_,.yield h=>.yield h
 | _,_,.mV=>.mV
 | _,_,.iface h=>.iface h
theorem aC.gq:∀ {l:List AV} {cs:List Value},aC R w l cs→aC R w (kM l) cs
 | _,_,.nil=>.nil
 | _,_,.cons h t=>.cons h.gq t.gq
end
theorem dZ.get {b o:Nat} {l:List AV} (h:dZ R w b o l):∃ vs,aC R w l vs∧(∀ v∈vs,v.oneCell'=true)∧(∀ j v,vs[j]?=some v→w.cell? ⟨b,o+j,none⟩=some v)∧∀ j,j < l.length→R.I b (o+j):=by
 induction l generalizing o with
 | nil=>exact ⟨[],.nil,by simp,by simp,by simp⟩
 | cons a l ih=>
  cases h with
  | @cons _ _ _ c _ hc h1 hi h t=>
   obtain ⟨vs,k1,k2,k3,k4⟩:=ih t
   refine ⟨c :: vs,.cons h k1,?_,?_,?_⟩
   ·intro v hv
    rcases List.mem_cons.1 hv with rfl | hv
    ·exact h1
    ·exact k2 v hv
   ·intro j v hv
    cases j with
    | zero=>simp at hv; subst hv; exact hc
    | succ j=>simp at hv; have:=k3 j v hv; rwa [show o+1+j=o+(j+1) by omega] at this
   ·intro j hj
    cases j with
    | zero=>exact hi
    | succ j=>have:=k4 j (by simp at hj; omega); rwa [show o+1+j=o+(j+1) by omega] at this
theorem dZ.make {b o:Nat} {l:List AV} {vs:List Value} (h:aC R w l vs) (h1:∀ v∈vs,v.oneCell'=true) (hc:∀ j v,vs[j]?=some v→w.cell? ⟨b,o+j,none⟩=some v) (hi:∀ j,j < l.length→R.I b (o+j)):dZ R w b o l:=by
 induction l generalizing vs o with
 | nil=>exact .nil
 | cons a l ih=>
  cases h with
  | cons h t=>
   refine .cons (hc 0 _ (by simp)) (h1 _ (by simp)) (hi 0 (by simp)) h (ih t (fun v hv=>h1 v (by simp [hv])) (fun j v hv=>?_) (fun j hj=>?_))
   ·have:=hc (j+1) v (by simpa using hv); rwa [show o+(j+1)=o+1+j by omega] at this
   ·have:=hi (j+1) (by simpa using hj); rwa [show o+(j+1)=o+1+j by omega] at this
theorem dZ.drop {b o:Nat} {l:List AV} (h:dZ R w b o l) (n:Nat):dZ R w b (o+n) (l.drop n):=by
 induction n generalizing o l with
 | zero=>simpa using h
 | succ n ih=>cases h with
  | nil=>simpa using dZ.nil
  | cons hc h1 hi h t=>have:=ih t; rw [show o+1+n=o+(n+1) by omega] at this; simpa using this
end rel
theorem bZ (b o n:Nat):(⟨b,o,none⟩:Addr).add n=⟨b,o+n,none⟩:=by unfold Addr.add; split <;> simp_all
section bY
variable {E:Env} {R R':af} {w w':World} {β β':Nat→Nat} {s:St} {a:Act}
theorem nl.mono (e:Ext R w R' w') {sl:a8} {tm:Array Value} (h:nl R w β sl tm):nl R' w' β sl tm:=
 fun i hi=>let ⟨c,h1,h2⟩:=h i hi; ⟨c,h1,h2.mono e⟩
theorem dg.mono (e:Ext R w R' w'):∀ {l:List (AV × AV)} {es:List MapEntry},dg R w l es→dg R' w' l es
 | [],[],_=>trivial
 | (_,_) :: _,_ :: _,h=>⟨h.1.mono e,h.2.1.mono e,dg.mono e h.2.2⟩
 | [],_ :: _,h=>h.elim
 | _ :: _,[],h=>h.elim
theorem nm {w w':World} {b:Nat} (h:b < w.heap.size) (e:w'.heap[b]?=w.heap[b]?):b < w'.heap.size:=by
 rw [Array.getElem?_eq_getElem h] at e
 exact (Array.getElem?_eq_some_iff.1 e).1
theorem fO.mono (e:Ext R w R' w') {go:GO} {ro:RO} (h:fO R w go ro) (hb:∀ b,ro.has b→w'.heap[b]?=w.heap[b]?) (hi:∀ b o,ro.has b→R'.I b o→R.I b o):fO R' w' go ro:=by
 cases ro with
 | none=>cases go <;> first | exact h | exact h.elim
 | aR=>cases go <;> first | exact h | exact h.elim
 | bw b=>
  have jC:=hb b rfl
  cases go with
  | dead=>exact nm h jC
  | row cs el=>obtain ⟨vs,h1,h2,h3,h4⟩:=h; exact ⟨vs,jC.trans h1,h2.mono e,h3,fun o ho=>h4 o (hi b o rfl ho)⟩
  | tok f sz el=>exact h.elim
  | aM _ _ _=>exact h.elim
  | mM fK n left _=>obtain ⟨bm,seen,c0,h1,h2,h3⟩:=h; exact ⟨bm,seen,c0,e.bw h1,jC.trans h2,h3⟩
  | cK es sz el=>exact h.elim
  | gY _ _ _=>exact h.elim
  | map es=>obtain ⟨az,clock,h1,h2,h3⟩:=h; exact ⟨az,clock,jC.trans h1,dg.mono e h2,h3⟩
  | gf l pos=>exact jC.trans h
  | loop busy pending fn ae n params assign body defers done=>
   obtain ⟨⟨r,db,h1,h2,h3,h4,h5,h6,h7,h8,h9,h11⟩,h10⟩:=h
   exact ⟨⟨r,db,jC.trans h1,h2,h3,h4.mono e,h5,h6,h7,h8,h9,e.bw h11⟩,h10⟩
  | defers o=>exact jC.trans h
 | tok f b c k0=>
  have jC:=hb b rfl
  cases go with
  | tok f' sz el=>
   obtain ⟨h0,cur,h1,h2,h3,h4,h5⟩:=h
   exact ⟨h0,cur,jC.trans h1,h2,h3,h4,fun o ho pw=>h5 o ho (hi b o rfl pw)⟩
  | cK es sz el=>
   obtain ⟨hk,h0,jD,cur,vs,h1,h2,h3,h4,h5,h6,h7,h8⟩:=h
   exact ⟨hk,h0,jD,cur,vs,jC.trans h1,h2,h3,h4,fun o ho=>h5 o (hi b o rfl ho),h6.mono e,h7,h8⟩
  | dead=>exact nm h jC
  | row cs=>exact h.elim
  | aM _ _ _=>exact h.elim
  | mM _ _ _ _=>exact h.elim
  | gY _ _ _=>exact h.elim
  | map es=>exact h.elim
  | gf l pos=>exact h.elim
  | loop=>exact h.elim
  | defers o=>exact h.elim
 | aM ts=>
  cases go with
  | aM fs sz el=>
   obtain ⟨h1,h2,h3⟩:=h
   refine ⟨h1,h2,fun j f t hf ht=>?_⟩
   have h4:=h3 j f t hf ht
   cases t with
   | aR=>exact h4
   | full f'=>exact h4
   | tok f' b c=>
    obtain ⟨h5,cur,k1,k2,k3,k4,k5⟩:=h4
    have hh:RO.has (.aM ts) b:=⟨j,f',c,ht⟩
    exact ⟨h5,cur,(hb b hh).trans k1,k2,k3,k4,fun o ho pw=>k5 o ho (hi b o hh pw)⟩
  | gY rows sz el=>
   obtain ⟨h1,h2,h3⟩:=h
   refine ⟨h1,h2,fun j row t hf ht=>?_⟩
   have h4:=h3 j row t hf ht
   cases t with
   | aR=>exact h4
   | full f'=>exact h4
   | tok f' b c=>
    obtain ⟨h5,jD,cur,vs,k1,k2,k3,k4,k5,k6,k7,k8⟩:=h4
    have hh:RO.has (.aM ts) b:=⟨j,f',c,ht⟩
    exact ⟨h5,jD,cur,vs,(hb b hh).trans k1,k2,k3,k4,fun o ho=>k5 o (hi b o hh ho),k6.mono e,k7,k8⟩
  | dead=>exact fun j f b c ht=>nm (h j f b c ht) (hb b ⟨j,f,c,ht⟩)
  | _=>exact h.elim
theorem Live.of {id b:Nat} {ro:RO} (h:nth R.obj id=some ro) (hb:ro.has b):Live R b:=⟨id,ro,h,hb⟩
theorem dN.bY {G:List GO} (h:dN E R w G) (e:Ext R w R' w') (ho:R'.obj=R.obj) (hb:∀ b,Live R b→w'.heap[b]?=w.heap[b]?) (hi:∀ b o,Live R b→R'.I b o→R.I b o) (wf:∀ b o,R'.I b o→b < w'.heap.size) (hd:E.lo≤w.drawn→E.lo≤w'.drawn:=by first | exact fun h=>h | exact fun h=>Nat.le_succ_of_le h):dN E R' w' G where
 lo:=hd h.lo
 len:=by rw [ho]; exact h.len
 obj:=fun id go ro hg hr=>by
  rw [ho] at hr
  exact (h.obj id go ro hg hr).mono e (fun b FZ=>hb b (.of hr FZ)) (fun b o FZ=>hi b o (.of hr FZ))
 inj:=fun i j ri rj b h1 h2=>by rw [ho] at h1 h2; exact h.inj i j ri rj b h1 h2
 wf:=wf
 ck:=fun g cs hg=>(h.ck g cs hg).mono e
theorem Mq.bY {bx:cp} (h:Mq R w β bx) (e:Ext R w R' w') (hb:∀ k cs,cX bx k=some cs→w'.heap[β k]?=w.heap[β k]?) (hi:∀ k cs o,cX bx k=some cs→R'.I (β k) o→R.I (β k) o) (hl:∀ k cs,cX bx k=some cs→Live R' (β k)→Live R (β k)):Mq R' w' β bx where
 box:=fun k cs hk=>by
  obtain ⟨⟨vs,el,h1,h2,h3⟩,h4,h5⟩:=h.box k cs hk
  exact ⟨⟨vs,el,(hb k cs hk).trans h1,h2.mono e,h3⟩,fun o ho=>h4 o (hi k cs o hk ho),fun qf=>h5 (hl k cs hk qf)⟩
 inj:=h.inj
theorem oL.mono (e:Ext R w R' w'):∀ {l:List Nat} {ds:List Deferred},oL R l ds→oL R' l ds
 | [],[],_=>trivial
 | _ :: _,_ :: _,h=>let ⟨⟨b,h1,h2⟩,h3⟩:=h; ⟨⟨b,e.bw h1,h2⟩,oL.mono e h3⟩
 | [],_ :: _,h=>h.elim
 | _ :: _,[],h=>h.elim
theorem aQ.bY (h:aQ E R w β s a) (e:Ext R w R' w') (ho:R'.obj=R.obj) (hb:∀ b,Own R β s.boxes b→w'.heap[b]?=w.heap[b]?) (hi:∀ b o,Own R β s.boxes b→R'.I b o→R.I b o) (wf:∀ b o,R'.I b o→b < w'.heap.size) (hd:E.lo≤w.drawn→E.lo≤w'.drawn:=by first | exact fun h=>h | exact fun h=>Nat.le_succ_of_le h):aQ E R' w' β s a where
 g:=h.g.bY e ho (fun b hl=>hb b (.inl hl)) (fun b o hl=>hi b o (.inl hl)) wf hd
 b:=h.b.bY e (fun k cs hk=>hb _ (.inr ⟨k,cs,hk,rfl⟩)) (fun k cs o hk=>hi _ o (.inr ⟨k,cs,hk,rfl⟩)) (fun k cs _ hl=>by obtain ⟨id,ro,h1,h2⟩:=hl; rw [ho] at h1; exact ⟨id,ro,h1,h2⟩)
 t:=h.t.mono e
 n:=h.n
 d:=h.d.mono e
theorem bj {w:World} {b:Nat} {o:Obj} (h:w.heap[b]?=some o):b < w.heap.size:=(Array.getElem?_eq_some_iff.1 h).1
theorem fO.lt {go:GO} {ro:RO} (h:fO R w go ro) {b:Nat} (hb:ro.has b):b < w.heap.size:=by
 cases ro with
 | none=>exact hb.elim
 | aR=>exact hb.elim
 | bw x=>
  have hb:b=x:=hb
  subst hb
  cases go with
  | dead=>exact h
  | row cs el=>obtain ⟨vs,h1,_⟩:=h; exact bj h1
  | tok f sz el=>exact h.elim
  | aM _ _ _=>exact h.elim
  | mM fK n left _=>obtain ⟨bm,seen,c0,_,h2,_⟩:=h; exact bj h2
  | cK es sz el=>exact h.elim
  | gY _ _ _=>exact h.elim
  | map es=>obtain ⟨az,clock,h1,_⟩:=h; exact bj h1
  | gf l pos=>exact bj h
  | loop=>obtain ⟨⟨r,db,h1,_⟩,_⟩:=h; exact bj h1
  | defers o=>exact bj h
 | tok f x c k0=>
  have hb:b=x:=hb
  subst hb
  cases go with
  | tok f' sz el=>obtain ⟨_,cur,h1,_⟩:=h; exact bj h1
  | cK es sz el=>obtain ⟨_,_,_,cur,vs,h1,_⟩:=h; exact bj h1
  | dead=>exact h
  | row cs=>exact h.elim
  | aM _ _ _=>exact h.elim
  | mM _ _ _ _=>exact h.elim
  | gY _ _ _=>exact h.elim
  | map es=>exact h.elim
  | gf l pos=>exact h.elim
  | loop=>exact h.elim
  | defers o=>exact h.elim
 | aM ts=>
  obtain ⟨j,f,c,ht⟩:=hb
  cases go with
  | aM fs sz el=>
   obtain ⟨h1,h2,h3⟩:=h
   have bK:=aT ht
   rw [h1] at bK
   obtain ⟨f',hf⟩:∃ f',nth fs j=some f':=⟨fs[j],by rw [aG]; exact List.getElem?_eq_getElem bK⟩
   obtain ⟨_,cur,k1,_⟩:=h3 j f' _ hf ht
   exact bj k1
  | dead=>exact h j f b c ht
  | gY rows sz el=>
   obtain ⟨h1,h2,h3⟩:=h
   have bK:=aT ht
   have h4:=h3 j rows[j] (.tok f b c) (by rw [aG]; exact List.getElem?_eq_getElem (by omega)) ht
   obtain ⟨_,_,cur,vs,k1,_⟩:=h4
   exact bj k1
  | _=>exact h.elim
theorem dN.bE {G:List GO} (h:dN E R w G) {b:Nat} (hl:Live R b):b < w.heap.size:=by
 obtain ⟨id,ro,h1,h2⟩:=hl
 have bK:=aT h1
 rw [h.len] at bK
 obtain ⟨go,fP⟩:∃ go,nth G id=some go:=⟨G[id],by rw [aG]; exact List.getElem?_eq_getElem bK⟩
 exact (h.obj id go ro fP h1).lt h2
theorem aQ.cU (h:aQ E R w β s a) {b:Nat} (ho:Own R β s.boxes b):b < w.heap.size:=by
 rcases ho with hl | ⟨k,cs,hk,rfl⟩
 ·exact h.g.bE hl
 ·obtain ⟨⟨vs,el,h1,_⟩,_⟩:=h.b.box k cs hk
  exact bj h1
theorem bC {w w':World} {b:Nat} (h:w'.heap[b]?=w.heap[b]?) (o:Nat):w'.cell? ⟨b,o,none⟩=w.cell? ⟨b,o,none⟩:=by simp [World.cell?,h]
theorem zh (wf:∀ b o,R.I b o→b < w.heap.size) (x:Obj):Ext R w R (w.alloc x):=
 ⟨fun _ _ h=>h,fun b o h=>bC (heap_alloc_old w x b (wf b o h)) o,fun _ ro h=>⟨ro,h,bQ.refl ro⟩,.old fun b hb=>heap_alloc_old w x b hb⟩
theorem aQ.alloc (h:aQ E R w β s a) (x:Obj):aQ E R (w.alloc x) β s a:=
 h.bY (zh h.g.wf x) rfl (fun b hb=>heap_alloc_old w x b (h.cU hb)) (fun _ _ _ hi=>hi) (fun b o hi=>by have:=h.g.wf b o hi; simp; omega)
end bY
end Go.Am
namespace Go.Am
open Go
theorem Ja {a b:AV} (h:I0 a b=true):a=b:=by
 unfold I0 at h
 split at h
 all_goals (first | (cases h; done) | skip)
 all_goals (try simp only [Bool.and_eq_true,beq_iff_eq,Nat.beq_eq] at h)
 all_goals (simp [*])
mutual
theorem ia:∀ {a b:AV},dI a b=true→a=b:=by
 intro a b h
 unfold dI at h
 split at h
 ·simp only [Bool.and_eq_true,Nat.beq_eq] at h; rw [h.1.1,fw h.1.2,fw h.2]
 ·rw [fw h]
 ·rw [fw h]
 ·rw [fw h]
 ·simp only [Bool.and_eq_true,Nat.beq_eq] at h; rw [h.1,fw h.2]
 ·simp only [Bool.and_eq_true,Nat.beq_eq] at h; rw [h.1,fw h.2]
 ·simp only [Bool.and_eq_true,Nat.beq_eq] at h; rw [h.1,fw h.2]
 ·simp only [Bool.and_eq_true,Nat.beq_eq] at h; rw [h.1.1,h.1.2,fw h.2]
 ·simp only [Bool.and_eq_true,Nat.beq_eq] at h; rw [h.1.1.1,h.1.1.2,h.1.2,fw h.2]
 ·exact Ja h
theorem fw:∀ {l r:List AV},lF l r=true→l=r:=by
 intro l r h
 unfold lF at h
 split at h
 ·rfl
 ·rw [Bool.and_eq_true] at h; rw [ia h.1,fw h.2]
 ·cases h
end
def Au (a b:AV):Prop:=∀ (R:af) (w:World) (c:Value),Rel R w a c→Rel R w b c
def cz:List AV→List AV→Prop
 | [],[]=>True
 | a :: l,b :: r=>Au a b∧cz l r
 | _,_=>False
theorem Au.refl (a:AV):Au a a:=fun _ _ _ h=>h
theorem cz.refl:∀ l:List AV,cz l l
 | []=>trivial
 | a :: l=>⟨Au.refl a,cz.refl l⟩
theorem cz.length:∀ {l r:List AV},cz l r→l.length=r.length
 | [],[],_=>rfl
 | _ :: _,_ :: _,h=>by simp [cz.length h.2]
 | [],_ :: _,h=>h.elim
 | _ :: _,[],h=>h.elim
theorem cz.rel {R:af} {w:World}:∀ {l r:List AV} {cs:List Value},cz l r→aC R w l cs→aC R w r cs
 | [],[],_,_,h=>h
 | _ :: _,_ :: _,_,k,.cons h t=>.cons (k.1 _ _ _ h) (cz.rel k.2 t)
 | [],_ :: _,_,h,_=>h.elim
 | _ :: _,[],_,h,_=>h.elim
theorem cz.Jb {R:af} {w:World}:∀ {l r:List AV} {b o:Nat},cz l r→dZ R w b o l→dZ R w b o r
 | [],[],_,_,_,_=>.nil
 | _ :: _,_ :: _,_,_,k,.cons hc h1 hi h t=>.cons hc h1 hi (k.1 _ _ _ h) (cz.Jb k.2 t)
 | [],_ :: _,_,_,h,_=>h.elim
 | _ :: _,[],_,_,h,_=>h.elim
theorem cz.append:∀ {a b c d:List AV},cz a b→cz c d→cz (a++c) (b++d)
 | [],[],_,_,_,h=>h
 | _ :: _,_ :: _,_,_,k,h=>⟨k.1,cz.append k.2 h⟩
 | [],_ :: _,_,_,h,_=>h.elim
 | _ :: _,[],_,_,h,_=>h.elim
structure gv (v u:AV):Prop where
 gq:Au v u
 bF:u.aN=v.aN
 cells:v.aN=true→cz v.cells u.cells
 closed:v.closed=true→u.closed=true
theorem qw {u v a:AV} (h:(aj.two u v).fits a=true):(aj.two u v).enc ((aj.two u v).bh a)=a:=by
 change (dI a u || dI a v)=true at h
 change (bif dI a v then v else u)=a
 cases hs:dI a v with
 | true=>exact (ia hs).symm
 | false=>
  rw [hs,Bool.or_false] at h
  exact (ia h).symm
theorem gv.refl (v:AV):gv v v:=⟨Au.refl v,rfl,fun _=>cz.refl _,fun h=>h⟩
theorem D0 {a b:IntKind} (h:Tw a b=true):a=b:=of_decide_eq_true h
theorem qx {α:Type} {f:AV→Bool} {d:AV→α} {g:α→AV} (F0:∀ v,f v=true→gv v (g (d v))) {R:af} {w:World} :
  ∀ {es:List AV} {b o sz:Nat},allFit f es=true→fM R w b o sz es→fM R w b o sz ((es.map d).map g)
 | [],b,o,sz,_,_=>.nil
 | e :: es,b,o,sz,h,hr=>by
  simp only [allFit,Bool.and_eq_true] at h
  cases hr with
  | cons hl ht hk hc t=>
   have d':=F0 e h.1
   have wc:=d'.cells ht
   exact .cons (by rw [← wc.length,hl]) (by rw [d'.bF,ht]) (d'.closed hk) (wc.Jb hc) (qx F0 h.2 t)
theorem Ho {R:af} {w:World} {b o sz a6:Nat} {es:List AV} (h:es=[]∨sz=a6) (hr:fM R w b o a6 es):fM R w b o sz es:=by
 rcases h with rfl | rfl
 ·exact .nil
 ·exact hr
theorem Hp {α:Type} {f:AV→Bool} {d:AV→α} {g:α→AV} (F0:∀ v,f v=true→gv v (g (d v))) {k:LK} {sz a6:Nat} {es:List AV} (hs:es=[]∨sz=a6) (h:allFit f es=true) :
  Au (.list k a6 es) (.list .gX sz ((es.map d).map g)):=fun R w c hr=>by
 cases hr with
 | iC=>exact .hZ
 | hZ=>exact .hZ
 | lj=>exact .lj
 | jY _ _=>exact .hZ
 | kH _ _=>exact .hZ
 | list hr hlen hc hk=>exact .list (qx F0 h (Ho hs hr)) (by simp [hlen]) hc trivial
theorem Jc {α:Type} {f:AV→Bool} {d:AV→α} {g:α→AV} (F0:∀ v,f v=true→gv v (g (d v))) {id sz:Nat} {es:List AV} (h:allFit f es=true) :
  Au (.list (.own id) sz es) (.list (.own id) sz ((es.map d).map g)):=fun R w c hr=>by
 cases hr with
 | jY h1 h2=>exact .jY h1 h2
 | list hr hlen hc hk=>exact .list (qx F0 h hr) (by simp [hlen]) hc hk
theorem Jd {α:Type} {f:AV→Bool} {d:AV→α} {g:α→AV} (F0:∀ v,f v=true→gv v (g (d v))) {id j sz:Nat} {es:List AV} (h:allFit f es=true) :
  Au (.list (.aM id j) sz es) (.list (.aM id j) sz ((es.map d).map g)):=fun R w c hr=>by
 cases hr with
 | kH h1 h2=>exact .kH h1 h2
 | list hr hlen hc hk=>exact .list (qx F0 h hr) (by simp [hlen]) hc hk
mutual
theorem aj.cD:∀ (p:aj) {v:AV},p.fits v=true→gv v (p.enc (p.bh v))
 | .int k,v,h=>by
  cases v with
  | int k' n=>
   have hk:Tw k k'=true:=h
   rw [D0 hk]
   exact gv.refl _
  | _=>cases h
 | .bool,v,h=>by
  cases v with
  | bool b=>exact gv.refl _
  | _=>cases h
 | .str,v,h=>by
  cases v with
  | str b=>exact gv.refl _
  | _=>cases h
 | .agg ps,v,h=>by
  cases v with
  | agg cs=>
   obtain ⟨h1,h2⟩:=ps.cD (show ps.fits cs=true from h)
   exact ⟨fun R w c hr=>by cases hr with | agg hr jZ=>exact .agg (h1.rel hr) jZ,rfl,fun _=>h1,fun hc=>by
    have mO:ay cs=true:=by simpa [AV.closed] using hc
    show AV.closed (.agg (ps.enc (ps.bh cs)))=true
    simp only [AV.closed]; exact h2 mO⟩
  | _=>cases h
 | .bF ps,v,h=>by
  cases v with
  | bF cs=>
   obtain ⟨h1,h2⟩:=ps.cD (show ps.fits cs=true from h)
   exact ⟨fun R w c hr=>by cases hr with | bF hr=>exact .bF (h1.rel hr),rfl,fun hn=>by simp [AV.aN] at hn,fun hc=>by
    have mO:ay cs=true:=by simpa [AV.closed] using hc
    show AV.closed (.bF (ps.enc (ps.bh cs)))=true
    simp only [AV.closed]; exact h2 mO⟩
  | _=>cases h
 | .list sz p,v,h=>by
  cases v with
  | list k a6 es=>
   have hb:((Nat.beq sz a6 || es.isEmpty)&&allFit p.fits es)=true:=h
   simp only [Bool.and_eq_true,Bool.or_eq_true,Nat.beq_eq,List.isEmpty_iff] at hb
   have hw:=Hp (k:=k) (fun v=>p.cD) hb.1.symm hb.2
   exact ⟨hw,rfl,fun _=>⟨hw,trivial⟩,fun _=>rfl⟩
  | _=>cases h
 | .own id sz p,v,h=>by
  cases v with
  | list k a6 es=>
   cases k with
   | own gZ=>
    have hb:((Nat.beq id gZ&&Nat.beq sz a6)&&allFit p.fits es)=true:=h
    simp only [Bool.and_eq_true,Nat.beq_eq] at hb
    obtain ⟨⟨rfl,rfl⟩,hf⟩:=hb
    have hw:=Jc (id:=id) (sz:=sz) (fun v=>p.cD) hf
    exact ⟨hw,rfl,fun _=>⟨hw,trivial⟩,fun hc=>by simp [AV.closed,LK.closed] at hc⟩
   | _=>cases h
  | _=>cases h
 | .aM id sz p,v,h=>by
  cases v with
  | list k a6 es=>
   cases k with
   | aM gZ j=>
    have hb:((Nat.beq id gZ&&Nat.beq sz a6)&&allFit p.fits es)=true:=h
    simp only [Bool.and_eq_true,Nat.beq_eq] at hb
    obtain ⟨⟨rfl,rfl⟩,hf⟩:=hb
    have hw:=Jd (id:=id) (j:=j) (sz:=sz) (fun v=>p.cD) hf
    exact ⟨hw,rfl,fun _=>⟨hw,trivial⟩,fun hc=>by simp [AV.closed,LK.closed] at hc⟩
   | _=>cases h
  | _=>cases h
 | .gk id sz,v,h=>by
  cases v with
  | gk gZ j a6 len=>
   have hb:(Nat.beq id gZ&&Nat.beq sz a6)=true:=h
   simp only [Bool.and_eq_true,Nat.beq_eq] at hb
   obtain ⟨rfl,rfl⟩:=hb
   exact gv.refl _
  | _=>cases h
 | .mN u,v,h=>by
  have:=ia (show dI v u=true from h)
  subst this
  exact gv.refl _
 | .two u v,a,h=>by
  have hv:(aj.two u v).enc ((aj.two u v).bh a)=a:=qw h
  rw [hv]
  exact gv.refl _
theorem aK.cD:∀ (ps:aK) {l:List AV},ps.fits l=true→cz l (ps.enc (ps.bh l))∧(ay l=true→ay (ps.enc (ps.bh l))=true)
 | .nil,l,h=>by
  cases l with
  | nil=>exact ⟨trivial,fun h=>h⟩
  | cons _ _=>cases h
 | .cons p .nil,l,h=>by
  match l,h with
  | [],h=>cases h
  | a :: l,h=>
   have h':(p.fits a&&l.isEmpty)=true:=h
   simp only [Bool.and_eq_true,List.isEmpty_iff] at h'
   obtain ⟨h1,rfl⟩:=h'
   have d:=p.cD h1
   exact ⟨⟨d.gq,trivial⟩,fun hc=>by
    simp only [ay,Bool.and_true] at hc
    show ay [p.enc (p.bh a)]=true
    simp only [ay,Bool.and_true]
    exact d.closed hc⟩
 | .cons p (.cons q ps),l,h=>by
  cases l with
  | nil=>cases h
  | cons a l=>
   have h':(p.fits a&&(aK.cons q ps).fits l)=true:=h
   rw [Bool.and_eq_true] at h'
   have d:=p.cD h'.1
   obtain ⟨k1,k2⟩:=(aK.cons q ps).cD h'.2
   exact ⟨⟨d.gq,k1⟩,fun hc=>by
    simp only [ay,Bool.and_eq_true] at hc
    show ay (p.enc (p.bh a) :: (aK.cons q ps).enc ((aK.cons q ps).bh l))=true
    simp only [ay,Bool.and_eq_true]
    exact ⟨d.closed hc.1,k2 hc.2⟩⟩
end
theorem aj.px (p:aj) {v:AV} {x:p.T} (h:p.dec v=some x):gv v (p.enc x):=by
 unfold aj.dec at h
 cases hf:p.fits v with
 | true=>rw [hf] at h; cases h; exact p.cD hf
 | false=>rw [hf] at h; cases h
theorem aK.px (ps:aK) {l:List AV} {x:ps.T} (h:ps.dec l=some x):cz l (ps.enc x)∧(ay l=true→ay (ps.enc x)=true):=by
 unfold aK.dec at h
 cases hf:ps.fits l with
 | true=>rw [hf] at h; cases h; exact ps.cD hf
 | false=>rw [hf] at h; cases h
mutual
def aj.plain:aj→Bool
 | .agg ps=>ps.plain
 | .bF ps=>ps.plain
 | .list _ p=>p.plain
 | .own _ _ p=>p.plain
 | .aM _ _ p=>p.plain
 | .mN v=>dI v v
 | .two u v=>dI u u&&dI v v&&!dI u v
 | _=>true
def aK.plain:aK→Bool
 | .nil=>true
 | .cons p ps=>p.plain&&ps.plain
end
theorem mm {α:Type} {f:AV→Bool} {g:α→AV} (h:∀ x,f (g x)=true):∀ xs:List α,allFit f (xs.map g)=true
 | []=>rfl
 | x :: xs=>by simp only [List.map_cons,allFit,h x,mm h xs,Bool.and_self]
theorem uM {α:Type} {d:AV→α} {g:α→AV} (h:∀ x,d (g x)=x):∀ xs:List α,(xs.map g).map d=xs
 | []=>rfl
 | x :: xs=>by simp only [List.map_cons,h x,uM h xs]
mutual
theorem aj.bU:∀ (p:aj) (x:p.T),p.plain=true→p.fits (p.enc x)=true∧p.bh (p.enc x)=x
 | .int k,x,_=>⟨decide_eq_true rfl,rfl⟩
 | .bool,x,_=>⟨rfl,rfl⟩
 | .str,x,_=>⟨rfl,rfl⟩
 | .agg ps,x,h=>ps.bU x h
 | .bF ps,x,h=>ps.bU x h
 | .list sz p,x,h=>by
  refine ⟨?_,uM (fun y=>(p.bU y h).2) x⟩
  change ((Nat.beq sz sz || (List.map p.enc x).isEmpty)&&allFit p.fits (List.map p.enc x))=true
  rw [Nat.beq_refl,Bool.true_or,Bool.true_and]
  exact mm (fun y=>(p.bU y h).1) x
 | .own id sz p,x,h=>by
  refine ⟨?_,uM (fun y=>(p.bU y h).2) x⟩
  change ((Nat.beq id id&&Nat.beq sz sz)&&allFit p.fits (List.map p.enc x))=true
  rw [Nat.beq_refl,Nat.beq_refl,Bool.true_and,Bool.true_and]
  exact mm (fun y=>(p.bU y h).1) x
 | .aM id sz p,(x:Nat × List p.T),h=>by
  refine ⟨?_,?_⟩
  ·change ((Nat.beq id id&&Nat.beq sz sz)&&allFit p.fits (List.map p.enc x.2))=true
   rw [Nat.beq_refl,Nat.beq_refl,Bool.true_and,Bool.true_and]
   exact mm (fun y=>(p.bU y h).1) x.2
  ·change (x.1,(List.map p.enc x.2).map p.bh)=x
   rw [uM (fun y=>(p.bU y h).2) x.2]
 | .gk id sz,(x:Nat × Nat),_=>⟨by change (Nat.beq id id&&Nat.beq sz sz)=true; rw [Nat.beq_refl,Nat.beq_refl]; rfl,rfl⟩
 | .mN v,x,h=>⟨h,rfl⟩
 | .two u v,(x:Bool),h=>by
  change (dI u u&&dI v v&&!dI u v)=true at h
  simp only [Bool.and_eq_true,Bool.not_eq_true'] at h
  obtain ⟨⟨h1,h2⟩,h3⟩:=h
  cases x
  ·exact ⟨by change (dI u u || dI u v)=true; rw [h1]; rfl,h3⟩
  ·exact ⟨by change (dI v u || dI v v)=true; rw [h2,Bool.or_true],h2⟩
theorem aK.bU:∀ (ps:aK) (x:ps.T),ps.plain=true→ps.fits (ps.enc x)=true∧ps.bh (ps.enc x)=x
 | .nil,x,_=>⟨rfl,rfl⟩
 | .cons p .nil,x,h=>by
  have h':(p.plain&&true)=true:=h
  rw [Bool.and_true] at h'
  have:=p.bU x h'
  exact ⟨by change (p.fits (p.enc x)&&true)=true; rw [this.1]; rfl,this.2⟩
 | .cons p (.cons q ps),x,h=>by
  have h':(p.plain&&(aK.cons q ps).plain)=true:=h
  rw [Bool.and_eq_true] at h'
  have h1:=p.bU x.1 h'.1
  have h2:=(aK.cons q ps).bU x.2 h'.2
  refine ⟨?_,?_⟩
  ·change (p.fits (p.enc x.1)&&(aK.cons q ps).fits ((aK.cons q ps).enc x.2))=true
   rw [h1.1,h2.1]
   rfl
  ·change (p.bh (p.enc x.1),(aK.cons q ps).bh ((aK.cons q ps).enc x.2))=x
   rw [h1.2,h2.2]
   rfl
end
end Go.Am
namespace Go.Am
open Go
theorem bR (E:Env) {t:TypeId} {i:TI} (h:E.ti t=some i) :
  ∃ fx u,E.P.info? t=some fx∧E.P.underlying t=some u∧fx.size=i.size∧jk u=i.agg∧oJ E.P u=some i.k∧fk fx=i.zero:=by
 have h1:=E.Hf t i h
 unfold He at h1
 split at h1
 ·rename_i fx u h2 h3
  split at h1
  ·rename_i k hk
   cases h1
   exact ⟨fx,u,h2,h3,rfl,rfl,hk,rfl⟩
  ·cases h1
 ·cases h1
section runs
variable {P:Program} (w:World)
theorem zi {t:TypeId} {u:TypeDesc} (h:P.underlying t=some u):(isAgg t).run P w=.ok (jk u) w:=by
 unfold isAgg
 simp only [Sem.run_bind,run_underlying h,Result.andThen_ok]
 cases u <;> rfl
theorem run_sizeOf {t:TypeId} {i:TypeInfo} (h:P.info? t=some i):(sizeOf t).run P w=.ok i.size w:=by
 simp [sizeOf,typeInfo,h]
theorem gw {t:TypeId} {i:TypeInfo} {z:Value} (h:P.info? t=some i) (hz:i.zero=some z):(zeroValue t).run P w=.ok z w:=by
 simp [zeroValue,typeInfo,h,hz]
theorem vn (t:TypeId) (v:Value):(newVar t v).run P w=.ok ⟨w.heap.size,0,none⟩ (w.alloc (.cells v.cells t)):=by
 simp only [newVar,newRow,Sem.run_bind,run_newObj,Result.andThen_ok,Sem.run_pure]
 rfl
end runs
theorem vo {R:af} {w:World} {ag:Bool} {l:List AV} {v:AV} {vs:List Value} (hm:qj ag l=some v) (h:aC R w l vs) (h1:∀ x∈vs,x.oneCell'=true) :
  (ag=true→Rel R w v (.agg ⟨vs⟩))∧(ag=false→∃ c,vs=[c]∧Rel R w v c):=by
 unfold qj at hm
 cases ag with
 | true=>
  simp at hm
  subst hm
  exact ⟨fun _=>.agg h h1,fun e=>by cases e⟩
 | false=>
  refine ⟨(fun e=>by cases e),fun _=>?_⟩
  simp only [Bool.false_eq_true,if_false] at hm
  split at hm
  ·cases hm
   cases h with
   | cons h t=>
    cases t
    exact ⟨_,rfl,h⟩
  ·cases hm
theorem kR {E:Env} {R:af} {w:World} {t:TypeId} {i:TI} (hi:E.ti t=some i) {b off:Nat} {l:List AV} {vs:List Value} {v:AV}
  (hl:l.length=i.size) (hr:aC R w l vs) (h1:∀ x∈vs,x.oneCell'=true) (hc:∀ j x,vs[j]?=some x→w.cell? ⟨b,off+j,none⟩=some x) (hm:qj i.agg l=some v) :
  ∃ c,(loadVar t ⟨b,off,none⟩).run E.P w=.ok c w∧Rel R w v c:=by
 obtain ⟨fx,u,e1,e2,e3,e4,_⟩:=bR E hi
 obtain ⟨m1,m2⟩:=vo hm hr h1
 unfold loadVar
 simp only [Sem.run_bind,zi w e2,Result.andThen_ok,e4]
 cases ha:i.agg with
 | true=>
  refine ⟨.agg ⟨vs⟩,?_,m1 ha⟩
  have hlen:fx.size=vs.length:=by rw [e3,← hl,hr.length]
  have:=run_loadCells_list (P:=E.P) w ⟨b,off,none⟩ vs (fun j x hx=>by rw [bZ]; exact hc j x hx)
  simp [run_sizeOf w e1,hlen,this]
 | false=>
  obtain ⟨c,rfl,dh⟩:=m2 ha
  refine ⟨c,?_,dh⟩
  have:=hc 0 c (by simp)
  simp only [Nat.add_zero] at this
  simp [run_load,this]
theorem iV {w:World} {b:Nat} {vs:List Value} {el:TypeId} {fr:Nat × Nat} (h:w.heap[b]?=some (.cells ⟨vs⟩ el fr)) (j:Nat):w.cell? ⟨b,j,none⟩=vs[j]?:=by
 simp [World.cell?,h]
theorem tg {E:Env} {R:af} {w:World} {β:Nat→Nat} {s:St} {a:Act} (h:aQ E R w β s a) {p:SV} {c:Value} (hp:mW R w β p c) {cs:List AV} {off:Nat} (hc:mf s p=some (cs,off)) :
  ∃ b o vs,c=.pointer (some ⟨b,o+off,none⟩)∧aC R w cs vs∧(∀ x∈vs,x.oneCell'=true)∧∀ j x,vs[j]?=some x→w.cell? ⟨b,o+j,none⟩=some x:=by
 unfold mf at hc
 split at hc
 ·rename_i k fe
  split at hc
  ·rename_i dJ hk
   cases hc
   obtain ⟨⟨vs,el,h1,h2,h3⟩,_⟩:=h.b.box k cs hk
   exact ⟨β k,0,vs,by rw [hp]; simp,h2,h3,fun j x hx=>by rw [iV h1]; simpa using hx⟩
  ·cases hc
 ·rename_i id fe
  split at hc
  ·rename_i dJ hk
   cases hc
   cases hp with
   | @ptr _ _ b hb=>
    obtain ⟨vs,h1,h2,h3,_⟩:=h.g.obj id _ _ hk hb
    exact ⟨b,0,vs,by simp,h2,h3,fun j x hx=>by rw [iV h1]; simpa using hx⟩
  ·cases hc
 ·rename_i dJ
  cases hc
  cases hp with
  | ep hr=>
   obtain ⟨vs,h1,h2,h3,_⟩:=hr.get
   exact ⟨_,_,vs,rfl,h1,h2,h3⟩
 ·cases hc
theorem mn {R:af} {w:World} {off n:Nat} {cs l:List AV} {vs:List Value} (hs:DP off n cs=some l) (h:aC R w cs vs) (h1:∀ x∈vs,x.oneCell'=true) :
  l.length=n∧aC R w l ((vs.drop off).take n)∧(∀ x∈(vs.drop off).take n,x.oneCell'=true)∧∀ j x,((vs.drop off).take n)[j]?=some x→vs[off+j]?=some x:=by
 obtain ⟨e1,e2⟩:=PS hs
 subst e1
 refine ⟨e2,(h.drop off).take n,fun x hx=>h1 x (List.mem_of_mem_drop (List.mem_of_mem_take hx)),fun j x hx=>?_⟩
 rw [List.getElem?_take] at hx
 split at hx
 ·rwa [List.getElem?_drop] at hx
 ·cases hx
def bB (E:Env) (R:af) (w:World) (β:Nat→Nat) (s:St) (a:Act) (o:Oper) (s':St):Prop:=
 ∃ nx x w' R' β',(execOp a.eval o).run E.P w=.ok nx w'∧(nx=.value x∨(nx=.skip∧x=undef))∧aQ E R' w' β' s' (a.put o.dst x)∧Step R w β s.boxes R' w' β' s'.boxes
section ops
variable {E:Env} {R:af} {w:World} {β:Nat→Nat} {s:St} {a:Act} {o:Oper}
@[simp] theorem aS (s:St) (d:Option Tmp) (x:SV):(s.put d x).boxes=s.boxes:=by
 cases d with
 | none=>rfl
 | some d=>simp only [St.put]; split <;> rfl
theorem ap (h:aQ E R w β s a) {c:Value} {sv:SV} (hx:(execOp a.eval o).run E.P w=.ok (.value c) w) (hr:mW R w β sv c):bB E R w β s a o (s.put o.dst sv):=
 ⟨.value c,c,w,R,β,hx,.inl rfl,h.put o.dst hr,by rw [aS]; exact Step.refl R w β s.boxes⟩
theorem D1 {t:Bool} {x y:AV} {c d:Value} (hx:Rel R w x c) (hy:Rel R w y d):Rel R w (Ao t x y) (if t=true then c else d):=by
 unfold Ao
 split
 ·cases hx; cases hy; cases t <;> exact .bool _
 ·cases hx; cases hy
  split
  ·rename_i e; subst e; cases t <;> exact .int _ _
  ·cases t <;> exact .int _ _
 ·cases t
  ·exact hy
  ·exact hx
theorem jP (h:aQ E R w β s a) (x:Operand) (ho:o.op=.move x∨o.op=.assign x) {y:SV} (hy:bp E s.ae x=y):bB E R w β s a o (s.put o.dst y):=by
 subst hy
 refine ap h (c:=a.eval x) ?_ (aJ h x)
 rcases ho with ho | ho <;> simp [execOp,ho]
theorem Hq (h:aQ E R w β s a) (c x y:Operand) (ho:o.op=.pick c x y) {t:Bool} {p q:AV} (h1:bp E s.ae c=.v (.bool t)) (h2:bp E s.ae x=.v p) (h3:bp E s.ae y=.v q) :
  bB E R w β s a o (s.put o.dst (.v (Ao t p q))):=by
 have r1:=aJ h c
 have r2:=aJ h x
 have r3:=aJ h y
 rw [h1] at r1; rw [h2] at r2; rw [h3] at r3
 refine ap h (c:=if t=true then a.eval x else a.eval y) ?_ (D1 r2 r3)
 have ZV:Rel R w (.bool t) (a.eval c):=r1
 generalize PT:a.eval c=cc at ZV
 cases ZV
 simp [execOp,ho,asBool,PT]
theorem Hr (h:aQ E R w β s a) (t:TypeId) (x:Operand) (ho:o.op=.load t x) {v:AV} (hl:qk E s t (bp E s.ae x)=some v) :
  bB E R w β s a o (s.put o.dst (.v v)):=by
 unfold qk at hl
 split at hl
 ·rename_i i cs off hi hc
  split at hl
  ·rename_i l hs
   obtain ⟨b,o',vs,e,h1,h2,h3⟩:=tg h (aJ h x) hc
   obtain ⟨k1,k2,k3,k4⟩:=mn hs h1 h2
   obtain ⟨c,hc,dh⟩:=kR (E:=E) hi (b:=b) (off:=o'+off) k1 k2 k3 (fun j y hy=>by rw [Nat.add_assoc]; exact h3 _ _ (k4 j y hy)) hl
   refine ap h (c:=c) ?_ dh
   simp [execOp,ho,Instr.loadAt,e,Instr.sureAddr,hc]
  ·cases hl
 ·cases hl
theorem fy {b:Nat} (hI:∀ o,¬ R.I b o) (cs:Array Value):Ext R w R (w.setRow b cs):=
 ⟨fun _ _ h=>h,fun b' o h=>bC (setRow_other w b b' cs (fun e=>hI o (e ▸ h))) o,fun _ ro h=>⟨ro,h,bQ.refl ro⟩,fun b' r hb=>⟨r,by
  by_cases e:b'=b
  ·subst e
   have bK:b' < w.heap.size:=bj hb
   have hv:w.heap[b']=.loop r:=(Array.getElem?_eq_some_iff.1 hb).2
   unfold World.setRow
   rw [Array.getElem?_eq_getElem (by simpa using bK),Array.getElem_modify]
   simp [hv]
  ·exact (setRow_other w b b' cs e).trans hb,rfl,rfl,rfl,rfl,rfl⟩⟩
theorem aC.aY {cs ys:List AV} {vs us:List Value} {off:Nat} (h:aC R w cs vs) (k:aC R w ys us) (hl:off+ys.length≤cs.length) :
  aC R w (aY cs off ys) (vs.take off++us++vs.drop (off+us.length)):=by
 rw [dA cs off ys hl,← k.length]
 exact ((h.take off).append k).append (h.drop _)
theorem iD {vs us:List Value} {off n:Nat} (h:∀ x∈vs,x.oneCell'=true) (k:∀ x∈us,x.oneCell'=true):∀ x∈vs.take off++us++vs.drop n,x.oneCell'=true:=by
 intro x hx
 simp only [List.mem_append] at hx
 rcases hx with (hx | hx) | hx
 ·exact h x (List.mem_of_mem_take hx)
 ·exact k x hx
 ·exact h x (List.mem_of_mem_drop hx)
theorem fQ {t:TypeId} {i:TI} (hi:E.ti t=some i) {b off:Nat} {vs:List Value} {el:TypeId} {c:Value} (hb:w.heap[b]?=some (.cells ⟨vs⟩ el (0,0)))
  (hs:c.cells.toList.length=i.size) (hl:off+c.cells.toList.length≤vs.length) (h1:∀ v∈c.cells.toList,v.oneCell'=true) :
  (storeVar t ⟨b,off,none⟩ c).run E.P w=.ok () (w.setRow b ⟨vs.take off++c.cells.toList++vs.drop (off+c.cells.toList.length)⟩):=by
 obtain ⟨fx,u,e1,e2,e3,_⟩:=bR E hi
 have gy:=run_storeCells_at (P:=E.P) b off el c.cells.toList 0 ⟨vs⟩ w hb (by simpa using hl) h1
 have cg:c.cells.size=fx.size:=by rw [e3,← hs]; simp
 simp only [Nat.add_zero] at gy
 unfold storeVar
 simp only [Sem.run_bind,run_sizeOf w e1,Result.andThen_ok,Sem.run_ite,cg,ne_eq,not_true_eq_false,if_false]
 simpa using gy
theorem aQ.D2 (h:aQ E R w β s a) {id b k:Nat} {cs:List AV} (hb:nth R.obj id=some (.bw b)) (hk:cX s.boxes k=some cs):β k≠b:=by
 intro e
 exact (h.b.box k cs hk).2.2 ⟨id,_,hb,by rw [e]; rfl⟩
theorem D3 (h:aQ E R w β s a) (t:TypeId) (p x:Operand) (ho:o.op=.store t p x) (hd:o.dst=none) {s':St} (hs:gl E s t (bp E s.ae p) (bp E s.ae x)=some s') :
  bB E R w β s a o s':=by
 unfold gl at hs
 have rp:=aJ h p
 have rx:=aJ h x
 split at hs
 ·rename_i i v hi hx
  rw [hx] at rx
  split at hs
  ·rename_i dO
   simp only [Bool.and_eq_true] at dO
   obtain ⟨Hs,hlen⟩:=dO
   have hlen:=Nat.eq_of_beq_eq_true hlen
   obtain ⟨c1,c2⟩:=Rel.cells rx Hs
   have qf:v.cells.length=(a.eval x).cells.toList.length:=c1.length
   split at hs
   ·-- a local box
    rename_i k off Ht
    rw [Ht] at rp
    split at hs
    ·rename_i cs hk
     split at hs
     ·rename_i hle
      cases hs
      have hle:=Nat.le_of_ble_eq_true hle
      obtain ⟨⟨vs,el,b1,b2,b3⟩,b4,b5⟩:=h.b.box k cs hk
      have ba:=fQ (E:=E) (w:=w) hi (off:=off) (c:=a.eval x) b1 (by rw [← qf]; exact hlen) (by rw [← qf,← b2.length]; exact hle) c2
      have hex:=fy (R:=R) (w:=w) b4 ⟨vs.take off++(a.eval x).cells.toList++vs.drop (off+(a.eval x).cells.toList.length)⟩
      refine ⟨.skip,undef,w.setRow (β k) ⟨vs.take off++(a.eval x).cells.toList++vs.drop (off+(a.eval x).cells.toList.length)⟩,R,β,?_,.inr ⟨rfl,rfl⟩,?_,?_⟩
      ·simp [execOp,ho,Instr.storeAt,show a.eval p=.pointer (some ⟨β k,off,none⟩) from rp,Instr.sureAddr,ba]
      ·rw [hd]
       refine ⟨?_,?_,h.t.mono hex,h.n,h.d⟩
       ·exact h.g.bY hex rfl (fun b hb=>setRow_other w _ b _ (fun e=>b5 (e ▸ hb))) (fun _ _ _ hi=>hi) (fun b o hi=>by have:=h.g.wf b o hi; simp; omega)
       ·refine ⟨fun k' dJ gm=>?_,fun k1 k2 x1 x2 g1 g2=>?_⟩
        ·rcases eu gm with ⟨rfl,e⟩ | ⟨cg,Uf⟩
         ·cases e
          exact ⟨⟨_,el,setRow_heap w _ _ _ el (0,0) b1,(b2.aY c1 hle).mono hex,iD b3 c2⟩,b4,b5⟩
         ·obtain ⟨⟨vs',Wt,d1,d2,d3⟩,d4,d5⟩:=h.b.box k' dJ Uf
          refine ⟨⟨vs',Wt,?_,d2.mono hex,d3⟩,d4,d5⟩
          rw [setRow_other]
          ·exact d1
          ·exact fun e=>cg (h.b.inj k' k dJ cs Uf hk e).symm
        ·have q1:∃ y,cX s.boxes k1=some y:=by
          rcases eu g1 with ⟨rfl,_⟩ | ⟨_,g⟩
          ·exact ⟨_,hk⟩
          ·exact ⟨_,g⟩
         have q2:∃ y,cX s.boxes k2=some y:=by
          rcases eu g2 with ⟨rfl,_⟩ | ⟨_,g⟩
          ·exact ⟨_,hk⟩
          ·exact ⟨_,g⟩
         obtain ⟨y1,q1⟩:=q1
         obtain ⟨y2,q2⟩:=q2
         exact h.b.inj k1 k2 y1 y2 q1 q2
      ·have vp:Own R β s.boxes (β k):=.inr ⟨k,cs,hk,rfl⟩
       refine ⟨hex,rfl,rfl,rfl,by simp,fun b _ hn=>setRow_other w _ b _ (fun e=>hn (e ▸ vp)),fun b _ hb=>?_,fun b o hi _ _=>hi⟩
       rcases hb with hb | ⟨k',dJ,gm,e⟩
       ·exact .inl hb
       ·rcases eu gm with ⟨rfl,_⟩ | ⟨_,g⟩
        ·exact .inr ⟨k,cs,hk,e⟩
        ·exact .inr ⟨k',dJ,g,e⟩
     ·cases hs
    ·cases hs
   ·-- an object
    rename_i id off Ht
    rw [Ht] at rp
    split at hs
    ·rename_i cs hk
     split at hs
     ·rename_i hle
      cases hs
      have hle:=Nat.le_of_ble_eq_true hle
      have OZ:Rel R w (.ptr id off) (a.eval p):=rp
      generalize Ms:a.eval p=pv at OZ
      cases OZ with
      | @ptr _ _ b hb=>
      obtain ⟨vs,b1,b2,b3,b4⟩:=h.g.obj id _ _ hk hb
      have ba:=fQ (E:=E) (w:=w) hi (off:=off) (c:=a.eval x) b1 (by rw [← qf]; exact hlen) (by rw [← qf,← b2.length]; exact hle) c2
      have hex:=fy (R:=R) (w:=w) b4 ⟨vs.take off++(a.eval x).cells.toList++vs.drop (off+(a.eval x).cells.toList.length)⟩
      refine ⟨.skip,undef,w.setRow b ⟨vs.take off++(a.eval x).cells.toList++vs.drop (off+(a.eval x).cells.toList.length)⟩,R,β,?_,.inr ⟨rfl,rfl⟩,?_,?_⟩
      ·simp [execOp,ho,Instr.storeAt,Ms,Instr.sureAddr,ba]
      ·rw [hd]
       refine ⟨⟨?_,fun gZ go ro hg hr=>?_,h.g.inj,fun b' o' pw=>by have:=h.g.wf b' o' pw; simp; omega,fun g dJ hg=>(h.g.ck g dJ hg).mono hex,by first | exact h.g.lo | exact Nat.le_succ_of_le h.g.lo⟩,?_,h.t.mono hex,h.n,h.d⟩
       ·simp [St.bn,h.g.len]
       ·rcases bT hg with ⟨rfl,rfl,_⟩ | ⟨cg,zj⟩
        ·rw [hb] at hr
         cases hr
         exact ⟨_,setRow_heap w _ _ _ _ (0,0) b1,(b2.aY c1 hle).mono hex,iD b3 c2,b4⟩
        ·refine (h.g.obj gZ go ro zj hr).mono hex (fun b' jC=>setRow_other w _ b' _ (fun e=>cg ?_)) (fun _ _ _ hi=>hi)
         subst e
         exact h.g.inj id gZ _ _ b' hb hr rfl jC
       ·exact h.b.bY hex (fun k dJ gm=>setRow_other w _ _ _ (h.D2 hb gm)) (fun _ _ _ _ hi=>hi) (fun _ _ _ hl=>hl)
      ·have vp:Own R β s.boxes b:=.inl ⟨id,_,hb,rfl⟩
       exact ⟨hex,rfl,rfl,rfl,by simp,fun b' _ hn=>setRow_other w _ b' _ (fun e=>hn (e ▸ vp)),fun _ _ hb=>hb,fun b o hi _ _=>hi⟩
     ·cases hs
    ·cases hs
   ·cases hs
  ·cases hs
 ·cases hs
end ops
end Go.Am
namespace Go.Am
open Go
section ops
variable {E:Env} {R:af} {w:World} {β:Nat→Nat} {s:St} {a:Act} {o:Oper}
def af.add (R:af) (ro:RO):af:=⟨R.I,R.obj++[ro]⟩
theorem fR (wf:∀ b o,R.I b o→b < w.heap.size) (x:Obj) (ro:RO):Ext R w (R.add ro) (w.alloc x):=
 ⟨fun _ _ h=>h,fun b o h=>bC (heap_alloc_old w x b (wf b o h)) o,fun _ r h=>⟨r,bq h,bQ.refl r⟩,.old fun b hb=>heap_alloc_old w x b hb⟩
theorem iW {ro:RO} {b:Nat} (h:Live (R.add ro) b):Live R b∨ro.has b:=by
 obtain ⟨id,r,h1,h2⟩:=h
 rcases ai h1 with h1 | ⟨_,rfl⟩
 ·exact .inl ⟨id,r,h1,h2⟩
 ·exact .inr h2
theorem aQ.j6 (h:aQ E R w β s a) (x:Obj) (go:GO) (ro:RO) (aU:∀ b,ro.has b→b=w.heap.size) (fP:fO (R.add ro) (w.alloc x) go ro):aQ E (R.add ro) (w.alloc x) β (s.df go) a where
 g:=by
  have e:=fR (R:=R) (w:=w) h.g.wf x ro
  refine ⟨by simp [St.df,af.add,h.g.len],fun id g r h1 h2=>?_,fun i j ri rj b h1 h2 b1 b2=>?_,fun b o hi=>?_,fun g cs hg=>(h.g.ck g cs hg).mono e,by first | exact h.g.lo | exact Nat.le_succ_of_le h.g.lo⟩
  ·rcases ai h2 with h2 | ⟨h3,rfl⟩
   ·have bK:=aT h2
    rw [h.g.len] at bK
    rcases ai h1 with h1 | ⟨h4,_⟩
    ·exact (h.g.obj id g r h1 h2).mono e (fun b hb=>heap_alloc_old w x b (h.g.bE ⟨id,r,h2,hb⟩)) (fun _ _ _ hi=>hi)
    ·omega
   ·rcases ai h1 with h1 | ⟨h4,rfl⟩
    ·have:=aT h1
     rw [h3,h.g.len] at this
     omega
    ·exact fP
  ·rcases ai h1 with g1 | ⟨h3,e1⟩
   ·rcases ai h2 with g2 | ⟨h4,e2⟩
    ·exact h.g.inj i j ri rj b g1 g2 b1 b2
    ·have:=h.g.bE ⟨i,ri,g1,b1⟩
     rw [e2] at b2
     have:=aU b b2
     omega
   ·rcases ai h2 with g2 | ⟨h4,e2⟩
    ·have:=h.g.bE ⟨j,rj,g2,b2⟩
     rw [e1] at b1
     have:=aU b b1
     omega
    ·omega
  ·have:=h.g.wf b o hi
   simp
   omega
 b:=h.b.bY (fR h.g.wf x ro) (fun k cs hk=>heap_alloc_old w x _ (h.cU (.inr ⟨k,cs,hk,rfl⟩))) (fun _ _ _ _ hi=>hi) (fun k cs hk hl=>by
  rcases iW hl with hl | hl
  ·exact hl
  ·have:=h.cU (.inr ⟨k,cs,hk,rfl⟩)
   have hl:=aU _ hl
   omega)
 t:=h.t.mono (fR h.g.wf x ro)
 n:=h.n
 d:=h.d.mono (fR h.g.wf x ro)
theorem cM (h:aQ E R w β s a) (x:Obj) (ro:RO) (aU:∀ b,ro.has b→b=w.heap.size):Step R w β s.boxes (R.add ro) (w.alloc x) β s.boxes:=
 ⟨fR h.g.wf x ro,rfl,rfl,rfl,by simp,fun b hb _=>heap_alloc_old w x b hb,fun b hb ho=>by
  rcases ho with ho | ho
  ·rcases iW ho with ho | ho
   ·exact .inl ho
   ·have ho:=aU _ ho
    omega
  ·exact .inr ho,fun _ _ hi _ _=>hi⟩
theorem fS (h:aQ E R w β s a) (ro:RO):nth (R.add ro).obj s.G.length=some ro:=by
 rw [← h.g.len]
 exact dE _ _
theorem BY {f:FuncId} (h:aQ E R w β s a) {v:AV} {c:Value} {t:TypeId} (hv:Rel R w v c) (hn:v.aN=true)
  (hx:(execOp a.eval o).run E.P w=.ok (.value (.pointer (some ⟨w.heap.size,0,none⟩))) (w.alloc (.cells c.cells t))) {s':St} (ha:eL E f s o.dst t v.cells=some (true,s')) :
  bB E R w β s a o s':=by
 obtain ⟨c1,c2⟩:=Rel.cells hv hn
 unfold eL at ha
 split at ha
 ·cases ha
 ·rename_i d hd
  split at ha
  ·-- an object
   cases ha
   have fP:fO (R.add (.bw w.heap.size)) (w.alloc (.cells c.cells t)) (.row v.cells t) (.bw w.heap.size):=
    ⟨c.cells.toList,heap_alloc_new w _,c1.mono (fR h.g.wf _ _),c2,fun o' hi=>by have:=h.g.wf _ _ hi; omega⟩
   have bt:=h.j6 (.cells c.cells t) (.row v.cells t) (.bw w.heap.size) (by exact fun _ h=>h) fP
   refine ⟨_,.pointer (some ⟨w.heap.size,0,none⟩),_,R.add (.bw w.heap.size),β,hx,.inl rfl,?_,?_⟩
   ·rw [hd]
    exact bt.put (some d) (x:=.v (.ptr s.G.length 0)) (Rel.ptr (fS h _))
   ·rw [aS]
    exact cM h _ _ (by exact fun _ h=>h)
  ·split at ha
   ·rename_i Wu
    injection ha with ha
    injection ha with _ IP
    subst IP
    have e:=zh (R:=R) (w:=w) h.g.wf (.cells c.cells t)
    let β':Nat→Nat:=fun k=>if k=d then w.heap.size else β k
    have F1:β' d=w.heap.size:=by simp [β']
    have cg:∀ k,k≠d→β' k=β k:=fun k hk=>by simp [β',hk]
    have hdn:d < a.tmps.size:=by rw [h.n]; exact Nat.le_of_ble_eq_true Wu
    have D4:((s.kill d).ta d v.cells).put (some d) (.lp d 0)=⟨.put d (.lp d 0) :: .kill d :: s.ae,(d,v.cells) :: s.boxes,s.G,s.marks,s.ro,s.n⟩:=by
     simp only [St.put,St.ta,St.kill,Wu]
    refine ⟨_,.pointer (some ⟨w.heap.size,0,none⟩),_,R,β',hx,.inl rfl,?_,?_⟩
    ·rw [hd,D4]
     refine ⟨?_,⟨fun k cs hk=>?_,fun k k' cs dJ hk gm he=>?_⟩,?_,by simp [Act.put,h.n],h.d⟩
     ·exact h.g.bY e rfl (fun b hb=>heap_alloc_old w _ b (h.g.bE hb)) (fun _ _ _ hi=>hi) (fun b o hi=>by have:=h.g.wf b o hi; simp; omega)
     ·rcases eu hk with ⟨rfl,he⟩ | ⟨L5,hk⟩
      ·cases he
       rw [F1]
       exact ⟨⟨c.cells.toList,t,heap_alloc_new w _,c1.mono e,c2⟩,fun o' hi=>by have:=h.g.wf _ _ hi; omega,fun hl=>by have:=h.g.bE hl; omega⟩
      ·rw [cg k (Ne.symm L5)]
       obtain ⟨⟨vs,el,b1,b2,b3⟩,b4,b5⟩:=h.b.box k cs hk
       exact ⟨⟨vs,el,(heap_alloc_old w _ _ (bj b1)).trans b1,b2.mono e,b3⟩,b4,b5⟩
     ·rcases eu hk with ⟨rfl,_⟩ | ⟨L5,hk⟩
      ·rcases eu gm with ⟨rfl,_⟩ | ⟨PU,gm⟩
       ·rfl
       ·rw [F1,cg k' (Ne.symm PU)] at he
        have:=h.cU (.inr ⟨k',dJ,gm,rfl⟩)
        omega
      ·rcases eu gm with ⟨rfl,_⟩ | ⟨PU,gm⟩
       ·rw [F1,cg k (Ne.symm L5)] at he
        have:=h.cU (.inr ⟨k,cs,hk,rfl⟩)
        omega
       ·rw [cg k (Ne.symm L5),cg k' (Ne.symm PU)] at he
        exact h.b.inj k k' cs dJ hk gm he
     ·intro i hi
      by_cases XL:d=i
      ·subst XL
       rw [ax]
       refine ⟨.pointer (some ⟨w.heap.size,0,none⟩),by simp [Act.put,hdn],?_⟩
       show Value.pointer _=_
       rw [F1]
      ·rw [aI XL] at hi ⊢
       rcases FY (l:=s.ae) (d:=d) (t:=i) with ⟨h1,h2⟩ | h1
       ·rw [h1] at hi ⊢
        obtain ⟨c',q1,q2⟩:=h.t i hi
        refine ⟨c',?_,?_⟩
        ·simp only [Act.put]
         rw [Array.getElem?_setIfInBounds_ne XL]
         exact q1
        ·cases oM:lk s.ae i with
         | none=>trivial
         | v y=>rw [oM] at q2; exact Rel.mono e q2
         | lp k off=>
          rw [oM] at q2
          show c'=_
          rw [cg k (h2 k off oM)]
          exact q2
       ·exact absurd h1 hi
    ·rw [D4]
     refine ⟨e,rfl,rfl,rfl,by simp,fun b hb _=>heap_alloc_old w _ b hb,fun b hb ho=>?_,fun _ _ hi _ _=>hi⟩
     rcases ho with ho | ⟨k,cs,hk,he⟩
     ·exact .inl ho
     ·rcases eu hk with ⟨rfl,_⟩ | ⟨L5,hk⟩
      ·rw [F1] at he
       omega
      ·rw [cg k (Ne.symm L5)] at he
       exact .inr ⟨k,cs,hk,he⟩
   ·cases ha
theorem cI {i:TypeInfo} {z:AV} (h:fk i=some z):∃ c,i.zero=some c∧∀ R w,Rel R w z c:=by
 unfold fk at h
 split at h
 ·rename_i c hc
  exact ⟨c,hc,fun R w=>tf h⟩
 ·cases h
theorem D5 {f:FuncId} (h:aQ E R w β s a) (t:TypeId) (ho:o.op=.alloc t) {i:TI} {z:AV} (hi:E.ti t=some i) (hz:i.zero=some z) (hn:z.aN=true) {s':St} (ha:eL E f s o.dst t z.cells=some (true,s')) :
  bB E R w β s a o s':=by
 obtain ⟨fx,u,e1,e2,e3,e4,e5,e6⟩:=bR E hi
 rw [hz] at e6
 obtain ⟨c,hc,hr⟩:=cI e6
 refine BY h (hr R w) hn (t:=t) ?_ ha
 simp [execOp,ho,Instr.alloc,gw w e1 hc,vn]
theorem Je {f:FuncId} (h:aQ E R w β s a) (t:TypeId) (x:Operand) (ho:o.op=.box t x) {v:AV} (hv:bp E s.ae x=.v v) (hn:v.aN=true) {s':St} (ha:eL E f s o.dst t v.cells=some (true,s')) :
  bB E R w β s a o s':=by
 have hr:=aJ h x
 rw [hv] at hr
 refine BY h hr hn (t:=t) ?_ ha
 simp [execOp,ho,Instr.box,vn]
end ops
end Go.Am
namespace Go.Am
open Go
section types
variable {P:Program}
theorem mo:∀ {fs:List Field} {l:List (Nat × Nat × Bool)},fieldsOf P fs=some l→∀ {j o sz:Nat} {ag:Bool},nth l j=some (o,sz,ag) →
  ∃ f fi u,fs[j]?=some f∧f.offset=o∧P.info? f.type=some fi∧fi.size=sz∧P.underlying f.type=some u∧jk u=ag
 | [],l,h,j,o,sz,ag,hn=>by simp [fieldsOf] at h; subst h; simp [nth] at hn
 | f :: fs,l,h,j,o,sz,ag,hn=>by
  unfold fieldsOf at h
  split at h
  ·rename_i i u r h1 h2 h3
   cases h
   cases j with
   | zero=>simp [nth] at hn; obtain ⟨e1,e2,e3⟩:=hn; exact ⟨f,i,u,by simp,e1,h1,e2,h2,e3⟩
   | succ j=>
    obtain ⟨f',fi,u',g1,g2⟩:=mo h3 (show nth r j=some (o,sz,ag) from hn)
    exact ⟨f',fi,u',by simpa using g1,g2⟩
  ·cases h
theorem mP:∀ {fs:List Field} {l:List (Nat × Nat × Bool)},fieldsOf P fs=some l→fs.mapM (fun f=>(P.info? f.type).map fun i=>(f.offset,i.size))=some (l.map fun x=>(x.1,x.2.1))
 | [],l,h=>by simp [fieldsOf] at h; subst h; simp
 | f :: fs,l,h=>by
  unfold fieldsOf at h
  split at h
  ·rename_i i u r h1 h2 h3
   cases h
   simp [List.mapM_cons,h1,mP h3]
  ·cases h
theorem F2 {u:TypeDesc} {l:List (Nat × Nat × Bool)} (h:oJ P u=some (.st l)):∃ fs,u=.struct fs∧fieldsOf P fs.toList=some l:=by
 cases u <;> simp only [oJ] at h <;> try (cases h; done)
 all_goals (try (split at h <;> cases h; done))
 rename_i fs
 split at h
 ·rename_i l' hl
  cases h
  exact ⟨fs,rfl,hl⟩
 ·cases h
theorem np {u:TypeDesc} {n esz:Nat} {ag:Bool} (h:oJ P u=some (.arr n esz ag)):∃ e i ue,u=.array n e∧P.info? e=some i∧i.size=esz∧P.underlying e=some ue∧jk ue=ag:=by
 cases u <;> simp only [oJ] at h <;> try (cases h; done)
 all_goals (try (split at h <;> cases h; done))
 rename_i m e
 split at h
 ·rename_i i ue h1 h2
  cases h
  exact ⟨e,i,ue,rfl,h1,rfl,h2,rfl⟩
 ·cases h
theorem cE {u:TypeDesc} {e esz mQ:Nat} {ag:Bool} {z:Option AV} (h:oJ P u=some (.sl e esz ag mQ z)) :
  ∃ i ue,u=.slice e∧P.info? e=some i∧i.size=esz∧i.bytes=mQ∧P.underlying e=some ue∧jk ue=ag∧fk i=z:=by
 cases u <;> simp only [oJ] at h <;> try (cases h; done)
 all_goals (try (split at h <;> cases h; done))
 rename_i e'
 split at h
 ·rename_i i ue h1 h2
  injection h with h
  injection h with g1 g2 g3 g4 g5
  subst g1; subst g2; subst g3; subst g4; subst g5
  exact ⟨i,ue,rfl,h1,rfl,rfl,h2,rfl,rfl⟩
 ·cases h
theorem j7 {u:TypeDesc} (h:oJ P u=some .str):u=.string:=by
 cases u <;> simp only [oJ] at h <;> try (cases h; done)
 all_goals (try (split at h <;> cases h; done))
 rfl
theorem qy {u:TypeDesc} {k:IntKind} (h:oJ P u=some (.int k)):u=.int k:=by
 cases u <;> simp only [oJ] at h <;> try (cases h; done)
 all_goals (try (split at h <;> cases h; done))
 cases h
 rfl
theorem lK {u:TypeDesc} {k e:TypeId} {z:Option AV} (h:oJ P u=some (.map k e z)):u=.map k e∧∃ i,P.info? e=some i∧fk i=z:=by
 cases u <;> simp only [oJ] at h <;> try (cases h; done)
 all_goals (try (split at h <;> cases h; done))
 split at h
 ·rename_i i h1
  cases h
  exact ⟨rfl,i,h1,rfl⟩
 ·cases h
end types
section ops
variable {E:Env} {R:af} {w:World} {β:Nat→Nat} {s:St} {a:Act} {o:Oper}
theorem zk {p q:SV} {c:Value} {n:Nat} (hp:mW R w β p c) (hm:yZ n p=some q) :
  ∃ b o,c=.pointer (some ⟨b,o,none⟩)∧mW R w β q (.pointer (some ⟨b,o+n,none⟩)):=by
 unfold yZ at hm
 split at hm
 ·cases hm
  exact ⟨_,_,hp,rfl⟩
 ·cases hm
  cases hp with
  | @ptr _ _ b hb=>exact ⟨b,_,rfl,Rel.ptr hb⟩
 ·cases hm
  cases hp with
  | @ep _ b o hr=>
   refine ⟨b,o,rfl,Rel.ep ?_⟩
   rw [vm]
   exact hr.drop n
 ·cases hm
  cases hp with
  | @gp _ _ _ _ _ b o _ ro hr cS=>
   refine ⟨b,o,rfl,Rel.gp hr ?_⟩
   cases ro with
   | none=>trivial
   | aR=>exact cS.elim
   | bw _=>exact cS.elim
   | aM _=>exact cS.elim
   | tok f1 b1 c1=>exact ⟨cS.1,fun e=>⟨(cS.2 e).1,by rw [(cS.2 e).2,Nat.add_assoc]⟩⟩
 ·cases hm
  cases hp with
  | @rp _ _ _ _ _ _ b o _ ro hr cS=>
   refine ⟨b,o,rfl,Rel.rp hr ?_⟩
   cases ro with
   | none=>trivial
   | aR=>exact cS.elim
   | bw _=>exact cS.elim
   | tok _ _ _ _=>exact cS.elim
   | aM ts=>
    obtain ⟨t,k1,k2⟩:=cS
    refine ⟨t,k1,?_⟩
    cases t with
    | aR=>exact k2.elim
    | full _=>exact k2
    | tok f1 b1 c1=>exact ⟨k2.1,fun e=>⟨(k2.2 e).1,by rw [(k2.2 e).2,Nat.add_assoc]⟩⟩
 ·cases hm
theorem vq (h:aQ E R w β s a) (t:TypeId) (x:Operand) (j:Nat) (ho:o.op=.fieldAddr t x j) {q:SV} (hq:jX E t (bp E s.ae x) j=some q) :
  bB E R w β s a o (s.put o.dst q):=by
 unfold jX at hq
 split at hq
 ·rename_i i hi
  split at hq
  ·rename_i fs hk
   split at hq
   ·rename_i off sz ag hn
    split at hq
    ·rename_i dx
     have dx:=Nat.le_of_ble_eq_true dx
     obtain ⟨fx,u,e1,e2,e3,e4,e5,e6⟩:=bR E hi
     rw [hk] at e5
     obtain ⟨fl,rfl,hf⟩:=F2 e5
     obtain ⟨f,fi,u',g1,g2,g3,g4,g5,g6⟩:=mo hf hn
     obtain ⟨b,o',m1,m2⟩:=zk (aJ h x) hq
     refine ap h ?_ m2
     have yp:fl[j]?=some f:=by simpa using g1
     have cg:¬ fi.size=0:=by omega
     simp [execOp,ho,Instr.fieldAt,run_underlying e2,yp,m1,Instr.sureAddr,fieldPlace,run_sizeOf w g3,cg,bZ,g2]
    ·cases hq
   ·cases hq
  ·cases hq
 ·cases hq
theorem BZ {b o sz:Nat} {es:List AV} (h:fM R w b o sz es) {n:Nat} {e:AV} (hn:nth es n=some e):dZ R w b (o+n * sz) e.cells∧e.cells.length=sz∧e.aN=true:=by
 induction es generalizing o n with
 | nil=>simp [nth] at hn
 | cons x l ih=>
  cases h with
  | cons hl ht _ h t=>
   cases n with
   | zero=>simp [nth] at hn; subst hn; exact ⟨by simpa using h,hl,ht⟩
   | succ n=>
    have:=ih t (show nth l n=some e from hn)
    rw [show o+sz+n * sz=o+(n+1) * sz by rw [Nat.add_mul]; omega] at this
    exact this
theorem vr (h:aQ E R w β s a) (t:TypeId) (x ix:Operand) (ho:o.op=.indexAddr t x ix) {q:SV} (hq:jW E t (bp E s.ae x) (bp E s.ae ix)=some (true,q)) :
  bB E R w β s a o (s.put o.dst q):=by
 have rx:=aJ h x
 have ri:=aJ h ix
 unfold jW at hq
 split at hq
 ·rename_i i k n hi Ug
  rw [Ug] at ri
  have O0:Rel R w (.int k n) (a.eval ix):=ri
  generalize Jf:a.eval ix=iv at O0
  cases O0
  obtain ⟨fx,u,e1,e2,e3,e4,e5,e6⟩:=bR E hi
  split at hq
  ·-- a list
   rename_i elem esz ag mQ z kk sz es hk hx
   rw [hx] at rx
   rw [hk] at e5
   obtain ⟨ie,ue,rfl,f1,f2,f3,f4,f5,f6⟩:=cE e5
   split at hq
   ·rename_i hc
    have key:∀ (u:AV),(0≤n∧n < (es.length:Int))→cz (aw es n.toNat).cells u.cells→bB E R w β s a o (s.put o.dst (.v (.ep u.cells))):=fun u uh hu=>by
     obtain ⟨Av,D6⟩:=uh
     have cP:Rel R w (.list kk sz es) (a.eval x):=rx
     generalize ea:a.eval x=xv at cP
     cases cP with
     | iC=>simp at D6; omega
     | hZ=>simp at D6; omega
     | lj=>simp at D6; omega
     | jY=>simp at D6; omega
     | kH=>simp at D6; omega
     | @list _ _ _ b o' len cap hr hl eh D7=>
      subst hl
      have bK:n.toNat < es.length:=by omega
      obtain ⟨e,he⟩:∃ e,nth es n.toNat=some e:=⟨es[n.toNat],by rw [aG]; exact List.getElem?_eq_getElem bK⟩
      have dx:sz=esz:=by
       simp only [Bool.or_eq_true] at hc
       rcases hc with hc | hc
       ·exact Nat.eq_of_beq_eq_true hc
       ·cases es with
        | nil=>simp at bK
        | cons _ _=>simp at hc
      obtain ⟨g1,_,_⟩:=BZ hr he
      refine ap h (c:=.pointer (some ⟨b,o'+n.toNat * sz,none⟩)) ?_ ?_
      ·have dO:0≤n∧n < (es.length:Int):=⟨Av,D6⟩
       simp [execOp,ho,Instr.indexAt,Jf,ea,asIntOf,run_underlying e2,dO,run_sizeOf w f1,f2,dx,bZ]
      ·have:aw es n.toNat=e:=by simp [aw,he]
       rw [this] at hu
       exact .ep (hu.Jb g1)
    split at hq
    ·rename_i p hp
     injection hq with hq
     injection hq with uh me
     subst me
     rw [Bool.and_eq_true] at uh
     have dO:=of_decide_eq_true uh.1
     have hd:=p.cD uh.2
     have bK:n.toNat < es.length:=by omega
     refine key _ dO (hd.cells ?_)
     obtain ⟨e,he⟩:∃ e,nth es n.toNat=some e:=⟨es[n.toNat],by rw [aG]; exact List.getElem?_eq_getElem bK⟩
     have:aw es n.toNat=e:=by simp [aw,he]
     rw [this]
     have cP:Rel R w (.list kk sz es) (a.eval x):=rx
     generalize a.eval x=xv at cP
     cases cP with
     | iC=>simp at bK
     | hZ=>simp at bK
     | lj=>simp at bK
     | jY=>simp at bK
     | kH=>simp at bK
     | list hr _ _ _=>exact (BZ hr he).2.2
    ·injection hq with hq
     injection hq with uh me
     subst me
     exact key _ (of_decide_eq_true uh) (cz.refl _)
   ·cases hq
  ·-- a heap slice
   rename_i elem esz ag mQ z id off sz len cap hk hx
   rw [hx] at rx
   rw [hk] at e5
   obtain ⟨ie,ue,rfl,f1,f2,f3,f4,f5,f6⟩:=cE e5
   split at hq
   ·rename_i hc
    have dx:=Nat.eq_of_beq_eq_true hc
    injection hq with hq
    injection hq with uh me
    subst me
    have dO:=of_decide_eq_true uh
    have cP:Rel R w (.iy id off sz len cap) (a.eval x):=rx
    generalize ea:a.eval x=xv at cP
    cases cP with
    | @iy _ _ _ _ _ b hb _=>
     refine ap h (c:=.pointer (some ⟨b,off+n.toNat * sz,none⟩)) ?_ (Rel.ptr hb)
     simp [execOp,ho,Instr.indexAt,Jf,ea,asIntOf,run_underlying e2,dO,run_sizeOf w f1,f2,dx,bZ]
   ·cases hq
  ·-- a slice that grows
   rename_i elem esz ag mQ z id f' off sz len hk hx
   rw [hx] at rx
   rw [hk] at e5
   obtain ⟨ie,ue,rfl,f1,f2,f3,f4,f5,f6⟩:=cE e5
   split at hq
   ·rename_i hc
    have dx:=Nat.eq_of_beq_eq_true hc
    injection hq with hq
    injection hq with uh me
    subst me
    have dO:=of_decide_eq_true uh
    have cP:Rel R w (.cT id f' off sz len) (a.eval x):=rx
    generalize ea:a.eval x=xv at cP
    cases cP with
    | gT _ _=>omega
    | @cT _ _ _ _ _ cap b o' ro aU cS eh=>
     refine ap h (c:=.pointer (some ⟨b,o'+n.toNat * sz,none⟩)) ?_ (Rel.gp aU ?_)
     ·simp [execOp,ho,Instr.indexAt,Jf,ea,asIntOf,run_underlying e2,dO,run_sizeOf w f1,f2,dx,bZ]
     ·cases ro with
      | none=>trivial
      | aR=>exact cS.elim
      | bw _=>exact cS.elim
      | aM _=>exact cS.elim
      | tok f1 b1 c1=>
       refine ⟨cS.1,fun e=>?_⟩
       obtain ⟨k1,k2,k3⟩:=cS.2 e
       refine ⟨k1,?_⟩
       rcases k3 with k3 | k3
       ·rw [k3,Nat.add_zero,Nat.add_mul]
       ·omega
   ·cases hq
  ·-- a row
   rename_i elem esz ag mQ z id j' sz len hk hx
   rw [hx] at rx
   rw [hk] at e5
   obtain ⟨ie,ue,rfl,f1,f2,f3,f4,f5,f6⟩:=cE e5
   split at hq
   ·rename_i hc
    have dx:=Nat.eq_of_beq_eq_true hc
    injection hq with hq
    injection hq with uh me
    subst me
    have dO:=of_decide_eq_true uh
    have cP:Rel R w (.gk id j' sz len) (a.eval x):=rx
    generalize ea:a.eval x=xv at cP
    cases cP with
    | qq _ _=>omega
    | @gk _ _ _ _ cap b o' ro aU cS eh=>
     refine ap h (c:=.pointer (some ⟨b,o'+n.toNat * sz,none⟩)) ?_ (Rel.rp aU ?_)
     ·simp [execOp,ho,Instr.indexAt,Jf,ea,asIntOf,run_underlying e2,dO,run_sizeOf w f1,f2,dx,bZ]
     ·cases ro with
      | none=>trivial
      | aR=>exact cS.elim
      | bw _=>exact cS.elim
      | tok _ _ _ _=>exact cS.elim
      | aM ts=>
       obtain ⟨t,k1,k2⟩:=cS
       refine ⟨t,k1,?_⟩
       cases t with
       | aR=>exact k2.elim
       | full f1=>exact k2.1
       | tok f1 b1 c1=>
        refine ⟨k2.1,fun e=>?_⟩
        obtain ⟨k3,k4,k5⟩:=k2.2 e
        refine ⟨k3,?_⟩
        rcases k4 with k4 | k4
        ·rw [k4,Nat.zero_add,Nat.add_zero]
        ·omega
   ·cases hq
  ·-- an array that is never written
   rename_i len esz ag cs hk hx
   rw [hx] at rx
   rw [hk] at e5
   obtain ⟨e,ie,ue,rfl,f1,f2,f3,f4⟩:=np e5
   have cP:Rel R w (.ep cs) (a.eval x):=rx
   generalize ea:a.eval x=xv at cP
   cases cP with
   | @ep _ b o' hr=>
    split at hq
    ·rename_i p hp
     split at hq
     ·rename_i hc
      rw [Bool.and_eq_true] at hc
      have hz:=Nat.eq_of_beq_eq_true hc.1
      have hl:=Nat.le_of_ble_eq_true hc.2
      injection hq with hq
      injection hq with uh me
      subst me
      rw [Bool.and_eq_true] at uh
      have dO:=of_decide_eq_true uh.1
      have hd:=p.cD uh.2
      have bK:n.toNat < cs.length:=by omega
      have ZW:=hr.drop n.toNat
      rw [List.drop_eq_getElem_cons bK] at ZW
      have hn:aw cs n.toNat=cs[n.toNat]:=by
       unfold aw
       rw [aG,List.getElem?_eq_getElem bK]
      rw [hn] at hd ⊢
      refine ap h (c:=.pointer (some ⟨b,o'+n.toNat * esz,none⟩)) ?_ ?_
      ·simp [execOp,ho,Instr.indexAt,Jf,ea,Instr.sureAddr,asIntOf,run_underlying e2,dO,run_sizeOf w f1,f2,bZ]
      ·subst hz
       rw [Nat.mul_one]
       cases ZW with
       | cons hc h1 hi dh t=>exact .ep (.cons hc h1 hi (hd.1 _ _ _ dh) .nil)
     ·cases hq
    ·injection hq with hq
     injection hq with uh me
     subst me
     have dO:=of_decide_eq_true uh
     refine ap h (c:=.pointer (some ⟨b,o'+n.toNat * esz,none⟩)) ?_ ?_
     ·simp [execOp,ho,Instr.indexAt,Jf,ea,Instr.sureAddr,asIntOf,run_underlying e2,dO,run_sizeOf w f1,f2,bZ]
     ·rw [vm]
      exact .ep (hr.drop _)
  ·-- an array
   rename_i len esz ag hk _
   rw [hk] at e5
   obtain ⟨e,ie,ue,rfl,f1,f2,f3,f4⟩:=np e5
   split at hq
   ·rename_i q' hm
    injection hq with hq
    injection hq with uh me
    subst me
    have dO:=of_decide_eq_true uh
    obtain ⟨b,o',m1,m2⟩:=zk rx hm
    refine ap h ?_ m2
    simp [execOp,ho,Instr.indexAt,Jf,m1,Instr.sureAddr,asIntOf,run_underlying e2,dO,run_sizeOf w f1,f2,bZ]
   ·cases hq
  ·cases hq
 ·cases hq
theorem lL {t:TypeId} {i:TypeInfo} {u:TypeDesc} (h1:E.P.info? t=some i) (h2:E.P.underlying t=some u) {off:Nat} {cs l:List AV} {vs:List Value} {v:AV} (hr:aC R w cs vs) (h3:∀ x∈vs,x.oneCell'=true)
  (Aw:jk u=true→DP off i.size cs=some l∧qj true l=some v) (Wv:jk u=false→DP off 1 cs=some l∧qj false l=some v) :
  ∃ c,(part t ⟨vs⟩ off).run E.P w=.ok c w∧Rel R w v c:=by
 unfold part
 simp only [Sem.run_bind,zi w h2,Result.andThen_ok]
 cases ha:jk u with
 | true=>
  obtain ⟨g1,g2⟩:=Aw ha
  obtain ⟨k1,k2,k3,k4⟩:=mn g1 hr h3
  obtain ⟨m1,_⟩:=vo g2 k2 k3
  refine ⟨_,?_,m1 rfl⟩
  have:(⟨vs⟩:Array Value).extract off (off+i.size)=⟨(vs.drop off).take i.size⟩:=by
   apply Array.ext'
   simp [List.extract_eq_take_drop]
  simp [run_sizeOf w h1]
 | false=>
  obtain ⟨g1,g2⟩:=Wv ha
  obtain ⟨k1,k2,k3,k4⟩:=mn g1 hr h3
  obtain ⟨_,m2⟩:=vo g2 k2 k3
  obtain ⟨c,hc,dh⟩:=m2 rfl
  refine ⟨c,?_,dh⟩
  have h0:=k4 0 c (by rw [hc]; simp)
  simp only [Nat.add_zero] at h0
  simp [h0]
theorem D8 (h:aQ E R w β s a) (t:TypeId) (x:Operand) (j:Nat) (ho:o.op=.field t x j) {v:AV} (hq:DR E t (bp E s.ae x) j=some v) :
  bB E R w β s a o (s.put o.dst (.v v)):=by
 have rx:=aJ h x
 unfold DR at hq
 split at hq
 ·rename_i i cs hi hx
  rw [hx] at rx
  have cP:Rel R w (.agg cs) (a.eval x):=rx
  generalize ea:a.eval x=xv at cP
  cases cP with
  | @agg _ vs hr h1=>
  split at hq
  ·rename_i fs hk
   split at hq
   ·rename_i off sz ag hn
    obtain ⟨fx,u,e1,e2,e3,e4,e5,e6⟩:=bR E hi
    rw [hk] at e5
    obtain ⟨fl,rfl,hf⟩:=F2 e5
    obtain ⟨f,fi,u',g1,g2,g3,g4,g5,g6⟩:=mo hf hn
    have key:∃ c,(part f.type ⟨vs⟩ off).run E.P w=.ok c w∧Rel R w v c:=by
     split at hq
     ·rename_i Aw
      split at hq
      ·rename_i l hl
       exact lL g3 g5 (l:=l) hr h1 (fun _=>⟨by rw [g4]; exact hl,hq⟩) (fun hf=>by rw [g6,Aw] at hf; cases hf)
      ·cases hq
     ·rename_i Aw
      split at hq
      ·rename_i l hl
       exact lL g3 g5 (l:=l) hr h1 (fun hf=>by rw [g6] at hf; exact absurd hf Aw) (fun _=>⟨hl,hq⟩)
      ·cases hq
    obtain ⟨c,k1,k2⟩:=key
    refine ap h ?_ k2
    have yp:fl[j]?=some f:=by simpa using g1
    simp [execOp,ho,Instr.field,run_underlying e2,yp,ea,asAgg,g2,k1]
   ·cases hq
  ·cases hq
 ·cases hq
theorem D9 (h:aQ E R w β s a) (t:TypeId) (x ix:Operand) (ho:o.op=.index t x ix) {v:AV} (hq:DS E t (bp E s.ae x) (bp E s.ae ix)=some (true,v)) :
  bB E R w β s a o (s.put o.dst (.v v)):=by
 have rx:=aJ h x
 have ri:=aJ h ix
 unfold DS at hq
 split at hq
 ·rename_i i l k n hi hx Ug
  rw [hx] at rx
  rw [Ug] at ri
  have O0:Rel R w (.int k n) (a.eval ix):=ri
  have cP:Rel R w (.str l) (a.eval x):=rx
  generalize Jf:a.eval ix=iv at O0
  generalize ea:a.eval x=xv at cP
  cases O0
  cases cP
  obtain ⟨fx,u,e1,e2,e3,e4,e5,e6⟩:=bR E hi
  split at hq
  ·rename_i hk
   rw [hk] at e5
   have:=j7 e5
   subst this
   injection hq with hq
   injection hq with uh me
   subst me
   obtain ⟨Av,D6⟩:=of_decide_eq_true uh
   have bK:n.toNat < l.length:=by omega
   refine ap h (c:=.int .u8 (l.getD n.toNat 0).toNat) ?_ (Rel.int _ _)
   have jH:(⟨⟨l⟩⟩:ByteArray)[n.toNat]?=some (l.getD n.toNat 0):=by
    have hs:n.toNat < (⟨⟨l⟩⟩:ByteArray).size:=bK
    rw [getElem?_pos (⟨⟨l⟩⟩:ByteArray) n.toNat hs]
    congr 1
    simp [List.getD,List.getElem?_eq_getElem bK]
    rfl
   simp [execOp,ho,Instr.index,Jf,ea,asIntOf,run_underlying e2,Av,jH]
  ·cases hq
 ·rename_i i cs k n hi hx Ug
  rw [hx] at rx
  rw [Ug] at ri
  have O0:Rel R w (.int k n) (a.eval ix):=ri
  have cP:Rel R w (.agg cs) (a.eval x):=rx
  generalize Jf:a.eval ix=iv at O0
  generalize ea:a.eval x=xv at cP
  cases O0
  cases cP with
  | @agg _ vs hr h1=>
  obtain ⟨fx,u,e1,e2,e3,e4,e5,e6⟩:=bR E hi
  split at hq
  ·rename_i len esz ag hk
   rw [hk] at e5
   obtain ⟨e,ie,ue,rfl,f1,f2,f3,f4⟩:=np e5
   split at hq
   ·rename_i v' PV
    injection hq with hq
    injection hq with uh me
    subst me
    have dO:=of_decide_eq_true uh
    have key:∃ c,(part e ⟨vs⟩ (n.toNat * esz)).run E.P w=.ok c w∧Rel R w v' c:=by
     split at PV
     ·rename_i Aw
      split at PV
      ·rename_i l hl
       exact lL f1 f3 (l:=l) hr h1 (fun _=>⟨by rw [f2]; exact hl,PV⟩) (fun hf=>by rw [f4,Aw] at hf; cases hf)
      ·cases PV
     ·rename_i Aw
      split at PV
      ·rename_i l hl
       exact lL f1 f3 (l:=l) hr h1 (fun hf=>by rw [f4] at hf; exact absurd hf Aw) (fun _=>⟨hl,PV⟩)
      ·cases PV
    obtain ⟨c,k1,k2⟩:=key
    refine ap h ?_ k2
    simp [execOp,ho,Instr.index,Jf,ea,asIntOf,run_underlying e2,dO,run_sizeOf w f1,f2,k1]
   ·cases hq
  ·cases hq
 ·cases hq
theorem Ax (h:aQ E R w β s a) (x:Operand) (j:Nat) (ho:o.op=.extract x j) {vs:List AV} {v:AV} (hx:bp E s.ae x=.v (.bF vs)) (hn:nth vs j=some v) :
  bB E R w β s a o (s.put o.dst (.v v)):=by
 have rx:=aJ h x
 rw [hx] at rx
 have cP:Rel R w (.bF vs) (a.eval x):=rx
 generalize ea:a.eval x=xv at cP
 cases cP with
 | @bF _ us hr=>
 rw [aG] at hn
 obtain ⟨c,h1,h2⟩:=hr.get hn
 refine ap h ?_ h2
 simp [execOp,ho,Instr.extract,ea,h1]
theorem eO (h:aQ E R w β s a):∀ {l:List Operand} {vs:List AV},kN E s.ae l=some vs→aC R w vs (l.map a.eval)
 | [],vs,hl=>by simp [kN] at hl; subst hl; exact .nil
 | x :: l,vs,hl=>by
  unfold kN at hl
  split at hl
  ·rename_i v r h1 h2
   cases hl
   have:=aJ h x
   rw [h1] at this
   exact .cons this (eO h h2)
  ·cases hl
theorem yw (h:aQ E R w β s a) (g:FuncId) (x y:Array Operand) (ho:o.op=.makeFunc (.func g) x y) {p q:List AV} (hp:kN E s.ae x.toList=some p) (hq:kN E s.ae y.toList=some q) :
  bB E R w β s a o (s.put o.dst (.v (.fn g p q))):=by
 have h1:=eO h hp
 have h2:=eO h hq
 refine ap h (c:=.func (.func g) ⟨x.toList.map a.eval⟩ ⟨y.toList.map a.eval⟩) ?_ (Rel.fn h1 h2)
 have e1:x.map a.eval=⟨x.toList.map a.eval⟩:=Array.ext' (by simp)
 have e2:y.map a.eval=⟨y.toList.map a.eval⟩:=Array.ext' (by simp)
 simp [execOp,ho,Instr.makeFunc,e1,e2]
end ops
end Go.Am
