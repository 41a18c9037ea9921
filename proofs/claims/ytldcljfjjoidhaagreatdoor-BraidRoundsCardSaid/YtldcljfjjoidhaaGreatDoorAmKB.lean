/- The abstract machine: lists of cells; what keeps a state's meaning; loads and stores. -/
import Derived.Test.YtldcljfjjoidhaaGreatDoorAmKA
import Derived.Laws.CopyRow
import Derived.Laws.Slices
import Derived.Laws.StructEq
import Derived.ChangeKeysEq
set_option linter.all false
namespace Go.Am
open Go
section lists
variable {α:Type}
theorem vv (n:Nat) (l:List α):ft n l=l.drop n:=by
 induction n generalizing l with
 | zero=>simp [ft]
 | succ n ih=>cases l <;> simp [ft,ih]
theorem I3 {n:Nat} {l r:List α} (h:takeN n l=some r):r=l.take n∧r.length=n:=by
 induction n generalizing l r with
 | zero=>simp [takeN] at h; subst h; simp
 | succ n ih=>
  cases l with
  | nil=>simp [takeN] at h
  | cons a l=>
   unfold takeN at h
   split at h
   ·rename_i r' hr
    cases h
    obtain ⟨h1,h2⟩:=ih hr
    exact ⟨by simp [h1],by simp [h2]⟩
   ·cases h
theorem S8 {off n:Nat} {l r:List α} (h:FO off n l=some r):r=(l.drop off).take n∧r.length=n:=by
 unfold FO at h
 rw [vv] at h
 exact I3 h
theorem ea (l:List α) (off:Nat) (ys:List α) (h:off+ys.length≤l.length):bg l off ys=l.take off++ys++l.drop (off+ys.length):=by
 induction l generalizing off ys with
 | nil=>
  have hy:ys=[]:=List.eq_nil_of_length_eq_zero (by rw [List.length_nil] at h; omega)
  subst hy
  simp [bg]
 | cons a l ih=>
  cases ys with
  | nil=>simp [bg]
  | cons y ys=>
   cases off with
   | zero=>
    simp only [bg]
    rw [ih 0 ys (by simp at h ⊢; omega)]
    simp
   | succ n=>
    simp only [bg]
    rw [ih n (y :: ys) (by simp at h ⊢; omega)]
    rw [show n+1+(y :: ys).length=(n+(y :: ys).length)+1 by omega]
    simp
theorem yz (l:List α) (off:Nat) (ys:List α) (h:off+ys.length≤l.length):(bg l off ys).length=l.length:=by
 rw [ea l off ys h]
 simp
 omega
end lists
section rel
variable {R:ao} {w:World}
theorem aM.length {l:List AV} {vs:List Value} (h:aM R w l vs):l.length=vs.length:=by
 induction l generalizing vs with
 | nil=>cases h; rfl
 | cons a l ih=>cases h with | cons h t=>simp [ih t]
theorem aM.get {l:List AV} {vs:List Value} (h:aM R w l vs) {i:Nat} {a:AV} (ha:l[i]?=some a):∃ c,vs[i]?=some c∧Rel R w a c:=by
 induction l generalizing vs i with
 | nil=>simp at ha
 | cons x l ih=>
  cases h with
  | cons h t=>
   cases i with
   | zero=>simp at ha; subst ha; exact ⟨_,by simp,h⟩
   | succ i=>simp at ha; obtain ⟨c,h1,h2⟩:=ih t ha; exact ⟨c,by simpa using h1,h2⟩
theorem aM.drop {l:List AV} {vs:List Value} (h:aM R w l vs) (n:Nat):aM R w (l.drop n) (vs.drop n):=by
 induction n generalizing l vs with
 | zero=>simpa using h
 | succ n ih=>cases h with
  | nil=>simpa using aM.nil
  | cons h t=>simpa using ih t
theorem aM.take {l:List AV} {vs:List Value} (h:aM R w l vs) (n:Nat):aM R w (l.take n) (vs.take n):=by
 induction n generalizing l vs with
 | zero=>simpa using aM.nil
 | succ n ih=>cases h with
  | nil=>simpa using aM.nil
  | cons h t=>simpa using aM.cons h (ih t)
theorem aM.append {l r:List AV} {vs us:List Value} (h:aM R w l vs) (k:aM R w r us):aM R w (l++r) (vs++us):=by
 induction l generalizing vs with
 | nil=>cases h; simpa using k
 | cons a l ih=>cases h with | cons h t=>exact .cons h (ih t)
theorem aM.one {a:AV} {c:Value} (h:Rel R w a c):aM R w [a] [c]:=.cons h .nil
theorem Rel.cells {a:AV} {c:Value} (h:Rel R w a c) (ht:a.aX=true):aM R w a.cells c.cells.toList∧∀ v∈c.cells.toList,v.oneCell'=true:=by
 cases h with
 | agg h h1=>exact ⟨h,h1⟩
 | bi h=>simp [AV.aX] at ht
 | bool=>exact ⟨.one (.bool _),by simp [Value.cells,Value.oneCell']⟩
 | int=>exact ⟨.one (.int _ _),by simp [Value.cells,Value.oneCell']⟩
 | str=>exact ⟨.one (.str _),by simp [Value.cells,Value.oneCell']⟩
 | ir=>exact ⟨.one .ir,by simp [Value.cells,Value.oneCell']⟩
 | ptr h=>exact ⟨.one (.ptr h),by simp [Value.cells,Value.oneCell']⟩
 | ep h=>exact ⟨.one (.ep h),by simp [Value.cells,Value.oneCell']⟩
 | jA=>exact ⟨.one .jA,by simp [Value.cells,Value.oneCell']⟩
 | iU=>exact ⟨.one .iU,by simp [Value.cells,Value.oneCell']⟩
 | mN=>exact ⟨.one .mN,by simp [Value.cells,Value.oneCell']⟩
 | lZ h ho=>exact ⟨.one (.lZ h ho),by simp [Value.cells,Value.oneCell']⟩
 | lA h ho=>exact ⟨.one (.lA h ho),by simp [Value.cells,Value.oneCell']⟩
 | list h hl hc hk=>exact ⟨.one (.list h hl hc hk),by simp [Value.cells,Value.oneCell']⟩
 | jO h hc=>exact ⟨.one (.jO h hc),by simp [Value.cells,Value.oneCell']⟩
 | iN h ho=>exact ⟨.one (.iN h ho),by simp [Value.cells,Value.oneCell']⟩
 | dH h ho hc=>exact ⟨.one (.dH h ho hc),by simp [Value.cells,Value.oneCell']⟩
 | gp h ho=>exact ⟨.one (.gp h ho),by simp [Value.cells,Value.oneCell']⟩
 | j9=>exact ⟨.one .j9,by simp [Value.cells,Value.oneCell']⟩
 | map h=>exact ⟨.one (.map h),by simp [Value.cells,Value.oneCell']⟩
 | cE=>exact ⟨.one .cE,by simp [Value.cells,Value.oneCell']⟩
 | fn h h'=>exact ⟨.one (.fn h h'),by simp [Value.cells,Value.oneCell']⟩
 | yield h=>exact ⟨.one (.yield h),by simp [Value.cells,Value.oneCell']⟩
 | nQ=>exact ⟨.one .nQ,by simp [Value.cells,Value.oneCell']⟩
 | iface h=>exact ⟨.one (.iface h),by simp [Value.cells,Value.oneCell']⟩
mutual
theorem Rel.gD:∀ {a:AV} {c:Value},Rel R w a c→Rel R w a.gD c
 | _,_,.bool b=>.bool b
 | _,_,.int k n=>.int k n
 | _,_,.str l=>.str l
 | _,_,.agg h h1=>.agg h.gD h1
 | _,_,.bi h=>.bi h.gD
 | _,_,.ir=>.ir
 | _,_,.ptr h=>.ptr h
 | _,_,.ep h=>.ep h
 | _,_,.jA=>.jA
 | _,_,.iU=>.iU
 | _,_,.mN=>.mN
 | _,_,.lZ _ _=>.iU
 | _,_,.lA _ _=>.iU
 | _,_,@Rel.list _ _ .nil _ _ _ _ _ _ h hl hc hk=>.list h hl hc hk
 | _,_,@Rel.list _ _ .full _ _ _ _ _ _ h hl hc hk=>.list h hl hc hk
 | _,_,@Rel.list _ _ .eU _ _ _ _ _ _ h hl hc hk=>.list h hl hc hk
 | _,_,@Rel.list _ _ (.own _) _ _ _ _ _ _ h hl hc _=>.list h hl hc trivial
 | _,_,@Rel.list _ _ (.bk _ _) _ _ _ _ _ _ h hl hc _=>.list h hl hc trivial
 | _,_,.jO h hc=>.jO h hc
 | _,_,.iN h ho=>.iN h ho
 | _,_,.dH h ho hc=>.dH h ho hc
 | _,_,.gp h ho=>.gp h ho
 | _,_,.j9=>.j9
 | _,_,.map h=>.map h
 | _,_,.cE=>.cE
 | _,_,.fn h h'=>.fn h h'
 | _,_,.yield h=>.yield h
 | _,_,.nQ=>.nQ
 | _,_,.iface h=>.iface h
theorem aM.gD:∀ {l:List AV} {cs:List Value},aM R w l cs→aM R w (kW l) cs
 | _,_,.nil=>.nil
 | _,_,.cons h t=>.cons h.gD t.gD
end
theorem dO.get {b o:Nat} {l:List AV} (h:dO R w b o l):∃ vs,aM R w l vs∧(∀ v∈vs,v.oneCell'=true)∧(∀ j v,vs[j]?=some v→w.cell? ⟨b,o+j,none⟩=some v)∧∀ j,j < l.length→R.I b (o+j):=by
 induction l generalizing o with
 | nil=>exact ⟨[],.nil,by simp,by simp,by simp⟩
 | cons a l ih=>
  cases h with
  | @cons _ _ _ c _ hc h1 hi h t=>
   obtain ⟨vs,k1,k2,k3,k4⟩:=ih t
   refine ⟨c :: vs,.cons h k1,?_,?_,?_⟩
   ·intro v hv
    rcases List.mem_cons.1 hv with rfl | hv
    ·exact h1
    ·exact k2 v hv
   ·intro j v hv
    cases j with
    | zero=>simp at hv; subst hv; exact hc
    | succ j=>simp at hv; have:=k3 j v hv; rwa [show o+1+j=o+(j+1) by omega] at this
   ·intro j hj
    cases j with
    | zero=>exact hi
    | succ j=>have:=k4 j (by simp at hj; omega); rwa [show o+1+j=o+(j+1) by omega] at this
theorem dO.make {b o:Nat} {l:List AV} {vs:List Value} (h:aM R w l vs) (h1:∀ v∈vs,v.oneCell'=true) (hc:∀ j v,vs[j]?=some v→w.cell? ⟨b,o+j,none⟩=some v) (hi:∀ j,j < l.length→R.I b (o+j)):dO R w b o l:=by
 induction l generalizing vs o with
 | nil=>exact .nil
 | cons a l ih=>
  cases h with
  | cons h t=>
   refine .cons (hc 0 _ (by simp)) (h1 _ (by simp)) (hi 0 (by simp)) h (ih t (fun v hv=>h1 v (by simp [hv])) (fun j v hv=>?_) (fun j hj=>?_))
   ·have:=hc (j+1) v (by simpa using hv); rwa [show o+(j+1)=o+1+j by omega] at this
   ·have:=hi (j+1) (by simpa using hj); rwa [show o+(j+1)=o+1+j by omega] at this
theorem dO.drop {b o:Nat} {l:List AV} (h:dO R w b o l) (n:Nat):dO R w b (o+n) (l.drop n):=by
 induction n generalizing o l with
 | zero=>simpa using h
 | succ n ih=>cases h with
  | nil=>simpa using dO.nil
  | cons hc h1 hi h t=>have:=ih t; rw [show o+1+n=o+(n+1) by omega] at this; simpa using this
end rel
theorem cF (b o n:Nat):(⟨b,o,none⟩:Addr).add n=⟨b,o+n,none⟩:=by unfold Addr.add; split <;> simp_all
section bE
variable {E:Env} {R R':ao} {w w':World} {β β':Nat→Nat} {s:St} {a:Act}
theorem nZ.mono (e:Ext R w R' w') {sl:bj} {tm:Array Value} (h:nZ R w β sl tm):nZ R' w' β sl tm:=
 fun i hi=>let ⟨c,h1,h2⟩:=h i hi; ⟨c,h1,h2.mono e⟩
theorem dw.mono (e:Ext R w R' w'):∀ {l:List (AV × AV)} {es:List MapEntry},dw R w l es→dw R' w' l es
 | [],[],_=>trivial
 | (_,_) :: _,_ :: _,h=>⟨h.1.mono e,h.2.1.mono e,dw.mono e h.2.2⟩
 | [],_ :: _,h=>h.elim
 | _ :: _,[],h=>h.elim
theorem n3 {w w':World} {b:Nat} (h:b < w.heap.size) (e:w'.heap[b]?=w.heap[b]?):b < w'.heap.size:=by
 rw [Array.getElem?_eq_getElem h] at e
 exact (Array.getElem?_eq_some_iff.1 e).1
theorem gG.mono (e:Ext R w R' w') {go:GO} {ro:RO} (h:gG R w go ro) (hb:∀ b,ro.has b→w'.heap[b]?=w.heap[b]?) (hi:∀ b o,ro.has b→R'.I b o→R.I b o):gG R' w' go ro:=by
 cases ro with
 | none=>cases go <;> first | exact h | exact h.elim
 | bJ=>cases go <;> first | exact h | exact h.elim
 | b7 b=>
  have kd:=hb b rfl
  cases go with
  | dead=>exact n3 h kd
  | row cs el=>obtain ⟨vs,h1,h2,h3,h4⟩:=h; exact ⟨vs,kd.trans h1,h2.mono e,h3,fun o ho=>h4 o (hi b o rfl ho)⟩
  | tok f sz el=>exact h.elim
  | bk _ _ _=>exact h.elim
  | nK qt n left _=>obtain ⟨bm,seen,c0,h1,h2,h3⟩:=h; exact ⟨bm,seen,c0,e.b7 h1,kd.trans h2,h3⟩
  | dc es sz el=>exact h.elim
  | map es=>obtain ⟨aC,clock,h1,h2,h3⟩:=h; exact ⟨aC,clock,kd.trans h1,dw.mono e h2,h3⟩
  | gu l pos=>exact kd.trans h
  | loop busy pending fn ah n params assign body defers done=>
   obtain ⟨⟨r,db,h1,h2,h3,h4,h5,h6,h7,h8,h9,h11⟩,h10⟩:=h
   exact ⟨⟨r,db,kd.trans h1,h2,h3,h4.mono e,h5,h6,h7,h8,h9,e.b7 h11⟩,h10⟩
  | defers o=>exact kd.trans h
 | tok f b c=>
  have kd:=hb b rfl
  cases go with
  | tok f' sz el=>
   obtain ⟨h0,cur,h1,h2,h3,h4,h5⟩:=h
   exact ⟨h0,cur,kd.trans h1,h2,h3,h4,fun o ho sQ=>h5 o ho (hi b o rfl sQ)⟩
  | dc es sz el=>
   obtain ⟨h0,pn,cur,vs,h1,h2,h3,h4,h5,h6,h7,h8⟩:=h
   exact ⟨h0,pn,cur,vs,kd.trans h1,h2,h3,h4,fun o ho=>h5 o (hi b o rfl ho),h6.mono e,h7,h8⟩
  | dead=>exact n3 h kd
  | row cs=>exact h.elim
  | bk _ _ _=>exact h.elim
  | nK _ _ _ _=>exact h.elim
  | map es=>exact h.elim
  | gu l pos=>exact h.elim
  | loop=>exact h.elim
  | defers o=>exact h.elim
 | bk ts=>
  cases go with
  | bk fs sz el=>
   obtain ⟨h1,h2,h3⟩:=h
   refine ⟨h1,h2,fun j f t hf ht=>?_⟩
   have h4:=h3 j f t hf ht
   cases t with
   | bJ=>exact h4
   | full f'=>exact h4
   | tok f' b c=>
    obtain ⟨h5,cur,k1,k2,k3,k4,k5⟩:=h4
    have hh:RO.has (.bk ts) b:=⟨j,f',c,ht⟩
    exact ⟨h5,cur,(hb b hh).trans k1,k2,k3,k4,fun o ho sQ=>k5 o ho (hi b o hh sQ)⟩
  | dead=>exact fun j f b c ht=>n3 (h j f b c ht) (hb b ⟨j,f,c,ht⟩)
  | _=>exact h.elim
theorem Live.of {id b:Nat} {ro:RO} (h:nth R.obj id=some ro) (hb:ro.has b):Live R b:=⟨id,ro,h,hb⟩
theorem dz.bE {G:List GO} (h:dz E R w G) (e:Ext R w R' w') (ho:R'.obj=R.obj) (hb:∀ b,Live R b→w'.heap[b]?=w.heap[b]?) (hi:∀ b o,Live R b→R'.I b o→R.I b o) (wf:∀ b o,R'.I b o→b < w'.heap.size) (hd:E.lo≤w.drawn→E.lo≤w'.drawn:=by first | exact fun h=>h | exact fun h=>Nat.le_succ_of_le h):dz E R' w' G where
 lo:=hd h.lo
 len:=by rw [ho]; exact h.len
 obj:=fun id go ro hg hr=>by
  rw [ho] at hr
  exact (h.obj id go ro hg hr).mono e (fun b WG=>hb b (.of hr WG)) (fun b o WG=>hi b o (.of hr WG))
 inj:=fun i j ri rj b h1 h2=>by rw [ho] at h1 h2; exact h.inj i j ri rj b h1 h2
 wf:=wf
 cb:=fun g cs hg=>(h.cb g cs hg).mono e
theorem Np.bE {bx:cJ} (h:Np R w β bx) (e:Ext R w R' w') (hb:∀ k cs,dv bx k=some cs→w'.heap[β k]?=w.heap[β k]?) (hi:∀ k cs o,dv bx k=some cs→R'.I (β k) o→R.I (β k) o) (hl:∀ k cs,dv bx k=some cs→Live R' (β k)→Live R (β k)):Np R' w' β bx where
 box:=fun k cs hk=>by
  obtain ⟨⟨vs,el,h1,h2,h3⟩,h4,h5⟩:=h.box k cs hk
  exact ⟨⟨vs,el,(hb k cs hk).trans h1,h2.mono e,h3⟩,fun o ho=>h4 o (hi k cs o hk ho),fun BH=>h5 (hl k cs hk BH)⟩
 inj:=h.inj
theorem pT.mono (e:Ext R w R' w'):∀ {l:List Nat} {ds:List Deferred},pT R l ds→pT R' l ds
 | [],[],_=>trivial
 | _ :: _,_ :: _,h=>let ⟨⟨b,h1,h2⟩,h3⟩:=h; ⟨⟨b,e.b7 h1,h2⟩,pT.mono e h3⟩
 | [],_ :: _,h=>h.elim
 | _ :: _,[],h=>h.elim
theorem bn.bE (h:bn E R w β s a) (e:Ext R w R' w') (ho:R'.obj=R.obj) (hb:∀ b,Own R β s.boxes b→w'.heap[b]?=w.heap[b]?) (hi:∀ b o,Own R β s.boxes b→R'.I b o→R.I b o) (wf:∀ b o,R'.I b o→b < w'.heap.size) (hd:E.lo≤w.drawn→E.lo≤w'.drawn:=by first | exact fun h=>h | exact fun h=>Nat.le_succ_of_le h):bn E R' w' β s a where
 g:=h.g.bE e ho (fun b hl=>hb b (.inl hl)) (fun b o hl=>hi b o (.inl hl)) wf hd
 b:=h.b.bE e (fun k cs hk=>hb _ (.inr ⟨k,cs,hk,rfl⟩)) (fun k cs o hk=>hi _ o (.inr ⟨k,cs,hk,rfl⟩)) (fun k cs _ hl=>by obtain ⟨id,ro,h1,h2⟩:=hl; rw [ho] at h1; exact ⟨id,ro,h1,h2⟩)
 t:=h.t.mono e
 n:=h.n
 d:=h.d.mono e
theorem bl {w:World} {b:Nat} {o:Obj} (h:w.heap[b]?=some o):b < w.heap.size:=(Array.getElem?_eq_some_iff.1 h).1
theorem gG.lt {go:GO} {ro:RO} (h:gG R w go ro) {b:Nat} (hb:ro.has b):b < w.heap.size:=by
 cases ro with
 | none=>exact hb.elim
 | bJ=>exact hb.elim
 | b7 x=>
  have hb:b=x:=hb
  subst hb
  cases go with
  | dead=>exact h
  | row cs el=>obtain ⟨vs,h1,_⟩:=h; exact bl h1
  | tok f sz el=>exact h.elim
  | bk _ _ _=>exact h.elim
  | nK qt n left _=>obtain ⟨bm,seen,c0,_,h2,_⟩:=h; exact bl h2
  | dc es sz el=>exact h.elim
  | map es=>obtain ⟨aC,clock,h1,_⟩:=h; exact bl h1
  | gu l pos=>exact bl h
  | loop=>obtain ⟨⟨r,db,h1,_⟩,_⟩:=h; exact bl h1
  | defers o=>exact bl h
 | tok f x c=>
  have hb:b=x:=hb
  subst hb
  cases go with
  | tok f' sz el=>obtain ⟨_,cur,h1,_⟩:=h; exact bl h1
  | dc es sz el=>obtain ⟨_,_,cur,vs,h1,_⟩:=h; exact bl h1
  | dead=>exact h
  | row cs=>exact h.elim
  | bk _ _ _=>exact h.elim
  | nK _ _ _ _=>exact h.elim
  | map es=>exact h.elim
  | gu l pos=>exact h.elim
  | loop=>exact h.elim
  | defers o=>exact h.elim
 | bk ts=>
  obtain ⟨j,f,c,ht⟩:=hb
  cases go with
  | bk fs sz el=>
   obtain ⟨h1,h2,h3⟩:=h
   have bV:=bP ht
   rw [h1] at bV
   obtain ⟨f',hf⟩:∃ f',nth fs j=some f':=⟨fs[j],by rw [bc]; exact List.getElem?_eq_getElem bV⟩
   obtain ⟨_,cur,k1,_⟩:=h3 j f' _ hf ht
   exact bl k1
  | dead=>exact h j f b c ht
  | _=>exact h.elim
theorem dz.b6 {G:List GO} (h:dz E R w G) {b:Nat} (hl:Live R b):b < w.heap.size:=by
 obtain ⟨id,ro,h1,h2⟩:=hl
 have bV:=bP h1
 rw [h.len] at bV
 obtain ⟨go,iq⟩:∃ go,nth G id=some go:=⟨G[id],by rw [bc]; exact List.getElem?_eq_getElem bV⟩
 exact (h.obj id go ro iq h1).lt h2
theorem bn.dY (h:bn E R w β s a) {b:Nat} (ho:Own R β s.boxes b):b < w.heap.size:=by
 rcases ho with hl | ⟨k,cs,hk,rfl⟩
 ·exact h.g.b6 hl
 ·obtain ⟨⟨vs,el,h1,_⟩,_⟩:=h.b.box k cs hk
  exact bl h1
theorem b8 {w w':World} {b:Nat} (h:w'.heap[b]?=w.heap[b]?) (o:Nat):w'.cell? ⟨b,o,none⟩=w.cell? ⟨b,o,none⟩:=by simp [World.cell?,h]
theorem sR (wf:∀ b o,R.I b o→b < w.heap.size) (x:Obj):Ext R w R (w.alloc x):=
 ⟨fun _ _ h=>h,fun b o h=>b8 (heap_alloc_old w x b (wf b o h)) o,fun _ ro h=>⟨ro,h,cD.refl ro⟩,.old fun b hb=>heap_alloc_old w x b hb⟩
theorem bn.alloc (h:bn E R w β s a) (x:Obj):bn E R (w.alloc x) β s a:=
 h.bE (sR h.g.wf x) rfl (fun b hb=>heap_alloc_old w x b (h.dY hb)) (fun _ _ _ hi=>hi) (fun b o hi=>by have:=h.g.wf b o hi; simp; omega)
end bE
end Go.Am
namespace Go.Am
open Go
theorem I4 {a b:AV} (h:FP a b=true):a=b:=by
 unfold FP at h
 split at h
 all_goals (first | (cases h; done) | skip)
 all_goals (try simp only [Bool.and_eq_true,beq_iff_eq,Nat.beq_eq] at h)
 all_goals (simp [*])
mutual
theorem jk:∀ {a b:AV},dX a b=true→a=b:=by
 intro a b h
 unfold dX at h
 split at h
 ·simp only [Bool.and_eq_true,Nat.beq_eq] at h; rw [h.1.1,fG h.1.2,fG h.2]
 ·rw [fG h]
 ·rw [fG h]
 ·rw [fG h]
 ·simp only [Bool.and_eq_true,Nat.beq_eq] at h; rw [h.1,fG h.2]
 ·simp only [Bool.and_eq_true,Nat.beq_eq] at h; rw [h.1,fG h.2]
 ·simp only [Bool.and_eq_true,Nat.beq_eq] at h; rw [h.1,fG h.2]
 ·simp only [Bool.and_eq_true,Nat.beq_eq] at h; rw [h.1.1,h.1.2,fG h.2]
 ·simp only [Bool.and_eq_true,Nat.beq_eq] at h; rw [h.1.1.1,h.1.1.2,h.1.2,fG h.2]
 ·exact I4 h
theorem fG:∀ {l r:List AV},hU l r=true→l=r:=by
 intro l r h
 unfold hU at h
 split at h
 ·rfl
 ·rw [Bool.and_eq_true] at h; rw [jk h.1,fG h.2]
 ·cases h
end
def Au (a b:AV):Prop:=∀ (R:ao) (w:World) (c:Value),Rel R w a c→Rel R w b c
def cK:List AV→List AV→Prop
 | [],[]=>True
 | a :: l,b :: r=>Au a b∧cK l r
 | _,_=>False
theorem Au.refl (a:AV):Au a a:=fun _ _ _ h=>h
theorem cK.refl:∀ l:List AV,cK l l
 | []=>trivial
 | a :: l=>⟨Au.refl a,cK.refl l⟩
theorem cK.length:∀ {l r:List AV},cK l r→l.length=r.length
 | [],[],_=>rfl
 | _ :: _,_ :: _,h=>by simp [cK.length h.2]
 | [],_ :: _,h=>h.elim
 | _ :: _,[],h=>h.elim
theorem cK.rel {R:ao} {w:World}:∀ {l r:List AV} {cs:List Value},cK l r→aM R w l cs→aM R w r cs
 | [],[],_,_,h=>h
 | _ :: _,_ :: _,_,k,.cons h t=>.cons (k.1 _ _ _ h) (cK.rel k.2 t)
 | [],_ :: _,_,h,_=>h.elim
 | _ :: _,[],_,h,_=>h.elim
theorem cK.I5 {R:ao} {w:World}:∀ {l r:List AV} {b o:Nat},cK l r→dO R w b o l→dO R w b o r
 | [],[],_,_,_,_=>.nil
 | _ :: _,_ :: _,_,_,k,.cons hc h1 hi h t=>.cons hc h1 hi (k.1 _ _ _ h) (cK.I5 k.2 t)
 | [],_ :: _,_,_,h,_=>h.elim
 | _ :: _,[],_,_,h,_=>h.elim
theorem cK.append:∀ {a b c d:List AV},cK a b→cK c d→cK (a++c) (b++d)
 | [],[],_,_,_,h=>h
 | _ :: _,_ :: _,_,_,k,h=>⟨k.1,cK.append k.2 h⟩
 | [],_ :: _,_,_,h,_=>h.elim
 | _ :: _,[],_,_,h,_=>h.elim
structure iQ (v u:AV):Prop where
 gD:Au v u
 bi:u.aX=v.aX
 cells:v.aX=true→cK v.cells u.cells
 closed:v.closed=true→u.closed=true
theorem uU {u v a:AV} (h:(aT.two u v).fits a=true):(aT.two u v).enc ((aT.two u v).bw a)=a:=by
 change (dX a u || dX a v)=true at h
 change (bif dX a v then v else u)=a
 cases hs:dX a v with
 | true=>exact (jk hs).symm
 | false=>
  rw [hs,Bool.or_false] at h
  exact (jk h).symm
theorem iQ.refl (v:AV):iQ v v:=⟨Au.refl v,rfl,fun _=>cK.refl _,fun h=>h⟩
theorem DY {a b:IntKind} (h:S3 a b=true):a=b:=of_decide_eq_true h
theorem rv {α:Type} {f:AV→Bool} {d:AV→α} {g:α→AV} (FU:∀ v,f v=true→iQ v (g (d v))) {R:ao} {w:World} :
  ∀ {es:List AV} {b o sz:Nat},allFit f es=true→fY R w b o sz es→fY R w b o sz ((es.map d).map g)
 | [],b,o,sz,_,_=>.nil
 | e :: es,b,o,sz,h,hr=>by
  simp only [allFit,Bool.and_eq_true] at h
  cases hr with
  | cons hl ht hk hc t=>
   have d':=FU e h.1
   have wc:=d'.cells ht
   exact .cons (by rw [← wc.length,hl]) (by rw [d'.bi,ht]) (d'.closed hk) (wc.I5 hc) (rv FU h.2 t)
theorem Hl {R:ao} {w:World} {b o sz bN:Nat} {es:List AV} (h:es=[]∨sz=bN) (hr:fY R w b o bN es):fY R w b o sz es:=by
 rcases h with rfl | rfl
 ·exact .nil
 ·exact hr
theorem Hm {α:Type} {f:AV→Bool} {d:AV→α} {g:α→AV} (FU:∀ v,f v=true→iQ v (g (d v))) {k:LK} {sz bN:Nat} {es:List AV} (hs:es=[]∨sz=bN) (h:allFit f es=true) :
  Au (.list k bN es) (.list .eU sz ((es.map d).map g)):=fun R w c hr=>by
 cases hr with
 | jA=>exact .iU
 | iU=>exact .iU
 | mN=>exact .mN
 | lZ _ _=>exact .iU
 | lA _ _=>exact .iU
 | list hr hlen hc hk=>exact .list (rv FU h (Hl hs hr)) (by simp [hlen]) hc trivial
theorem I6 {α:Type} {f:AV→Bool} {d:AV→α} {g:α→AV} (FU:∀ v,f v=true→iQ v (g (d v))) {id sz:Nat} {es:List AV} (h:allFit f es=true) :
  Au (.list (.own id) sz es) (.list (.own id) sz ((es.map d).map g)):=fun R w c hr=>by
 cases hr with
 | lZ h1 h2=>exact .lZ h1 h2
 | list hr hlen hc hk=>exact .list (rv FU h hr) (by simp [hlen]) hc hk
theorem I7 {α:Type} {f:AV→Bool} {d:AV→α} {g:α→AV} (FU:∀ v,f v=true→iQ v (g (d v))) {id j sz:Nat} {es:List AV} (h:allFit f es=true) :
  Au (.list (.bk id j) sz es) (.list (.bk id j) sz ((es.map d).map g)):=fun R w c hr=>by
 cases hr with
 | lA h1 h2=>exact .lA h1 h2
 | list hr hlen hc hk=>exact .list (rv FU h hr) (by simp [hlen]) hc hk
mutual
theorem aT.cT:∀ (p:aT) {v:AV},p.fits v=true→iQ v (p.enc (p.bw v))
 | .int k,v,h=>by
  cases v with
  | int k' n=>
   have hk:S3 k k'=true:=h
   rw [DY hk]
   exact iQ.refl _
  | _=>cases h
 | .bool,v,h=>by
  cases v with
  | bool b=>exact iQ.refl _
  | _=>cases h
 | .str,v,h=>by
  cases v with
  | str b=>exact iQ.refl _
  | _=>cases h
 | .agg ps,v,h=>by
  cases v with
  | agg cs=>
   obtain ⟨h1,h2⟩:=ps.cT (show ps.fits cs=true from h)
   exact ⟨fun R w c hr=>by cases hr with | agg hr vw=>exact .agg (h1.rel hr) vw,rfl,fun _=>h1,fun hc=>by
    have uE:aH cs=true:=by simpa [AV.closed] using hc
    show AV.closed (.agg (ps.enc (ps.bw cs)))=true
    simp only [AV.closed]; exact h2 uE⟩
  | _=>cases h
 | .bi ps,v,h=>by
  cases v with
  | bi cs=>
   obtain ⟨h1,h2⟩:=ps.cT (show ps.fits cs=true from h)
   exact ⟨fun R w c hr=>by cases hr with | bi hr=>exact .bi (h1.rel hr),rfl,fun hn=>by simp [AV.aX] at hn,fun hc=>by
    have uE:aH cs=true:=by simpa [AV.closed] using hc
    show AV.closed (.bi (ps.enc (ps.bw cs)))=true
    simp only [AV.closed]; exact h2 uE⟩
  | _=>cases h
 | .list sz p,v,h=>by
  cases v with
  | list k bN es=>
   have hb:((Nat.beq sz bN || es.isEmpty)&&allFit p.fits es)=true:=h
   simp only [Bool.and_eq_true,Bool.or_eq_true,Nat.beq_eq,List.isEmpty_iff] at hb
   have hw:=Hm (k:=k) (fun v=>p.cT) hb.1.symm hb.2
   exact ⟨hw,rfl,fun _=>⟨hw,trivial⟩,fun _=>rfl⟩
  | _=>cases h
 | .own id sz p,v,h=>by
  cases v with
  | list k bN es=>
   cases k with
   | own jw=>
    have hb:((Nat.beq id jw&&Nat.beq sz bN)&&allFit p.fits es)=true:=h
    simp only [Bool.and_eq_true,Nat.beq_eq] at hb
    obtain ⟨⟨rfl,rfl⟩,hf⟩:=hb
    have hw:=I6 (id:=id) (sz:=sz) (fun v=>p.cT) hf
    exact ⟨hw,rfl,fun _=>⟨hw,trivial⟩,fun hc=>by simp [AV.closed,LK.closed] at hc⟩
   | _=>cases h
  | _=>cases h
 | .bk id sz p,v,h=>by
  cases v with
  | list k bN es=>
   cases k with
   | bk jw j=>
    have hb:((Nat.beq id jw&&Nat.beq sz bN)&&allFit p.fits es)=true:=h
    simp only [Bool.and_eq_true,Nat.beq_eq] at hb
    obtain ⟨⟨rfl,rfl⟩,hf⟩:=hb
    have hw:=I7 (id:=id) (j:=j) (sz:=sz) (fun v=>p.cT) hf
    exact ⟨hw,rfl,fun _=>⟨hw,trivial⟩,fun hc=>by simp [AV.closed,LK.closed] at hc⟩
   | _=>cases h
  | _=>cases h
 | .gC u,v,h=>by
  have:=jk (show dX v u=true from h)
  subst this
  exact iQ.refl _
 | .two u v,a,h=>by
  have hv:(aT.two u v).enc ((aT.two u v).bw a)=a:=uU h
  rw [hv]
  exact iQ.refl _
theorem aP.cT:∀ (ps:aP) {l:List AV},ps.fits l=true→cK l (ps.enc (ps.bw l))∧(aH l=true→aH (ps.enc (ps.bw l))=true)
 | .nil,l,h=>by
  cases l with
  | nil=>exact ⟨trivial,fun h=>h⟩
  | cons _ _=>cases h
 | .cons p .nil,l,h=>by
  match l,h with
  | [],h=>cases h
  | a :: l,h=>
   have h':(p.fits a&&l.isEmpty)=true:=h
   simp only [Bool.and_eq_true,List.isEmpty_iff] at h'
   obtain ⟨h1,rfl⟩:=h'
   have d:=p.cT h1
   exact ⟨⟨d.gD,trivial⟩,fun hc=>by
    simp only [aH,Bool.and_true] at hc
    show aH [p.enc (p.bw a)]=true
    simp only [aH,Bool.and_true]
    exact d.closed hc⟩
 | .cons p (.cons q ps),l,h=>by
  cases l with
  | nil=>cases h
  | cons a l=>
   have h':(p.fits a&&(aP.cons q ps).fits l)=true:=h
   rw [Bool.and_eq_true] at h'
   have d:=p.cT h'.1
   obtain ⟨k1,k2⟩:=(aP.cons q ps).cT h'.2
   exact ⟨⟨d.gD,k1⟩,fun hc=>by
    simp only [aH,Bool.and_eq_true] at hc
    show aH (p.enc (p.bw a) :: (aP.cons q ps).enc ((aP.cons q ps).bw l))=true
    simp only [aH,Bool.and_eq_true]
    exact ⟨d.closed hc.1,k2 hc.2⟩⟩
end
theorem aT.qu (p:aT) {v:AV} {x:p.T} (h:p.dec v=some x):iQ v (p.enc x):=by
 unfold aT.dec at h
 cases hf:p.fits v with
 | true=>rw [hf] at h; cases h; exact p.cT hf
 | false=>rw [hf] at h; cases h
theorem aP.qu (ps:aP) {l:List AV} {x:ps.T} (h:ps.dec l=some x):cK l (ps.enc x)∧(aH l=true→aH (ps.enc x)=true):=by
 unfold aP.dec at h
 cases hf:ps.fits l with
 | true=>rw [hf] at h; cases h; exact ps.cT hf
 | false=>rw [hf] at h; cases h
mutual
def aT.plain:aT→Bool
 | .agg ps=>ps.plain
 | .bi ps=>ps.plain
 | .list _ p=>p.plain
 | .own _ _ p=>p.plain
 | .bk _ _ p=>p.plain
 | .gC v=>dX v v
 | .two u v=>dX u u&&dX v v&&!dX u v
 | _=>true
def aP.plain:aP→Bool
 | .nil=>true
 | .cons p ps=>p.plain&&ps.plain
end
theorem mQ {α:Type} {f:AV→Bool} {g:α→AV} (h:∀ x,f (g x)=true):∀ xs:List α,allFit f (xs.map g)=true
 | []=>rfl
 | x :: xs=>by simp only [List.map_cons,allFit,h x,mQ h xs,Bool.and_self]
theorem uV {α:Type} {d:AV→α} {g:α→AV} (h:∀ x,d (g x)=x):∀ xs:List α,(xs.map g).map d=xs
 | []=>rfl
 | x :: xs=>by simp only [List.map_cons,h x,uV h xs]
mutual
theorem aT.bL:∀ (p:aT) (x:p.T),p.plain=true→p.fits (p.enc x)=true∧p.bw (p.enc x)=x
 | .int k,x,_=>⟨decide_eq_true rfl,rfl⟩
 | .bool,x,_=>⟨rfl,rfl⟩
 | .str,x,_=>⟨rfl,rfl⟩
 | .agg ps,x,h=>ps.bL x h
 | .bi ps,x,h=>ps.bL x h
 | .list sz p,x,h=>by
  refine ⟨?_,uV (fun y=>(p.bL y h).2) x⟩
  change ((Nat.beq sz sz || (List.map p.enc x).isEmpty)&&allFit p.fits (List.map p.enc x))=true
  rw [Nat.beq_refl,Bool.true_or,Bool.true_and]
  exact mQ (fun y=>(p.bL y h).1) x
 | .own id sz p,x,h=>by
  refine ⟨?_,uV (fun y=>(p.bL y h).2) x⟩
  change ((Nat.beq id id&&Nat.beq sz sz)&&allFit p.fits (List.map p.enc x))=true
  rw [Nat.beq_refl,Nat.beq_refl,Bool.true_and,Bool.true_and]
  exact mQ (fun y=>(p.bL y h).1) x
 | .bk id sz p,(x:Nat × List p.T),h=>by
  refine ⟨?_,?_⟩
  ·change ((Nat.beq id id&&Nat.beq sz sz)&&allFit p.fits (List.map p.enc x.2))=true
   rw [Nat.beq_refl,Nat.beq_refl,Bool.true_and,Bool.true_and]
   exact mQ (fun y=>(p.bL y h).1) x.2
  ·change (x.1,(List.map p.enc x.2).map p.bw)=x
   rw [uV (fun y=>(p.bL y h).2) x.2]
 | .gC v,x,h=>⟨h,rfl⟩
 | .two u v,(x:Bool),h=>by
  change (dX u u&&dX v v&&!dX u v)=true at h
  simp only [Bool.and_eq_true,Bool.not_eq_true'] at h
  obtain ⟨⟨h1,h2⟩,h3⟩:=h
  cases x
  ·exact ⟨by change (dX u u || dX u v)=true; rw [h1]; rfl,h3⟩
  ·exact ⟨by change (dX v u || dX v v)=true; rw [h2,Bool.or_true],h2⟩
theorem aP.bL:∀ (ps:aP) (x:ps.T),ps.plain=true→ps.fits (ps.enc x)=true∧ps.bw (ps.enc x)=x
 | .nil,x,_=>⟨rfl,rfl⟩
 | .cons p .nil,x,h=>by
  have h':(p.plain&&true)=true:=h
  rw [Bool.and_true] at h'
  have:=p.bL x h'
  exact ⟨by change (p.fits (p.enc x)&&true)=true; rw [this.1]; rfl,this.2⟩
 | .cons p (.cons q ps),x,h=>by
  have h':(p.plain&&(aP.cons q ps).plain)=true:=h
  rw [Bool.and_eq_true] at h'
  have h1:=p.bL x.1 h'.1
  have h2:=(aP.cons q ps).bL x.2 h'.2
  refine ⟨?_,?_⟩
  ·change (p.fits (p.enc x.1)&&(aP.cons q ps).fits ((aP.cons q ps).enc x.2))=true
   rw [h1.1,h2.1]
   rfl
  ·change (p.bw (p.enc x.1),(aP.cons q ps).bw ((aP.cons q ps).enc x.2))=x
   rw [h1.2,h2.2]
   rfl
end
end Go.Am
namespace Go.Am
open Go
theorem cj (E:Env) {t:TypeId} {i:TI} (h:E.ti t=some i) :
  ∃ gH u,E.P.info? t=some gH∧E.P.underlying t=some u∧gH.size=i.size∧jx u=i.agg∧pQ E.P u=some i.k∧fU gH=i.zero:=by
 have h1:=E.Hc t i h
 unfold Hb at h1
 split at h1
 ·rename_i gH u h2 h3
  split at h1
  ·rename_i k hk
   cases h1
   exact ⟨gH,u,h2,h3,rfl,rfl,hk,rfl⟩
  ·cases h1
 ·cases h1
section runs
variable {P:Program} (w:World)
theorem zi {t:TypeId} {u:TypeDesc} (h:P.underlying t=some u):(isAgg t).run P w=.ok (jx u) w:=by
 unfold isAgg
 simp only [Sem.run_bind,run_underlying h,Result.andThen_ok]
 cases u <;> rfl
theorem run_sizeOf {t:TypeId} {i:TypeInfo} (h:P.info? t=some i):(sizeOf t).run P w=.ok i.size w:=by
 simp [sizeOf,typeInfo,h]
theorem gI {t:TypeId} {i:TypeInfo} {z:Value} (h:P.info? t=some i) (hz:i.zero=some z):(zeroValue t).run P w=.ok z w:=by
 simp [zeroValue,typeInfo,h,hz]
theorem vx (t:TypeId) (v:Value):(newVar t v).run P w=.ok ⟨w.heap.size,0,none⟩ (w.alloc (.cells v.cells t)):=by
 simp only [newVar,newRow,Sem.run_bind,run_newObj,Result.andThen_ok,Sem.run_pure]
 rfl
end runs
theorem vy {R:ao} {w:World} {ag:Bool} {l:List AV} {v:AV} {vs:List Value} (hm:sJ ag l=some v) (h:aM R w l vs) (h1:∀ x∈vs,x.oneCell'=true) :
  (ag=true→Rel R w v (.agg ⟨vs⟩))∧(ag=false→∃ c,vs=[c]∧Rel R w v c):=by
 unfold sJ at hm
 cases ag with
 | true=>
  simp at hm
  subst hm
  exact ⟨fun _=>.agg h h1,fun e=>by cases e⟩
 | false=>
  refine ⟨(fun e=>by cases e),fun _=>?_⟩
  simp only [Bool.false_eq_true,if_false] at hm
  split at hm
  ·cases hm
   cases h with
   | cons h t=>
    cases t
    exact ⟨_,rfl,h⟩
  ·cases hm
theorem n5 {E:Env} {R:ao} {w:World} {t:TypeId} {i:TI} (hi:E.ti t=some i) {b off:Nat} {l:List AV} {vs:List Value} {v:AV}
  (hl:l.length=i.size) (hr:aM R w l vs) (h1:∀ x∈vs,x.oneCell'=true) (hc:∀ j x,vs[j]?=some x→w.cell? ⟨b,off+j,none⟩=some x) (hm:sJ i.agg l=some v) :
  ∃ c,(loadVar t ⟨b,off,none⟩).run E.P w=.ok c w∧Rel R w v c:=by
 obtain ⟨gH,u,e1,e2,e3,e4,_⟩:=cj E hi
 obtain ⟨m1,m2⟩:=vy hm hr h1
 unfold loadVar
 simp only [Sem.run_bind,zi w e2,Result.andThen_ok,e4]
 cases ha:i.agg with
 | true=>
  refine ⟨.agg ⟨vs⟩,?_,m1 ha⟩
  have hlen:gH.size=vs.length:=by rw [e3,← hl,hr.length]
  have:=run_loadCells_list (P:=E.P) w ⟨b,off,none⟩ vs (fun j x hx=>by rw [cF]; exact hc j x hx)
  simp [run_sizeOf w e1,hlen,this]
 | false=>
  obtain ⟨c,rfl,dZ⟩:=m2 ha
  refine ⟨c,?_,dZ⟩
  have:=hc 0 c (by simp)
  simp only [Nat.add_zero] at this
  simp [run_load,this]
theorem jl {w:World} {b:Nat} {vs:List Value} {el:TypeId} {fr:Nat × Nat} (h:w.heap[b]?=some (.cells ⟨vs⟩ el fr)) (j:Nat):w.cell? ⟨b,j,none⟩=vs[j]?:=by
 simp [World.cell?,h]
theorem tM {E:Env} {R:ao} {w:World} {β:Nat→Nat} {s:St} {a:Act} (h:bn E R w β s a) {p:SV} {c:Value} (hp:pS R w β p c) {cs:List AV} {off:Nat} (hc:mI s p=some (cs,off)) :
  ∃ b o vs,c=.pointer (some ⟨b,o+off,none⟩)∧aM R w cs vs∧(∀ x∈vs,x.oneCell'=true)∧∀ j x,vs[j]?=some x→w.cell? ⟨b,o+j,none⟩=some x:=by
 unfold mI at hc
 split at hc
 ·rename_i k fF
  split at hc
  ·rename_i cs' hk
   cases hc
   obtain ⟨⟨vs,el,h1,h2,h3⟩,_⟩:=h.b.box k cs hk
   exact ⟨β k,0,vs,by rw [hp]; simp,h2,h3,fun j x hx=>by rw [jl h1]; simpa using hx⟩
  ·cases hc
 ·rename_i id fF
  split at hc
  ·rename_i cs' hk
   cases hc
   cases hp with
   | @ptr _ _ b hb=>
    obtain ⟨vs,h1,h2,h3,_⟩:=h.g.obj id _ _ hk hb
    exact ⟨b,0,vs,by simp,h2,h3,fun j x hx=>by rw [jl h1]; simpa using hx⟩
  ·cases hc
 ·rename_i cs'
  cases hc
  cases hp with
  | ep hr=>
   obtain ⟨vs,h1,h2,h3,_⟩:=hr.get
   exact ⟨_,_,vs,rfl,h1,h2,h3⟩
 ·cases hc
theorem po {R:ao} {w:World} {off n:Nat} {cs l:List AV} {vs:List Value} (hs:FO off n cs=some l) (h:aM R w cs vs) (h1:∀ x∈vs,x.oneCell'=true) :
  l.length=n∧aM R w l ((vs.drop off).take n)∧(∀ x∈(vs.drop off).take n,x.oneCell'=true)∧∀ j x,((vs.drop off).take n)[j]?=some x→vs[off+j]?=some x:=by
 obtain ⟨e1,e2⟩:=S8 hs
 subst e1
 refine ⟨e2,(h.drop off).take n,fun x hx=>h1 x (List.mem_of_mem_drop (List.mem_of_mem_take hx)),fun j x hx=>?_⟩
 rw [List.getElem?_take] at hx
 split at hx
 ·rwa [List.getElem?_drop] at hx
 ·cases hx
def bW (E:Env) (R:ao) (w:World) (β:Nat→Nat) (s:St) (a:Act) (o:Oper) (s':St):Prop:=
 ∃ nx x w' R' β',(execOp a.eval o).run E.P w=.ok nx w'∧(nx=.value x∨(nx=.skip∧x=undef))∧bn E R' w' β' s' (a.put o.dst x)∧Step R w β s.boxes R' w' β' s'.boxes
section ops
variable {E:Env} {R:ao} {w:World} {β:Nat→Nat} {s:St} {a:Act} {o:Oper}
@[simp] theorem a8 (s:St) (d:Option Tmp) (x:SV):(s.put d x).boxes=s.boxes:=by
 cases d with
 | none=>rfl
 | some d=>simp only [St.put]; split <;> rfl
theorem ax (h:bn E R w β s a) {c:Value} {sv:SV} (hx:(execOp a.eval o).run E.P w=.ok (.value c) w) (hr:pS R w β sv c):bW E R w β s a o (s.put o.dst sv):=
 ⟨.value c,c,w,R,β,hx,.inl rfl,h.put o.dst hr,by rw [a8]; exact Step.refl R w β s.boxes⟩
theorem DZ {t:Bool} {x y:AV} {c d:Value} (hx:Rel R w x c) (hy:Rel R w y d):Rel R w (Ao t x y) (if t=true then c else d):=by
 unfold Ao
 split
 ·cases hx; cases hy; cases t <;> exact .bool _
 ·cases hx; cases hy
  split
  ·rename_i e; subst e; cases t <;> exact .int _ _
  ·cases t <;> exact .int _ _
 ·cases t
  ·exact hy
  ·exact hx
theorem j3 (h:bn E R w β s a) (x:Operand) (ho:o.op=.move x∨o.op=.assign x) {y:SV} (hy:bI E s.ah x=y):bW E R w β s a o (s.put o.dst y):=by
 subst hy
 refine ax h (c:=a.eval x) ?_ (aU h x)
 rcases ho with ho | ho <;> simp [execOp,ho]
theorem Hn (h:bn E R w β s a) (c x y:Operand) (ho:o.op=.pick c x y) {t:Bool} {p q:AV} (h1:bI E s.ah c=.v (.bool t)) (h2:bI E s.ah x=.v p) (h3:bI E s.ah y=.v q) :
  bW E R w β s a o (s.put o.dst (.v (Ao t p q))):=by
 have r1:=aU h c
 have r2:=aU h x
 have r3:=aU h y
 rw [h1] at r1; rw [h2] at r2; rw [h3] at r3
 refine ax h (c:=if t=true then a.eval x else a.eval y) ?_ (DZ r2 r3)
 have r1':Rel R w (.bool t) (a.eval c):=r1
 generalize DK:a.eval c=cc at r1'
 cases r1'
 simp [execOp,ho,asBool,DK]
theorem Ho (h:bn E R w β s a) (t:TypeId) (x:Operand) (ho:o.op=.load t x) {v:AV} (hl:rb E s t (bI E s.ah x)=some v) :
  bW E R w β s a o (s.put o.dst (.v v)):=by
 unfold rb at hl
 split at hl
 ·rename_i i cs off hi hc
  split at hl
  ·rename_i l hs
   obtain ⟨b,o',vs,e,h1,h2,h3⟩:=tM h (aU h x) hc
   obtain ⟨k1,k2,k3,k4⟩:=po hs h1 h2
   obtain ⟨c,hc,dZ⟩:=n5 (E:=E) hi (b:=b) (off:=o'+off) k1 k2 k3 (fun j y hy=>by rw [Nat.add_assoc]; exact h3 _ _ (k4 j y hy)) hl
   refine ax h (c:=c) ?_ dZ
   simp [execOp,ho,Instr.loadAt,e,Instr.sureAddr,hc]
  ·cases hl
 ·cases hl
theorem iV {b:Nat} (hI:∀ o,¬ R.I b o) (cs:Array Value):Ext R w R (w.setRow b cs):=
 ⟨fun _ _ h=>h,fun b' o h=>b8 (setRow_other w b b' cs (fun e=>hI o (e ▸ h))) o,fun _ ro h=>⟨ro,h,cD.refl ro⟩,fun b' r hb=>⟨r,by
  by_cases e:b'=b
  ·subst e
   have bV:b' < w.heap.size:=bl hb
   have hv:w.heap[b']=.loop r:=(Array.getElem?_eq_some_iff.1 hb).2
   unfold World.setRow
   rw [Array.getElem?_eq_getElem (by simpa using bV),Array.getElem_modify]
   simp [hv]
  ·exact (setRow_other w b b' cs e).trans hb,rfl,rfl,rfl,rfl,rfl⟩⟩
theorem aM.bg {cs ys:List AV} {vs us:List Value} {off:Nat} (h:aM R w cs vs) (k:aM R w ys us) (hl:off+ys.length≤cs.length) :
  aM R w (bg cs off ys) (vs.take off++us++vs.drop (off+us.length)):=by
 rw [ea cs off ys hl,← k.length]
 exact ((h.take off).append k).append (h.drop _)
theorem iW {vs us:List Value} {off n:Nat} (h:∀ x∈vs,x.oneCell'=true) (k:∀ x∈us,x.oneCell'=true):∀ x∈vs.take off++us++vs.drop n,x.oneCell'=true:=by
 intro x hx
 simp only [List.mem_append] at hx
 rcases hx with (hx | hx) | hx
 ·exact h x (List.mem_of_mem_take hx)
 ·exact k x hx
 ·exact h x (List.mem_of_mem_drop hx)
theorem jQ {t:TypeId} {i:TI} (hi:E.ti t=some i) {b off:Nat} {vs:List Value} {el:TypeId} {c:Value} (hb:w.heap[b]?=some (.cells ⟨vs⟩ el (0,0)))
  (hs:c.cells.toList.length=i.size) (hl:off+c.cells.toList.length≤vs.length) (h1:∀ v∈c.cells.toList,v.oneCell'=true) :
  (storeVar t ⟨b,off,none⟩ c).run E.P w=.ok () (w.setRow b ⟨vs.take off++c.cells.toList++vs.drop (off+c.cells.toList.length)⟩):=by
 obtain ⟨gH,u,e1,e2,e3,_⟩:=cj E hi
 have kT:=run_storeCells_at (P:=E.P) b off el c.cells.toList 0 ⟨vs⟩ w hb (by simpa using hl) h1
 have cP:c.cells.size=gH.size:=by rw [e3,← hs]; simp
 simp only [Nat.add_zero] at kT
 unfold storeVar
 simp only [Sem.run_bind,run_sizeOf w e1,Result.andThen_ok,Sem.run_ite,cP,ne_eq,not_true_eq_false,if_false]
 simpa using kT
theorem bn.D0 (h:bn E R w β s a) {id b k:Nat} {cs:List AV} (hb:nth R.obj id=some (.b7 b)) (hk:dv s.boxes k=some cs):β k≠b:=by
 intro e
 exact (h.b.box k cs hk).2.2 ⟨id,_,hb,by rw [e]; rfl⟩
theorem D1 (h:bn E R w β s a) (t:TypeId) (p x:Operand) (ho:o.op=.store t p x) (hd:o.dst=none) {s':St} (hs:jy E s t (bI E s.ah p) (bI E s.ah x)=some s') :
  bW E R w β s a o s':=by
 unfold jy at hs
 have rp:=aU h p
 have rx:=aU h x
 split at hs
 ·rename_i i v hi hx
  rw [hx] at rx
  split at hs
  ·rename_i fw
   simp only [Bool.and_eq_true] at fw
   obtain ⟨MZ,hlen⟩:=fw
   have hlen:=Nat.eq_of_beq_eq_true hlen
   obtain ⟨c1,c2⟩:=Rel.cells rx MZ
   have BH:v.cells.length=(a.eval x).cells.toList.length:=c1.length
   split at hs
   ·-- a local box
    rename_i k off Xn
    rw [Xn] at rp
    split at hs
    ·rename_i cs hk
     split at hs
     ·rename_i hle
      cases hs
      have hle:=Nat.le_of_ble_eq_true hle
      obtain ⟨⟨vs,el,b1,b2,b3⟩,b4,b5⟩:=h.b.box k cs hk
      have bG:=jQ (E:=E) (w:=w) hi (off:=off) (c:=a.eval x) b1 (by rw [← BH]; exact hlen) (by rw [← BH,← b2.length]; exact hle) c2
      have hex:=iV (R:=R) (w:=w) b4 ⟨vs.take off++(a.eval x).cells.toList++vs.drop (off+(a.eval x).cells.toList.length)⟩
      refine ⟨.skip,undef,w.setRow (β k) ⟨vs.take off++(a.eval x).cells.toList++vs.drop (off+(a.eval x).cells.toList.length)⟩,R,β,?_,.inr ⟨rfl,rfl⟩,?_,?_⟩
      ·simp [execOp,ho,Instr.storeAt,show a.eval p=.pointer (some ⟨β k,off,none⟩) from rp,Instr.sureAddr,bG]
      ·rw [hd]
       refine ⟨?_,?_,h.t.mono hex,h.n,h.d⟩
       ·exact h.g.bE hex rfl (fun b hb=>setRow_other w _ b _ (fun e=>b5 (e ▸ hb))) (fun _ _ _ hi=>hi) (fun b o hi=>by have:=h.g.wf b o hi; simp; omega)
       ·refine ⟨fun k' cs' iR=>?_,fun k1 k2 x1 x2 g1 g2=>?_⟩
        ·rcases eI iR with ⟨rfl,e⟩ | ⟨cP,Xo⟩
         ·cases e
          exact ⟨⟨_,el,setRow_heap w _ _ _ el (0,0) b1,(b2.bg c1 hle).mono hex,iW b3 c2⟩,b4,b5⟩
         ·obtain ⟨⟨vs',el',d1,d2,d3⟩,d4,d5⟩:=h.b.box k' cs' Xo
          refine ⟨⟨vs',el',?_,d2.mono hex,d3⟩,d4,d5⟩
          rw [setRow_other]
          ·exact d1
          ·exact fun e=>cP (h.b.inj k' k cs' cs Xo hk e).symm
        ·have q1:∃ y,dv s.boxes k1=some y:=by
          rcases eI g1 with ⟨rfl,_⟩ | ⟨_,g⟩
          ·exact ⟨_,hk⟩
          ·exact ⟨_,g⟩
         have q2:∃ y,dv s.boxes k2=some y:=by
          rcases eI g2 with ⟨rfl,_⟩ | ⟨_,g⟩
          ·exact ⟨_,hk⟩
          ·exact ⟨_,g⟩
         obtain ⟨y1,q1⟩:=q1
         obtain ⟨y2,q2⟩:=q2
         exact h.b.inj k1 k2 y1 y2 q1 q2
      ·have Av:Own R β s.boxes (β k):=.inr ⟨k,cs,hk,rfl⟩
       refine ⟨hex,rfl,rfl,rfl,by simp,fun b _ hn=>setRow_other w _ b _ (fun e=>hn (e ▸ Av)),fun b _ hb=>?_,fun b o hi _ _=>hi⟩
       rcases hb with hb | ⟨k',cs',iR,e⟩
       ·exact .inl hb
       ·rcases eI iR with ⟨rfl,_⟩ | ⟨_,g⟩
        ·exact .inr ⟨k,cs,hk,e⟩
        ·exact .inr ⟨k',cs',g,e⟩
     ·cases hs
    ·cases hs
   ·-- an object
    rename_i id off Xn
    rw [Xn] at rp
    split at hs
    ·rename_i cs hk
     split at hs
     ·rename_i hle
      cases hs
      have hle:=Nat.le_of_ble_eq_true hle
      have Xp:Rel R w (.ptr id off) (a.eval p):=rp
      generalize Xq:a.eval p=pv at Xp
      cases Xp with
      | @ptr _ _ b hb=>
      obtain ⟨vs,b1,b2,b3,b4⟩:=h.g.obj id _ _ hk hb
      have bG:=jQ (E:=E) (w:=w) hi (off:=off) (c:=a.eval x) b1 (by rw [← BH]; exact hlen) (by rw [← BH,← b2.length]; exact hle) c2
      have hex:=iV (R:=R) (w:=w) b4 ⟨vs.take off++(a.eval x).cells.toList++vs.drop (off+(a.eval x).cells.toList.length)⟩
      refine ⟨.skip,undef,w.setRow b ⟨vs.take off++(a.eval x).cells.toList++vs.drop (off+(a.eval x).cells.toList.length)⟩,R,β,?_,.inr ⟨rfl,rfl⟩,?_,?_⟩
      ·simp [execOp,ho,Instr.storeAt,Xq,Instr.sureAddr,bG]
      ·rw [hd]
       refine ⟨⟨?_,fun jw go ro hg hr=>?_,h.g.inj,fun b' o' sQ=>by have:=h.g.wf b' o' sQ; simp; omega,fun g cs' hg=>(h.g.cb g cs' hg).mono hex,by first | exact h.g.lo | exact Nat.le_succ_of_le h.g.lo⟩,?_,h.t.mono hex,h.n,h.d⟩
       ·simp [St.b9,h.g.len]
       ·rcases dp hg with ⟨rfl,rfl,_⟩ | ⟨cP,qv⟩
        ·rw [hb] at hr
         cases hr
         exact ⟨_,setRow_heap w _ _ _ _ (0,0) b1,(b2.bg c1 hle).mono hex,iW b3 c2,b4⟩
        ·refine (h.g.obj jw go ro qv hr).mono hex (fun b' kd=>setRow_other w _ b' _ (fun e=>cP ?_)) (fun _ _ _ hi=>hi)
         subst e
         exact h.g.inj id jw _ _ b' hb hr rfl kd
       ·exact h.b.bE hex (fun k cs' iR=>setRow_other w _ _ _ (h.D0 hb iR)) (fun _ _ _ _ hi=>hi) (fun _ _ _ hl=>hl)
      ·have Av:Own R β s.boxes b:=.inl ⟨id,_,hb,rfl⟩
       exact ⟨hex,rfl,rfl,rfl,by simp,fun b' _ hn=>setRow_other w _ b' _ (fun e=>hn (e ▸ Av)),fun _ _ hb=>hb,fun b o hi _ _=>hi⟩
     ·cases hs
    ·cases hs
   ·cases hs
  ·cases hs
 ·cases hs
end ops
end Go.Am
namespace Go.Am
open Go
section ops
variable {E:Env} {R:ao} {w:World} {β:Nat→Nat} {s:St} {a:Act} {o:Oper}
def ao.add (R:ao) (ro:RO):ao:=⟨R.I,R.obj++[ro]⟩
theorem gQ (wf:∀ b o,R.I b o→b < w.heap.size) (x:Obj) (ro:RO):Ext R w (R.add ro) (w.alloc x):=
 ⟨fun _ _ h=>h,fun b o h=>b8 (heap_alloc_old w x b (wf b o h)) o,fun _ r h=>⟨r,dq h,cD.refl r⟩,.old fun b hb=>heap_alloc_old w x b hb⟩
theorem ma {ro:RO} {b:Nat} (h:Live (R.add ro) b):Live R b∨ro.has b:=by
 obtain ⟨id,r,h1,h2⟩:=h
 rcases aA h1 with h1 | ⟨_,rfl⟩
 ·exact .inl ⟨id,r,h1,h2⟩
 ·exact .inr h2
theorem bn.lC (h:bn E R w β s a) (x:Obj) (go:GO) (ro:RO) (bR:∀ b,ro.has b→b=w.heap.size) (iq:gG (R.add ro) (w.alloc x) go ro):bn E (R.add ro) (w.alloc x) β (s.dN go) a where
 g:=by
  have e:=gQ (R:=R) (w:=w) h.g.wf x ro
  refine ⟨by simp [St.dN,ao.add,h.g.len],fun id g r h1 h2=>?_,fun i j ri rj b h1 h2 b1 b2=>?_,fun b o hi=>?_,fun g cs hg=>(h.g.cb g cs hg).mono e,by first | exact h.g.lo | exact Nat.le_succ_of_le h.g.lo⟩
  ·rcases aA h2 with h2 | ⟨h3,rfl⟩
   ·have bV:=bP h2
    rw [h.g.len] at bV
    rcases aA h1 with h1 | ⟨h4,_⟩
    ·exact (h.g.obj id g r h1 h2).mono e (fun b hb=>heap_alloc_old w x b (h.g.b6 ⟨id,r,h2,hb⟩)) (fun _ _ _ hi=>hi)
    ·omega
   ·rcases aA h1 with h1 | ⟨h4,rfl⟩
    ·have:=bP h1
     rw [h3,h.g.len] at this
     omega
    ·exact iq
  ·rcases aA h1 with g1 | ⟨h3,e1⟩
   ·rcases aA h2 with g2 | ⟨h4,e2⟩
    ·exact h.g.inj i j ri rj b g1 g2 b1 b2
    ·have:=h.g.b6 ⟨i,ri,g1,b1⟩
     rw [e2] at b2
     have:=bR b b2
     omega
   ·rcases aA h2 with g2 | ⟨h4,e2⟩
    ·have:=h.g.b6 ⟨j,rj,g2,b2⟩
     rw [e1] at b1
     have:=bR b b1
     omega
    ·omega
  ·have:=h.g.wf b o hi
   simp
   omega
 b:=h.b.bE (gQ h.g.wf x ro) (fun k cs hk=>heap_alloc_old w x _ (h.dY (.inr ⟨k,cs,hk,rfl⟩))) (fun _ _ _ _ hi=>hi) (fun k cs hk hl=>by
  rcases ma hl with hl | hl
  ·exact hl
  ·have:=h.dY (.inr ⟨k,cs,hk,rfl⟩)
   have hl:=bR _ hl
   omega)
 t:=h.t.mono (gQ h.g.wf x ro)
 n:=h.n
 d:=h.d.mono (gQ h.g.wf x ro)
theorem cV (h:bn E R w β s a) (x:Obj) (ro:RO) (bR:∀ b,ro.has b→b=w.heap.size):Step R w β s.boxes (R.add ro) (w.alloc x) β s.boxes:=
 ⟨gQ h.g.wf x ro,rfl,rfl,rfl,by simp,fun b hb _=>heap_alloc_old w x b hb,fun b hb ho=>by
  rcases ho with ho | ho
  ·rcases ma ho with ho | ho
   ·exact .inl ho
   ·have ho:=bR _ ho
    omega
  ·exact .inr ho,fun _ _ hi _ _=>hi⟩
theorem fZ (h:bn E R w β s a) (ro:RO):nth (R.add ro).obj s.G.length=some ro:=by
 rw [← h.g.len]
 exact eH _ _
theorem BV {f:FuncId} (h:bn E R w β s a) {v:AV} {c:Value} {t:TypeId} (hv:Rel R w v c) (hn:v.aX=true)
  (hx:(execOp a.eval o).run E.P w=.ok (.value (.pointer (some ⟨w.heap.size,0,none⟩))) (w.alloc (.cells c.cells t))) {s':St} (ha:eV E f s o.dst t v.cells=some (true,s')) :
  bW E R w β s a o s':=by
 obtain ⟨c1,c2⟩:=Rel.cells hv hn
 unfold eV at ha
 split at ha
 ·cases ha
 ·rename_i d hd
  split at ha
  ·-- an object
   cases ha
   have iq:gG (R.add (.b7 w.heap.size)) (w.alloc (.cells c.cells t)) (.row v.cells t) (.b7 w.heap.size):=
    ⟨c.cells.toList,heap_alloc_new w _,c1.mono (gQ h.g.wf _ _),c2,fun o' hi=>by have:=h.g.wf _ _ hi; omega⟩
   have cL:=h.lC (.cells c.cells t) (.row v.cells t) (.b7 w.heap.size) (by exact fun _ h=>h) iq
   refine ⟨_,.pointer (some ⟨w.heap.size,0,none⟩),_,R.add (.b7 w.heap.size),β,hx,.inl rfl,?_,?_⟩
   ·rw [hd]
    exact cL.put (some d) (x:=.v (.ptr s.G.length 0)) (Rel.ptr (fZ h _))
   ·rw [a8]
    exact cV h _ _ (by exact fun _ h=>h)
  ·split at ha
   ·rename_i hbx
    injection ha with ha
    injection ha with _ S9
    subst S9
    have e:=sR (R:=R) (w:=w) h.g.wf (.cells c.cells t)
    let β':Nat→Nat:=fun k=>if k=d then w.heap.size else β k
    have FV:β' d=w.heap.size:=by simp [β']
    have cP:∀ k,k≠d→β' k=β k:=fun k hk=>by simp [β',hk]
    have hdn:d < a.tmps.size:=by rw [h.n]; exact Nat.le_of_ble_eq_true hbx
    have D2:((s.kill d).uD d v.cells).put (some d) (.lp d 0)=⟨.put d (.lp d 0) :: .kill d :: s.ah,(d,v.cells) :: s.boxes,s.G,s.marks,s.ro,s.n⟩:=by
     simp only [St.put,St.uD,St.kill,hbx]
    refine ⟨_,.pointer (some ⟨w.heap.size,0,none⟩),_,R,β',hx,.inl rfl,?_,?_⟩
    ·rw [hd,D2]
     refine ⟨?_,⟨fun k cs hk=>?_,fun k k' cs cs' hk iR he=>?_⟩,?_,by simp [Act.put,h.n],h.d⟩
     ·exact h.g.bE e rfl (fun b hb=>heap_alloc_old w _ b (h.g.b6 hb)) (fun _ _ _ hi=>hi) (fun b o hi=>by have:=h.g.wf b o hi; simp; omega)
     ·rcases eI hk with ⟨rfl,he⟩ | ⟨M1,hk⟩
      ·cases he
       rw [FV]
       exact ⟨⟨c.cells.toList,t,heap_alloc_new w _,c1.mono e,c2⟩,fun o' hi=>by have:=h.g.wf _ _ hi; omega,fun hl=>by have:=h.g.b6 hl; omega⟩
      ·rw [cP k (Ne.symm M1)]
       obtain ⟨⟨vs,el,b1,b2,b3⟩,b4,b5⟩:=h.b.box k cs hk
       exact ⟨⟨vs,el,(heap_alloc_old w _ _ (bl b1)).trans b1,b2.mono e,b3⟩,b4,b5⟩
     ·rcases eI hk with ⟨rfl,_⟩ | ⟨M1,hk⟩
      ·rcases eI iR with ⟨rfl,_⟩ | ⟨Ta,iR⟩
       ·rfl
       ·rw [FV,cP k' (Ne.symm Ta)] at he
        have:=h.dY (.inr ⟨k',cs',iR,rfl⟩)
        omega
      ·rcases eI iR with ⟨rfl,_⟩ | ⟨Ta,iR⟩
       ·rw [FV,cP k (Ne.symm M1)] at he
        have:=h.dY (.inr ⟨k,cs,hk,rfl⟩)
        omega
       ·rw [cP k (Ne.symm M1),cP k' (Ne.symm Ta)] at he
        exact h.b.inj k k' cs cs' hk iR he
     ·intro i hi
      by_cases hdi:d=i
      ·subst hdi
       rw [aD]
       refine ⟨.pointer (some ⟨w.heap.size,0,none⟩),by simp [Act.put,hdn],?_⟩
       show Value.pointer _=_
       rw [FV]
      ·rw [aR hdi] at hi ⊢
       rcases FT (l:=s.ah) (d:=d) (t:=i) with ⟨h1,h2⟩ | h1
       ·rw [h1] at hi ⊢
        obtain ⟨c',q1,q2⟩:=h.t i hi
        refine ⟨c',?_,?_⟩
        ·simp only [Act.put]
         rw [Array.getElem?_setIfInBounds_ne hdi]
         exact q1
        ·cases rA:lk s.ah i with
         | none=>trivial
         | v y=>rw [rA] at q2; exact Rel.mono e q2
         | lp k off=>
          rw [rA] at q2
          show c'=_
          rw [cP k (h2 k off rA)]
          exact q2
       ·exact absurd h1 hi
    ·rw [D2]
     refine ⟨e,rfl,rfl,rfl,by simp,fun b hb _=>heap_alloc_old w _ b hb,fun b hb ho=>?_,fun _ _ hi _ _=>hi⟩
     rcases ho with ho | ⟨k,cs,hk,he⟩
     ·exact .inl ho
     ·rcases eI hk with ⟨rfl,_⟩ | ⟨M1,hk⟩
      ·rw [FV] at he
       omega
      ·rw [cP k (Ne.symm M1)] at he
       exact .inr ⟨k,cs,hk,he⟩
   ·cases ha
theorem dh {i:TypeInfo} {z:AV} (h:fU i=some z):∃ c,i.zero=some c∧∀ R w,Rel R w z c:=by
 unfold fU at h
 split at h
 ·rename_i c hc
  exact ⟨c,hc,fun R w=>tL h⟩
 ·cases h
theorem D3 {f:FuncId} (h:bn E R w β s a) (t:TypeId) (ho:o.op=.alloc t) {i:TI} {z:AV} (hi:E.ti t=some i) (hz:i.zero=some z) (hn:z.aX=true) {s':St} (ha:eV E f s o.dst t z.cells=some (true,s')) :
  bW E R w β s a o s':=by
 obtain ⟨gH,u,e1,e2,e3,e4,e5,e6⟩:=cj E hi
 rw [hz] at e6
 obtain ⟨c,hc,hr⟩:=dh e6
 refine BV h (hr R w) hn (t:=t) ?_ ha
 simp [execOp,ho,Instr.alloc,gI w e1 hc,vx]
theorem I8 {f:FuncId} (h:bn E R w β s a) (t:TypeId) (x:Operand) (ho:o.op=.box t x) {v:AV} (hv:bI E s.ah x=.v v) (hn:v.aX=true) {s':St} (ha:eV E f s o.dst t v.cells=some (true,s')) :
  bW E R w β s a o s':=by
 have hr:=aU h x
 rw [hv] at hr
 refine BV h hr hn (t:=t) ?_ ha
 simp [execOp,ho,Instr.box,vx]
end ops
end Go.Am
namespace Go.Am
open Go
section types
variable {P:Program}
theorem mR:∀ {fs:List Field} {l:List (Nat × Nat × Bool)},fieldsOf P fs=some l→∀ {j o sz:Nat} {ag:Bool},nth l j=some (o,sz,ag) →
  ∃ f fi u,fs[j]?=some f∧f.offset=o∧P.info? f.type=some fi∧fi.size=sz∧P.underlying f.type=some u∧jx u=ag
 | [],l,h,j,o,sz,ag,hn=>by simp [fieldsOf] at h; subst h; simp [nth] at hn
 | f :: fs,l,h,j,o,sz,ag,hn=>by
  unfold fieldsOf at h
  split at h
  ·rename_i i u r h1 h2 h3
   cases h
   cases j with
   | zero=>simp [nth] at hn; obtain ⟨e1,e2,e3⟩:=hn; exact ⟨f,i,u,by simp,e1,h1,e2,h2,e3⟩
   | succ j=>
    obtain ⟨f',fi,u',g1,g2⟩:=mR h3 (show nth r j=some (o,sz,ag) from hn)
    exact ⟨f',fi,u',by simpa using g1,g2⟩
  ·cases h
theorem nL:∀ {fs:List Field} {l:List (Nat × Nat × Bool)},fieldsOf P fs=some l→fs.mapM (fun f=>(P.info? f.type).map fun i=>(f.offset,i.size))=some (l.map fun x=>(x.1,x.2.1))
 | [],l,h=>by simp [fieldsOf] at h; subst h; simp
 | f :: fs,l,h=>by
  unfold fieldsOf at h
  split at h
  ·rename_i i u r h1 h2 h3
   cases h
   simp [List.mapM_cons,h1,nL h3]
  ·cases h
theorem FW {u:TypeDesc} {l:List (Nat × Nat × Bool)} (h:pQ P u=some (.st l)):∃ fs,u=.struct fs∧fieldsOf P fs.toList=some l:=by
 cases u <;> simp only [pQ] at h <;> try (cases h; done)
 all_goals (try (split at h <;> cases h; done))
 rename_i fs
 split at h
 ·rename_i l' hl
  cases h
  exact ⟨fs,rfl,hl⟩
 ·cases h
theorem n9 {u:TypeDesc} {n esz:Nat} {ag:Bool} (h:pQ P u=some (.arr n esz ag)):∃ e i ue,u=.array n e∧P.info? e=some i∧i.size=esz∧P.underlying e=some ue∧jx ue=ag:=by
 cases u <;> simp only [pQ] at h <;> try (cases h; done)
 all_goals (try (split at h <;> cases h; done))
 rename_i m e
 split at h
 ·rename_i i ue h1 h2
  cases h
  exact ⟨e,i,ue,rfl,h1,rfl,h2,rfl⟩
 ·cases h
theorem dI {u:TypeDesc} {e esz oa:Nat} {ag:Bool} {z:Option AV} (h:pQ P u=some (.sl e esz ag oa z)) :
  ∃ i ue,u=.slice e∧P.info? e=some i∧i.size=esz∧i.bytes=oa∧P.underlying e=some ue∧jx ue=ag∧fU i=z:=by
 cases u <;> simp only [pQ] at h <;> try (cases h; done)
 all_goals (try (split at h <;> cases h; done))
 rename_i e'
 split at h
 ·rename_i i ue h1 h2
  injection h with h
  injection h with g1 g2 g3 g4 g5
  subst g1; subst g2; subst g3; subst g4; subst g5
  exact ⟨i,ue,rfl,h1,rfl,rfl,h2,rfl,rfl⟩
 ·cases h
theorem ke {u:TypeDesc} (h:pQ P u=some .str):u=.string:=by
 cases u <;> simp only [pQ] at h <;> try (cases h; done)
 all_goals (try (split at h <;> cases h; done))
 rfl
theorem rB {u:TypeDesc} {k:IntKind} (h:pQ P u=some (.int k)):u=.int k:=by
 cases u <;> simp only [pQ] at h <;> try (cases h; done)
 all_goals (try (split at h <;> cases h; done))
 cases h
 rfl
theorem mb {u:TypeDesc} {k e:TypeId} {z:Option AV} (h:pQ P u=some (.map k e z)):u=.map k e∧∃ i,P.info? e=some i∧fU i=z:=by
 cases u <;> simp only [pQ] at h <;> try (cases h; done)
 all_goals (try (split at h <;> cases h; done))
 split at h
 ·rename_i i h1
  cases h
  exact ⟨rfl,i,h1,rfl⟩
 ·cases h
end types
section ops
variable {E:Env} {R:ao} {w:World} {β:Nat→Nat} {s:St} {a:Act} {o:Oper}
theorem zj {p q:SV} {c:Value} {n:Nat} (hp:pS R w β p c) (hm:zb n p=some q) :
  ∃ b o,c=.pointer (some ⟨b,o,none⟩)∧pS R w β q (.pointer (some ⟨b,o+n,none⟩)):=by
 unfold zb at hm
 split at hm
 ·cases hm
  exact ⟨_,_,hp,rfl⟩
 ·cases hm
  cases hp with
  | @ptr _ _ b hb=>exact ⟨b,_,rfl,Rel.ptr hb⟩
 ·cases hm
  cases hp with
  | @ep _ b o hr=>
   refine ⟨b,o,rfl,Rel.ep ?_⟩
   rw [vv]
   exact hr.drop n
 ·cases hm
  cases hp with
  | @gp _ _ _ _ _ b o _ ro hr eB=>
   refine ⟨b,o,rfl,Rel.gp hr ?_⟩
   cases ro with
   | none=>trivial
   | bJ=>exact eB.elim
   | b7 _=>exact eB.elim
   | bk _=>exact eB.elim
   | tok f1 b1 c1=>exact ⟨eB.1,fun e=>⟨(eB.2 e).1,by rw [(eB.2 e).2,Nat.add_assoc]⟩⟩
 ·cases hm
theorem vz (h:bn E R w β s a) (t:TypeId) (x:Operand) (j:Nat) (ho:o.op=.fieldAddr t x j) {q:SV} (hq:kb E t (bI E s.ah x) j=some q) :
  bW E R w β s a o (s.put o.dst q):=by
 unfold kb at hq
 split at hq
 ·rename_i i hi
  split at hq
  ·rename_i fs hk
   split at hq
   ·rename_i off sz ag hn
    split at hq
    ·rename_i eC
     have eC:=Nat.le_of_ble_eq_true eC
     obtain ⟨gH,u,e1,e2,e3,e4,e5,e6⟩:=cj E hi
     rw [hk] at e5
     obtain ⟨fl,rfl,hf⟩:=FW e5
     obtain ⟨f,fi,u',g1,g2,g3,g4,g5,g6⟩:=mR hf hn
     obtain ⟨b,o',m1,m2⟩:=zj (aU h x) hq
     refine ax h ?_ m2
     have g1':fl[j]?=some f:=by simpa using g1
     have cP:¬ fi.size=0:=by omega
     simp [execOp,ho,Instr.fieldAt,run_underlying e2,g1',m1,Instr.sureAddr,fieldPlace,run_sizeOf w g3,cP,cF,g2]
    ·cases hq
   ·cases hq
  ·cases hq
 ·cases hq
theorem BW {b o sz:Nat} {es:List AV} (h:fY R w b o sz es) {n:Nat} {e:AV} (hn:nth es n=some e):dO R w b (o+n * sz) e.cells∧e.cells.length=sz∧e.aX=true:=by
 induction es generalizing o n with
 | nil=>simp [nth] at hn
 | cons x l ih=>
  cases h with
  | cons hl ht _ h t=>
   cases n with
   | zero=>simp [nth] at hn; subst hn; exact ⟨by simpa using h,hl,ht⟩
   | succ n=>
    have:=ih t (show nth l n=some e from hn)
    rw [show o+sz+n * sz=o+(n+1) * sz by rw [Nat.add_mul]; omega] at this
    exact this
theorem vA (h:bn E R w β s a) (t:TypeId) (x ix:Operand) (ho:o.op=.indexAddr t x ix) {q:SV} (hq:ka E t (bI E s.ah x) (bI E s.ah ix)=some (true,q)) :
  bW E R w β s a o (s.put o.dst q):=by
 have rx:=aU h x
 have ri:=aU h ix
 unfold ka at hq
 split at hq
 ·rename_i i k n hi Xr
  rw [Xr] at ri
  have RS:Rel R w (.int k n) (a.eval ix):=ri
  generalize M2:a.eval ix=iv at RS
  cases RS
  obtain ⟨gH,u,e1,e2,e3,e4,e5,e6⟩:=cj E hi
  split at hq
  ·-- a list
   rename_i elem esz ag oa z kk sz es hk hx
   rw [hx] at rx
   rw [hk] at e5
   obtain ⟨ie,ue,rfl,f1,f2,f3,f4,f5,f6⟩:=dI e5
   split at hq
   ·rename_i hc
    have key:∀ (u:AV),(0≤n∧n < (es.length:Int))→cK (af es n.toNat).cells u.cells→bW E R w β s a o (s.put o.dst (.v (.ep u.cells))):=fun u vB hu=>by
     obtain ⟨Aw,IR⟩:=vB
     have dJ:Rel R w (.list kk sz es) (a.eval x):=rx
     generalize fj:a.eval x=xv at dJ
     cases dJ with
     | jA=>simp at IR; omega
     | iU=>simp at IR; omega
     | mN=>simp at IR; omega
     | lZ=>simp at IR; omega
     | lA=>simp at IR; omega
     | @list _ _ _ b o' len cap hr hl gW I9=>
      subst hl
      have bV:n.toNat < es.length:=by omega
      obtain ⟨e,he⟩:∃ e,nth es n.toNat=some e:=⟨es[n.toNat],by rw [bc]; exact List.getElem?_eq_getElem bV⟩
      have eC:sz=esz:=by
       simp only [Bool.or_eq_true] at hc
       rcases hc with hc | hc
       ·exact Nat.eq_of_beq_eq_true hc
       ·cases es with
        | nil=>simp at bV
        | cons _ _=>simp at hc
      obtain ⟨g1,_,_⟩:=BW hr he
      refine ax h (c:=.pointer (some ⟨b,o'+n.toNat * sz,none⟩)) ?_ ?_
      ·have fw:0≤n∧n < (es.length:Int):=⟨Aw,IR⟩
       simp [execOp,ho,Instr.indexAt,M2,fj,asIntOf,run_underlying e2,fw,run_sizeOf w f1,f2,eC,cF]
      ·have:af es n.toNat=e:=by simp [af,he]
       rw [this] at hu
       exact .ep (hu.I5 g1)
    split at hq
    ·rename_i p hp
     injection hq with hq
     injection hq with vB od
     subst od
     rw [Bool.and_eq_true] at vB
     have fw:=of_decide_eq_true vB.1
     have hd:=p.cT vB.2
     have bV:n.toNat < es.length:=by omega
     refine key _ fw (hd.cells ?_)
     obtain ⟨e,he⟩:∃ e,nth es n.toNat=some e:=⟨es[n.toNat],by rw [bc]; exact List.getElem?_eq_getElem bV⟩
     have:af es n.toNat=e:=by simp [af,he]
     rw [this]
     have dJ:Rel R w (.list kk sz es) (a.eval x):=rx
     generalize a.eval x=xv at dJ
     cases dJ with
     | jA=>simp at bV
     | iU=>simp at bV
     | mN=>simp at bV
     | lZ=>simp at bV
     | lA=>simp at bV
     | list hr _ _ _=>exact (BW hr he).2.2
    ·injection hq with hq
     injection hq with vB od
     subst od
     exact key _ (of_decide_eq_true vB) (cK.refl _)
   ·cases hq
  ·-- a heap slice
   rename_i elem esz ag oa z id off sz len cap hk hx
   rw [hx] at rx
   rw [hk] at e5
   obtain ⟨ie,ue,rfl,f1,f2,f3,f4,f5,f6⟩:=dI e5
   split at hq
   ·rename_i hc
    have eC:=Nat.eq_of_beq_eq_true hc
    injection hq with hq
    injection hq with vB od
    subst od
    have fw:=of_decide_eq_true vB
    have dJ:Rel R w (.jO id off sz len cap) (a.eval x):=rx
    generalize fj:a.eval x=xv at dJ
    cases dJ with
    | @jO _ _ _ _ _ b hb _=>
     refine ax h (c:=.pointer (some ⟨b,off+n.toNat * sz,none⟩)) ?_ (Rel.ptr hb)
     simp [execOp,ho,Instr.indexAt,M2,fj,asIntOf,run_underlying e2,fw,run_sizeOf w f1,f2,eC,cF]
   ·cases hq
  ·-- a slice that grows
   rename_i elem esz ag oa z id f' off sz len hk hx
   rw [hx] at rx
   rw [hk] at e5
   obtain ⟨ie,ue,rfl,f1,f2,f3,f4,f5,f6⟩:=dI e5
   split at hq
   ·rename_i hc
    have eC:=Nat.eq_of_beq_eq_true hc
    injection hq with hq
    injection hq with vB od
    subst od
    have fw:=of_decide_eq_true vB
    have dJ:Rel R w (.dH id f' off sz len) (a.eval x):=rx
    generalize fj:a.eval x=xv at dJ
    cases dJ with
    | iN _ _=>omega
    | @dH _ _ _ _ _ cap b o' ro bR eB gW=>
     refine ax h (c:=.pointer (some ⟨b,o'+n.toNat * sz,none⟩)) ?_ (Rel.gp bR ?_)
     ·simp [execOp,ho,Instr.indexAt,M2,fj,asIntOf,run_underlying e2,fw,run_sizeOf w f1,f2,eC,cF]
     ·cases ro with
      | none=>trivial
      | bJ=>exact eB.elim
      | b7 _=>exact eB.elim
      | bk _=>exact eB.elim
      | tok f1 b1 c1=>
       refine ⟨eB.1,fun e=>?_⟩
       obtain ⟨k1,k2,k3⟩:=eB.2 e
       refine ⟨k1,?_⟩
       rcases k3 with k3 | k3
       ·rw [k3,Nat.add_zero,Nat.add_mul]
       ·omega
   ·cases hq
  ·-- an array that is never written
   rename_i len esz ag cs hk hx
   rw [hx] at rx
   rw [hk] at e5
   obtain ⟨e,ie,ue,rfl,f1,f2,f3,f4⟩:=n9 e5
   have dJ:Rel R w (.ep cs) (a.eval x):=rx
   generalize fj:a.eval x=xv at dJ
   cases dJ with
   | @ep _ b o' hr=>
    split at hq
    ·rename_i p hp
     split at hq
     ·rename_i hc
      rw [Bool.and_eq_true] at hc
      have hz:=Nat.eq_of_beq_eq_true hc.1
      have hl:=Nat.le_of_ble_eq_true hc.2
      injection hq with hq
      injection hq with vB od
      subst od
      rw [Bool.and_eq_true] at vB
      have fw:=of_decide_eq_true vB.1
      have hd:=p.cT vB.2
      have bV:n.toNat < cs.length:=by omega
      have hdr:=hr.drop n.toNat
      rw [List.drop_eq_getElem_cons bV] at hdr
      have hn:af cs n.toNat=cs[n.toNat]:=by
       unfold af
       rw [bc,List.getElem?_eq_getElem bV]
      rw [hn] at hd ⊢
      refine ax h (c:=.pointer (some ⟨b,o'+n.toNat * esz,none⟩)) ?_ ?_
      ·simp [execOp,ho,Instr.indexAt,M2,fj,Instr.sureAddr,asIntOf,run_underlying e2,fw,run_sizeOf w f1,f2,cF]
      ·subst hz
       rw [Nat.mul_one]
       cases hdr with
       | cons hc h1 hi dZ t=>exact .ep (.cons hc h1 hi (hd.1 _ _ _ dZ) .nil)
     ·cases hq
    ·injection hq with hq
     injection hq with vB od
     subst od
     have fw:=of_decide_eq_true vB
     refine ax h (c:=.pointer (some ⟨b,o'+n.toNat * esz,none⟩)) ?_ ?_
     ·simp [execOp,ho,Instr.indexAt,M2,fj,Instr.sureAddr,asIntOf,run_underlying e2,fw,run_sizeOf w f1,f2,cF]
     ·rw [vv]
      exact .ep (hr.drop _)
  ·-- an array
   rename_i len esz ag hk _
   rw [hk] at e5
   obtain ⟨e,ie,ue,rfl,f1,f2,f3,f4⟩:=n9 e5
   split at hq
   ·rename_i q' hm
    injection hq with hq
    injection hq with vB od
    subst od
    have fw:=of_decide_eq_true vB
    obtain ⟨b,o',m1,m2⟩:=zj rx hm
    refine ax h ?_ m2
    simp [execOp,ho,Instr.indexAt,M2,m1,Instr.sureAddr,asIntOf,run_underlying e2,fw,run_sizeOf w f1,f2,cF]
   ·cases hq
  ·cases hq
 ·cases hq
theorem mc {t:TypeId} {i:TypeInfo} {u:TypeDesc} (h1:E.P.info? t=some i) (h2:E.P.underlying t=some u) {off:Nat} {cs l:List AV} {vs:List Value} {v:AV} (hr:aM R w cs vs) (h3:∀ x∈vs,x.oneCell'=true)
  (Ax:jx u=true→FO off i.size cs=some l∧sJ true l=some v) (Tb:jx u=false→FO off 1 cs=some l∧sJ false l=some v) :
  ∃ c,(part t ⟨vs⟩ off).run E.P w=.ok c w∧Rel R w v c:=by
 unfold part
 simp only [Sem.run_bind,zi w h2,Result.andThen_ok]
 cases ha:jx u with
 | true=>
  obtain ⟨g1,g2⟩:=Ax ha
  obtain ⟨k1,k2,k3,k4⟩:=po g1 hr h3
  obtain ⟨m1,_⟩:=vy g2 k2 k3
  refine ⟨_,?_,m1 rfl⟩
  have:(⟨vs⟩:Array Value).extract off (off+i.size)=⟨(vs.drop off).take i.size⟩:=by
   apply Array.ext'
   simp [List.extract_eq_take_drop]
  simp [run_sizeOf w h1]
 | false=>
  obtain ⟨g1,g2⟩:=Tb ha
  obtain ⟨k1,k2,k3,k4⟩:=po g1 hr h3
  obtain ⟨_,m2⟩:=vy g2 k2 k3
  obtain ⟨c,hc,dZ⟩:=m2 rfl
  refine ⟨c,?_,dZ⟩
  have h0:=k4 0 c (by rw [hc]; simp)
  simp only [Nat.add_zero] at h0
  simp [h0]
theorem D4 (h:bn E R w β s a) (t:TypeId) (x:Operand) (j:Nat) (ho:o.op=.field t x j) {v:AV} (hq:DR E t (bI E s.ah x) j=some v) :
  bW E R w β s a o (s.put o.dst (.v v)):=by
 have rx:=aU h x
 unfold DR at hq
 split at hq
 ·rename_i i cs hi hx
  rw [hx] at rx
  have dJ:Rel R w (.agg cs) (a.eval x):=rx
  generalize fj:a.eval x=xv at dJ
  cases dJ with
  | @agg _ vs hr h1=>
  split at hq
  ·rename_i fs hk
   split at hq
   ·rename_i off sz ag hn
    obtain ⟨gH,u,e1,e2,e3,e4,e5,e6⟩:=cj E hi
    rw [hk] at e5
    obtain ⟨fl,rfl,hf⟩:=FW e5
    obtain ⟨f,fi,u',g1,g2,g3,g4,g5,g6⟩:=mR hf hn
    have key:∃ c,(part f.type ⟨vs⟩ off).run E.P w=.ok c w∧Rel R w v c:=by
     split at hq
     ·rename_i Ax
      split at hq
      ·rename_i l hl
       exact mc g3 g5 (l:=l) hr h1 (fun _=>⟨by rw [g4]; exact hl,hq⟩) (fun hf=>by rw [g6,Ax] at hf; cases hf)
      ·cases hq
     ·rename_i Ax
      split at hq
      ·rename_i l hl
       exact mc g3 g5 (l:=l) hr h1 (fun hf=>by rw [g6] at hf; exact absurd hf Ax) (fun _=>⟨hl,hq⟩)
      ·cases hq
    obtain ⟨c,k1,k2⟩:=key
    refine ax h ?_ k2
    have g1':fl[j]?=some f:=by simpa using g1
    simp [execOp,ho,Instr.field,run_underlying e2,g1',fj,asAgg,g2,k1]
   ·cases hq
  ·cases hq
 ·cases hq
theorem D5 (h:bn E R w β s a) (t:TypeId) (x ix:Operand) (ho:o.op=.index t x ix) {v:AV} (hq:DS E t (bI E s.ah x) (bI E s.ah ix)=some (true,v)) :
  bW E R w β s a o (s.put o.dst (.v v)):=by
 have rx:=aU h x
 have ri:=aU h ix
 unfold DS at hq
 split at hq
 ·rename_i i l k n hi hx Xr
  rw [hx] at rx
  rw [Xr] at ri
  have RS:Rel R w (.int k n) (a.eval ix):=ri
  have dJ:Rel R w (.str l) (a.eval x):=rx
  generalize M2:a.eval ix=iv at RS
  generalize fj:a.eval x=xv at dJ
  cases RS
  cases dJ
  obtain ⟨gH,u,e1,e2,e3,e4,e5,e6⟩:=cj E hi
  split at hq
  ·rename_i hk
   rw [hk] at e5
   have:=ke e5
   subst this
   injection hq with hq
   injection hq with vB od
   subst od
   obtain ⟨Aw,IR⟩:=of_decide_eq_true vB
   have bV:n.toNat < l.length:=by omega
   refine ax h (c:=.int .u8 (l.getD n.toNat 0).toNat) ?_ (Rel.int _ _)
   have jR:(⟨⟨l⟩⟩:ByteArray)[n.toNat]?=some (l.getD n.toNat 0):=by
    have hs:n.toNat < (⟨⟨l⟩⟩:ByteArray).size:=bV
    rw [getElem?_pos (⟨⟨l⟩⟩:ByteArray) n.toNat hs]
    congr 1
    simp [List.getD,List.getElem?_eq_getElem bV]
    rfl
   simp [execOp,ho,Instr.index,M2,fj,asIntOf,run_underlying e2,Aw,jR]
  ·cases hq
 ·rename_i i cs k n hi hx Xr
  rw [hx] at rx
  rw [Xr] at ri
  have RS:Rel R w (.int k n) (a.eval ix):=ri
  have dJ:Rel R w (.agg cs) (a.eval x):=rx
  generalize M2:a.eval ix=iv at RS
  generalize fj:a.eval x=xv at dJ
  cases RS
  cases dJ with
  | @agg _ vs hr h1=>
  obtain ⟨gH,u,e1,e2,e3,e4,e5,e6⟩:=cj E hi
  split at hq
  ·rename_i len esz ag hk
   rw [hk] at e5
   obtain ⟨e,ie,ue,rfl,f1,f2,f3,f4⟩:=n9 e5
   split at hq
   ·rename_i v' Tc
    injection hq with hq
    injection hq with vB od
    subst od
    have fw:=of_decide_eq_true vB
    have key:∃ c,(part e ⟨vs⟩ (n.toNat * esz)).run E.P w=.ok c w∧Rel R w v' c:=by
     split at Tc
     ·rename_i Ax
      split at Tc
      ·rename_i l hl
       exact mc f1 f3 (l:=l) hr h1 (fun _=>⟨by rw [f2]; exact hl,Tc⟩) (fun hf=>by rw [f4,Ax] at hf; cases hf)
      ·cases Tc
     ·rename_i Ax
      split at Tc
      ·rename_i l hl
       exact mc f1 f3 (l:=l) hr h1 (fun hf=>by rw [f4] at hf; exact absurd hf Ax) (fun _=>⟨hl,Tc⟩)
      ·cases Tc
    obtain ⟨c,k1,k2⟩:=key
    refine ax h ?_ k2
    simp [execOp,ho,Instr.index,M2,fj,asIntOf,run_underlying e2,fw,run_sizeOf w f1,f2,k1]
   ·cases hq
  ·cases hq
 ·cases hq
theorem Ay (h:bn E R w β s a) (x:Operand) (j:Nat) (ho:o.op=.extract x j) {vs:List AV} {v:AV} (hx:bI E s.ah x=.v (.bi vs)) (hn:nth vs j=some v) :
  bW E R w β s a o (s.put o.dst (.v v)):=by
 have rx:=aU h x
 rw [hx] at rx
 have dJ:Rel R w (.bi vs) (a.eval x):=rx
 generalize fj:a.eval x=xv at dJ
 cases dJ with
 | @bi _ us hr=>
 rw [bc] at hn
 obtain ⟨c,h1,h2⟩:=hr.get hn
 refine ax h ?_ h2
 simp [execOp,ho,Instr.extract,fj,h1]
theorem gd (h:bn E R w β s a):∀ {l:List Operand} {vs:List AV},lS E s.ah l=some vs→aM R w vs (l.map a.eval)
 | [],vs,hl=>by simp [lS] at hl; subst hl; exact .nil
 | x :: l,vs,hl=>by
  unfold lS at hl
  split at hl
  ·rename_i v r h1 h2
   cases hl
   have:=aU h x
   rw [h1] at this
   exact .cons this (gd h h2)
  ·cases hl
theorem yA (h:bn E R w β s a) (g:FuncId) (x y:Array Operand) (ho:o.op=.makeFunc (.func g) x y) {p q:List AV} (hp:lS E s.ah x.toList=some p) (hq:lS E s.ah y.toList=some q) :
  bW E R w β s a o (s.put o.dst (.v (.fn g p q))):=by
 have h1:=gd h hp
 have h2:=gd h hq
 refine ax h (c:=.func (.func g) ⟨x.toList.map a.eval⟩ ⟨y.toList.map a.eval⟩) ?_ (Rel.fn h1 h2)
 have e1:x.map a.eval=⟨x.toList.map a.eval⟩:=Array.ext' (by simp)
 have e2:y.map a.eval=⟨y.toList.map a.eval⟩:=Array.ext' (by simp)
 simp [execOp,ho,Instr.makeFunc,e1,e2]
end ops
end Go.Am
namespace Go.Am
open Go
section ops
variable {E:Env} {R:ao} {w:World} {β:Nat→Nat} {s:St} {a:Act} {o:Oper}
theorem size_bytes (l:List UInt8):(⟨⟨l⟩⟩:ByteArray).size=l.length:=rfl
theorem rC (l:List UInt8):(⟨⟨l⟩⟩:ByteArray).toList=l:=by rw [ByteArray.toList_eq]
theorem Az (l r:List UInt8):((⟨⟨l⟩⟩:ByteArray)++⟨⟨r⟩⟩)=⟨⟨l++r⟩⟩:=by
 apply ByteArray.ext
 rw [ByteArray.data_append]
 simp
theorem Hp (op:BinOp) (t:TypeId) (x y:Operand) (k k':IntKind) (n m:Int):(eqGuard op t x y (.int k n) (.int k' m)).run E.P w=.ok () w:=by
 unfold eqGuard
 cases op <;> rfl
theorem Hq (op:BinOp) (t:TypeId) (x y:Operand) (n m:ByteArray):(eqGuard op t x y (.string n) (.string m)).run E.P w=.ok () w:=by
 unfold eqGuard
 cases op <;> rfl
theorem D6 (h:bn E R w β s a) (op:BinOp) (t u:TypeId) (x y:Operand) (ho:o.op=.binOp op t x y u) {p q v:AV} (hx:bI E s.ah x=.v p) (hy:bI E s.ah y=.v q) (hv:BS op p q=some (true,v)) :
  bW E R w β s a o (s.put o.dst (.v v)):=by
 have rx:=aU h x
 have ry:=aU h y
 rw [hx] at rx
 rw [hy] at ry
 have dJ:Rel R w p (a.eval x):=rx
 have pZ:Rel R w q (a.eval y):=ry
 have key:∃ c,(do eqGuard op t x y (a.eval x) (a.eval y); binOp op t (a.eval x) (a.eval y):Sem Value).run E.P w=.ok c w∧Rel R w v c:=by
  generalize fj:a.eval x=xv at dJ
  generalize Xs:a.eval y=yv at pZ
  unfold BS at hv
  split at hv
  ·rename_i k n k' m
   cases dJ
   cases pZ
   simp only [Sem.run_bind,Hp,Result.andThen_ok]
   split at hv
   ·injection hv with hv
    injection hv with h1 h2
    subst h2
    have hm:=of_decide_eq_true h1
    have Td:¬ m < 0:=by omega
    exact ⟨.int k (k.wrap (n * 2 ^ (min m.toNat k.bits))),by simp [binOp,Op.shift,Td],.int _ _⟩
   ·injection hv with hv
    injection hv with h1 h2
    subst h2
    have hm:=of_decide_eq_true h1
    have Td:¬ m < 0:=by omega
    exact ⟨.int k (n.fdiv (2 ^ (min m.toNat k.bits))),by simp [binOp,Op.shift,Td],.int _ _⟩
   ·rename_i FX hs2
    split at hv
    ·rename_i I9
     subst I9
     split at hv
     ·cases hv; exact ⟨.int k (k.wrap (n+m)),by simp [binOp,Op.intArith],.int _ _⟩
     ·cases hv; exact ⟨.int k (k.wrap (n - m)),by simp [binOp,Op.intArith],.int _ _⟩
     ·cases hv; exact ⟨.int k (k.wrap (n * m)),by simp [binOp,Op.intArith],.int _ _⟩
     ·injection hv with hv
      injection hv with h1 h2
      subst h2
      have hm:¬ m=0:=by simpa using h1
      exact ⟨.int k (k.wrap (n.tdiv m)),by simp [binOp,Op.intDiv,hm],.int _ _⟩
     ·injection hv with hv
      injection hv with h1 h2
      subst h2
      have hm:¬ m=0:=by simpa using h1
      exact ⟨.int k (n.tmod m),by simp [binOp,Op.intDiv,hm],.int _ _⟩
     ·cases hv; exact ⟨.int k (Hd k n m),by simp [binOp,Op.intBits,Hd],.int _ _⟩
     ·cases hv; exact ⟨.int k (orI k n m),by simp [binOp,Op.intBits,orI],.int _ _⟩
     ·cases hv; exact ⟨.int k (He k n m),by simp [binOp,Op.intBits,He],.int _ _⟩
     ·cases hv; exact ⟨.bool (n == m),by simp [binOp,Op.intCmp],.bool _⟩
     ·cases hv; exact ⟨.bool (n != m),by simp [binOp,Op.intCmp],.bool _⟩
     ·cases hv; exact ⟨.bool (decide (n < m)),by simp [binOp,Op.intCmp],.bool _⟩
     ·cases hv; exact ⟨.bool (decide (n≤m)),by simp [binOp,Op.intCmp],.bool _⟩
     ·cases hv; exact ⟨.bool (decide (n > m)),by simp [binOp,Op.intCmp],.bool _⟩
     ·cases hv; exact ⟨.bool (decide (n≥m)),by simp [binOp,Op.intCmp],.bool _⟩
     ·cases hv
    ·cases hv
  ·rename_i l r
   cases dJ
   cases pZ
   simp only [Sem.run_bind,Hq,Result.andThen_ok]
   split at hv
   ·injection hv with hv
    injection hv with h1 h2
    subst h2
    have hm:=of_decide_eq_true h1
    refine ⟨.string ⟨⟨l++r⟩⟩,?_,.str _⟩
    have Te:¬ ((l.length+r.length:Nat):Int) > IntKind.i64.max:=by
     have:IntKind.i64.max=9223372036854775807:=by decide
     omega
    simp only [binOp,Op.stringOp,size_bytes,if_neg Te,Az,Sem.run_pure]
   ·cases hv; exact ⟨.bool (l == r),by simp [binOp,Op.stringOp],.bool _⟩
   ·cases hv; exact ⟨.bool (!(l == r)),by simp [binOp,Op.stringOp],.bool _⟩
   ·cases hv; exact ⟨.bool (Op.bytesLess l r),by simp [binOp,Op.stringOp],.bool _⟩
   ·cases hv; exact ⟨.bool (Op.bytesLess l r || l == r),by simp [binOp,Op.stringOp],.bool _⟩
   ·cases hv; exact ⟨.bool (!(Op.bytesLess l r || l == r)),by simp [binOp,Op.stringOp],.bool _⟩
   ·cases hv; exact ⟨.bool (!(Op.bytesLess l r)),by simp [binOp,Op.stringOp],.bool _⟩
   ·cases hv
  ·cases hv
 obtain ⟨c,k1,k2⟩:=key
 refine ax h (c:=c) ?_ k2
 simp only [Sem.run_bind] at k1
 simp only [execOp,ho,Sem.run_bind,k1,Result.andThen_ok,Sem.run_pure]
theorem j4 {t:TypeId} {i:TypeInfo} {u:TypeDesc} (h1:E.P.info? t=some i) (h2:E.P.underlying t=some u) {off:Nat} {cs:List AV} {vs:List Value} {v:AV} (hr:aM R w cs vs) (h3:∀ x∈vs,x.oneCell'=true)
  (h:FQ (jx u) off i.size cs=some v):∃ c,(part t ⟨vs⟩ off).run E.P w=.ok c w∧Rel R w v c:=by
 unfold FQ at h
 cases ha:jx u with
 | true=>
  rw [ha] at h
  simp only [if_true] at h
  split at h
  ·rename_i l hl
   exact mc h1 h2 hr h3 (fun _=>⟨hl,h⟩) (fun e=>by rw [ha] at e; cases e)
  ·cases h
 | false=>
  rw [ha] at h
  simp only [Bool.false_eq_true,if_false] at h
  split at h
  ·rename_i l hl
   exact mc h1 h2 hr h3 (fun e=>by rw [ha] at e; cases e) (fun _=>⟨hl,h⟩)
  ·cases h
theorem BX {ek:TypeId→EK} {d:Nat} (ih:∀ (t:TypeId) (a b:AV) (r:Bool) (x y:Value),kS (ek t) a b=some r→Rel R w a x→Rel R w b y→(Op.equalIn d t x y).run E.P w=.ok r w) {xs ys:List AV} {vs us:List Value}
  (hx:aM R w xs vs) (uF:∀ x∈vs,x.oneCell'=true) (hy:aM R w ys us) (Nr:∀ x∈us,x.oneCell'=true) :
  ∀ (fs:List Field) (l:S2) (r:Bool),DQ E.P ek fs=some l→sK l xs ys=some r→(Op.eqFields d ⟨vs⟩ ⟨us⟩ fs).run E.P w=.ok r w
 | [],l,r,hl,hr=>by
  simp [DQ] at hl
  subst hl
  simp [sK] at hr
  subst hr
  rfl
 | f :: fs,l,r,hl,hr=>by
  unfold DQ at hl
  split at hl
  ·cases hl
  ·rename_i hn
   split at hl
   ·rename_i i u l' h1 h2 h3
    cases hl
    unfold sK at hr
    split at hr
    ·rename_i a b ha hb
     split at hr
     ·rename_i p q hp hq
      cases hr
      obtain ⟨c,k1,k2⟩:=j4 h1 h2 hx uF ha
      obtain ⟨c',k3,k4⟩:=j4 h1 h2 hy Nr hb
      have cP : f.name ≠ "_" := by simpa using hn
      have he:=ih f.type a b p c c' hp k2 k4
      have vC:=BX ih hx uF hy Nr fs l' q h3 hq
      simp only [Op.eqFields,cP,ne_eq,not_false_eq_true,if_true,Sem.run_bind,k1,k3,he,Result.andThen_ok]
      cases p with
      | true=>simp [vC]
      | false=>simp
     ·cases hr
    ·cases hr
   ·cases hl
theorem zk {ek:EK} {d:Nat} {e:TypeId} {i:TypeInfo} {u:TypeDesc} (h1:E.P.info? e=some i) (h2:E.P.underlying e=some u) (ih:∀ (a b:AV) (r:Bool) (x y:Value),kS ek a b=some r→Rel R w a x→Rel R w b y→(Op.equalIn d e x y).run E.P w=.ok r w) {xs ys:List AV} {vs us:List Value}
  (hx:aM R w xs vs) (uF:∀ x∈vs,x.oneCell'=true) (hy:aM R w ys us) (Nr:∀ x∈us,x.oneCell'=true) :
  ∀ (m k:Nat) (r:Bool),sK (vq i.size (jx u) ek m k) xs ys=some r→(Op.eqItems d e i.size ⟨vs⟩ ⟨us⟩ (List.range' k m)).run E.P w=.ok r w
 | 0,k,r,hr=>by
  simp [vq,sK] at hr
  subst hr
  rfl
 | m+1,k,r,hr=>by
  unfold vq sK at hr
  split at hr
  ·rename_i a b ha hb
   split at hr
   ·rename_i p q hp hq
    cases hr
    obtain ⟨c,k1,k2⟩:=j4 h1 h2 hx uF ha
    obtain ⟨c',k3,k4⟩:=j4 h1 h2 hy Nr hb
    have he:=ih a b p c c' hp k2 k4
    have vC:=zk h1 h2 ih hx uF hy Nr m (k+1) q hq
    simp only [List.range'_succ,Op.eqItems,Sem.run_bind,k1,k3,he,Result.andThen_ok]
    cases p with
    | true=>simpa using vC
    | false=>simp
   ·cases hr
  ·cases hr
theorem AA:∀ (n d:Nat),n≤d→∀ (t:TypeId) (a b:AV) (r:Bool) (x y:Value),kS (pR E.P n t) a b=some r→Rel R w a x→Rel R w b y→(Op.equalIn d t x y).run E.P w=.ok r w
 | 0,_,_,t,a,b,r,x,y,h,_,_=>by simp [pR,kS] at h
 | n+1,0,hd,_,_,_,_,_,_,_,_,_=>by omega
 | n+1,d+1,hd,t,a,b,r,x,y,h,hx,hy=>by
  unfold pR at h
  split at h
  ·rename_i hu
   unfold kS at h
   split at h
   all_goals (try contradiction)
   cases hx; cases hy; cases h
   exact run_equalIn_bool' w d t _ _ hu
  ·rename_i k hu
   unfold kS at h
   split at h
   all_goals (try contradiction)
   split at h
   ·rename_i hk
    subst hk
    cases hx; cases hy; cases h
    exact run_equalIn_int w d t _ k _ _ hu
   ·cases h
  ·rename_i hu
   unfold kS at h
   split at h
   all_goals (try contradiction)
   cases hx; cases hy; cases h
   rw [run_equalIn_string w d t _ _ hu,rC,rC]
  ·rename_i fs hu
   split at h
   ·simp [kS] at h
   ·rename_i hs
    split at h
    ·rename_i l hl
     unfold kS at h
     split at h
     all_goals (try contradiction)
     rename_i Ar xs ys hk
     cases hk
     cases hx with
     | agg hx uF=>
     cases hy with
     | agg hy Nr=>
     have hf:E.P.fieldsOf t=fs:=by simp [Program.fieldsOf,hu]
     rw [run_equalIn_struct w d t _ _ (by rw [hf]; exact hu) (by simpa using hs),hf]
     exact BX (fun t a b r x y=>AA n d (by omega) t a b r x y) hx uF hy Nr fs.toList _ r hl h
    ·simp [kS] at h
  ·rename_i m e hu
   split at h
   ·rename_i i ud g1 g2
    unfold kS at h
    split at h
    all_goals (try contradiction)
    rename_i Ar xs ys hk
    cases hk
    cases hx with
    | agg hx uF=>
    cases hy with
    | agg hy Nr=>
    have pq:E.P.cellsOf e=i.size:=by simp [Program.cellsOf,g1]
    rw [run_equalIn_array (P:=E.P) w d _ _ hu g1,pq,List.range_eq_range']
    exact zk g1 g2 (fun a b r x y=>AA n d (by omega) e a b r x y) hx uF hy Nr m 0 r h
   ·simp [kS] at h
  ·simp [kS] at h
theorem j5 {t:TypeId} {i:TI} (hi:E.ti t=some i) {p q:AV} {r:Bool} {x y:Value} (h:kS i.ek p q=some r) (hx:Rel R w p x) (hy:Rel R w q y) :
  (Op.equalIn 10000 t x y).run E.P w=.ok r w∧((∃ b c,x=.bool b∧y=.bool c)∨(∃ k n k' m,x=.int k n∧y=.int k' m)∨(∃ n m,x=.string n∧y=.string m)∨(∃ n m,x=.agg n∧y=.agg m∧E.P.eqGuardType E.P.depth t=false)):=by
 have zl:i.ek=tH E.P t:=by
  have:=E.Hc t i hi
  unfold Hb at this
  split at this
  ·split at this
   ·cases this; rfl
   ·cases this
  ·cases this
 rw [zl] at h
 have hg:kS (pR E.P 6 t) p q=some r∧((∃ l,pR E.P 6 t=.st l)→E.P.eqGuardType E.P.depth t=false):=by
  unfold tH at h
  split at h
  ·rename_i l hl
   split at h
   ·simp [kS] at h
   ·rename_i Hr
    exact ⟨by rw [hl]; exact h,fun _=>by simpa using Hr⟩
  ·rename_i k hk
   exact ⟨h,fun ⟨l,hl⟩=>absurd hl (hk l)⟩
 refine ⟨AA 6 10000 (by omega) t p q r x y hg.1 hx hy,?_⟩
 have h2:=hg.1
 have h3:=hg.2
 generalize pR E.P 6 t=k at h2 h3
 unfold kS at h2
 split at h2
 ·cases hx; cases hy; exact .inl ⟨_,_,rfl,rfl⟩
 ·cases hx; cases hy; exact .inr (.inl ⟨_,_,_,_,rfl,rfl⟩)
 ·cases hx; cases hy; exact .inr (.inr (.inl ⟨_,_,rfl,rfl⟩))
 ·cases hx; cases hy; exact .inr (.inr (.inr ⟨_,_,rfl,rfl,h3 ⟨_,rfl⟩⟩))
 ·cases h2
theorem Ja (h:bn E R w β s a) (op:BinOp) (t u:TypeId) (x y:Operand) (ho:o.op=.binOp op t x y u) {p q:AV} {r:Bool} (hx:bI E s.ah x=.v p) (hy:bI E s.ah y=.v q) (hb:BS op p q=none) (hv:eqO E op t p q=some r) :
  bW E R w β s a o (s.put o.dst (.v (.bool r))):=by
 have rx:=aU h x
 have ry:=aU h y
 rw [hx] at rx
 rw [hy] at ry
 have dJ:Rel R w p (a.eval x):=rx
 have pZ:Rel R w q (a.eval y):=ry
 have key:(do eqGuard op t x y (a.eval x) (a.eval y); binOp op t (a.eval x) (a.eval y):Sem Value).run E.P w=.ok (.bool r) w:=by
  generalize fj:a.eval x=xv at dJ
  generalize Xs:a.eval y=yv at pZ
  unfold eqO at hv
  split at hv
  ·rename_i i hi
   obtain ⟨k1,k2⟩:=j5 hi hv dJ pZ
   rcases k2 with ⟨b,c,rfl,rfl⟩ | ⟨k,n,k',m,rfl,rfl⟩ | ⟨n,m,rfl,rfl⟩ | ⟨n,m,rfl,rfl,hg⟩
   ·have D7:(eqGuard .eql t x y (.bool b) (.bool c)).run E.P w=.ok () w:=rfl
    simp [D7,binOp,Op.equal,Op.maxDepth,k1]
   ·cases dJ; cases pZ; simp [BS] at hb
    cases hk:i.ek <;> simp [hk,kS] at hv
    exact absurd hv.1 hb
   ·cases dJ; cases pZ; simp [BS] at hb
   ·simp only [Sem.run_bind,run_eqGuard_agg w _ t x y n m hg,Result.andThen_ok,run_eql_struct,k1]
  ·rename_i i hi
   split at hv
   ·rename_i r' lD
    cases hv
    obtain ⟨k1,k2⟩:=j5 hi lD dJ pZ
    rcases k2 with ⟨b,c,rfl,rfl⟩ | ⟨k,n,k',m,rfl,rfl⟩ | ⟨n,m,rfl,rfl⟩ | ⟨n,m,rfl,rfl,hg⟩
    ·have D7:(eqGuard .neq t x y (.bool b) (.bool c)).run E.P w=.ok () w:=rfl
     simp [D7,binOp,Op.equal,Op.maxDepth,k1]
    ·cases dJ; cases pZ; simp [BS] at hb
     cases hk:i.ek <;> simp [hk,kS] at lD
     exact absurd lD.1 hb
    ·cases dJ; cases pZ; simp [BS] at hb
    ·simp only [Sem.run_bind,run_eqGuard_agg w _ t x y n m hg,Result.andThen_ok,run_neq_struct,k1]
   ·cases hv
  ·cases hv
 refine ax h (c:=.bool r) ?_ (.bool r)
 simp only [Sem.run_bind] at key
 simp only [execOp,ho,Sem.run_bind,key,Result.andThen_ok,Sem.run_pure]
theorem Jb (h:bn E R w β s a) (t:TypeId) (x:Operand) (ho:o.op=.unOp .not t x) {b:Bool} (hx:bI E s.ah x=.v (.bool b)):bW E R w β s a o (s.put o.dst (.v (.bool (!b)))):=by
 have rx:=aU h x
 rw [hx] at rx
 have dJ:Rel R w (.bool b) (a.eval x):=rx
 generalize fj:a.eval x=xv at dJ
 cases dJ
 refine ax h (c:=.bool (!b)) ?_ (Rel.bool _)
 simp [execOp,ho,Op.unary,fj]
theorem Jc (h:bn E R w β s a) (t:TypeId) (x:Operand) (ho:o.op=.unOp .neg t x) {k:IntKind} {n:Int} (hx:bI E s.ah x=.v (.int k n)):bW E R w β s a o (s.put o.dst (.v (.int k (k.wrap (0 - n))))):=by
 have rx:=aU h x
 rw [hx] at rx
 have dJ:Rel R w (.int k n) (a.eval x):=rx
 generalize fj:a.eval x=xv at dJ
 cases dJ
 refine ax h (c:=.int k (k.wrap (0 - n))) ?_ (Rel.int _ _)
 simp [execOp,ho,Op.unary,Op.intArith,fj]
theorem zm:∀ (us:List Value) (off j0:Nat) (cells:Array Value),off+j0+us.length≤cells.size →
  ((us.zipIdx j0).foldl (fun (cs:Array Value) (p:Value × Nat)=>cs.setIfInBounds (off+p.2) p.1) cells).toList=cells.toList.take (off+j0)++us++cells.toList.drop (off+j0+us.length)
 | [],off,j0,cells,_=>by simp
 | u :: us,off,j0,cells,h=>by
  have bV:off+j0 < cells.size:=by simp at h; omega
  have ih:=zm us off (j0+1) (cells.setIfInBounds (off+j0) u) (by simp at h ⊢; omega)
  simp only [List.zipIdx_cons,List.foldl_cons]
  rw [ih]
  have e:=list_seg_step cells.toList (off+j0) u us (by simp at h ⊢; omega)
  simpa [Array.toList_setIfInBounds,Nat.add_assoc] using e
theorem oe (place:Nat→Option (Nat × Nat)):∀ {ps:List (Nat × AV)} {qs:List (Nat × Value)} {cells vD:List AV} {vs:List Value},
  aM R w (ps.map (·.2)) (qs.map (·.2))→ps.map (·.1)=qs.map (·.1)→aM R w cells vs→(∀ x∈vs,x.oneCell'=true)→tJ place cells ps=some vD →
  ∃ us,Instr.fill place ⟨vs⟩ qs=some ⟨us⟩∧aM R w vD us∧∀ x∈us,x.oneCell'=true
 | [],qs,cells,vD,vs,h1,h2,h3,h4,h5=>by
  have:qs=[]:=by simpa using h2.symm
  subst this
  simp [tJ] at h5
  subst h5
  exact ⟨vs,rfl,h3,h4⟩
 | (i,v) :: ps,[],cells,vD,vs,h1,h2,h3,h4,h5=>by simp at h2
 | (i,v) :: ps,(j,c) :: qs,cells,vD,vs,h1,h2,h3,h4,h5=>by
  simp only [List.map_cons,List.cons.injEq] at h2
  obtain ⟨rfl,h2⟩:=h2
  cases h1 with
  | cons hr h1=>
  unfold tJ at h5
  split at h5
  ·cases h5
  ·rename_i off sz hp
   split at h5
   ·rename_i fw
    simp only [Bool.and_eq_true] at fw
    obtain ⟨⟨MZ,hlen⟩,hle⟩:=fw
    have hlen:=Nat.eq_of_beq_eq_true hlen
    have hle:=Nat.le_of_ble_eq_true hle
    obtain ⟨c1,c2⟩:=Rel.cells hr MZ
    have FY:c.cells.toList.length=sz:=by rw [← c1.length]; exact hlen
    have hb:off+v.cells.length≤cells.length:=by omega
    obtain ⟨us,u1,u2,u3⟩:=oe place h1 h2 (h3.bg c1 hb) (iW h4 c2) h5
    refine ⟨us,?_,u2,u3⟩
    have eC:c.cells.size=sz:=by simpa using FY
    have RT:vs.length=cells.length:=h3.length.symm
    have Xt:c.cells.zipIdx.foldl (fun (cs:Array Value) (x:Value × Nat)=>cs.setIfInBounds (off+x.2) x.1) ⟨vs⟩=⟨vs.take off++c.cells.toList++vs.drop (off+c.cells.toList.length)⟩:=by
     apply Array.ext'
     rw [← Array.foldl_toList,Array.toList_zipIdx]
     have:=zm c.cells.toList off 0 ⟨vs⟩ (by simp only [List.size_toArray]; omega)
     simpa using this
    have cH:(c.cells.size≠sz || decide (off+c.cells.size > (⟨vs⟩:Array Value).size))=false:=by
     have FX:decide (c.cells.size≠sz)=false:=by simp [eC]
     have hs2:decide (off+c.cells.size > (⟨vs⟩:Array Value).size)=false:=by
      rw [decide_eq_false_iff_not,eC]
      show ¬ off+sz > vs.length
      omega
     rw [FX,hs2]
     rfl
    unfold Instr.fill
    simp only [hp,cH,Bool.false_eq_true,if_false]
    rw [← u1]
    exact congrArg (fun z=>Instr.fill place z qs) Xt
   ·cases h5
theorem uW (h:bn E R w β s a):∀ {l:List (Nat × Operand)} {ps:List (Nat × AV)},MY E s.ah l=some ps →
  aM R w (ps.map (·.2)) ((l.map fun x=>(x.1,a.eval x.2)).map (·.2))∧ps.map (·.1)=(l.map fun x=>(x.1,a.eval x.2)).map (·.1)
 | [],ps,hl=>by simp [MY] at hl; subst hl; exact ⟨.nil,rfl⟩
 | (i,x) :: l,ps,hl=>by
  unfold MY at hl
  split at hl
  ·rename_i v r h1 h2
   cases hl
   have hx:=aU h x
   rw [h1] at hx
   obtain ⟨g1,g2⟩:=uW h h2
   exact ⟨.cons hx g1,by simpa using g2⟩
  ·cases hl
theorem D8 (h:bn E R w β s a) (t:TypeId) (parts:Array (Nat × Operand)) (ho:o.op=.build t parts) {v:AV} (hv:mJ E s t parts.toList=some v) :
  bW E R w β s a o (s.put o.dst (.v v)):=by
 unfold mJ at hv
 split at hv
 ·rename_i i ps hi IS
  split at hv
  ·rename_i z hz
   split at hv
   ·rename_i cs pq
    split at hv
    ·rename_i Ax
     cases hv
     simp only [Bool.and_eq_true] at Ax
     obtain ⟨Ax,qZ⟩:=Ax
     obtain ⟨gH,u,e1,e2,e3,e4,e5,e6⟩:=cj E hi
     rw [hz] at e6
     obtain ⟨zc,qw,DL⟩:=dh e6
     obtain ⟨p1,p2⟩:=uW h IS
     obtain ⟨c1,c2⟩:=Rel.cells (DL R w) qZ
     have Tf:(parts.map fun (x:Nat × Operand)=>(x.1,a.eval x.2)).toList=parts.toList.map fun x=>(x.1,a.eval x.2):=by simp
     have key:∃ us,E.P.built t (parts.toList.map fun x=>(x.1,a.eval x.2))=some ⟨us⟩∧aM R w cs us∧∀ x∈us,x.oneCell'=true:=by
      cases u <;> simp only [jx] at e4 <;> first | (rw [Ax] at e4; cases e4; done) | skip
      ·rename_i n e
       simp only [pQ] at e5
       split at e5
       ·rename_i ie ue f1 f2
        injection e5 with e5
        rw [← e5] at pq
        obtain ⟨us,u1,u2,u3⟩:=oe (R:=R) (w:=w) _ p1 p2 c1 c2 pq
        refine ⟨us,?_,u2,u3⟩
        unfold Program.built
        simp only [e1,e2,qw,f1]
        rw [← u1]
        rfl
       ·cases e5
      ·rename_i fs
       simp only [pQ] at e5
       split at e5
       ·rename_i l hl
        injection e5 with e5
        rw [← e5] at pq
        obtain ⟨us,u1,u2,u3⟩:=oe (R:=R) (w:=w) _ p1 p2 c1 c2 pq
        refine ⟨us,?_,u2,u3⟩
        unfold Program.built
        simp only [e1,e2,qw,nL hl]
        rw [← u1]
        have WH:placeOf (.st l)=fun j=>(l.map fun x=>(x.1,x.2.1)).toArray[j]?:=by
         funext j
         simp only [placeOf,bc,List.getElem?_toArray,List.getElem?_map]
         cases l[j]? <;> rfl
        rw [WH]
       ·cases e5
     obtain ⟨us,u1,u2,u3⟩:=key
     refine ax h (c:=.agg ⟨us⟩) ?_ (Rel.agg u2 u3)
     have bG:=run_build (P:=E.P) w t (parts.map fun (x:Nat × Operand)=>(x.1,a.eval x.2)) ⟨us⟩ (by rw [Tf]; exact u1)
     simp only [execOp,ho,Sem.run_bind,bG,Result.andThen_ok,Sem.run_pure]
    ·cases hv
   ·cases hv
  ·cases hv
 ·cases hv
end ops
end Go.Am
