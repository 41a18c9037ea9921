/- The abstract machine: lists of cells; what keeps a state's meaning; loads and stores. -/
import Derived.Test.YtldcljfjjoidhaaGreatDoorAmKA
import Derived.Laws.CopyRow
import Derived.Laws.Slices
import Derived.Laws.StructEq
import Derived.ChangeKeysEq
set_option linter.all false
namespace Go.Am
open Go
section lists
variable {α:Type}
theorem qQ (n:Nat) (l:List α):dC n l=l.drop n:=by
 induction n generalizing l with
 | zero=>simp [dC]
 | succ n ih=>cases l <;> simp [dC,ih]
theorem Ca {n:Nat} {l r:List α} (h:takeN n l=some r):r=l.take n∧r.length=n:=by
 induction n generalizing l r with
 | zero=>simp [takeN] at h; subst h; simp
 | succ n ih=>
  cases l with
  | nil=>simp [takeN] at h
  | cons a l=>
   unfold takeN at h
   split at h
   ·rename_i r' hr
    cases h
    obtain ⟨h1,h2⟩:=ih hr
    exact ⟨by simp [h1],by simp [h2]⟩
   ·cases h
theorem Jp {off n:Nat} {l r:List α} (h:zQ off n l=some r):r=(l.drop off).take n∧r.length=n:=by
 unfold zQ at h
 rw [qQ] at h
 exact Ca h
theorem cW (l:List α) (off:Nat) (ys:List α) (h:off+ys.length≤l.length):bt l off ys=l.take off++ys++l.drop (off+ys.length):=by
 induction l generalizing off ys with
 | nil=>
  have hy:ys=[]:=List.eq_nil_of_length_eq_zero (by rw [List.length_nil] at h; omega)
  subst hy
  simp [bt]
 | cons a l ih=>
  cases ys with
  | nil=>simp [bt]
  | cons y ys=>
   cases off with
   | zero=>
    simp only [bt]
    rw [ih 0 ys (by simp at h ⊢; omega)]
    simp
   | succ n=>
    simp only [bt]
    rw [ih n (y :: ys) (by simp at h ⊢; omega)]
    rw [show n+1+(y :: ys).length=(n+(y :: ys).length)+1 by omega]
    simp
theorem td (l:List α) (off:Nat) (ys:List α) (h:off+ys.length≤l.length):(bt l off ys).length=l.length:=by
 rw [cW l off ys h]
 simp
 omega
end lists
section rel
variable {R:ah} {w:World}
theorem aA.length {l:List AV} {vs:List Value} (h:aA R w l vs):l.length=vs.length:=by
 induction l generalizing vs with
 | nil=>cases h; rfl
 | cons a l ih=>cases h with | cons h t=>simp [ih t]
theorem aA.get {l:List AV} {vs:List Value} (h:aA R w l vs) {i:Nat} {a:AV} (ha:l[i]?=some a):∃ c,vs[i]?=some c∧Rel R w a c:=by
 induction l generalizing vs i with
 | nil=>simp at ha
 | cons x l ih=>
  cases h with
  | cons h t=>
   cases i with
   | zero=>simp at ha; subst ha; exact ⟨_,by simp,h⟩
   | succ i=>simp at ha; obtain ⟨c,h1,h2⟩:=ih t ha; exact ⟨c,by simpa using h1,h2⟩
theorem aA.drop {l:List AV} {vs:List Value} (h:aA R w l vs) (n:Nat):aA R w (l.drop n) (vs.drop n):=by
 induction n generalizing l vs with
 | zero=>simpa using h
 | succ n ih=>cases h with
  | nil=>simpa using aA.nil
  | cons h t=>simpa using ih t
theorem aA.take {l:List AV} {vs:List Value} (h:aA R w l vs) (n:Nat):aA R w (l.take n) (vs.take n):=by
 induction n generalizing l vs with
 | zero=>simpa using aA.nil
 | succ n ih=>cases h with
  | nil=>simpa using aA.nil
  | cons h t=>simpa using aA.cons h (ih t)
theorem aA.append {l r:List AV} {vs us:List Value} (h:aA R w l vs) (k:aA R w r us):aA R w (l++r) (vs++us):=by
 induction l generalizing vs with
 | nil=>cases h; simpa using k
 | cons a l ih=>cases h with | cons h t=>exact .cons h (ih t)
theorem aA.one {a:AV} {c:Value} (h:Rel R w a c):aA R w [a] [c]:=.cons h .nil
theorem Rel.cells {a:AV} {c:Value} (h:Rel R w a c) (ht:a.aG=true):aA R w a.cells c.cells.toList∧∀ v∈c.cells.toList,v.oneCell'=true:=by
 cases h with
 | agg h h1=>exact ⟨h,h1⟩
 | aR h=>simp [AV.aG] at ht
 | bool=>exact ⟨.one (.bool _),by simp [Value.cells,Value.oneCell']⟩
 | int=>exact ⟨.one (.int _ _),by simp [Value.cells,Value.oneCell']⟩
 | str=>exact ⟨.one (.str _),by simp [Value.cells,Value.oneCell']⟩
 | fa=>exact ⟨.one .fa,by simp [Value.cells,Value.oneCell']⟩
 | ptr h=>exact ⟨.one (.ptr h),by simp [Value.cells,Value.oneCell']⟩
 | ep h=>exact ⟨.one (.ep h),by simp [Value.cells,Value.oneCell']⟩
 | gr=>exact ⟨.one .gr,by simp [Value.cells,Value.oneCell']⟩
 | fy=>exact ⟨.one .fy,by simp [Value.cells,Value.oneCell']⟩
 | jK=>exact ⟨.one .jK,by simp [Value.cells,Value.oneCell']⟩
 | jl h ho=>exact ⟨.one (.jl h ho),by simp [Value.cells,Value.oneCell']⟩
 | iS h ho=>exact ⟨.one (.iS h ho),by simp [Value.cells,Value.oneCell']⟩
 | list h hl hc hk=>exact ⟨.one (.list h hl hc hk),by simp [Value.cells,Value.oneCell']⟩
 | gn h hc=>exact ⟨.one (.gn h hc),by simp [Value.cells,Value.oneCell']⟩
 | gu h ho=>exact ⟨.one (.gu h ho),by simp [Value.cells,Value.oneCell']⟩
 | dI h ho hc=>exact ⟨.one (.dI h ho hc),by simp [Value.cells,Value.oneCell']⟩
 | gp h ho=>exact ⟨.one (.gp h ho),by simp [Value.cells,Value.oneCell']⟩
 | gM=>exact ⟨.one .gM,by simp [Value.cells,Value.oneCell']⟩
 | map h=>exact ⟨.one (.map h),by simp [Value.cells,Value.oneCell']⟩
 | bE=>exact ⟨.one .bE,by simp [Value.cells,Value.oneCell']⟩
 | fn h h'=>exact ⟨.one (.fn h h'),by simp [Value.cells,Value.oneCell']⟩
 | yield h=>exact ⟨.one (.yield h),by simp [Value.cells,Value.oneCell']⟩
 | kj=>exact ⟨.one .kj,by simp [Value.cells,Value.oneCell']⟩
 | iface h=>exact ⟨.one (.iface h),by simp [Value.cells,Value.oneCell']⟩
mutual
theorem Rel.eu:∀ {a:AV} {c:Value},Rel R w a c→Rel R w a.eu c
 | _,_,.bool b=>.bool b
 | _,_,.int k n=>.int k n
 | _,_,.str l=>.str l
 | _,_,.agg h h1=>.agg h.eu h1
 | _,_,.aR h=>.aR h.eu
 | _,_,.fa=>.fa
 | _,_,.ptr h=>.ptr h
 | _,_,.ep h=>.ep h
 | _,_,.gr=>.gr
 | _,_,.fy=>.fy
 | _,_,.jK=>.jK
 | _,_,.jl _ _=>.fy
 | _,_,.iS _ _=>.fy
 | _,_,@Rel.list _ _ .nil _ _ _ _ _ _ h hl hc hk=>.list h hl hc hk
 | _,_,@Rel.list _ _ .full _ _ _ _ _ _ h hl hc hk=>.list h hl hc hk
 | _,_,@Rel.list _ _ .iy _ _ _ _ _ _ h hl hc hk=>.list h hl hc hk
 | _,_,@Rel.list _ _ (.own _) _ _ _ _ _ _ h hl hc _=>.list h hl hc trivial
 | _,_,@Rel.list _ _ (.aM _ _) _ _ _ _ _ _ h hl hc _=>.list h hl hc trivial
 | _,_,.gn h hc=>.gn h hc
 | _,_,.gu h ho=>.gu h ho
 | _,_,.dI h ho hc=>.dI h ho hc
 | _,_,.gp h ho=>.gp h ho
 | _,_,.gM=>.gM
 | _,_,.map h=>.map h
 | _,_,.bE=>.bE
 | _,_,.fn h h'=>.fn h h'
 | _,_,.yield h=>.yield h
 | _,_,.kj=>.kj
 | _,_,.iface h=>.iface h
theorem aA.eu:∀ {l:List AV} {cs:List Value},aA R w l cs→aA R w (iD l) cs
 | _,_,.nil=>.nil
 | _,_,.cons h t=>.cons h.eu t.eu
end
theorem cG.get {b o:Nat} {l:List AV} (h:cG R w b o l):∃ vs,aA R w l vs∧(∀ v∈vs,v.oneCell'=true)∧(∀ j v,vs[j]?=some v→w.cell? ⟨b,o+j,none⟩=some v)∧∀ j,j < l.length→R.I b (o+j):=by
 induction l generalizing o with
 | nil=>exact ⟨[],.nil,by simp,by simp,by simp⟩
 | cons a l ih=>
  cases h with
  | @cons _ _ _ c _ hc h1 hi h t=>
   obtain ⟨vs,k1,k2,k3,k4⟩:=ih t
   refine ⟨c :: vs,.cons h k1,?_,?_,?_⟩
   ·intro v hv
    rcases List.mem_cons.1 hv with rfl | hv
    ·exact h1
    ·exact k2 v hv
   ·intro j v hv
    cases j with
    | zero=>simp at hv; subst hv; exact hc
    | succ j=>simp at hv; have:=k3 j v hv; rwa [show o+1+j=o+(j+1) by omega] at this
   ·intro j hj
    cases j with
    | zero=>exact hi
    | succ j=>have:=k4 j (by simp at hj; omega); rwa [show o+1+j=o+(j+1) by omega] at this
theorem cG.make {b o:Nat} {l:List AV} {vs:List Value} (h:aA R w l vs) (h1:∀ v∈vs,v.oneCell'=true) (hc:∀ j v,vs[j]?=some v→w.cell? ⟨b,o+j,none⟩=some v) (hi:∀ j,j < l.length→R.I b (o+j)):cG R w b o l:=by
 induction l generalizing vs o with
 | nil=>exact .nil
 | cons a l ih=>
  cases h with
  | cons h t=>
   refine .cons (hc 0 _ (by simp)) (h1 _ (by simp)) (hi 0 (by simp)) h (ih t (fun v hv=>h1 v (by simp [hv])) (fun j v hv=>?_) (fun j hj=>?_))
   ·have:=hc (j+1) v (by simpa using hv); rwa [show o+(j+1)=o+1+j by omega] at this
   ·have:=hi (j+1) (by simpa using hj); rwa [show o+(j+1)=o+1+j by omega] at this
theorem cG.drop {b o:Nat} {l:List AV} (h:cG R w b o l) (n:Nat):cG R w b (o+n) (l.drop n):=by
 induction n generalizing o l with
 | zero=>simpa using h
 | succ n ih=>cases h with
  | nil=>simpa using cG.nil
  | cons hc h1 hi h t=>have:=ih t; rw [show o+1+n=o+(n+1) by omega] at this; simpa using this
end rel
theorem bG (b o n:Nat):(⟨b,o,none⟩:Addr).add n=⟨b,o+n,none⟩:=by unfold Addr.add; split <;> simp_all
section bA
variable {E:Env} {R R':ah} {w w':World} {β β':Nat→Nat} {s:St} {a:Act}
theorem kp.mono (e:Ext R w R' w') {sl:aL} {tm:Array Value} (h:kp R w β sl tm):kp R' w' β sl tm:=
 fun i hi=>let ⟨c,h1,h2⟩:=h i hi; ⟨c,h1,h2.mono e⟩
theorem ck.mono (e:Ext R w R' w'):∀ {l:List (AV × AV)} {es:List MapEntry},ck R w l es→ck R' w' l es
 | [],[],_=>trivial
 | (_,_) :: _,_ :: _,h=>⟨h.1.mono e,h.2.1.mono e,ck.mono e h.2.2⟩
 | [],_ :: _,h=>h.elim
 | _ :: _,[],h=>h.elim
theorem kq {w w':World} {b:Nat} (h:b < w.heap.size) (e:w'.heap[b]?=w.heap[b]?):b < w'.heap.size:=by
 rw [Array.getElem?_eq_getElem h] at e
 exact (Array.getElem?_eq_some_iff.1 e).1
theorem eB.mono (e:Ext R w R' w') {go:GO} {ro:RO} (h:eB R w go ro) (hb:∀ b,ro.has b→w'.heap[b]?=w.heap[b]?) (hi:∀ b o,ro.has b→R'.I b o→R.I b o):eB R' w' go ro:=by
 cases ro with
 | none=>cases go <;> first | exact h | exact h.elim
 | aZ=>cases go <;> first | exact h | exact h.elim
 | bn b=>
  have iU:=hb b rfl
  cases go with
  | dead=>exact kq h iU
  | row cs el=>obtain ⟨vs,h1,h2,h3,h4⟩:=h; exact ⟨vs,iU.trans h1,h2.mono e,h3,fun o ho=>h4 o (hi b o rfl ho)⟩
  | tok f sz el=>exact h.elim
  | aM _ _ _=>exact h.elim
  | kf me n left _=>obtain ⟨bm,seen,c0,h1,h2,h3⟩:=h; exact ⟨bm,seen,c0,e.bn h1,iU.trans h2,h3⟩
  | dw es sz el=>exact h.elim
  | map es=>obtain ⟨ar,clock,h1,h2,h3⟩:=h; exact ⟨ar,clock,iU.trans h1,ck.mono e h2,h3⟩
  | eo l pos=>exact iU.trans h
  | loop busy pending fn ae n params assign body defers done=>
   obtain ⟨⟨r,db,h1,h2,h3,h4,h5,h6,h7,h8,h9,Sd⟩,h10⟩:=h
   exact ⟨⟨r,db,iU.trans h1,h2,h3,h4.mono e,h5,h6,h7,h8,h9,e.bn Sd⟩,h10⟩
  | defers o=>exact iU.trans h
 | tok f b c=>
  have iU:=hb b rfl
  cases go with
  | tok f' sz el=>
   obtain ⟨h0,cur,h1,h2,h3,h4,h5⟩:=h
   exact ⟨h0,cur,iU.trans h1,h2,h3,h4,fun o ho oq=>h5 o ho (hi b o rfl oq)⟩
  | dw es sz el=>
   obtain ⟨h0,mO,cur,vs,h1,h2,h3,h4,h5,h6,h7,h8⟩:=h
   exact ⟨h0,mO,cur,vs,iU.trans h1,h2,h3,h4,fun o ho=>h5 o (hi b o rfl ho),h6.mono e,h7,h8⟩
  | dead=>exact kq h iU
  | row cs=>exact h.elim
  | aM _ _ _=>exact h.elim
  | kf _ _ _ _=>exact h.elim
  | map es=>exact h.elim
  | eo l pos=>exact h.elim
  | loop=>exact h.elim
  | defers o=>exact h.elim
 | aM ts=>
  cases go with
  | aM fs sz el=>
   obtain ⟨h1,h2,h3⟩:=h
   refine ⟨h1,h2,fun j f t hf ht=>?_⟩
   have h4:=h3 j f t hf ht
   cases t with
   | aZ=>exact h4
   | full f'=>exact h4
   | tok f' b c=>
    obtain ⟨h5,cur,k1,k2,k3,k4,k5⟩:=h4
    have hh:RO.has (.aM ts) b:=⟨j,f',c,ht⟩
    exact ⟨h5,cur,(hb b hh).trans k1,k2,k3,k4,fun o ho oq=>k5 o ho (hi b o hh oq)⟩
  | dead=>exact fun j f b c ht=>kq (h j f b c ht) (hb b ⟨j,f,c,ht⟩)
  | _=>exact h.elim
theorem Live.of {id b:Nat} {ro:RO} (h:nth R.obj id=some ro) (hb:ro.has b):Live R b:=⟨id,ro,h,hb⟩
theorem cu.bA {G:List GO} (h:cu E R w G) (e:Ext R w R' w') (ho:R'.obj=R.obj) (hb:∀ b,Live R b→w'.heap[b]?=w.heap[b]?) (hi:∀ b o,Live R b→R'.I b o→R.I b o) (wf:∀ b o,R'.I b o→b < w'.heap.size) (hd:E.lo≤w.drawn→E.lo≤w'.drawn:=by first | exact fun h=>h | exact fun h=>Nat.le_succ_of_le h):cu E R' w' G where
 lo:=hd h.lo
 len:=by rw [ho]; exact h.len
 obj:=fun id go ro hg hr=>by
  rw [ho] at hr
  exact (h.obj id go ro hg hr).mono e (fun b LG=>hb b (.of hr LG)) (fun b o LG=>hi b o (.of hr LG))
 inj:=fun i j ri rj b h1 h2=>by rw [ho] at h1 h2; exact h.inj i j ri rj b h1 h2
 wf:=wf
 bY:=fun g cs hg=>(h.bY g cs hg).mono e
theorem Ff.bA {bx:bK} (h:Ff R w β bx) (e:Ext R w R' w') (hb:∀ k cs,cz bx k=some cs→w'.heap[β k]?=w.heap[β k]?) (hi:∀ k cs o,cz bx k=some cs→R'.I (β k) o→R.I (β k) o) (hl:∀ k cs,cz bx k=some cs→Live R' (β k)→Live R (β k)):Ff R' w' β bx where
 box:=fun k cs hk=>by
  obtain ⟨⟨vs,el,h1,h2,h3⟩,h4,h5⟩:=h.box k cs hk
  exact ⟨⟨vs,el,(hb k cs hk).trans h1,h2.mono e,h3⟩,fun o ho=>h4 o (hi k cs o hk ho),fun vF=>h5 (hl k cs hk vF)⟩
 inj:=h.inj
theorem lF.mono (e:Ext R w R' w'):∀ {l:List Nat} {ds:List Deferred},lF R l ds→lF R' l ds
 | [],[],_=>trivial
 | _ :: _,_ :: _,h=>let ⟨⟨b,h1,h2⟩,h3⟩:=h; ⟨⟨b,e.bn h1,h2⟩,lF.mono e h3⟩
 | [],_ :: _,h=>h.elim
 | _ :: _,[],h=>h.elim
theorem aP.bA (h:aP E R w β s a) (e:Ext R w R' w') (ho:R'.obj=R.obj) (hb:∀ b,Own R β s.boxes b→w'.heap[b]?=w.heap[b]?) (hi:∀ b o,Own R β s.boxes b→R'.I b o→R.I b o) (wf:∀ b o,R'.I b o→b < w'.heap.size) (hd:E.lo≤w.drawn→E.lo≤w'.drawn:=by first | exact fun h=>h | exact fun h=>Nat.le_succ_of_le h):aP E R' w' β s a where
 g:=h.g.bA e ho (fun b hl=>hb b (.inl hl)) (fun b o hl=>hi b o (.inl hl)) wf hd
 b:=h.b.bA e (fun k cs hk=>hb _ (.inr ⟨k,cs,hk,rfl⟩)) (fun k cs o hk=>hi _ o (.inr ⟨k,cs,hk,rfl⟩)) (fun k cs _ hl=>by obtain ⟨id,ro,h1,h2⟩:=hl; rw [ho] at h1; exact ⟨id,ro,h1,h2⟩)
 t:=h.t.mono e
 n:=h.n
 d:=h.d.mono e
theorem aQ {w:World} {b:Nat} {o:Obj} (h:w.heap[b]?=some o):b < w.heap.size:=(Array.getElem?_eq_some_iff.1 h).1
theorem eB.lt {go:GO} {ro:RO} (h:eB R w go ro) {b:Nat} (hb:ro.has b):b < w.heap.size:=by
 cases ro with
 | none=>exact hb.elim
 | aZ=>exact hb.elim
 | bn x=>
  have hb:b=x:=hb
  subst hb
  cases go with
  | dead=>exact h
  | row cs el=>obtain ⟨vs,h1,_⟩:=h; exact aQ h1
  | tok f sz el=>exact h.elim
  | aM _ _ _=>exact h.elim
  | kf me n left _=>obtain ⟨bm,seen,c0,_,h2,_⟩:=h; exact aQ h2
  | dw es sz el=>exact h.elim
  | map es=>obtain ⟨ar,clock,h1,_⟩:=h; exact aQ h1
  | eo l pos=>exact aQ h
  | loop=>obtain ⟨⟨r,db,h1,_⟩,_⟩:=h; exact aQ h1
  | defers o=>exact aQ h
 | tok f x c=>
  have hb:b=x:=hb
  subst hb
  cases go with
  | tok f' sz el=>obtain ⟨_,cur,h1,_⟩:=h; exact aQ h1
  | dw es sz el=>obtain ⟨_,_,cur,vs,h1,_⟩:=h; exact aQ h1
  | dead=>exact h
  | row cs=>exact h.elim
  | aM _ _ _=>exact h.elim
  | kf _ _ _ _=>exact h.elim
  | map es=>exact h.elim
  | eo l pos=>exact h.elim
  | loop=>exact h.elim
  | defers o=>exact h.elim
 | aM ts=>
  obtain ⟨j,f,c,ht⟩:=hb
  cases go with
  | aM fs sz el=>
   obtain ⟨h1,h2,h3⟩:=h
   have bD:=ba ht
   rw [h1] at bD
   obtain ⟨f',hf⟩:∃ f',nth fs j=some f':=⟨fs[j],by rw [aJ]; exact List.getElem?_eq_getElem bD⟩
   obtain ⟨_,cur,k1,_⟩:=h3 j f' _ hf ht
   exact aQ k1
  | dead=>exact h j f b c ht
  | _=>exact h.elim
theorem cu.bl {G:List GO} (h:cu E R w G) {b:Nat} (hl:Live R b):b < w.heap.size:=by
 obtain ⟨id,ro,h1,h2⟩:=hl
 have bD:=ba h1
 rw [h.len] at bD
 obtain ⟨go,e9⟩:∃ go,nth G id=some go:=⟨G[id],by rw [aJ]; exact List.getElem?_eq_getElem bD⟩
 exact (h.obj id go ro e9 h1).lt h2
theorem aP.cN (h:aP E R w β s a) {b:Nat} (ho:Own R β s.boxes b):b < w.heap.size:=by
 rcases ho with hl | ⟨k,cs,hk,rfl⟩
 ·exact h.g.bl hl
 ·obtain ⟨⟨vs,el,h1,_⟩,_⟩:=h.b.box k cs hk
  exact aQ h1
theorem bo {w w':World} {b:Nat} (h:w'.heap[b]?=w.heap[b]?) (o:Nat):w'.cell? ⟨b,o,none⟩=w.cell? ⟨b,o,none⟩:=by simp [World.cell?,h]
theorem ot (wf:∀ b o,R.I b o→b < w.heap.size) (x:Obj):Ext R w R (w.alloc x):=
 ⟨fun _ _ h=>h,fun b o h=>bo (heap_alloc_old w x b (wf b o h)) o,fun _ ro h=>⟨ro,h,bF.refl ro⟩,.old fun b hb=>heap_alloc_old w x b hb⟩
theorem aP.alloc (h:aP E R w β s a) (x:Obj):aP E R (w.alloc x) β s a:=
 h.bA (ot h.g.wf x) rfl (fun b hb=>heap_alloc_old w x b (h.cN hb)) (fun _ _ _ hi=>hi) (fun b o hi=>by have:=h.g.wf b o hi; simp; omega)
end bA
end Go.Am
namespace Go.Am
open Go
theorem Cb {a b:AV} (h:B4 a b=true):a=b:=by
 unfold B4 at h
 split at h
 all_goals (first | (cases h; done) | skip)
 all_goals (try simp only [Bool.and_eq_true,beq_iff_eq,Nat.beq_eq] at h)
 all_goals (simp [*])
mutual
theorem fL:∀ {a b:AV},cO a b=true→a=b:=by
 intro a b h
 unfold cO at h
 split at h
 ·simp only [Bool.and_eq_true,Nat.beq_eq] at h; rw [h.1.1,dO h.1.2,dO h.2]
 ·rw [dO h]
 ·rw [dO h]
 ·rw [dO h]
 ·simp only [Bool.and_eq_true,Nat.beq_eq] at h; rw [h.1,dO h.2]
 ·simp only [Bool.and_eq_true,Nat.beq_eq] at h; rw [h.1,dO h.2]
 ·simp only [Bool.and_eq_true,Nat.beq_eq] at h; rw [h.1,dO h.2]
 ·simp only [Bool.and_eq_true,Nat.beq_eq] at h; rw [h.1.1,h.1.2,dO h.2]
 ·simp only [Bool.and_eq_true,Nat.beq_eq] at h; rw [h.1.1.1,h.1.1.2,h.1.2,dO h.2]
 ·exact Cb h
theorem dO:∀ {l r:List AV},ji l r=true→l=r:=by
 intro l r h
 unfold ji at h
 split at h
 ·rfl
 ·rw [Bool.and_eq_true] at h; rw [fL h.1,dO h.2]
 ·cases h
end
def uE (a b:AV):Prop:=∀ (R:ah) (w:World) (c:Value),Rel R w a c→Rel R w b c
def bL:List AV→List AV→Prop
 | [],[]=>True
 | a :: l,b :: r=>uE a b∧bL l r
 | _,_=>False
theorem uE.refl (a:AV):uE a a:=fun _ _ _ h=>h
theorem bL.refl:∀ l:List AV,bL l l
 | []=>trivial
 | a :: l=>⟨uE.refl a,bL.refl l⟩
theorem bL.length:∀ {l r:List AV},bL l r→l.length=r.length
 | [],[],_=>rfl
 | _ :: _,_ :: _,h=>by simp [bL.length h.2]
 | [],_ :: _,h=>h.elim
 | _ :: _,[],h=>h.elim
theorem bL.rel {R:ah} {w:World}:∀ {l r:List AV} {cs:List Value},bL l r→aA R w l cs→aA R w r cs
 | [],[],_,_,h=>h
 | _ :: _,_ :: _,_,k,.cons h t=>.cons (k.1 _ _ _ h) (bL.rel k.2 t)
 | [],_ :: _,_,h,_=>h.elim
 | _ :: _,[],_,h,_=>h.elim
theorem bL.Cc {R:ah} {w:World}:∀ {l r:List AV} {b o:Nat},bL l r→cG R w b o l→cG R w b o r
 | [],[],_,_,_,_=>.nil
 | _ :: _,_ :: _,_,_,k,.cons hc h1 hi h t=>.cons hc h1 hi (k.1 _ _ _ h) (bL.Cc k.2 t)
 | [],_ :: _,_,_,h,_=>h.elim
 | _ :: _,[],_,_,h,_=>h.elim
theorem bL.append:∀ {a b c d:List AV},bL a b→bL c d→bL (a++c) (b++d)
 | [],[],_,_,_,h=>h
 | _ :: _,_ :: _,_,_,k,h=>⟨k.1,bL.append k.2 h⟩
 | [],_ :: _,_,_,h,_=>h.elim
 | _ :: _,[],_,_,h,_=>h.elim
structure fw (v u:AV):Prop where
 eu:uE v u
 aR:u.aG=v.aG
 cells:v.aG=true→bL v.cells u.cells
 closed:v.closed=true→u.closed=true
theorem qp {u v a:AV} (h:(av.two u v).fits a=true):(av.two u v).enc ((av.two u v).aX a)=a:=by
 change (cO a u || cO a v)=true at h
 change (bif cO a v then v else u)=a
 cases hs:cO a v with
 | true=>exact (fL hs).symm
 | false=>
  rw [hs,Bool.or_false] at h
  exact (fL h).symm
theorem fw.refl (v:AV):fw v v:=⟨uE.refl v,rfl,fun _=>bL.refl _,fun h=>h⟩
theorem x8 {a b:IntKind} (h:Jk a b=true):a=b:=of_decide_eq_true h
theorem nb {α:Type} {f:AV→Bool} {d:AV→α} {g:α→AV} (zV:∀ v,f v=true→fw v (g (d v))) {R:ah} {w:World} :
  ∀ {es:List AV} {b o sz:Nat},allFit f es=true→ee R w b o sz es→ee R w b o sz ((es.map d).map g)
 | [],b,o,sz,_,_=>.nil
 | e :: es,b,o,sz,h,hr=>by
  simp only [allFit,Bool.and_eq_true] at h
  cases hr with
  | cons hl ht hk hc t=>
   have d':=zV e h.1
   have wc:=d'.cells ht
   exact .cons (by rw [← wc.length,hl]) (by rw [d'.aR,ht]) (d'.closed hk) (wc.Cc hc) (nb zV h.2 t)
theorem A0 {R:ah} {w:World} {b o sz a8:Nat} {es:List AV} (h:es=[]∨sz=a8) (hr:ee R w b o a8 es):ee R w b o sz es:=by
 rcases h with rfl | rfl
 ·exact .nil
 ·exact hr
theorem A1 {α:Type} {f:AV→Bool} {d:AV→α} {g:α→AV} (zV:∀ v,f v=true→fw v (g (d v))) {k:LK} {sz a8:Nat} {es:List AV} (hs:es=[]∨sz=a8) (h:allFit f es=true) :
  uE (.list k a8 es) (.list .iy sz ((es.map d).map g)):=fun R w c hr=>by
 cases hr with
 | gr=>exact .fy
 | fy=>exact .fy
 | jK=>exact .jK
 | jl _ _=>exact .fy
 | iS _ _=>exact .fy
 | list hr hlen hc hk=>exact .list (nb zV h (A0 hs hr)) (by simp [hlen]) hc trivial
theorem Cd {α:Type} {f:AV→Bool} {d:AV→α} {g:α→AV} (zV:∀ v,f v=true→fw v (g (d v))) {id sz:Nat} {es:List AV} (h:allFit f es=true) :
  uE (.list (.own id) sz es) (.list (.own id) sz ((es.map d).map g)):=fun R w c hr=>by
 cases hr with
 | jl h1 h2=>exact .jl h1 h2
 | list hr hlen hc hk=>exact .list (nb zV h hr) (by simp [hlen]) hc hk
theorem Ce {α:Type} {f:AV→Bool} {d:AV→α} {g:α→AV} (zV:∀ v,f v=true→fw v (g (d v))) {id j sz:Nat} {es:List AV} (h:allFit f es=true) :
  uE (.list (.aM id j) sz es) (.list (.aM id j) sz ((es.map d).map g)):=fun R w c hr=>by
 cases hr with
 | iS h1 h2=>exact .iS h1 h2
 | list hr hlen hc hk=>exact .list (nb zV h hr) (by simp [hlen]) hc hk
mutual
theorem av.bQ:∀ (p:av) {v:AV},p.fits v=true→fw v (p.enc (p.aX v))
 | .int k,v,h=>by
  cases v with
  | int k' n=>
   have hk:Jk k k'=true:=h
   rw [x8 hk]
   exact fw.refl _
  | _=>cases h
 | .bool,v,h=>by
  cases v with
  | bool b=>exact fw.refl _
  | _=>cases h
 | .str,v,h=>by
  cases v with
  | str b=>exact fw.refl _
  | _=>cases h
 | .agg ps,v,h=>by
  cases v with
  | agg cs=>
   obtain ⟨h1,h2⟩:=ps.bQ (show ps.fits cs=true from h)
   exact ⟨fun R w c hr=>by cases hr with | agg hr qR=>exact .agg (h1.rel hr) qR,rfl,fun _=>h1,fun hc=>by
    have pV:aK cs=true:=by simpa [AV.closed] using hc
    show AV.closed (.agg (ps.enc (ps.aX cs)))=true
    simp only [AV.closed]; exact h2 pV⟩
  | _=>cases h
 | .aR ps,v,h=>by
  cases v with
  | aR cs=>
   obtain ⟨h1,h2⟩:=ps.bQ (show ps.fits cs=true from h)
   exact ⟨fun R w c hr=>by cases hr with | aR hr=>exact .aR (h1.rel hr),rfl,fun hn=>by simp [AV.aG] at hn,fun hc=>by
    have pV:aK cs=true:=by simpa [AV.closed] using hc
    show AV.closed (.aR (ps.enc (ps.aX cs)))=true
    simp only [AV.closed]; exact h2 pV⟩
  | _=>cases h
 | .list sz p,v,h=>by
  cases v with
  | list k a8 es=>
   have hb:((Nat.beq sz a8 || es.isEmpty)&&allFit p.fits es)=true:=h
   simp only [Bool.and_eq_true,Bool.or_eq_true,Nat.beq_eq,List.isEmpty_iff] at hb
   have hw:=A1 (k:=k) (fun v=>p.bQ) hb.1.symm hb.2
   exact ⟨hw,rfl,fun _=>⟨hw,trivial⟩,fun _=>rfl⟩
  | _=>cases h
 | .own id sz p,v,h=>by
  cases v with
  | list k a8 es=>
   cases k with
   | own fU=>
    have hb:((Nat.beq id fU&&Nat.beq sz a8)&&allFit p.fits es)=true:=h
    simp only [Bool.and_eq_true,Nat.beq_eq] at hb
    obtain ⟨⟨rfl,rfl⟩,hf⟩:=hb
    have hw:=Cd (id:=id) (sz:=sz) (fun v=>p.bQ) hf
    exact ⟨hw,rfl,fun _=>⟨hw,trivial⟩,fun hc=>by simp [AV.closed,LK.closed] at hc⟩
   | _=>cases h
  | _=>cases h
 | .aM id sz p,v,h=>by
  cases v with
  | list k a8 es=>
   cases k with
   | aM fU j=>
    have hb:((Nat.beq id fU&&Nat.beq sz a8)&&allFit p.fits es)=true:=h
    simp only [Bool.and_eq_true,Nat.beq_eq] at hb
    obtain ⟨⟨rfl,rfl⟩,hf⟩:=hb
    have hw:=Ce (id:=id) (j:=j) (sz:=sz) (fun v=>p.bQ) hf
    exact ⟨hw,rfl,fun _=>⟨hw,trivial⟩,fun hc=>by simp [AV.closed,LK.closed] at hc⟩
   | _=>cases h
  | _=>cases h
 | .qm u,v,h=>by
  have:=fL (show cO v u=true from h)
  subst this
  exact fw.refl _
 | .two u v,a,h=>by
  have hv:(av.two u v).enc ((av.two u v).aX a)=a:=qp h
  rw [hv]
  exact fw.refl _
theorem aB.bQ:∀ (ps:aB) {l:List AV},ps.fits l=true→bL l (ps.enc (ps.aX l))∧(aK l=true→aK (ps.enc (ps.aX l))=true)
 | .nil,l,h=>by
  cases l with
  | nil=>exact ⟨trivial,fun h=>h⟩
  | cons _ _=>cases h
 | .cons p .nil,l,h=>by
  match l,h with
  | [],h=>cases h
  | a :: l,h=>
   have h':(p.fits a&&l.isEmpty)=true:=h
   simp only [Bool.and_eq_true,List.isEmpty_iff] at h'
   obtain ⟨h1,rfl⟩:=h'
   have d:=p.bQ h1
   exact ⟨⟨d.eu,trivial⟩,fun hc=>by
    simp only [aK,Bool.and_true] at hc
    show aK [p.enc (p.aX a)]=true
    simp only [aK,Bool.and_true]
    exact d.closed hc⟩
 | .cons p (.cons q ps),l,h=>by
  cases l with
  | nil=>cases h
  | cons a l=>
   have h':(p.fits a&&(aB.cons q ps).fits l)=true:=h
   rw [Bool.and_eq_true] at h'
   have d:=p.bQ h'.1
   obtain ⟨k1,k2⟩:=(aB.cons q ps).bQ h'.2
   exact ⟨⟨d.eu,k1⟩,fun hc=>by
    simp only [aK,Bool.and_eq_true] at hc
    show aK (p.enc (p.aX a) :: (aB.cons q ps).enc ((aB.cons q ps).aX l))=true
    simp only [aK,Bool.and_eq_true]
    exact ⟨d.closed hc.1,k2 hc.2⟩⟩
end
theorem av.mh (p:av) {v:AV} {x:p.T} (h:p.dec v=some x):fw v (p.enc x):=by
 unfold av.dec at h
 cases hf:p.fits v with
 | true=>rw [hf] at h; cases h; exact p.bQ hf
 | false=>rw [hf] at h; cases h
theorem aB.mh (ps:aB) {l:List AV} {x:ps.T} (h:ps.dec l=some x):bL l (ps.enc x)∧(aK l=true→aK (ps.enc x)=true):=by
 unfold aB.dec at h
 cases hf:ps.fits l with
 | true=>rw [hf] at h; cases h; exact ps.bQ hf
 | false=>rw [hf] at h; cases h
mutual
def av.plain:av→Bool
 | .agg ps=>ps.plain
 | .aR ps=>ps.plain
 | .list _ p=>p.plain
 | .own _ _ p=>p.plain
 | .aM _ _ p=>p.plain
 | .qm v=>cO v v
 | .two u v=>cO u u&&cO v v&&!cO u v
 | _=>true
def aB.plain:aB→Bool
 | .nil=>true
 | .cons p ps=>p.plain&&ps.plain
end
theorem jN {α:Type} {f:AV→Bool} {g:α→AV} (h:∀ x,f (g x)=true):∀ xs:List α,allFit f (xs.map g)=true
 | []=>rfl
 | x :: xs=>by simp only [List.map_cons,allFit,h x,jN h xs,Bool.and_self]
theorem qq {α:Type} {d:AV→α} {g:α→AV} (h:∀ x,d (g x)=x):∀ xs:List α,(xs.map g).map d=xs
 | []=>rfl
 | x :: xs=>by simp only [List.map_cons,h x,qq h xs]
mutual
theorem av.bC:∀ (p:av) (x:p.T),p.plain=true→p.fits (p.enc x)=true∧p.aX (p.enc x)=x
 | .int k,x,_=>⟨decide_eq_true rfl,rfl⟩
 | .bool,x,_=>⟨rfl,rfl⟩
 | .str,x,_=>⟨rfl,rfl⟩
 | .agg ps,x,h=>ps.bC x h
 | .aR ps,x,h=>ps.bC x h
 | .list sz p,x,h=>by
  refine ⟨?_,qq (fun y=>(p.bC y h).2) x⟩
  change ((Nat.beq sz sz || (List.map p.enc x).isEmpty)&&allFit p.fits (List.map p.enc x))=true
  rw [Nat.beq_refl,Bool.true_or,Bool.true_and]
  exact jN (fun y=>(p.bC y h).1) x
 | .own id sz p,x,h=>by
  refine ⟨?_,qq (fun y=>(p.bC y h).2) x⟩
  change ((Nat.beq id id&&Nat.beq sz sz)&&allFit p.fits (List.map p.enc x))=true
  rw [Nat.beq_refl,Nat.beq_refl,Bool.true_and,Bool.true_and]
  exact jN (fun y=>(p.bC y h).1) x
 | .aM id sz p,(x:Nat × List p.T),h=>by
  refine ⟨?_,?_⟩
  ·change ((Nat.beq id id&&Nat.beq sz sz)&&allFit p.fits (List.map p.enc x.2))=true
   rw [Nat.beq_refl,Nat.beq_refl,Bool.true_and,Bool.true_and]
   exact jN (fun y=>(p.bC y h).1) x.2
  ·change (x.1,(List.map p.enc x.2).map p.aX)=x
   rw [qq (fun y=>(p.bC y h).2) x.2]
 | .qm v,x,h=>⟨h,rfl⟩
 | .two u v,(x:Bool),h=>by
  change (cO u u&&cO v v&&!cO u v)=true at h
  simp only [Bool.and_eq_true,Bool.not_eq_true'] at h
  obtain ⟨⟨h1,h2⟩,h3⟩:=h
  cases x
  ·exact ⟨by change (cO u u || cO u v)=true; rw [h1]; rfl,h3⟩
  ·exact ⟨by change (cO v u || cO v v)=true; rw [h2,Bool.or_true],h2⟩
theorem aB.bC:∀ (ps:aB) (x:ps.T),ps.plain=true→ps.fits (ps.enc x)=true∧ps.aX (ps.enc x)=x
 | .nil,x,_=>⟨rfl,rfl⟩
 | .cons p .nil,x,h=>by
  have h':(p.plain&&true)=true:=h
  rw [Bool.and_true] at h'
  have:=p.bC x h'
  exact ⟨by change (p.fits (p.enc x)&&true)=true; rw [this.1]; rfl,this.2⟩
 | .cons p (.cons q ps),x,h=>by
  have h':(p.plain&&(aB.cons q ps).plain)=true:=h
  rw [Bool.and_eq_true] at h'
  have h1:=p.bC x.1 h'.1
  have h2:=(aB.cons q ps).bC x.2 h'.2
  refine ⟨?_,?_⟩
  ·change (p.fits (p.enc x.1)&&(aB.cons q ps).fits ((aB.cons q ps).enc x.2))=true
   rw [h1.1,h2.1]
   rfl
  ·change (p.aX (p.enc x.1),(aB.cons q ps).aX ((aB.cons q ps).enc x.2))=x
   rw [h1.2,h2.2]
   rfl
end
end Go.Am
namespace Go.Am
open Go
theorem bu (E:Env) {t:TypeId} {i:TI} (h:E.ti t=some i) :
  ∃ eC u,E.P.info? t=some eC∧E.P.underlying t=some u∧eC.size=i.size∧fV u=i.agg∧lC E.P u=some i.k∧dY eC=i.zero:=by
 have h1:=E.AQ t i h
 unfold AP at h1
 split at h1
 ·rename_i eC u h2 h3
  split at h1
  ·rename_i k hk
   cases h1
   exact ⟨eC,u,h2,h3,rfl,rfl,hk,rfl⟩
  ·cases h1
 ·cases h1
section runs
variable {P:Program} (w:World)
theorem tM {t:TypeId} {u:TypeDesc} (h:P.underlying t=some u):(isAgg t).run P w=.ok (fV u) w:=by
 unfold isAgg
 simp only [Sem.run_bind,run_underlying h,Result.andThen_ok]
 cases u <;> rfl
theorem run_sizeOf {t:TypeId} {i:TypeInfo} (h:P.info? t=some i):(sizeOf t).run P w=.ok i.size w:=by
 simp [sizeOf,typeInfo,h]
theorem eD {t:TypeId} {i:TypeInfo} {z:Value} (h:P.info? t=some i) (hz:i.zero=some z):(zeroValue t).run P w=.ok z w:=by
 simp [zeroValue,typeInfo,h,hz]
theorem qS (t:TypeId) (v:Value):(newVar t v).run P w=.ok ⟨w.heap.size,0,none⟩ (w.alloc (.cells v.cells t)):=by
 simp only [newVar,newRow,Sem.run_bind,run_newObj,Result.andThen_ok,Sem.run_pure]
 rfl
end runs
theorem qT {R:ah} {w:World} {ag:Bool} {l:List AV} {v:AV} {vs:List Value} (hm:od ag l=some v) (h:aA R w l vs) (h1:∀ x∈vs,x.oneCell'=true) :
  (ag=true→Rel R w v (.agg ⟨vs⟩))∧(ag=false→∃ c,vs=[c]∧Rel R w v c):=by
 unfold od at hm
 cases ag with
 | true=>
  simp at hm
  subst hm
  exact ⟨fun _=>.agg h h1,fun e=>by cases e⟩
 | false=>
  refine ⟨(fun e=>by cases e),fun _=>?_⟩
  simp only [Bool.false_eq_true,if_false] at hm
  split at hm
  ·cases hm
   cases h with
   | cons h t=>
    cases t
    exact ⟨_,rfl,h⟩
  ·cases hm
theorem kr {E:Env} {R:ah} {w:World} {t:TypeId} {i:TI} (hi:E.ti t=some i) {b off:Nat} {l:List AV} {vs:List Value} {v:AV}
  (hl:l.length=i.size) (hr:aA R w l vs) (h1:∀ x∈vs,x.oneCell'=true) (hc:∀ j x,vs[j]?=some x→w.cell? ⟨b,off+j,none⟩=some x) (hm:od i.agg l=some v) :
  ∃ c,(loadVar t ⟨b,off,none⟩).run E.P w=.ok c w∧Rel R w v c:=by
 obtain ⟨eC,u,e1,e2,e3,e4,_⟩:=bu E hi
 obtain ⟨m1,m2⟩:=qT hm hr h1
 unfold loadVar
 simp only [Sem.run_bind,tM w e2,Result.andThen_ok,e4]
 cases ha:i.agg with
 | true=>
  refine ⟨.agg ⟨vs⟩,?_,m1 ha⟩
  have hlen:eC.size=vs.length:=by rw [e3,← hl,hr.length]
  have:=run_loadCells_list (P:=E.P) w ⟨b,off,none⟩ vs (fun j x hx=>by rw [bG]; exact hc j x hx)
  simp [run_sizeOf w e1,hlen,this]
 | false=>
  obtain ⟨c,rfl,dp⟩:=m2 ha
  refine ⟨c,?_,dp⟩
  have:=hc 0 c (by simp)
  simp only [Nat.add_zero] at this
  simp [run_load,this]
theorem fM {w:World} {b:Nat} {vs:List Value} {el:TypeId} {fr:Nat × Nat} (h:w.heap[b]?=some (.cells ⟨vs⟩ el fr)) (j:Nat):w.cell? ⟨b,j,none⟩=vs[j]?:=by
 simp [World.cell?,h]
theorem pd {E:Env} {R:ah} {w:World} {β:Nat→Nat} {s:St} {a:Act} (h:aP E R w β s a) {p:SV} {c:Value} (hp:lE R w β p c) {cs:List AV} {off:Nat} (hc:jF s p=some (cs,off)) :
  ∃ b o vs,c=.pointer (some ⟨b,o+off,none⟩)∧aA R w cs vs∧(∀ x∈vs,x.oneCell'=true)∧∀ j x,vs[j]?=some x→w.cell? ⟨b,o+j,none⟩=some x:=by
 unfold jF at hc
 split at hc
 ·rename_i k dM
  split at hc
  ·rename_i cs' hk
   cases hc
   obtain ⟨⟨vs,el,h1,h2,h3⟩,_⟩:=h.b.box k cs hk
   exact ⟨β k,0,vs,by rw [hp]; simp,h2,h3,fun j x hx=>by rw [fM h1]; simpa using hx⟩
  ·cases hc
 ·rename_i id dM
  split at hc
  ·rename_i cs' hk
   cases hc
   cases hp with
   | @ptr _ _ b hb=>
    obtain ⟨vs,h1,h2,h3,_⟩:=h.g.obj id _ _ hk hb
    exact ⟨b,0,vs,by simp,h2,h3,fun j x hx=>by rw [fM h1]; simpa using hx⟩
  ·cases hc
 ·rename_i cs'
  cases hc
  cases hp with
  | ep hr=>
   obtain ⟨vs,h1,h2,h3,_⟩:=hr.get
   exact ⟨_,_,vs,rfl,h1,h2,h3⟩
 ·cases hc
theorem li {R:ah} {w:World} {off n:Nat} {cs l:List AV} {vs:List Value} (hs:zQ off n cs=some l) (h:aA R w cs vs) (h1:∀ x∈vs,x.oneCell'=true) :
  l.length=n∧aA R w l ((vs.drop off).take n)∧(∀ x∈(vs.drop off).take n,x.oneCell'=true)∧∀ j x,((vs.drop off).take n)[j]?=some x→vs[off+j]?=some x:=by
 obtain ⟨e1,e2⟩:=Jp hs
 subst e1
 refine ⟨e2,(h.drop off).take n,fun x hx=>h1 x (List.mem_of_mem_drop (List.mem_of_mem_take hx)),fun j x hx=>?_⟩
 rw [List.getElem?_take] at hx
 split at hx
 ·rwa [List.getElem?_drop] at hx
 ·cases hx
def bk (E:Env) (R:ah) (w:World) (β:Nat→Nat) (s:St) (a:Act) (o:Oper) (s':St):Prop:=
 ∃ nx x w' R' β',(execOp a.eval o).run E.P w=.ok nx w'∧(nx=.value x∨(nx=.skip∧x=undef))∧aP E R' w' β' s' (a.put o.dst x)∧Step R w β s.boxes R' w' β' s'.boxes
section ops
variable {E:Env} {R:ah} {w:World} {β:Nat→Nat} {s:St} {a:Act} {o:Oper}
@[simp] theorem aI (s:St) (d:Option Tmp) (x:SV):(s.put d x).boxes=s.boxes:=by
 cases d with
 | none=>rfl
 | some d=>simp only [St.put]; split <;> rfl
theorem ak (h:aP E R w β s a) {c:Value} {sv:SV} (hx:(execOp a.eval o).run E.P w=.ok (.value c) w) (hr:lE R w β sv c):bk E R w β s a o (s.put o.dst sv):=
 ⟨.value c,c,w,R,β,hx,.inl rfl,h.put o.dst hr,by rw [aI]; exact Step.refl R w β s.boxes⟩
theorem x9 {t:Bool} {x y:AV} {c d:Value} (hx:Rel R w x c) (hy:Rel R w y d):Rel R w (uz t x y) (if t=true then c else d):=by
 unfold uz
 split
 ·cases hx; cases hy; cases t <;> exact .bool _
 ·cases hx; cases hy
  split
  ·rename_i e; subst e; cases t <;> exact .int _ _
  ·cases t <;> exact .int _ _
 ·cases t
  ·exact hy
  ·exact hx
theorem gG (h:aP E R w β s a) (x:Operand) (ho:o.op=.move x∨o.op=.assign x) {y:SV} (hy:aY E s.ae x=y):bk E R w β s a o (s.put o.dst y):=by
 subst hy
 refine ak h (c:=a.eval x) ?_ (aE h x)
 rcases ho with ho | ho <;> simp [execOp,ho]
theorem A2 (h:aP E R w β s a) (c x y:Operand) (ho:o.op=.pick c x y) {t:Bool} {p q:AV} (h1:aY E s.ae c=.v (.bool t)) (h2:aY E s.ae x=.v p) (h3:aY E s.ae y=.v q) :
  bk E R w β s a o (s.put o.dst (.v (uz t p q))):=by
 have r1:=aE h c
 have r2:=aE h x
 have r3:=aE h y
 rw [h1] at r1; rw [h2] at r2; rw [h3] at r3
 refine ak h (c:=if t=true then a.eval x else a.eval y) ?_ (x9 r2 r3)
 have Ra:Rel R w (.bool t) (a.eval c):=r1
 generalize Cf:a.eval c=cc at Ra
 cases Ra
 simp [execOp,ho,asBool,Cf]
theorem A3 (h:aP E R w β s a) (t:TypeId) (x:Operand) (ho:o.op=.load t x) {v:AV} (hl:mT E s t (aY E s.ae x)=some v) :
  bk E R w β s a o (s.put o.dst (.v v)):=by
 unfold mT at hl
 split at hl
 ·rename_i i cs off hi hc
  split at hl
  ·rename_i l hs
   obtain ⟨b,o',vs,e,h1,h2,h3⟩:=pd h (aE h x) hc
   obtain ⟨k1,k2,k3,k4⟩:=li hs h1 h2
   obtain ⟨c,hc,dp⟩:=kr (E:=E) hi (b:=b) (off:=o'+off) k1 k2 k3 (fun j y hy=>by rw [Nat.add_assoc]; exact h3 _ _ (k4 j y hy)) hl
   refine ak h (c:=c) ?_ dp
   simp [execOp,ho,Instr.loadAt,e,Instr.sureAddr,hc]
  ·cases hl
 ·cases hl
theorem gP {b:Nat} (hI:∀ o,¬ R.I b o) (cs:Array Value):Ext R w R (w.setRow b cs):=
 ⟨fun _ _ h=>h,fun b' o h=>bo (setRow_other w b b' cs (fun e=>hI o (e ▸ h))) o,fun _ ro h=>⟨ro,h,bF.refl ro⟩,fun b' r hb=>⟨r,by
  by_cases e:b'=b
  ·subst e
   have bD:b' < w.heap.size:=aQ hb
   have hv:w.heap[b']=.loop r:=(Array.getElem?_eq_some_iff.1 hb).2
   unfold World.setRow
   rw [Array.getElem?_eq_getElem (by simpa using bD),Array.getElem_modify]
   simp [hv]
  ·exact (setRow_other w b b' cs e).trans hb,rfl,rfl,rfl,rfl,rfl⟩⟩
theorem aA.bt {cs ys:List AV} {vs us:List Value} {off:Nat} (h:aA R w cs vs) (k:aA R w ys us) (hl:off+ys.length≤cs.length) :
  aA R w (bt cs off ys) (vs.take off++us++vs.drop (off+us.length)):=by
 rw [cW cs off ys hl,← k.length]
 exact ((h.take off).append k).append (h.drop _)
theorem fA {vs us:List Value} {off n:Nat} (h:∀ x∈vs,x.oneCell'=true) (k:∀ x∈us,x.oneCell'=true):∀ x∈vs.take off++us++vs.drop n,x.oneCell'=true:=by
 intro x hx
 simp only [List.mem_append] at hx
 rcases hx with (hx | hx) | hx
 ·exact h x (List.mem_of_mem_take hx)
 ·exact k x hx
 ·exact h x (List.mem_of_mem_drop hx)
theorem gv {t:TypeId} {i:TI} (hi:E.ti t=some i) {b off:Nat} {vs:List Value} {el:TypeId} {c:Value} (hb:w.heap[b]?=some (.cells ⟨vs⟩ el (0,0)))
  (hs:c.cells.toList.length=i.size) (hl:off+c.cells.toList.length≤vs.length) (h1:∀ v∈c.cells.toList,v.oneCell'=true) :
  (storeVar t ⟨b,off,none⟩ c).run E.P w=.ok () (w.setRow b ⟨vs.take off++c.cells.toList++vs.drop (off+c.cells.toList.length)⟩):=by
 obtain ⟨eC,u,e1,e2,e3,_⟩:=bu E hi
 have iA:=run_storeCells_at (P:=E.P) b off el c.cells.toList 0 ⟨vs⟩ w hb (by simpa using hl) h1
 have bT:c.cells.size=eC.size:=by rw [e3,← hs]; simp
 simp only [Nat.add_zero] at iA
 unfold storeVar
 simp only [Sem.run_bind,run_sizeOf w e1,Result.andThen_ok,Sem.run_ite,bT,ne_eq,not_true_eq_false,if_false]
 simpa using iA
theorem aP.yd (h:aP E R w β s a) {id b k:Nat} {cs:List AV} (hb:nth R.obj id=some (.bn b)) (hk:cz s.boxes k=some cs):β k≠b:=by
 intro e
 exact (h.b.box k cs hk).2.2 ⟨id,_,hb,by rw [e]; rfl⟩
theorem ye (h:aP E R w β s a) (t:TypeId) (p x:Operand) (ho:o.op=.store t p x) (hd:o.dst=none) {s':St} (hs:fW E s t (aY E s.ae p) (aY E s.ae x)=some s') :
  bk E R w β s a o s':=by
 unfold fW at hs
 have rp:=aE h p
 have rx:=aE h x
 split at hs
 ·rename_i i v hi hx
  rw [hx] at rx
  split at hs
  ·rename_i dD
   simp only [Bool.and_eq_true] at dD
   obtain ⟨EV,hlen⟩:=dD
   have hlen:=Nat.eq_of_beq_eq_true hlen
   obtain ⟨c1,c2⟩:=Rel.cells rx EV
   have vF:v.cells.length=(a.eval x).cells.toList.length:=c1.length
   split at hs
   ·-- a local box
    rename_i k off Mi
    rw [Mi] at rp
    split at hs
    ·rename_i cs hk
     split at hs
     ·rename_i hle
      cases hs
      have hle:=Nat.le_of_ble_eq_true hle
      obtain ⟨⟨vs,el,b1,b2,b3⟩,b4,b5⟩:=h.b.box k cs hk
      have aU:=gv (E:=E) (w:=w) hi (off:=off) (c:=a.eval x) b1 (by rw [← vF]; exact hlen) (by rw [← vF,← b2.length]; exact hle) c2
      have hex:=gP (R:=R) (w:=w) b4 ⟨vs.take off++(a.eval x).cells.toList++vs.drop (off+(a.eval x).cells.toList.length)⟩
      refine ⟨.skip,undef,w.setRow (β k) ⟨vs.take off++(a.eval x).cells.toList++vs.drop (off+(a.eval x).cells.toList.length)⟩,R,β,?_,.inr ⟨rfl,rfl⟩,?_,?_⟩
      ·simp [execOp,ho,Instr.storeAt,show a.eval p=.pointer (some ⟨β k,off,none⟩) from rp,Instr.sureAddr,aU]
      ·rw [hd]
       refine ⟨?_,?_,h.t.mono hex,h.n,h.d⟩
       ·exact h.g.bA hex rfl (fun b hb=>setRow_other w _ b _ (fun e=>b5 (e ▸ hb))) (fun _ _ _ hi=>hi) (fun b o hi=>by have:=h.g.wf b o hi; simp; omega)
       ·refine ⟨fun k' cs' ga=>?_,fun k1 k2 x1 x2 g1 g2=>?_⟩
        ·rcases cV ga with ⟨rfl,e⟩ | ⟨bT,Mj⟩
         ·cases e
          exact ⟨⟨_,el,setRow_heap w _ _ _ el (0,0) b1,(b2.bt c1 hle).mono hex,fA b3 c2⟩,b4,b5⟩
         ·obtain ⟨⟨vs',Ow,d1,d2,d3⟩,d4,d5⟩:=h.b.box k' cs' Mj
          refine ⟨⟨vs',Ow,?_,d2.mono hex,d3⟩,d4,d5⟩
          rw [setRow_other]
          ·exact d1
          ·exact fun e=>bT (h.b.inj k' k cs' cs Mj hk e).symm
        ·have q1:∃ y,cz s.boxes k1=some y:=by
          rcases cV g1 with ⟨rfl,_⟩ | ⟨_,g⟩
          ·exact ⟨_,hk⟩
          ·exact ⟨_,g⟩
         have q2:∃ y,cz s.boxes k2=some y:=by
          rcases cV g2 with ⟨rfl,_⟩ | ⟨_,g⟩
          ·exact ⟨_,hk⟩
          ·exact ⟨_,g⟩
         obtain ⟨y1,q1⟩:=q1
         obtain ⟨y2,q2⟩:=q2
         exact h.b.inj k1 k2 y1 y2 q1 q2
      ·have uF:Own R β s.boxes (β k):=.inr ⟨k,cs,hk,rfl⟩
       refine ⟨hex,rfl,rfl,rfl,by simp,fun b _ hn=>setRow_other w _ b _ (fun e=>hn (e ▸ uF)),fun b _ hb=>?_,fun b o hi _ _=>hi⟩
       rcases hb with hb | ⟨k',cs',ga,e⟩
       ·exact .inl hb
       ·rcases cV ga with ⟨rfl,_⟩ | ⟨_,g⟩
        ·exact .inr ⟨k,cs,hk,e⟩
        ·exact .inr ⟨k',cs',g,e⟩
     ·cases hs
    ·cases hs
   ·-- an object
    rename_i id off Mi
    rw [Mi] at rp
    split at hs
    ·rename_i cs hk
     split at hs
     ·rename_i hle
      cases hs
      have hle:=Nat.le_of_ble_eq_true hle
      have Mk:Rel R w (.ptr id off) (a.eval p):=rp
      generalize Ml:a.eval p=pv at Mk
      cases Mk with
      | @ptr _ _ b hb=>
      obtain ⟨vs,b1,b2,b3,b4⟩:=h.g.obj id _ _ hk hb
      have aU:=gv (E:=E) (w:=w) hi (off:=off) (c:=a.eval x) b1 (by rw [← vF]; exact hlen) (by rw [← vF,← b2.length]; exact hle) c2
      have hex:=gP (R:=R) (w:=w) b4 ⟨vs.take off++(a.eval x).cells.toList++vs.drop (off+(a.eval x).cells.toList.length)⟩
      refine ⟨.skip,undef,w.setRow b ⟨vs.take off++(a.eval x).cells.toList++vs.drop (off+(a.eval x).cells.toList.length)⟩,R,β,?_,.inr ⟨rfl,rfl⟩,?_,?_⟩
      ·simp [execOp,ho,Instr.storeAt,Ml,Instr.sureAddr,aU]
      ·rw [hd]
       refine ⟨⟨?_,fun fU go ro hg hr=>?_,h.g.inj,fun b' o' oq=>by have:=h.g.wf b' o' oq; simp; omega,fun g cs' hg=>(h.g.bY g cs' hg).mono hex,by first | exact h.g.lo | exact Nat.le_succ_of_le h.g.lo⟩,?_,h.t.mono hex,h.n,h.d⟩
       ·simp [St.bp,h.g.len]
       ·rcases ca hg with ⟨rfl,rfl,_⟩ | ⟨bT,mi⟩
        ·rw [hb] at hr
         cases hr
         exact ⟨_,setRow_heap w _ _ _ _ (0,0) b1,(b2.bt c1 hle).mono hex,fA b3 c2,b4⟩
        ·refine (h.g.obj fU go ro mi hr).mono hex (fun b' iU=>setRow_other w _ b' _ (fun e=>bT ?_)) (fun _ _ _ hi=>hi)
         subst e
         exact h.g.inj id fU _ _ b' hb hr rfl iU
       ·exact h.b.bA hex (fun k cs' ga=>setRow_other w _ _ _ (h.yd hb ga)) (fun _ _ _ _ hi=>hi) (fun _ _ _ hl=>hl)
      ·have uF:Own R β s.boxes b:=.inl ⟨id,_,hb,rfl⟩
       exact ⟨hex,rfl,rfl,rfl,by simp,fun b' _ hn=>setRow_other w _ b' _ (fun e=>hn (e ▸ uF)),fun _ _ hb=>hb,fun b o hi _ _=>hi⟩
     ·cases hs
    ·cases hs
   ·cases hs
  ·cases hs
 ·cases hs
end ops
end Go.Am
namespace Go.Am
open Go
section ops
variable {E:Env} {R:ah} {w:World} {β:Nat→Nat} {s:St} {a:Act} {o:Oper}
def ah.add (R:ah) (ro:RO):ah:=⟨R.I,R.obj++[ro]⟩
theorem eJ (wf:∀ b o,R.I b o→b < w.heap.size) (x:Obj) (ro:RO):Ext R w (R.add ro) (w.alloc x):=
 ⟨fun _ _ h=>h,fun b o h=>bo (heap_alloc_old w x b (wf b o h)) o,fun _ r h=>⟨r,cb h,bF.refl r⟩,.old fun b hb=>heap_alloc_old w x b hb⟩
theorem jn {ro:RO} {b:Nat} (h:Live (R.add ro) b):Live R b∨ro.has b:=by
 obtain ⟨id,r,h1,h2⟩:=h
 rcases ao h1 with h1 | ⟨_,rfl⟩
 ·exact .inl ⟨id,r,h1,h2⟩
 ·exact .inr h2
theorem aP.iV (h:aP E R w β s a) (x:Obj) (go:GO) (ro:RO) (bj:∀ b,ro.has b→b=w.heap.size) (e9:eB (R.add ro) (w.alloc x) go ro):aP E (R.add ro) (w.alloc x) β (s.cJ go) a where
 g:=by
  have e:=eJ (R:=R) (w:=w) h.g.wf x ro
  refine ⟨by simp [St.cJ,ah.add,h.g.len],fun id g r h1 h2=>?_,fun i j ri rj b h1 h2 b1 b2=>?_,fun b o hi=>?_,fun g cs hg=>(h.g.bY g cs hg).mono e,by first | exact h.g.lo | exact Nat.le_succ_of_le h.g.lo⟩
  ·rcases ao h2 with h2 | ⟨h3,rfl⟩
   ·have bD:=ba h2
    rw [h.g.len] at bD
    rcases ao h1 with h1 | ⟨h4,_⟩
    ·exact (h.g.obj id g r h1 h2).mono e (fun b hb=>heap_alloc_old w x b (h.g.bl ⟨id,r,h2,hb⟩)) (fun _ _ _ hi=>hi)
    ·omega
   ·rcases ao h1 with h1 | ⟨h4,rfl⟩
    ·have:=ba h1
     rw [h3,h.g.len] at this
     omega
    ·exact e9
  ·rcases ao h1 with g1 | ⟨h3,e1⟩
   ·rcases ao h2 with g2 | ⟨h4,e2⟩
    ·exact h.g.inj i j ri rj b g1 g2 b1 b2
    ·have:=h.g.bl ⟨i,ri,g1,b1⟩
     rw [e2] at b2
     have:=bj b b2
     omega
   ·rcases ao h2 with g2 | ⟨h4,e2⟩
    ·have:=h.g.bl ⟨j,rj,g2,b2⟩
     rw [e1] at b1
     have:=bj b b1
     omega
    ·omega
  ·have:=h.g.wf b o hi
   simp
   omega
 b:=h.b.bA (eJ h.g.wf x ro) (fun k cs hk=>heap_alloc_old w x _ (h.cN (.inr ⟨k,cs,hk,rfl⟩))) (fun _ _ _ _ hi=>hi) (fun k cs hk hl=>by
  rcases jn hl with hl | hl
  ·exact hl
  ·have:=h.cN (.inr ⟨k,cs,hk,rfl⟩)
   have hl:=bj _ hl
   omega)
 t:=h.t.mono (eJ h.g.wf x ro)
 n:=h.n
 d:=h.d.mono (eJ h.g.wf x ro)
theorem cg (h:aP E R w β s a) (x:Obj) (ro:RO) (bj:∀ b,ro.has b→b=w.heap.size):Step R w β s.boxes (R.add ro) (w.alloc x) β s.boxes:=
 ⟨eJ h.g.wf x ro,rfl,rfl,rfl,by simp,fun b hb _=>heap_alloc_old w x b hb,fun b hb ho=>by
  rcases ho with ho | ho
  ·rcases jn ho with ho | ho
   ·exact .inl ho
   ·have ho:=bj _ ho
    omega
  ·exact .inr ho,fun _ _ hi _ _=>hi⟩
theorem eK (h:aP E R w β s a) (ro:RO):nth (R.add ro).obj s.G.length=some ro:=by
 rw [← h.g.len]
 exact dN _ _
theorem vP {f:FuncId} (h:aP E R w β s a) {v:AV} {c:Value} {t:TypeId} (hv:Rel R w v c) (hn:v.aG=true)
  (hx:(execOp a.eval o).run E.P w=.ok (.value (.pointer (some ⟨w.heap.size,0,none⟩))) (w.alloc (.cells c.cells t))) {s':St} (ha:dc E f s o.dst t v.cells=some (true,s')) :
  bk E R w β s a o s':=by
 obtain ⟨c1,c2⟩:=Rel.cells hv hn
 unfold dc at ha
 split at ha
 ·cases ha
 ·rename_i d hd
  split at ha
  ·-- an object
   cases ha
   have e9:eB (R.add (.bn w.heap.size)) (w.alloc (.cells c.cells t)) (.row v.cells t) (.bn w.heap.size):=
    ⟨c.cells.toList,heap_alloc_new w _,c1.mono (eJ h.g.wf _ _),c2,fun o' hi=>by have:=h.g.wf _ _ hi; omega⟩
   have b7:=h.iV (.cells c.cells t) (.row v.cells t) (.bn w.heap.size) (by exact fun _ h=>h) e9
   refine ⟨_,.pointer (some ⟨w.heap.size,0,none⟩),_,R.add (.bn w.heap.size),β,hx,.inl rfl,?_,?_⟩
   ·rw [hd]
    exact b7.put (some d) (x:=.v (.ptr s.G.length 0)) (Rel.ptr (eK h _))
   ·rw [aI]
    exact cg h _ _ (by exact fun _ h=>h)
  ·split at ha
   ·rename_i Ox
    injection ha with ha
    injection ha with _ Jq
    subst Jq
    have e:=ot (R:=R) (w:=w) h.g.wf (.cells c.cells t)
    let β':Nat→Nat:=fun k=>if k=d then w.heap.size else β k
    have zW:β' d=w.heap.size:=by simp [β']
    have bT:∀ k,k≠d→β' k=β k:=fun k hk=>by simp [β',hk]
    have Se:d < a.tmps.size:=by rw [h.n]; exact Nat.le_of_ble_eq_true Ox
    have yf:((s.kill d).pU d v.cells).put (some d) (.lp d 0)=⟨.put d (.lp d 0) :: .kill d :: s.ae,(d,v.cells) :: s.boxes,s.G,s.marks,s.ro,s.n⟩:=by
     simp only [St.put,St.pU,St.kill,Ox]
    refine ⟨_,.pointer (some ⟨w.heap.size,0,none⟩),_,R,β',hx,.inl rfl,?_,?_⟩
    ·rw [hd,yf]
     refine ⟨?_,⟨fun k cs hk=>?_,fun k k' cs cs' hk ga he=>?_⟩,?_,by simp [Act.put,h.n],h.d⟩
     ·exact h.g.bA e rfl (fun b hb=>heap_alloc_old w _ b (h.g.bl hb)) (fun _ _ _ hi=>hi) (fun b o hi=>by have:=h.g.wf b o hi; simp; omega)
     ·rcases cV hk with ⟨rfl,he⟩ | ⟨EW,hk⟩
      ·cases he
       rw [zW]
       exact ⟨⟨c.cells.toList,t,heap_alloc_new w _,c1.mono e,c2⟩,fun o' hi=>by have:=h.g.wf _ _ hi; omega,fun hl=>by have:=h.g.bl hl; omega⟩
      ·rw [bT k (Ne.symm EW)]
       obtain ⟨⟨vs,el,b1,b2,b3⟩,b4,b5⟩:=h.b.box k cs hk
       exact ⟨⟨vs,el,(heap_alloc_old w _ _ (aQ b1)).trans b1,b2.mono e,b3⟩,b4,b5⟩
     ·rcases cV hk with ⟨rfl,_⟩ | ⟨EW,hk⟩
      ·rcases cV ga with ⟨rfl,_⟩ | ⟨Jr,ga⟩
       ·rfl
       ·rw [zW,bT k' (Ne.symm Jr)] at he
        have:=h.cN (.inr ⟨k',cs',ga,rfl⟩)
        omega
      ·rcases cV ga with ⟨rfl,_⟩ | ⟨Jr,ga⟩
       ·rw [zW,bT k (Ne.symm EW)] at he
        have:=h.cN (.inr ⟨k,cs,hk,rfl⟩)
        omega
       ·rw [bT k (Ne.symm EW),bT k' (Ne.symm Jr)] at he
        exact h.b.inj k k' cs cs' hk ga he
     ·intro i hi
      by_cases Pb:d=i
      ·subst Pb
       rw [au]
       refine ⟨.pointer (some ⟨w.heap.size,0,none⟩),by simp [Act.put,Se],?_⟩
       show Value.pointer _=_
       rw [zW]
      ·rw [aC Pb] at hi ⊢
       rcases zU (l:=s.ae) (d:=d) (t:=i) with ⟨h1,h2⟩ | h1
       ·rw [h1] at hi ⊢
        obtain ⟨c',q1,q2⟩:=h.t i hi
        refine ⟨c',?_,?_⟩
        ·simp only [Act.put]
         rw [Array.getElem?_setIfInBounds_ne Pb]
         exact q1
        ·cases ou:lk s.ae i with
         | none=>trivial
         | v y=>rw [ou] at q2; exact Rel.mono e q2
         | lp k off=>
          rw [ou] at q2
          show c'=_
          rw [bT k (h2 k off ou)]
          exact q2
       ·exact absurd h1 hi
    ·rw [yf]
     refine ⟨e,rfl,rfl,rfl,by simp,fun b hb _=>heap_alloc_old w _ b hb,fun b hb ho=>?_,fun _ _ hi _ _=>hi⟩
     rcases ho with ho | ⟨k,cs,hk,he⟩
     ·exact .inl ho
     ·rcases cV hk with ⟨rfl,_⟩ | ⟨EW,hk⟩
      ·rw [zW] at he
       omega
      ·rw [bT k (Ne.symm EW)] at he
       exact .inr ⟨k,cs,hk,he⟩
   ·cases ha
theorem b8 {i:TypeInfo} {z:AV} (h:dY i=some z):∃ c,i.zero=some c∧∀ R w,Rel R w z c:=by
 unfold dY at h
 split at h
 ·rename_i c hc
  exact ⟨c,hc,fun R w=>pc h⟩
 ·cases h
theorem yg {f:FuncId} (h:aP E R w β s a) (t:TypeId) (ho:o.op=.alloc t) {i:TI} {z:AV} (hi:E.ti t=some i) (hz:i.zero=some z) (hn:z.aG=true) {s':St} (ha:dc E f s o.dst t z.cells=some (true,s')) :
  bk E R w β s a o s':=by
 obtain ⟨eC,u,e1,e2,e3,e4,e5,e6⟩:=bu E hi
 rw [hz] at e6
 obtain ⟨c,hc,hr⟩:=b8 e6
 refine vP h (hr R w) hn (t:=t) ?_ ha
 simp [execOp,ho,Instr.alloc,eD w e1 hc,qS]
theorem Cg {f:FuncId} (h:aP E R w β s a) (t:TypeId) (x:Operand) (ho:o.op=.box t x) {v:AV} (hv:aY E s.ae x=.v v) (hn:v.aG=true) {s':St} (ha:dc E f s o.dst t v.cells=some (true,s')) :
  bk E R w β s a o s':=by
 have hr:=aE h x
 rw [hv] at hr
 refine vP h hr hn (t:=t) ?_ ha
 simp [execOp,ho,Instr.box,qS]
end ops
end Go.Am
namespace Go.Am
open Go
section types
variable {P:Program}
theorem jO:∀ {fs:List Field} {l:List (Nat × Nat × Bool)},fieldsOf P fs=some l→∀ {j o sz:Nat} {ag:Bool},nth l j=some (o,sz,ag) →
  ∃ f fi u,fs[j]?=some f∧f.offset=o∧P.info? f.type=some fi∧fi.size=sz∧P.underlying f.type=some u∧fV u=ag
 | [],l,h,j,o,sz,ag,hn=>by simp [fieldsOf] at h; subst h; simp [nth] at hn
 | f :: fs,l,h,j,o,sz,ag,hn=>by
  unfold fieldsOf at h
  split at h
  ·rename_i i u r h1 h2 h3
   cases h
   cases j with
   | zero=>simp [nth] at hn; obtain ⟨e1,e2,e3⟩:=hn; exact ⟨f,i,u,by simp,e1,h1,e2,h2,e3⟩
   | succ j=>
    obtain ⟨f',fi,u',g1,g2⟩:=jO h3 (show nth r j=some (o,sz,ag) from hn)
    exact ⟨f',fi,u',by simpa using g1,g2⟩
  ·cases h
theorem kg:∀ {fs:List Field} {l:List (Nat × Nat × Bool)},fieldsOf P fs=some l→fs.mapM (fun f=>(P.info? f.type).map fun i=>(f.offset,i.size))=some (l.map fun x=>(x.1,x.2.1))
 | [],l,h=>by simp [fieldsOf] at h; subst h; simp
 | f :: fs,l,h=>by
  unfold fieldsOf at h
  split at h
  ·rename_i i u r h1 h2 h3
   cases h
   simp [List.mapM_cons,h1,kg h3]
  ·cases h
theorem zX {u:TypeDesc} {l:List (Nat × Nat × Bool)} (h:lC P u=some (.st l)):∃ fs,u=.struct fs∧fieldsOf P fs.toList=some l:=by
 cases u <;> simp only [lC] at h <;> try (cases h; done)
 all_goals (try (split at h <;> cases h; done))
 rename_i fs
 split at h
 ·rename_i l' hl
  cases h
  exact ⟨fs,rfl,hl⟩
 ·cases h
theorem ks {u:TypeDesc} {n esz:Nat} {ag:Bool} (h:lC P u=some (.arr n esz ag)):∃ e i ue,u=.array n e∧P.info? e=some i∧i.size=esz∧P.underlying e=some ue∧fV ue=ag:=by
 cases u <;> simp only [lC] at h <;> try (cases h; done)
 all_goals (try (split at h <;> cases h; done))
 rename_i m e
 split at h
 ·rename_i i ue h1 h2
  cases h
  exact ⟨e,i,ue,rfl,h1,rfl,h2,rfl⟩
 ·cases h
theorem cA {u:TypeDesc} {e esz lG:Nat} {ag:Bool} {z:Option AV} (h:lC P u=some (.sl e esz ag lG z)) :
  ∃ i ue,u=.slice e∧P.info? e=some i∧i.size=esz∧i.bytes=lG∧P.underlying e=some ue∧fV ue=ag∧dY i=z:=by
 cases u <;> simp only [lC] at h <;> try (cases h; done)
 all_goals (try (split at h <;> cases h; done))
 rename_i e'
 split at h
 ·rename_i i ue h1 h2
  injection h with h
  injection h with g1 g2 g3 g4 g5
  subst g1; subst g2; subst g3; subst g4; subst g5
  exact ⟨i,ue,rfl,h1,rfl,rfl,h2,rfl,rfl⟩
 ·cases h
theorem gQ {u:TypeDesc} (h:lC P u=some .str):u=.string:=by
 cases u <;> simp only [lC] at h <;> try (cases h; done)
 all_goals (try (split at h <;> cases h; done))
 rfl
theorem nf {u:TypeDesc} {k:IntKind} (h:lC P u=some (.int k)):u=.int k:=by
 cases u <;> simp only [lC] at h <;> try (cases h; done)
 all_goals (try (split at h <;> cases h; done))
 cases h
 rfl
theorem jo {u:TypeDesc} {k e:TypeId} {z:Option AV} (h:lC P u=some (.map k e z)):u=.map k e∧∃ i,P.info? e=some i∧dY i=z:=by
 cases u <;> simp only [lC] at h <;> try (cases h; done)
 all_goals (try (split at h <;> cases h; done))
 split at h
 ·rename_i i h1
  cases h
  exact ⟨rfl,i,h1,rfl⟩
 ·cases h
end types
section ops
variable {E:Env} {R:ah} {w:World} {β:Nat→Nat} {s:St} {a:Act} {o:Oper}
theorem tN {p q:SV} {c:Value} {n:Nat} (hp:lE R w β p c) (hm:tF n p=some q) :
  ∃ b o,c=.pointer (some ⟨b,o,none⟩)∧lE R w β q (.pointer (some ⟨b,o+n,none⟩)):=by
 unfold tF at hm
 split at hm
 ·cases hm
  exact ⟨_,_,hp,rfl⟩
 ·cases hm
  cases hp with
  | @ptr _ _ b hb=>exact ⟨b,_,rfl,Rel.ptr hb⟩
 ·cases hm
  cases hp with
  | @ep _ b o hr=>
   refine ⟨b,o,rfl,Rel.ep ?_⟩
   rw [qQ]
   exact hr.drop n
 ·cases hm
  cases hp with
  | @gp _ _ _ _ _ b o _ ro hr da=>
   refine ⟨b,o,rfl,Rel.gp hr ?_⟩
   cases ro with
   | none=>trivial
   | aZ=>exact da.elim
   | bn _=>exact da.elim
   | aM _=>exact da.elim
   | tok f1 b1 c1=>exact ⟨da.1,fun e=>⟨(da.2 e).1,by rw [(da.2 e).2,Nat.add_assoc]⟩⟩
 ·cases hm
theorem qU (h:aP E R w β s a) (t:TypeId) (x:Operand) (j:Nat) (ho:o.op=.fieldAddr t x j) {q:SV} (hq:gO E t (aY E s.ae x) j=some q) :
  bk E R w β s a o (s.put o.dst q):=by
 unfold gO at hq
 split at hq
 ·rename_i i hi
  split at hq
  ·rename_i fs hk
   split at hq
   ·rename_i off sz ag hn
    split at hq
    ·rename_i cZ
     have cZ:=Nat.le_of_ble_eq_true cZ
     obtain ⟨eC,u,e1,e2,e3,e4,e5,e6⟩:=bu E hi
     rw [hk] at e5
     obtain ⟨fl,rfl,hf⟩:=zX e5
     obtain ⟨f,fi,u',g1,g2,g3,g4,g5,g6⟩:=jO hf hn
     obtain ⟨b,o',m1,m2⟩:=tN (aE h x) hq
     refine ak h ?_ m2
     have Pc:fl[j]?=some f:=by simpa using g1
     have bT:¬ fi.size=0:=by omega
     simp [execOp,ho,Instr.fieldAt,run_underlying e2,Pc,m1,Instr.sureAddr,fieldPlace,run_sizeOf w g3,bT,bG,g2]
    ·cases hq
   ·cases hq
  ·cases hq
 ·cases hq
theorem vQ {b o sz:Nat} {es:List AV} (h:ee R w b o sz es) {n:Nat} {e:AV} (hn:nth es n=some e):cG R w b (o+n * sz) e.cells∧e.cells.length=sz∧e.aG=true:=by
 induction es generalizing o n with
 | nil=>simp [nth] at hn
 | cons x l ih=>
  cases h with
  | cons hl ht _ h t=>
   cases n with
   | zero=>simp [nth] at hn; subst hn; exact ⟨by simpa using h,hl,ht⟩
   | succ n=>
    have:=ih t (show nth l n=some e from hn)
    rw [show o+sz+n * sz=o+(n+1) * sz by rw [Nat.add_mul]; omega] at this
    exact this
theorem qV (h:aP E R w β s a) (t:TypeId) (x ix:Operand) (ho:o.op=.indexAddr t x ix) {q:SV} (hq:gN E t (aY E s.ae x) (aY E s.ae ix)=some (true,q)) :
  bk E R w β s a o (s.put o.dst q):=by
 have rx:=aE h x
 have ri:=aE h ix
 unfold gN at hq
 split at hq
 ·rename_i i k n hi Mm
  rw [Mm] at ri
  have Iv:Rel R w (.int k n) (a.eval ix):=ri
  generalize EX:a.eval ix=iv at Iv
  cases Iv
  obtain ⟨eC,u,e1,e2,e3,e4,e5,e6⟩:=bu E hi
  split at hq
  ·-- a list
   rename_i elem esz ag lG z kk sz es hk hx
   rw [hx] at rx
   rw [hk] at e5
   obtain ⟨ie,ue,rfl,f1,f2,f3,f4,f5,f6⟩:=cA e5
   split at hq
   ·rename_i hc
    have key:∀ (u:AV),(0≤n∧n < (es.length:Int))→bL (bM es n.toNat).cells u.cells→bk E R w β s a o (s.put o.dst (.v (.ep u.cells))):=fun u qW hu=>by
     obtain ⟨vG,BW⟩:=qW
     have cD:Rel R w (.list kk sz es) (a.eval x):=rx
     generalize dx:a.eval x=xv at cD
     cases cD with
     | gr=>simp at BW; omega
     | fy=>simp at BW; omega
     | jK=>simp at BW; omega
     | jl=>simp at BW; omega
     | iS=>simp at BW; omega
     | @list _ _ _ b o' len cap hr hl fg Ch=>
      subst hl
      have bD:n.toNat < es.length:=by omega
      obtain ⟨e,he⟩:∃ e,nth es n.toNat=some e:=⟨es[n.toNat],by rw [aJ]; exact List.getElem?_eq_getElem bD⟩
      have cZ:sz=esz:=by
       simp only [Bool.or_eq_true] at hc
       rcases hc with hc | hc
       ·exact Nat.eq_of_beq_eq_true hc
       ·cases es with
        | nil=>simp at bD
        | cons _ _=>simp at hc
      obtain ⟨g1,_,_⟩:=vQ hr he
      refine ak h (c:=.pointer (some ⟨b,o'+n.toNat * sz,none⟩)) ?_ ?_
      ·have dD:0≤n∧n < (es.length:Int):=⟨vG,BW⟩
       simp [execOp,ho,Instr.indexAt,EX,dx,asIntOf,run_underlying e2,dD,run_sizeOf w f1,f2,cZ,bG]
      ·have:bM es n.toNat=e:=by simp [bM,he]
       rw [this] at hu
       exact .ep (hu.Cc g1)
    split at hq
    ·rename_i p hp
     injection hq with hq
     injection hq with qW ku
     subst ku
     rw [Bool.and_eq_true] at qW
     have dD:=of_decide_eq_true qW.1
     have hd:=p.bQ qW.2
     have bD:n.toNat < es.length:=by omega
     refine key _ dD (hd.cells ?_)
     obtain ⟨e,he⟩:∃ e,nth es n.toNat=some e:=⟨es[n.toNat],by rw [aJ]; exact List.getElem?_eq_getElem bD⟩
     have:bM es n.toNat=e:=by simp [bM,he]
     rw [this]
     have cD:Rel R w (.list kk sz es) (a.eval x):=rx
     generalize a.eval x=xv at cD
     cases cD with
     | gr=>simp at bD
     | fy=>simp at bD
     | jK=>simp at bD
     | jl=>simp at bD
     | iS=>simp at bD
     | list hr _ _ _=>exact (vQ hr he).2.2
    ·injection hq with hq
     injection hq with qW ku
     subst ku
     exact key _ (of_decide_eq_true qW) (bL.refl _)
   ·cases hq
  ·-- a heap slice
   rename_i elem esz ag lG z id off sz len cap hk hx
   rw [hx] at rx
   rw [hk] at e5
   obtain ⟨ie,ue,rfl,f1,f2,f3,f4,f5,f6⟩:=cA e5
   split at hq
   ·rename_i hc
    have cZ:=Nat.eq_of_beq_eq_true hc
    injection hq with hq
    injection hq with qW ku
    subst ku
    have dD:=of_decide_eq_true qW
    have cD:Rel R w (.gn id off sz len cap) (a.eval x):=rx
    generalize dx:a.eval x=xv at cD
    cases cD with
    | @gn _ _ _ _ _ b hb _=>
     refine ak h (c:=.pointer (some ⟨b,off+n.toNat * sz,none⟩)) ?_ (Rel.ptr hb)
     simp [execOp,ho,Instr.indexAt,EX,dx,asIntOf,run_underlying e2,dD,run_sizeOf w f1,f2,cZ,bG]
   ·cases hq
  ·-- a slice that grows
   rename_i elem esz ag lG z id f' off sz len hk hx
   rw [hx] at rx
   rw [hk] at e5
   obtain ⟨ie,ue,rfl,f1,f2,f3,f4,f5,f6⟩:=cA e5
   split at hq
   ·rename_i hc
    have cZ:=Nat.eq_of_beq_eq_true hc
    injection hq with hq
    injection hq with qW ku
    subst ku
    have dD:=of_decide_eq_true qW
    have cD:Rel R w (.dI id f' off sz len) (a.eval x):=rx
    generalize dx:a.eval x=xv at cD
    cases cD with
    | gu _ _=>omega
    | @dI _ _ _ _ _ cap b o' ro bj da fg=>
     refine ak h (c:=.pointer (some ⟨b,o'+n.toNat * sz,none⟩)) ?_ (Rel.gp bj ?_)
     ·simp [execOp,ho,Instr.indexAt,EX,dx,asIntOf,run_underlying e2,dD,run_sizeOf w f1,f2,cZ,bG]
     ·cases ro with
      | none=>trivial
      | aZ=>exact da.elim
      | bn _=>exact da.elim
      | aM _=>exact da.elim
      | tok f1 b1 c1=>
       refine ⟨da.1,fun e=>?_⟩
       obtain ⟨k1,k2,k3⟩:=da.2 e
       refine ⟨k1,?_⟩
       rcases k3 with k3 | k3
       ·rw [k3,Nat.add_zero,Nat.add_mul]
       ·omega
   ·cases hq
  ·-- an array that is never written
   rename_i len esz ag cs hk hx
   rw [hx] at rx
   rw [hk] at e5
   obtain ⟨e,ie,ue,rfl,f1,f2,f3,f4⟩:=ks e5
   have cD:Rel R w (.ep cs) (a.eval x):=rx
   generalize dx:a.eval x=xv at cD
   cases cD with
   | @ep _ b o' hr=>
    split at hq
    ·rename_i p hp
     split at hq
     ·rename_i hc
      rw [Bool.and_eq_true] at hc
      have hz:=Nat.eq_of_beq_eq_true hc.1
      have hl:=Nat.le_of_ble_eq_true hc.2
      injection hq with hq
      injection hq with qW ku
      subst ku
      rw [Bool.and_eq_true] at qW
      have dD:=of_decide_eq_true qW.1
      have hd:=p.bQ qW.2
      have bD:n.toNat < cs.length:=by omega
      have Rb:=hr.drop n.toNat
      rw [List.drop_eq_getElem_cons bD] at Rb
      have hn:bM cs n.toNat=cs[n.toNat]:=by
       unfold bM
       rw [aJ,List.getElem?_eq_getElem bD]
      rw [hn] at hd ⊢
      refine ak h (c:=.pointer (some ⟨b,o'+n.toNat * esz,none⟩)) ?_ ?_
      ·simp [execOp,ho,Instr.indexAt,EX,dx,Instr.sureAddr,asIntOf,run_underlying e2,dD,run_sizeOf w f1,f2,bG]
      ·subst hz
       rw [Nat.mul_one]
       cases Rb with
       | cons hc h1 hi dp t=>exact .ep (.cons hc h1 hi (hd.1 _ _ _ dp) .nil)
     ·cases hq
    ·injection hq with hq
     injection hq with qW ku
     subst ku
     have dD:=of_decide_eq_true qW
     refine ak h (c:=.pointer (some ⟨b,o'+n.toNat * esz,none⟩)) ?_ ?_
     ·simp [execOp,ho,Instr.indexAt,EX,dx,Instr.sureAddr,asIntOf,run_underlying e2,dD,run_sizeOf w f1,f2,bG]
     ·rw [qQ]
      exact .ep (hr.drop _)
  ·-- an array
   rename_i len esz ag hk _
   rw [hk] at e5
   obtain ⟨e,ie,ue,rfl,f1,f2,f3,f4⟩:=ks e5
   split at hq
   ·rename_i q' hm
    injection hq with hq
    injection hq with qW ku
    subst ku
    have dD:=of_decide_eq_true qW
    obtain ⟨b,o',m1,m2⟩:=tN rx hm
    refine ak h ?_ m2
    simp [execOp,ho,Instr.indexAt,EX,m1,Instr.sureAddr,asIntOf,run_underlying e2,dD,run_sizeOf w f1,f2,bG]
   ·cases hq
  ·cases hq
 ·cases hq
theorem jq {t:TypeId} {i:TypeInfo} {u:TypeDesc} (h1:E.P.info? t=some i) (h2:E.P.underlying t=some u) {off:Nat} {cs l:List AV} {vs:List Value} {v:AV} (hr:aA R w cs vs) (h3:∀ x∈vs,x.oneCell'=true)
  (uG:fV u=true→zQ off i.size cs=some l∧od true l=some v) (Sf:fV u=false→zQ off 1 cs=some l∧od false l=some v) :
  ∃ c,(part t ⟨vs⟩ off).run E.P w=.ok c w∧Rel R w v c:=by
 unfold part
 simp only [Sem.run_bind,tM w h2,Result.andThen_ok]
 cases ha:fV u with
 | true=>
  obtain ⟨g1,g2⟩:=uG ha
  obtain ⟨k1,k2,k3,k4⟩:=li g1 hr h3
  obtain ⟨m1,_⟩:=qT g2 k2 k3
  refine ⟨_,?_,m1 rfl⟩
  have:(⟨vs⟩:Array Value).extract off (off+i.size)=⟨(vs.drop off).take i.size⟩:=by
   apply Array.ext'
   simp [List.extract_eq_take_drop]
  simp [run_sizeOf w h1]
 | false=>
  obtain ⟨g1,g2⟩:=Sf ha
  obtain ⟨k1,k2,k3,k4⟩:=li g1 hr h3
  obtain ⟨_,m2⟩:=qT g2 k2 k3
  obtain ⟨c,hc,dp⟩:=m2 rfl
  refine ⟨c,?_,dp⟩
  have h0:=k4 0 c (by rw [hc]; simp)
  simp only [Nat.add_zero] at h0
  simp [h0]
theorem yh (h:aP E R w β s a) (t:TypeId) (x:Operand) (j:Nat) (ho:o.op=.field t x j) {v:AV} (hq:xX E t (aY E s.ae x) j=some v) :
  bk E R w β s a o (s.put o.dst (.v v)):=by
 have rx:=aE h x
 unfold xX at hq
 split at hq
 ·rename_i i cs hi hx
  rw [hx] at rx
  have cD:Rel R w (.agg cs) (a.eval x):=rx
  generalize dx:a.eval x=xv at cD
  cases cD with
  | @agg _ vs hr h1=>
  split at hq
  ·rename_i fs hk
   split at hq
   ·rename_i off sz ag hn
    obtain ⟨eC,u,e1,e2,e3,e4,e5,e6⟩:=bu E hi
    rw [hk] at e5
    obtain ⟨fl,rfl,hf⟩:=zX e5
    obtain ⟨f,fi,u',g1,g2,g3,g4,g5,g6⟩:=jO hf hn
    have key:∃ c,(part f.type ⟨vs⟩ off).run E.P w=.ok c w∧Rel R w v c:=by
     split at hq
     ·rename_i uG
      split at hq
      ·rename_i l hl
       exact jq g3 g5 (l:=l) hr h1 (fun _=>⟨by rw [g4]; exact hl,hq⟩) (fun hf=>by rw [g6,uG] at hf; cases hf)
      ·cases hq
     ·rename_i uG
      split at hq
      ·rename_i l hl
       exact jq g3 g5 (l:=l) hr h1 (fun hf=>by rw [g6] at hf; exact absurd hf uG) (fun _=>⟨hl,hq⟩)
      ·cases hq
    obtain ⟨c,k1,k2⟩:=key
    refine ak h ?_ k2
    have Pc:fl[j]?=some f:=by simpa using g1
    simp [execOp,ho,Instr.field,run_underlying e2,Pc,dx,asAgg,g2,k1]
   ·cases hq
  ·cases hq
 ·cases hq
theorem yi (h:aP E R w β s a) (t:TypeId) (x ix:Operand) (ho:o.op=.index t x ix) {v:AV} (hq:xY E t (aY E s.ae x) (aY E s.ae ix)=some (true,v)) :
  bk E R w β s a o (s.put o.dst (.v v)):=by
 have rx:=aE h x
 have ri:=aE h ix
 unfold xY at hq
 split at hq
 ·rename_i i l k n hi hx Mm
  rw [hx] at rx
  rw [Mm] at ri
  have Iv:Rel R w (.int k n) (a.eval ix):=ri
  have cD:Rel R w (.str l) (a.eval x):=rx
  generalize EX:a.eval ix=iv at Iv
  generalize dx:a.eval x=xv at cD
  cases Iv
  cases cD
  obtain ⟨eC,u,e1,e2,e3,e4,e5,e6⟩:=bu E hi
  split at hq
  ·rename_i hk
   rw [hk] at e5
   have:=gQ e5
   subst this
   injection hq with hq
   injection hq with qW ku
   subst ku
   obtain ⟨vG,BW⟩:=of_decide_eq_true qW
   have bD:n.toNat < l.length:=by omega
   refine ak h (c:=.int .u8 (l.getD n.toNat 0).toNat) ?_ (Rel.int _ _)
   have gw:(⟨⟨l⟩⟩:ByteArray)[n.toNat]?=some (l.getD n.toNat 0):=by
    have hs:n.toNat < (⟨⟨l⟩⟩:ByteArray).size:=bD
    rw [getElem?_pos (⟨⟨l⟩⟩:ByteArray) n.toNat hs]
    congr 1
    simp [List.getD,List.getElem?_eq_getElem bD]
    rfl
   simp [execOp,ho,Instr.index,EX,dx,asIntOf,run_underlying e2,vG,gw]
  ·cases hq
 ·rename_i i cs k n hi hx Mm
  rw [hx] at rx
  rw [Mm] at ri
  have Iv:Rel R w (.int k n) (a.eval ix):=ri
  have cD:Rel R w (.agg cs) (a.eval x):=rx
  generalize EX:a.eval ix=iv at Iv
  generalize dx:a.eval x=xv at cD
  cases Iv
  cases cD with
  | @agg _ vs hr h1=>
  obtain ⟨eC,u,e1,e2,e3,e4,e5,e6⟩:=bu E hi
  split at hq
  ·rename_i len esz ag hk
   rw [hk] at e5
   obtain ⟨e,ie,ue,rfl,f1,f2,f3,f4⟩:=ks e5
   split at hq
   ·rename_i v' Js
    injection hq with hq
    injection hq with qW ku
    subst ku
    have dD:=of_decide_eq_true qW
    have key:∃ c,(part e ⟨vs⟩ (n.toNat * esz)).run E.P w=.ok c w∧Rel R w v' c:=by
     split at Js
     ·rename_i uG
      split at Js
      ·rename_i l hl
       exact jq f1 f3 (l:=l) hr h1 (fun _=>⟨by rw [f2]; exact hl,Js⟩) (fun hf=>by rw [f4,uG] at hf; cases hf)
      ·cases Js
     ·rename_i uG
      split at Js
      ·rename_i l hl
       exact jq f1 f3 (l:=l) hr h1 (fun hf=>by rw [f4] at hf; exact absurd hf uG) (fun _=>⟨hl,Js⟩)
      ·cases Js
    obtain ⟨c,k1,k2⟩:=key
    refine ak h ?_ k2
    simp [execOp,ho,Instr.index,EX,dx,asIntOf,run_underlying e2,dD,run_sizeOf w f1,f2,k1]
   ·cases hq
  ·cases hq
 ·cases hq
theorem uH (h:aP E R w β s a) (x:Operand) (j:Nat) (ho:o.op=.extract x j) {vs:List AV} {v:AV} (hx:aY E s.ae x=.v (.aR vs)) (hn:nth vs j=some v) :
  bk E R w β s a o (s.put o.dst (.v v)):=by
 have rx:=aE h x
 rw [hx] at rx
 have cD:Rel R w (.aR vs) (a.eval x):=rx
 generalize dx:a.eval x=xv at cD
 cases cD with
 | @aR _ us hr=>
 rw [aJ] at hn
 obtain ⟨c,h1,h2⟩:=hr.get hn
 refine ak h ?_ h2
 simp [execOp,ho,Instr.extract,dx,h1]
theorem ef (h:aP E R w β s a):∀ {l:List Operand} {vs:List AV},jf E s.ae l=some vs→aA R w vs (l.map a.eval)
 | [],vs,hl=>by simp [jf] at hl; subst hl; exact .nil
 | x :: l,vs,hl=>by
  unfold jf at hl
  split at hl
  ·rename_i v r h1 h2
   cases hl
   have:=aE h x
   rw [h1] at this
   exact .cons this (ef h h2)
  ·cases hl
theorem te (h:aP E R w β s a) (g:FuncId) (x y:Array Operand) (ho:o.op=.makeFunc (.func g) x y) {p q:List AV} (hp:jf E s.ae x.toList=some p) (hq:jf E s.ae y.toList=some q) :
  bk E R w β s a o (s.put o.dst (.v (.fn g p q))):=by
 have h1:=ef h hp
 have h2:=ef h hq
 refine ak h (c:=.func (.func g) ⟨x.toList.map a.eval⟩ ⟨y.toList.map a.eval⟩) ?_ (Rel.fn h1 h2)
 have e1:x.map a.eval=⟨x.toList.map a.eval⟩:=Array.ext' (by simp)
 have e2:y.map a.eval=⟨y.toList.map a.eval⟩:=Array.ext' (by simp)
 simp [execOp,ho,Instr.makeFunc,e1,e2]
end ops
end Go.Am
namespace Go.Am
open Go
section ops
variable {E:Env} {R:ah} {w:World} {β:Nat→Nat} {s:St} {a:Act} {o:Oper}
theorem size_bytes (l:List UInt8):(⟨⟨l⟩⟩:ByteArray).size=l.length:=rfl
theorem ng (l:List UInt8):(⟨⟨l⟩⟩:ByteArray).toList=l:=by rw [ByteArray.toList_eq]
theorem uI (l r:List UInt8):((⟨⟨l⟩⟩:ByteArray)++⟨⟨r⟩⟩)=⟨⟨l++r⟩⟩:=by
 apply ByteArray.ext
 rw [ByteArray.data_append]
 simp
theorem A4 (op:BinOp) (t:TypeId) (x y:Operand) (k k':IntKind) (n m:Int):(eqGuard op t x y (.int k n) (.int k' m)).run E.P w=.ok () w:=by
 unfold eqGuard
 cases op <;> rfl
theorem A5 (op:BinOp) (t:TypeId) (x y:Operand) (n m:ByteArray):(eqGuard op t x y (.string n) (.string m)).run E.P w=.ok () w:=by
 unfold eqGuard
 cases op <;> rfl
theorem yj (h:aP E R w β s a) (op:BinOp) (t u:TypeId) (x y:Operand) (ho:o.op=.binOp op t x y u) {p q v:AV} (hx:aY E s.ae x=.v p) (hy:aY E s.ae y=.v q) (hv:vM op p q=some (true,v)) :
  bk E R w β s a o (s.put o.dst (.v v)):=by
 have rx:=aE h x
 have ry:=aE h y
 rw [hx] at rx
 rw [hy] at ry
 have cD:Rel R w p (a.eval x):=rx
 have lL:Rel R w q (a.eval y):=ry
 have key:∃ c,(do eqGuard op t x y (a.eval x) (a.eval y); binOp op t (a.eval x) (a.eval y):Sem Value).run E.P w=.ok c w∧Rel R w v c:=by
  generalize dx:a.eval x=xv at cD
  generalize Mn:a.eval y=yv at lL
  unfold vM at hv
  split at hv
  ·rename_i k n k' m
   cases cD
   cases lL
   simp only [Sem.run_bind,A4,Result.andThen_ok]
   split at hv
   ·injection hv with hv
    injection hv with h1 h2
    subst h2
    have hm:=of_decide_eq_true h1
    have Jt:¬ m < 0:=by omega
    exact ⟨.int k (k.wrap (n * 2 ^ (min m.toNat k.bits))),by simp [binOp,Op.shift,Jt],.int _ _⟩
   ·injection hv with hv
    injection hv with h1 h2
    subst h2
    have hm:=of_decide_eq_true h1
    have Jt:¬ m < 0:=by omega
    exact ⟨.int k (n.fdiv (2 ^ (min m.toNat k.bits))),by simp [binOp,Op.shift,Jt],.int _ _⟩
   ·rename_i Iw Rc
    split at hv
    ·rename_i Ch
     subst Ch
     split at hv
     ·cases hv; exact ⟨.int k (k.wrap (n+m)),by simp [binOp,Op.intArith],.int _ _⟩
     ·cases hv; exact ⟨.int k (k.wrap (n - m)),by simp [binOp,Op.intArith],.int _ _⟩
     ·cases hv; exact ⟨.int k (k.wrap (n * m)),by simp [binOp,Op.intArith],.int _ _⟩
     ·injection hv with hv
      injection hv with h1 h2
      subst h2
      have hm:¬ m=0:=by simpa using h1
      exact ⟨.int k (k.wrap (n.tdiv m)),by simp [binOp,Op.intDiv,hm],.int _ _⟩
     ·injection hv with hv
      injection hv with h1 h2
      subst h2
      have hm:¬ m=0:=by simpa using h1
      exact ⟨.int k (n.tmod m),by simp [binOp,Op.intDiv,hm],.int _ _⟩
     ·cases hv; exact ⟨.int k (AR k n m),by simp [binOp,Op.intBits,AR],.int _ _⟩
     ·cases hv; exact ⟨.int k (O7 k n m),by simp [binOp,Op.intBits,O7],.int _ _⟩
     ·cases hv; exact ⟨.int k (AS k n m),by simp [binOp,Op.intBits,AS],.int _ _⟩
     ·cases hv; exact ⟨.bool (n == m),by simp [binOp,Op.intCmp],.bool _⟩
     ·cases hv; exact ⟨.bool (n != m),by simp [binOp,Op.intCmp],.bool _⟩
     ·cases hv; exact ⟨.bool (decide (n < m)),by simp [binOp,Op.intCmp],.bool _⟩
     ·cases hv; exact ⟨.bool (decide (n≤m)),by simp [binOp,Op.intCmp],.bool _⟩
     ·cases hv; exact ⟨.bool (decide (n > m)),by simp [binOp,Op.intCmp],.bool _⟩
     ·cases hv; exact ⟨.bool (decide (n≥m)),by simp [binOp,Op.intCmp],.bool _⟩
     ·cases hv
    ·cases hv
  ·rename_i l r
   cases cD
   cases lL
   simp only [Sem.run_bind,A5,Result.andThen_ok]
   split at hv
   ·injection hv with hv
    injection hv with h1 h2
    subst h2
    have hm:=of_decide_eq_true h1
    refine ⟨.string ⟨⟨l++r⟩⟩,?_,.str _⟩
    have Ju:¬ ((l.length+r.length:Nat):Int) > IntKind.i64.max:=by
     have:IntKind.i64.max=9223372036854775807:=by decide
     omega
    simp only [binOp,Op.stringOp,size_bytes,if_neg Ju,uI,Sem.run_pure]
   ·cases hv; exact ⟨.bool (l == r),by simp [binOp,Op.stringOp],.bool _⟩
   ·cases hv; exact ⟨.bool (!(l == r)),by simp [binOp,Op.stringOp],.bool _⟩
   ·cases hv; exact ⟨.bool (Op.bytesLess l r),by simp [binOp,Op.stringOp],.bool _⟩
   ·cases hv; exact ⟨.bool (Op.bytesLess l r || l == r),by simp [binOp,Op.stringOp],.bool _⟩
   ·cases hv; exact ⟨.bool (!(Op.bytesLess l r || l == r)),by simp [binOp,Op.stringOp],.bool _⟩
   ·cases hv; exact ⟨.bool (!(Op.bytesLess l r)),by simp [binOp,Op.stringOp],.bool _⟩
   ·cases hv
  ·cases hv
 obtain ⟨c,k1,k2⟩:=key
 refine ak h (c:=c) ?_ k2
 simp only [Sem.run_bind] at k1
 simp only [execOp,ho,Sem.run_bind,k1,Result.andThen_ok,Sem.run_pure]
theorem gH {t:TypeId} {i:TypeInfo} {u:TypeDesc} (h1:E.P.info? t=some i) (h2:E.P.underlying t=some u) {off:Nat} {cs:List AV} {vs:List Value} {v:AV} (hr:aA R w cs vs) (h3:∀ x∈vs,x.oneCell'=true)
  (h:zR (fV u) off i.size cs=some v):∃ c,(part t ⟨vs⟩ off).run E.P w=.ok c w∧Rel R w v c:=by
 unfold zR at h
 cases ha:fV u with
 | true=>
  rw [ha] at h
  simp only [if_true] at h
  split at h
  ·rename_i l hl
   exact jq h1 h2 hr h3 (fun _=>⟨hl,h⟩) (fun e=>by rw [ha] at e; cases e)
  ·cases h
 | false=>
  rw [ha] at h
  simp only [Bool.false_eq_true,if_false] at h
  split at h
  ·rename_i l hl
   exact jq h1 h2 hr h3 (fun e=>by rw [ha] at e; cases e) (fun _=>⟨hl,h⟩)
  ·cases h
theorem vR {ek:TypeId→EK} {d:Nat} (ih:∀ (t:TypeId) (a b:AV) (r:Bool) (x y:Value),iE (ek t) a b=some r→Rel R w a x→Rel R w b y→(Op.equalIn d t x y).run E.P w=.ok r w) {xs ys:List AV} {vs us:List Value}
  (hx:aA R w xs vs) (pW:∀ x∈vs,x.oneCell'=true) (hy:aA R w ys us) (Fh:∀ x∈us,x.oneCell'=true) :
  ∀ (fs:List Field) (l:Jj) (r:Bool),xW E.P ek fs=some l→oe l xs ys=some r→(Op.eqFields d ⟨vs⟩ ⟨us⟩ fs).run E.P w=.ok r w
 | [],l,r,hl,hr=>by
  simp [xW] at hl
  subst hl
  simp [oe] at hr
  subst hr
  rfl
 | f :: fs,l,r,hl,hr=>by
  unfold xW at hl
  split at hl
  ·cases hl
  ·rename_i hn
   split at hl
   ·rename_i i u l' h1 h2 h3
    cases hl
    unfold oe at hr
    split at hr
    ·rename_i a b ha hb
     split at hr
     ·rename_i p q hp hq
      cases hr
      obtain ⟨c,k1,k2⟩:=gH h1 h2 hx pW ha
      obtain ⟨c',k3,k4⟩:=gH h1 h2 hy Fh hb
      have bT : f.name ≠ "_" := by simpa using hn
      have he:=ih f.type a b p c c' hp k2 k4
      have qX:=vR ih hx pW hy Fh fs l' q h3 hq
      simp only [Op.eqFields,bT,ne_eq,not_false_eq_true,if_true,Sem.run_bind,k1,k3,he,Result.andThen_ok]
      cases p with
      | true=>simp [qX]
      | false=>simp
     ·cases hr
    ·cases hr
   ·cases hl
theorem tO {ek:EK} {d:Nat} {e:TypeId} {i:TypeInfo} {u:TypeDesc} (h1:E.P.info? e=some i) (h2:E.P.underlying e=some u) (ih:∀ (a b:AV) (r:Bool) (x y:Value),iE ek a b=some r→Rel R w a x→Rel R w b y→(Op.equalIn d e x y).run E.P w=.ok r w) {xs ys:List AV} {vs us:List Value}
  (hx:aA R w xs vs) (pW:∀ x∈vs,x.oneCell'=true) (hy:aA R w ys us) (Fh:∀ x∈us,x.oneCell'=true) :
  ∀ (m k:Nat) (r:Bool),oe (qL i.size (fV u) ek m k) xs ys=some r→(Op.eqItems d e i.size ⟨vs⟩ ⟨us⟩ (List.range' k m)).run E.P w=.ok r w
 | 0,k,r,hr=>by
  simp [qL,oe] at hr
  subst hr
  rfl
 | m+1,k,r,hr=>by
  unfold qL oe at hr
  split at hr
  ·rename_i a b ha hb
   split at hr
   ·rename_i p q hp hq
    cases hr
    obtain ⟨c,k1,k2⟩:=gH h1 h2 hx pW ha
    obtain ⟨c',k3,k4⟩:=gH h1 h2 hy Fh hb
    have he:=ih a b p c c' hp k2 k4
    have qX:=tO h1 h2 ih hx pW hy Fh m (k+1) q hq
    simp only [List.range'_succ,Op.eqItems,Sem.run_bind,k1,k3,he,Result.andThen_ok]
    cases p with
    | true=>simpa using qX
    | false=>simp
   ·cases hr
  ·cases hr
theorem uJ:∀ (n d:Nat),n≤d→∀ (t:TypeId) (a b:AV) (r:Bool) (x y:Value),iE (lD E.P n t) a b=some r→Rel R w a x→Rel R w b y→(Op.equalIn d t x y).run E.P w=.ok r w
 | 0,_,_,t,a,b,r,x,y,h,_,_=>by simp [lD,iE] at h
 | n+1,0,hd,_,_,_,_,_,_,_,_,_=>by omega
 | n+1,d+1,hd,t,a,b,r,x,y,h,hx,hy=>by
  unfold lD at h
  split at h
  ·rename_i hu
   unfold iE at h
   split at h
   all_goals (try contradiction)
   cases hx; cases hy; cases h
   exact run_equalIn_bool' w d t _ _ hu
  ·rename_i k hu
   unfold iE at h
   split at h
   all_goals (try contradiction)
   split at h
   ·rename_i hk
    subst hk
    cases hx; cases hy; cases h
    exact run_equalIn_int w d t _ k _ _ hu
   ·cases h
  ·rename_i hu
   unfold iE at h
   split at h
   all_goals (try contradiction)
   cases hx; cases hy; cases h
   rw [run_equalIn_string w d t _ _ hu,ng,ng]
  ·rename_i fs hu
   split at h
   ·simp [iE] at h
   ·rename_i hs
    split at h
    ·rename_i l hl
     unfold iE at h
     split at h
     all_goals (try contradiction)
     rename_i uC xs ys hk
     cases hk
     cases hx with
     | agg hx pW=>
     cases hy with
     | agg hy Fh=>
     have hf:E.P.fieldsOf t=fs:=by simp [Program.fieldsOf,hu]
     rw [run_equalIn_struct w d t _ _ (by rw [hf]; exact hu) (by simpa using hs),hf]
     exact vR (fun t a b r x y=>uJ n d (by omega) t a b r x y) hx pW hy Fh fs.toList _ r hl h
    ·simp [iE] at h
  ·rename_i m e hu
   split at h
   ·rename_i i ud g1 g2
    unfold iE at h
    split at h
    all_goals (try contradiction)
    rename_i uC xs ys hk
    cases hk
    cases hx with
    | agg hx pW=>
    cases hy with
    | agg hy Fh=>
    have mP:E.P.cellsOf e=i.size:=by simp [Program.cellsOf,g1]
    rw [run_equalIn_array (P:=E.P) w d _ _ hu g1,mP,List.range_eq_range']
    exact tO g1 g2 (fun a b r x y=>uJ n d (by omega) e a b r x y) hx pW hy Fh m 0 r h
   ·simp [iE] at h
  ·simp [iE] at h
theorem gI {t:TypeId} {i:TI} (hi:E.ti t=some i) {p q:AV} {r:Bool} {x y:Value} (h:iE i.ek p q=some r) (hx:Rel R w p x) (hy:Rel R w q y) :
  (Op.equalIn 10000 t x y).run E.P w=.ok r w∧((∃ b c,x=.bool b∧y=.bool c)∨(∃ k n k' m,x=.int k n∧y=.int k' m)∨(∃ n m,x=.string n∧y=.string m)∨(∃ n m,x=.agg n∧y=.agg m∧E.P.eqGuardType E.P.depth t=false)):=by
 have tP:i.ek=oX E.P t:=by
  have:=E.AQ t i hi
  unfold AP at this
  split at this
  ·split at this
   ·cases this; rfl
   ·cases this
  ·cases this
 rw [tP] at h
 have hg:iE (lD E.P 6 t) p q=some r∧((∃ l,lD E.P 6 t=.st l)→E.P.eqGuardType E.P.depth t=false):=by
  unfold oX at h
  split at h
  ·rename_i l hl
   split at h
   ·simp [iE] at h
   ·rename_i EY
    exact ⟨by rw [hl]; exact h,fun _=>by simpa using EY⟩
  ·rename_i k hk
   exact ⟨h,fun ⟨l,hl⟩=>absurd hl (hk l)⟩
 refine ⟨uJ 6 10000 (by omega) t p q r x y hg.1 hx hy,?_⟩
 have h2:=hg.1
 have h3:=hg.2
 generalize lD E.P 6 t=k at h2 h3
 unfold iE at h2
 split at h2
 ·cases hx; cases hy; exact .inl ⟨_,_,rfl,rfl⟩
 ·cases hx; cases hy; exact .inr (.inl ⟨_,_,_,_,rfl,rfl⟩)
 ·cases hx; cases hy; exact .inr (.inr (.inl ⟨_,_,rfl,rfl⟩))
 ·cases hx; cases hy; exact .inr (.inr (.inr ⟨_,_,rfl,rfl,h3 ⟨_,rfl⟩⟩))
 ·cases h2
theorem Ci (h:aP E R w β s a) (op:BinOp) (t u:TypeId) (x y:Operand) (ho:o.op=.binOp op t x y u) {p q:AV} {r:Bool} (hx:aY E s.ae x=.v p) (hy:aY E s.ae y=.v q) (hb:vM op p q=none) (hv:O9 E op t p q=some r) :
  bk E R w β s a o (s.put o.dst (.v (.bool r))):=by
 have rx:=aE h x
 have ry:=aE h y
 rw [hx] at rx
 rw [hy] at ry
 have cD:Rel R w p (a.eval x):=rx
 have lL:Rel R w q (a.eval y):=ry
 have key:(do eqGuard op t x y (a.eval x) (a.eval y); binOp op t (a.eval x) (a.eval y):Sem Value).run E.P w=.ok (.bool r) w:=by
  generalize dx:a.eval x=xv at cD
  generalize Mn:a.eval y=yv at lL
  unfold O9 at hv
  split at hv
  ·rename_i i hi
   obtain ⟨k1,k2⟩:=gI hi hv cD lL
   rcases k2 with ⟨b,c,rfl,rfl⟩ | ⟨k,n,k',m,rfl,rfl⟩ | ⟨n,m,rfl,rfl⟩ | ⟨n,m,rfl,rfl,hg⟩
   ·have yk:(eqGuard .eql t x y (.bool b) (.bool c)).run E.P w=.ok () w:=rfl
    simp [yk,binOp,Op.equal,Op.maxDepth,k1]
   ·cases cD; cases lL; simp [vM] at hb
    cases hk:i.ek <;> simp [hk,iE] at hv
    exact absurd hv.1 hb
   ·cases cD; cases lL; simp [vM] at hb
   ·simp only [Sem.run_bind,run_eqGuard_agg w _ t x y n m hg,Result.andThen_ok,run_eql_struct,k1]
  ·rename_i i hi
   split at hv
   ·rename_i r' iW
    cases hv
    obtain ⟨k1,k2⟩:=gI hi iW cD lL
    rcases k2 with ⟨b,c,rfl,rfl⟩ | ⟨k,n,k',m,rfl,rfl⟩ | ⟨n,m,rfl,rfl⟩ | ⟨n,m,rfl,rfl,hg⟩
    ·have yk:(eqGuard .neq t x y (.bool b) (.bool c)).run E.P w=.ok () w:=rfl
     simp [yk,binOp,Op.equal,Op.maxDepth,k1]
    ·cases cD; cases lL; simp [vM] at hb
     cases hk:i.ek <;> simp [hk,iE] at iW
     exact absurd iW.1 hb
    ·cases cD; cases lL; simp [vM] at hb
    ·simp only [Sem.run_bind,run_eqGuard_agg w _ t x y n m hg,Result.andThen_ok,run_neq_struct,k1]
   ·cases hv
  ·cases hv
 refine ak h (c:=.bool r) ?_ (.bool r)
 simp only [Sem.run_bind] at key
 simp only [execOp,ho,Sem.run_bind,key,Result.andThen_ok,Sem.run_pure]
theorem Cj (h:aP E R w β s a) (t:TypeId) (x:Operand) (ho:o.op=.unOp .not t x) {b:Bool} (hx:aY E s.ae x=.v (.bool b)):bk E R w β s a o (s.put o.dst (.v (.bool (!b)))):=by
 have rx:=aE h x
 rw [hx] at rx
 have cD:Rel R w (.bool b) (a.eval x):=rx
 generalize dx:a.eval x=xv at cD
 cases cD
 refine ak h (c:=.bool (!b)) ?_ (Rel.bool _)
 simp [execOp,ho,Op.unary,dx]
theorem Ck (h:aP E R w β s a) (t:TypeId) (x:Operand) (ho:o.op=.unOp .neg t x) {k:IntKind} {n:Int} (hx:aY E s.ae x=.v (.int k n)):bk E R w β s a o (s.put o.dst (.v (.int k (k.wrap (0 - n))))):=by
 have rx:=aE h x
 rw [hx] at rx
 have cD:Rel R w (.int k n) (a.eval x):=rx
 generalize dx:a.eval x=xv at cD
 cases cD
 refine ak h (c:=.int k (k.wrap (0 - n))) ?_ (Rel.int _ _)
 simp [execOp,ho,Op.unary,Op.intArith,dx]
theorem tQ:∀ (us:List Value) (off j0:Nat) (cells:Array Value),off+j0+us.length≤cells.size →
  ((us.zipIdx j0).foldl (fun (cs:Array Value) (p:Value × Nat)=>cs.setIfInBounds (off+p.2) p.1) cells).toList=cells.toList.take (off+j0)++us++cells.toList.drop (off+j0+us.length)
 | [],off,j0,cells,_=>by simp
 | u :: us,off,j0,cells,h=>by
  have bD:off+j0 < cells.size:=by simp at h; omega
  have ih:=tQ us off (j0+1) (cells.setIfInBounds (off+j0) u) (by simp at h ⊢; omega)
  simp only [List.zipIdx_cons,List.foldl_cons]
  rw [ih]
  have e:=list_seg_step cells.toList (off+j0) u us (by simp at h ⊢; omega)
  simpa [Array.toList_setIfInBounds,Nat.add_assoc] using e
theorem kv (place:Nat→Option (Nat × Nat)):∀ {ps:List (Nat × AV)} {qs:List (Nat × Value)} {cells qY:List AV} {vs:List Value},
  aA R w (ps.map (·.2)) (qs.map (·.2))→ps.map (·.1)=qs.map (·.1)→aA R w cells vs→(∀ x∈vs,x.oneCell'=true)→oY place cells ps=some qY →
  ∃ us,Instr.fill place ⟨vs⟩ qs=some ⟨us⟩∧aA R w qY us∧∀ x∈us,x.oneCell'=true
 | [],qs,cells,qY,vs,h1,h2,h3,h4,h5=>by
  have:qs=[]:=by simpa using h2.symm
  subst this
  simp [oY] at h5
  subst h5
  exact ⟨vs,rfl,h3,h4⟩
 | (i,v) :: ps,[],cells,qY,vs,h1,h2,h3,h4,h5=>by simp at h2
 | (i,v) :: ps,(j,c) :: qs,cells,qY,vs,h1,h2,h3,h4,h5=>by
  simp only [List.map_cons,List.cons.injEq] at h2
  obtain ⟨rfl,h2⟩:=h2
  cases h1 with
  | cons hr h1=>
  unfold oY at h5
  split at h5
  ·cases h5
  ·rename_i off sz hp
   split at h5
   ·rename_i dD
    simp only [Bool.and_eq_true] at dD
    obtain ⟨⟨EV,hlen⟩,hle⟩:=dD
    have hlen:=Nat.eq_of_beq_eq_true hlen
    have hle:=Nat.le_of_ble_eq_true hle
    obtain ⟨c1,c2⟩:=Rel.cells hr EV
    have zY:c.cells.toList.length=sz:=by rw [← c1.length]; exact hlen
    have hb:off+v.cells.length≤cells.length:=by omega
    obtain ⟨us,u1,u2,u3⟩:=kv place h1 h2 (h3.bt c1 hb) (fA h4 c2) h5
    refine ⟨us,?_,u2,u3⟩
    have cZ:c.cells.size=sz:=by simpa using zY
    have Ix:vs.length=cells.length:=h3.length.symm
    have Mo:c.cells.zipIdx.foldl (fun (cs:Array Value) (x:Value × Nat)=>cs.setIfInBounds (off+x.2) x.1) ⟨vs⟩=⟨vs.take off++c.cells.toList++vs.drop (off+c.cells.toList.length)⟩:=by
     apply Array.ext'
     rw [← Array.foldl_toList,Array.toList_zipIdx]
     have:=tQ c.cells.toList off 0 ⟨vs⟩ (by simp only [List.size_toArray]; omega)
     simpa using this
    have bU:(c.cells.size≠sz || decide (off+c.cells.size > (⟨vs⟩:Array Value).size))=false:=by
     have Iw:decide (c.cells.size≠sz)=false:=by simp [cZ]
     have Rc:decide (off+c.cells.size > (⟨vs⟩:Array Value).size)=false:=by
      rw [decide_eq_false_iff_not,cZ]
      show ¬ off+sz > vs.length
      omega
     rw [Iw,Rc]
     rfl
    unfold Instr.fill
    simp only [hp,bU,Bool.false_eq_true,if_false]
    rw [← u1]
    exact congrArg (fun z=>Instr.fill place z qs) Mo
   ·cases h5
theorem qt (h:aP E R w β s a):∀ {l:List (Nat × Operand)} {ps:List (Nat × AV)},EU E s.ae l=some ps →
  aA R w (ps.map (·.2)) ((l.map fun x=>(x.1,a.eval x.2)).map (·.2))∧ps.map (·.1)=(l.map fun x=>(x.1,a.eval x.2)).map (·.1)
 | [],ps,hl=>by simp [EU] at hl; subst hl; exact ⟨.nil,rfl⟩
 | (i,x) :: l,ps,hl=>by
  unfold EU at hl
  split at hl
  ·rename_i v r h1 h2
   cases hl
   have hx:=aE h x
   rw [h1] at hx
   obtain ⟨g1,g2⟩:=qt h h2
   exact ⟨.cons hx g1,by simpa using g2⟩
  ·cases hl
theorem yl (h:aP E R w β s a) (t:TypeId) (parts:Array (Nat × Operand)) (ho:o.op=.build t parts) {v:AV} (hv:jG E s t parts.toList=some v) :
  bk E R w β s a o (s.put o.dst (.v v)):=by
 unfold jG at hv
 split at hv
 ·rename_i i ps hi BX
  split at hv
  ·rename_i z hz
   split at hv
   ·rename_i cs mP
    split at hv
    ·rename_i uG
     cases hv
     simp only [Bool.and_eq_true] at uG
     obtain ⟨uG,mQ⟩:=uG
     obtain ⟨eC,u,e1,e2,e3,e4,e5,e6⟩:=bu E hi
     rw [hz] at e6
     obtain ⟨zc,mj,xT⟩:=b8 e6
     obtain ⟨p1,p2⟩:=qt h BX
     obtain ⟨c1,c2⟩:=Rel.cells (xT R w) mQ
     have Jv:(parts.map fun (x:Nat × Operand)=>(x.1,a.eval x.2)).toList=parts.toList.map fun x=>(x.1,a.eval x.2):=by simp
     have key:∃ us,E.P.built t (parts.toList.map fun x=>(x.1,a.eval x.2))=some ⟨us⟩∧aA R w cs us∧∀ x∈us,x.oneCell'=true:=by
      cases u <;> simp only [fV] at e4 <;> first | (rw [uG] at e4; cases e4; done) | skip
      ·rename_i n e
       simp only [lC] at e5
       split at e5
       ·rename_i ie ue f1 f2
        injection e5 with e5
        rw [← e5] at mP
        obtain ⟨us,u1,u2,u3⟩:=kv (R:=R) (w:=w) _ p1 p2 c1 c2 mP
        refine ⟨us,?_,u2,u3⟩
        unfold Program.built
        simp only [e1,e2,mj,f1]
        rw [← u1]
        rfl
       ·cases e5
      ·rename_i fs
       simp only [lC] at e5
       split at e5
       ·rename_i l hl
        injection e5 with e5
        rw [← e5] at mP
        obtain ⟨us,u1,u2,u3⟩:=kv (R:=R) (w:=w) _ p1 p2 c1 c2 mP
        refine ⟨us,?_,u2,u3⟩
        unfold Program.built
        simp only [e1,e2,mj,kg hl]
        rw [← u1]
        have Oy:placeOf (.st l)=fun j=>(l.map fun x=>(x.1,x.2.1)).toArray[j]?:=by
         funext j
         simp only [placeOf,aJ,List.getElem?_toArray,List.getElem?_map]
         cases l[j]? <;> rfl
        rw [Oy]
       ·cases e5
     obtain ⟨us,u1,u2,u3⟩:=key
     refine ak h (c:=.agg ⟨us⟩) ?_ (Rel.agg u2 u3)
     have aU:=run_build (P:=E.P) w t (parts.map fun (x:Nat × Operand)=>(x.1,a.eval x.2)) ⟨us⟩ (by rw [Jv]; exact u1)
     simp only [execOp,ho,Sem.run_bind,aU,Result.andThen_ok,Sem.run_pure]
    ·cases hv
   ·cases hv
  ·cases hv
 ·cases hv
end ops
end Go.Am
