/- The abstract machine: lists of cells; what keeps a state's meaning; loads and stores. -/
import Derived.Test.YtegoimldbgdeiaaAmKA
import Derived.Laws.CopyRow
import Derived.Laws.Slices
import Derived.Laws.StructEq
import Derived.ChangeKeysEq
import Derived.Laws.Cover3
import Derived.Laws.Pointers
import Derived.Lib.SliceRun
set_option linter.all false
namespace Go.Am
open Go
section lists
variable {α:Type}
theorem tg (n:Nat) (l:List α):fg n l=l.drop n:=by
 induction n generalizing l with
 | zero=>simp [fg]
 | succ n ih=>cases l <;> simp [fg,ih]
theorem EX {n:Nat} {l r:List α} (h:takeN n l=some r):r=l.take n∧r.length=n:=by
 induction n generalizing l r with
 | zero=>simp [takeN] at h; subst h; simp
 | succ n ih=>
  cases l with
  | nil=>simp [takeN] at h
  | cons a l=>
   unfold takeN at h
   split at h
   ·rename_i r' hr
    cases h
    obtain ⟨h1,h2⟩:=ih hr
    exact ⟨by simp [h1],by simp [h2]⟩
   ·cases h
theorem KP {off n:Nat} {l r:List α} (h:Ct off n l=some r):r=(l.drop off).take n∧r.length=n:=by
 unfold Ct at h
 rw [tg] at h
 exact EX h
theorem ey (l:List α) (off:Nat) (ys:List α) (h:off+ys.length≤l.length):bI l off ys=l.take off++ys++l.drop (off+ys.length):=by
 induction l generalizing off ys with
 | nil=>
  have hy:ys=[]:=List.eq_nil_of_length_eq_zero (by rw [List.length_nil] at h; omega)
  subst hy
  simp [bI]
 | cons a l ih=>
  cases ys with
  | nil=>simp [bI]
  | cons y ys=>
   cases off with
   | zero=>
    simp only [bI]
    rw [ih 0 ys (by simp at h ⊢; omega)]
    simp
   | succ n=>
    simp only [bI]
    rw [ih n (y :: ys) (by simp at h ⊢; omega)]
    rw [show n+1+(y :: ys).length=(n+(y :: ys).length)+1 by omega]
    simp
theorem vB (l:List α) (off:Nat) (ys:List α) (h:off+ys.length≤l.length):(bI l off ys).length=l.length:=by
 rw [ey l off ys h]
 simp
 omega
end lists
section rel
variable {R:aj} {w:World}
theorem aE.length {l:List AV} {vs:List Value} (h:aE R w l vs):l.length=vs.length:=by
 induction l generalizing vs with
 | nil=>cases h; rfl
 | cons a l ih=>cases h with | cons h t=>simp [ih t]
theorem aE.get {l:List AV} {vs:List Value} (h:aE R w l vs) {i:Nat} {a:AV} (ha:l[i]?=some a):∃ c,vs[i]?=some c∧Rel R w a c:=by
 induction l generalizing vs i with
 | nil=>simp at ha
 | cons x l ih=>
  cases h with
  | cons h t=>
   cases i with
   | zero=>simp at ha; subst ha; exact ⟨_,by simp,h⟩
   | succ i=>simp at ha; obtain ⟨c,h1,h2⟩:=ih t ha; exact ⟨c,by simpa using h1,h2⟩
theorem aE.drop {l:List AV} {vs:List Value} (h:aE R w l vs) (n:Nat):aE R w (l.drop n) (vs.drop n):=by
 induction n generalizing l vs with
 | zero=>simpa using h
 | succ n ih=>cases h with
  | nil=>simpa using aE.nil
  | cons h t=>simpa using ih t
theorem aE.take {l:List AV} {vs:List Value} (h:aE R w l vs) (n:Nat):aE R w (l.take n) (vs.take n):=by
 induction n generalizing l vs with
 | zero=>simpa using aE.nil
 | succ n ih=>cases h with
  | nil=>simpa using aE.nil
  | cons h t=>simpa using aE.cons h (ih t)
theorem aE.append {l r:List AV} {vs us:List Value} (h:aE R w l vs) (k:aE R w r us):aE R w (l++r) (vs++us):=by
 induction l generalizing vs with
 | nil=>cases h; simpa using k
 | cons a l ih=>cases h with | cons h t=>exact .cons h (ih t)
theorem aE.one {a:AV} {c:Value} (h:Rel R w a c):aE R w [a] [c]:=.cons h .nil
theorem Rel.cells {a:AV} {c:Value} (h:Rel R w a c) (ht:a.aL=true):aE R w a.cells c.cells.toList∧∀ v∈c.cells.toList,v.oneCell'=true:=by
 cases h with
 | agg h h1=>exact ⟨h,h1⟩
 | bi h=>simp [AV.aL] at ht
 | bool=>exact ⟨.one (.bool _),by simp [Value.cells,Value.oneCell']⟩
 | int=>exact ⟨.one (.int _ _),by simp [Value.cells,Value.oneCell']⟩
 | str=>exact ⟨.one (.str _),by simp [Value.cells,Value.oneCell']⟩
 | lg=>exact ⟨.one .lg,by simp [Value.cells,Value.oneCell']⟩
 | ptr h=>exact ⟨.one (.ptr h),by simp [Value.cells,Value.oneCell']⟩
 | ep h=>exact ⟨.one (.ep h),by simp [Value.cells,Value.oneCell']⟩
 | iE=>exact ⟨.one .iE,by simp [Value.cells,Value.oneCell']⟩
 | hY=>exact ⟨.one .hY,by simp [Value.cells,Value.oneCell']⟩
 | lQ=>exact ⟨.one .lQ,by simp [Value.cells,Value.oneCell']⟩
 | lR h ho=>exact ⟨.one (.lR h ho),by simp [Value.cells,Value.oneCell']⟩
 | kS h ho=>exact ⟨.one (.kS h ho),by simp [Value.cells,Value.oneCell']⟩
 | list h hl hc hk=>exact ⟨.one (.list h hl hc hk),by simp [Value.cells,Value.oneCell']⟩
 | iQ h hc=>exact ⟨.one (.iQ h hc),by simp [Value.cells,Value.oneCell']⟩
 | iW h ho=>exact ⟨.one (.iW h ho),by simp [Value.cells,Value.oneCell']⟩
 | dL h ho hc=>exact ⟨.one (.dL h ho hc),by simp [Value.cells,Value.oneCell']⟩
 | gp h ho=>exact ⟨.one (.gp h ho),by simp [Value.cells,Value.oneCell']⟩
 | jq=>exact ⟨.one .jq,by simp [Value.cells,Value.oneCell']⟩
 | map h=>exact ⟨.one (.map h),by simp [Value.cells,Value.oneCell']⟩
 | dq=>exact ⟨.one .dq,by simp [Value.cells,Value.oneCell']⟩
 | fn h h'=>exact ⟨.one (.fn h h'),by simp [Value.cells,Value.oneCell']⟩
 | yield h=>exact ⟨.one (.yield h),by simp [Value.cells,Value.oneCell']⟩
 | oo=>exact ⟨.one .oo,by simp [Value.cells,Value.oneCell']⟩
 | iface h=>exact ⟨.one (.iface h),by simp [Value.cells,Value.oneCell']⟩
mutual
theorem Rel.ga:∀ {a:AV} {c:Value},Rel R w a c→Rel R w a.ga c
 | _,_,.bool b=>.bool b
 | _,_,.int k n=>.int k n
 | _,_,.str l=>.str l
 | _,_,.agg h h1=>.agg h.ga h1
 | _,_,.bi h=>.bi h.ga
 | _,_,.lg=>.lg
 | _,_,.ptr h=>.ptr h
 | _,_,.ep h=>.ep h
 | _,_,.iE=>.iE
 | _,_,.hY=>.hY
 | _,_,.lQ=>.lQ
 | _,_,.lR _ _=>.hY
 | _,_,.kS _ _=>.hY
 | _,_,@Rel.list _ _ .nil _ _ _ _ _ _ h hl hc hk=>.list h hl hc hk
 | _,_,@Rel.list _ _ .full _ _ _ _ _ _ h hl hc hk=>.list h hl hc hk
 | _,_,@Rel.list _ _ .kq _ _ _ _ _ _ h hl hc hk=>.list h hl hc hk
 | _,_,@Rel.list _ _ (.own _) _ _ _ _ _ _ h hl hc _=>.list h hl hc trivial
 | _,_,@Rel.list _ _ (.aU _ _) _ _ _ _ _ _ h hl hc _=>.list h hl hc trivial
 | _,_,.iQ h hc=>.iQ h hc
 | _,_,.iW h ho=>.iW h ho
 | _,_,.dL h ho hc=>.dL h ho hc
 | _,_,.gp h ho=>.gp h ho
 | _,_,.jq=>.jq
 | _,_,.map h=>.map h
 | _,_,.dq=>.dq
 | _,_,.fn h h'=>.fn h h'
 | _,_,.yield h=>.yield h
 | _,_,.oo=>.oo
 | _,_,.iface h=>.iface h
theorem aE.ga:∀ {l:List AV} {cs:List Value},aE R w l cs→aE R w (kA l) cs
 | _,_,.nil=>.nil
 | _,_,.cons h t=>.cons h.ga t.ga
end
theorem eg.get {b o:Nat} {l:List AV} (h:eg R w b o l):∃ vs,aE R w l vs∧(∀ v∈vs,v.oneCell'=true)∧(∀ j v,vs[j]?=some v→w.cell? ⟨b,o+j,none⟩=some v)∧∀ j,j < l.length→R.I b (o+j):=by
 induction l generalizing o with
 | nil=>exact ⟨[],.nil,by simp,by simp,by simp⟩
 | cons a l ih=>
  cases h with
  | @cons _ _ _ c _ hc h1 hi h t=>
   obtain ⟨vs,k1,k2,k3,k4⟩:=ih t
   refine ⟨c :: vs,.cons h k1,?_,?_,?_⟩
   ·intro v hv
    rcases List.mem_cons.1 hv with rfl | hv
    ·exact h1
    ·exact k2 v hv
   ·intro j v hv
    cases j with
    | zero=>simp at hv; subst hv; exact hc
    | succ j=>simp at hv; have:=k3 j v hv; rwa [show o+1+j=o+(j+1) by omega] at this
   ·intro j hj
    cases j with
    | zero=>exact hi
    | succ j=>have:=k4 j (by simp at hj; omega); rwa [show o+1+j=o+(j+1) by omega] at this
theorem eg.make {b o:Nat} {l:List AV} {vs:List Value} (h:aE R w l vs) (h1:∀ v∈vs,v.oneCell'=true) (hc:∀ j v,vs[j]?=some v→w.cell? ⟨b,o+j,none⟩=some v) (hi:∀ j,j < l.length→R.I b (o+j)):eg R w b o l:=by
 induction l generalizing vs o with
 | nil=>exact .nil
 | cons a l ih=>
  cases h with
  | cons h t=>
   refine .cons (hc 0 _ (by simp)) (h1 _ (by simp)) (hi 0 (by simp)) h (ih t (fun v hv=>h1 v (by simp [hv])) (fun j v hv=>?_) (fun j hj=>?_))
   ·have:=hc (j+1) v (by simpa using hv); rwa [show o+(j+1)=o+1+j by omega] at this
   ·have:=hi (j+1) (by simpa using hj); rwa [show o+(j+1)=o+1+j by omega] at this
theorem eg.drop {b o:Nat} {l:List AV} (h:eg R w b o l) (n:Nat):eg R w b (o+n) (l.drop n):=by
 induction n generalizing o l with
 | zero=>simpa using h
 | succ n ih=>cases h with
  | nil=>simpa using eg.nil
  | cons hc h1 hi h t=>have:=ih t; rw [show o+1+n=o+(n+1) by omega] at this; simpa using this
end rel
theorem bZ (b o n:Nat):(⟨b,o,none⟩:Addr).add n=⟨b,o+n,none⟩:=by unfold Addr.add; split <;> simp_all
section aW
variable {E:Env} {R R':aj} {w w':World} {β β':Nat→Nat} {s:St} {a:Act}
theorem mM.mono (e:Ext R w R' w') {sl:aT} {tm:Array Value} (h:mM R w β sl tm):mM R' w' β sl tm:=
 fun i hi=>let ⟨c,h1,h2⟩:=h i hi; ⟨c,h1,h2.mono e⟩
theorem cU.mono (e:Ext R w R' w'):∀ {l:List (AV × AV)} {es:List MapEntry},cU R w l es→cU R' w' l es
 | [],[],_=>trivial
 | (_,_) :: _,_ :: _,h=>⟨h.1.mono e,h.2.1.mono e,cU.mono e h.2.2⟩
 | [],_ :: _,h=>h.elim
 | _ :: _,[],h=>h.elim
theorem mN {w w':World} {b:Nat} (h:b < w.heap.size) (e:w'.heap[b]?=w.heap[b]?):b < w'.heap.size:=by
 rw [Array.getElem?_eq_getElem h] at e
 exact (Array.getElem?_eq_some_iff.1 e).1
theorem fX.mono (e:Ext R w R' w') {go:GO} {ro:RO} (h:fX R w go ro) (hb:∀ b,ro.has b→w'.heap[b]?=w.heap[b]?) (hi:∀ b o,ro.has b→R'.I b o→R.I b o):fX R' w' go ro:=by
 cases ro with
 | none=>cases go <;> first | exact h | exact h.elim
 | bj=>cases go <;> first | exact h | exact h.elim
 | bp b=>
  have kD:=hb b rfl
  cases go with
  | dead=>exact mN h kD
  | row cs el=>obtain ⟨vs,h1,h2,h3,h4⟩:=h; exact ⟨vs,kD.trans h1,h2.mono e,h3,fun o ho=>h4 o (hi b o rfl ho)⟩
  | tok f sz el=>exact h.elim
  | aU _ _ _=>exact h.elim
  | gN oP n left _=>obtain ⟨bm,seen,c0,h1,h2,h3⟩:=h; exact ⟨bm,seen,c0,e.bp h1,kD.trans h2,h3⟩
  | du es sz el=>exact h.elim
  | map es=>obtain ⟨av,clock,h1,h2,h3⟩:=h; exact ⟨av,clock,kD.trans h1,cU.mono e h2,h3⟩
  | fU l pos=>exact kD.trans h
  | loop busy pending fn ae n params assign body defers done=>
   obtain ⟨⟨r,db,h1,h2,h3,h4,h5,h6,h7,h8,h9,Ve⟩,h10⟩:=h
   exact ⟨⟨r,db,kD.trans h1,h2,h3,h4.mono e,h5,h6,h7,h8,h9,e.bp Ve⟩,h10⟩
  | defers o=>exact kD.trans h
 | tok f b c=>
  have kD:=hb b rfl
  cases go with
  | tok f' sz el=>
   obtain ⟨h0,cur,h1,h2,h3,h4,h5⟩:=h
   exact ⟨h0,cur,kD.trans h1,h2,h3,h4,fun o ho ox=>h5 o ho (hi b o rfl ox)⟩
  | du es sz el=>
   obtain ⟨h0,nQ,cur,vs,h1,h2,h3,h4,h5,h6,h7,h8⟩:=h
   exact ⟨h0,nQ,cur,vs,kD.trans h1,h2,h3,h4,fun o ho=>h5 o (hi b o rfl ho),h6.mono e,h7,h8⟩
  | dead=>exact mN h kD
  | row cs=>exact h.elim
  | aU _ _ _=>exact h.elim
  | gN _ _ _ _=>exact h.elim
  | map es=>exact h.elim
  | fU l pos=>exact h.elim
  | loop=>exact h.elim
  | defers o=>exact h.elim
 | aU ts=>
  cases go with
  | aU fs sz el=>
   obtain ⟨h1,h2,h3⟩:=h
   refine ⟨h1,h2,fun j f t hf ht=>?_⟩
   have h4:=h3 j f t hf ht
   cases t with
   | bj=>exact h4
   | full f'=>exact h4
   | tok f' b c=>
    obtain ⟨h5,cur,k1,k2,k3,k4,k5⟩:=h4
    have hh:RO.has (.aU ts) b:=⟨j,f',c,ht⟩
    exact ⟨h5,cur,(hb b hh).trans k1,k2,k3,k4,fun o ho ox=>k5 o ho (hi b o hh ox)⟩
  | dead=>exact fun j f b c ht=>mN (h j f b c ht) (hb b ⟨j,f,c,ht⟩)
  | _=>exact h.elim
theorem Live.of {id b:Nat} {ro:RO} (h:nth R.obj id=some ro) (hb:ro.has b):Live R b:=⟨id,ro,h,hb⟩
theorem dP.aW {G:List GO} (h:dP E R w G) (e:Ext R w R' w') (ho:R'.obj=R.obj) (hb:∀ b,Live R b→w'.heap[b]?=w.heap[b]?) (hi:∀ b o,Live R b→R'.I b o→R.I b o) (wf:∀ b o,R'.I b o→b < w'.heap.size) (hd:E.lo≤w.drawn→E.lo≤w'.drawn:=by first | exact fun h=>h | exact fun h=>Nat.le_succ_of_le h):dP E R' w' G where
 lo:=hd h.lo
 len:=by rw [ho]; exact h.len
 obj:=fun id go ro hg hr=>by
  rw [ho] at hr
  exact (h.obj id go ro hg hr).mono e (fun b NO=>hb b (.of hr NO)) (fun b o NO=>hi b o (.of hr NO))
 inj:=fun i j ri rj b h1 h2=>by rw [ho] at h1 h2; exact h.inj i j ri rj b h1 h2
 wf:=wf
 dC:=fun g cs hg=>(h.dC g cs hg).mono e
theorem HE.aW {bx:cm} (h:HE R w β bx) (e:Ext R w R' w') (hb:∀ k cs,de bx k=some cs→w'.heap[β k]?=w.heap[β k]?) (hi:∀ k cs o,de bx k=some cs→R'.I (β k) o→R.I (β k) o) (hl:∀ k cs,de bx k=some cs→Live R' (β k)→Live R (β k)):HE R' w' β bx where
 box:=fun k cs hk=>by
  obtain ⟨⟨vs,el,h1,h2,h3⟩,h4,h5⟩:=h.box k cs hk
  exact ⟨⟨vs,el,(hb k cs hk).trans h1,h2.mono e,h3⟩,fun o ho=>h4 o (hi k cs o hk ho),fun yK=>h5 (hl k cs hk yK)⟩
 inj:=h.inj
theorem ov.mono (e:Ext R w R' w'):∀ {l:List Nat} {ds:List Deferred},ov R l ds→ov R' l ds
 | [],[],_=>trivial
 | _ :: _,_ :: _,h=>let ⟨⟨b,h1,h2⟩,h3⟩:=h; ⟨⟨b,e.bp h1,h2⟩,ov.mono e h3⟩
 | [],_ :: _,h=>h.elim
 | _ :: _,[],h=>h.elim
theorem aV.aW (h:aV E R w β s a) (e:Ext R w R' w') (ho:R'.obj=R.obj) (hb:∀ b,Own R β s.boxes b→w'.heap[b]?=w.heap[b]?) (hi:∀ b o,Own R β s.boxes b→R'.I b o→R.I b o) (wf:∀ b o,R'.I b o→b < w'.heap.size) (hd:E.lo≤w.drawn→E.lo≤w'.drawn:=by first | exact fun h=>h | exact fun h=>Nat.le_succ_of_le h):aV E R' w' β s a where
 g:=h.g.aW e ho (fun b hl=>hb b (.inl hl)) (fun b o hl=>hi b o (.inl hl)) wf hd
 b:=h.b.aW e (fun k cs hk=>hb _ (.inr ⟨k,cs,hk,rfl⟩)) (fun k cs o hk=>hi _ o (.inr ⟨k,cs,hk,rfl⟩)) (fun k cs _ hl=>by obtain ⟨id,ro,h1,h2⟩:=hl; rw [ho] at h1; exact ⟨id,ro,h1,h2⟩)
 t:=h.t.mono e
 n:=h.n
 d:=h.d.mono e
theorem aZ {w:World} {b:Nat} {o:Obj} (h:w.heap[b]?=some o):b < w.heap.size:=(Array.getElem?_eq_some_iff.1 h).1
theorem fX.lt {go:GO} {ro:RO} (h:fX R w go ro) {b:Nat} (hb:ro.has b):b < w.heap.size:=by
 cases ro with
 | none=>exact hb.elim
 | bj=>exact hb.elim
 | bp x=>
  have hb:b=x:=hb
  subst hb
  cases go with
  | dead=>exact h
  | row cs el=>obtain ⟨vs,h1,_⟩:=h; exact aZ h1
  | tok f sz el=>exact h.elim
  | aU _ _ _=>exact h.elim
  | gN oP n left _=>obtain ⟨bm,seen,c0,_,h2,_⟩:=h; exact aZ h2
  | du es sz el=>exact h.elim
  | map es=>obtain ⟨av,clock,h1,_⟩:=h; exact aZ h1
  | fU l pos=>exact aZ h
  | loop=>obtain ⟨⟨r,db,h1,_⟩,_⟩:=h; exact aZ h1
  | defers o=>exact aZ h
 | tok f x c=>
  have hb:b=x:=hb
  subst hb
  cases go with
  | tok f' sz el=>obtain ⟨_,cur,h1,_⟩:=h; exact aZ h1
  | du es sz el=>obtain ⟨_,_,cur,vs,h1,_⟩:=h; exact aZ h1
  | dead=>exact h
  | row cs=>exact h.elim
  | aU _ _ _=>exact h.elim
  | gN _ _ _ _=>exact h.elim
  | map es=>exact h.elim
  | fU l pos=>exact h.elim
  | loop=>exact h.elim
  | defers o=>exact h.elim
 | aU ts=>
  obtain ⟨j,f,c,ht⟩:=hb
  cases go with
  | aU fs sz el=>
   obtain ⟨h1,h2,h3⟩:=h
   have bK:=bo ht
   rw [h1] at bK
   obtain ⟨f',hf⟩:∃ f',nth fs j=some f':=⟨fs[j],by rw [aR]; exact List.getElem?_eq_getElem bK⟩
   obtain ⟨_,cur,k1,_⟩:=h3 j f' _ hf ht
   exact aZ k1
  | dead=>exact h j f b c ht
  | _=>exact h.elim
theorem dP.bX {G:List GO} (h:dP E R w G) {b:Nat} (hl:Live R b):b < w.heap.size:=by
 obtain ⟨id,ro,h1,h2⟩:=hl
 have bK:=bo h1
 rw [h.len] at bK
 obtain ⟨go,gO⟩:∃ go,nth G id=some go:=⟨G[id],by rw [aR]; exact List.getElem?_eq_getElem bK⟩
 exact (h.obj id go ro gO h1).lt h2
theorem aV.dK (h:aV E R w β s a) {b:Nat} (ho:Own R β s.boxes b):b < w.heap.size:=by
 rcases ho with hl | ⟨k,cs,hk,rfl⟩
 ·exact h.g.bX hl
 ·obtain ⟨⟨vs,el,h1,_⟩,_⟩:=h.b.box k cs hk
  exact aZ h1
theorem bT {w w':World} {b:Nat} (h:w'.heap[b]?=w.heap[b]?) (o:Nat):w'.cell? ⟨b,o,none⟩=w.cell? ⟨b,o,none⟩:=by simp [World.cell?,h]
theorem wo (wf:∀ b o,R.I b o→b < w.heap.size) (x:Obj):Ext R w R (w.alloc x):=
 ⟨fun _ _ h=>h,fun b o h=>bT (heap_alloc_old w x b (wf b o h)) o,fun _ ro h=>⟨ro,h,b9.refl ro⟩,.old fun b hb=>heap_alloc_old w x b hb⟩
theorem aV.alloc (h:aV E R w β s a) (x:Obj):aV E R (w.alloc x) β s a:=
 h.aW (wo h.g.wf x) rfl (fun b hb=>heap_alloc_old w x b (h.dK hb)) (fun _ _ _ hi=>hi) (fun b o hi=>by have:=h.g.wf b o hi; simp; omega)
end aW
end Go.Am
namespace Go.Am
open Go
theorem EY {a b:AV} (h:vZ a b=true):a=b:=by
 unfold vZ at h
 split at h
 all_goals (first | (cases h; done) | skip)
 all_goals (try simp only [Bool.and_eq_true,beq_iff_eq,Nat.beq_eq] at h)
 all_goals (simp [*])
mutual
theorem iF:∀ {a b:AV},dx a b=true→a=b:=by
 intro a b h
 unfold dx at h
 split at h
 ·simp only [Bool.and_eq_true,Nat.beq_eq] at h; rw [h.1.1,fC h.1.2,fC h.2]
 ·rw [fC h]
 ·rw [fC h]
 ·rw [fC h]
 ·simp only [Bool.and_eq_true,Nat.beq_eq] at h; rw [h.1,fC h.2]
 ·simp only [Bool.and_eq_true,Nat.beq_eq] at h; rw [h.1,fC h.2]
 ·simp only [Bool.and_eq_true,Nat.beq_eq] at h; rw [h.1,fC h.2]
 ·simp only [Bool.and_eq_true,Nat.beq_eq] at h; rw [h.1.1,h.1.2,fC h.2]
 ·simp only [Bool.and_eq_true,Nat.beq_eq] at h; rw [h.1.1.1,h.1.1.2,h.1.2,fC h.2]
 ·exact EY h
theorem fC:∀ {l r:List AV},dY l r=true→l=r:=by
 intro l r h
 unfold dY at h
 split at h
 ·rfl
 ·rw [Bool.and_eq_true] at h; rw [iF h.1,fC h.2]
 ·cases h
end
def xw (a b:AV):Prop:=∀ (R:aj) (w:World) (c:Value),Rel R w a c→Rel R w b c
def cg:List AV→List AV→Prop
 | [],[]=>True
 | a :: l,b :: r=>xw a b∧cg l r
 | _,_=>False
theorem xw.refl (a:AV):xw a a:=fun _ _ _ h=>h
theorem cg.refl:∀ l:List AV,cg l l
 | []=>trivial
 | a :: l=>⟨xw.refl a,cg.refl l⟩
theorem cg.length:∀ {l r:List AV},cg l r→l.length=r.length
 | [],[],_=>rfl
 | _ :: _,_ :: _,h=>by simp [cg.length h.2]
 | [],_ :: _,h=>h.elim
 | _ :: _,[],h=>h.elim
theorem cg.rel {R:aj} {w:World}:∀ {l r:List AV} {cs:List Value},cg l r→aE R w l cs→aE R w r cs
 | [],[],_,_,h=>h
 | _ :: _,_ :: _,_,k,.cons h t=>.cons (k.1 _ _ _ h) (cg.rel k.2 t)
 | [],_ :: _,_,h,_=>h.elim
 | _ :: _,[],_,h,_=>h.elim
theorem cg.EZ {R:aj} {w:World}:∀ {l r:List AV} {b o:Nat},cg l r→eg R w b o l→eg R w b o r
 | [],[],_,_,_,_=>.nil
 | _ :: _,_ :: _,_,_,k,.cons hc h1 hi h t=>.cons hc h1 hi (k.1 _ _ _ h) (cg.EZ k.2 t)
 | [],_ :: _,_,_,h,_=>h.elim
 | _ :: _,[],_,_,h,_=>h.elim
theorem cg.append:∀ {a b c d:List AV},cg a b→cg c d→cg (a++c) (b++d)
 | [],[],_,_,_,h=>h
 | _ :: _,_ :: _,_,_,k,h=>⟨k.1,cg.append k.2 h⟩
 | [],_ :: _,_,_,h,_=>h.elim
 | _ :: _,[],_,_,h,_=>h.elim
structure hU (v u:AV):Prop where
 ga:xw v u
 bi:u.aL=v.aL
 cells:v.aL=true→cg v.cells u.cells
 closed:v.closed=true→u.closed=true
theorem sQ {u v a:AV} (h:(ah.two u v).fits a=true):(ah.two u v).enc ((ah.two u v).a8 a)=a:=by
 change (dx a u || dx a v)=true at h
 change (bif dx a v then v else u)=a
 cases hs:dx a v with
 | true=>exact (iF hs).symm
 | false=>
  rw [hs,Bool.or_false] at h
  exact (iF h).symm
theorem hU.refl (v:AV):hU v v:=⟨xw.refl v,rfl,fun _=>cg.refl _,fun h=>h⟩
theorem AS {a b:IntKind} (h:NM a b=true):a=b:=of_decide_eq_true h
theorem pL {α:Type} {f:AV→Bool} {d:AV→α} {g:α→AV} (Cx:∀ v,f v=true→hU v (g (d v))) {R:aj} {w:World} :
  ∀ {es:List AV} {b o sz:Nat},allFit f es=true→gd R w b o sz es→gd R w b o sz ((es.map d).map g)
 | [],b,o,sz,_,_=>.nil
 | e :: es,b,o,sz,h,hr=>by
  simp only [allFit,Bool.and_eq_true] at h
  cases hr with
  | cons hl ht hk hc t=>
   have d':=Cx e h.1
   have wc:=d'.cells ht
   exact .cons (by rw [← wc.length,hl]) (by rw [d'.bi,ht]) (d'.closed hk) (wc.EZ hc) (pL Cx h.2 t)
theorem DC {R:aj} {w:World} {b o sz bk:Nat} {es:List AV} (h:es=[]∨sz=bk) (hr:gd R w b o bk es):gd R w b o sz es:=by
 rcases h with rfl | rfl
 ·exact .nil
 ·exact hr
theorem DD {α:Type} {f:AV→Bool} {d:AV→α} {g:α→AV} (Cx:∀ v,f v=true→hU v (g (d v))) {k:LK} {sz bk:Nat} {es:List AV} (hs:es=[]∨sz=bk) (h:allFit f es=true) :
  xw (.list k bk es) (.list .kq sz ((es.map d).map g)):=fun R w c hr=>by
 cases hr with
 | iE=>exact .hY
 | hY=>exact .hY
 | lQ=>exact .lQ
 | lR _ _=>exact .hY
 | kS _ _=>exact .hY
 | list hr hlen hc hk=>exact .list (pL Cx h (DC hs hr)) (by simp [hlen]) hc trivial
theorem E0 {α:Type} {f:AV→Bool} {d:AV→α} {g:α→AV} (Cx:∀ v,f v=true→hU v (g (d v))) {id sz:Nat} {es:List AV} (h:allFit f es=true) :
  xw (.list (.own id) sz es) (.list (.own id) sz ((es.map d).map g)):=fun R w c hr=>by
 cases hr with
 | lR h1 h2=>exact .lR h1 h2
 | list hr hlen hc hk=>exact .list (pL Cx h hr) (by simp [hlen]) hc hk
theorem E1 {α:Type} {f:AV→Bool} {d:AV→α} {g:α→AV} (Cx:∀ v,f v=true→hU v (g (d v))) {id j sz:Nat} {es:List AV} (h:allFit f es=true) :
  xw (.list (.aU id j) sz es) (.list (.aU id j) sz ((es.map d).map g)):=fun R w c hr=>by
 cases hr with
 | kS h1 h2=>exact .kS h1 h2
 | list hr hlen hc hk=>exact .list (pL Cx h hr) (by simp [hlen]) hc hk
mutual
theorem ah.cA:∀ (p:ah) {v:AV},p.fits v=true→hU v (p.enc (p.a8 v))
 | .int k,v,h=>by
  cases v with
  | int k' n=>
   have hk:NM k k'=true:=h
   rw [AS hk]
   exact hU.refl _
  | _=>cases h
 | .bool,v,h=>by
  cases v with
  | bool b=>exact hU.refl _
  | _=>cases h
 | .str,v,h=>by
  cases v with
  | str b=>exact hU.refl _
  | _=>cases h
 | .agg ps,v,h=>by
  cases v with
  | agg cs=>
   obtain ⟨h1,h2⟩:=ps.cA (show ps.fits cs=true from h)
   exact ⟨fun R w c hr=>by cases hr with | agg hr ss=>exact .agg (h1.rel hr) ss,rfl,fun _=>h1,fun hc=>by
    have pM:aN cs=true:=by simpa [AV.closed] using hc
    show AV.closed (.agg (ps.enc (ps.a8 cs)))=true
    simp only [AV.closed]; exact h2 pM⟩
  | _=>cases h
 | .bi ps,v,h=>by
  cases v with
  | bi cs=>
   obtain ⟨h1,h2⟩:=ps.cA (show ps.fits cs=true from h)
   exact ⟨fun R w c hr=>by cases hr with | bi hr=>exact .bi (h1.rel hr),rfl,fun hn=>by simp [AV.aL] at hn,fun hc=>by
    have pM:aN cs=true:=by simpa [AV.closed] using hc
    show AV.closed (.bi (ps.enc (ps.a8 cs)))=true
    simp only [AV.closed]; exact h2 pM⟩
  | _=>cases h
 | .list sz p,v,h=>by
  cases v with
  | list k bk es=>
   have hb:((Nat.beq sz bk || es.isEmpty)&&allFit p.fits es)=true:=h
   simp only [Bool.and_eq_true,Bool.or_eq_true,Nat.beq_eq,List.isEmpty_iff] at hb
   have hw:=DD (k:=k) (fun v=>p.cA) hb.1.symm hb.2
   exact ⟨hw,rfl,fun _=>⟨hw,trivial⟩,fun _=>rfl⟩
  | _=>cases h
 | .own id sz p,v,h=>by
  cases v with
  | list k bk es=>
   cases k with
   | own iR=>
    have hb:((Nat.beq id iR&&Nat.beq sz bk)&&allFit p.fits es)=true:=h
    simp only [Bool.and_eq_true,Nat.beq_eq] at hb
    obtain ⟨⟨rfl,rfl⟩,hf⟩:=hb
    have hw:=E0 (id:=id) (sz:=sz) (fun v=>p.cA) hf
    exact ⟨hw,rfl,fun _=>⟨hw,trivial⟩,fun hc=>by simp [AV.closed,LK.closed] at hc⟩
   | _=>cases h
  | _=>cases h
 | .aU id sz p,v,h=>by
  cases v with
  | list k bk es=>
   cases k with
   | aU iR j=>
    have hb:((Nat.beq id iR&&Nat.beq sz bk)&&allFit p.fits es)=true:=h
    simp only [Bool.and_eq_true,Nat.beq_eq] at hb
    obtain ⟨⟨rfl,rfl⟩,hf⟩:=hb
    have hw:=E1 (id:=id) (j:=j) (sz:=sz) (fun v=>p.cA) hf
    exact ⟨hw,rfl,fun _=>⟨hw,trivial⟩,fun hc=>by simp [AV.closed,LK.closed] at hc⟩
   | _=>cases h
  | _=>cases h
 | .pz u,v,h=>by
  have:=iF (show dx v u=true from h)
  subst this
  exact hU.refl _
 | .two u v,a,h=>by
  have hv:(ah.two u v).enc ((ah.two u v).a8 a)=a:=sQ h
  rw [hv]
  exact hU.refl _
theorem aD.cA:∀ (ps:aD) {l:List AV},ps.fits l=true→cg l (ps.enc (ps.a8 l))∧(aN l=true→aN (ps.enc (ps.a8 l))=true)
 | .nil,l,h=>by
  cases l with
  | nil=>exact ⟨trivial,fun h=>h⟩
  | cons _ _=>cases h
 | .cons p .nil,l,h=>by
  match l,h with
  | [],h=>cases h
  | a :: l,h=>
   have h':(p.fits a&&l.isEmpty)=true:=h
   simp only [Bool.and_eq_true,List.isEmpty_iff] at h'
   obtain ⟨h1,rfl⟩:=h'
   have d:=p.cA h1
   exact ⟨⟨d.ga,trivial⟩,fun hc=>by
    simp only [aN,Bool.and_true] at hc
    show aN [p.enc (p.a8 a)]=true
    simp only [aN,Bool.and_true]
    exact d.closed hc⟩
 | .cons p (.cons q ps),l,h=>by
  cases l with
  | nil=>cases h
  | cons a l=>
   have h':(p.fits a&&(aD.cons q ps).fits l)=true:=h
   rw [Bool.and_eq_true] at h'
   have d:=p.cA h'.1
   obtain ⟨k1,k2⟩:=(aD.cons q ps).cA h'.2
   exact ⟨⟨d.ga,k1⟩,fun hc=>by
    simp only [aN,Bool.and_eq_true] at hc
    show aN (p.enc (p.a8 a) :: (aD.cons q ps).enc ((aD.cons q ps).a8 l))=true
    simp only [aN,Bool.and_eq_true]
    exact ⟨d.closed hc.1,k2 hc.2⟩⟩
end
theorem ah.oU (p:ah) {v:AV} {x:p.T} (h:p.dec v=some x):hU v (p.enc x):=by
 unfold ah.dec at h
 cases hf:p.fits v with
 | true=>rw [hf] at h; cases h; exact p.cA hf
 | false=>rw [hf] at h; cases h
theorem aD.oU (ps:aD) {l:List AV} {x:ps.T} (h:ps.dec l=some x):cg l (ps.enc x)∧(aN l=true→aN (ps.enc x)=true):=by
 unfold aD.dec at h
 cases hf:ps.fits l with
 | true=>rw [hf] at h; cases h; exact ps.cA hf
 | false=>rw [hf] at h; cases h
mutual
def ah.plain:ah→Bool
 | .agg ps=>ps.plain
 | .bi ps=>ps.plain
 | .list _ p=>p.plain
 | .own _ _ p=>p.plain
 | .aU _ _ p=>p.plain
 | .pz v=>dx v v
 | .two u v=>dx u u&&dx v v&&!dx u v
 | _=>true
def aD.plain:aD→Bool
 | .nil=>true
 | .cons p ps=>p.plain&&ps.plain
end
theorem lU {α:Type} {f:AV→Bool} {g:α→AV} (h:∀ x,f (g x)=true):∀ xs:List α,allFit f (xs.map g)=true
 | []=>rfl
 | x :: xs=>by simp only [List.map_cons,allFit,h x,lU h xs,Bool.and_self]
theorem sR {α:Type} {d:AV→α} {g:α→AV} (h:∀ x,d (g x)=x):∀ xs:List α,(xs.map g).map d=xs
 | []=>rfl
 | x :: xs=>by simp only [List.map_cons,h x,sR h xs]
mutual
theorem ah.ba:∀ (p:ah) (x:p.T),p.plain=true→p.fits (p.enc x)=true∧p.a8 (p.enc x)=x
 | .int k,x,_=>⟨decide_eq_true rfl,rfl⟩
 | .bool,x,_=>⟨rfl,rfl⟩
 | .str,x,_=>⟨rfl,rfl⟩
 | .agg ps,x,h=>ps.ba x h
 | .bi ps,x,h=>ps.ba x h
 | .list sz p,x,h=>by
  refine ⟨?_,sR (fun y=>(p.ba y h).2) x⟩
  change ((Nat.beq sz sz || (List.map p.enc x).isEmpty)&&allFit p.fits (List.map p.enc x))=true
  rw [Nat.beq_refl,Bool.true_or,Bool.true_and]
  exact lU (fun y=>(p.ba y h).1) x
 | .own id sz p,x,h=>by
  refine ⟨?_,sR (fun y=>(p.ba y h).2) x⟩
  change ((Nat.beq id id&&Nat.beq sz sz)&&allFit p.fits (List.map p.enc x))=true
  rw [Nat.beq_refl,Nat.beq_refl,Bool.true_and,Bool.true_and]
  exact lU (fun y=>(p.ba y h).1) x
 | .aU id sz p,(x:Nat × List p.T),h=>by
  refine ⟨?_,?_⟩
  ·change ((Nat.beq id id&&Nat.beq sz sz)&&allFit p.fits (List.map p.enc x.2))=true
   rw [Nat.beq_refl,Nat.beq_refl,Bool.true_and,Bool.true_and]
   exact lU (fun y=>(p.ba y h).1) x.2
  ·change (x.1,(List.map p.enc x.2).map p.a8)=x
   rw [sR (fun y=>(p.ba y h).2) x.2]
 | .pz v,x,h=>⟨h,rfl⟩
 | .two u v,(x:Bool),h=>by
  change (dx u u&&dx v v&&!dx u v)=true at h
  simp only [Bool.and_eq_true,Bool.not_eq_true'] at h
  obtain ⟨⟨h1,h2⟩,h3⟩:=h
  cases x
  ·exact ⟨by change (dx u u || dx u v)=true; rw [h1]; rfl,h3⟩
  ·exact ⟨by change (dx v u || dx v v)=true; rw [h2,Bool.or_true],h2⟩
theorem aD.ba:∀ (ps:aD) (x:ps.T),ps.plain=true→ps.fits (ps.enc x)=true∧ps.a8 (ps.enc x)=x
 | .nil,x,_=>⟨rfl,rfl⟩
 | .cons p .nil,x,h=>by
  have h':(p.plain&&true)=true:=h
  rw [Bool.and_true] at h'
  have:=p.ba x h'
  exact ⟨by change (p.fits (p.enc x)&&true)=true; rw [this.1]; rfl,this.2⟩
 | .cons p (.cons q ps),x,h=>by
  have h':(p.plain&&(aD.cons q ps).plain)=true:=h
  rw [Bool.and_eq_true] at h'
  have h1:=p.ba x.1 h'.1
  have h2:=(aD.cons q ps).ba x.2 h'.2
  refine ⟨?_,?_⟩
  ·change (p.fits (p.enc x.1)&&(aD.cons q ps).fits ((aD.cons q ps).enc x.2))=true
   rw [h1.1,h2.1]
   rfl
  ·change (p.a8 (p.enc x.1),(aD.cons q ps).a8 ((aD.cons q ps).enc x.2))=x
   rw [h1.2,h2.2]
   rfl
end
end Go.Am
namespace Go.Am
open Go
theorem bG (E:Env) {t:TypeId} {i:TI} (h:E.ti t=some i) :
  ∃ fY u,E.P.info? t=some fY∧E.P.underlying t=some u∧fY.size=i.size∧iT u=i.agg∧oq E.P u=some i.k∧fN fY=i.zero:=by
 have h1:=E.Dv t i h
 unfold Du at h1
 split at h1
 ·rename_i fY u h2 h3
  split at h1
  ·rename_i k hk
   cases h1
   exact ⟨fY,u,h2,h3,rfl,rfl,hk,rfl⟩
  ·cases h1
 ·cases h1
section runs
variable {P:Program} (w:World)
theorem wq {t:TypeId} {u:TypeDesc} (h:P.underlying t=some u):(isAgg t).run P w=.ok (iT u) w:=by
 unfold isAgg
 simp only [Sem.run_bind,run_underlying h,Result.andThen_ok]
 cases u <;> rfl
theorem run_sizeOf {t:TypeId} {i:TypeInfo} (h:P.info? t=some i):(sizeOf t).run P w=.ok i.size w:=by
 simp [sizeOf,typeInfo,h]
theorem gf {t:TypeId} {i:TypeInfo} {z:Value} (h:P.info? t=some i) (hz:i.zero=some z):(zeroValue t).run P w=.ok z w:=by
 simp [zeroValue,typeInfo,h,hz]
theorem th (t:TypeId) (v:Value):(newVar t v).run P w=.ok ⟨w.heap.size,0,none⟩ (w.alloc (.cells v.cells t)):=by
 simp only [newVar,newRow,Sem.run_bind,run_newObj,Result.andThen_ok,Sem.run_pure]
 rfl
end runs
theorem tj {R:aj} {w:World} {ag:Bool} {l:List AV} {v:AV} {vs:List Value} (hm:qM ag l=some v) (h:aE R w l vs) (h1:∀ x∈vs,x.oneCell'=true) :
  (ag=true→Rel R w v (.agg ⟨vs⟩))∧(ag=false→∃ c,vs=[c]∧Rel R w v c):=by
 unfold qM at hm
 cases ag with
 | true=>
  simp at hm
  subst hm
  exact ⟨fun _=>.agg h h1,fun e=>by cases e⟩
 | false=>
  refine ⟨(fun e=>by cases e),fun _=>?_⟩
  simp only [Bool.false_eq_true,if_false] at hm
  split at hm
  ·cases hm
   cases h with
   | cons h t=>
    cases t
    exact ⟨_,rfl,h⟩
  ·cases hm
theorem mO {E:Env} {R:aj} {w:World} {t:TypeId} {i:TI} (hi:E.ti t=some i) {b off:Nat} {l:List AV} {vs:List Value} {v:AV}
  (hl:l.length=i.size) (hr:aE R w l vs) (h1:∀ x∈vs,x.oneCell'=true) (hc:∀ j x,vs[j]?=some x→w.cell? ⟨b,off+j,none⟩=some x) (hm:qM i.agg l=some v) :
  ∃ c,(loadVar t ⟨b,off,none⟩).run E.P w=.ok c w∧Rel R w v c:=by
 obtain ⟨fY,u,e1,e2,e3,e4,_⟩:=bG E hi
 obtain ⟨m1,m2⟩:=tj hm hr h1
 unfold loadVar
 simp only [Sem.run_bind,wq w e2,Result.andThen_ok,e4]
 cases ha:i.agg with
 | true=>
  refine ⟨.agg ⟨vs⟩,?_,m1 ha⟩
  have hlen:fY.size=vs.length:=by rw [e3,← hl,hr.length]
  have:=run_loadCells_list (P:=E.P) w ⟨b,off,none⟩ vs (fun j x hx=>by rw [bZ]; exact hc j x hx)
  simp [run_sizeOf w e1,hlen,this]
 | false=>
  obtain ⟨c,rfl,dv⟩:=m2 ha
  refine ⟨c,?_,dv⟩
  have:=hc 0 c (by simp)
  simp only [Nat.add_zero] at this
  simp [run_load,this]
theorem iG {w:World} {b:Nat} {vs:List Value} {el:TypeId} {fr:Nat × Nat} (h:w.heap[b]?=some (.cells ⟨vs⟩ el fr)) (j:Nat):w.cell? ⟨b,j,none⟩=vs[j]?:=by
 simp [World.cell?,h]
theorem rN {E:Env} {R:aj} {w:World} {β:Nat→Nat} {s:St} {a:Act} (h:aV E R w β s a) {p:SV} {c:Value} (hp:ou R w β p c) {cs:List AV} {off:Nat} (hc:lK s p=some (cs,off)) :
  ∃ b o vs,c=.pointer (some ⟨b,o+off,none⟩)∧aE R w cs vs∧(∀ x∈vs,x.oneCell'=true)∧∀ j x,vs[j]?=some x→w.cell? ⟨b,o+j,none⟩=some x:=by
 unfold lK at hc
 split at hc
 ·rename_i k fB
  split at hc
  ·rename_i eM hk
   cases hc
   obtain ⟨⟨vs,el,h1,h2,h3⟩,_⟩:=h.b.box k cs hk
   exact ⟨β k,0,vs,by rw [hp]; simp,h2,h3,fun j x hx=>by rw [iG h1]; simpa using hx⟩
  ·cases hc
 ·rename_i id fB
  split at hc
  ·rename_i eM hk
   cases hc
   cases hp with
   | @ptr _ _ b hb=>
    obtain ⟨vs,h1,h2,h3,_⟩:=h.g.obj id _ _ hk hb
    exact ⟨b,0,vs,by simp,h2,h3,fun j x hx=>by rw [iG h1]; simpa using hx⟩
  ·cases hc
 ·rename_i eM
  cases hc
  cases hp with
  | ep hr=>
   obtain ⟨vs,h1,h2,h3,_⟩:=hr.get
   exact ⟨_,_,vs,rfl,h1,h2,h3⟩
 ·cases hc
theorem nR {R:aj} {w:World} {off n:Nat} {cs l:List AV} {vs:List Value} (hs:Ct off n cs=some l) (h:aE R w cs vs) (h1:∀ x∈vs,x.oneCell'=true) :
  l.length=n∧aE R w l ((vs.drop off).take n)∧(∀ x∈(vs.drop off).take n,x.oneCell'=true)∧∀ j x,((vs.drop off).take n)[j]?=some x→vs[off+j]?=some x:=by
 obtain ⟨e1,e2⟩:=KP hs
 subst e1
 refine ⟨e2,(h.drop off).take n,fun x hx=>h1 x (List.mem_of_mem_drop (List.mem_of_mem_take hx)),fun j x hx=>?_⟩
 rw [List.getElem?_take] at hx
 split at hx
 ·rwa [List.getElem?_drop] at hx
 ·cases hx
def bz (E:Env) (R:aj) (w:World) (β:Nat→Nat) (s:St) (a:Act) (o:Oper) (s':St):Prop:=
 ∃ nx x w' R' β',(execOp a.eval o).run E.P w=.ok nx w'∧(nx=.value x∨(nx=.skip∧x=undef))∧aV E R' w' β' s' (a.put o.dst x)∧Step R w β s.boxes R' w' β' s'.boxes
section ops
variable {E:Env} {R:aj} {w:World} {β:Nat→Nat} {s:St} {a:Act} {o:Oper}
@[simp] theorem aP (s:St) (d:Option Tmp) (x:SV):(s.put d x).boxes=s.boxes:=by
 cases d with
 | none=>rfl
 | some d=>simp only [St.put]; split <;> rfl
theorem ap (h:aV E R w β s a) {c:Value} {sv:SV} (hx:(execOp a.eval o).run E.P w=.ok (.value c) w) (hr:ou R w β sv c):bz E R w β s a o (s.put o.dst sv):=
 ⟨.value c,c,w,R,β,hx,.inl rfl,h.put o.dst hr,by rw [aP]; exact Step.refl R w β s.boxes⟩
theorem AT {t:Bool} {x y:AV} {c d:Value} (hx:Rel R w x c) (hy:Rel R w y d):Rel R w (xo t x y) (if t=true then c else d):=by
 unfold xo
 split
 ·cases hx; cases hy; cases t <;> exact .bool _
 ·cases hx; cases hy
  split
  ·rename_i e; subst e; cases t <;> exact .int _ _
  ·cases t <;> exact .int _ _
 ·cases t
  ·exact hy
  ·exact hx
theorem jD (h:aV E R w β s a) (x:Operand) (ho:o.op=.move x∨o.op=.assign x) {y:SV} (hy:bc E s.ae x=y):bz E R w β s a o (s.put o.dst y):=by
 subst hy
 refine ap h (c:=a.eval x) ?_ (aI h x)
 rcases ho with ho | ho <;> simp [execOp,ho]
theorem DE (h:aV E R w β s a) (c x y:Operand) (ho:o.op=.pick c x y) {t:Bool} {p q:AV} (h1:bc E s.ae c=.v (.bool t)) (h2:bc E s.ae x=.v p) (h3:bc E s.ae y=.v q) :
  bz E R w β s a o (s.put o.dst (.v (xo t p q))):=by
 have r1:=aI h c
 have r2:=aI h x
 have r3:=aI h y
 rw [h1] at r1; rw [h2] at r2; rw [h3] at r3
 refine ap h (c:=if t=true then a.eval x else a.eval y) ?_ (AT r2 r3)
 have TM:Rel R w (.bool t) (a.eval c):=r1
 generalize KQ:a.eval c=cc at TM
 cases TM
 simp [execOp,ho,asBool,KQ]
theorem DF (h:aV E R w β s a) (t:TypeId) (x:Operand) (ho:o.op=.load t x) {v:AV} (hl:pE E s t (bc E s.ae x)=some v) :
  bz E R w β s a o (s.put o.dst (.v v)):=by
 unfold pE at hl
 split at hl
 ·rename_i i cs off hi hc
  split at hl
  ·rename_i l hs
   obtain ⟨b,o',vs,e,h1,h2,h3⟩:=rN h (aI h x) hc
   obtain ⟨k1,k2,k3,k4⟩:=nR hs h1 h2
   obtain ⟨c,hc,dv⟩:=mO (E:=E) hi (b:=b) (off:=o'+off) k1 k2 k3 (fun j y hy=>by rw [Nat.add_assoc]; exact h3 _ _ (k4 j y hy)) hl
   refine ap h (c:=c) ?_ dv
   simp [execOp,ho,Instr.loadAt,e,Instr.sureAddr,hc]
  ·cases hl
 ·cases hl
theorem jN {b:Nat} (hI:∀ o,¬ R.I b o) (cs:Array Value):Ext R w R (w.setRow b cs):=
 ⟨fun _ _ h=>h,fun b' o h=>bT (setRow_other w b b' cs (fun e=>hI o (e ▸ h))) o,fun _ ro h=>⟨ro,h,b9.refl ro⟩,fun b' r hb=>⟨r,by
  by_cases e:b'=b
  ·subst e
   have bK:b' < w.heap.size:=aZ hb
   have hv:w.heap[b']=.loop r:=(Array.getElem?_eq_some_iff.1 hb).2
   unfold World.setRow
   rw [Array.getElem?_eq_getElem (by simpa using bK),Array.getElem_modify]
   simp [hv]
  ·exact (setRow_other w b b' cs e).trans hb,rfl,rfl,rfl,rfl,rfl⟩⟩
theorem aE.bI {cs ys:List AV} {vs us:List Value} {off:Nat} (h:aE R w cs vs) (k:aE R w ys us) (hl:off+ys.length≤cs.length) :
  aE R w (bI cs off ys) (vs.take off++us++vs.drop (off+us.length)):=by
 rw [ey cs off ys hl,← k.length]
 exact ((h.take off).append k).append (h.drop _)
theorem hZ {vs us:List Value} {off n:Nat} (h:∀ x∈vs,x.oneCell'=true) (k:∀ x∈us,x.oneCell'=true):∀ x∈vs.take off++us++vs.drop n,x.oneCell'=true:=by
 intro x hx
 simp only [List.mem_append] at hx
 rcases hx with (hx | hx) | hx
 ·exact h x (List.mem_of_mem_take hx)
 ·exact k x hx
 ·exact h x (List.mem_of_mem_drop hx)
theorem js {t:TypeId} {i:TI} (hi:E.ti t=some i) {b off:Nat} {vs:List Value} {el:TypeId} {c:Value} (hb:w.heap[b]?=some (.cells ⟨vs⟩ el (0,0)))
  (hs:c.cells.toList.length=i.size) (hl:off+c.cells.toList.length≤vs.length) (h1:∀ v∈c.cells.toList,v.oneCell'=true) :
  (storeVar t ⟨b,off,none⟩ c).run E.P w=.ok () (w.setRow b ⟨vs.take off++c.cells.toList++vs.drop (off+c.cells.toList.length)⟩):=by
 obtain ⟨fY,u,e1,e2,e3,_⟩:=bG E hi
 have jE:=run_storeCells_at (P:=E.P) b off el c.cells.toList 0 ⟨vs⟩ w hb (by simpa using hl) h1
 have cr:c.cells.size=fY.size:=by rw [e3,← hs]; simp
 simp only [Nat.add_zero] at jE
 unfold storeVar
 simp only [Sem.run_bind,run_sizeOf w e1,Result.andThen_ok,Sem.run_ite,cr,ne_eq,not_true_eq_false,if_false]
 simpa using jE
theorem aV.AU (h:aV E R w β s a) {id b k:Nat} {cs:List AV} (hb:nth R.obj id=some (.bp b)) (hk:de s.boxes k=some cs):β k≠b:=by
 intro e
 exact (h.b.box k cs hk).2.2 ⟨id,_,hb,by rw [e]; rfl⟩
theorem AW (h:aV E R w β s a) (t:TypeId) (p x:Operand) (ho:o.op=.store t p x) (hd:o.dst=none) {s':St} (hs:iU E s t (bc E s.ae p) (bc E s.ae x)=some s') :
  bz E R w β s a o s':=by
 unfold iU at hs
 have rp:=aI h p
 have rx:=aI h x
 split at hs
 ·rename_i i v hi hx
  rw [hx] at rx
  split at hs
  ·rename_i fh
   simp only [Bool.and_eq_true] at fh
   obtain ⟨Hh,hlen⟩:=fh
   have hlen:=Nat.eq_of_beq_eq_true hlen
   obtain ⟨c1,c2⟩:=Rel.cells rx Hh
   have yK:v.cells.length=(a.eval x).cells.toList.length:=c1.length
   split at hs
   ·-- a local box
    rename_i k off OA
    rw [OA] at rp
    split at hs
    ·rename_i cs hk
     split at hs
     ·rename_i hle
      cases hs
      have hle:=Nat.le_of_ble_eq_true hle
      obtain ⟨⟨vs,el,b1,b2,b3⟩,b4,b5⟩:=h.b.box k cs hk
      have bf:=js (E:=E) (w:=w) hi (off:=off) (c:=a.eval x) b1 (by rw [← yK]; exact hlen) (by rw [← yK,← b2.length]; exact hle) c2
      have hex:=jN (R:=R) (w:=w) b4 ⟨vs.take off++(a.eval x).cells.toList++vs.drop (off+(a.eval x).cells.toList.length)⟩
      refine ⟨.skip,undef,w.setRow (β k) ⟨vs.take off++(a.eval x).cells.toList++vs.drop (off+(a.eval x).cells.toList.length)⟩,R,β,?_,.inr ⟨rfl,rfl⟩,?_,?_⟩
      ·simp [execOp,ho,Instr.storeAt,show a.eval p=.pointer (some ⟨β k,off,none⟩) from rp,Instr.sureAddr,bf]
      ·rw [hd]
       refine ⟨?_,?_,h.t.mono hex,h.n,h.d⟩
       ·exact h.g.aW hex rfl (fun b hb=>setRow_other w _ b _ (fun e=>b5 (e ▸ hb))) (fun _ _ _ hi=>hi) (fun b o hi=>by have:=h.g.wf b o hi; simp; omega)
       ·refine ⟨fun k' eM iY=>?_,fun k1 k2 x1 x2 g1 g2=>?_⟩
        ·rcases eu iY with ⟨rfl,e⟩ | ⟨cr,OB⟩
         ·cases e
          exact ⟨⟨_,el,setRow_heap w _ _ _ el (0,0) b1,(b2.bI c1 hle).mono hex,hZ b3 c2⟩,b4,b5⟩
         ·obtain ⟨⟨vs',QE,d1,d2,d3⟩,d4,d5⟩:=h.b.box k' eM OB
          refine ⟨⟨vs',QE,?_,d2.mono hex,d3⟩,d4,d5⟩
          rw [setRow_other]
          ·exact d1
          ·exact fun e=>cr (h.b.inj k' k eM cs OB hk e).symm
        ·have q1:∃ y,de s.boxes k1=some y:=by
          rcases eu g1 with ⟨rfl,_⟩ | ⟨_,g⟩
          ·exact ⟨_,hk⟩
          ·exact ⟨_,g⟩
         have q2:∃ y,de s.boxes k2=some y:=by
          rcases eu g2 with ⟨rfl,_⟩ | ⟨_,g⟩
          ·exact ⟨_,hk⟩
          ·exact ⟨_,g⟩
         obtain ⟨y1,q1⟩:=q1
         obtain ⟨y2,q2⟩:=q2
         exact h.b.inj k1 k2 y1 y2 q1 q2
      ·have xx:Own R β s.boxes (β k):=.inr ⟨k,cs,hk,rfl⟩
       refine ⟨hex,rfl,rfl,rfl,by simp,fun b _ hn=>setRow_other w _ b _ (fun e=>hn (e ▸ xx)),fun b _ hb=>?_,fun b o hi _ _=>hi⟩
       rcases hb with hb | ⟨k',eM,iY,e⟩
       ·exact .inl hb
       ·rcases eu iY with ⟨rfl,_⟩ | ⟨_,g⟩
        ·exact .inr ⟨k,cs,hk,e⟩
        ·exact .inr ⟨k',eM,g,e⟩
     ·cases hs
    ·cases hs
   ·-- an object
    rename_i id off OA
    rw [OA] at rp
    split at hs
    ·rename_i cs hk
     split at hs
     ·rename_i hle
      cases hs
      have hle:=Nat.le_of_ble_eq_true hle
      have OC:Rel R w (.ptr id off) (a.eval p):=rp
      generalize OD:a.eval p=pv at OC
      cases OC with
      | @ptr _ _ b hb=>
      obtain ⟨vs,b1,b2,b3,b4⟩:=h.g.obj id _ _ hk hb
      have bf:=js (E:=E) (w:=w) hi (off:=off) (c:=a.eval x) b1 (by rw [← yK]; exact hlen) (by rw [← yK,← b2.length]; exact hle) c2
      have hex:=jN (R:=R) (w:=w) b4 ⟨vs.take off++(a.eval x).cells.toList++vs.drop (off+(a.eval x).cells.toList.length)⟩
      refine ⟨.skip,undef,w.setRow b ⟨vs.take off++(a.eval x).cells.toList++vs.drop (off+(a.eval x).cells.toList.length)⟩,R,β,?_,.inr ⟨rfl,rfl⟩,?_,?_⟩
      ·simp [execOp,ho,Instr.storeAt,OD,Instr.sureAddr,bf]
      ·rw [hd]
       refine ⟨⟨?_,fun iR go ro hg hr=>?_,h.g.inj,fun b' o' ox=>by have:=h.g.wf b' o' ox; simp; omega,fun g eM hg=>(h.g.dC g eM hg).mono hex,by first | exact h.g.lo | exact Nat.le_succ_of_le h.g.lo⟩,?_,h.t.mono hex,h.n,h.d⟩
       ·simp [St.bF,h.g.len]
       ·rcases cO hg with ⟨rfl,rfl,_⟩ | ⟨cr,yL⟩
        ·rw [hb] at hr
         cases hr
         exact ⟨_,setRow_heap w _ _ _ _ (0,0) b1,(b2.bI c1 hle).mono hex,hZ b3 c2,b4⟩
        ·refine (h.g.obj iR go ro yL hr).mono hex (fun b' kD=>setRow_other w _ b' _ (fun e=>cr ?_)) (fun _ _ _ hi=>hi)
         subst e
         exact h.g.inj id iR _ _ b' hb hr rfl kD
       ·exact h.b.aW hex (fun k eM iY=>setRow_other w _ _ _ (h.AU hb iY)) (fun _ _ _ _ hi=>hi) (fun _ _ _ hl=>hl)
      ·have xx:Own R β s.boxes b:=.inl ⟨id,_,hb,rfl⟩
       exact ⟨hex,rfl,rfl,rfl,by simp,fun b' _ hn=>setRow_other w _ b' _ (fun e=>hn (e ▸ xx)),fun _ _ hb=>hb,fun b o hi _ _=>hi⟩
     ·cases hs
    ·cases hs
   ·cases hs
  ·cases hs
 ·cases hs
end ops
end Go.Am
namespace Go.Am
open Go
section ops
variable {E:Env} {R:aj} {w:World} {β:Nat→Nat} {s:St} {a:Act} {o:Oper}
def aj.add (R:aj) (ro:RO):aj:=⟨R.I,R.obj++[ro]⟩
theorem fP (wf:∀ b o,R.I b o→b < w.heap.size) (x:Obj) (ro:RO):Ext R w (R.add ro) (w.alloc x):=
 ⟨fun _ _ h=>h,fun b o h=>bT (heap_alloc_old w x b (wf b o h)) o,fun _ r h=>⟨r,cP h,b9.refl r⟩,.old fun b hb=>heap_alloc_old w x b hb⟩
theorem ll {ro:RO} {b:Nat} (h:Live (R.add ro) b):Live R b∨ro.has b:=by
 obtain ⟨id,r,h1,h2⟩:=h
 rcases au h1 with h1 | ⟨_,rfl⟩
 ·exact .inl ⟨id,r,h1,h2⟩
 ·exact .inr h2
theorem aV.jO (h:aV E R w β s a) (x:Obj) (go:GO) (ro:RO) (bA:∀ b,ro.has b→b=w.heap.size) (gO:fX (R.add ro) (w.alloc x) go ro):aV E (R.add ro) (w.alloc x) β (s.dy go) a where
 g:=by
  have e:=fP (R:=R) (w:=w) h.g.wf x ro
  refine ⟨by simp [St.dy,aj.add,h.g.len],fun id g r h1 h2=>?_,fun i j ri rj b h1 h2 b1 b2=>?_,fun b o hi=>?_,fun g cs hg=>(h.g.dC g cs hg).mono e,by first | exact h.g.lo | exact Nat.le_succ_of_le h.g.lo⟩
  ·rcases au h2 with h2 | ⟨h3,rfl⟩
   ·have bK:=bo h2
    rw [h.g.len] at bK
    rcases au h1 with h1 | ⟨h4,_⟩
    ·exact (h.g.obj id g r h1 h2).mono e (fun b hb=>heap_alloc_old w x b (h.g.bX ⟨id,r,h2,hb⟩)) (fun _ _ _ hi=>hi)
    ·omega
   ·rcases au h1 with h1 | ⟨h4,rfl⟩
    ·have:=bo h1
     rw [h3,h.g.len] at this
     omega
    ·exact gO
  ·rcases au h1 with g1 | ⟨h3,e1⟩
   ·rcases au h2 with g2 | ⟨h4,e2⟩
    ·exact h.g.inj i j ri rj b g1 g2 b1 b2
    ·have:=h.g.bX ⟨i,ri,g1,b1⟩
     rw [e2] at b2
     have:=bA b b2
     omega
   ·rcases au h2 with g2 | ⟨h4,e2⟩
    ·have:=h.g.bX ⟨j,rj,g2,b2⟩
     rw [e1] at b1
     have:=bA b b1
     omega
    ·omega
  ·have:=h.g.wf b o hi
   simp
   omega
 b:=h.b.aW (fP h.g.wf x ro) (fun k cs hk=>heap_alloc_old w x _ (h.dK (.inr ⟨k,cs,hk,rfl⟩))) (fun _ _ _ _ hi=>hi) (fun k cs hk hl=>by
  rcases ll hl with hl | hl
  ·exact hl
  ·have:=h.dK (.inr ⟨k,cs,hk,rfl⟩)
   have hl:=bA _ hl
   omega)
 t:=h.t.mono (fP h.g.wf x ro)
 n:=h.n
 d:=h.d.mono (fP h.g.wf x ro)
theorem cn (h:aV E R w β s a) (x:Obj) (ro:RO) (bA:∀ b,ro.has b→b=w.heap.size):Step R w β s.boxes (R.add ro) (w.alloc x) β s.boxes:=
 ⟨fP h.g.wf x ro,rfl,rfl,rfl,by simp,fun b hb _=>heap_alloc_old w x b hb,fun b hb ho=>by
  rcases ho with ho | ho
  ·rcases ll ho with ho | ho
   ·exact .inl ho
   ·have ho:=bA _ ho
    omega
  ·exact .inr ho,fun _ _ hi _ _=>hi⟩
theorem fj (h:aV E R w β s a) (ro:RO):nth (R.add ro).obj s.G.length=some ro:=by
 rw [← h.g.len]
 exact eh _ _
theorem yY {f:FuncId} (h:aV E R w β s a) {v:AV} {c:Value} {t:TypeId} (hv:Rel R w v c) (hn:v.aL=true)
  (hx:(execOp a.eval o).run E.P w=.ok (.value (.pointer (some ⟨w.heap.size,0,none⟩))) (w.alloc (.cells c.cells t))) {s':St} (ha:eN E f s o.dst t v.cells=some (true,s')) :
  bz E R w β s a o s':=by
 obtain ⟨c1,c2⟩:=Rel.cells hv hn
 unfold eN at ha
 split at ha
 ·cases ha
 ·rename_i d hd
  split at ha
  ·-- an object
   cases ha
   have gO:fX (R.add (.bp w.heap.size)) (w.alloc (.cells c.cells t)) (.row v.cells t) (.bp w.heap.size):=
    ⟨c.cells.toList,heap_alloc_new w _,c1.mono (fP h.g.wf _ _),c2,fun o' hi=>by have:=h.g.wf _ _ hi; omega⟩
   have cK:=h.jO (.cells c.cells t) (.row v.cells t) (.bp w.heap.size) (by exact fun _ h=>h) gO
   refine ⟨_,.pointer (some ⟨w.heap.size,0,none⟩),_,R.add (.bp w.heap.size),β,hx,.inl rfl,?_,?_⟩
   ·rw [hd]
    exact cK.put (some d) (x:=.v (.ptr s.G.length 0)) (Rel.ptr (fj h _))
   ·rw [aP]
    exact cn h _ _ (by exact fun _ h=>h)
  ·split at ha
   ·rename_i QF
    injection ha with ha
    injection ha with _ KR
    subst KR
    have e:=wo (R:=R) (w:=w) h.g.wf (.cells c.cells t)
    let β':Nat→Nat:=fun k=>if k=d then w.heap.size else β k
    have Cy:β' d=w.heap.size:=by simp [β']
    have cr:∀ k,k≠d→β' k=β k:=fun k hk=>by simp [β',hk]
    have Vf:d < a.tmps.size:=by rw [h.n]; exact Nat.le_of_ble_eq_true QF
    have AX:((s.kill d).sr d v.cells).put (some d) (.lp d 0)=⟨.put d (.lp d 0) :: .kill d :: s.ae,(d,v.cells) :: s.boxes,s.G,s.marks,s.ro,s.n⟩:=by
     simp only [St.put,St.sr,St.kill,QF]
    refine ⟨_,.pointer (some ⟨w.heap.size,0,none⟩),_,R,β',hx,.inl rfl,?_,?_⟩
    ·rw [hd,AX]
     refine ⟨?_,⟨fun k cs hk=>?_,fun k k' cs eM hk iY he=>?_⟩,?_,by simp [Act.put,h.n],h.d⟩
     ·exact h.g.aW e rfl (fun b hb=>heap_alloc_old w _ b (h.g.bX hb)) (fun _ _ _ hi=>hi) (fun b o hi=>by have:=h.g.wf b o hi; simp; omega)
     ·rcases eu hk with ⟨rfl,he⟩ | ⟨Hi,hk⟩
      ·cases he
       rw [Cy]
       exact ⟨⟨c.cells.toList,t,heap_alloc_new w _,c1.mono e,c2⟩,fun o' hi=>by have:=h.g.wf _ _ hi; omega,fun hl=>by have:=h.g.bX hl; omega⟩
      ·rw [cr k (Ne.symm Hi)]
       obtain ⟨⟨vs,el,b1,b2,b3⟩,b4,b5⟩:=h.b.box k cs hk
       exact ⟨⟨vs,el,(heap_alloc_old w _ _ (aZ b1)).trans b1,b2.mono e,b3⟩,b4,b5⟩
     ·rcases eu hk with ⟨rfl,_⟩ | ⟨Hi,hk⟩
      ·rcases eu iY with ⟨rfl,_⟩ | ⟨KS,iY⟩
       ·rfl
       ·rw [Cy,cr k' (Ne.symm KS)] at he
        have:=h.dK (.inr ⟨k',eM,iY,rfl⟩)
        omega
      ·rcases eu iY with ⟨rfl,_⟩ | ⟨KS,iY⟩
       ·rw [Cy,cr k (Ne.symm Hi)] at he
        have:=h.dK (.inr ⟨k,cs,hk,rfl⟩)
        omega
       ·rw [cr k (Ne.symm Hi),cr k' (Ne.symm KS)] at he
        exact h.b.inj k k' cs eM hk iY he
     ·intro i hi
      by_cases Rn:d=i
      ·subst Rn
       rw [aw]
       refine ⟨.pointer (some ⟨w.heap.size,0,none⟩),by simp [Act.put,Vf],?_⟩
       show Value.pointer _=_
       rw [Cy]
      ·rw [aG Rn] at hi ⊢
       rcases Cw (l:=s.ae) (d:=d) (t:=i) with ⟨h1,h2⟩ | h1
       ·rw [h1] at hi ⊢
        obtain ⟨c',q1,q2⟩:=h.t i hi
        refine ⟨c',?_,?_⟩
        ·simp only [Act.put]
         rw [Array.getElem?_setIfInBounds_ne Rn]
         exact q1
        ·cases su:lk s.ae i with
         | none=>trivial
         | v y=>rw [su] at q2; exact Rel.mono e q2
         | lp k off=>
          rw [su] at q2
          show c'=_
          rw [cr k (h2 k off su)]
          exact q2
       ·exact absurd h1 hi
    ·rw [AX]
     refine ⟨e,rfl,rfl,rfl,by simp,fun b hb _=>heap_alloc_old w _ b hb,fun b hb ho=>?_,fun _ _ hi _ _=>hi⟩
     rcases ho with ho | ⟨k,cs,hk,he⟩
     ·exact .inl ho
     ·rcases eu hk with ⟨rfl,_⟩ | ⟨Hi,hk⟩
      ·rw [Cy] at he
       omega
      ·rw [cr k (Ne.symm Hi)] at he
       exact .inr ⟨k,cs,hk,he⟩
   ·cases ha
theorem cL {i:TypeInfo} {z:AV} (h:fN i=some z):∃ c,i.zero=some c∧∀ R w,Rel R w z c:=by
 unfold fN at h
 split at h
 ·rename_i c hc
  exact ⟨c,hc,fun R w=>rM h⟩
 ·cases h
theorem AY {f:FuncId} (h:aV E R w β s a) (t:TypeId) (ho:o.op=.alloc t) {i:TI} {z:AV} (hi:E.ti t=some i) (hz:i.zero=some z) (hn:z.aL=true) {s':St} (ha:eN E f s o.dst t z.cells=some (true,s')) :
  bz E R w β s a o s':=by
 obtain ⟨fY,u,e1,e2,e3,e4,e5,e6⟩:=bG E hi
 rw [hz] at e6
 obtain ⟨c,hc,hr⟩:=cL e6
 refine yY h (hr R w) hn (t:=t) ?_ ha
 simp [execOp,ho,Instr.alloc,gf w e1 hc,th]
theorem E2 {f:FuncId} (h:aV E R w β s a) (t:TypeId) (x:Operand) (ho:o.op=.box t x) {v:AV} (hv:bc E s.ae x=.v v) (hn:v.aL=true) {s':St} (ha:eN E f s o.dst t v.cells=some (true,s')) :
  bz E R w β s a o s':=by
 have hr:=aI h x
 rw [hv] at hr
 refine yY h hr hn (t:=t) ?_ ha
 simp [execOp,ho,Instr.box,th]
end ops
end Go.Am
namespace Go.Am
open Go
section types
variable {P:Program}
theorem lV:∀ {fs:List Field} {l:List (Nat × Nat × Bool)},fieldsOf P fs=some l→∀ {j o sz:Nat} {ag:Bool},nth l j=some (o,sz,ag) →
  ∃ f fi u,fs[j]?=some f∧f.offset=o∧P.info? f.type=some fi∧fi.size=sz∧P.underlying f.type=some u∧iT u=ag
 | [],l,h,j,o,sz,ag,hn=>by simp [fieldsOf] at h; subst h; simp [nth] at hn
 | f :: fs,l,h,j,o,sz,ag,hn=>by
  unfold fieldsOf at h
  split at h
  ·rename_i i u r h1 h2 h3
   cases h
   cases j with
   | zero=>simp [nth] at hn; obtain ⟨e1,e2,e3⟩:=hn; exact ⟨f,i,u,by simp,e1,h1,e2,h2,e3⟩
   | succ j=>
    obtain ⟨f',fi,u',g1,g2⟩:=lV h3 (show nth r j=some (o,sz,ag) from hn)
    exact ⟨f',fi,u',by simpa using g1,g2⟩
  ·cases h
theorem mA:∀ {fs:List Field} {l:List (Nat × Nat × Bool)},fieldsOf P fs=some l→fs.mapM (fun f=>(P.info? f.type).map fun i=>(f.offset,i.size))=some (l.map fun x=>(x.1,x.2.1))
 | [],l,h=>by simp [fieldsOf] at h; subst h; simp
 | f :: fs,l,h=>by
  unfold fieldsOf at h
  split at h
  ·rename_i i u r h1 h2 h3
   cases h
   simp [List.mapM_cons,h1,mA h3]
  ·cases h
theorem Cz {u:TypeDesc} {l:List (Nat × Nat × Bool)} (h:oq P u=some (.st l)):∃ fs,u=.struct fs∧fieldsOf P fs.toList=some l:=by
 cases u <;> simp only [oq] at h <;> try (cases h; done)
 all_goals (try (split at h <;> cases h; done))
 rename_i fs
 split at h
 ·rename_i l' hl
  cases h
  exact ⟨fs,rfl,hl⟩
 ·cases h
theorem mP {u:TypeDesc} {n esz:Nat} {ag:Bool} (h:oq P u=some (.arr n esz ag)):∃ e i ue,u=.array n e∧P.info? e=some i∧i.size=esz∧P.underlying e=some ue∧iT ue=ag:=by
 cases u <;> simp only [oq] at h <;> try (cases h; done)
 all_goals (try (split at h <;> cases h; done))
 rename_i m e
 split at h
 ·rename_i i ue h1 h2
  cases h
  exact ⟨e,i,ue,rfl,h1,rfl,h2,rfl⟩
 ·cases h
theorem cW {u:TypeDesc} {e esz mQ:Nat} {ag:Bool} {z:Option AV} (h:oq P u=some (.sl e esz ag mQ z)) :
  ∃ i ue,u=.slice e∧P.info? e=some i∧i.size=esz∧i.bytes=mQ∧P.underlying e=some ue∧iT ue=ag∧fN i=z:=by
 cases u <;> simp only [oq] at h <;> try (cases h; done)
 all_goals (try (split at h <;> cases h; done))
 rename_i e'
 split at h
 ·rename_i i ue h1 h2
  injection h with h
  injection h with g1 g2 g3 g4 g5
  subst g1; subst g2; subst g3; subst g4; subst g5
  exact ⟨i,ue,rfl,h1,rfl,rfl,h2,rfl,rfl⟩
 ·cases h
theorem jP {u:TypeDesc} (h:oq P u=some .str):u=.string:=by
 cases u <;> simp only [oq] at h <;> try (cases h; done)
 all_goals (try (split at h <;> cases h; done))
 rfl
theorem pN {u:TypeDesc} {k:IntKind} (h:oq P u=some (.int k)):u=.int k:=by
 cases u <;> simp only [oq] at h <;> try (cases h; done)
 all_goals (try (split at h <;> cases h; done))
 cases h
 rfl
theorem lm {u:TypeDesc} {k e:TypeId} {z:Option AV} (h:oq P u=some (.map k e z)):u=.map k e∧∃ i,P.info? e=some i∧fN i=z:=by
 cases u <;> simp only [oq] at h <;> try (cases h; done)
 all_goals (try (split at h <;> cases h; done))
 split at h
 ·rename_i i h1
  cases h
  exact ⟨rfl,i,h1,rfl⟩
 ·cases h
end types
section ops
variable {E:Env} {R:aj} {w:World} {β:Nat→Nat} {s:St} {a:Act} {o:Oper}
theorem wu {p q:SV} {c:Value} {n:Nat} (hp:ou R w β p c) (hm:v7 n p=some q) :
  ∃ b o,c=.pointer (some ⟨b,o,none⟩)∧ou R w β q (.pointer (some ⟨b,o+n,none⟩)):=by
 unfold v7 at hm
 split at hm
 ·cases hm
  exact ⟨_,_,hp,rfl⟩
 ·cases hm
  cases hp with
  | @ptr _ _ b hb=>exact ⟨b,_,rfl,Rel.ptr hb⟩
 ·cases hm
  cases hp with
  | @ep _ b o hr=>
   refine ⟨b,o,rfl,Rel.ep ?_⟩
   rw [tg]
   exact hr.drop n
 ·cases hm
  cases hp with
  | @gp _ _ _ _ _ b o _ ro hr eT=>
   refine ⟨b,o,rfl,Rel.gp hr ?_⟩
   cases ro with
   | none=>trivial
   | bj=>exact eT.elim
   | bp _=>exact eT.elim
   | aU _=>exact eT.elim
   | tok f1 b1 c1=>exact ⟨eT.1,fun e=>⟨(eT.2 e).1,by rw [(eT.2 e).2,Nat.add_assoc]⟩⟩
 ·cases hm
theorem tn (h:aV E R w β s a) (t:TypeId) (x:Operand) (j:Nat) (ho:o.op=.fieldAddr t x j) {q:SV} (hq:jM E t (bc E s.ae x) j=some q) :
  bz E R w β s a o (s.put o.dst q):=by
 unfold jM at hq
 split at hq
 ·rename_i i hi
  split at hq
  ·rename_i fs hk
   split at hq
   ·rename_i off sz ag hn
    split at hq
    ·rename_i eA
     have eA:=Nat.le_of_ble_eq_true eA
     obtain ⟨fY,u,e1,e2,e3,e4,e5,e6⟩:=bG E hi
     rw [hk] at e5
     obtain ⟨fl,rfl,hf⟩:=Cz e5
     obtain ⟨f,fi,u',g1,g2,g3,g4,g5,g6⟩:=lV hf hn
     obtain ⟨b,o',m1,m2⟩:=wu (aI h x) hq
     refine ap h ?_ m2
     have Ro:fl[j]?=some f:=by simpa using g1
     have cr:¬ fi.size=0:=by omega
     simp [execOp,ho,Instr.fieldAt,run_underlying e2,Ro,m1,Instr.sureAddr,fieldPlace,run_sizeOf w g3,cr,bZ,g2]
    ·cases hq
   ·cases hq
  ·cases hq
 ·cases hq
theorem yZ {b o sz:Nat} {es:List AV} (h:gd R w b o sz es) {n:Nat} {e:AV} (hn:nth es n=some e):eg R w b (o+n * sz) e.cells∧e.cells.length=sz∧e.aL=true:=by
 induction es generalizing o n with
 | nil=>simp [nth] at hn
 | cons x l ih=>
  cases h with
  | cons hl ht _ h t=>
   cases n with
   | zero=>simp [nth] at hn; subst hn; exact ⟨by simpa using h,hl,ht⟩
   | succ n=>
    have:=ih t (show nth l n=some e from hn)
    rw [show o+sz+n * sz=o+(n+1) * sz by rw [Nat.add_mul]; omega] at this
    exact this
theorem to (h:aV E R w β s a) (t:TypeId) (x ix:Operand) (ho:o.op=.indexAddr t x ix) {q:SV} (hq:jL E t (bc E s.ae x) (bc E s.ae ix)=some (true,q)) :
  bz E R w β s a o (s.put o.dst q):=by
 have rx:=aI h x
 have ri:=aI h ix
 unfold jL at hq
 split at hq
 ·rename_i i k n hi OE
  rw [OE] at ri
  have JB:Rel R w (.int k n) (a.eval ix):=ri
  generalize Hj:a.eval ix=iv at JB
  cases JB
  obtain ⟨fY,u,e1,e2,e3,e4,e5,e6⟩:=bG E hi
  split at hq
  ·-- a list
   rename_i elem esz ag mQ z kk sz es hk hx
   rw [hx] at rx
   rw [hk] at e5
   obtain ⟨ie,ue,rfl,f1,f2,f3,f4,f5,f6⟩:=cW e5
   split at hq
   ·rename_i hc
    have key:∀ (u:AV),(0≤n∧n < (es.length:Int))→cg (an es n.toNat).cells u.cells→bz E R w β s a o (s.put o.dst (.v (.ep u.cells))):=fun u tp hu=>by
     obtain ⟨wv,EI⟩:=tp
     have df:Rel R w (.list kk sz es) (a.eval x):=rx
     generalize eV:a.eval x=xv at df
     cases df with
     | iE=>simp at EI; omega
     | hY=>simp at EI; omega
     | lQ=>simp at EI; omega
     | lR=>simp at EI; omega
     | kS=>simp at EI; omega
     | @list _ _ _ b o' len cap hr hl ia E3=>
      subst hl
      have bK:n.toNat < es.length:=by omega
      obtain ⟨e,he⟩:∃ e,nth es n.toNat=some e:=⟨es[n.toNat],by rw [aR]; exact List.getElem?_eq_getElem bK⟩
      have eA:sz=esz:=by
       simp only [Bool.or_eq_true] at hc
       rcases hc with hc | hc
       ·exact Nat.eq_of_beq_eq_true hc
       ·cases es with
        | nil=>simp at bK
        | cons _ _=>simp at hc
      obtain ⟨g1,_,_⟩:=yZ hr he
      refine ap h (c:=.pointer (some ⟨b,o'+n.toNat * sz,none⟩)) ?_ ?_
      ·have fh:0≤n∧n < (es.length:Int):=⟨wv,EI⟩
       simp [execOp,ho,Instr.indexAt,Hj,eV,asIntOf,run_underlying e2,fh,run_sizeOf w f1,f2,eA,bZ]
      ·have:an es n.toNat=e:=by simp [an,he]
       rw [this] at hu
       exact .ep (hu.EZ g1)
    split at hq
    ·rename_i p hp
     injection hq with hq
     injection hq with tp mR
     subst mR
     rw [Bool.and_eq_true] at tp
     have fh:=of_decide_eq_true tp.1
     have hd:=p.cA tp.2
     have bK:n.toNat < es.length:=by omega
     refine key _ fh (hd.cells ?_)
     obtain ⟨e,he⟩:∃ e,nth es n.toNat=some e:=⟨es[n.toNat],by rw [aR]; exact List.getElem?_eq_getElem bK⟩
     have:an es n.toNat=e:=by simp [an,he]
     rw [this]
     have df:Rel R w (.list kk sz es) (a.eval x):=rx
     generalize a.eval x=xv at df
     cases df with
     | iE=>simp at bK
     | hY=>simp at bK
     | lQ=>simp at bK
     | lR=>simp at bK
     | kS=>simp at bK
     | list hr _ _ _=>exact (yZ hr he).2.2
    ·injection hq with hq
     injection hq with tp mR
     subst mR
     exact key _ (of_decide_eq_true tp) (cg.refl _)
   ·cases hq
  ·-- a heap slice
   rename_i elem esz ag mQ z id off sz len cap hk hx
   rw [hx] at rx
   rw [hk] at e5
   obtain ⟨ie,ue,rfl,f1,f2,f3,f4,f5,f6⟩:=cW e5
   split at hq
   ·rename_i hc
    have eA:=Nat.eq_of_beq_eq_true hc
    injection hq with hq
    injection hq with tp mR
    subst mR
    have fh:=of_decide_eq_true tp
    have df:Rel R w (.iQ id off sz len cap) (a.eval x):=rx
    generalize eV:a.eval x=xv at df
    cases df with
    | @iQ _ _ _ _ _ b hb _=>
     refine ap h (c:=.pointer (some ⟨b,off+n.toNat * sz,none⟩)) ?_ (Rel.ptr hb)
     simp [execOp,ho,Instr.indexAt,Hj,eV,asIntOf,run_underlying e2,fh,run_sizeOf w f1,f2,eA,bZ]
   ·cases hq
  ·-- a slice that grows
   rename_i elem esz ag mQ z id f' off sz len hk hx
   rw [hx] at rx
   rw [hk] at e5
   obtain ⟨ie,ue,rfl,f1,f2,f3,f4,f5,f6⟩:=cW e5
   split at hq
   ·rename_i hc
    have eA:=Nat.eq_of_beq_eq_true hc
    injection hq with hq
    injection hq with tp mR
    subst mR
    have fh:=of_decide_eq_true tp
    have df:Rel R w (.dL id f' off sz len) (a.eval x):=rx
    generalize eV:a.eval x=xv at df
    cases df with
    | iW _ _=>omega
    | @dL _ _ _ _ _ cap b o' ro bA eT ia=>
     refine ap h (c:=.pointer (some ⟨b,o'+n.toNat * sz,none⟩)) ?_ (Rel.gp bA ?_)
     ·simp [execOp,ho,Instr.indexAt,Hj,eV,asIntOf,run_underlying e2,fh,run_sizeOf w f1,f2,eA,bZ]
     ·cases ro with
      | none=>trivial
      | bj=>exact eT.elim
      | bp _=>exact eT.elim
      | aU _=>exact eT.elim
      | tok f1 b1 c1=>
       refine ⟨eT.1,fun e=>?_⟩
       obtain ⟨k1,k2,k3⟩:=eT.2 e
       refine ⟨k1,?_⟩
       rcases k3 with k3 | k3
       ·rw [k3,Nat.add_zero,Nat.add_mul]
       ·omega
   ·cases hq
  ·-- an array that is never written
   rename_i len esz ag cs hk hx
   rw [hx] at rx
   rw [hk] at e5
   obtain ⟨e,ie,ue,rfl,f1,f2,f3,f4⟩:=mP e5
   have df:Rel R w (.ep cs) (a.eval x):=rx
   generalize eV:a.eval x=xv at df
   cases df with
   | @ep _ b o' hr=>
    split at hq
    ·rename_i p hp
     split at hq
     ·rename_i hc
      rw [Bool.and_eq_true] at hc
      have hz:=Nat.eq_of_beq_eq_true hc.1
      have hl:=Nat.le_of_ble_eq_true hc.2
      injection hq with hq
      injection hq with tp mR
      subst mR
      rw [Bool.and_eq_true] at tp
      have fh:=of_decide_eq_true tp.1
      have hd:=p.cA tp.2
      have bK:n.toNat < cs.length:=by omega
      have TN:=hr.drop n.toNat
      rw [List.drop_eq_getElem_cons bK] at TN
      have hn:an cs n.toNat=cs[n.toNat]:=by
       unfold an
       rw [aR,List.getElem?_eq_getElem bK]
      rw [hn] at hd ⊢
      refine ap h (c:=.pointer (some ⟨b,o'+n.toNat * esz,none⟩)) ?_ ?_
      ·simp [execOp,ho,Instr.indexAt,Hj,eV,Instr.sureAddr,asIntOf,run_underlying e2,fh,run_sizeOf w f1,f2,bZ]
      ·subst hz
       rw [Nat.mul_one]
       cases TN with
       | cons hc h1 hi dv t=>exact .ep (.cons hc h1 hi (hd.1 _ _ _ dv) .nil)
     ·cases hq
    ·injection hq with hq
     injection hq with tp mR
     subst mR
     have fh:=of_decide_eq_true tp
     refine ap h (c:=.pointer (some ⟨b,o'+n.toNat * esz,none⟩)) ?_ ?_
     ·simp [execOp,ho,Instr.indexAt,Hj,eV,Instr.sureAddr,asIntOf,run_underlying e2,fh,run_sizeOf w f1,f2,bZ]
     ·rw [tg]
      exact .ep (hr.drop _)
  ·-- an array
   rename_i len esz ag hk _
   rw [hk] at e5
   obtain ⟨e,ie,ue,rfl,f1,f2,f3,f4⟩:=mP e5
   split at hq
   ·rename_i q' hm
    injection hq with hq
    injection hq with tp mR
    subst mR
    have fh:=of_decide_eq_true tp
    obtain ⟨b,o',m1,m2⟩:=wu rx hm
    refine ap h ?_ m2
    simp [execOp,ho,Instr.indexAt,Hj,m1,Instr.sureAddr,asIntOf,run_underlying e2,fh,run_sizeOf w f1,f2,bZ]
   ·cases hq
  ·cases hq
 ·cases hq
theorem ln {t:TypeId} {i:TypeInfo} {u:TypeDesc} (h1:E.P.info? t=some i) (h2:E.P.underlying t=some u) {off:Nat} {cs l:List AV} {vs:List Value} {v:AV} (hr:aE R w cs vs) (h3:∀ x∈vs,x.oneCell'=true)
  (xy:iT u=true→Ct off i.size cs=some l∧qM true l=some v) (Vg:iT u=false→Ct off 1 cs=some l∧qM false l=some v) :
  ∃ c,(part t ⟨vs⟩ off).run E.P w=.ok c w∧Rel R w v c:=by
 unfold part
 simp only [Sem.run_bind,wq w h2,Result.andThen_ok]
 cases ha:iT u with
 | true=>
  obtain ⟨g1,g2⟩:=xy ha
  obtain ⟨k1,k2,k3,k4⟩:=nR g1 hr h3
  obtain ⟨m1,_⟩:=tj g2 k2 k3
  refine ⟨_,?_,m1 rfl⟩
  have:(⟨vs⟩:Array Value).extract off (off+i.size)=⟨(vs.drop off).take i.size⟩:=by
   apply Array.ext'
   simp [List.extract_eq_take_drop]
  simp [run_sizeOf w h1]
 | false=>
  obtain ⟨g1,g2⟩:=Vg ha
  obtain ⟨k1,k2,k3,k4⟩:=nR g1 hr h3
  obtain ⟨_,m2⟩:=tj g2 k2 k3
  obtain ⟨c,hc,dv⟩:=m2 rfl
  refine ⟨c,?_,dv⟩
  have h0:=k4 0 c (by rw [hc]; simp)
  simp only [Nat.add_zero] at h0
  simp [h0]
theorem AZ (h:aV E R w β s a) (t:TypeId) (x:Operand) (j:Nat) (ho:o.op=.field t x j) {v:AV} (hq:AL E t (bc E s.ae x) j=some v) :
  bz E R w β s a o (s.put o.dst (.v v)):=by
 have rx:=aI h x
 unfold AL at hq
 split at hq
 ·rename_i i cs hi hx
  rw [hx] at rx
  have df:Rel R w (.agg cs) (a.eval x):=rx
  generalize eV:a.eval x=xv at df
  cases df with
  | @agg _ vs hr h1=>
  split at hq
  ·rename_i fs hk
   split at hq
   ·rename_i off sz ag hn
    obtain ⟨fY,u,e1,e2,e3,e4,e5,e6⟩:=bG E hi
    rw [hk] at e5
    obtain ⟨fl,rfl,hf⟩:=Cz e5
    obtain ⟨f,fi,u',g1,g2,g3,g4,g5,g6⟩:=lV hf hn
    have key:∃ c,(part f.type ⟨vs⟩ off).run E.P w=.ok c w∧Rel R w v c:=by
     split at hq
     ·rename_i xy
      split at hq
      ·rename_i l hl
       exact ln g3 g5 (l:=l) hr h1 (fun _=>⟨by rw [g4]; exact hl,hq⟩) (fun hf=>by rw [g6,xy] at hf; cases hf)
      ·cases hq
     ·rename_i xy
      split at hq
      ·rename_i l hl
       exact ln g3 g5 (l:=l) hr h1 (fun hf=>by rw [g6] at hf; exact absurd hf xy) (fun _=>⟨hl,hq⟩)
      ·cases hq
    obtain ⟨c,k1,k2⟩:=key
    refine ap h ?_ k2
    have Ro:fl[j]?=some f:=by simpa using g1
    simp [execOp,ho,Instr.field,run_underlying e2,Ro,eV,asAgg,g2,k1]
   ·cases hq
  ·cases hq
 ·cases hq
theorem A0 (h:aV E R w β s a) (t:TypeId) (x ix:Operand) (ho:o.op=.index t x ix) {v:AV} (hq:AM E t (bc E s.ae x) (bc E s.ae ix)=some (true,v)) :
  bz E R w β s a o (s.put o.dst (.v v)):=by
 have rx:=aI h x
 have ri:=aI h ix
 unfold AM at hq
 split at hq
 ·rename_i i l k n hi hx OE
  rw [hx] at rx
  rw [OE] at ri
  have JB:Rel R w (.int k n) (a.eval ix):=ri
  have df:Rel R w (.str l) (a.eval x):=rx
  generalize Hj:a.eval ix=iv at JB
  generalize eV:a.eval x=xv at df
  cases JB
  cases df
  obtain ⟨fY,u,e1,e2,e3,e4,e5,e6⟩:=bG E hi
  split at hq
  ·rename_i hk
   rw [hk] at e5
   have:=jP e5
   subst this
   injection hq with hq
   injection hq with tp mR
   subst mR
   obtain ⟨wv,EI⟩:=of_decide_eq_true tp
   have bK:n.toNat < l.length:=by omega
   refine ap h (c:=.int .u8 (l.getD n.toNat 0).toNat) ?_ (Rel.int _ _)
   have jt:(⟨⟨l⟩⟩:ByteArray)[n.toNat]?=some (l.getD n.toNat 0):=by
    have hs:n.toNat < (⟨⟨l⟩⟩:ByteArray).size:=bK
    rw [getElem?_pos (⟨⟨l⟩⟩:ByteArray) n.toNat hs]
    congr 1
    simp [List.getD,List.getElem?_eq_getElem bK]
    rfl
   simp [execOp,ho,Instr.index,Hj,eV,asIntOf,run_underlying e2,wv,jt]
  ·cases hq
 ·rename_i i cs k n hi hx OE
  rw [hx] at rx
  rw [OE] at ri
  have JB:Rel R w (.int k n) (a.eval ix):=ri
  have df:Rel R w (.agg cs) (a.eval x):=rx
  generalize Hj:a.eval ix=iv at JB
  generalize eV:a.eval x=xv at df
  cases JB
  cases df with
  | @agg _ vs hr h1=>
  obtain ⟨fY,u,e1,e2,e3,e4,e5,e6⟩:=bG E hi
  split at hq
  ·rename_i len esz ag hk
   rw [hk] at e5
   obtain ⟨e,ie,ue,rfl,f1,f2,f3,f4⟩:=mP e5
   split at hq
   ·rename_i v' KT
    injection hq with hq
    injection hq with tp mR
    subst mR
    have fh:=of_decide_eq_true tp
    have key:∃ c,(part e ⟨vs⟩ (n.toNat * esz)).run E.P w=.ok c w∧Rel R w v' c:=by
     split at KT
     ·rename_i xy
      split at KT
      ·rename_i l hl
       exact ln f1 f3 (l:=l) hr h1 (fun _=>⟨by rw [f2]; exact hl,KT⟩) (fun hf=>by rw [f4,xy] at hf; cases hf)
      ·cases KT
     ·rename_i xy
      split at KT
      ·rename_i l hl
       exact ln f1 f3 (l:=l) hr h1 (fun hf=>by rw [f4] at hf; exact absurd hf xy) (fun _=>⟨hl,KT⟩)
      ·cases KT
    obtain ⟨c,k1,k2⟩:=key
    refine ap h ?_ k2
    simp [execOp,ho,Instr.index,Hj,eV,asIntOf,run_underlying e2,fh,run_sizeOf w f1,f2,k1]
   ·cases hq
  ·cases hq
 ·cases hq
theorem xz (h:aV E R w β s a) (x:Operand) (j:Nat) (ho:o.op=.extract x j) {vs:List AV} {v:AV} (hx:bc E s.ae x=.v (.bi vs)) (hn:nth vs j=some v) :
  bz E R w β s a o (s.put o.dst (.v v)):=by
 have rx:=aI h x
 rw [hx] at rx
 have df:Rel R w (.bi vs) (a.eval x):=rx
 generalize eV:a.eval x=xv at df
 cases df with
 | @bi _ us hr=>
 rw [aR] at hn
 obtain ⟨c,h1,h2⟩:=hr.get hn
 refine ap h ?_ h2
 simp [execOp,ho,Instr.extract,eV,h1]
theorem fk (h:aV E R w β s a):∀ {l:List Operand} {vs:List AV},kP E s.ae l=some vs→aE R w vs (l.map a.eval)
 | [],vs,hl=>by simp [kP] at hl; subst hl; exact .nil
 | x :: l,vs,hl=>by
  unfold kP at hl
  split at hl
  ·rename_i v r h1 h2
   cases hl
   have:=aI h x
   rw [h1] at this
   exact .cons this (fk h h2)
  ·cases hl
theorem vC (h:aV E R w β s a) (g:FuncId) (x y:Array Operand) (ho:o.op=.makeFunc (.func g) x y) {p q:List AV} (hp:kP E s.ae x.toList=some p) (hq:kP E s.ae y.toList=some q) :
  bz E R w β s a o (s.put o.dst (.v (.fn g p q))):=by
 have h1:=fk h hp
 have h2:=fk h hq
 refine ap h (c:=.func (.func g) ⟨x.toList.map a.eval⟩ ⟨y.toList.map a.eval⟩) ?_ (Rel.fn h1 h2)
 have e1:x.map a.eval=⟨x.toList.map a.eval⟩:=Array.ext' (by simp)
 have e2:y.map a.eval=⟨y.toList.map a.eval⟩:=Array.ext' (by simp)
 simp [execOp,ho,Instr.makeFunc,e1,e2]
end ops
end Go.Am
namespace Go.Am
open Go
section ops
variable {E:Env} {R:aj} {w:World} {β:Nat→Nat} {s:St} {a:Act} {o:Oper}
theorem size_bytes (l:List UInt8):(⟨⟨l⟩⟩:ByteArray).size=l.length:=rfl
theorem pO (l:List UInt8):(⟨⟨l⟩⟩:ByteArray).toList=l:=by rw [ByteArray.toList_eq]
theorem xA (l r:List UInt8):((⟨⟨l⟩⟩:ByteArray)++⟨⟨r⟩⟩)=⟨⟨l++r⟩⟩:=by
 apply ByteArray.ext
 rw [ByteArray.data_append]
 simp
theorem DG (op:BinOp) (t:TypeId) (x y:Operand) (k k':IntKind) (n m:Int):(eqGuard op t x y (.int k n) (.int k' m)).run E.P w=.ok () w:=by
 unfold eqGuard
 cases op <;> rfl
theorem DH (op:BinOp) (t:TypeId) (x y:Operand) (n m:ByteArray):(eqGuard op t x y (.string n) (.string m)).run E.P w=.ok () w:=by
 unfold eqGuard
 cases op <;> rfl
theorem A1 (h:aV E R w β s a) (op:BinOp) (t u:TypeId) (x y:Operand) (ho:o.op=.binOp op t x y u) {p q v:AV} (hx:bc E s.ae x=.v p) (hy:bc E s.ae y=.v q) (hv:yV op p q=some (true,v)) :
  bz E R w β s a o (s.put o.dst (.v v)):=by
 have rx:=aI h x
 have ry:=aI h y
 rw [hx] at rx
 rw [hy] at ry
 have df:Rel R w p (a.eval x):=rx
 have mG:Rel R w q (a.eval y):=ry
 have key:∃ c,(do eqGuard op t x y (a.eval x) (a.eval y); binOp op t (a.eval x) (a.eval y):Sem Value).run E.P w=.ok c w∧Rel R w v c:=by
  generalize eV:a.eval x=xv at df
  generalize NP:a.eval y=yv at mG
  unfold yV at hv
  split at hv
  ·rename_i k n k' m
   cases df
   cases mG
   simp only [Sem.run_bind,DG,Result.andThen_ok]
   split at hv
   ·injection hv with hv
    injection hv with h1 h2
    subst h2
    have hm:=of_decide_eq_true h1
    have KU:¬ m < 0:=by omega
    exact ⟨.int k (k.wrap (n * 2 ^ (min m.toNat k.bits))),by simp [binOp,Op.shift,KU],.int _ _⟩
   ·injection hv with hv
    injection hv with h1 h2
    subst h2
    have hm:=of_decide_eq_true h1
    have KU:¬ m < 0:=by omega
    exact ⟨.int k (n.fdiv (2 ^ (min m.toNat k.bits))),by simp [binOp,Op.shift,KU],.int _ _⟩
   ·rename_i JC TO
    split at hv
    ·rename_i E3
     subst E3
     split at hv
     ·cases hv; exact ⟨.int k (k.wrap (n+m)),by simp [binOp,Op.intArith],.int _ _⟩
     ·cases hv; exact ⟨.int k (k.wrap (n - m)),by simp [binOp,Op.intArith],.int _ _⟩
     ·cases hv; exact ⟨.int k (k.wrap (n * m)),by simp [binOp,Op.intArith],.int _ _⟩
     ·injection hv with hv
      injection hv with h1 h2
      subst h2
      have hm:¬ m=0:=by simpa using h1
      exact ⟨.int k (k.wrap (n.tdiv m)),by simp [binOp,Op.intDiv,hm],.int _ _⟩
     ·injection hv with hv
      injection hv with h1 h2
      subst h2
      have hm:¬ m=0:=by simpa using h1
      exact ⟨.int k (n.tmod m),by simp [binOp,Op.intDiv,hm],.int _ _⟩
     ·cases hv; exact ⟨.int k (KI k n m),by simp [binOp,Op.intBits,KI],.int _ _⟩
     ·cases hv; exact ⟨.int k (Rj k n m),by simp [binOp,Op.intBits,Rj],.int _ _⟩
     ·cases hv; exact ⟨.int k (KJ k n m),by simp [binOp,Op.intBits,KJ],.int _ _⟩
     ·cases hv; exact ⟨.bool (n == m),by simp [binOp,Op.intCmp],.bool _⟩
     ·cases hv; exact ⟨.bool (n != m),by simp [binOp,Op.intCmp],.bool _⟩
     ·cases hv; exact ⟨.bool (decide (n < m)),by simp [binOp,Op.intCmp],.bool _⟩
     ·cases hv; exact ⟨.bool (decide (n≤m)),by simp [binOp,Op.intCmp],.bool _⟩
     ·cases hv; exact ⟨.bool (decide (n > m)),by simp [binOp,Op.intCmp],.bool _⟩
     ·cases hv; exact ⟨.bool (decide (n≥m)),by simp [binOp,Op.intCmp],.bool _⟩
     ·cases hv
    ·cases hv
  ·rename_i l r
   cases df
   cases mG
   simp only [Sem.run_bind,DH,Result.andThen_ok]
   split at hv
   ·injection hv with hv
    injection hv with h1 h2
    subst h2
    have hm:=of_decide_eq_true h1
    refine ⟨.string ⟨⟨l++r⟩⟩,?_,.str _⟩
    have KV:¬ ((l.length+r.length:Nat):Int) > IntKind.i64.max:=by
     have:IntKind.i64.max=9223372036854775807:=by decide
     omega
    simp only [binOp,Op.stringOp,size_bytes,if_neg KV,xA,Sem.run_pure]
   ·cases hv; exact ⟨.bool (l == r),by simp [binOp,Op.stringOp],.bool _⟩
   ·cases hv; exact ⟨.bool (!(l == r)),by simp [binOp,Op.stringOp],.bool _⟩
   ·cases hv; exact ⟨.bool (Op.bytesLess l r),by simp [binOp,Op.stringOp],.bool _⟩
   ·cases hv; exact ⟨.bool (Op.bytesLess l r || l == r),by simp [binOp,Op.stringOp],.bool _⟩
   ·cases hv; exact ⟨.bool (!(Op.bytesLess l r || l == r)),by simp [binOp,Op.stringOp],.bool _⟩
   ·cases hv; exact ⟨.bool (!(Op.bytesLess l r)),by simp [binOp,Op.stringOp],.bool _⟩
   ·cases hv
  ·cases hv
 obtain ⟨c,k1,k2⟩:=key
 refine ap h (c:=c) ?_ k2
 simp only [Sem.run_bind] at k1
 simp only [execOp,ho,Sem.run_bind,k1,Result.andThen_ok,Sem.run_pure]
theorem jF {t:TypeId} {i:TypeInfo} {u:TypeDesc} (h1:E.P.info? t=some i) (h2:E.P.underlying t=some u) {off:Nat} {cs:List AV} {vs:List Value} {v:AV} (hr:aE R w cs vs) (h3:∀ x∈vs,x.oneCell'=true)
  (h:Cu (iT u) off i.size cs=some v):∃ c,(part t ⟨vs⟩ off).run E.P w=.ok c w∧Rel R w v c:=by
 unfold Cu at h
 cases ha:iT u with
 | true=>
  rw [ha] at h
  simp only [if_true] at h
  split at h
  ·rename_i l hl
   exact ln h1 h2 hr h3 (fun _=>⟨hl,h⟩) (fun e=>by rw [ha] at e; cases e)
  ·cases h
 | false=>
  rw [ha] at h
  simp only [Bool.false_eq_true,if_false] at h
  split at h
  ·rename_i l hl
   exact ln h1 h2 hr h3 (fun e=>by rw [ha] at e; cases e) (fun _=>⟨hl,h⟩)
  ·cases h
theorem y8 {ek:TypeId→EK} {d:Nat} (ih:∀ (t:TypeId) (a b:AV) (r:Bool) (x y:Value),ku (ek t) a b=some r→Rel R w a x→Rel R w b y→(Op.equalIn d t x y).run E.P w=.ok r w) {xs ys:List AV} {vs us:List Value}
  (hx:aE R w xs vs) (sw:∀ x∈vs,x.oneCell'=true) (hy:aE R w ys us) (HG:∀ x∈us,x.oneCell'=true) :
  ∀ (fs:List Field) (l:KF) (r:Bool),AK E.P ek fs=some l→qN l xs ys=some r→(Op.eqFields d ⟨vs⟩ ⟨us⟩ fs).run E.P w=.ok r w
 | [],l,r,hl,hr=>by
  simp [AK] at hl
  subst hl
  simp [qN] at hr
  subst hr
  rfl
 | f :: fs,l,r,hl,hr=>by
  unfold AK at hl
  split at hl
  ·cases hl
  ·rename_i hn
   split at hl
   ·rename_i i u l' h1 h2 h3
    cases hl
    unfold qN at hr
    split at hr
    ·rename_i a b ha hb
     split at hr
     ·rename_i p q hp hq
      cases hr
      obtain ⟨c,k1,k2⟩:=jF h1 h2 hx sw ha
      obtain ⟨c',k3,k4⟩:=jF h1 h2 hy HG hb
      have cr : f.name ≠ "_" := by simpa using hn
      have he:=ih f.type a b p c c' hp k2 k4
      have tq:=y8 ih hx sw hy HG fs l' q h3 hq
      simp only [Op.eqFields,cr,ne_eq,not_false_eq_true,if_true,Sem.run_bind,k1,k3,he,Result.andThen_ok]
      cases p with
      | true=>simp [tq]
      | false=>simp
     ·cases hr
    ·cases hr
   ·cases hl
theorem wx {ek:EK} {d:Nat} {e:TypeId} {i:TypeInfo} {u:TypeDesc} (h1:E.P.info? e=some i) (h2:E.P.underlying e=some u) (ih:∀ (a b:AV) (r:Bool) (x y:Value),ku ek a b=some r→Rel R w a x→Rel R w b y→(Op.equalIn d e x y).run E.P w=.ok r w) {xs ys:List AV} {vs us:List Value}
  (hx:aE R w xs vs) (sw:∀ x∈vs,x.oneCell'=true) (hy:aE R w ys us) (HG:∀ x∈us,x.oneCell'=true) :
  ∀ (m k:Nat) (r:Bool),qN (tc i.size (iT u) ek m k) xs ys=some r→(Op.eqItems d e i.size ⟨vs⟩ ⟨us⟩ (List.range' k m)).run E.P w=.ok r w
 | 0,k,r,hr=>by
  simp [tc,qN] at hr
  subst hr
  rfl
 | m+1,k,r,hr=>by
  unfold tc qN at hr
  split at hr
  ·rename_i a b ha hb
   split at hr
   ·rename_i p q hp hq
    cases hr
    obtain ⟨c,k1,k2⟩:=jF h1 h2 hx sw ha
    obtain ⟨c',k3,k4⟩:=jF h1 h2 hy HG hb
    have he:=ih a b p c c' hp k2 k4
    have tq:=wx h1 h2 ih hx sw hy HG m (k+1) q hq
    simp only [List.range'_succ,Op.eqItems,Sem.run_bind,k1,k3,he,Result.andThen_ok]
    cases p with
    | true=>simpa using tq
    | false=>simp
   ·cases hr
  ·cases hr
theorem xB:∀ (n d:Nat),n≤d→∀ (t:TypeId) (a b:AV) (r:Bool) (x y:Value),ku (ot E.P n t) a b=some r→Rel R w a x→Rel R w b y→(Op.equalIn d t x y).run E.P w=.ok r w
 | 0,_,_,t,a,b,r,x,y,h,_,_=>by simp [ot,ku] at h
 | n+1,0,hd,_,_,_,_,_,_,_,_,_=>by omega
 | n+1,d+1,hd,t,a,b,r,x,y,h,hx,hy=>by
  unfold ot at h
  split at h
  ·rename_i hu
   unfold ku at h
   split at h
   all_goals (try contradiction)
   cases hx; cases hy; cases h
   exact run_equalIn_bool' w d t _ _ hu
  ·rename_i k hu
   unfold ku at h
   split at h
   all_goals (try contradiction)
   split at h
   ·rename_i hk
    subst hk
    cases hx; cases hy; cases h
    exact run_equalIn_int w d t _ k _ _ hu
   ·cases h
  ·rename_i hu
   unfold ku at h
   split at h
   all_goals (try contradiction)
   cases hx; cases hy; cases h
   rw [run_equalIn_string w d t _ _ hu,pO,pO]
  ·rename_i fs hu
   split at h
   ·simp [ku] at h
   ·rename_i hs
    split at h
    ·rename_i l hl
     unfold ku at h
     split at h
     all_goals (try contradiction)
     rename_i xr xs ys hk
     cases hk
     cases hx with
     | agg hx sw=>
     cases hy with
     | agg hy HG=>
     have hf:E.P.fieldsOf t=fs:=by simp [Program.fieldsOf,hu]
     rw [run_equalIn_struct w d t _ _ (by rw [hf]; exact hu) (by simpa using hs),hf]
     exact y8 (fun t a b r x y=>xB n d (by omega) t a b r x y) hx sw hy HG fs.toList _ r hl h
    ·simp [ku] at h
  ·rename_i m e hu
   split at h
   ·rename_i i ud g1 g2
    unfold ku at h
    split at h
    all_goals (try contradiction)
    rename_i xr xs ys hk
    cases hk
    cases hx with
    | agg hx sw=>
    cases hy with
    | agg hy HG=>
    have pP:E.P.cellsOf e=i.size:=by simp [Program.cellsOf,g1]
    rw [run_equalIn_array (P:=E.P) w d _ _ hu g1,pP,List.range_eq_range']
    exact wx g1 g2 (fun a b r x y=>xB n d (by omega) e a b r x y) hx sw hy HG m 0 r h
   ·simp [ku] at h
  ·simp [ku] at h
theorem jG {t:TypeId} {i:TI} (hi:E.ti t=some i) {p q:AV} {r:Bool} {x y:Value} (h:ku i.ek p q=some r) (hx:Rel R w p x) (hy:Rel R w q y) :
  (Op.equalIn 10000 t x y).run E.P w=.ok r w∧((∃ b c,x=.bool b∧y=.bool c)∨(∃ k n k' m,x=.int k n∧y=.int k' m)∨(∃ n m,x=.string n∧y=.string m)∨(∃ n m,x=.agg n∧y=.agg m∧E.P.eqGuardType E.P.depth t=false)):=by
 have wy:i.ek=rI E.P t:=by
  have:=E.Dv t i hi
  unfold Du at this
  split at this
  ·split at this
   ·cases this; rfl
   ·cases this
  ·cases this
 rw [wy] at h
 have hg:ku (ot E.P 6 t) p q=some r∧((∃ l,ot E.P 6 t=.st l)→E.P.eqGuardType E.P.depth t=false):=by
  unfold rI at h
  split at h
  ·rename_i l hl
   split at h
   ·simp [ku] at h
   ·rename_i Hk
    exact ⟨by rw [hl]; exact h,fun _=>by simpa using Hk⟩
  ·rename_i k hk
   exact ⟨h,fun ⟨l,hl⟩=>absurd hl (hk l)⟩
 refine ⟨xB 6 10000 (by omega) t p q r x y hg.1 hx hy,?_⟩
 have h2:=hg.1
 have h3:=hg.2
 generalize ot E.P 6 t=k at h2 h3
 unfold ku at h2
 split at h2
 ·cases hx; cases hy; exact .inl ⟨_,_,rfl,rfl⟩
 ·cases hx; cases hy; exact .inr (.inl ⟨_,_,_,_,rfl,rfl⟩)
 ·cases hx; cases hy; exact .inr (.inr (.inl ⟨_,_,rfl,rfl⟩))
 ·cases hx; cases hy; exact .inr (.inr (.inr ⟨_,_,rfl,rfl,h3 ⟨_,rfl⟩⟩))
 ·cases h2
theorem E4 (h:aV E R w β s a) (op:BinOp) (t u:TypeId) (x y:Operand) (ho:o.op=.binOp op t x y u) {p q:AV} {r:Bool} (hx:bc E s.ae x=.v p) (hy:bc E s.ae y=.v q) (hb:yV op p q=none) (hv:Rl E op t p q=some r) :
  bz E R w β s a o (s.put o.dst (.v (.bool r))):=by
 have rx:=aI h x
 have ry:=aI h y
 rw [hx] at rx
 rw [hy] at ry
 have df:Rel R w p (a.eval x):=rx
 have mG:Rel R w q (a.eval y):=ry
 have key:(do eqGuard op t x y (a.eval x) (a.eval y); binOp op t (a.eval x) (a.eval y):Sem Value).run E.P w=.ok (.bool r) w:=by
  generalize eV:a.eval x=xv at df
  generalize NP:a.eval y=yv at mG
  unfold Rl at hv
  split at hv
  ·rename_i i hi
   obtain ⟨k1,k2⟩:=jG hi hv df mG
   rcases k2 with ⟨b,c,rfl,rfl⟩ | ⟨k,n,k',m,rfl,rfl⟩ | ⟨n,m,rfl,rfl⟩ | ⟨n,m,rfl,rfl,hg⟩
   ·have A2:(eqGuard .eql t x y (.bool b) (.bool c)).run E.P w=.ok () w:=rfl
    simp [A2,binOp,Op.equal,Op.maxDepth,k1]
   ·cases df; cases mG; simp [yV] at hb
    cases hk:i.ek <;> simp [hk,ku] at hv
    exact absurd hv.1 hb
   ·cases df; cases mG; simp [yV] at hb
   ·simp only [Sem.run_bind,run_eqGuard_agg w _ t x y n m hg,Result.andThen_ok,run_eql_struct,k1]
  ·rename_i i hi
   split at hv
   ·rename_i r' kv
    cases hv
    obtain ⟨k1,k2⟩:=jG hi kv df mG
    rcases k2 with ⟨b,c,rfl,rfl⟩ | ⟨k,n,k',m,rfl,rfl⟩ | ⟨n,m,rfl,rfl⟩ | ⟨n,m,rfl,rfl,hg⟩
    ·have A2:(eqGuard .neq t x y (.bool b) (.bool c)).run E.P w=.ok () w:=rfl
     simp [A2,binOp,Op.equal,Op.maxDepth,k1]
    ·cases df; cases mG; simp [yV] at hb
     cases hk:i.ek <;> simp [hk,ku] at kv
     exact absurd kv.1 hb
    ·cases df; cases mG; simp [yV] at hb
    ·simp only [Sem.run_bind,run_eqGuard_agg w _ t x y n m hg,Result.andThen_ok,run_neq_struct,k1]
   ·cases hv
  ·cases hv
 refine ap h (c:=.bool r) ?_ (.bool r)
 simp only [Sem.run_bind] at key
 simp only [execOp,ho,Sem.run_bind,key,Result.andThen_ok,Sem.run_pure]
theorem y9 {p:AV} {r:Bool} {x:Value} (hv:HB p=some r) (hx:Rel R w p x):(QD p=true∧∃ a n c,x=.slice a n c∧a.isNone=r)∨(QD p=false∧∃ a,x=.pointer a∧a.isNone=r):=by
 unfold HB at hv
 split at hv
 ·cases hv
  cases hx with
  | iE=>exact .inl ⟨rfl,_,_,_,rfl,rfl⟩
  | list _ _ _ hk=>exact hk.elim
 ·cases hv
  cases hx with
  | list _ _ _ _=>exact .inl ⟨rfl,_,_,_,rfl,rfl⟩
 ·cases hv
  cases hx with
  | list _ _ _ _=>exact .inl ⟨rfl,_,_,_,rfl,rfl⟩
 ·cases hv
  cases hx with
  | iQ _ _=>exact .inl ⟨rfl,_,_,_,rfl,rfl⟩
 ·cases hv
  cases hx with
  | dL _ _ _=>exact .inl ⟨rfl,_,_,_,rfl,rfl⟩
 ·cases hv
  cases hx
  exact .inr ⟨rfl,_,rfl,rfl⟩
 ·cases hv
  cases hx with
  | ptr _=>exact .inr ⟨rfl,_,rfl,rfl⟩
 ·cases hv
  cases hx with
  | ep _=>exact .inr ⟨rfl,_,rfl,rfl⟩
 ·cases hv
theorem tu {p:AV} {b:Bool} {x:Value} (hv:AR p=some b) (hx:Rel R w p x):(b=true∧x=.slice none 0 0)∨(b=false∧x=.pointer none):=by
 unfold AR at hv
 split at hv
 ·cases hv
  cases hx with
  | iE=>exact .inl ⟨rfl,rfl⟩
  | list _ _ _ hk=>exact hk.elim
 ·cases hv
  cases hx
  exact .inr ⟨rfl,rfl⟩
 ·cases hv
theorem HH {P:Program} {t:TypeId} (h:KL P t=true):∃ e,P.underlying t=some (.slice e):=by
 unfold KL at h
 split at h
 ·rename_i e he; exact ⟨e,he⟩
 ·cases h
theorem HI {P:Program} {t:TypeId} (h:KM P t=true):P.underlying t=some (.pointer (P.pointee t)):=by
 unfold KM at h
 split at h
 ·rename_i e he
  unfold Program.pointee
  rw [he]
 ·cases h
theorem DI (h:aV E R w β s a) (op:BinOp) (t u:TypeId) (x y:Operand) (ho:o.op=.binOp op t x y u) {p q:AV} {r:Bool} (hx:bc E s.ae x=.v p) (hy:bc E s.ae y=.v q) (hv:KN E op t p q=some r) :
  bz E R w β s a o (s.put o.dst (.v (.bool r))):=by
 have rx:=aI h x
 rw [hx] at rx
 have ry:=aI h y
 rw [hy] at ry
 have df:Rel R w p (a.eval x):=rx
 have mG:Rel R w q (a.eval y):=ry
 have key:(do eqGuard op t x y (a.eval x) (a.eval y); binOp op t (a.eval x) (a.eval y):Sem Value).run E.P w=.ok (.bool r) w:=by
  generalize eV:a.eval x=xv at df
  generalize NP:a.eval y=yv at mG
  have two:∀ {r0:Bool},HB p=some r0→rK E.P t p q=true→(∃ a n c e,xv=.slice a n c∧yv=.slice none 0 0∧a.isNone=r0∧E.P.underlying t=some (.slice e))∨(∃ a,xv=.pointer a∧yv=.pointer none∧a.isNone=r0∧E.P.underlying t=some (.pointer (E.P.pointee t))):=by
   intro r0 h1 h2
   unfold rK at h2
   split at h2
   ·rename_i hb
    rw [Bool.and_eq_true] at h2
    obtain ⟨e,he⟩:=HH h2.2
    rcases tu hb mG with ⟨_,rfl⟩ | ⟨hf,_⟩
    ·rcases y9 h1 df with ⟨_,a,n,c,rfl,hn⟩ | ⟨hs,_⟩
     ·exact .inl ⟨a,n,c,e,rfl,rfl,hn,he⟩
     ·rw [h2.1] at hs; cases hs
    ·cases hf
   ·rename_i hb
    rw [Bool.and_eq_true] at h2
    have hp:=HI h2.2
    rcases tu hb mG with ⟨hf,_⟩ | ⟨_,rfl⟩
    ·cases hf
    ·rcases y9 h1 df with ⟨hs,_⟩ | ⟨_,a,rfl,hn⟩
     ·rw [hs] at h2; cases h2.1
     ·exact .inr ⟨a,rfl,rfl,hn,hp⟩
   ·cases h2
  unfold KN at hv
  split at hv
  ·rename_i r0 h1
   obtain ⟨h2,h3⟩:rK E.P t p q=true∧_:=by
    cases h2:rK E.P t p q with
    | false=>rw [h2] at hv; cases hv
    | true=>rw [h2] at hv; exact ⟨rfl,Option.some.inj hv⟩
   subst h3
   rcases two h1 h2 with ⟨a,n,c,e,rfl,rfl,hn,he⟩ | ⟨a,rfl,rfl,hn,hp⟩
   ·have hg:(eqGuard .eql t x y (.slice a n c) (.slice none 0 0)).run E.P w=.ok () w:=rfl
    simp only [Sem.run_bind,hg,Result.andThen_ok,Lib.run_eql_slice_nil w t e a n c 0 0 he,hn]
   ·have hg:(eqGuard .eql t x y (.pointer a) (.pointer none)).run E.P w=.ok () w:=rfl
    simp only [Sem.run_bind,hg,Result.andThen_ok,run_eql_pointer_nil w t a hp,hn]
  ·rename_i r0 h1
   obtain ⟨h2,h3⟩:rK E.P t p q=true∧_:=by
    cases h2:rK E.P t p q with
    | false=>rw [h2] at hv; cases hv
    | true=>rw [h2] at hv; exact ⟨rfl,Option.some.inj hv⟩
   subst h3
   rcases two h1 h2 with ⟨a,n,c,e,rfl,rfl,hn,he⟩ | ⟨a,rfl,rfl,hn,hp⟩
   ·have hg:(eqGuard .neq t x y (.slice a n c) (.slice none 0 0)).run E.P w=.ok () w:=rfl
    simp only [Sem.run_bind,hg,Result.andThen_ok,run_neq_slice_nil w t e a n c he,hn]
   ·have hg:(eqGuard .neq t x y (.pointer a) (.pointer none)).run E.P w=.ok () w:=rfl
    simp only [Sem.run_bind,hg,Result.andThen_ok,run_neq_pointer_nil w t a hp,hn]
  ·cases hv
 refine ap h (c:=.bool r) ?_ (.bool r)
 simp only [Sem.run_bind] at key
 simp only [execOp,ho,Sem.run_bind,key,Result.andThen_ok,Sem.run_pure]
theorem E5 (h:aV E R w β s a) (t:TypeId) (x:Operand) (ho:o.op=.unOp .not t x) {b:Bool} (hx:bc E s.ae x=.v (.bool b)):bz E R w β s a o (s.put o.dst (.v (.bool (!b)))):=by
 have rx:=aI h x
 rw [hx] at rx
 have df:Rel R w (.bool b) (a.eval x):=rx
 generalize eV:a.eval x=xv at df
 cases df
 refine ap h (c:=.bool (!b)) ?_ (Rel.bool _)
 simp [execOp,ho,Op.unary,eV]
theorem E6 (h:aV E R w β s a) (t:TypeId) (x:Operand) (ho:o.op=.unOp .neg t x) {k:IntKind} {n:Int} (hx:bc E s.ae x=.v (.int k n)):bz E R w β s a o (s.put o.dst (.v (.int k (k.wrap (0 - n))))):=by
 have rx:=aI h x
 rw [hx] at rx
 have df:Rel R w (.int k n) (a.eval x):=rx
 generalize eV:a.eval x=xv at df
 cases df
 refine ap h (c:=.int k (k.wrap (0 - n))) ?_ (Rel.int _ _)
 simp [execOp,ho,Op.unary,Op.intArith,eV]
theorem wz:∀ (us:List Value) (off j0:Nat) (cells:Array Value),off+j0+us.length≤cells.size →
  ((us.zipIdx j0).foldl (fun (cs:Array Value) (p:Value × Nat)=>cs.setIfInBounds (off+p.2) p.1) cells).toList=cells.toList.take (off+j0)++us++cells.toList.drop (off+j0+us.length)
 | [],off,j0,cells,_=>by simp
 | u :: us,off,j0,cells,h=>by
  have bK:off+j0 < cells.size:=by simp at h; omega
  have ih:=wz us off (j0+1) (cells.setIfInBounds (off+j0) u) (by simp at h ⊢; omega)
  simp only [List.zipIdx_cons,List.foldl_cons]
  rw [ih]
  have e:=list_seg_step cells.toList (off+j0) u us (by simp at h ⊢; omega)
  simpa [Array.toList_setIfInBounds,Nat.add_assoc] using e
theorem mS (place:Nat→Option (Nat × Nat)):∀ {ps:List (Nat × AV)} {qs:List (Nat × Value)} {cells tv:List AV} {vs:List Value},
  aE R w (ps.map (·.2)) (qs.map (·.2))→ps.map (·.1)=qs.map (·.1)→aE R w cells vs→(∀ x∈vs,x.oneCell'=true)→rJ place cells ps=some tv →
  ∃ us,Instr.fill place ⟨vs⟩ qs=some ⟨us⟩∧aE R w tv us∧∀ x∈us,x.oneCell'=true
 | [],qs,cells,tv,vs,h1,h2,h3,h4,h5=>by
  have:qs=[]:=by simpa using h2.symm
  subst this
  simp [rJ] at h5
  subst h5
  exact ⟨vs,rfl,h3,h4⟩
 | (i,v) :: ps,[],cells,tv,vs,h1,h2,h3,h4,h5=>by simp at h2
 | (i,v) :: ps,(j,c) :: qs,cells,tv,vs,h1,h2,h3,h4,h5=>by
  simp only [List.map_cons,List.cons.injEq] at h2
  obtain ⟨rfl,h2⟩:=h2
  cases h1 with
  | cons hr h1=>
  unfold rJ at h5
  split at h5
  ·cases h5
  ·rename_i off sz hp
   split at h5
   ·rename_i fh
    simp only [Bool.and_eq_true] at fh
    obtain ⟨⟨Hh,hlen⟩,hle⟩:=fh
    have hlen:=Nat.eq_of_beq_eq_true hlen
    have hle:=Nat.le_of_ble_eq_true hle
    obtain ⟨c1,c2⟩:=Rel.cells hr Hh
    have yM:c.cells.toList.length=sz:=by rw [← c1.length]; exact hlen
    have hb:off+v.cells.length≤cells.length:=by omega
    obtain ⟨us,u1,u2,u3⟩:=mS place h1 h2 (h3.bI c1 hb) (hZ h4 c2) h5
    refine ⟨us,?_,u2,u3⟩
    have eA:c.cells.size=sz:=by simpa using yM
    have JD:vs.length=cells.length:=h3.length.symm
    have OF:c.cells.zipIdx.foldl (fun (cs:Array Value) (x:Value × Nat)=>cs.setIfInBounds (off+x.2) x.1) ⟨vs⟩=⟨vs.take off++c.cells.toList++vs.drop (off+c.cells.toList.length)⟩:=by
     apply Array.ext'
     rw [← Array.foldl_toList,Array.toList_zipIdx]
     have:=wz c.cells.toList off 0 ⟨vs⟩ (by simp only [List.size_toArray]; omega)
     simpa using this
    have cp:(c.cells.size≠sz || decide (off+c.cells.size > (⟨vs⟩:Array Value).size))=false:=by
     have JC:decide (c.cells.size≠sz)=false:=by simp [eA]
     have TO:decide (off+c.cells.size > (⟨vs⟩:Array Value).size)=false:=by
      rw [decide_eq_false_iff_not,eA]
      show ¬ off+sz > vs.length
      omega
     rw [JC,TO]
     rfl
    unfold Instr.fill
    simp only [hp,cp,Bool.false_eq_true,if_false]
    rw [← u1]
    exact congrArg (fun z=>Instr.fill place z qs) OF
   ·cases h5
theorem sS (h:aV E R w β s a):∀ {l:List (Nat × Operand)} {ps:List (Nat × AV)},Hg E s.ae l=some ps →
  aE R w (ps.map (·.2)) ((l.map fun x=>(x.1,a.eval x.2)).map (·.2))∧ps.map (·.1)=(l.map fun x=>(x.1,a.eval x.2)).map (·.1)
 | [],ps,hl=>by simp [Hg] at hl; subst hl; exact ⟨.nil,rfl⟩
 | (i,x) :: l,ps,hl=>by
  unfold Hg at hl
  split at hl
  ·rename_i v r h1 h2
   cases hl
   have hx:=aI h x
   rw [h1] at hx
   obtain ⟨g1,g2⟩:=sS h h2
   exact ⟨.cons hx g1,by simpa using g2⟩
  ·cases hl
theorem A3 (h:aV E R w β s a) (t:TypeId) (parts:Array (Nat × Operand)) (ho:o.op=.build t parts) {v:AV} (hv:lL E s t parts.toList=some v) :
  bz E R w β s a o (s.put o.dst (.v v)):=by
 unfold lL at hv
 split at hv
 ·rename_i i ps hi EJ
  split at hv
  ·rename_i z hz
   split at hv
   ·rename_i cs pP
    split at hv
    ·rename_i xy
     cases hv
     simp only [Bool.and_eq_true] at xy
     obtain ⟨xy,oz⟩:=xy
     obtain ⟨fY,u,e1,e2,e3,e4,e5,e6⟩:=bG E hi
     rw [hz] at e6
     obtain ⟨zc,nS,AE⟩:=cL e6
     obtain ⟨p1,p2⟩:=sS h EJ
     obtain ⟨c1,c2⟩:=Rel.cells (AE R w) oz
     have KW:(parts.map fun (x:Nat × Operand)=>(x.1,a.eval x.2)).toList=parts.toList.map fun x=>(x.1,a.eval x.2):=by simp
     have key:∃ us,E.P.built t (parts.toList.map fun x=>(x.1,a.eval x.2))=some ⟨us⟩∧aE R w cs us∧∀ x∈us,x.oneCell'=true:=by
      cases u <;> simp only [iT] at e4 <;> first | (rw [xy] at e4; cases e4; done) | skip
      ·rename_i n e
       simp only [oq] at e5
       split at e5
       ·rename_i ie ue f1 f2
        injection e5 with e5
        rw [← e5] at pP
        obtain ⟨us,u1,u2,u3⟩:=mS (R:=R) (w:=w) _ p1 p2 c1 c2 pP
        refine ⟨us,?_,u2,u3⟩
        unfold Program.built
        simp only [e1,e2,nS,f1]
        rw [← u1]
        rfl
       ·cases e5
      ·rename_i fs
       simp only [oq] at e5
       split at e5
       ·rename_i l hl
        injection e5 with e5
        rw [← e5] at pP
        obtain ⟨us,u1,u2,u3⟩:=mS (R:=R) (w:=w) _ p1 p2 c1 c2 pP
        refine ⟨us,?_,u2,u3⟩
        unfold Program.built
        simp only [e1,e2,nS,mA hl]
        rw [← u1]
        have QG:placeOf (.st l)=fun j=>(l.map fun x=>(x.1,x.2.1)).toArray[j]?:=by
         funext j
         simp only [placeOf,aR,List.getElem?_toArray,List.getElem?_map]
         cases l[j]? <;> rfl
        rw [QG]
       ·cases e5
     obtain ⟨us,u1,u2,u3⟩:=key
     refine ap h (c:=.agg ⟨us⟩) ?_ (Rel.agg u2 u3)
     have bf:=run_build (P:=E.P) w t (parts.map fun (x:Nat × Operand)=>(x.1,a.eval x.2)) ⟨us⟩ (by rw [KW]; exact u1)
     simp only [execOp,ho,Sem.run_bind,bf,Result.andThen_ok,Sem.run_pure]
    ·cases hv
   ·cases hv
  ·cases hv
 ·cases hv
end ops
end Go.Am
