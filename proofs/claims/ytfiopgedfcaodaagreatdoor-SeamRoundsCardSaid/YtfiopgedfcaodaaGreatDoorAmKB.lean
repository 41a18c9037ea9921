/- The abstract machine: lists of cells; what keeps a state's meaning; loads and stores. -/
import Derived.Test.YtfiopgedfcaodaaGreatDoorAmKA
import Derived.Laws.CopyRow
import Derived.Laws.Slices
import Derived.Laws.StructEq
import Derived.ChangeKeysEq
set_option linter.all false
namespace Go.Am
open Go
section lists
variable {α:Type}
theorem dropN_eq (n:Nat) (l:List α):dropN n l=l.drop n:=by
 induction n generalizing l with
 | zero=>simp [dropN]
 | succ n ih=>cases l <;> simp [dropN,ih]
theorem takeN_eq {n:Nat} {l r:List α} (h:takeN n l=some r):r=l.take n∧r.length=n:=by
 induction n generalizing l r with
 | zero=>simp [takeN] at h; subst h; simp
 | succ n ih=>
  cases l with
  | nil=>simp [takeN] at h
  | cons a l=>
   unfold takeN at h
   split at h
   ·rename_i r' hr
    cases h
    obtain ⟨h1,h2⟩:=ih hr
    exact ⟨by simp [h1],by simp [h2]⟩
   ·cases h
theorem seg_eq {off n:Nat} {l r:List α} (h:seg off n l=some r):r=(l.drop off).take n∧r.length=n:=by
 unfold seg at h
 rw [dropN_eq] at h
 exact takeN_eq h
theorem splice_eq (l:List α) (off:Nat) (ys:List α) (h:off+ys.length≤l.length):splice l off ys=l.take off++ys++l.drop (off+ys.length):=by
 induction l generalizing off ys with
 | nil=>
  have hy:ys=[]:=List.eq_nil_of_length_eq_zero (by rw [List.length_nil] at h; omega)
  subst hy
  simp [splice]
 | cons a l ih=>
  cases ys with
  | nil=>simp [splice]
  | cons y ys=>
   cases off with
   | zero=>
    simp only [splice]
    rw [ih 0 ys (by simp at h ⊢; omega)]
    simp
   | succ n=>
    simp only [splice]
    rw [ih n (y :: ys) (by simp at h ⊢; omega)]
    rw [show n+1+(y :: ys).length=(n+(y :: ys).length)+1 by omega]
    simp
theorem length_splice (l:List α) (off:Nat) (ys:List α) (h:off+ys.length≤l.length):(splice l off ys).length=l.length:=by
 rw [splice_eq l off ys h]
 simp
 omega
end lists
section rel
variable {R:Realm} {w:World}
theorem RelL.length {l:List AV} {vs:List Value} (h:RelL R w l vs):l.length=vs.length:=by
 induction l generalizing vs with
 | nil=>cases h; rfl
 | cons a l ih=>cases h with | cons h t=>simp [ih t]
theorem RelL.get {l:List AV} {vs:List Value} (h:RelL R w l vs) {i:Nat} {a:AV} (ha:l[i]?=some a):∃ c,vs[i]?=some c∧Rel R w a c:=by
 induction l generalizing vs i with
 | nil=>simp at ha
 | cons x l ih=>
  cases h with
  | cons h t=>
   cases i with
   | zero=>simp at ha; subst ha; exact ⟨_,by simp,h⟩
   | succ i=>simp at ha; obtain ⟨c,h1,h2⟩:=ih t ha; exact ⟨c,by simpa using h1,h2⟩
theorem RelL.drop {l:List AV} {vs:List Value} (h:RelL R w l vs) (n:Nat):RelL R w (l.drop n) (vs.drop n):=by
 induction n generalizing l vs with
 | zero=>simpa using h
 | succ n ih=>cases h with
  | nil=>simpa using RelL.nil
  | cons h t=>simpa using ih t
theorem RelL.take {l:List AV} {vs:List Value} (h:RelL R w l vs) (n:Nat):RelL R w (l.take n) (vs.take n):=by
 induction n generalizing l vs with
 | zero=>simpa using RelL.nil
 | succ n ih=>cases h with
  | nil=>simpa using RelL.nil
  | cons h t=>simpa using RelL.cons h (ih t)
theorem RelL.append {l r:List AV} {vs us:List Value} (h:RelL R w l vs) (k:RelL R w r us):RelL R w (l++r) (vs++us):=by
 induction l generalizing vs with
 | nil=>cases h; simpa using k
 | cons a l ih=>cases h with | cons h t=>exact .cons h (ih t)
theorem RelL.one {a:AV} {c:Value} (h:Rel R w a c):RelL R w [a] [c]:=.cons h .nil
theorem Rel.cells {a:AV} {c:Value} (h:Rel R w a c) (ht:a.notTup=true):RelL R w a.cells c.cells.toList∧∀ v∈c.cells.toList,v.oneCell'=true:=by
 cases h with
 | agg h h1=>exact ⟨h,h1⟩
 | tup h=>simp [AV.notTup] at ht
 | bool=>exact ⟨.one (.bool _),by simp [Value.cells,Value.oneCell']⟩
 | int=>exact ⟨.one (.int _ _),by simp [Value.cells,Value.oneCell']⟩
 | str=>exact ⟨.one (.str _),by simp [Value.cells,Value.oneCell']⟩
 | nilp=>exact ⟨.one .nilp,by simp [Value.cells,Value.oneCell']⟩
 | ptr h=>exact ⟨.one (.ptr h),by simp [Value.cells,Value.oneCell']⟩
 | ep h=>exact ⟨.one (.ep h),by simp [Value.cells,Value.oneCell']⟩
 | lnil=>exact ⟨.one .lnil,by simp [Value.cells,Value.oneCell']⟩
 | lopn=>exact ⟨.one .lopn,by simp [Value.cells,Value.oneCell']⟩
 | lemp=>exact ⟨.one .lemp,by simp [Value.cells,Value.oneCell']⟩
 | lown h ho=>exact ⟨.one (.lown h ho),by simp [Value.cells,Value.oneCell']⟩
 | lfam h ho=>exact ⟨.one (.lfam h ho),by simp [Value.cells,Value.oneCell']⟩
 | list h hl hc hk=>exact ⟨.one (.list h hl hc hk),by simp [Value.cells,Value.oneCell']⟩
 | msl h hc=>exact ⟨.one (.msl h hc),by simp [Value.cells,Value.oneCell']⟩
 | gnil h ho=>exact ⟨.one (.gnil h ho),by simp [Value.cells,Value.oneCell']⟩
 | gsl h ho hc=>exact ⟨.one (.gsl h ho hc),by simp [Value.cells,Value.oneCell']⟩
 | gp h ho=>exact ⟨.one (.gp h ho),by simp [Value.cells,Value.oneCell']⟩
 | nilm=>exact ⟨.one .nilm,by simp [Value.cells,Value.oneCell']⟩
 | map h=>exact ⟨.one (.map h),by simp [Value.cells,Value.oneCell']⟩
 | nilf=>exact ⟨.one .nilf,by simp [Value.cells,Value.oneCell']⟩
 | fn h h'=>exact ⟨.one (.fn h h'),by simp [Value.cells,Value.oneCell']⟩
 | yield h=>exact ⟨.one (.yield h),by simp [Value.cells,Value.oneCell']⟩
 | nili=>exact ⟨.one .nili,by simp [Value.cells,Value.oneCell']⟩
 | iface h=>exact ⟨.one (.iface h),by simp [Value.cells,Value.oneCell']⟩
mutual
theorem Rel.weak:∀ {a:AV} {c:Value},Rel R w a c→Rel R w a.weak c
 | _,_,.bool b=>.bool b
 | _,_,.int k n=>.int k n
 | _,_,.str l=>.str l
 | _,_,.agg h h1=>.agg h.weak h1
 | _,_,.tup h=>.tup h.weak
 | _,_,.nilp=>.nilp
 | _,_,.ptr h=>.ptr h
 | _,_,.ep h=>.ep h
 | _,_,.lnil=>.lnil
 | _,_,.lopn=>.lopn
 | _,_,.lemp=>.lemp
 | _,_,.lown _ _=>.lopn
 | _,_,.lfam _ _=>.lopn
 | _,_,@Rel.list _ _ .nil _ _ _ _ _ _ h hl hc hk=>.list h hl hc hk
 | _,_,@Rel.list _ _ .full _ _ _ _ _ _ h hl hc hk=>.list h hl hc hk
 | _,_,@Rel.list _ _ .opn _ _ _ _ _ _ h hl hc hk=>.list h hl hc hk
 | _,_,@Rel.list _ _ (.own _) _ _ _ _ _ _ h hl hc _=>.list h hl hc trivial
 | _,_,@Rel.list _ _ (.fam _ _) _ _ _ _ _ _ h hl hc _=>.list h hl hc trivial
 | _,_,.msl h hc=>.msl h hc
 | _,_,.gnil h ho=>.gnil h ho
 | _,_,.gsl h ho hc=>.gsl h ho hc
 | _,_,.gp h ho=>.gp h ho
 | _,_,.nilm=>.nilm
 | _,_,.map h=>.map h
 | _,_,.nilf=>.nilf
 | _,_,.fn h h'=>.fn h h'
 | _,_,.yield h=>.yield h
 | _,_,.nili=>.nili
 | _,_,.iface h=>.iface h
theorem RelL.weak:∀ {l:List AV} {cs:List Value},RelL R w l cs→RelL R w (weakL l) cs
 | _,_,.nil=>.nil
 | _,_,.cons h t=>.cons h.weak t.weak
end
theorem RelC.get {b o:Nat} {l:List AV} (h:RelC R w b o l):∃ vs,RelL R w l vs∧(∀ v∈vs,v.oneCell'=true)∧(∀ j v,vs[j]?=some v→w.cell? ⟨b,o+j,none⟩=some v)∧∀ j,j < l.length→R.I b (o+j):=by
 induction l generalizing o with
 | nil=>exact ⟨[],.nil,by simp,by simp,by simp⟩
 | cons a l ih=>
  cases h with
  | @cons _ _ _ c _ hc h1 hi h t=>
   obtain ⟨vs,k1,k2,k3,k4⟩:=ih t
   refine ⟨c :: vs,.cons h k1,?_,?_,?_⟩
   ·intro v hv
    rcases List.mem_cons.1 hv with rfl | hv
    ·exact h1
    ·exact k2 v hv
   ·intro j v hv
    cases j with
    | zero=>simp at hv; subst hv; exact hc
    | succ j=>simp at hv; have:=k3 j v hv; rwa [show o+1+j=o+(j+1) by omega] at this
   ·intro j hj
    cases j with
    | zero=>exact hi
    | succ j=>have:=k4 j (by simp at hj; omega); rwa [show o+1+j=o+(j+1) by omega] at this
theorem RelC.make {b o:Nat} {l:List AV} {vs:List Value} (h:RelL R w l vs) (h1:∀ v∈vs,v.oneCell'=true) (hc:∀ j v,vs[j]?=some v→w.cell? ⟨b,o+j,none⟩=some v) (hi:∀ j,j < l.length→R.I b (o+j)):RelC R w b o l:=by
 induction l generalizing vs o with
 | nil=>exact .nil
 | cons a l ih=>
  cases h with
  | cons h t=>
   refine .cons (hc 0 _ (by simp)) (h1 _ (by simp)) (hi 0 (by simp)) h (ih t (fun v hv=>h1 v (by simp [hv])) (fun j v hv=>?_) (fun j hj=>?_))
   ·have:=hc (j+1) v (by simpa using hv); rwa [show o+(j+1)=o+1+j by omega] at this
   ·have:=hi (j+1) (by simpa using hj); rwa [show o+(j+1)=o+1+j by omega] at this
theorem RelC.drop {b o:Nat} {l:List AV} (h:RelC R w b o l) (n:Nat):RelC R w b (o+n) (l.drop n):=by
 induction n generalizing o l with
 | zero=>simpa using h
 | succ n ih=>cases h with
  | nil=>simpa using RelC.nil
  | cons hc h1 hi h t=>have:=ih t; rw [show o+1+n=o+(n+1) by omega] at this; simpa using this
end rel
theorem addr_add (b o n:Nat):(⟨b,o,none⟩:Addr).add n=⟨b,o+n,none⟩:=by unfold Addr.add; split <;> simp_all
section keep
variable {E:Env} {R R':Realm} {w w':World} {β β':Nat→Nat} {s:St} {a:Act}
theorem RelT.mono (e:Ext R w R' w') {sl:Slots} {tm:Array Value} (h:RelT R w β sl tm):RelT R' w' β sl tm:=
 fun i hi=>let ⟨c,h1,h2⟩:=h i hi; ⟨c,h1,h2.mono e⟩
theorem RelM.mono (e:Ext R w R' w'):∀ {l:List (AV × AV)} {es:List MapEntry},RelM R w l es→RelM R' w' l es
 | [],[],_=>trivial
 | (_,_) :: _,_ :: _,h=>⟨h.1.mono e,h.2.1.mono e,RelM.mono e h.2.2⟩
 | [],_ :: _,h=>h.elim
 | _ :: _,[],h=>h.elim
theorem size_of_get {w w':World} {b:Nat} (h:b < w.heap.size) (e:w'.heap[b]?=w.heap[b]?):b < w'.heap.size:=by
 rw [Array.getElem?_eq_getElem h] at e
 exact (Array.getElem?_eq_some_iff.1 e).1
theorem RepO.mono (e:Ext R w R' w') {go:GO} {ro:RO} (h:RepO R w go ro) (hb:∀ b,ro.has b→w'.heap[b]?=w.heap[b]?) (hi:∀ b o,ro.has b→R'.I b o→R.I b o):RepO R' w' go ro:=by
 cases ro with
 | none=>cases go <;> first | exact h | exact h.elim
 | nil0=>cases go <;> first | exact h | exact h.elim
 | blk b=>
  have hb':=hb b rfl
  cases go with
  | dead=>exact size_of_get h hb'
  | row cs el=>obtain ⟨vs,h1,h2,h3,h4⟩:=h; exact ⟨vs,hb'.trans h1,h2.mono e,h3,fun o ho=>h4 o (hi b o rfl ho)⟩
  | tok f sz el=>exact h.elim
  | fam _ _ _=>exact h.elim
  | mit mid n left _=>obtain ⟨bm,seen,c0,h1,h2,h3⟩:=h; exact ⟨bm,seen,c0,e.blk h1,hb'.trans h2,h3⟩
  | gro es sz el=>exact h.elim
  | map es=>obtain ⟨ents,clock,h1,h2,h3⟩:=h; exact ⟨ents,clock,hb'.trans h1,RelM.mono e h2,h3⟩
  | siter l pos=>exact hb'.trans h
  | loop busy pending fn slots n params assign body defers done=>
   obtain ⟨⟨r,db,h1,h2,h3,h4,h5,h6,h7,h8,h9,h11⟩,h10⟩:=h
   exact ⟨⟨r,db,hb'.trans h1,h2,h3,h4.mono e,h5,h6,h7,h8,h9,e.blk h11⟩,h10⟩
  | defers o=>exact hb'.trans h
 | tok f b c=>
  have hb':=hb b rfl
  cases go with
  | tok f' sz el=>
   obtain ⟨h0,cur,h1,h2,h3,h4,h5⟩:=h
   exact ⟨h0,cur,hb'.trans h1,h2,h3,h4,fun o ho hi'=>h5 o ho (hi b o rfl hi')⟩
  | gro es sz el=>
   obtain ⟨h0,hel,cur,vs,h1,h2,h3,h4,h5,h6,h7,h8⟩:=h
   exact ⟨h0,hel,cur,vs,hb'.trans h1,h2,h3,h4,fun o ho=>h5 o (hi b o rfl ho),h6.mono e,h7,h8⟩
  | dead=>exact size_of_get h hb'
  | row cs=>exact h.elim
  | fam _ _ _=>exact h.elim
  | mit _ _ _ _=>exact h.elim
  | map es=>exact h.elim
  | siter l pos=>exact h.elim
  | loop=>exact h.elim
  | defers o=>exact h.elim
 | fam ts=>
  cases go with
  | fam fs sz el=>
   obtain ⟨h1,h2,h3⟩:=h
   refine ⟨h1,h2,fun j f t hf ht=>?_⟩
   have h4:=h3 j f t hf ht
   cases t with
   | nil0=>exact h4
   | full f'=>exact h4
   | tok f' b c=>
    obtain ⟨h5,cur,k1,k2,k3,k4,k5⟩:=h4
    have hh:RO.has (.fam ts) b:=⟨j,f',c,ht⟩
    exact ⟨h5,cur,(hb b hh).trans k1,k2,k3,k4,fun o ho hi'=>k5 o ho (hi b o hh hi')⟩
  | dead=>exact fun j f b c ht=>size_of_get (h j f b c ht) (hb b ⟨j,f,c,ht⟩)
  | _=>exact h.elim
theorem Live.of {id b:Nat} {ro:RO} (h:nth R.obj id=some ro) (hb:ro.has b):Live R b:=⟨id,ro,h,hb⟩
theorem RepG.keep {G:List GO} (h:RepG E R w G) (e:Ext R w R' w') (ho:R'.obj=R.obj) (hb:∀ b,Live R b→w'.heap[b]?=w.heap[b]?) (hi:∀ b o,Live R b→R'.I b o→R.I b o) (wf:∀ b o,R'.I b o→b < w'.heap.size) (hd:E.lo≤w.drawn→E.lo≤w'.drawn:=by first | exact fun h=>h | exact fun h=>Nat.le_succ_of_le h):RepG E R' w' G where
 lo:=hd h.lo
 len:=by rw [ho]; exact h.len
 obj:=fun id go ro hg hr=>by
  rw [ho] at hr
  exact (h.obj id go ro hg hr).mono e (fun b hbb=>hb b (.of hr hbb)) (fun b o hbb=>hi b o (.of hr hbb))
 inj:=fun i j ri rj b h1 h2=>by rw [ho] at h1 h2; exact h.inj i j ri rj b h1 h2
 wf:=wf
 glob:=fun g cs hg=>(h.glob g cs hg).mono e
theorem RepB.keep {bx:Boxes} (h:RepB R w β bx) (e:Ext R w R' w') (hb:∀ k cs,lkB bx k=some cs→w'.heap[β k]?=w.heap[β k]?) (hi:∀ k cs o,lkB bx k=some cs→R'.I (β k) o→R.I (β k) o) (hl:∀ k cs,lkB bx k=some cs→Live R' (β k)→Live R (β k)):RepB R' w' β bx where
 box:=fun k cs hk=>by
  obtain ⟨⟨vs,el,h1,h2,h3⟩,h4,h5⟩:=h.box k cs hk
  exact ⟨⟨vs,el,(hb k cs hk).trans h1,h2.mono e,h3⟩,fun o ho=>h4 o (hi k cs o hk ho),fun hlv=>h5 (hl k cs hk hlv)⟩
 inj:=h.inj
theorem RelD.mono (e:Ext R w R' w'):∀ {l:List Nat} {ds:List Deferred},RelD R l ds→RelD R' l ds
 | [],[],_=>trivial
 | _ :: _,_ :: _,h=>let ⟨⟨b,h1,h2⟩,h3⟩:=h; ⟨⟨b,e.blk h1,h2⟩,RelD.mono e h3⟩
 | [],_ :: _,h=>h.elim
 | _ :: _,[],h=>h.elim
theorem Rep.keep (h:Rep E R w β s a) (e:Ext R w R' w') (ho:R'.obj=R.obj) (hb:∀ b,Own R β s.boxes b→w'.heap[b]?=w.heap[b]?) (hi:∀ b o,Own R β s.boxes b→R'.I b o→R.I b o) (wf:∀ b o,R'.I b o→b < w'.heap.size) (hd:E.lo≤w.drawn→E.lo≤w'.drawn:=by first | exact fun h=>h | exact fun h=>Nat.le_succ_of_le h):Rep E R' w' β s a where
 g:=h.g.keep e ho (fun b hl=>hb b (.inl hl)) (fun b o hl=>hi b o (.inl hl)) wf hd
 b:=h.b.keep e (fun k cs hk=>hb _ (.inr ⟨k,cs,hk,rfl⟩)) (fun k cs o hk=>hi _ o (.inr ⟨k,cs,hk,rfl⟩)) (fun k cs _ hl=>by obtain ⟨id,ro,h1,h2⟩:=hl; rw [ho] at h1; exact ⟨id,ro,h1,h2⟩)
 t:=h.t.mono e
 n:=h.n
 d:=h.d.mono e
theorem block_lt {w:World} {b:Nat} {o:Obj} (h:w.heap[b]?=some o):b < w.heap.size:=(Array.getElem?_eq_some_iff.1 h).1
theorem RepO.lt {go:GO} {ro:RO} (h:RepO R w go ro) {b:Nat} (hb:ro.has b):b < w.heap.size:=by
 cases ro with
 | none=>exact hb.elim
 | nil0=>exact hb.elim
 | blk x=>
  have hb:b=x:=hb
  subst hb
  cases go with
  | dead=>exact h
  | row cs el=>obtain ⟨vs,h1,_⟩:=h; exact block_lt h1
  | tok f sz el=>exact h.elim
  | fam _ _ _=>exact h.elim
  | mit mid n left _=>obtain ⟨bm,seen,c0,_,h2,_⟩:=h; exact block_lt h2
  | gro es sz el=>exact h.elim
  | map es=>obtain ⟨ents,clock,h1,_⟩:=h; exact block_lt h1
  | siter l pos=>exact block_lt h
  | loop=>obtain ⟨⟨r,db,h1,_⟩,_⟩:=h; exact block_lt h1
  | defers o=>exact block_lt h
 | tok f x c=>
  have hb:b=x:=hb
  subst hb
  cases go with
  | tok f' sz el=>obtain ⟨_,cur,h1,_⟩:=h; exact block_lt h1
  | gro es sz el=>obtain ⟨_,_,cur,vs,h1,_⟩:=h; exact block_lt h1
  | dead=>exact h
  | row cs=>exact h.elim
  | fam _ _ _=>exact h.elim
  | mit _ _ _ _=>exact h.elim
  | map es=>exact h.elim
  | siter l pos=>exact h.elim
  | loop=>exact h.elim
  | defers o=>exact h.elim
 | fam ts=>
  obtain ⟨j,f,c,ht⟩:=hb
  cases go with
  | fam fs sz el=>
   obtain ⟨h1,h2,h3⟩:=h
   have hlt:=nth_lt ht
   rw [h1] at hlt
   obtain ⟨f',hf⟩:∃ f',nth fs j=some f':=⟨fs[j],by rw [nth_eq]; exact List.getElem?_eq_getElem hlt⟩
   obtain ⟨_,cur,k1,_⟩:=h3 j f' _ hf ht
   exact block_lt k1
  | dead=>exact h j f b c ht
  | _=>exact h.elim
theorem RepG.live_lt {G:List GO} (h:RepG E R w G) {b:Nat} (hl:Live R b):b < w.heap.size:=by
 obtain ⟨id,ro,h1,h2⟩:=hl
 have hlt:=nth_lt h1
 rw [h.len] at hlt
 obtain ⟨go,hgo⟩:∃ go,nth G id=some go:=⟨G[id],by rw [nth_eq]; exact List.getElem?_eq_getElem hlt⟩
 exact (h.obj id go ro hgo h1).lt h2
theorem Rep.own_lt (h:Rep E R w β s a) {b:Nat} (ho:Own R β s.boxes b):b < w.heap.size:=by
 rcases ho with hl | ⟨k,cs,hk,rfl⟩
 ·exact h.g.live_lt hl
 ·obtain ⟨⟨vs,el,h1,_⟩,_⟩:=h.b.box k cs hk
  exact block_lt h1
theorem cell_of_block {w w':World} {b:Nat} (h:w'.heap[b]?=w.heap[b]?) (o:Nat):w'.cell? ⟨b,o,none⟩=w.cell? ⟨b,o,none⟩:=by simp [World.cell?,h]
theorem ext_alloc (wf:∀ b o,R.I b o→b < w.heap.size) (x:Obj):Ext R w R (w.alloc x):=
 ⟨fun _ _ h=>h,fun b o h=>cell_of_block (heap_alloc_old w x b (wf b o h)) o,fun _ ro h=>⟨ro,h,RoLe.refl ro⟩,.old fun b hb=>heap_alloc_old w x b hb⟩
theorem Rep.alloc (h:Rep E R w β s a) (x:Obj):Rep E R (w.alloc x) β s a:=
 h.keep (ext_alloc h.g.wf x) rfl (fun b hb=>heap_alloc_old w x b (h.own_lt hb)) (fun _ _ _ hi=>hi) (fun b o hi=>by have:=h.g.wf b o hi; simp; omega)
end keep
end Go.Am
namespace Go.Am
open Go
theorem same0_eq {a b:AV} (h:same0 a b=true):a=b:=by
 unfold same0 at h
 split at h
 all_goals (first | (cases h; done) | skip)
 all_goals (try simp only [Bool.and_eq_true,beq_iff_eq,Nat.beq_eq] at h)
 all_goals (simp [*])
mutual
theorem sameA_eq:∀ {a b:AV},sameA a b=true→a=b:=by
 intro a b h
 unfold sameA at h
 split at h
 ·simp only [Bool.and_eq_true,Nat.beq_eq] at h; rw [h.1.1,sameL_eq h.1.2,sameL_eq h.2]
 ·rw [sameL_eq h]
 ·rw [sameL_eq h]
 ·rw [sameL_eq h]
 ·simp only [Bool.and_eq_true,Nat.beq_eq] at h; rw [h.1,sameL_eq h.2]
 ·simp only [Bool.and_eq_true,Nat.beq_eq] at h; rw [h.1,sameL_eq h.2]
 ·simp only [Bool.and_eq_true,Nat.beq_eq] at h; rw [h.1,sameL_eq h.2]
 ·simp only [Bool.and_eq_true,Nat.beq_eq] at h; rw [h.1.1,h.1.2,sameL_eq h.2]
 ·simp only [Bool.and_eq_true,Nat.beq_eq] at h; rw [h.1.1.1,h.1.1.2,h.1.2,sameL_eq h.2]
 ·exact same0_eq h
theorem sameL_eq:∀ {l r:List AV},sameL l r=true→l=r:=by
 intro l r h
 unfold sameL at h
 split at h
 ·rfl
 ·rw [Bool.and_eq_true] at h; rw [sameA_eq h.1,sameL_eq h.2]
 ·cases h
end
def Weak (a b:AV):Prop:=∀ (R:Realm) (w:World) (c:Value),Rel R w a c→Rel R w b c
def WeakL:List AV→List AV→Prop
 | [],[]=>True
 | a :: l,b :: r=>Weak a b∧WeakL l r
 | _,_=>False
theorem Weak.refl (a:AV):Weak a a:=fun _ _ _ h=>h
theorem WeakL.refl:∀ l:List AV,WeakL l l
 | []=>trivial
 | a :: l=>⟨Weak.refl a,WeakL.refl l⟩
theorem WeakL.length:∀ {l r:List AV},WeakL l r→l.length=r.length
 | [],[],_=>rfl
 | _ :: _,_ :: _,h=>by simp [WeakL.length h.2]
 | [],_ :: _,h=>h.elim
 | _ :: _,[],h=>h.elim
theorem WeakL.rel {R:Realm} {w:World}:∀ {l r:List AV} {cs:List Value},WeakL l r→RelL R w l cs→RelL R w r cs
 | [],[],_,_,h=>h
 | _ :: _,_ :: _,_,k,.cons h t=>.cons (k.1 _ _ _ h) (WeakL.rel k.2 t)
 | [],_ :: _,_,h,_=>h.elim
 | _ :: _,[],_,h,_=>h.elim
theorem WeakL.relC {R:Realm} {w:World}:∀ {l r:List AV} {b o:Nat},WeakL l r→RelC R w b o l→RelC R w b o r
 | [],[],_,_,_,_=>.nil
 | _ :: _,_ :: _,_,_,k,.cons hc h1 hi h t=>.cons hc h1 hi (k.1 _ _ _ h) (WeakL.relC k.2 t)
 | [],_ :: _,_,_,h,_=>h.elim
 | _ :: _,[],_,_,h,_=>h.elim
theorem WeakL.append:∀ {a b c d:List AV},WeakL a b→WeakL c d→WeakL (a++c) (b++d)
 | [],[],_,_,_,h=>h
 | _ :: _,_ :: _,_,_,k,h=>⟨k.1,WeakL.append k.2 h⟩
 | [],_ :: _,_,_,h,_=>h.elim
 | _ :: _,[],_,_,h,_=>h.elim
structure DecOk (v u:AV):Prop where
 weak:Weak v u
 tup:u.notTup=v.notTup
 cells:v.notTup=true→WeakL v.cells u.cells
 closed:v.closed=true→u.closed=true
theorem two_enc {u v a:AV} (h:(Pat.two u v).fits a=true):(Pat.two u v).enc ((Pat.two u v).decD a)=a:=by
 change (sameA a u || sameA a v)=true at h
 change (bif sameA a v then v else u)=a
 cases hs:sameA a v with
 | true=>exact (sameA_eq hs).symm
 | false=>
  rw [hs,Bool.or_false] at h
  exact (sameA_eq h).symm
theorem DecOk.refl (v:AV):DecOk v v:=⟨Weak.refl v,rfl,fun _=>WeakL.refl _,fun h=>h⟩
theorem kEq_eq {a b:IntKind} (h:kEq a b=true):a=b:=of_decide_eq_true h
theorem fit_relE {α:Type} {f:AV→Bool} {d:AV→α} {g:α→AV} (hfg:∀ v,f v=true→DecOk v (g (d v))) {R:Realm} {w:World} :
  ∀ {es:List AV} {b o sz:Nat},allFit f es=true→RelE R w b o sz es→RelE R w b o sz ((es.map d).map g)
 | [],b,o,sz,_,_=>.nil
 | e :: es,b,o,sz,h,hr=>by
  simp only [allFit,Bool.and_eq_true] at h
  cases hr with
  | cons hl ht hk hc t=>
   have d':=hfg e h.1
   have wc:=d'.cells ht
   exact .cons (by rw [← wc.length,hl]) (by rw [d'.tup,ht]) (d'.closed hk) (wc.relC hc) (fit_relE hfg h.2 t)
theorem relE_size {R:Realm} {w:World} {b o sz sz':Nat} {es:List AV} (h:es=[]∨sz=sz') (hr:RelE R w b o sz' es):RelE R w b o sz es:=by
 rcases h with rfl | rfl
 ·exact .nil
 ·exact hr
theorem list_weak {α:Type} {f:AV→Bool} {d:AV→α} {g:α→AV} (hfg:∀ v,f v=true→DecOk v (g (d v))) {k:LK} {sz sz':Nat} {es:List AV} (hs:es=[]∨sz=sz') (h:allFit f es=true) :
  Weak (.list k sz' es) (.list .opn sz ((es.map d).map g)):=fun R w c hr=>by
 cases hr with
 | lnil=>exact .lopn
 | lopn=>exact .lopn
 | lemp=>exact .lemp
 | lown _ _=>exact .lopn
 | lfam _ _=>exact .lopn
 | list hr hlen hc hk=>exact .list (fit_relE hfg h (relE_size hs hr)) (by simp [hlen]) hc trivial
theorem own_weak {α:Type} {f:AV→Bool} {d:AV→α} {g:α→AV} (hfg:∀ v,f v=true→DecOk v (g (d v))) {id sz:Nat} {es:List AV} (h:allFit f es=true) :
  Weak (.list (.own id) sz es) (.list (.own id) sz ((es.map d).map g)):=fun R w c hr=>by
 cases hr with
 | lown h1 h2=>exact .lown h1 h2
 | list hr hlen hc hk=>exact .list (fit_relE hfg h hr) (by simp [hlen]) hc hk
theorem fam_weak {α:Type} {f:AV→Bool} {d:AV→α} {g:α→AV} (hfg:∀ v,f v=true→DecOk v (g (d v))) {id j sz:Nat} {es:List AV} (h:allFit f es=true) :
  Weak (.list (.fam id j) sz es) (.list (.fam id j) sz ((es.map d).map g)):=fun R w c hr=>by
 cases hr with
 | lfam h1 h2=>exact .lfam h1 h2
 | list hr hlen hc hk=>exact .list (fit_relE hfg h hr) (by simp [hlen]) hc hk
mutual
theorem Pat.fits_ok:∀ (p:Pat) {v:AV},p.fits v=true→DecOk v (p.enc (p.decD v))
 | .int k,v,h=>by
  cases v with
  | int k' n=>
   have hk:kEq k k'=true:=h
   rw [kEq_eq hk]
   exact DecOk.refl _
  | _=>cases h
 | .bool,v,h=>by
  cases v with
  | bool b=>exact DecOk.refl _
  | _=>cases h
 | .str,v,h=>by
  cases v with
  | str b=>exact DecOk.refl _
  | _=>cases h
 | .agg ps,v,h=>by
  cases v with
  | agg cs=>
   obtain ⟨h1,h2⟩:=ps.fits_ok (show ps.fits cs=true from h)
   exact ⟨fun R w c hr=>by cases hr with | agg hr h1'=>exact .agg (h1.rel hr) h1',rfl,fun _=>h1,fun hc=>by
    have hc':closedL cs=true:=by simpa [AV.closed] using hc
    show AV.closed (.agg (ps.enc (ps.decD cs)))=true
    simp only [AV.closed]; exact h2 hc'⟩
  | _=>cases h
 | .tup ps,v,h=>by
  cases v with
  | tup cs=>
   obtain ⟨h1,h2⟩:=ps.fits_ok (show ps.fits cs=true from h)
   exact ⟨fun R w c hr=>by cases hr with | tup hr=>exact .tup (h1.rel hr),rfl,fun hn=>by simp [AV.notTup] at hn,fun hc=>by
    have hc':closedL cs=true:=by simpa [AV.closed] using hc
    show AV.closed (.tup (ps.enc (ps.decD cs)))=true
    simp only [AV.closed]; exact h2 hc'⟩
  | _=>cases h
 | .list sz p,v,h=>by
  cases v with
  | list k sz' es=>
   have hb:((Nat.beq sz sz' || es.isEmpty)&&allFit p.fits es)=true:=h
   simp only [Bool.and_eq_true,Bool.or_eq_true,Nat.beq_eq,List.isEmpty_iff] at hb
   have hw:=list_weak (k:=k) (fun v=>p.fits_ok) hb.1.symm hb.2
   exact ⟨hw,rfl,fun _=>⟨hw,trivial⟩,fun _=>rfl⟩
  | _=>cases h
 | .own id sz p,v,h=>by
  cases v with
  | list k sz' es=>
   cases k with
   | own id'=>
    have hb:((Nat.beq id id'&&Nat.beq sz sz')&&allFit p.fits es)=true:=h
    simp only [Bool.and_eq_true,Nat.beq_eq] at hb
    obtain ⟨⟨rfl,rfl⟩,hf⟩:=hb
    have hw:=own_weak (id:=id) (sz:=sz) (fun v=>p.fits_ok) hf
    exact ⟨hw,rfl,fun _=>⟨hw,trivial⟩,fun hc=>by simp [AV.closed,LK.closed] at hc⟩
   | _=>cases h
  | _=>cases h
 | .fam id sz p,v,h=>by
  cases v with
  | list k sz' es=>
   cases k with
   | fam id' j=>
    have hb:((Nat.beq id id'&&Nat.beq sz sz')&&allFit p.fits es)=true:=h
    simp only [Bool.and_eq_true,Nat.beq_eq] at hb
    obtain ⟨⟨rfl,rfl⟩,hf⟩:=hb
    have hw:=fam_weak (id:=id) (j:=j) (sz:=sz) (fun v=>p.fits_ok) hf
    exact ⟨hw,rfl,fun _=>⟨hw,trivial⟩,fun hc=>by simp [AV.closed,LK.closed] at hc⟩
   | _=>cases h
  | _=>cases h
 | .cst u,v,h=>by
  have:=sameA_eq (show sameA v u=true from h)
  subst this
  exact DecOk.refl _
 | .two u v,a,h=>by
  have hv:(Pat.two u v).enc ((Pat.two u v).decD a)=a:=two_enc h
  rw [hv]
  exact DecOk.refl _
theorem Pats.fits_ok:∀ (ps:Pats) {l:List AV},ps.fits l=true→WeakL l (ps.enc (ps.decD l))∧(closedL l=true→closedL (ps.enc (ps.decD l))=true)
 | .nil,l,h=>by
  cases l with
  | nil=>exact ⟨trivial,fun h=>h⟩
  | cons _ _=>cases h
 | .cons p .nil,l,h=>by
  match l,h with
  | [],h=>cases h
  | a :: l,h=>
   have h':(p.fits a&&l.isEmpty)=true:=h
   simp only [Bool.and_eq_true,List.isEmpty_iff] at h'
   obtain ⟨h1,rfl⟩:=h'
   have d:=p.fits_ok h1
   exact ⟨⟨d.weak,trivial⟩,fun hc=>by
    simp only [closedL,Bool.and_true] at hc
    show closedL [p.enc (p.decD a)]=true
    simp only [closedL,Bool.and_true]
    exact d.closed hc⟩
 | .cons p (.cons q ps),l,h=>by
  cases l with
  | nil=>cases h
  | cons a l=>
   have h':(p.fits a&&(Pats.cons q ps).fits l)=true:=h
   rw [Bool.and_eq_true] at h'
   have d:=p.fits_ok h'.1
   obtain ⟨k1,k2⟩:=(Pats.cons q ps).fits_ok h'.2
   exact ⟨⟨d.weak,k1⟩,fun hc=>by
    simp only [closedL,Bool.and_eq_true] at hc
    show closedL (p.enc (p.decD a) :: (Pats.cons q ps).enc ((Pats.cons q ps).decD l))=true
    simp only [closedL,Bool.and_eq_true]
    exact ⟨d.closed hc.1,k2 hc.2⟩⟩
end
theorem Pat.dec_ok (p:Pat) {v:AV} {x:p.T} (h:p.dec v=some x):DecOk v (p.enc x):=by
 unfold Pat.dec at h
 cases hf:p.fits v with
 | true=>rw [hf] at h; cases h; exact p.fits_ok hf
 | false=>rw [hf] at h; cases h
theorem Pats.dec_ok (ps:Pats) {l:List AV} {x:ps.T} (h:ps.dec l=some x):WeakL l (ps.enc x)∧(closedL l=true→closedL (ps.enc x)=true):=by
 unfold Pats.dec at h
 cases hf:ps.fits l with
 | true=>rw [hf] at h; cases h; exact ps.fits_ok hf
 | false=>rw [hf] at h; cases h
mutual
def Pat.plain:Pat→Bool
 | .agg ps=>ps.plain
 | .tup ps=>ps.plain
 | .list _ p=>p.plain
 | .own _ _ p=>p.plain
 | .fam _ _ p=>p.plain
 | .cst v=>sameA v v
 | .two u v=>sameA u u&&sameA v v&&!sameA u v
 | _=>true
def Pats.plain:Pats→Bool
 | .nil=>true
 | .cons p ps=>p.plain&&ps.plain
end
theorem allFit_map {α:Type} {f:AV→Bool} {g:α→AV} (h:∀ x,f (g x)=true):∀ xs:List α,allFit f (xs.map g)=true
 | []=>rfl
 | x :: xs=>by simp only [List.map_cons,allFit,h x,allFit_map h xs,Bool.and_self]
theorem map_dec {α:Type} {d:AV→α} {g:α→AV} (h:∀ x,d (g x)=x):∀ xs:List α,(xs.map g).map d=xs
 | []=>rfl
 | x :: xs=>by simp only [List.map_cons,h x,map_dec h xs]
mutual
theorem Pat.fits_enc:∀ (p:Pat) (x:p.T),p.plain=true→p.fits (p.enc x)=true∧p.decD (p.enc x)=x
 | .int k,x,_=>⟨decide_eq_true rfl,rfl⟩
 | .bool,x,_=>⟨rfl,rfl⟩
 | .str,x,_=>⟨rfl,rfl⟩
 | .agg ps,x,h=>ps.fits_enc x h
 | .tup ps,x,h=>ps.fits_enc x h
 | .list sz p,x,h=>by
  refine ⟨?_,map_dec (fun y=>(p.fits_enc y h).2) x⟩
  change ((Nat.beq sz sz || (List.map p.enc x).isEmpty)&&allFit p.fits (List.map p.enc x))=true
  rw [Nat.beq_refl,Bool.true_or,Bool.true_and]
  exact allFit_map (fun y=>(p.fits_enc y h).1) x
 | .own id sz p,x,h=>by
  refine ⟨?_,map_dec (fun y=>(p.fits_enc y h).2) x⟩
  change ((Nat.beq id id&&Nat.beq sz sz)&&allFit p.fits (List.map p.enc x))=true
  rw [Nat.beq_refl,Nat.beq_refl,Bool.true_and,Bool.true_and]
  exact allFit_map (fun y=>(p.fits_enc y h).1) x
 | .fam id sz p,(x:Nat × List p.T),h=>by
  refine ⟨?_,?_⟩
  ·change ((Nat.beq id id&&Nat.beq sz sz)&&allFit p.fits (List.map p.enc x.2))=true
   rw [Nat.beq_refl,Nat.beq_refl,Bool.true_and,Bool.true_and]
   exact allFit_map (fun y=>(p.fits_enc y h).1) x.2
  ·change (x.1,(List.map p.enc x.2).map p.decD)=x
   rw [map_dec (fun y=>(p.fits_enc y h).2) x.2]
 | .cst v,x,h=>⟨h,rfl⟩
 | .two u v,(x:Bool),h=>by
  change (sameA u u&&sameA v v&&!sameA u v)=true at h
  simp only [Bool.and_eq_true,Bool.not_eq_true'] at h
  obtain ⟨⟨h1,h2⟩,h3⟩:=h
  cases x
  ·exact ⟨by change (sameA u u || sameA u v)=true; rw [h1]; rfl,h3⟩
  ·exact ⟨by change (sameA v u || sameA v v)=true; rw [h2,Bool.or_true],h2⟩
theorem Pats.fits_enc:∀ (ps:Pats) (x:ps.T),ps.plain=true→ps.fits (ps.enc x)=true∧ps.decD (ps.enc x)=x
 | .nil,x,_=>⟨rfl,rfl⟩
 | .cons p .nil,x,h=>by
  have h':(p.plain&&true)=true:=h
  rw [Bool.and_true] at h'
  have:=p.fits_enc x h'
  exact ⟨by change (p.fits (p.enc x)&&true)=true; rw [this.1]; rfl,this.2⟩
 | .cons p (.cons q ps),x,h=>by
  have h':(p.plain&&(Pats.cons q ps).plain)=true:=h
  rw [Bool.and_eq_true] at h'
  have h1:=p.fits_enc x.1 h'.1
  have h2:=(Pats.cons q ps).fits_enc x.2 h'.2
  refine ⟨?_,?_⟩
  ·change (p.fits (p.enc x.1)&&(Pats.cons q ps).fits ((Pats.cons q ps).enc x.2))=true
   rw [h1.1,h2.1]
   rfl
  ·change (p.decD (p.enc x.1),(Pats.cons q ps).decD ((Pats.cons q ps).enc x.2))=x
   rw [h1.2,h2.2]
   rfl
end
end Go.Am
namespace Go.Am
open Go
theorem ti_info (E:Env) {t:TypeId} {i:TI} (h:E.ti t=some i) :
  ∃ info u,E.P.info? t=some info∧E.P.underlying t=some u∧info.size=i.size∧aggD u=i.agg∧tkOf E.P u=some i.k∧constOf info=i.zero:=by
 have h1:=E.tiOk t i h
 unfold tiOf at h1
 split at h1
 ·rename_i info u h2 h3
  split at h1
  ·rename_i k hk
   cases h1
   exact ⟨info,u,h2,h3,rfl,rfl,hk,rfl⟩
  ·cases h1
 ·cases h1
section runs
variable {P:Program} (w:World)
theorem run_isAgg {t:TypeId} {u:TypeDesc} (h:P.underlying t=some u):(isAgg t).run P w=.ok (aggD u) w:=by
 unfold isAgg
 simp only [Sem.run_bind,run_underlying h,Result.andThen_ok]
 cases u <;> rfl
theorem run_sizeOf {t:TypeId} {i:TypeInfo} (h:P.info? t=some i):(sizeOf t).run P w=.ok i.size w:=by
 simp [sizeOf,typeInfo,h]
theorem run_zeroValue {t:TypeId} {i:TypeInfo} {z:Value} (h:P.info? t=some i) (hz:i.zero=some z):(zeroValue t).run P w=.ok z w:=by
 simp [zeroValue,typeInfo,h,hz]
theorem run_newVar (t:TypeId) (v:Value):(newVar t v).run P w=.ok ⟨w.heap.size,0,none⟩ (w.alloc (.cells v.cells t)):=by
 simp only [newVar,newRow,Sem.run_bind,run_newObj,Result.andThen_ok,Sem.run_pure]
 rfl
end runs
theorem mkOf_rel {R:Realm} {w:World} {ag:Bool} {l:List AV} {v:AV} {vs:List Value} (hm:mkOf ag l=some v) (h:RelL R w l vs) (h1:∀ x∈vs,x.oneCell'=true) :
  (ag=true→Rel R w v (.agg ⟨vs⟩))∧(ag=false→∃ c,vs=[c]∧Rel R w v c):=by
 unfold mkOf at hm
 cases ag with
 | true=>
  simp at hm
  subst hm
  exact ⟨fun _=>.agg h h1,fun e=>by cases e⟩
 | false=>
  refine ⟨(fun e=>by cases e),fun _=>?_⟩
  simp only [Bool.false_eq_true,if_false] at hm
  split at hm
  ·cases hm
   cases h with
   | cons h t=>
    cases t
    exact ⟨_,rfl,h⟩
  ·cases hm
theorem run_loadVar {E:Env} {R:Realm} {w:World} {t:TypeId} {i:TI} (hi:E.ti t=some i) {b off:Nat} {l:List AV} {vs:List Value} {v:AV}
  (hl:l.length=i.size) (hr:RelL R w l vs) (h1:∀ x∈vs,x.oneCell'=true) (hc:∀ j x,vs[j]?=some x→w.cell? ⟨b,off+j,none⟩=some x) (hm:mkOf i.agg l=some v) :
  ∃ c,(loadVar t ⟨b,off,none⟩).run E.P w=.ok c w∧Rel R w v c:=by
 obtain ⟨info,u,e1,e2,e3,e4,_⟩:=ti_info E hi
 obtain ⟨m1,m2⟩:=mkOf_rel hm hr h1
 unfold loadVar
 simp only [Sem.run_bind,run_isAgg w e2,Result.andThen_ok,e4]
 cases ha:i.agg with
 | true=>
  refine ⟨.agg ⟨vs⟩,?_,m1 ha⟩
  have hlen:info.size=vs.length:=by rw [e3,← hl,hr.length]
  have:=run_loadCells_list (P:=E.P) w ⟨b,off,none⟩ vs (fun j x hx=>by rw [addr_add]; exact hc j x hx)
  simp [run_sizeOf w e1,hlen,this]
 | false=>
  obtain ⟨c,rfl,hrel⟩:=m2 ha
  refine ⟨c,?_,hrel⟩
  have:=hc 0 c (by simp)
  simp only [Nat.add_zero] at this
  simp [run_load,this]
theorem cell_row {w:World} {b:Nat} {vs:List Value} {el:TypeId} {fr:Nat × Nat} (h:w.heap[b]?=some (.cells ⟨vs⟩ el fr)) (j:Nat):w.cell? ⟨b,j,none⟩=vs[j]?:=by
 simp [World.cell?,h]
theorem cellsAt_rel {E:Env} {R:Realm} {w:World} {β:Nat→Nat} {s:St} {a:Act} (h:Rep E R w β s a) {p:SV} {c:Value} (hp:RelS R w β p c) {cs:List AV} {off:Nat} (hc:cellsAt s p=some (cs,off)) :
  ∃ b o vs,c=.pointer (some ⟨b,o+off,none⟩)∧RelL R w cs vs∧(∀ x∈vs,x.oneCell'=true)∧∀ j x,vs[j]?=some x→w.cell? ⟨b,o+j,none⟩=some x:=by
 unfold cellsAt at hc
 split at hc
 ·rename_i k off'
  split at hc
  ·rename_i cs' hk
   cases hc
   obtain ⟨⟨vs,el,h1,h2,h3⟩,_⟩:=h.b.box k cs hk
   exact ⟨β k,0,vs,by rw [hp]; simp,h2,h3,fun j x hx=>by rw [cell_row h1]; simpa using hx⟩
  ·cases hc
 ·rename_i id off'
  split at hc
  ·rename_i cs' hk
   cases hc
   cases hp with
   | @ptr _ _ b hb=>
    obtain ⟨vs,h1,h2,h3,_⟩:=h.g.obj id _ _ hk hb
    exact ⟨b,0,vs,by simp,h2,h3,fun j x hx=>by rw [cell_row h1]; simpa using hx⟩
  ·cases hc
 ·rename_i cs'
  cases hc
  cases hp with
  | ep hr=>
   obtain ⟨vs,h1,h2,h3,_⟩:=hr.get
   exact ⟨_,_,vs,rfl,h1,h2,h3⟩
 ·cases hc
theorem seg_rel {R:Realm} {w:World} {off n:Nat} {cs l:List AV} {vs:List Value} (hs:seg off n cs=some l) (h:RelL R w cs vs) (h1:∀ x∈vs,x.oneCell'=true) :
  l.length=n∧RelL R w l ((vs.drop off).take n)∧(∀ x∈(vs.drop off).take n,x.oneCell'=true)∧∀ j x,((vs.drop off).take n)[j]?=some x→vs[off+j]?=some x:=by
 obtain ⟨e1,e2⟩:=seg_eq hs
 subst e1
 refine ⟨e2,(h.drop off).take n,fun x hx=>h1 x (List.mem_of_mem_drop (List.mem_of_mem_take hx)),fun j x hx=>?_⟩
 rw [List.getElem?_take] at hx
 split at hx
 ·rwa [List.getElem?_drop] at hx
 ·cases hx
def Done (E:Env) (R:Realm) (w:World) (β:Nat→Nat) (s:St) (a:Act) (o:Oper) (s':St):Prop:=
 ∃ nx x w' R' β',(execOp a.eval o).run E.P w=.ok nx w'∧(nx=.value x∨(nx=.skip∧x=undef))∧Rep E R' w' β' s' (a.put o.dst x)∧Step R w β s.boxes R' w' β' s'.boxes
section ops
variable {E:Env} {R:Realm} {w:World} {β:Nat→Nat} {s:St} {a:Act} {o:Oper}
@[simp] theorem boxes_put (s:St) (d:Option Tmp) (x:SV):(s.put d x).boxes=s.boxes:=by
 cases d with
 | none=>rfl
 | some d=>simp only [St.put]; split <;> rfl
theorem done_value (h:Rep E R w β s a) {c:Value} {sv:SV} (hx:(execOp a.eval o).run E.P w=.ok (.value c) w) (hr:RelS R w β sv c):Done E R w β s a o (s.put o.dst sv):=
 ⟨.value c,c,w,R,β,hx,.inl rfl,h.put o.dst hr,by rw [boxes_put]; exact Step.refl R w β s.boxes⟩
theorem bmerge_rel {t:Bool} {x y:AV} {c d:Value} (hx:Rel R w x c) (hy:Rel R w y d):Rel R w (bmerge t x y) (if t=true then c else d):=by
 unfold bmerge
 split
 ·cases hx; cases hy; cases t <;> exact .bool _
 ·cases hx; cases hy
  split
  ·rename_i e; subst e; cases t <;> exact .int _ _
  ·cases t <;> exact .int _ _
 ·cases t
  ·exact hy
  ·exact hx
theorem exec_move (h:Rep E R w β s a) (x:Operand) (ho:o.op=.move x∨o.op=.assign x) {y:SV} (hy:evO E s.slots x=y):Done E R w β s a o (s.put o.dst y):=by
 subst hy
 refine done_value h (c:=a.eval x) ?_ (evO_rel h x)
 rcases ho with ho | ho <;> simp [execOp,ho]
theorem exec_pick (h:Rep E R w β s a) (c x y:Operand) (ho:o.op=.pick c x y) {t:Bool} {p q:AV} (h1:evO E s.slots c=.v (.bool t)) (h2:evO E s.slots x=.v p) (h3:evO E s.slots y=.v q) :
  Done E R w β s a o (s.put o.dst (.v (bmerge t p q))):=by
 have r1:=evO_rel h c
 have r2:=evO_rel h x
 have r3:=evO_rel h y
 rw [h1] at r1; rw [h2] at r2; rw [h3] at r3
 refine done_value h (c:=if t=true then a.eval x else a.eval y) ?_ (bmerge_rel r2 r3)
 have r1':Rel R w (.bool t) (a.eval c):=r1
 generalize hcv:a.eval c=cc at r1'
 cases r1'
 simp [execOp,ho,asBool,hcv]
theorem exec_load (h:Rep E R w β s a) (t:TypeId) (x:Operand) (ho:o.op=.load t x) {v:AV} (hl:loadA E s t (evO E s.slots x)=some v) :
  Done E R w β s a o (s.put o.dst (.v v)):=by
 unfold loadA at hl
 split at hl
 ·rename_i i cs off hi hc
  split at hl
  ·rename_i l hs
   obtain ⟨b,o',vs,e,h1,h2,h3⟩:=cellsAt_rel h (evO_rel h x) hc
   obtain ⟨k1,k2,k3,k4⟩:=seg_rel hs h1 h2
   obtain ⟨c,hc,hrel⟩:=run_loadVar (E:=E) hi (b:=b) (off:=o'+off) k1 k2 k3 (fun j y hy=>by rw [Nat.add_assoc]; exact h3 _ _ (k4 j y hy)) hl
   refine done_value h (c:=c) ?_ hrel
   simp [execOp,ho,Instr.loadAt,e,Instr.sureAddr,hc]
  ·cases hl
 ·cases hl
theorem ext_setRow {b:Nat} (hI:∀ o,¬ R.I b o) (cs:Array Value):Ext R w R (w.setRow b cs):=
 ⟨fun _ _ h=>h,fun b' o h=>cell_of_block (setRow_other w b b' cs (fun e=>hI o (e ▸ h))) o,fun _ ro h=>⟨ro,h,RoLe.refl ro⟩,fun b' r hb=>⟨r,by
  by_cases e:b'=b
  ·subst e
   have hlt:b' < w.heap.size:=block_lt hb
   have hv:w.heap[b']=.loop r:=(Array.getElem?_eq_some_iff.1 hb).2
   unfold World.setRow
   rw [Array.getElem?_eq_getElem (by simpa using hlt),Array.getElem_modify]
   simp [hv]
  ·exact (setRow_other w b b' cs e).trans hb,rfl,rfl,rfl,rfl,rfl⟩⟩
theorem RelL.splice {cs ys:List AV} {vs us:List Value} {off:Nat} (h:RelL R w cs vs) (k:RelL R w ys us) (hl:off+ys.length≤cs.length) :
  RelL R w (splice cs off ys) (vs.take off++us++vs.drop (off+us.length)):=by
 rw [splice_eq cs off ys hl,← k.length]
 exact ((h.take off).append k).append (h.drop _)
theorem one_splice {vs us:List Value} {off n:Nat} (h:∀ x∈vs,x.oneCell'=true) (k:∀ x∈us,x.oneCell'=true):∀ x∈vs.take off++us++vs.drop n,x.oneCell'=true:=by
 intro x hx
 simp only [List.mem_append] at hx
 rcases hx with (hx | hx) | hx
 ·exact h x (List.mem_of_mem_take hx)
 ·exact k x hx
 ·exact h x (List.mem_of_mem_drop hx)
theorem run_storeVar {t:TypeId} {i:TI} (hi:E.ti t=some i) {b off:Nat} {vs:List Value} {el:TypeId} {c:Value} (hb:w.heap[b]?=some (.cells ⟨vs⟩ el (0,0)))
  (hs:c.cells.toList.length=i.size) (hl:off+c.cells.toList.length≤vs.length) (h1:∀ v∈c.cells.toList,v.oneCell'=true) :
  (storeVar t ⟨b,off,none⟩ c).run E.P w=.ok () (w.setRow b ⟨vs.take off++c.cells.toList++vs.drop (off+c.cells.toList.length)⟩):=by
 obtain ⟨info,u,e1,e2,e3,_⟩:=ti_info E hi
 have hst:=run_storeCells_at (P:=E.P) b off el c.cells.toList 0 ⟨vs⟩ w hb (by simpa using hl) h1
 have hne:c.cells.size=info.size:=by rw [e3,← hs]; simp
 simp only [Nat.add_zero] at hst
 unfold storeVar
 simp only [Sem.run_bind,run_sizeOf w e1,Result.andThen_ok,Sem.run_ite,hne,ne_eq,not_true_eq_false,if_false]
 simpa using hst
theorem Rep.ne_box (h:Rep E R w β s a) {id b k:Nat} {cs:List AV} (hb:nth R.obj id=some (.blk b)) (hk:lkB s.boxes k=some cs):β k≠b:=by
 intro e
 exact (h.b.box k cs hk).2.2 ⟨id,_,hb,by rw [e]; rfl⟩
theorem exec_store (h:Rep E R w β s a) (t:TypeId) (p x:Operand) (ho:o.op=.store t p x) (hd:o.dst=none) {s':St} (hs:storeA E s t (evO E s.slots p) (evO E s.slots x)=some s') :
  Done E R w β s a o s':=by
 unfold storeA at hs
 have rp:=evO_rel h p
 have rx:=evO_rel h x
 split at hs
 ·rename_i i v hi hx
  rw [hx] at rx
  split at hs
  ·rename_i hcond
   simp only [Bool.and_eq_true] at hcond
   obtain ⟨hnt,hlen⟩:=hcond
   have hlen:=Nat.eq_of_beq_eq_true hlen
   obtain ⟨c1,c2⟩:=Rel.cells rx hnt
   have hlv:v.cells.length=(a.eval x).cells.toList.length:=c1.length
   split at hs
   ·-- a local box
    rename_i k off hpe
    rw [hpe] at rp
    split at hs
    ·rename_i cs hk
     split at hs
     ·rename_i hle
      cases hs
      have hle:=Nat.le_of_ble_eq_true hle
      obtain ⟨⟨vs,el,b1,b2,b3⟩,b4,b5⟩:=h.b.box k cs hk
      have hrun:=run_storeVar (E:=E) (w:=w) hi (off:=off) (c:=a.eval x) b1 (by rw [← hlv]; exact hlen) (by rw [← hlv,← b2.length]; exact hle) c2
      have hex:=ext_setRow (R:=R) (w:=w) b4 ⟨vs.take off++(a.eval x).cells.toList++vs.drop (off+(a.eval x).cells.toList.length)⟩
      refine ⟨.skip,undef,w.setRow (β k) ⟨vs.take off++(a.eval x).cells.toList++vs.drop (off+(a.eval x).cells.toList.length)⟩,R,β,?_,.inr ⟨rfl,rfl⟩,?_,?_⟩
      ·simp [execOp,ho,Instr.storeAt,show a.eval p=.pointer (some ⟨β k,off,none⟩) from rp,Instr.sureAddr,hrun]
      ·rw [hd]
       refine ⟨?_,?_,h.t.mono hex,h.n,h.d⟩
       ·exact h.g.keep hex rfl (fun b hb=>setRow_other w _ b _ (fun e=>b5 (e ▸ hb))) (fun _ _ _ hi=>hi) (fun b o hi=>by have:=h.g.wf b o hi; simp; omega)
       ·refine ⟨fun k' cs' hk'=>?_,fun k1 k2 x1 x2 g1 g2=>?_⟩
        ·rcases lkB_cons hk' with ⟨rfl,e⟩ | ⟨hne,hk''⟩
         ·cases e
          exact ⟨⟨_,el,setRow_heap w _ _ _ el (0,0) b1,(b2.splice c1 hle).mono hex,one_splice b3 c2⟩,b4,b5⟩
         ·obtain ⟨⟨vs',el',d1,d2,d3⟩,d4,d5⟩:=h.b.box k' cs' hk''
          refine ⟨⟨vs',el',?_,d2.mono hex,d3⟩,d4,d5⟩
          rw [setRow_other]
          ·exact d1
          ·exact fun e=>hne (h.b.inj k' k cs' cs hk'' hk e).symm
        ·have q1:∃ y,lkB s.boxes k1=some y:=by
          rcases lkB_cons g1 with ⟨rfl,_⟩ | ⟨_,g⟩
          ·exact ⟨_,hk⟩
          ·exact ⟨_,g⟩
         have q2:∃ y,lkB s.boxes k2=some y:=by
          rcases lkB_cons g2 with ⟨rfl,_⟩ | ⟨_,g⟩
          ·exact ⟨_,hk⟩
          ·exact ⟨_,g⟩
         obtain ⟨y1,q1⟩:=q1
         obtain ⟨y2,q2⟩:=q2
         exact h.b.inj k1 k2 y1 y2 q1 q2
      ·have hown:Own R β s.boxes (β k):=.inr ⟨k,cs,hk,rfl⟩
       refine ⟨hex,rfl,rfl,rfl,by simp,fun b _ hn=>setRow_other w _ b _ (fun e=>hn (e ▸ hown)),fun b _ hb=>?_,fun b o hi _ _=>hi⟩
       rcases hb with hb | ⟨k',cs',hk',e⟩
       ·exact .inl hb
       ·rcases lkB_cons hk' with ⟨rfl,_⟩ | ⟨_,g⟩
        ·exact .inr ⟨k,cs,hk,e⟩
        ·exact .inr ⟨k',cs',g,e⟩
     ·cases hs
    ·cases hs
   ·-- an object
    rename_i id off hpe
    rw [hpe] at rp
    split at hs
    ·rename_i cs hk
     split at hs
     ·rename_i hle
      cases hs
      have hle:=Nat.le_of_ble_eq_true hle
      have rp':Rel R w (.ptr id off) (a.eval p):=rp
      generalize hpv:a.eval p=pv at rp'
      cases rp' with
      | @ptr _ _ b hb=>
      obtain ⟨vs,b1,b2,b3,b4⟩:=h.g.obj id _ _ hk hb
      have hrun:=run_storeVar (E:=E) (w:=w) hi (off:=off) (c:=a.eval x) b1 (by rw [← hlv]; exact hlen) (by rw [← hlv,← b2.length]; exact hle) c2
      have hex:=ext_setRow (R:=R) (w:=w) b4 ⟨vs.take off++(a.eval x).cells.toList++vs.drop (off+(a.eval x).cells.toList.length)⟩
      refine ⟨.skip,undef,w.setRow b ⟨vs.take off++(a.eval x).cells.toList++vs.drop (off+(a.eval x).cells.toList.length)⟩,R,β,?_,.inr ⟨rfl,rfl⟩,?_,?_⟩
      ·simp [execOp,ho,Instr.storeAt,hpv,Instr.sureAddr,hrun]
      ·rw [hd]
       refine ⟨⟨?_,fun id' go ro hg hr=>?_,h.g.inj,fun b' o' hi'=>by have:=h.g.wf b' o' hi'; simp; omega,fun g cs' hg=>(h.g.glob g cs' hg).mono hex,by first | exact h.g.lo | exact Nat.le_succ_of_le h.g.lo⟩,?_,h.t.mono hex,h.n,h.d⟩
       ·simp [St.inG,h.g.len]
       ·rcases nth_setN hg with ⟨rfl,rfl,_⟩ | ⟨hne,hg'⟩
        ·rw [hb] at hr
         cases hr
         exact ⟨_,setRow_heap w _ _ _ _ (0,0) b1,(b2.splice c1 hle).mono hex,one_splice b3 c2,b4⟩
        ·refine (h.g.obj id' go ro hg' hr).mono hex (fun b' hb'=>setRow_other w _ b' _ (fun e=>hne ?_)) (fun _ _ _ hi=>hi)
         subst e
         exact h.g.inj id id' _ _ b' hb hr rfl hb'
       ·exact h.b.keep hex (fun k cs' hk'=>setRow_other w _ _ _ (h.ne_box hb hk')) (fun _ _ _ _ hi=>hi) (fun _ _ _ hl=>hl)
      ·have hown:Own R β s.boxes b:=.inl ⟨id,_,hb,rfl⟩
       exact ⟨hex,rfl,rfl,rfl,by simp,fun b' _ hn=>setRow_other w _ b' _ (fun e=>hn (e ▸ hown)),fun _ _ hb=>hb,fun b o hi _ _=>hi⟩
     ·cases hs
    ·cases hs
   ·cases hs
  ·cases hs
 ·cases hs
end ops
end Go.Am
namespace Go.Am
open Go
section ops
variable {E:Env} {R:Realm} {w:World} {β:Nat→Nat} {s:St} {a:Act} {o:Oper}
def Realm.add (R:Realm) (ro:RO):Realm:=⟨R.I,R.obj++[ro]⟩
theorem ext_add (wf:∀ b o,R.I b o→b < w.heap.size) (x:Obj) (ro:RO):Ext R w (R.add ro) (w.alloc x):=
 ⟨fun _ _ h=>h,fun b o h=>cell_of_block (heap_alloc_old w x b (wf b o h)) o,fun _ r h=>⟨r,nth_append_old h,RoLe.refl r⟩,.old fun b hb=>heap_alloc_old w x b hb⟩
theorem live_add {ro:RO} {b:Nat} (h:Live (R.add ro) b):Live R b∨ro.has b:=by
 obtain ⟨id,r,h1,h2⟩:=h
 rcases nth_append_inv h1 with h1 | ⟨_,rfl⟩
 ·exact .inl ⟨id,r,h1,h2⟩
 ·exact .inr h2
theorem Rep.addObj (h:Rep E R w β s a) (x:Obj) (go:GO) (ro:RO) (hro:∀ b,ro.has b→b=w.heap.size) (hgo:RepO (R.add ro) (w.alloc x) go ro):Rep E (R.add ro) (w.alloc x) β (s.addG go) a where
 g:=by
  have e:=ext_add (R:=R) (w:=w) h.g.wf x ro
  refine ⟨by simp [St.addG,Realm.add,h.g.len],fun id g r h1 h2=>?_,fun i j ri rj b h1 h2 b1 b2=>?_,fun b o hi=>?_,fun g cs hg=>(h.g.glob g cs hg).mono e,by first | exact h.g.lo | exact Nat.le_succ_of_le h.g.lo⟩
  ·rcases nth_append_inv h2 with h2 | ⟨h3,rfl⟩
   ·have hlt:=nth_lt h2
    rw [h.g.len] at hlt
    rcases nth_append_inv h1 with h1 | ⟨h4,_⟩
    ·exact (h.g.obj id g r h1 h2).mono e (fun b hb=>heap_alloc_old w x b (h.g.live_lt ⟨id,r,h2,hb⟩)) (fun _ _ _ hi=>hi)
    ·omega
   ·rcases nth_append_inv h1 with h1 | ⟨h4,rfl⟩
    ·have:=nth_lt h1
     rw [h3,h.g.len] at this
     omega
    ·exact hgo
  ·rcases nth_append_inv h1 with g1 | ⟨h3,e1⟩
   ·rcases nth_append_inv h2 with g2 | ⟨h4,e2⟩
    ·exact h.g.inj i j ri rj b g1 g2 b1 b2
    ·have:=h.g.live_lt ⟨i,ri,g1,b1⟩
     rw [e2] at b2
     have:=hro b b2
     omega
   ·rcases nth_append_inv h2 with g2 | ⟨h4,e2⟩
    ·have:=h.g.live_lt ⟨j,rj,g2,b2⟩
     rw [e1] at b1
     have:=hro b b1
     omega
    ·omega
  ·have:=h.g.wf b o hi
   simp
   omega
 b:=h.b.keep (ext_add h.g.wf x ro) (fun k cs hk=>heap_alloc_old w x _ (h.own_lt (.inr ⟨k,cs,hk,rfl⟩))) (fun _ _ _ _ hi=>hi) (fun k cs hk hl=>by
  rcases live_add hl with hl | hl
  ·exact hl
  ·have:=h.own_lt (.inr ⟨k,cs,hk,rfl⟩)
   have hl:=hro _ hl
   omega)
 t:=h.t.mono (ext_add h.g.wf x ro)
 n:=h.n
 d:=h.d.mono (ext_add h.g.wf x ro)
theorem step_addObj (h:Rep E R w β s a) (x:Obj) (ro:RO) (hro:∀ b,ro.has b→b=w.heap.size):Step R w β s.boxes (R.add ro) (w.alloc x) β s.boxes:=
 ⟨ext_add h.g.wf x ro,rfl,rfl,rfl,by simp,fun b hb _=>heap_alloc_old w x b hb,fun b hb ho=>by
  rcases ho with ho | ho
  ·rcases live_add ho with ho | ho
   ·exact .inl ho
   ·have ho:=hro _ ho
    omega
  ·exact .inr ho,fun _ _ hi _ _=>hi⟩
theorem nth_new (h:Rep E R w β s a) (ro:RO):nth (R.add ro).obj s.G.length=some ro:=by
 rw [← h.g.len]
 exact nth_append_new _ _
theorem done_new {f:FuncId} (h:Rep E R w β s a) {v:AV} {c:Value} {t:TypeId} (hv:Rel R w v c) (hn:v.notTup=true)
  (hx:(execOp a.eval o).run E.P w=.ok (.value (.pointer (some ⟨w.heap.size,0,none⟩))) (w.alloc (.cells c.cells t))) {s':St} (ha:allocA E f s o.dst t v.cells=some (true,s')) :
  Done E R w β s a o s':=by
 obtain ⟨c1,c2⟩:=Rel.cells hv hn
 unfold allocA at ha
 split at ha
 ·cases ha
 ·rename_i d hd
  split at ha
  ·-- an object
   cases ha
   have hgo:RepO (R.add (.blk w.heap.size)) (w.alloc (.cells c.cells t)) (.row v.cells t) (.blk w.heap.size):=
    ⟨c.cells.toList,heap_alloc_new w _,c1.mono (ext_add h.g.wf _ _),c2,fun o' hi=>by have:=h.g.wf _ _ hi; omega⟩
   have hrep:=h.addObj (.cells c.cells t) (.row v.cells t) (.blk w.heap.size) (by exact fun _ h=>h) hgo
   refine ⟨_,.pointer (some ⟨w.heap.size,0,none⟩),_,R.add (.blk w.heap.size),β,hx,.inl rfl,?_,?_⟩
   ·rw [hd]
    exact hrep.put (some d) (x:=.v (.ptr s.G.length 0)) (Rel.ptr (nth_new h _))
   ·rw [boxes_put]
    exact step_addObj h _ _ (by exact fun _ h=>h)
  ·split at ha
   ·rename_i hbx
    injection ha with ha
    injection ha with _ hs'
    subst hs'
    have e:=ext_alloc (R:=R) (w:=w) h.g.wf (.cells c.cells t)
    let β':Nat→Nat:=fun k=>if k=d then w.heap.size else β k
    have hd':β' d=w.heap.size:=by simp [β']
    have hne:∀ k,k≠d→β' k=β k:=fun k hk=>by simp [β',hk]
    have hdn:d < a.tmps.size:=by rw [h.n]; exact Nat.le_of_ble_eq_true hbx
    have hput:((s.kill d).inB d v.cells).put (some d) (.lp d 0)=⟨.put d (.lp d 0) :: .kill d :: s.slots,(d,v.cells) :: s.boxes,s.G,s.marks,s.ro,s.n⟩:=by
     simp only [St.put,St.inB,St.kill,hbx]
    refine ⟨_,.pointer (some ⟨w.heap.size,0,none⟩),_,R,β',hx,.inl rfl,?_,?_⟩
    ·rw [hd,hput]
     refine ⟨?_,⟨fun k cs hk=>?_,fun k k' cs cs' hk hk' he=>?_⟩,?_,by simp [Act.put,h.n],h.d⟩
     ·exact h.g.keep e rfl (fun b hb=>heap_alloc_old w _ b (h.g.live_lt hb)) (fun _ _ _ hi=>hi) (fun b o hi=>by have:=h.g.wf b o hi; simp; omega)
     ·rcases lkB_cons hk with ⟨rfl,he⟩ | ⟨hkd,hk⟩
      ·cases he
       rw [hd']
       exact ⟨⟨c.cells.toList,t,heap_alloc_new w _,c1.mono e,c2⟩,fun o' hi=>by have:=h.g.wf _ _ hi; omega,fun hl=>by have:=h.g.live_lt hl; omega⟩
      ·rw [hne k (Ne.symm hkd)]
       obtain ⟨⟨vs,el,b1,b2,b3⟩,b4,b5⟩:=h.b.box k cs hk
       exact ⟨⟨vs,el,(heap_alloc_old w _ _ (block_lt b1)).trans b1,b2.mono e,b3⟩,b4,b5⟩
     ·rcases lkB_cons hk with ⟨rfl,_⟩ | ⟨hkd,hk⟩
      ·rcases lkB_cons hk' with ⟨rfl,_⟩ | ⟨hkd',hk'⟩
       ·rfl
       ·rw [hd',hne k' (Ne.symm hkd')] at he
        have:=h.own_lt (.inr ⟨k',cs',hk',rfl⟩)
        omega
      ·rcases lkB_cons hk' with ⟨rfl,_⟩ | ⟨hkd',hk'⟩
       ·rw [hd',hne k (Ne.symm hkd)] at he
        have:=h.own_lt (.inr ⟨k,cs,hk,rfl⟩)
        omega
       ·rw [hne k (Ne.symm hkd),hne k' (Ne.symm hkd')] at he
        exact h.b.inj k k' cs cs' hk hk' he
     ·intro i hi
      by_cases hdi:d=i
      ·subst hdi
       rw [lk_put_self]
       refine ⟨.pointer (some ⟨w.heap.size,0,none⟩),by simp [Act.put,hdn],?_⟩
       show Value.pointer _=_
       rw [hd']
      ·rw [lk_put_ne hdi] at hi ⊢
       rcases lk_kill (l:=s.slots) (d:=d) (t:=i) with ⟨h1,h2⟩ | h1
       ·rw [h1] at hi ⊢
        obtain ⟨c',q1,q2⟩:=h.t i hi
        refine ⟨c',?_,?_⟩
        ·simp only [Act.put]
         rw [Array.getElem?_setIfInBounds_ne hdi]
         exact q1
        ·cases hx':lk s.slots i with
         | none=>trivial
         | v y=>rw [hx'] at q2; exact Rel.mono e q2
         | lp k off=>
          rw [hx'] at q2
          show c'=_
          rw [hne k (h2 k off hx')]
          exact q2
       ·exact absurd h1 hi
    ·rw [hput]
     refine ⟨e,rfl,rfl,rfl,by simp,fun b hb _=>heap_alloc_old w _ b hb,fun b hb ho=>?_,fun _ _ hi _ _=>hi⟩
     rcases ho with ho | ⟨k,cs,hk,he⟩
     ·exact .inl ho
     ·rcases lkB_cons hk with ⟨rfl,_⟩ | ⟨hkd,hk⟩
      ·rw [hd'] at he
       omega
      ·rw [hne k (Ne.symm hkd)] at he
       exact .inr ⟨k,cs,hk,he⟩
   ·cases ha
theorem constOf_some {i:TypeInfo} {z:AV} (h:constOf i=some z):∃ c,i.zero=some c∧∀ R w,Rel R w z c:=by
 unfold constOf at h
 split at h
 ·rename_i c hc
  exact ⟨c,hc,fun R w=>ofConst_rel h⟩
 ·cases h
theorem exec_alloc {f:FuncId} (h:Rep E R w β s a) (t:TypeId) (ho:o.op=.alloc t) {i:TI} {z:AV} (hi:E.ti t=some i) (hz:i.zero=some z) (hn:z.notTup=true) {s':St} (ha:allocA E f s o.dst t z.cells=some (true,s')) :
  Done E R w β s a o s':=by
 obtain ⟨info,u,e1,e2,e3,e4,e5,e6⟩:=ti_info E hi
 rw [hz] at e6
 obtain ⟨c,hc,hr⟩:=constOf_some e6
 refine done_new h (hr R w) hn (t:=t) ?_ ha
 simp [execOp,ho,Instr.alloc,run_zeroValue w e1 hc,run_newVar]
theorem exec_box {f:FuncId} (h:Rep E R w β s a) (t:TypeId) (x:Operand) (ho:o.op=.box t x) {v:AV} (hv:evO E s.slots x=.v v) (hn:v.notTup=true) {s':St} (ha:allocA E f s o.dst t v.cells=some (true,s')) :
  Done E R w β s a o s':=by
 have hr:=evO_rel h x
 rw [hv] at hr
 refine done_new h hr hn (t:=t) ?_ ha
 simp [execOp,ho,Instr.box,run_newVar]
end ops
end Go.Am
namespace Go.Am
open Go
section types
variable {P:Program}
theorem fieldsOf_get:∀ {fs:List Field} {l:List (Nat × Nat × Bool)},fieldsOf P fs=some l→∀ {j o sz:Nat} {ag:Bool},nth l j=some (o,sz,ag) →
  ∃ f fi u,fs[j]?=some f∧f.offset=o∧P.info? f.type=some fi∧fi.size=sz∧P.underlying f.type=some u∧aggD u=ag
 | [],l,h,j,o,sz,ag,hn=>by simp [fieldsOf] at h; subst h; simp [nth] at hn
 | f :: fs,l,h,j,o,sz,ag,hn=>by
  unfold fieldsOf at h
  split at h
  ·rename_i i u r h1 h2 h3
   cases h
   cases j with
   | zero=>simp [nth] at hn; obtain ⟨e1,e2,e3⟩:=hn; exact ⟨f,i,u,by simp,e1,h1,e2,h2,e3⟩
   | succ j=>
    obtain ⟨f',fi,u',g1,g2⟩:=fieldsOf_get h3 (show nth r j=some (o,sz,ag) from hn)
    exact ⟨f',fi,u',by simpa using g1,g2⟩
  ·cases h
theorem fieldsOf_places:∀ {fs:List Field} {l:List (Nat × Nat × Bool)},fieldsOf P fs=some l→fs.mapM (fun f=>(P.info? f.type).map fun i=>(f.offset,i.size))=some (l.map fun x=>(x.1,x.2.1))
 | [],l,h=>by simp [fieldsOf] at h; subst h; simp
 | f :: fs,l,h=>by
  unfold fieldsOf at h
  split at h
  ·rename_i i u r h1 h2 h3
   cases h
   simp [List.mapM_cons,h1,fieldsOf_places h3]
  ·cases h
theorem tkOf_st {u:TypeDesc} {l:List (Nat × Nat × Bool)} (h:tkOf P u=some (.st l)):∃ fs,u=.struct fs∧fieldsOf P fs.toList=some l:=by
 cases u <;> simp only [tkOf] at h <;> try (cases h; done)
 all_goals (try (split at h <;> cases h; done))
 rename_i fs
 split at h
 ·rename_i l' hl
  cases h
  exact ⟨fs,rfl,hl⟩
 ·cases h
theorem tkOf_arr {u:TypeDesc} {n esz:Nat} {ag:Bool} (h:tkOf P u=some (.arr n esz ag)):∃ e i ue,u=.array n e∧P.info? e=some i∧i.size=esz∧P.underlying e=some ue∧aggD ue=ag:=by
 cases u <;> simp only [tkOf] at h <;> try (cases h; done)
 all_goals (try (split at h <;> cases h; done))
 rename_i m e
 split at h
 ·rename_i i ue h1 h2
  cases h
  exact ⟨e,i,ue,rfl,h1,rfl,h2,rfl⟩
 ·cases h
theorem tkOf_sl {u:TypeDesc} {e esz by_:Nat} {ag:Bool} {z:Option AV} (h:tkOf P u=some (.sl e esz ag by_ z)) :
  ∃ i ue,u=.slice e∧P.info? e=some i∧i.size=esz∧i.bytes=by_∧P.underlying e=some ue∧aggD ue=ag∧constOf i=z:=by
 cases u <;> simp only [tkOf] at h <;> try (cases h; done)
 all_goals (try (split at h <;> cases h; done))
 rename_i e'
 split at h
 ·rename_i i ue h1 h2
  injection h with h
  injection h with g1 g2 g3 g4 g5
  subst g1; subst g2; subst g3; subst g4; subst g5
  exact ⟨i,ue,rfl,h1,rfl,rfl,h2,rfl,rfl⟩
 ·cases h
theorem tkOf_str {u:TypeDesc} (h:tkOf P u=some .str):u=.string:=by
 cases u <;> simp only [tkOf] at h <;> try (cases h; done)
 all_goals (try (split at h <;> cases h; done))
 rfl
theorem tkOf_int {u:TypeDesc} {k:IntKind} (h:tkOf P u=some (.int k)):u=.int k:=by
 cases u <;> simp only [tkOf] at h <;> try (cases h; done)
 all_goals (try (split at h <;> cases h; done))
 cases h
 rfl
theorem tkOf_map {u:TypeDesc} {k e:TypeId} {z:Option AV} (h:tkOf P u=some (.map k e z)):u=.map k e∧∃ i,P.info? e=some i∧constOf i=z:=by
 cases u <;> simp only [tkOf] at h <;> try (cases h; done)
 all_goals (try (split at h <;> cases h; done))
 split at h
 ·rename_i i h1
  cases h
  exact ⟨rfl,i,h1,rfl⟩
 ·cases h
end types
section ops
variable {E:Env} {R:Realm} {w:World} {β:Nat→Nat} {s:St} {a:Act} {o:Oper}
theorem moveP_rel {p q:SV} {c:Value} {n:Nat} (hp:RelS R w β p c) (hm:moveP n p=some q) :
  ∃ b o,c=.pointer (some ⟨b,o,none⟩)∧RelS R w β q (.pointer (some ⟨b,o+n,none⟩)):=by
 unfold moveP at hm
 split at hm
 ·cases hm
  exact ⟨_,_,hp,rfl⟩
 ·cases hm
  cases hp with
  | @ptr _ _ b hb=>exact ⟨b,_,rfl,Rel.ptr hb⟩
 ·cases hm
  cases hp with
  | @ep _ b o hr=>
   refine ⟨b,o,rfl,Rel.ep ?_⟩
   rw [dropN_eq]
   exact hr.drop n
 ·cases hm
  cases hp with
  | @gp _ _ _ _ _ b o _ ro hr hok=>
   refine ⟨b,o,rfl,Rel.gp hr ?_⟩
   cases ro with
   | none=>trivial
   | nil0=>exact hok.elim
   | blk _=>exact hok.elim
   | fam _=>exact hok.elim
   | tok f1 b1 c1=>exact ⟨hok.1,fun e=>⟨(hok.2 e).1,by rw [(hok.2 e).2,Nat.add_assoc]⟩⟩
 ·cases hm
theorem exec_fieldAddr (h:Rep E R w β s a) (t:TypeId) (x:Operand) (j:Nat) (ho:o.op=.fieldAddr t x j) {q:SV} (hq:fieldAddrA E t (evO E s.slots x) j=some q) :
  Done E R w β s a o (s.put o.dst q):=by
 unfold fieldAddrA at hq
 split at hq
 ·rename_i i hi
  split at hq
  ·rename_i fs hk
   split at hq
   ·rename_i off sz ag hn
    split at hq
    ·rename_i hsz
     have hsz:=Nat.le_of_ble_eq_true hsz
     obtain ⟨info,u,e1,e2,e3,e4,e5,e6⟩:=ti_info E hi
     rw [hk] at e5
     obtain ⟨fl,rfl,hf⟩:=tkOf_st e5
     obtain ⟨f,fi,u',g1,g2,g3,g4,g5,g6⟩:=fieldsOf_get hf hn
     obtain ⟨b,o',m1,m2⟩:=moveP_rel (evO_rel h x) hq
     refine done_value h ?_ m2
     have g1':fl[j]?=some f:=by simpa using g1
     have hne:¬ fi.size=0:=by omega
     simp [execOp,ho,Instr.fieldAt,run_underlying e2,g1',m1,Instr.sureAddr,fieldPlace,run_sizeOf w g3,hne,addr_add,g2]
    ·cases hq
   ·cases hq
  ·cases hq
 ·cases hq
theorem relE_get {b o sz:Nat} {es:List AV} (h:RelE R w b o sz es) {n:Nat} {e:AV} (hn:nth es n=some e):RelC R w b (o+n * sz) e.cells∧e.cells.length=sz∧e.notTup=true:=by
 induction es generalizing o n with
 | nil=>simp [nth] at hn
 | cons x l ih=>
  cases h with
  | cons hl ht _ h t=>
   cases n with
   | zero=>simp [nth] at hn; subst hn; exact ⟨by simpa using h,hl,ht⟩
   | succ n=>
    have:=ih t (show nth l n=some e from hn)
    rw [show o+sz+n * sz=o+(n+1) * sz by rw [Nat.add_mul]; omega] at this
    exact this
theorem exec_indexAddr (h:Rep E R w β s a) (t:TypeId) (x ix:Operand) (ho:o.op=.indexAddr t x ix) {q:SV} (hq:indexAddrA E t (evO E s.slots x) (evO E s.slots ix)=some (true,q)) :
  Done E R w β s a o (s.put o.dst q):=by
 have rx:=evO_rel h x
 have ri:=evO_rel h ix
 unfold indexAddrA at hq
 split at hq
 ·rename_i i k n hi hix
  rw [hix] at ri
  have ri':Rel R w (.int k n) (a.eval ix):=ri
  generalize hiv:a.eval ix=iv at ri'
  cases ri'
  obtain ⟨info,u,e1,e2,e3,e4,e5,e6⟩:=ti_info E hi
  split at hq
  ·-- a list
   rename_i elem esz ag by_ z kk sz es hk hx
   rw [hx] at rx
   rw [hk] at e5
   obtain ⟨ie,ue,rfl,f1,f2,f3,f4,f5,f6⟩:=tkOf_sl e5
   split at hq
   ·rename_i hc
    have key:∀ (u:AV),(0≤n∧n < (es.length:Int))→WeakL (nthD es n.toNat).cells u.cells→Done E R w β s a o (s.put o.dst (.v (.ep u.cells))):=fun u hq1 hu=>by
     obtain ⟨hn0,hn1⟩:=hq1
     have rx':Rel R w (.list kk sz es) (a.eval x):=rx
     generalize hxv:a.eval x=xv at rx'
     cases rx' with
     | lnil=>simp at hn1; omega
     | lopn=>simp at hn1; omega
     | lemp=>simp at hn1; omega
     | lown=>simp at hn1; omega
     | lfam=>simp at hn1; omega
     | @list _ _ _ b o' len cap hr hl hcap hkk=>
      subst hl
      have hlt:n.toNat < es.length:=by omega
      obtain ⟨e,he⟩:∃ e,nth es n.toNat=some e:=⟨es[n.toNat],by rw [nth_eq]; exact List.getElem?_eq_getElem hlt⟩
      have hsz:sz=esz:=by
       simp only [Bool.or_eq_true] at hc
       rcases hc with hc | hc
       ·exact Nat.eq_of_beq_eq_true hc
       ·cases es with
        | nil=>simp at hlt
        | cons _ _=>simp at hc
      obtain ⟨g1,_,_⟩:=relE_get hr he
      refine done_value h (c:=.pointer (some ⟨b,o'+n.toNat * sz,none⟩)) ?_ ?_
      ·have hcond:0≤n∧n < (es.length:Int):=⟨hn0,hn1⟩
       simp [execOp,ho,Instr.indexAt,hiv,hxv,asIntOf,run_underlying e2,hcond,run_sizeOf w f1,f2,hsz,addr_add]
      ·have:nthD es n.toNat=e:=by simp [nthD,he]
       rw [this] at hu
       exact .ep (hu.relC g1)
    split at hq
    ·rename_i p hp
     injection hq with hq
     injection hq with hq1 hq2
     subst hq2
     rw [Bool.and_eq_true] at hq1
     have hcond:=of_decide_eq_true hq1.1
     have hd:=p.fits_ok hq1.2
     have hlt:n.toNat < es.length:=by omega
     refine key _ hcond (hd.cells ?_)
     obtain ⟨e,he⟩:∃ e,nth es n.toNat=some e:=⟨es[n.toNat],by rw [nth_eq]; exact List.getElem?_eq_getElem hlt⟩
     have:nthD es n.toNat=e:=by simp [nthD,he]
     rw [this]
     have rx':Rel R w (.list kk sz es) (a.eval x):=rx
     generalize a.eval x=xv at rx'
     cases rx' with
     | lnil=>simp at hlt
     | lopn=>simp at hlt
     | lemp=>simp at hlt
     | lown=>simp at hlt
     | lfam=>simp at hlt
     | list hr _ _ _=>exact (relE_get hr he).2.2
    ·injection hq with hq
     injection hq with hq1 hq2
     subst hq2
     exact key _ (of_decide_eq_true hq1) (WeakL.refl _)
   ·cases hq
  ·-- a heap slice
   rename_i elem esz ag by_ z id off sz len cap hk hx
   rw [hx] at rx
   rw [hk] at e5
   obtain ⟨ie,ue,rfl,f1,f2,f3,f4,f5,f6⟩:=tkOf_sl e5
   split at hq
   ·rename_i hc
    have hsz:=Nat.eq_of_beq_eq_true hc
    injection hq with hq
    injection hq with hq1 hq2
    subst hq2
    have hcond:=of_decide_eq_true hq1
    have rx':Rel R w (.msl id off sz len cap) (a.eval x):=rx
    generalize hxv:a.eval x=xv at rx'
    cases rx' with
    | @msl _ _ _ _ _ b hb _=>
     refine done_value h (c:=.pointer (some ⟨b,off+n.toNat * sz,none⟩)) ?_ (Rel.ptr hb)
     simp [execOp,ho,Instr.indexAt,hiv,hxv,asIntOf,run_underlying e2,hcond,run_sizeOf w f1,f2,hsz,addr_add]
   ·cases hq
  ·-- a slice that grows
   rename_i elem esz ag by_ z id f' off sz len hk hx
   rw [hx] at rx
   rw [hk] at e5
   obtain ⟨ie,ue,rfl,f1,f2,f3,f4,f5,f6⟩:=tkOf_sl e5
   split at hq
   ·rename_i hc
    have hsz:=Nat.eq_of_beq_eq_true hc
    injection hq with hq
    injection hq with hq1 hq2
    subst hq2
    have hcond:=of_decide_eq_true hq1
    have rx':Rel R w (.gsl id f' off sz len) (a.eval x):=rx
    generalize hxv:a.eval x=xv at rx'
    cases rx' with
    | gnil _ _=>omega
    | @gsl _ _ _ _ _ cap b o' ro hro hok hcap=>
     refine done_value h (c:=.pointer (some ⟨b,o'+n.toNat * sz,none⟩)) ?_ (Rel.gp hro ?_)
     ·simp [execOp,ho,Instr.indexAt,hiv,hxv,asIntOf,run_underlying e2,hcond,run_sizeOf w f1,f2,hsz,addr_add]
     ·cases ro with
      | none=>trivial
      | nil0=>exact hok.elim
      | blk _=>exact hok.elim
      | fam _=>exact hok.elim
      | tok f1 b1 c1=>
       refine ⟨hok.1,fun e=>?_⟩
       obtain ⟨k1,k2,k3⟩:=hok.2 e
       refine ⟨k1,?_⟩
       rcases k3 with k3 | k3
       ·rw [k3,Nat.add_zero,Nat.add_mul]
       ·omega
   ·cases hq
  ·-- an array that is never written
   rename_i len esz ag cs hk hx
   rw [hx] at rx
   rw [hk] at e5
   obtain ⟨e,ie,ue,rfl,f1,f2,f3,f4⟩:=tkOf_arr e5
   have rx':Rel R w (.ep cs) (a.eval x):=rx
   generalize hxv:a.eval x=xv at rx'
   cases rx' with
   | @ep _ b o' hr=>
    split at hq
    ·rename_i p hp
     split at hq
     ·rename_i hc
      rw [Bool.and_eq_true] at hc
      have hz:=Nat.eq_of_beq_eq_true hc.1
      have hl:=Nat.le_of_ble_eq_true hc.2
      injection hq with hq
      injection hq with hq1 hq2
      subst hq2
      rw [Bool.and_eq_true] at hq1
      have hcond:=of_decide_eq_true hq1.1
      have hd:=p.fits_ok hq1.2
      have hlt:n.toNat < cs.length:=by omega
      have hdr:=hr.drop n.toNat
      rw [List.drop_eq_getElem_cons hlt] at hdr
      have hn:nthD cs n.toNat=cs[n.toNat]:=by
       unfold nthD
       rw [nth_eq,List.getElem?_eq_getElem hlt]
      rw [hn] at hd ⊢
      refine done_value h (c:=.pointer (some ⟨b,o'+n.toNat * esz,none⟩)) ?_ ?_
      ·simp [execOp,ho,Instr.indexAt,hiv,hxv,Instr.sureAddr,asIntOf,run_underlying e2,hcond,run_sizeOf w f1,f2,addr_add]
      ·subst hz
       rw [Nat.mul_one]
       cases hdr with
       | cons hc h1 hi hrel t=>exact .ep (.cons hc h1 hi (hd.1 _ _ _ hrel) .nil)
     ·cases hq
    ·injection hq with hq
     injection hq with hq1 hq2
     subst hq2
     have hcond:=of_decide_eq_true hq1
     refine done_value h (c:=.pointer (some ⟨b,o'+n.toNat * esz,none⟩)) ?_ ?_
     ·simp [execOp,ho,Instr.indexAt,hiv,hxv,Instr.sureAddr,asIntOf,run_underlying e2,hcond,run_sizeOf w f1,f2,addr_add]
     ·rw [dropN_eq]
      exact .ep (hr.drop _)
  ·-- an array
   rename_i len esz ag hk _
   rw [hk] at e5
   obtain ⟨e,ie,ue,rfl,f1,f2,f3,f4⟩:=tkOf_arr e5
   split at hq
   ·rename_i q' hm
    injection hq with hq
    injection hq with hq1 hq2
    subst hq2
    have hcond:=of_decide_eq_true hq1
    obtain ⟨b,o',m1,m2⟩:=moveP_rel rx hm
    refine done_value h ?_ m2
    simp [execOp,ho,Instr.indexAt,hiv,m1,Instr.sureAddr,asIntOf,run_underlying e2,hcond,run_sizeOf w f1,f2,addr_add]
   ·cases hq
  ·cases hq
 ·cases hq
theorem run_part {t:TypeId} {i:TypeInfo} {u:TypeDesc} (h1:E.P.info? t=some i) (h2:E.P.underlying t=some u) {off:Nat} {cs l:List AV} {vs:List Value} {v:AV} (hr:RelL R w cs vs) (h3:∀ x∈vs,x.oneCell'=true)
  (hag:aggD u=true→seg off i.size cs=some l∧mkOf true l=some v) (hsc:aggD u=false→seg off 1 cs=some l∧mkOf false l=some v) :
  ∃ c,(part t ⟨vs⟩ off).run E.P w=.ok c w∧Rel R w v c:=by
 unfold part
 simp only [Sem.run_bind,run_isAgg w h2,Result.andThen_ok]
 cases ha:aggD u with
 | true=>
  obtain ⟨g1,g2⟩:=hag ha
  obtain ⟨k1,k2,k3,k4⟩:=seg_rel g1 hr h3
  obtain ⟨m1,_⟩:=mkOf_rel g2 k2 k3
  refine ⟨_,?_,m1 rfl⟩
  have:(⟨vs⟩:Array Value).extract off (off+i.size)=⟨(vs.drop off).take i.size⟩:=by
   apply Array.ext'
   simp [List.extract_eq_take_drop]
  simp [run_sizeOf w h1]
 | false=>
  obtain ⟨g1,g2⟩:=hsc ha
  obtain ⟨k1,k2,k3,k4⟩:=seg_rel g1 hr h3
  obtain ⟨_,m2⟩:=mkOf_rel g2 k2 k3
  obtain ⟨c,hc,hrel⟩:=m2 rfl
  refine ⟨c,?_,hrel⟩
  have h0:=k4 0 c (by rw [hc]; simp)
  simp only [Nat.add_zero] at h0
  simp [h0]
theorem exec_field (h:Rep E R w β s a) (t:TypeId) (x:Operand) (j:Nat) (ho:o.op=.field t x j) {v:AV} (hq:fieldA E t (evO E s.slots x) j=some v) :
  Done E R w β s a o (s.put o.dst (.v v)):=by
 have rx:=evO_rel h x
 unfold fieldA at hq
 split at hq
 ·rename_i i cs hi hx
  rw [hx] at rx
  have rx':Rel R w (.agg cs) (a.eval x):=rx
  generalize hxv:a.eval x=xv at rx'
  cases rx' with
  | @agg _ vs hr h1=>
  split at hq
  ·rename_i fs hk
   split at hq
   ·rename_i off sz ag hn
    obtain ⟨info,u,e1,e2,e3,e4,e5,e6⟩:=ti_info E hi
    rw [hk] at e5
    obtain ⟨fl,rfl,hf⟩:=tkOf_st e5
    obtain ⟨f,fi,u',g1,g2,g3,g4,g5,g6⟩:=fieldsOf_get hf hn
    have key:∃ c,(part f.type ⟨vs⟩ off).run E.P w=.ok c w∧Rel R w v c:=by
     split at hq
     ·rename_i hag
      split at hq
      ·rename_i l hl
       exact run_part g3 g5 (l:=l) hr h1 (fun _=>⟨by rw [g4]; exact hl,hq⟩) (fun hf=>by rw [g6,hag] at hf; cases hf)
      ·cases hq
     ·rename_i hag
      split at hq
      ·rename_i l hl
       exact run_part g3 g5 (l:=l) hr h1 (fun hf=>by rw [g6] at hf; exact absurd hf hag) (fun _=>⟨hl,hq⟩)
      ·cases hq
    obtain ⟨c,k1,k2⟩:=key
    refine done_value h ?_ k2
    have g1':fl[j]?=some f:=by simpa using g1
    simp [execOp,ho,Instr.field,run_underlying e2,g1',hxv,asAgg,g2,k1]
   ·cases hq
  ·cases hq
 ·cases hq
theorem exec_index (h:Rep E R w β s a) (t:TypeId) (x ix:Operand) (ho:o.op=.index t x ix) {v:AV} (hq:indexA E t (evO E s.slots x) (evO E s.slots ix)=some (true,v)) :
  Done E R w β s a o (s.put o.dst (.v v)):=by
 have rx:=evO_rel h x
 have ri:=evO_rel h ix
 unfold indexA at hq
 split at hq
 ·rename_i i l k n hi hx hix
  rw [hx] at rx
  rw [hix] at ri
  have ri':Rel R w (.int k n) (a.eval ix):=ri
  have rx':Rel R w (.str l) (a.eval x):=rx
  generalize hiv:a.eval ix=iv at ri'
  generalize hxv:a.eval x=xv at rx'
  cases ri'
  cases rx'
  obtain ⟨info,u,e1,e2,e3,e4,e5,e6⟩:=ti_info E hi
  split at hq
  ·rename_i hk
   rw [hk] at e5
   have:=tkOf_str e5
   subst this
   injection hq with hq
   injection hq with hq1 hq2
   subst hq2
   obtain ⟨hn0,hn1⟩:=of_decide_eq_true hq1
   have hlt:n.toNat < l.length:=by omega
   refine done_value h (c:=.int .u8 (l.getD n.toNat 0).toNat) ?_ (Rel.int _ _)
   have hget:(⟨⟨l⟩⟩:ByteArray)[n.toNat]?=some (l.getD n.toNat 0):=by
    have hs:n.toNat < (⟨⟨l⟩⟩:ByteArray).size:=hlt
    rw [getElem?_pos (⟨⟨l⟩⟩:ByteArray) n.toNat hs]
    congr 1
    simp [List.getD,List.getElem?_eq_getElem hlt]
    rfl
   simp [execOp,ho,Instr.index,hiv,hxv,asIntOf,run_underlying e2,hn0,hget]
  ·cases hq
 ·rename_i i cs k n hi hx hix
  rw [hx] at rx
  rw [hix] at ri
  have ri':Rel R w (.int k n) (a.eval ix):=ri
  have rx':Rel R w (.agg cs) (a.eval x):=rx
  generalize hiv:a.eval ix=iv at ri'
  generalize hxv:a.eval x=xv at rx'
  cases ri'
  cases rx' with
  | @agg _ vs hr h1=>
  obtain ⟨info,u,e1,e2,e3,e4,e5,e6⟩:=ti_info E hi
  split at hq
  ·rename_i len esz ag hk
   rw [hk] at e5
   obtain ⟨e,ie,ue,rfl,f1,f2,f3,f4⟩:=tkOf_arr e5
   split at hq
   ·rename_i v' hv'
    injection hq with hq
    injection hq with hq1 hq2
    subst hq2
    have hcond:=of_decide_eq_true hq1
    have key:∃ c,(part e ⟨vs⟩ (n.toNat * esz)).run E.P w=.ok c w∧Rel R w v' c:=by
     split at hv'
     ·rename_i hag
      split at hv'
      ·rename_i l hl
       exact run_part f1 f3 (l:=l) hr h1 (fun _=>⟨by rw [f2]; exact hl,hv'⟩) (fun hf=>by rw [f4,hag] at hf; cases hf)
      ·cases hv'
     ·rename_i hag
      split at hv'
      ·rename_i l hl
       exact run_part f1 f3 (l:=l) hr h1 (fun hf=>by rw [f4] at hf; exact absurd hf hag) (fun _=>⟨hl,hv'⟩)
      ·cases hv'
    obtain ⟨c,k1,k2⟩:=key
    refine done_value h ?_ k2
    simp [execOp,ho,Instr.index,hiv,hxv,asIntOf,run_underlying e2,hcond,run_sizeOf w f1,f2,k1]
   ·cases hq
  ·cases hq
 ·cases hq
theorem exec_extract (h:Rep E R w β s a) (x:Operand) (j:Nat) (ho:o.op=.extract x j) {vs:List AV} {v:AV} (hx:evO E s.slots x=.v (.tup vs)) (hn:nth vs j=some v) :
  Done E R w β s a o (s.put o.dst (.v v)):=by
 have rx:=evO_rel h x
 rw [hx] at rx
 have rx':Rel R w (.tup vs) (a.eval x):=rx
 generalize hxv:a.eval x=xv at rx'
 cases rx' with
 | @tup _ us hr=>
 rw [nth_eq] at hn
 obtain ⟨c,h1,h2⟩:=hr.get hn
 refine done_value h ?_ h2
 simp [execOp,ho,Instr.extract,hxv,h1]
theorem evL_rel (h:Rep E R w β s a):∀ {l:List Operand} {vs:List AV},evL E s.slots l=some vs→RelL R w vs (l.map a.eval)
 | [],vs,hl=>by simp [evL] at hl; subst hl; exact .nil
 | x :: l,vs,hl=>by
  unfold evL at hl
  split at hl
  ·rename_i v r h1 h2
   cases hl
   have:=evO_rel h x
   rw [h1] at this
   exact .cons this (evL_rel h h2)
  ·cases hl
theorem exec_makeFunc (h:Rep E R w β s a) (g:FuncId) (x y:Array Operand) (ho:o.op=.makeFunc (.func g) x y) {p q:List AV} (hp:evL E s.slots x.toList=some p) (hq:evL E s.slots y.toList=some q) :
  Done E R w β s a o (s.put o.dst (.v (.fn g p q))):=by
 have h1:=evL_rel h hp
 have h2:=evL_rel h hq
 refine done_value h (c:=.func (.func g) ⟨x.toList.map a.eval⟩ ⟨y.toList.map a.eval⟩) ?_ (Rel.fn h1 h2)
 have e1:x.map a.eval=⟨x.toList.map a.eval⟩:=Array.ext' (by simp)
 have e2:y.map a.eval=⟨y.toList.map a.eval⟩:=Array.ext' (by simp)
 simp [execOp,ho,Instr.makeFunc,e1,e2]
end ops
end Go.Am
namespace Go.Am
open Go
section ops
variable {E:Env} {R:Realm} {w:World} {β:Nat→Nat} {s:St} {a:Act} {o:Oper}
theorem size_bytes (l:List UInt8):(⟨⟨l⟩⟩:ByteArray).size=l.length:=rfl
theorem toList_bytes (l:List UInt8):(⟨⟨l⟩⟩:ByteArray).toList=l:=by rw [ByteArray.toList_eq]
theorem append_bytes (l r:List UInt8):((⟨⟨l⟩⟩:ByteArray)++⟨⟨r⟩⟩)=⟨⟨l++r⟩⟩:=by
 apply ByteArray.ext
 rw [ByteArray.data_append]
 simp
theorem guard_int (op:BinOp) (t:TypeId) (x y:Operand) (k k':IntKind) (n m:Int):(eqGuard op t x y (.int k n) (.int k' m)).run E.P w=.ok () w:=by
 unfold eqGuard
 cases op <;> rfl
theorem guard_str (op:BinOp) (t:TypeId) (x y:Operand) (n m:ByteArray):(eqGuard op t x y (.string n) (.string m)).run E.P w=.ok () w:=by
 unfold eqGuard
 cases op <;> rfl
theorem exec_binOp (h:Rep E R w β s a) (op:BinOp) (t u:TypeId) (x y:Operand) (ho:o.op=.binOp op t x y u) {p q v:AV} (hx:evO E s.slots x=.v p) (hy:evO E s.slots y=.v q) (hv:abin op p q=some (true,v)) :
  Done E R w β s a o (s.put o.dst (.v v)):=by
 have rx:=evO_rel h x
 have ry:=evO_rel h y
 rw [hx] at rx
 rw [hy] at ry
 have rx':Rel R w p (a.eval x):=rx
 have ry':Rel R w q (a.eval y):=ry
 have key:∃ c,(do eqGuard op t x y (a.eval x) (a.eval y); binOp op t (a.eval x) (a.eval y):Sem Value).run E.P w=.ok c w∧Rel R w v c:=by
  generalize hxv:a.eval x=xv at rx'
  generalize hyv:a.eval y=yv at ry'
  unfold abin at hv
  split at hv
  ·rename_i k n k' m
   cases rx'
   cases ry'
   simp only [Sem.run_bind,guard_int,Result.andThen_ok]
   split at hv
   ·injection hv with hv
    injection hv with h1 h2
    subst h2
    have hm:=of_decide_eq_true h1
    have hm':¬ m < 0:=by omega
    exact ⟨.int k (k.wrap (n * 2 ^ (min m.toNat k.bits))),by simp [binOp,Op.shift,hm'],.int _ _⟩
   ·injection hv with hv
    injection hv with h1 h2
    subst h2
    have hm:=of_decide_eq_true h1
    have hm':¬ m < 0:=by omega
    exact ⟨.int k (n.fdiv (2 ^ (min m.toNat k.bits))),by simp [binOp,Op.shift,hm'],.int _ _⟩
   ·rename_i hs1 hs2
    split at hv
    ·rename_i hkk
     subst hkk
     split at hv
     ·cases hv; exact ⟨.int k (k.wrap (n+m)),by simp [binOp,Op.intArith],.int _ _⟩
     ·cases hv; exact ⟨.int k (k.wrap (n - m)),by simp [binOp,Op.intArith],.int _ _⟩
     ·cases hv; exact ⟨.int k (k.wrap (n * m)),by simp [binOp,Op.intArith],.int _ _⟩
     ·injection hv with hv
      injection hv with h1 h2
      subst h2
      have hm:¬ m=0:=by simpa using h1
      exact ⟨.int k (k.wrap (n.tdiv m)),by simp [binOp,Op.intDiv,hm],.int _ _⟩
     ·injection hv with hv
      injection hv with h1 h2
      subst h2
      have hm:¬ m=0:=by simpa using h1
      exact ⟨.int k (n.tmod m),by simp [binOp,Op.intDiv,hm],.int _ _⟩
     ·cases hv; exact ⟨.int k (andI k n m),by simp [binOp,Op.intBits,andI],.int _ _⟩
     ·cases hv; exact ⟨.int k (orI k n m),by simp [binOp,Op.intBits,orI],.int _ _⟩
     ·cases hv; exact ⟨.int k (xorI k n m),by simp [binOp,Op.intBits,xorI],.int _ _⟩
     ·cases hv; exact ⟨.bool (n == m),by simp [binOp,Op.intCmp],.bool _⟩
     ·cases hv; exact ⟨.bool (n != m),by simp [binOp,Op.intCmp],.bool _⟩
     ·cases hv; exact ⟨.bool (decide (n < m)),by simp [binOp,Op.intCmp],.bool _⟩
     ·cases hv; exact ⟨.bool (decide (n≤m)),by simp [binOp,Op.intCmp],.bool _⟩
     ·cases hv; exact ⟨.bool (decide (n > m)),by simp [binOp,Op.intCmp],.bool _⟩
     ·cases hv; exact ⟨.bool (decide (n≥m)),by simp [binOp,Op.intCmp],.bool _⟩
     ·cases hv
    ·cases hv
  ·rename_i l r
   cases rx'
   cases ry'
   simp only [Sem.run_bind,guard_str,Result.andThen_ok]
   split at hv
   ·injection hv with hv
    injection hv with h1 h2
    subst h2
    have hm:=of_decide_eq_true h1
    refine ⟨.string ⟨⟨l++r⟩⟩,?_,.str _⟩
    have hnot:¬ ((l.length+r.length:Nat):Int) > IntKind.i64.max:=by
     have:IntKind.i64.max=9223372036854775807:=by decide
     omega
    simp only [binOp,Op.stringOp,size_bytes,if_neg hnot,append_bytes,Sem.run_pure]
   ·cases hv; exact ⟨.bool (l == r),by simp [binOp,Op.stringOp],.bool _⟩
   ·cases hv; exact ⟨.bool (!(l == r)),by simp [binOp,Op.stringOp],.bool _⟩
   ·cases hv; exact ⟨.bool (Op.bytesLess l r),by simp [binOp,Op.stringOp],.bool _⟩
   ·cases hv; exact ⟨.bool (Op.bytesLess l r || l == r),by simp [binOp,Op.stringOp],.bool _⟩
   ·cases hv; exact ⟨.bool (!(Op.bytesLess l r || l == r)),by simp [binOp,Op.stringOp],.bool _⟩
   ·cases hv; exact ⟨.bool (!(Op.bytesLess l r)),by simp [binOp,Op.stringOp],.bool _⟩
   ·cases hv
  ·cases hv
 obtain ⟨c,k1,k2⟩:=key
 refine done_value h (c:=c) ?_ k2
 simp only [Sem.run_bind] at k1
 simp only [execOp,ho,Sem.run_bind,k1,Result.andThen_ok,Sem.run_pure]
theorem partA_run {t:TypeId} {i:TypeInfo} {u:TypeDesc} (h1:E.P.info? t=some i) (h2:E.P.underlying t=some u) {off:Nat} {cs:List AV} {vs:List Value} {v:AV} (hr:RelL R w cs vs) (h3:∀ x∈vs,x.oneCell'=true)
  (h:partA (aggD u) off i.size cs=some v):∃ c,(part t ⟨vs⟩ off).run E.P w=.ok c w∧Rel R w v c:=by
 unfold partA at h
 cases ha:aggD u with
 | true=>
  rw [ha] at h
  simp only [if_true] at h
  split at h
  ·rename_i l hl
   exact run_part h1 h2 hr h3 (fun _=>⟨hl,h⟩) (fun e=>by rw [ha] at e; cases e)
  ·cases h
 | false=>
  rw [ha] at h
  simp only [Bool.false_eq_true,if_false] at h
  split at h
  ·rename_i l hl
   exact run_part h1 h2 hr h3 (fun e=>by rw [ha] at e; cases e) (fun _=>⟨hl,h⟩)
  ·cases h
theorem eqFs_run {ek:TypeId→EK} {d:Nat} (ih:∀ (t:TypeId) (a b:AV) (r:Bool) (x y:Value),eqA (ek t) a b=some r→Rel R w a x→Rel R w b y→(Op.equalIn d t x y).run E.P w=.ok r w) {xs ys:List AV} {vs us:List Value}
  (hx:RelL R w xs vs) (hx1:∀ x∈vs,x.oneCell'=true) (hy:RelL R w ys us) (hy1:∀ x∈us,x.oneCell'=true) :
  ∀ (fs:List Field) (l:EKs) (r:Bool),ekFs E.P ek fs=some l→eqFs l xs ys=some r→(Op.eqFields d ⟨vs⟩ ⟨us⟩ fs).run E.P w=.ok r w
 | [],l,r,hl,hr=>by
  simp [ekFs] at hl
  subst hl
  simp [eqFs] at hr
  subst hr
  rfl
 | f :: fs,l,r,hl,hr=>by
  unfold ekFs at hl
  split at hl
  ·cases hl
  ·rename_i hn
   split at hl
   ·rename_i i u l' h1 h2 h3
    cases hl
    unfold eqFs at hr
    split at hr
    ·rename_i a b ha hb
     split at hr
     ·rename_i p q hp hq
      cases hr
      obtain ⟨c,k1,k2⟩:=partA_run h1 h2 hx hx1 ha
      obtain ⟨c',k3,k4⟩:=partA_run h1 h2 hy hy1 hb
      have hne : f.name ≠ "_" := by simpa using hn
      have he:=ih f.type a b p c c' hp k2 k4
      have hrest:=eqFs_run ih hx hx1 hy hy1 fs l' q h3 hq
      simp only [Op.eqFields,hne,ne_eq,not_false_eq_true,if_true,Sem.run_bind,k1,k3,he,Result.andThen_ok]
      cases p with
      | true=>simp [hrest]
      | false=>simp
     ·cases hr
    ·cases hr
   ·cases hl
theorem eqArr_run {ek:EK} {d:Nat} {e:TypeId} {i:TypeInfo} {u:TypeDesc} (h1:E.P.info? e=some i) (h2:E.P.underlying e=some u) (ih:∀ (a b:AV) (r:Bool) (x y:Value),eqA ek a b=some r→Rel R w a x→Rel R w b y→(Op.equalIn d e x y).run E.P w=.ok r w) {xs ys:List AV} {vs us:List Value}
  (hx:RelL R w xs vs) (hx1:∀ x∈vs,x.oneCell'=true) (hy:RelL R w ys us) (hy1:∀ x∈us,x.oneCell'=true) :
  ∀ (m k:Nat) (r:Bool),eqFs (ekArr i.size (aggD u) ek m k) xs ys=some r→(Op.eqItems d e i.size ⟨vs⟩ ⟨us⟩ (List.range' k m)).run E.P w=.ok r w
 | 0,k,r,hr=>by
  simp [ekArr,eqFs] at hr
  subst hr
  rfl
 | m+1,k,r,hr=>by
  unfold ekArr eqFs at hr
  split at hr
  ·rename_i a b ha hb
   split at hr
   ·rename_i p q hp hq
    cases hr
    obtain ⟨c,k1,k2⟩:=partA_run h1 h2 hx hx1 ha
    obtain ⟨c',k3,k4⟩:=partA_run h1 h2 hy hy1 hb
    have he:=ih a b p c c' hp k2 k4
    have hrest:=eqArr_run h1 h2 ih hx hx1 hy hy1 m (k+1) q hq
    simp only [List.range'_succ,Op.eqItems,Sem.run_bind,k1,k3,he,Result.andThen_ok]
    cases p with
    | true=>simpa using hrest
    | false=>simp
   ·cases hr
  ·cases hr
theorem eqA_run:∀ (n d:Nat),n≤d→∀ (t:TypeId) (a b:AV) (r:Bool) (x y:Value),eqA (ekOf E.P n t) a b=some r→Rel R w a x→Rel R w b y→(Op.equalIn d t x y).run E.P w=.ok r w
 | 0,_,_,t,a,b,r,x,y,h,_,_=>by simp [ekOf,eqA] at h
 | n+1,0,hd,_,_,_,_,_,_,_,_,_=>by omega
 | n+1,d+1,hd,t,a,b,r,x,y,h,hx,hy=>by
  unfold ekOf at h
  split at h
  ·rename_i hu
   unfold eqA at h
   split at h
   all_goals (try contradiction)
   cases hx; cases hy; cases h
   exact run_equalIn_bool' w d t _ _ hu
  ·rename_i k hu
   unfold eqA at h
   split at h
   all_goals (try contradiction)
   split at h
   ·rename_i hk
    subst hk
    cases hx; cases hy; cases h
    exact run_equalIn_int w d t _ k _ _ hu
   ·cases h
  ·rename_i hu
   unfold eqA at h
   split at h
   all_goals (try contradiction)
   cases hx; cases hy; cases h
   rw [run_equalIn_string w d t _ _ hu,toList_bytes,toList_bytes]
  ·rename_i fs hu
   split at h
   ·simp [eqA] at h
   ·rename_i hs
    split at h
    ·rename_i l hl
     unfold eqA at h
     split at h
     all_goals (try contradiction)
     rename_i fs' xs ys hk
     cases hk
     cases hx with
     | agg hx hx1=>
     cases hy with
     | agg hy hy1=>
     have hf:E.P.fieldsOf t=fs:=by simp [Program.fieldsOf,hu]
     rw [run_equalIn_struct w d t _ _ (by rw [hf]; exact hu) (by simpa using hs),hf]
     exact eqFs_run (fun t a b r x y=>eqA_run n d (by omega) t a b r x y) hx hx1 hy hy1 fs.toList _ r hl h
    ·simp [eqA] at h
  ·rename_i m e hu
   split at h
   ·rename_i i ud g1 g2
    unfold eqA at h
    split at h
    all_goals (try contradiction)
    rename_i fs' xs ys hk
    cases hk
    cases hx with
    | agg hx hx1=>
    cases hy with
    | agg hy hy1=>
    have hcs:E.P.cellsOf e=i.size:=by simp [Program.cellsOf,g1]
    rw [run_equalIn_array (P:=E.P) w d _ _ hu g1,hcs,List.range_eq_range']
    exact eqArr_run g1 g2 (fun a b r x y=>eqA_run n d (by omega) e a b r x y) hx hx1 hy hy1 m 0 r h
   ·simp [eqA] at h
  ·simp [eqA] at h
theorem ekTop_run {t:TypeId} {i:TI} (hi:E.ti t=some i) {p q:AV} {r:Bool} {x y:Value} (h:eqA i.ek p q=some r) (hx:Rel R w p x) (hy:Rel R w q y) :
  (Op.equalIn 10000 t x y).run E.P w=.ok r w∧((∃ b c,x=.bool b∧y=.bool c)∨(∃ k n k' m,x=.int k n∧y=.int k' m)∨(∃ n m,x=.string n∧y=.string m)∨(∃ n m,x=.agg n∧y=.agg m∧E.P.eqGuardType E.P.depth t=false)):=by
 have hek:i.ek=ekTop E.P t:=by
  have:=E.tiOk t i hi
  unfold tiOf at this
  split at this
  ·split at this
   ·cases this; rfl
   ·cases this
  ·cases this
 rw [hek] at h
 have hg:eqA (ekOf E.P 6 t) p q=some r∧((∃ l,ekOf E.P 6 t=.st l)→E.P.eqGuardType E.P.depth t=false):=by
  unfold ekTop at h
  split at h
  ·rename_i l hl
   split at h
   ·simp [eqA] at h
   ·rename_i hgt
    exact ⟨by rw [hl]; exact h,fun _=>by simpa using hgt⟩
  ·rename_i k hk
   exact ⟨h,fun ⟨l,hl⟩=>absurd hl (hk l)⟩
 refine ⟨eqA_run 6 10000 (by omega) t p q r x y hg.1 hx hy,?_⟩
 have h2:=hg.1
 have h3:=hg.2
 generalize ekOf E.P 6 t=k at h2 h3
 unfold eqA at h2
 split at h2
 ·cases hx; cases hy; exact .inl ⟨_,_,rfl,rfl⟩
 ·cases hx; cases hy; exact .inr (.inl ⟨_,_,_,_,rfl,rfl⟩)
 ·cases hx; cases hy; exact .inr (.inr (.inl ⟨_,_,rfl,rfl⟩))
 ·cases hx; cases hy; exact .inr (.inr (.inr ⟨_,_,rfl,rfl,h3 ⟨_,rfl⟩⟩))
 ·cases h2
theorem exec_eqO (h:Rep E R w β s a) (op:BinOp) (t u:TypeId) (x y:Operand) (ho:o.op=.binOp op t x y u) {p q:AV} {r:Bool} (hx:evO E s.slots x=.v p) (hy:evO E s.slots y=.v q) (hb:abin op p q=none) (hv:eqO E op t p q=some r) :
  Done E R w β s a o (s.put o.dst (.v (.bool r))):=by
 have rx:=evO_rel h x
 have ry:=evO_rel h y
 rw [hx] at rx
 rw [hy] at ry
 have rx':Rel R w p (a.eval x):=rx
 have ry':Rel R w q (a.eval y):=ry
 have key:(do eqGuard op t x y (a.eval x) (a.eval y); binOp op t (a.eval x) (a.eval y):Sem Value).run E.P w=.ok (.bool r) w:=by
  generalize hxv:a.eval x=xv at rx'
  generalize hyv:a.eval y=yv at ry'
  unfold eqO at hv
  split at hv
  ·rename_i i hi
   obtain ⟨k1,k2⟩:=ekTop_run hi hv rx' ry'
   rcases k2 with ⟨b,c,rfl,rfl⟩ | ⟨k,n,k',m,rfl,rfl⟩ | ⟨n,m,rfl,rfl⟩ | ⟨n,m,rfl,rfl,hg⟩
   ·have hguard:(eqGuard .eql t x y (.bool b) (.bool c)).run E.P w=.ok () w:=rfl
    simp [hguard,binOp,Op.equal,Op.maxDepth,k1]
   ·cases rx'; cases ry'; simp [abin] at hb
    cases hk:i.ek <;> simp [hk,eqA] at hv
    exact absurd hv.1 hb
   ·cases rx'; cases ry'; simp [abin] at hb
   ·simp only [Sem.run_bind,run_eqGuard_agg w _ t x y n m hg,Result.andThen_ok,run_eql_struct,k1]
  ·rename_i i hi
   split at hv
   ·rename_i r' hr'
    cases hv
    obtain ⟨k1,k2⟩:=ekTop_run hi hr' rx' ry'
    rcases k2 with ⟨b,c,rfl,rfl⟩ | ⟨k,n,k',m,rfl,rfl⟩ | ⟨n,m,rfl,rfl⟩ | ⟨n,m,rfl,rfl,hg⟩
    ·have hguard:(eqGuard .neq t x y (.bool b) (.bool c)).run E.P w=.ok () w:=rfl
     simp [hguard,binOp,Op.equal,Op.maxDepth,k1]
    ·cases rx'; cases ry'; simp [abin] at hb
     cases hk:i.ek <;> simp [hk,eqA] at hr'
     exact absurd hr'.1 hb
    ·cases rx'; cases ry'; simp [abin] at hb
    ·simp only [Sem.run_bind,run_eqGuard_agg w _ t x y n m hg,Result.andThen_ok,run_neq_struct,k1]
   ·cases hv
  ·cases hv
 refine done_value h (c:=.bool r) ?_ (.bool r)
 simp only [Sem.run_bind] at key
 simp only [execOp,ho,Sem.run_bind,key,Result.andThen_ok,Sem.run_pure]
theorem exec_not (h:Rep E R w β s a) (t:TypeId) (x:Operand) (ho:o.op=.unOp .not t x) {b:Bool} (hx:evO E s.slots x=.v (.bool b)):Done E R w β s a o (s.put o.dst (.v (.bool (!b)))):=by
 have rx:=evO_rel h x
 rw [hx] at rx
 have rx':Rel R w (.bool b) (a.eval x):=rx
 generalize hxv:a.eval x=xv at rx'
 cases rx'
 refine done_value h (c:=.bool (!b)) ?_ (Rel.bool _)
 simp [execOp,ho,Op.unary,hxv]
theorem exec_neg (h:Rep E R w β s a) (t:TypeId) (x:Operand) (ho:o.op=.unOp .neg t x) {k:IntKind} {n:Int} (hx:evO E s.slots x=.v (.int k n)):Done E R w β s a o (s.put o.dst (.v (.int k (k.wrap (0 - n))))):=by
 have rx:=evO_rel h x
 rw [hx] at rx
 have rx':Rel R w (.int k n) (a.eval x):=rx
 generalize hxv:a.eval x=xv at rx'
 cases rx'
 refine done_value h (c:=.int k (k.wrap (0 - n))) ?_ (Rel.int _ _)
 simp [execOp,ho,Op.unary,Op.intArith,hxv]
theorem foldl_set:∀ (us:List Value) (off j0:Nat) (cells:Array Value),off+j0+us.length≤cells.size →
  ((us.zipIdx j0).foldl (fun (cs:Array Value) (p:Value × Nat)=>cs.setIfInBounds (off+p.2) p.1) cells).toList=cells.toList.take (off+j0)++us++cells.toList.drop (off+j0+us.length)
 | [],off,j0,cells,_=>by simp
 | u :: us,off,j0,cells,h=>by
  have hlt:off+j0 < cells.size:=by simp at h; omega
  have ih:=foldl_set us off (j0+1) (cells.setIfInBounds (off+j0) u) (by simp at h ⊢; omega)
  simp only [List.zipIdx_cons,List.foldl_cons]
  rw [ih]
  have e:=list_seg_step cells.toList (off+j0) u us (by simp at h ⊢; omega)
  simpa [Array.toList_setIfInBounds,Nat.add_assoc] using e
theorem fill_rel (place:Nat→Option (Nat × Nat)):∀ {ps:List (Nat × AV)} {qs:List (Nat × Value)} {cells cells':List AV} {vs:List Value},
  RelL R w (ps.map (·.2)) (qs.map (·.2))→ps.map (·.1)=qs.map (·.1)→RelL R w cells vs→(∀ x∈vs,x.oneCell'=true)→fillA place cells ps=some cells' →
  ∃ us,Instr.fill place ⟨vs⟩ qs=some ⟨us⟩∧RelL R w cells' us∧∀ x∈us,x.oneCell'=true
 | [],qs,cells,cells',vs,h1,h2,h3,h4,h5=>by
  have:qs=[]:=by simpa using h2.symm
  subst this
  simp [fillA] at h5
  subst h5
  exact ⟨vs,rfl,h3,h4⟩
 | (i,v) :: ps,[],cells,cells',vs,h1,h2,h3,h4,h5=>by simp at h2
 | (i,v) :: ps,(j,c) :: qs,cells,cells',vs,h1,h2,h3,h4,h5=>by
  simp only [List.map_cons,List.cons.injEq] at h2
  obtain ⟨rfl,h2⟩:=h2
  cases h1 with
  | cons hr h1=>
  unfold fillA at h5
  split at h5
  ·cases h5
  ·rename_i off sz hp
   split at h5
   ·rename_i hcond
    simp only [Bool.and_eq_true] at hcond
    obtain ⟨⟨hnt,hlen⟩,hle⟩:=hcond
    have hlen:=Nat.eq_of_beq_eq_true hlen
    have hle:=Nat.le_of_ble_eq_true hle
    obtain ⟨c1,c2⟩:=Rel.cells hr hnt
    have hlc:c.cells.toList.length=sz:=by rw [← c1.length]; exact hlen
    have hb:off+v.cells.length≤cells.length:=by omega
    obtain ⟨us,u1,u2,u3⟩:=fill_rel place h1 h2 (h3.splice c1 hb) (one_splice h4 c2) h5
    refine ⟨us,?_,u2,u3⟩
    have hsz:c.cells.size=sz:=by simpa using hlc
    have hvl:vs.length=cells.length:=h3.length.symm
    have hfold:c.cells.zipIdx.foldl (fun (cs:Array Value) (x:Value × Nat)=>cs.setIfInBounds (off+x.2) x.1) ⟨vs⟩=⟨vs.take off++c.cells.toList++vs.drop (off+c.cells.toList.length)⟩:=by
     apply Array.ext'
     rw [← Array.foldl_toList,Array.toList_zipIdx]
     have:=foldl_set c.cells.toList off 0 ⟨vs⟩ (by simp only [List.size_toArray]; omega)
     simpa using this
    have hcnd:(c.cells.size≠sz || decide (off+c.cells.size > (⟨vs⟩:Array Value).size))=false:=by
     have hs1:decide (c.cells.size≠sz)=false:=by simp [hsz]
     have hs2:decide (off+c.cells.size > (⟨vs⟩:Array Value).size)=false:=by
      rw [decide_eq_false_iff_not,hsz]
      show ¬ off+sz > vs.length
      omega
     rw [hs1,hs2]
     rfl
    unfold Instr.fill
    simp only [hp,hcnd,Bool.false_eq_true,if_false]
    rw [← u1]
    exact congrArg (fun z=>Instr.fill place z qs) hfold
   ·cases h5
theorem evP_rel (h:Rep E R w β s a):∀ {l:List (Nat × Operand)} {ps:List (Nat × AV)},evP E s.slots l=some ps →
  RelL R w (ps.map (·.2)) ((l.map fun x=>(x.1,a.eval x.2)).map (·.2))∧ps.map (·.1)=(l.map fun x=>(x.1,a.eval x.2)).map (·.1)
 | [],ps,hl=>by simp [evP] at hl; subst hl; exact ⟨.nil,rfl⟩
 | (i,x) :: l,ps,hl=>by
  unfold evP at hl
  split at hl
  ·rename_i v r h1 h2
   cases hl
   have hx:=evO_rel h x
   rw [h1] at hx
   obtain ⟨g1,g2⟩:=evP_rel h h2
   exact ⟨.cons hx g1,by simpa using g2⟩
  ·cases hl
theorem exec_build (h:Rep E R w β s a) (t:TypeId) (parts:Array (Nat × Operand)) (ho:o.op=.build t parts) {v:AV} (hv:buildA E s t parts.toList=some v) :
  Done E R w β s a o (s.put o.dst (.v v)):=by
 unfold buildA at hv
 split at hv
 ·rename_i i ps hi hps
  split at hv
  ·rename_i z hz
   split at hv
   ·rename_i cs hcs
    split at hv
    ·rename_i hag
     cases hv
     simp only [Bool.and_eq_true] at hag
     obtain ⟨hag,hzn⟩:=hag
     obtain ⟨info,u,e1,e2,e3,e4,e5,e6⟩:=ti_info E hi
     rw [hz] at e6
     obtain ⟨zc,hzc,hzr⟩:=constOf_some e6
     obtain ⟨p1,p2⟩:=evP_rel h hps
     obtain ⟨c1,c2⟩:=Rel.cells (hzr R w) hzn
     have epm:(parts.map fun (x:Nat × Operand)=>(x.1,a.eval x.2)).toList=parts.toList.map fun x=>(x.1,a.eval x.2):=by simp
     have key:∃ us,E.P.built t (parts.toList.map fun x=>(x.1,a.eval x.2))=some ⟨us⟩∧RelL R w cs us∧∀ x∈us,x.oneCell'=true:=by
      cases u <;> simp only [aggD] at e4 <;> first | (rw [hag] at e4; cases e4; done) | skip
      ·rename_i n e
       simp only [tkOf] at e5
       split at e5
       ·rename_i ie ue f1 f2
        injection e5 with e5
        rw [← e5] at hcs
        obtain ⟨us,u1,u2,u3⟩:=fill_rel (R:=R) (w:=w) _ p1 p2 c1 c2 hcs
        refine ⟨us,?_,u2,u3⟩
        unfold Program.built
        simp only [e1,e2,hzc,f1]
        rw [← u1]
        rfl
       ·cases e5
      ·rename_i fs
       simp only [tkOf] at e5
       split at e5
       ·rename_i l hl
        injection e5 with e5
        rw [← e5] at hcs
        obtain ⟨us,u1,u2,u3⟩:=fill_rel (R:=R) (w:=w) _ p1 p2 c1 c2 hcs
        refine ⟨us,?_,u2,u3⟩
        unfold Program.built
        simp only [e1,e2,hzc,fieldsOf_places hl]
        rw [← u1]
        have hpl:placeOf (.st l)=fun j=>(l.map fun x=>(x.1,x.2.1)).toArray[j]?:=by
         funext j
         simp only [placeOf,nth_eq,List.getElem?_toArray,List.getElem?_map]
         cases l[j]? <;> rfl
        rw [hpl]
       ·cases e5
     obtain ⟨us,u1,u2,u3⟩:=key
     refine done_value h (c:=.agg ⟨us⟩) ?_ (Rel.agg u2 u3)
     have hrun:=run_build (P:=E.P) w t (parts.map fun (x:Nat × Operand)=>(x.1,a.eval x.2)) ⟨us⟩ (by rw [epm]; exact u1)
     simp only [execOp,ho,Sem.run_bind,hrun,Result.andThen_ok,Sem.run_pure]
    ·cases hv
   ·cases hv
  ·cases hv
 ·cases hv
end ops
end Go.Am
