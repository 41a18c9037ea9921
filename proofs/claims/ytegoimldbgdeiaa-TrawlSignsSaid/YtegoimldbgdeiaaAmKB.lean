/- The abstract machine: lists of cells; what keeps a state's meaning; loads and stores. -/
import Derived.Test.YtegoimldbgdeiaaAmKA
import Derived.Laws.CopyRow
import Derived.Laws.Slices
import Derived.Laws.StructEq
import Derived.ChangeKeysEq
import Derived.Laws.Cover3
import Derived.Laws.Pointers
import Derived.Lib.SliceRun
set_option linter.all false
namespace Go.Am
open Go
section lists
variable {α:Type}
theorem xO (n:Nat) (l:List α):gn n l=l.drop n:=by
 induction n generalizing l with
 |zero=>simp [gn]
 |succ n ih=>cases l <;> simp [gn,ih]
theorem KP {n:Nat} {l r:List α} (h:takeN n l=some r):r=l.take n∧r.length=n:=by
 induction n generalizing l r with
 |zero=>simp [takeN] at h; subst h; simp
 |succ n ih=>
  cases l with
  |nil=>simp [takeN] at h
  |cons a l=>
   unfold takeN at h;split at h
   ·rename_i r' hr;cases h;obtain ⟨h1,h2⟩:=ih hr;exact ⟨by simp [h1],by simp [h2]⟩
   ·cases h
theorem RM {off n:Nat} {l r:List α} (h:Hq off n l=some r):r=(l.drop off).take n∧r.length=n:=by
 unfold Hq at h;rw [xO] at h;exact KP h
theorem fm (l:List α) (off:Nat) (ys:List α) (h:off+ys.length≤l.length):b9 l off ys=l.take off++ys++l.drop (off+ys.length):=by
 induction l generalizing off ys with
 |nil=>
  have hy:ys=[]:=List.eq_nil_of_length_eq_zero (by rw [List.length_nil] at h; omega);subst hy;simp [b9]
 |cons a l ih=>
  cases ys with
  |nil=>simp [b9]
  |cons y ys=>
   cases off with
   |zero=>
    simp only [b9];rw [ih 0 ys (by simp at h ⊢; omega)];simp
   |succ n=>
    simp only [b9];rw [ih n (y :: ys) (by simp at h ⊢; omega)];rw [show n+1+(y :: ys).length=(n+(y :: ys).length)+1 by omega];simp
theorem Aw (l:List α) (off:Nat) (ys:List α) (h:off+ys.length≤l.length):(b9 l off ys).length=l.length:=by
 rw [fm l off ys h];simp;omega
end lists
section rel
variable {R:ai} {w:World}
theorem aL.length {l:List AV} {vs:List Value} (h:aL R w l vs):l.length=vs.length:=by
 induction l generalizing vs with
 |nil=>cases h; rfl
 |cons a l ih=>cases h with | cons h t=>simp [ih t]
theorem aL.get {l:List AV} {vs:List Value} (h:aL R w l vs) {i:Nat} {a:AV} (ha:l[i]?=some a):∃ c,vs[i]?=some c∧Rel R w a c:=by
 induction l generalizing vs i with
 |nil=>simp at ha
 |cons x l ih=>
  cases h with
  |cons h t=>
   cases i with
   |zero=>simp at ha; subst ha; exact ⟨_,by simp,h⟩
   |succ i=>simp at ha; obtain ⟨c,h1,h2⟩:=ih t ha; exact ⟨c,by simpa using h1,h2⟩
theorem aL.drop {l:List AV} {vs:List Value} (h:aL R w l vs) (n:Nat):aL R w (l.drop n) (vs.drop n):=by
 induction n generalizing l vs with
 |zero=>simpa using h
 |succ n ih=>cases h with
  |nil=>simpa using aL.nil
  |cons h t=>simpa using ih t
theorem aL.take {l:List AV} {vs:List Value} (h:aL R w l vs) (n:Nat):aL R w (l.take n) (vs.take n):=by
 induction n generalizing l vs with
 |zero=>simpa using aL.nil
 |succ n ih=>cases h with
  |nil=>simpa using aL.nil
  |cons h t=>simpa using aL.cons h (ih t)
theorem aL.append {l r:List AV} {vs us:List Value} (h:aL R w l vs) (k:aL R w r us):aL R w (l++r) (vs++us):=by
 induction l generalizing vs with
 |nil=>cases h; simpa using k
 |cons a l ih=>cases h with | cons h t=>exact .cons h (ih t)
theorem aL.one {a:AV} {c:Value} (h:Rel R w a c):aL R w [a] [c]:=.cons h .nil
theorem Rel.cells {a:AV} {c:Value} (h:Rel R w a c) (ht:a.aS=true):aL R w a.cells c.cells.toList∧∀ v∈c.cells.toList,v.oneCell'=true:=by
 cases h with
 |agg h h1=>exact ⟨h,h1⟩
 |bD h=>simp [AV.aS] at ht
 |bool=>exact ⟨.one (.bool _),by simp [Value.cells,Value.oneCell']⟩
 |int=>exact ⟨.one (.int _ _),by simp [Value.cells,Value.oneCell']⟩
 |str=>exact ⟨.one (.str _),by simp [Value.cells,Value.oneCell']⟩
 |na=>exact ⟨.one .na,by simp [Value.cells,Value.oneCell']⟩
 |ptr h=>exact ⟨.one (.ptr h),by simp [Value.cells,Value.oneCell']⟩
 |ep h=>exact ⟨.one (.ep h),by simp [Value.cells,Value.oneCell']⟩
 |jD=>exact ⟨.one .jD,by simp [Value.cells,Value.oneCell']⟩
 |jl=>exact ⟨.one .jl,by simp [Value.cells,Value.oneCell']⟩
 |nj=>exact ⟨.one .nj,by simp [Value.cells,Value.oneCell']⟩
 |kL h ho=>exact ⟨.one (.kL h ho),by simp [Value.cells,Value.oneCell']⟩
 |mD h ho=>exact ⟨.one (.mD h ho),by simp [Value.cells,Value.oneCell']⟩
 |list h hl hc hk=>exact ⟨.one (.list h hl hc hk),by simp [Value.cells,Value.oneCell']⟩
 |jB h hc=>exact ⟨.one (.jB h hc),by simp [Value.cells,Value.oneCell']⟩
 |jE h ho=>exact ⟨.one (.jE h ho),by simp [Value.cells,Value.oneCell']⟩
 |cZ h ho hc=>exact ⟨.one (.cZ h ho hc),by simp [Value.cells,Value.oneCell']⟩
 |gp h ho=>exact ⟨.one (.gp h ho),by simp [Value.cells,Value.oneCell']⟩
 |kJ=>exact ⟨.one .kJ,by simp [Value.cells,Value.oneCell']⟩
 |map h=>exact ⟨.one (.map h),by simp [Value.cells,Value.oneCell']⟩
 |ee=>exact ⟨.one .ee,by simp [Value.cells,Value.oneCell']⟩
 |fn h h'=>exact ⟨.one (.fn h h'),by simp [Value.cells,Value.oneCell']⟩
 |yield h=>exact ⟨.one (.yield h),by simp [Value.cells,Value.oneCell']⟩
 |rE=>exact ⟨.one .rE,by simp [Value.cells,Value.oneCell']⟩
 |iface h=>exact ⟨.one (.iface h),by simp [Value.cells,Value.oneCell']⟩
mutual
theorem Rel.iy:∀ {a:AV} {c:Value},Rel R w a c→Rel R w a.iy c
 |_,_,.bool b=>.bool b
 |_,_,.int k n=>.int k n
 |_,_,.str l=>.str l
 |_,_,.agg h h1=>.agg h.iy h1
 |_,_,.bD h=>.bD h.iy
 |_,_,.na=>.na
 |_,_,.ptr h=>.ptr h
 |_,_,.ep h=>.ep h
 |_,_,.jD=>.jD
 |_,_,.jl=>.jl
 |_,_,.nj=>.nj
 |_,_,.kL _ _=>.jl
 |_,_,.mD _ _=>.jl
 |_,_,@Rel.list _ _ .nil _ _ _ _ _ _ h hl hc hk=>.list h hl hc hk
 |_,_,@Rel.list _ _ .full _ _ _ _ _ _ h hl hc hk=>.list h hl hc hk
 |_,_,@Rel.list _ _ .ea _ _ _ _ _ _ h hl hc hk=>.list h hl hc hk
 |_,_,@Rel.list _ _ (.own _) _ _ _ _ _ _ h hl hc _=>.list h hl hc trivial
 |_,_,@Rel.list _ _ (.bc _ _) _ _ _ _ _ _ h hl hc _=>.list h hl hc trivial
 |_,_,.jB h hc=>.jB h hc
 |_,_,.jE h ho=>.jE h ho
 |_,_,.cZ h ho hc=>.cZ h ho hc
 |_,_,.gp h ho=>.gp h ho
 |_,_,.kJ=>.kJ
 |_,_,.map h=>.map h
 |_,_,.ee=>.ee
 |_,_,.fn h h'=>.fn h h'
 |_,_,.yield h=>.yield h
 |_,_,.rE=>.rE
 |_,_,.iface h=>.iface h
theorem aL.iy:∀ {l:List AV} {cs:List Value},aL R w l cs→aL R w (mI l) cs
 |_,_,.nil=>.nil
 |_,_,.cons h t=>.cons h.iy t.iy
end
theorem fg.get {b o:Nat} {l:List AV} (h:fg R w b o l):∃ vs,aL R w l vs∧(∀ v∈vs,v.oneCell'=true)∧(∀ j v,vs[j]?=some v→w.cell? ⟨b,o+j,none⟩=some v)∧∀ j,j < l.length→R.I b (o+j):=by
 induction l generalizing o with
 |nil=>exact ⟨[],.nil,by simp,by simp,by simp⟩
 |cons a l ih=>
  cases h with
  | @cons _ _ _ c _ hc h1 hi h t=>
   obtain ⟨vs,k1,k2,k3,k4⟩:=ih t;refine ⟨c :: vs,.cons h k1,?_,?_,?_⟩
   ·intro v hv;rcases List.mem_cons.1 hv with rfl|hv
    ·exact h1
    ·exact k2 v hv
   ·intro j v hv;cases j with
    |zero=>simp at hv; subst hv; exact hc
    |succ j=>simp at hv; have:=k3 j v hv; rwa [show o+1+j=o+(j+1) by omega] at this
   ·intro j hj;cases j with
    |zero=>exact hi
    |succ j=>have:=k4 j (by simp at hj; omega); rwa [show o+1+j=o+(j+1) by omega] at this
theorem fg.make {b o:Nat} {l:List AV} {vs:List Value} (h:aL R w l vs) (h1:∀ v∈vs,v.oneCell'=true) (hc:∀ j v,vs[j]?=some v→w.cell? ⟨b,o+j,none⟩=some v) (hi:∀ j,j < l.length→R.I b (o+j)):fg R w b o l:=by
 induction l generalizing vs o with
 |nil=>exact .nil
 |cons a l ih=>
  cases h with
  |cons h t=>
   refine .cons (hc 0 _ (by simp)) (h1 _ (by simp)) (hi 0 (by simp)) h (ih t (fun v hv=>h1 v (by simp [hv])) (fun j v hv=>?_) (fun j hj=>?_))
   ·have:=hc (j+1) v (by simpa using hv); rwa [show o+(j+1)=o+1+j by omega] at this
   ·have:=hi (j+1) (by simpa using hj); rwa [show o+(j+1)=o+1+j by omega] at this
theorem fg.drop {b o:Nat} {l:List AV} (h:fg R w b o l) (n:Nat):fg R w b (o+n) (l.drop n):=by
 induction n generalizing o l with
 |zero=>simpa using h
 |succ n ih=>cases h with
  |nil=>simpa using fg.nil
  |cons hc h1 hi h t=>have:=ih t; rw [show o+1+n=o+(n+1) by omega] at this; simpa using this
end rel
theorem cr (b o n:Nat):(⟨b,o,none⟩:Addr).add n=⟨b,o+n,none⟩:=by unfold Addr.add; split <;> simp_all
section aZ
variable {E:Env} {R R':ai} {w w':World} {β β':Nat→Nat} {s:St} {a:Act}
theorem pR.mono (e:Ext R w R' w') {sl:ba} {tm:Array Value} (h:pR R w β sl tm):pR R' w' β sl tm:=
 fun i hi=>let ⟨c,h1,h2⟩:=h i hi; ⟨c,h1,h2.mono e⟩
theorem dO.mono (e:Ext R w R' w'):∀ {l:List (AV × AV)} {es:List MapEntry},dO R w l es→dO R' w' l es
 |[],[],_=>trivial
 |(_,_) :: _,_ :: _,h=>⟨h.1.mono e,h.2.1.mono e,dO.mono e h.2.2⟩
 |[],_ :: _,h=>h.elim
 |_ :: _,[],h=>h.elim
theorem pS {w w':World} {b:Nat} (h:b < w.heap.size) (e:w'.heap[b]?=w.heap[b]?):b < w'.heap.size:=by
 rw [Array.getElem?_eq_getElem h] at e;exact (Array.getElem?_eq_some_iff.1 e).1
theorem gX.mono (e:Ext R w R' w') {go:GO} {ro:RO} (h:gX R w go ro) (hb:∀ b,ro.has b→w'.heap[b]?=w.heap[b]?) (hi:∀ b o,ro.has b→R'.I b o→R.I b o):gX R' w' go ro:=by
 cases ro with
 |none=>cases go <;> first | exact h | exact h.elim
 |bz=>cases go <;> first | exact h | exact h.elim
 |bK b=>
  have kM:=hb b rfl;cases go with
  |dead=>exact pS h kM
  |row cs el=>obtain ⟨vs,h1,h2,h3,h4⟩:=h; exact ⟨vs,kM.trans h1,h2.mono e,h3,fun o ho=>h4 o (hi b o rfl ho)⟩
  |tok f sz el=>exact h.elim
  |bc _ _ _=>exact h.elim
  |jh rF n left _=>obtain ⟨bm,seen,c0,h1,h2,h3⟩:=h; exact ⟨bm,seen,c0,e.bK h1,kM.trans h2,h3⟩
  |bo es sz el=>exact h.elim
  |map es=>obtain ⟨aD,clock,h1,h2,h3⟩:=h; exact ⟨aD,clock,kM.trans h1,dO.mono e h2,h3⟩
  |ic l pos=>exact kM.trans h
  |loop busy pending fn ae n params assign body defers done=>
   obtain ⟨⟨r,db,h1,h2,h3,h4,h5,h6,h7,h8,h9,h11⟩,h10⟩:=h;exact ⟨⟨r,db,kM.trans h1,h2,h3,h4.mono e,h5,h6,h7,h8,h9,e.bK h11⟩,h10⟩
  |defers o=>exact kM.trans h
 |tok f b c k0=>
  have kM:=hb b rfl;cases go with
  |tok f' sz el=>
   obtain ⟨h0,cur,h1,h2,h3,h4,h5⟩:=h;exact ⟨h0,cur,kM.trans h1,h2,h3,h4,fun o ho qL=>h5 o ho (hi b o rfl qL)⟩
  |bo es sz el=>
   obtain ⟨hk,h0,nJ,cur,vs,h1,h2,h3,h4,h5,h6,h7,h8⟩:=h;exact ⟨hk,h0,nJ,cur,vs,kM.trans h1,h2,h3,h4,fun o ho=>h5 o (hi b o rfl ho),h6.mono e,h7,h8⟩
  |dead=>exact pS h kM
  |row cs=>exact h.elim
  |bc _ _ _=>exact h.elim
  |jh _ _ _ _=>exact h.elim
  |map es=>exact h.elim
  |ic l pos=>exact h.elim
  |loop=>exact h.elim
  |defers o=>exact h.elim
 |bc ts=>
  cases go with
  |bc fs sz el=>
   obtain ⟨h1,h2,h3⟩:=h;refine ⟨h1,h2,fun j f t hf ht=>?_⟩;have h4:=h3 j f t hf ht;cases t with
   |bz=>exact h4
   |full f'=>exact h4
   |tok f' b c=>
    obtain ⟨h5,cur,k1,k2,k3,k4,k5⟩:=h4;have hh:RO.has (.bc ts) b:=⟨j,f',c,ht⟩;exact ⟨h5,cur,(hb b hh).trans k1,k2,k3,k4,fun o ho qL=>k5 o ho (hi b o hh qL)⟩
  |dead=>exact fun j f b c ht=>pS (h j f b c ht) (hb b ⟨j,f,c,ht⟩)
  |_=>exact h.elim
theorem Live.of {id b:Nat} {ro:RO} (h:nth R.obj id=some ro) (hb:ro.has b):Live R b:=⟨id,ro,h,hb⟩
theorem fj.aZ {G:List GO} (h:fj E R w G) (e:Ext R w R' w') (ho:R'.obj=R.obj) (hb:∀ b,Live R b→w'.heap[b]?=w.heap[b]?) (hi:∀ b o,Live R b→R'.I b o→R.I b o) (wf:∀ b o,R'.I b o→b < w'.heap.size) (hd:E.lo≤w.drawn→E.lo≤w'.drawn:=by first | exact fun h=>h | exact fun h=>Nat.le_succ_of_le h):fj E R' w' G where
 lo:=hd h.lo
 len:=by rw [ho]; exact h.len
 obj:=fun id go ro hg hr=>by
  rw [ho] at hr;exact (h.obj id go ro hg hr).mono e (fun b N3=>hb b (.of hr N3)) (fun b o N3=>hi b o (.of hr N3))
 inj:=fun i j ri rj b h1 h2=>by rw [ho] at h1 h2; exact h.inj i j ri rj b h1 h2
 wf:=wf
 dV:=fun g cs hg=>(h.dV g cs hg).mono e
theorem N1.aZ {bx:cD} (h:N1 R w β bx) (e:Ext R w R' w') (hb:∀ k cs,di bx k=some cs→w'.heap[β k]?=w.heap[β k]?) (hi:∀ k cs o,di bx k=some cs→R'.I (β k) o→R.I (β k) o) (hl:∀ k cs,di bx k=some cs→Live R' (β k)→Live R (β k)):N1 R' w' β bx where
 box:=fun k cs hk=>by
  obtain ⟨⟨vs,el,h1,h2,h3⟩,h4,h5⟩:=h.box k cs hk;exact ⟨⟨vs,el,(hb k cs hk).trans h1,h2.mono e,h3⟩,fun o ho=>h4 o (hi k cs o hk ho),fun Ax=>h5 (hl k cs hk Ax)⟩
 inj:=h.inj
theorem rI.mono (e:Ext R w R' w'):∀ {l:List Nat} {ds:List Deferred},rI R l ds→rI R' l ds
 |[],[],_=>trivial
 |_ :: _,_ :: _,h=>let ⟨⟨b,h1,h2⟩,h3⟩:=h; ⟨⟨b,e.bK h1,h2⟩,rI.mono e h3⟩
 |[],_ :: _,h=>h.elim
 |_ :: _,[],h=>h.elim
theorem aX.aZ (h:aX E R w β s a) (e:Ext R w R' w') (ho:R'.obj=R.obj) (hb:∀ b,Own R β s.boxes b→w'.heap[b]?=w.heap[b]?) (hi:∀ b o,Own R β s.boxes b→R'.I b o→R.I b o) (wf:∀ b o,R'.I b o→b < w'.heap.size) (hd:E.lo≤w.drawn→E.lo≤w'.drawn:=by first | exact fun h=>h | exact fun h=>Nat.le_succ_of_le h):aX E R' w' β s a where
 g:=h.g.aZ e ho (fun b hl=>hb b (.inl hl)) (fun b o hl=>hi b o (.inl hl)) wf hd
 b:=h.b.aZ e (fun k cs hk=>hb _ (.inr ⟨k,cs,hk,rfl⟩)) (fun k cs o hk=>hi _ o (.inr ⟨k,cs,hk,rfl⟩)) (fun k cs _ hl=>by obtain ⟨id,ro,h1,h2⟩:=hl; rw [ho] at h1; exact ⟨id,ro,h1,h2⟩)
 t:=h.t.mono e
 n:=h.n
 d:=h.d.mono e
theorem bt {w:World} {b:Nat} {o:Obj} (h:w.heap[b]?=some o):b < w.heap.size:=(Array.getElem?_eq_some_iff.1 h).1
theorem gX.lt {go:GO} {ro:RO} (h:gX R w go ro) {b:Nat} (hb:ro.has b):b < w.heap.size:=by
 cases ro with
 |none=>exact hb.elim
 |bz=>exact hb.elim
 |bK x=>
  have hb:b=x:=hb;subst hb;cases go with
  |dead=>exact h
  |row cs el=>obtain ⟨vs,h1,_⟩:=h; exact bt h1
  |tok f sz el=>exact h.elim
  |bc _ _ _=>exact h.elim
  |jh rF n left _=>obtain ⟨bm,seen,c0,_,h2,_⟩:=h; exact bt h2
  |bo es sz el=>exact h.elim
  |map es=>obtain ⟨aD,clock,h1,_⟩:=h; exact bt h1
  |ic l pos=>exact bt h
  |loop=>obtain ⟨⟨r,db,h1,_⟩,_⟩:=h; exact bt h1
  |defers o=>exact bt h
 |tok f x c k0=>
  have hb:b=x:=hb;subst hb;cases go with
  |tok f' sz el=>obtain ⟨_,cur,h1,_⟩:=h; exact bt h1
  |bo es sz el=>obtain ⟨_,_,_,cur,vs,h1,_⟩:=h; exact bt h1
  |dead=>exact h
  |row cs=>exact h.elim
  |bc _ _ _=>exact h.elim
  |jh _ _ _ _=>exact h.elim
  |map es=>exact h.elim
  |ic l pos=>exact h.elim
  |loop=>exact h.elim
  |defers o=>exact h.elim
 |bc ts=>
  obtain ⟨j,f,c,ht⟩:=hb;cases go with
  |bc fs sz el=>
   obtain ⟨h1,h2,h3⟩:=h;have bO:=bi ht;rw [h1] at bO;obtain ⟨f',hf⟩:∃ f',nth fs j=some f':=⟨fs[j],by rw [aV]; exact List.getElem?_eq_getElem bO⟩;obtain ⟨_,cur,k1,_⟩:=h3 j f' _ hf ht;exact bt k1
  |dead=>exact h j f b c ht
  |_=>exact h.elim
theorem fj.bS {G:List GO} (h:fj E R w G) {b:Nat} (hl:Live R b):b < w.heap.size:=by
 obtain ⟨id,ro,h1,h2⟩:=hl;have bO:=bi h1;rw [h.len] at bO;obtain ⟨go,iB⟩:∃ go,nth G id=some go:=⟨G[id],by rw [aV]; exact List.getElem?_eq_getElem bO⟩;exact (h.obj id go ro iB h1).lt h2
theorem aX.eg (h:aX E R w β s a) {b:Nat} (ho:Own R β s.boxes b):b < w.heap.size:=by
 rcases ho with hl|⟨k,cs,hk,rfl⟩
 ·exact h.g.bS hl
 ·obtain ⟨⟨vs,el,h1,_⟩,_⟩:=h.b.box k cs hk;exact bt h1
theorem bP {w w':World} {b:Nat} (h:w'.heap[b]?=w.heap[b]?) (o:Nat):w'.cell? ⟨b,o,none⟩=w.cell? ⟨b,o,none⟩:=by simp [World.cell?,h]
theorem Bb (wf:∀ b o,R.I b o→b < w.heap.size) (x:Obj):Ext R w R (w.alloc x):=
 ⟨fun _ _ h=>h,fun b o h=>bP (heap_alloc_old w x b (wf b o h)) o,fun _ ro h=>⟨ro,h,cp.refl ro⟩,.old fun b hb=>heap_alloc_old w x b hb⟩
theorem aX.alloc (h:aX E R w β s a) (x:Obj):aX E R (w.alloc x) β s a:=
 h.aZ (Bb h.g.wf x) rfl (fun b hb=>heap_alloc_old w x b (h.eg hb)) (fun _ _ _ hi=>hi) (fun b o hi=>by have:=h.g.wf b o hi; simp; omega)
end aZ
end Go.Am
namespace Go.Am
open Go
theorem KQ {a b:AV} (h:sS a b=true):a=b:=by
 unfold sS at h;split at h
 all_goals (first|(cases h; done) | skip)
 all_goals (try simp only [Bool.and_eq_true,beq_iff_eq,Nat.beq_eq] at h)
 all_goals (simp [*])
mutual
theorem ka:∀ {a b:AV},dv a b=true→a=b:=by
 intro a b h;unfold dv at h;split at h
 ·simp only [Bool.and_eq_true,Nat.beq_eq] at h; rw [h.1.1,gH h.1.2,gH h.2]
 ·rw [gH h]
 ·rw [gH h]
 ·rw [gH h]
 ·simp only [Bool.and_eq_true,Nat.beq_eq] at h; rw [h.1,gH h.2]
 ·simp only [Bool.and_eq_true,Nat.beq_eq] at h; rw [h.1,gH h.2]
 ·simp only [Bool.and_eq_true,Nat.beq_eq] at h; rw [h.1,gH h.2]
 ·simp only [Bool.and_eq_true,Nat.beq_eq] at h; rw [h.1.1,h.1.2,gH h.2]
 ·simp only [Bool.and_eq_true,Nat.beq_eq] at h; rw [h.1.1.1,h.1.1.2,h.1.2,gH h.2]
 ·exact KQ h
theorem gH:∀ {l r:List AV},bk l r=true→l=r:=by
 intro l r h;unfold bk at h;split at h
 ·rfl
 ·rw [Bool.and_eq_true] at h; rw [ka h.1,gH h.2]
 ·cases h
end
def Ce (a b:AV):Prop:=∀ (R:ai) (w:World) (c:Value),Rel R w a c→Rel R w b c
def cM:List AV→List AV→Prop
 |[],[]=>True
 |a :: l,b :: r=>Ce a b∧cM l r
 |_,_=>False
theorem Ce.refl (a:AV):Ce a a:=fun _ _ _ h=>h
theorem cM.refl:∀ l:List AV,cM l l
 |[]=>trivial
 |a :: l=>⟨Ce.refl a,cM.refl l⟩
theorem cM.length:∀ {l r:List AV},cM l r→l.length=r.length
 |[],[],_=>rfl
 |_ :: _,_ :: _,h=>by simp [cM.length h.2]
 |[],_ :: _,h=>h.elim
 |_ :: _,[],h=>h.elim
theorem cM.rel {R:ai} {w:World}:∀ {l r:List AV} {cs:List Value},cM l r→aL R w l cs→aL R w r cs
 |[],[],_,_,h=>h
 |_ :: _,_ :: _,_,k,.cons h t=>.cons (k.1 _ _ _ h) (cM.rel k.2 t)
 |[],_ :: _,_,h,_=>h.elim
 |_ :: _,[],_,h,_=>h.elim
theorem cM.KR {R:ai} {w:World}:∀ {l r:List AV} {b o:Nat},cM l r→fg R w b o l→fg R w b o r
 |[],[],_,_,_,_=>.nil
 |_ :: _,_ :: _,_,_,k,.cons hc h1 hi h t=>.cons hc h1 hi (k.1 _ _ _ h) (cM.KR k.2 t)
 |[],_ :: _,_,_,h,_=>h.elim
 |_ :: _,[],_,_,h,_=>h.elim
theorem cM.append:∀ {a b c d:List AV},cM a b→cM c d→cM (a++c) (b++d)
 |[],[],_,_,_,h=>h
 |_ :: _,_ :: _,_,_,k,h=>⟨k.1,cM.append k.2 h⟩
 |[],_ :: _,_,_,h,_=>h.elim
 |_ :: _,[],_,_,h,_=>h.elim
structure jA (v u:AV):Prop where
 iy:Ce v u
 bD:u.aS=v.aS
 cells:v.aS=true→cM v.cells u.cells
 closed:v.closed=true→u.closed=true
theorem xg {u v a:AV} (h:(aM.two u v).fits a=true):(aM.two u v).enc ((aM.two u v).bp a)=a:=by
 change (dv a u || dv a v)=true at h;change (bif dv a v then v else u)=a;cases hs:dv a v with
 |true=>exact (ka hs).symm
 |false=>
  rw [hs,Bool.or_false] at h;exact (ka h).symm
theorem jA.refl (v:AV):jA v v:=⟨Ce.refl v,rfl,fun _=>cM.refl _,fun h=>h⟩
theorem Ft {a b:IntKind} (h:RB a b=true):a=b:=of_decide_eq_true h
theorem s6 {α:Type} {f:AV→Bool} {d:AV→α} {g:α→AV} (Hw:∀ v,f v=true→jA v (g (d v))) {R:ai} {w:World} :
  ∀ {es:List AV} {b o sz:Nat},allFit f es=true→iA R w b o sz es→iA R w b o sz ((es.map d).map g)
 |[],b,o,sz,_,_=>.nil
 |e :: es,b,o,sz,h,hr=>by
  simp only [allFit,Bool.and_eq_true] at h;cases hr with
  |cons hl ht hk hc t=>
   have d':=Hw e h.1;have wc:=d'.cells ht;exact .cons (by rw [← wc.length,hl]) (by rw [d'.bD,ht]) (d'.closed hk) (wc.KR hc) (s6 Hw h.2 t)
theorem IT {R:ai} {w:World} {b o sz bu:Nat} {es:List AV} (h:es=[]∨sz=bu) (hr:iA R w b o bu es):iA R w b o sz es:=by
 rcases h with rfl|rfl
 ·exact .nil
 ·exact hr
theorem IU {α:Type} {f:AV→Bool} {d:AV→α} {g:α→AV} (Hw:∀ v,f v=true→jA v (g (d v))) {k:LK} {sz bu:Nat} {es:List AV} (hs:es=[]∨sz=bu) (h:allFit f es=true) :
  Ce (.list k bu es) (.list .ea sz ((es.map d).map g)):=fun R w c hr=>by
 cases hr with
 |jD=>exact .jl
 |jl=>exact .jl
 |nj=>exact .nj
 |kL _ _=>exact .jl
 |mD _ _=>exact .jl
 |list hr hlen hc hk=>exact .list (s6 Hw h (IT hs hr)) (by simp [hlen]) hc trivial
theorem KS {α:Type} {f:AV→Bool} {d:AV→α} {g:α→AV} (Hw:∀ v,f v=true→jA v (g (d v))) {id sz:Nat} {es:List AV} (h:allFit f es=true) :
  Ce (.list (.own id) sz es) (.list (.own id) sz ((es.map d).map g)):=fun R w c hr=>by
 cases hr with
 |kL h1 h2=>exact .kL h1 h2
 |list hr hlen hc hk=>exact .list (s6 Hw h hr) (by simp [hlen]) hc hk
theorem KT {α:Type} {f:AV→Bool} {d:AV→α} {g:α→AV} (Hw:∀ v,f v=true→jA v (g (d v))) {id j sz:Nat} {es:List AV} (h:allFit f es=true) :
  Ce (.list (.bc id j) sz es) (.list (.bc id j) sz ((es.map d).map g)):=fun R w c hr=>by
 cases hr with
 |mD h1 h2=>exact .mD h1 h2
 |list hr hlen hc hk=>exact .list (s6 Hw h hr) (by simp [hlen]) hc hk
mutual
theorem aM.cV:∀ (p:aM) {v:AV},p.fits v=true→jA v (p.enc (p.bp v))
 |.int k,v,h=>by
  cases v with
  |int k' n=>
   have hk:RB k k'=true:=h;rw [Ft hk];exact jA.refl _
  |_=>cases h
 |.bool,v,h=>by
  cases v with
  |bool b=>exact jA.refl _
  |_=>cases h
 |.str,v,h=>by
  cases v with
  |str b=>exact jA.refl _
  |_=>cases h
 |.agg ps,v,h=>by
  cases v with
  |agg cs=>
   obtain ⟨h1,h2⟩:=ps.cV (show ps.fits cs=true from h);exact ⟨fun R w c hr=>by cases hr with | agg hr qM=>exact .agg (h1.rel hr) qM,rfl,fun _=>h1,fun hc=>by
    have s7:aF cs=true:=by simpa [AV.closed] using hc
    show AV.closed (.agg (ps.enc (ps.bp cs)))=true;simp only [AV.closed]; exact h2 s7⟩
  |_=>cases h
 |.bD ps,v,h=>by
  cases v with
  |bD cs=>
   obtain ⟨h1,h2⟩:=ps.cV (show ps.fits cs=true from h);exact ⟨fun R w c hr=>by cases hr with | bD hr=>exact .bD (h1.rel hr),rfl,fun hn=>by simp [AV.aS] at hn,fun hc=>by
    have s7:aF cs=true:=by simpa [AV.closed] using hc
    show AV.closed (.bD (ps.enc (ps.bp cs)))=true;simp only [AV.closed]; exact h2 s7⟩
  |_=>cases h
 |.list sz p,v,h=>by
  cases v with
  |list k bu es=>
   have hb:((Nat.beq sz bu || es.isEmpty)&&allFit p.fits es)=true:=h;simp only [Bool.and_eq_true,Bool.or_eq_true,Nat.beq_eq,List.isEmpty_iff] at hb;have hw:=IU (k:=k) (fun v=>p.cV) hb.1.symm hb.2;exact ⟨hw,rfl,fun _=>⟨hw,trivial⟩,fun _=>rfl⟩
  |_=>cases h
 |.own id sz p,v,h=>by
  cases v with
  |list k bu es=>
   cases k with
   |own j7=>
    have hb:((Nat.beq id j7&&Nat.beq sz bu)&&allFit p.fits es)=true:=h;simp only [Bool.and_eq_true,Nat.beq_eq] at hb;obtain ⟨⟨rfl,rfl⟩,hf⟩:=hb;have hw:=KS (id:=id) (sz:=sz) (fun v=>p.cV) hf;exact ⟨hw,rfl,fun _=>⟨hw,trivial⟩,fun hc=>by simp [AV.closed,LK.closed] at hc⟩
   |_=>cases h
  |_=>cases h
 |.bc id sz p,v,h=>by
  cases v with
  |list k bu es=>
   cases k with
   |bc j7 j=>
    have hb:((Nat.beq id j7&&Nat.beq sz bu)&&allFit p.fits es)=true:=h;simp only [Bool.and_eq_true,Nat.beq_eq] at hb;obtain ⟨⟨rfl,rfl⟩,hf⟩:=hb;have hw:=KT (id:=id) (j:=j) (sz:=sz) (fun v=>p.cV) hf;exact ⟨hw,rfl,fun _=>⟨hw,trivial⟩,fun hc=>by simp [AV.closed,LK.closed] at hc⟩
   |_=>cases h
  |_=>cases h
 |.j6 u,v,h=>by
  have:=ka (show dv v u=true from h);subst this;exact jA.refl _
 |.two u v,a,h=>by
  have hv:(aM.two u v).enc ((aM.two u v).bp a)=a:=xg h;rw [hv];exact jA.refl _
theorem aK.cV:∀ (ps:aK) {l:List AV},ps.fits l=true→cM l (ps.enc (ps.bp l))∧(aF l=true→aF (ps.enc (ps.bp l))=true)
 |.nil,l,h=>by
  cases l with
  |nil=>exact ⟨trivial,fun h=>h⟩
  |cons _ _=>cases h
 |.cons p .nil,l,h=>by
  match l,h with
  |[],h=>cases h
  |a :: l,h=>
   have h':(p.fits a&&l.isEmpty)=true:=h;simp only [Bool.and_eq_true,List.isEmpty_iff] at h';obtain ⟨h1,rfl⟩:=h';have d:=p.cV h1;exact ⟨⟨d.iy,trivial⟩,fun hc=>by
    simp only [aF,Bool.and_true] at hc;show aF [p.enc (p.bp a)]=true;simp only [aF,Bool.and_true];exact d.closed hc⟩
 |.cons p (.cons q ps),l,h=>by
  cases l with
  |nil=>cases h
  |cons a l=>
   have h':(p.fits a&&(aK.cons q ps).fits l)=true:=h;rw [Bool.and_eq_true] at h';have d:=p.cV h'.1;obtain ⟨k1,k2⟩:=(aK.cons q ps).cV h'.2;exact ⟨⟨d.iy,k1⟩,fun hc=>by
    simp only [aF,Bool.and_eq_true] at hc;show aF (p.enc (p.bp a) :: (aK.cons q ps).enc ((aK.cons q ps).bp l))=true;simp only [aF,Bool.and_eq_true];exact ⟨d.closed hc.1,k2 hc.2⟩⟩
end
theorem aM.sa (p:aM) {v:AV} {x:p.T} (h:p.dec v=some x):jA v (p.enc x):=by
 unfold aM.dec at h;cases hf:p.fits v with
 |true=>rw [hf] at h; cases h; exact p.cV hf
 |false=>rw [hf] at h; cases h
theorem aK.sa (ps:aK) {l:List AV} {x:ps.T} (h:ps.dec l=some x):cM l (ps.enc x)∧(aF l=true→aF (ps.enc x)=true):=by
 unfold aK.dec at h;cases hf:ps.fits l with
 |true=>rw [hf] at h; cases h; exact ps.cV hf
 |false=>rw [hf] at h; cases h
mutual
def aM.plain:aM→Bool
 |.agg ps=>ps.plain
 |.bD ps=>ps.plain
 |.list _ p=>p.plain
 |.own _ _ p=>p.plain
 |.bc _ _ p=>p.plain
 |.j6 v=>dv v v
 |.two u v=>dv u u&&dv v v&&!dv u v
 |_=>true
def aK.plain:aK→Bool
 |.nil=>true
 |.cons p ps=>p.plain&&ps.plain
end
theorem oG {α:Type} {f:AV→Bool} {g:α→AV} (h:∀ x,f (g x)=true):∀ xs:List α,allFit f (xs.map g)=true
 |[]=>rfl
 |x :: xs=>by simp only [List.map_cons,allFit,h x,oG h xs,Bool.and_self]
theorem xh {α:Type} {d:AV→α} {g:α→AV} (h:∀ x,d (g x)=x):∀ xs:List α,(xs.map g).map d=xs
 |[]=>rfl
 |x :: xs=>by simp only [List.map_cons,h x,xh h xs]
mutual
theorem aM.bg:∀ (p:aM) (x:p.T),p.plain=true→p.fits (p.enc x)=true∧p.bp (p.enc x)=x
 |.int k,x,_=>⟨decide_eq_true rfl,rfl⟩
 |.bool,x,_=>⟨rfl,rfl⟩
 |.str,x,_=>⟨rfl,rfl⟩
 |.agg ps,x,h=>ps.bg x h
 |.bD ps,x,h=>ps.bg x h
 |.list sz p,x,h=>by
  refine ⟨?_,xh (fun y=>(p.bg y h).2) x⟩;change ((Nat.beq sz sz || (List.map p.enc x).isEmpty)&&allFit p.fits (List.map p.enc x))=true;rw [Nat.beq_refl,Bool.true_or,Bool.true_and];exact oG (fun y=>(p.bg y h).1) x
 |.own id sz p,x,h=>by
  refine ⟨?_,xh (fun y=>(p.bg y h).2) x⟩;change ((Nat.beq id id&&Nat.beq sz sz)&&allFit p.fits (List.map p.enc x))=true;rw [Nat.beq_refl,Nat.beq_refl,Bool.true_and,Bool.true_and];exact oG (fun y=>(p.bg y h).1) x
 |.bc id sz p,(x:Nat × List p.T),h=>by
  refine ⟨?_,?_⟩
  ·change ((Nat.beq id id&&Nat.beq sz sz)&&allFit p.fits (List.map p.enc x.2))=true;rw [Nat.beq_refl,Nat.beq_refl,Bool.true_and,Bool.true_and];exact oG (fun y=>(p.bg y h).1) x.2
  ·change (x.1,(List.map p.enc x.2).map p.bp)=x;rw [xh (fun y=>(p.bg y h).2) x.2]
 |.j6 v,x,h=>⟨h,rfl⟩
 |.two u v,(x:Bool),h=>by
  change (dv u u&&dv v v&&!dv u v)=true at h;simp only [Bool.and_eq_true,Bool.not_eq_true'] at h;obtain ⟨⟨h1,h2⟩,h3⟩:=h;cases x
  ·exact ⟨by change (dv u u || dv u v)=true; rw [h1]; rfl,h3⟩
  ·exact ⟨by change (dv v u || dv v v)=true; rw [h2,Bool.or_true],h2⟩
theorem aK.bg:∀ (ps:aK) (x:ps.T),ps.plain=true→ps.fits (ps.enc x)=true∧ps.bp (ps.enc x)=x
 |.nil,x,_=>⟨rfl,rfl⟩
 |.cons p .nil,x,h=>by
  have h':(p.plain&&true)=true:=h;rw [Bool.and_true] at h';have:=p.bg x h';exact ⟨by change (p.fits (p.enc x)&&true)=true; rw [this.1]; rfl,this.2⟩
 |.cons p (.cons q ps),x,h=>by
  have h':(p.plain&&(aK.cons q ps).plain)=true:=h;rw [Bool.and_eq_true] at h';have h1:=p.bg x.1 h'.1;have h2:=(aK.cons q ps).bg x.2 h'.2;refine ⟨?_,?_⟩
  ·change (p.fits (p.enc x.1)&&(aK.cons q ps).fits ((aK.cons q ps).enc x.2))=true;rw [h1.1,h2.1];rfl
  ·change (p.bp (p.enc x.1),(aK.cons q ps).bp ((aK.cons q ps).enc x.2))=x;rw [h1.2,h2.2];rfl
end
end Go.Am
namespace Go.Am
open Go
theorem bT (E:Env) {t:TypeId} {i:TI} (h:E.ti t=some i) :
  ∃ gY u,E.P.info? t=some gY∧E.P.underlying t=some u∧gY.size=i.size∧kp u=i.agg∧rG E.P u=some i.k∧gV gY=i.zero:=by
 have h1:=E.IL t i h;unfold IK at h1;split at h1
 ·rename_i gY u h2 h3;split at h1
  ·rename_i k hk;cases h1;exact ⟨gY,u,h2,h3,rfl,rfl,hk,rfl⟩
  ·cases h1
 ·cases h1
section runs
variable {P:Program} (w:World)
theorem Bc {t:TypeId} {u:TypeDesc} (h:P.underlying t=some u):(isAgg t).run P w=.ok (kp u) w:=by
 unfold isAgg;simp only [Sem.run_bind,run_underlying h,Result.andThen_ok];cases u <;> rfl
theorem run_sizeOf {t:TypeId} {i:TypeInfo} (h:P.info? t=some i):(sizeOf t).run P w=.ok i.size w:=by
 simp [sizeOf,typeInfo,h]
theorem iC {t:TypeId} {i:TypeInfo} {z:Value} (h:P.info? t=some i) (hz:i.zero=some z):(zeroValue t).run P w=.ok z w:=by
 simp [zeroValue,typeInfo,h,hz]
theorem xP (t:TypeId) (v:Value):(newVar t v).run P w=.ok ⟨w.heap.size,0,none⟩ (w.alloc (.cells v.cells t)):=by
 simp only [newVar,newRow,Sem.run_bind,run_newObj,Result.andThen_ok,Sem.run_pure];rfl
end runs
theorem xQ {R:ai} {w:World} {ag:Bool} {l:List AV} {v:AV} {vs:List Value} (hm:uM ag l=some v) (h:aL R w l vs) (h1:∀ x∈vs,x.oneCell'=true) :
  (ag=true→Rel R w v (.agg ⟨vs⟩))∧(ag=false→∃ c,vs=[c]∧Rel R w v c):=by
 unfold uM at hm;cases ag with
 |true=>
  simp at hm;subst hm;exact ⟨fun _=>.agg h h1,fun e=>by cases e⟩
 |false=>
  refine ⟨(fun e=>by cases e),fun _=>?_⟩;simp only [Bool.false_eq_true,if_false] at hm;split at hm
  ·cases hm;cases h with
   |cons h t=>
    cases t;exact ⟨_,rfl,h⟩
  ·cases hm
theorem pT {E:Env} {R:ai} {w:World} {t:TypeId} {i:TI} (hi:E.ti t=some i) {b off:Nat} {l:List AV} {vs:List Value} {v:AV}
  (hl:l.length=i.size) (hr:aL R w l vs) (h1:∀ x∈vs,x.oneCell'=true) (hc:∀ j x,vs[j]?=some x→w.cell? ⟨b,off+j,none⟩=some x) (hm:uM i.agg l=some v) :
  ∃ c,(loadVar t ⟨b,off,none⟩).run E.P w=.ok c w∧Rel R w v c:=by
 obtain ⟨gY,u,e1,e2,e3,e4,_⟩:=bT E hi;obtain ⟨m1,m2⟩:=xQ hm hr h1;unfold loadVar;simp only [Sem.run_bind,Bc w e2,Result.andThen_ok,e4];cases ha:i.agg with
 |true=>
  refine ⟨.agg ⟨vs⟩,?_,m1 ha⟩;have hlen:gY.size=vs.length:=by rw [e3,← hl,hr.length]
  have:=run_loadCells_list (P:=E.P) w ⟨b,off,none⟩ vs (fun j x hx=>by rw [cr]; exact hc j x hx);simp [run_sizeOf w e1,hlen,this]
 |false=>
  obtain ⟨c,rfl,dm⟩:=m2 ha;refine ⟨c,?_,dm⟩;have:=hc 0 c (by simp);simp only [Nat.add_zero] at this;simp [run_load,this]
theorem kb {w:World} {b:Nat} {vs:List Value} {el:TypeId} {fr:Nat × Nat} (h:w.heap[b]?=some (.cells ⟨vs⟩ el fr)) (j:Nat):w.cell? ⟨b,j,none⟩=vs[j]?:=by
 simp [World.cell?,h]
theorem vI {E:Env} {R:ai} {w:World} {β:Nat→Nat} {s:St} {a:Act} (h:aX E R w β s a) {p:SV} {c:Value} (hp:pQ R w β p c) {cs:List AV} {off:Nat} (hc:oz s p=some (cs,off)) :
  ∃ b o vs,c=.pointer (some ⟨b,o+off,none⟩)∧aL R w cs vs∧(∀ x∈vs,x.oneCell'=true)∧∀ j x,vs[j]?=some x→w.cell? ⟨b,o+j,none⟩=some x:=by
 unfold oz at hc;split at hc
 ·rename_i k gk;split at hc
  ·rename_i eP hk;cases hc;obtain ⟨⟨vs,el,h1,h2,h3⟩,_⟩:=h.b.box k cs hk;exact ⟨β k,0,vs,by rw [hp]; simp,h2,h3,fun j x hx=>by rw [kb h1]; simpa using hx⟩
  ·cases hc
 ·rename_i id gk;split at hc
  ·rename_i eP hk;cases hc;cases hp with
   | @ptr _ _ b hb=>
    obtain ⟨vs,h1,h2,h3,_⟩:=h.g.obj id _ _ hk hb;exact ⟨b,0,vs,by simp,h2,h3,fun j x hx=>by rw [kb h1]; simpa using hx⟩
  ·cases hc
 ·rename_i eP;cases hc;cases hp with
  |ep hr=>
   obtain ⟨vs,h1,h2,h3,_⟩:=hr.get;exact ⟨_,_,vs,rfl,h1,h2,h3⟩
 ·cases hc
theorem qN {R:ai} {w:World} {off n:Nat} {cs l:List AV} {vs:List Value} (hs:Hq off n cs=some l) (h:aL R w cs vs) (h1:∀ x∈vs,x.oneCell'=true) :
  l.length=n∧aL R w l ((vs.drop off).take n)∧(∀ x∈(vs.drop off).take n,x.oneCell'=true)∧∀ j x,((vs.drop off).take n)[j]?=some x→vs[off+j]?=some x:=by
 obtain ⟨e1,e2⟩:=RM hs;subst e1;refine ⟨e2,(h.drop off).take n,fun x hx=>h1 x (List.mem_of_mem_drop (List.mem_of_mem_take hx)),fun j x hx=>?_⟩;rw [List.getElem?_take] at hx;split at hx
 ·rwa [List.getElem?_drop] at hx
 ·cases hx
def bH (E:Env) (R:ai) (w:World) (β:Nat→Nat) (s:St) (a:Act) (o:Oper) (s':St):Prop:=
 ∃ nx x w' R' β',(execOp a.eval o).run E.P w=.ok nx w'∧(nx=.value x∨(nx=.skip∧x=undef))∧aX E R' w' β' s' (a.put o.dst x)∧Step R w β s.boxes R' w' β' s'.boxes
section ops
variable {E:Env} {R:ai} {w:World} {β:Nat→Nat} {s:St} {a:Act} {o:Oper}
@[simp] theorem aT (s:St) (d:Option Tmp) (x:SV):(s.put d x).boxes=s.boxes:=by
 cases d with
 |none=>rfl
 |some d=>simp only [St.put]; split <;> rfl
theorem ao (h:aX E R w β s a) {c:Value} {sv:SV} (hx:(execOp a.eval o).run E.P w=.ok (.value c) w) (hr:pQ R w β sv c):bH E R w β s a o (s.put o.dst sv):=
 ⟨.value c,c,w,R,β,hx,.inl rfl,h.put o.dst hr,by rw [aT]; exact Step.refl R w β s.boxes⟩
theorem Fu {t:Bool} {x y:AV} {c d:Value} (hx:Rel R w x c) (hy:Rel R w y d):Rel R w (B9 t x y) (if t=true then c else d):=by
 unfold B9;split
 ·cases hx; cases hy; cases t <;> exact .bool _
 ·cases hx; cases hy;split
  ·rename_i e; subst e; cases t <;> exact .int _ _
  ·cases t <;> exact .int _ _
 ·cases t
  ·exact hy
  ·exact hx
theorem lh (h:aX E R w β s a) (x:Operand) (ho:o.op=.move x∨o.op=.assign x) {y:SV} (hy:bw E s.ae x=y):bH E R w β s a o (s.put o.dst y):=by
 subst hy;refine ao h (c:=a.eval x) ?_ (aQ h x);rcases ho with ho|ho <;> simp [execOp,ho]
theorem IV (h:aX E R w β s a) (c x y:Operand) (ho:o.op=.pick c x y) {t:Bool} {p q:AV} (h1:bw E s.ae c=.v (.bool t)) (h2:bw E s.ae x=.v p) (h3:bw E s.ae y=.v q) :
  bH E R w β s a o (s.put o.dst (.v (B9 t p q))):=by
 have r1:=aQ h c;have r2:=aQ h x;have r3:=aQ h y;rw [h1] at r1; rw [h2] at r2; rw [h3] at r3;refine ao h (c:=if t=true then a.eval x else a.eval y) ?_ (Fu r2 r3);have r1':Rel R w (.bool t) (a.eval c):=r1;generalize RN:a.eval c=cc at r1';cases r1';simp [execOp,ho,asBool,RN]
theorem IW (h:aX E R w β s a) (t:TypeId) (x:Operand) (ho:o.op=.load t x) {v:AV} (hl:sT E s t (bw E s.ae x)=some v) :
  bH E R w β s a o (s.put o.dst (.v v)):=by
 unfold sT at hl;split at hl
 ·rename_i i cs off hi hc;split at hl
  ·rename_i l hs;obtain ⟨b,o',vs,e,h1,h2,h3⟩:=vI h (aQ h x) hc;obtain ⟨k1,k2,k3,k4⟩:=qN hs h1 h2;obtain ⟨c,hc,dm⟩:=pT (E:=E) hi (b:=b) (off:=o'+off) k1 k2 k3 (fun j y hy=>by rw [Nat.add_assoc]; exact h3 _ _ (k4 j y hy)) hl;refine ao h (c:=c) ?_ dm;simp [execOp,ho,Instr.loadAt,e,Instr.sureAddr,hc]
  ·cases hl
 ·cases hl
theorem lC {b:Nat} (hI:∀ o,¬ R.I b o) (cs:Array Value):Ext R w R (w.setRow b cs):=
 ⟨fun _ _ h=>h,fun b' o h=>bP (setRow_other w b b' cs (fun e=>hI o (e ▸ h))) o,fun _ ro h=>⟨ro,h,cp.refl ro⟩,fun b' r hb=>⟨r,by
  by_cases e:b'=b
  ·subst e;have bO:b' < w.heap.size:=bt hb;have hv:w.heap[b']=.loop r:=(Array.getElem?_eq_some_iff.1 hb).2;unfold World.setRow;rw [Array.getElem?_eq_getElem (by simpa using bO),Array.getElem_modify];simp [hv]
  ·exact (setRow_other w b b' cs e).trans hb,rfl,rfl,rfl,rfl,rfl⟩⟩
theorem aL.b9 {cs ys:List AV} {vs us:List Value} {off:Nat} (h:aL R w cs vs) (k:aL R w ys us) (hl:off+ys.length≤cs.length) :
  aL R w (b9 cs off ys) (vs.take off++us++vs.drop (off+us.length)):=by
 rw [fm cs off ys hl,← k.length];exact ((h.take off).append k).append (h.drop _)
theorem jF {vs us:List Value} {off n:Nat} (h:∀ x∈vs,x.oneCell'=true) (k:∀ x∈us,x.oneCell'=true):∀ x∈vs.take off++us++vs.drop n,x.oneCell'=true:=by
 intro x hx;simp only [List.mem_append] at hx;rcases hx with (hx|hx)|hx
 ·exact h x (List.mem_of_mem_take hx)
 ·exact k x hx
 ·exact h x (List.mem_of_mem_drop hx)
theorem kN {t:TypeId} {i:TI} (hi:E.ti t=some i) {b off:Nat} {vs:List Value} {el:TypeId} {c:Value} (hb:w.heap[b]?=some (.cells ⟨vs⟩ el (0,0)))
  (hs:c.cells.toList.length=i.size) (hl:off+c.cells.toList.length≤vs.length) (h1:∀ v∈c.cells.toList,v.oneCell'=true) :
  (storeVar t ⟨b,off,none⟩ c).run E.P w=.ok () (w.setRow b ⟨vs.take off++c.cells.toList++vs.drop (off+c.cells.toList.length)⟩):=by
 obtain ⟨gY,u,e1,e2,e3,_⟩:=bT E hi;have e9:=run_storeCells_at (P:=E.P) b off el c.cells.toList 0 ⟨vs⟩ w hb (by simpa using hl) h1;have cz:c.cells.size=gY.size:=by rw [e3,← hs]; simp
 simp only [Nat.add_zero] at e9;unfold storeVar;simp only [Sem.run_bind,run_sizeOf w e1,Result.andThen_ok,Sem.run_ite,cz,ne_eq,not_true_eq_false,if_false];simpa using e9
theorem aX.Fv (h:aX E R w β s a) {id b k:Nat} {cs:List AV} (hb:nth R.obj id=some (.bK b)) (hk:di s.boxes k=some cs):β k≠b:=by
 intro e;exact (h.b.box k cs hk).2.2 ⟨id,_,hb,by rw [e]; rfl⟩
theorem Fw (h:aX E R w β s a) (t:TypeId) (p x:Operand) (ho:o.op=.store t p x) (hd:o.dst=none) {s':St} (hs:ik E s t (bw E s.ae p) (bw E s.ae x)=some s') :
  bH E R w β s a o s':=by
 unfold ik at hs;have rp:=aQ h p;have rx:=aQ h x;split at hs
 ·rename_i i v hi hx;rw [hx] at rx;split at hs
  ·rename_i gq;simp only [Bool.and_eq_true] at gq;obtain ⟨Nq,hlen⟩:=gq;have hlen:=Nat.eq_of_beq_eq_true hlen;obtain ⟨c1,c2⟩:=Rel.cells rx Nq;have Ax:v.cells.length=(a.eval x).cells.toList.length:=c1.length;split at hs
   ·-- a local box
    rename_i k off Qw;rw [Qw] at rp;split at hs
    ·rename_i cs hk;split at hs
     ·rename_i hle;cases hs;have hle:=Nat.le_of_ble_eq_true hle;obtain ⟨⟨vs,el,b1,b2,b3⟩,b4,b5⟩:=h.b.box k cs hk;have bB:=kN (E:=E) (w:=w) hi (off:=off) (c:=a.eval x) b1 (by rw [← Ax]; exact hlen) (by rw [← Ax,← b2.length]; exact hle) c2;have hex:=lC (R:=R) (w:=w) b4 ⟨vs.take off++(a.eval x).cells.toList++vs.drop (off+(a.eval x).cells.toList.length)⟩;refine ⟨.skip,undef,w.setRow (β k) ⟨vs.take off++(a.eval x).cells.toList++vs.drop (off+(a.eval x).cells.toList.length)⟩,R,β,?_,.inr ⟨rfl,rfl⟩,?_,?_⟩
      ·simp [execOp,ho,Instr.storeAt,show a.eval p=.pointer (some ⟨β k,off,none⟩) from rp,Instr.sureAddr,bB]
      ·rw [hd];refine ⟨?_,?_,h.t.mono hex,h.n,h.d⟩
       ·exact h.g.aZ hex rfl (fun b hb=>setRow_other w _ b _ (fun e=>b5 (e ▸ hb))) (fun _ _ _ hi=>hi) (fun b o hi=>by have:=h.g.wf b o hi; simp; omega)
       ·refine ⟨fun k' eP jy=>?_,fun k1 k2 x1 x2 g1 g2=>?_⟩
        ·rcases fk jy with ⟨rfl,e⟩|⟨cz,WT⟩
         ·cases e;exact ⟨⟨_,el,setRow_heap w _ _ _ el (0,0) b1,(b2.b9 c1 hle).mono hex,jF b3 c2⟩,b4,b5⟩
         ·obtain ⟨⟨vs',Zt,d1,d2,d3⟩,d4,d5⟩:=h.b.box k' eP WT;refine ⟨⟨vs',Zt,?_,d2.mono hex,d3⟩,d4,d5⟩;rw [setRow_other]
          ·exact d1
          ·exact fun e=>cz (h.b.inj k' k eP cs WT hk e).symm
        ·have q1:∃ y,di s.boxes k1=some y:=by
          rcases fk g1 with ⟨rfl,_⟩|⟨_,g⟩
          ·exact ⟨_,hk⟩
          ·exact ⟨_,g⟩
         have q2:∃ y,di s.boxes k2=some y:=by
          rcases fk g2 with ⟨rfl,_⟩|⟨_,g⟩
          ·exact ⟨_,hk⟩
          ·exact ⟨_,g⟩
         obtain ⟨y1,q1⟩:=q1;obtain ⟨y2,q2⟩:=q2;exact h.b.inj k1 k2 y1 y2 q1 q2
      ·have uT:Own R β s.boxes (β k):=.inr ⟨k,cs,hk,rfl⟩;refine ⟨hex,rfl,rfl,rfl,by simp,fun b _ hn=>setRow_other w _ b _ (fun e=>hn (e ▸ uT)),fun b _ hb=>?_,fun b o hi _ _=>hi⟩;rcases hb with hb|⟨k',eP,jy,e⟩
       ·exact .inl hb
       ·rcases fk jy with ⟨rfl,_⟩|⟨_,g⟩
        ·exact .inr ⟨k,cs,hk,e⟩
        ·exact .inr ⟨k',eP,g,e⟩
     ·cases hs
    ·cases hs
   ·-- an object
    rename_i id off Qw;rw [Qw] at rp;split at hs
    ·rename_i cs hk;split at hs
     ·rename_i hle;cases hs;have hle:=Nat.le_of_ble_eq_true hle;have WU:Rel R w (.ptr id off) (a.eval p):=rp;generalize WV:a.eval p=pv at WU;cases WU with
      | @ptr _ _ b hb=>
      obtain ⟨vs,b1,b2,b3,b4⟩:=h.g.obj id _ _ hk hb;have bB:=kN (E:=E) (w:=w) hi (off:=off) (c:=a.eval x) b1 (by rw [← Ax]; exact hlen) (by rw [← Ax,← b2.length]; exact hle) c2;have hex:=lC (R:=R) (w:=w) b4 ⟨vs.take off++(a.eval x).cells.toList++vs.drop (off+(a.eval x).cells.toList.length)⟩;refine ⟨.skip,undef,w.setRow b ⟨vs.take off++(a.eval x).cells.toList++vs.drop (off+(a.eval x).cells.toList.length)⟩,R,β,?_,.inr ⟨rfl,rfl⟩,?_,?_⟩
      ·simp [execOp,ho,Instr.storeAt,WV,Instr.sureAddr,bB]
      ·rw [hd];refine ⟨⟨?_,fun j7 go ro hg hr=>?_,h.g.inj,fun b' o' qL=>by have:=h.g.wf b' o' qL; simp; omega,fun g eP hg=>(h.g.dV g eP hg).mono hex,by first | exact h.g.lo | exact Nat.le_succ_of_le h.g.lo⟩,?_,h.t.mono hex,h.n,h.d⟩
       ·simp [St.bG,h.g.len]
       ·rcases dZ hg with ⟨rfl,rfl,_⟩|⟨cz,Dg⟩
        ·rw [hb] at hr;cases hr;exact ⟨_,setRow_heap w _ _ _ _ (0,0) b1,(b2.b9 c1 hle).mono hex,jF b3 c2,b4⟩
        ·refine (h.g.obj j7 go ro Dg hr).mono hex (fun b' kM=>setRow_other w _ b' _ (fun e=>cz ?_)) (fun _ _ _ hi=>hi);subst e;exact h.g.inj id j7 _ _ b' hb hr rfl kM
       ·exact h.b.aZ hex (fun k eP jy=>setRow_other w _ _ _ (h.Fv hb jy)) (fun _ _ _ _ hi=>hi) (fun _ _ _ hl=>hl)
      ·have uT:Own R β s.boxes b:=.inl ⟨id,_,hb,rfl⟩;exact ⟨hex,rfl,rfl,rfl,by simp,fun b' _ hn=>setRow_other w _ b' _ (fun e=>hn (e ▸ uT)),fun _ _ hb=>hb,fun b o hi _ _=>hi⟩
     ·cases hs
    ·cases hs
   ·cases hs
  ·cases hs
 ·cases hs
end ops
end Go.Am
namespace Go.Am
open Go
section ops
variable {E:Env} {R:ai} {w:World} {β:Nat→Nat} {s:St} {a:Act} {o:Oper}
def ai.add (R:ai) (ro:RO):ai:=⟨R.I,R.obj++[ro]⟩
theorem gZ (wf:∀ b o,R.I b o→b < w.heap.size) (x:Obj) (ro:RO):Ext R w (R.add ro) (w.alloc x):=
 ⟨fun _ _ h=>h,fun b o h=>bP (heap_alloc_old w x b (wf b o h)) o,fun _ r h=>⟨r,bA h,cp.refl r⟩,.old fun b hb=>heap_alloc_old w x b hb⟩
theorem kd {ro:RO} {b:Nat} (h:Live (R.add ro) b):Live R b∨ro.has b:=by
 obtain ⟨id,r,h1,h2⟩:=h;rcases aj h1 with h1|⟨_,rfl⟩
 ·exact .inl ⟨id,r,h1,h2⟩
 ·exact .inr h2
theorem aX.lD (h:aX E R w β s a) (x:Obj) (go:GO) (ro:RO) (bn:∀ b,ro.has b→b=w.heap.size) (iB:gX (R.add ro) (w.alloc x) go ro):aX E (R.add ro) (w.alloc x) β (s.dW go) a where
 g:=by
  have e:=gZ (R:=R) (w:=w) h.g.wf x ro;refine ⟨by simp [St.dW,ai.add,h.g.len],fun id g r h1 h2=>?_,fun i j ri rj b h1 h2 b1 b2=>?_,fun b o hi=>?_,fun g cs hg=>(h.g.dV g cs hg).mono e,by first | exact h.g.lo | exact Nat.le_succ_of_le h.g.lo⟩
  ·rcases aj h2 with h2|⟨h3,rfl⟩
   ·have bO:=bi h2;rw [h.g.len] at bO;rcases aj h1 with h1|⟨h4,_⟩
    ·exact (h.g.obj id g r h1 h2).mono e (fun b hb=>heap_alloc_old w x b (h.g.bS ⟨id,r,h2,hb⟩)) (fun _ _ _ hi=>hi)
    ·omega
   ·rcases aj h1 with h1|⟨h4,rfl⟩
    ·have:=bi h1;rw [h3,h.g.len] at this;omega
    ·exact iB
  ·rcases aj h1 with g1|⟨h3,e1⟩
   ·rcases aj h2 with g2|⟨h4,e2⟩
    ·exact h.g.inj i j ri rj b g1 g2 b1 b2
    ·have:=h.g.bS ⟨i,ri,g1,b1⟩;rw [e2] at b2;have:=bn b b2;omega
   ·rcases aj h2 with g2|⟨h4,e2⟩
    ·have:=h.g.bS ⟨j,rj,g2,b2⟩;rw [e1] at b1;have:=bn b b1;omega
    ·omega
  ·have:=h.g.wf b o hi;simp;omega
 b:=h.b.aZ (gZ h.g.wf x ro) (fun k cs hk=>heap_alloc_old w x _ (h.eg (.inr ⟨k,cs,hk,rfl⟩))) (fun _ _ _ _ hi=>hi) (fun k cs hk hl=>by
  rcases kd hl with hl|hl
  ·exact hl
  ·have:=h.eg (.inr ⟨k,cs,hk,rfl⟩);have hl:=bn _ hl;omega)
 t:=h.t.mono (gZ h.g.wf x ro)
 n:=h.n
 d:=h.d.mono (gZ h.g.wf x ro)
theorem cQ (h:aX E R w β s a) (x:Obj) (ro:RO) (bn:∀ b,ro.has b→b=w.heap.size):Step R w β s.boxes (R.add ro) (w.alloc x) β s.boxes:=
 ⟨gZ h.g.wf x ro,rfl,rfl,rfl,by simp,fun b hb _=>heap_alloc_old w x b hb,fun b hb ho=>by
  rcases ho with ho|ho
  ·rcases kd ho with ho|ho
   ·exact .inl ho
   ·have ho:=bn _ ho;omega
  ·exact .inr ho,fun _ _ hi _ _=>hi⟩
theorem gr (h:aX E R w β s a) (ro:RO):nth (R.add ro).obj s.G.length=some ro:=by
 rw [← h.g.len];exact cI _ _
theorem Dt {f:FuncId} (h:aX E R w β s a) {v:AV} {c:Value} {t:TypeId} (hv:Rel R w v c) (hn:v.aS=true)
  (hx:(execOp a.eval o).run E.P w=.ok (.value (.pointer (some ⟨w.heap.size,0,none⟩))) (w.alloc (.cells c.cells t))) {s':St} (ha:fJ E f s o.dst t v.cells=some (true,s')) :
  bH E R w β s a o s':=by
 obtain ⟨c1,c2⟩:=Rel.cells hv hn;unfold fJ at ha;split at ha
 ·cases ha
 ·rename_i d hd;split at ha
  ·-- an object
   cases ha;have iB:gX (R.add (.bK w.heap.size)) (w.alloc (.cells c.cells t)) (.row v.cells t) (.bK w.heap.size):=
    ⟨c.cells.toList,heap_alloc_new w _,c1.mono (gZ h.g.wf _ _),c2,fun o' hi=>by have:=h.g.wf _ _ hi; omega⟩
   have ca:=h.lD (.cells c.cells t) (.row v.cells t) (.bK w.heap.size) (by exact fun _ h=>h) iB;refine ⟨_,.pointer (some ⟨w.heap.size,0,none⟩),_,R.add (.bK w.heap.size),β,hx,.inl rfl,?_,?_⟩
   ·rw [hd];exact ca.put (some d) (x:=.v (.ptr s.G.length 0)) (Rel.ptr (gr h _))
   ·rw [aT];exact cQ h _ _ (by exact fun _ h=>h)
  ·split at ha
   ·rename_i Zu;injection ha with ha;injection ha with _ N4;subst N4;have e:=Bb (R:=R) (w:=w) h.g.wf (.cells c.cells t)
    let β':Nat→Nat:=fun k=>if k=d then w.heap.size else β k
    have Hx:β' d=w.heap.size:=by simp [β']
    have cz:∀ k,k≠d→β' k=β k:=fun k hk=>by simp [β',hk]
    have hdn:d < a.tmps.size:=by rw [h.n]; exact Nat.le_of_ble_eq_true Zu
    have Fx:((s.kill d).vD d v.cells).put (some d) (.lp d 0)=⟨.put d (.lp d 0) :: .kill d :: s.ae,(d,v.cells) :: s.boxes,s.G,s.marks,s.ro,s.n⟩:=by
     simp only [St.put,St.vD,St.kill,Zu]
    refine ⟨_,.pointer (some ⟨w.heap.size,0,none⟩),_,R,β',hx,.inl rfl,?_,?_⟩
    ·rw [hd,Fx];refine ⟨?_,⟨fun k cs hk=>?_,fun k k' cs eP hk jy he=>?_⟩,?_,by simp [Act.put,h.n],h.d⟩
     ·exact h.g.aZ e rfl (fun b hb=>heap_alloc_old w _ b (h.g.bS hb)) (fun _ _ _ hi=>hi) (fun b o hi=>by have:=h.g.wf b o hi; simp; omega)
     ·rcases fk hk with ⟨rfl,he⟩|⟨Nr,hk⟩
      ·cases he;rw [Hx];exact ⟨⟨c.cells.toList,t,heap_alloc_new w _,c1.mono e,c2⟩,fun o' hi=>by have:=h.g.wf _ _ hi; omega,fun hl=>by have:=h.g.bS hl; omega⟩
      ·rw [cz k (Ne.symm Nr)];obtain ⟨⟨vs,el,b1,b2,b3⟩,b4,b5⟩:=h.b.box k cs hk;exact ⟨⟨vs,el,(heap_alloc_old w _ _ (bt b1)).trans b1,b2.mono e,b3⟩,b4,b5⟩
     ·rcases fk hk with ⟨rfl,_⟩|⟨Nr,hk⟩
      ·rcases fk jy with ⟨rfl,_⟩|⟨RQ,jy⟩
       ·rfl
       ·rw [Hx,cz k' (Ne.symm RQ)] at he;have:=h.eg (.inr ⟨k',eP,jy,rfl⟩);omega
      ·rcases fk jy with ⟨rfl,_⟩|⟨RQ,jy⟩
       ·rw [Hx,cz k (Ne.symm Nr)] at he;have:=h.eg (.inr ⟨k,cs,hk,rfl⟩);omega
       ·rw [cz k (Ne.symm Nr),cz k' (Ne.symm RQ)] at he;exact h.b.inj k k' cs eP hk jy he
     ·intro i hi;by_cases hdi:d=i
      ·subst hdi;rw [aA];refine ⟨.pointer (some ⟨w.heap.size,0,none⟩),by simp [Act.put,hdn],?_⟩;show Value.pointer _=_;rw [Hx]
      ·rw [aN hdi] at hi ⊢;rcases Hv (l:=s.ae) (d:=d) (t:=i) with ⟨h1,h2⟩|h1
       ·rw [h1] at hi ⊢;obtain ⟨c',q1,q2⟩:=h.t i hi;refine ⟨c',?_,?_⟩
        ·simp only [Act.put];rw [Array.getElem?_setIfInBounds_ne hdi];exact q1
        ·cases wG:lk s.ae i with
         |none=>trivial
         |v y=>rw [wG] at q2; exact Rel.mono e q2
         |lp k off=>
          rw [wG] at q2;show c'=_;rw [cz k (h2 k off wG)];exact q2
       ·exact absurd h1 hi
    ·rw [Fx];refine ⟨e,rfl,rfl,rfl,by simp,fun b hb _=>heap_alloc_old w _ b hb,fun b hb ho=>?_,fun _ _ hi _ _=>hi⟩;rcases ho with ho|⟨k,cs,hk,he⟩
     ·exact .inl ho
     ·rcases fk hk with ⟨rfl,_⟩|⟨Nr,hk⟩
      ·rw [Hx] at he;omega
      ·rw [cz k (Ne.symm Nr)] at he;exact .inr ⟨k,cs,hk,he⟩
   ·cases ha
theorem dE {i:TypeInfo} {z:AV} (h:gV i=some z):∃ c,i.zero=some c∧∀ R w,Rel R w z c:=by
 unfold gV at h;split at h
 ·rename_i c hc;exact ⟨c,hc,fun R w=>vH h⟩
 ·cases h
theorem Fy {f:FuncId} (h:aX E R w β s a) (t:TypeId) (ho:o.op=.alloc t) {i:TI} {z:AV} (hi:E.ti t=some i) (hz:i.zero=some z) (hn:z.aS=true) {s':St} (ha:fJ E f s o.dst t z.cells=some (true,s')) :
  bH E R w β s a o s':=by
 obtain ⟨gY,u,e1,e2,e3,e4,e5,e6⟩:=bT E hi;rw [hz] at e6;obtain ⟨c,hc,hr⟩:=dE e6;refine Dt h (hr R w) hn (t:=t) ?_ ha;simp [execOp,ho,Instr.alloc,iC w e1 hc,xP]
theorem KU {f:FuncId} (h:aX E R w β s a) (t:TypeId) (x:Operand) (ho:o.op=.box t x) {v:AV} (hv:bw E s.ae x=.v v) (hn:v.aS=true) {s':St} (ha:fJ E f s o.dst t v.cells=some (true,s')) :
  bH E R w β s a o s':=by
 have hr:=aQ h x;rw [hv] at hr;refine Dt h hr hn (t:=t) ?_ ha;simp [execOp,ho,Instr.box,xP]
end ops
end Go.Am
namespace Go.Am
open Go
section types
variable {P:Program}
theorem oH:∀ {fs:List Field} {l:List (Nat × Nat × Bool)},fieldsOf P fs=some l→∀ {j o sz:Nat} {ag:Bool},nth l j=some (o,sz,ag) →
  ∃ f fi u,fs[j]?=some f∧f.offset=o∧P.info? f.type=some fi∧fi.size=sz∧P.underlying f.type=some u∧kp u=ag
 |[],l,h,j,o,sz,ag,hn=>by simp [fieldsOf] at h; subst h; simp [nth] at hn
 |f :: fs,l,h,j,o,sz,ag,hn=>by
  unfold fieldsOf at h;split at h
  ·rename_i i u r h1 h2 h3;cases h;cases j with
   |zero=>simp [nth] at hn; obtain ⟨e1,e2,e3⟩:=hn; exact ⟨f,i,u,by simp,e1,h1,e2,h2,e3⟩
   |succ j=>
    obtain ⟨f',fi,u',g1,g2⟩:=oH h3 (show nth r j=some (o,sz,ag) from hn);exact ⟨f',fi,u',by simpa using g1,g2⟩
  ·cases h
theorem py:∀ {fs:List Field} {l:List (Nat × Nat × Bool)},fieldsOf P fs=some l→fs.mapM (fun f=>(P.info? f.type).map fun i=>(f.offset,i.size))=some (l.map fun x=>(x.1,x.2.1))
 |[],l,h=>by simp [fieldsOf] at h; subst h; simp
 |f :: fs,l,h=>by
  unfold fieldsOf at h;split at h
  ·rename_i i u r h1 h2 h3;cases h;simp [List.mapM_cons,h1,py h3]
  ·cases h
theorem Hy {u:TypeDesc} {l:List (Nat × Nat × Bool)} (h:rG P u=some (.st l)):∃ fs,u=.struct fs∧fieldsOf P fs.toList=some l:=by
 cases u <;> simp only [rG] at h <;> try (cases h; done)
 all_goals (try (split at h <;> cases h; done))
 rename_i fs;split at h
 ·rename_i l' hl;cases h;exact ⟨fs,rfl,hl⟩
 ·cases h
theorem pU {u:TypeDesc} {n esz:Nat} {ag:Bool} (h:rG P u=some (.arr n esz ag)):∃ e i ue,u=.array n e∧P.info? e=some i∧i.size=esz∧P.underlying e=some ue∧kp ue=ag:=by
 cases u <;> simp only [rG] at h <;> try (cases h; done)
 all_goals (try (split at h <;> cases h; done))
 rename_i m e;split at h
 ·rename_i i ue h1 h2;cases h;exact ⟨e,i,ue,rfl,h1,rfl,h2,rfl⟩
 ·cases h
theorem dF {u:TypeDesc} {e esz oI:Nat} {ag:Bool} {z:Option AV} (h:rG P u=some (.sl e esz ag oI z)) :
  ∃ i ue,u=.slice e∧P.info? e=some i∧i.size=esz∧i.bytes=oI∧P.underlying e=some ue∧kp ue=ag∧gV i=z:=by
 cases u <;> simp only [rG] at h <;> try (cases h; done)
 all_goals (try (split at h <;> cases h; done))
 rename_i e';split at h
 ·rename_i i ue h1 h2;injection h with h;injection h with g1 g2 g3 g4 g5;subst g1; subst g2; subst g3; subst g4; subst g5;exact ⟨i,ue,rfl,h1,rfl,rfl,h2,rfl,rfl⟩
 ·cases h
theorem lE {u:TypeDesc} (h:rG P u=some .str):u=.string:=by
 cases u <;> simp only [rG] at h <;> try (cases h; done)
 all_goals (try (split at h <;> cases h; done))
 rfl
theorem s8 {u:TypeDesc} {k:IntKind} (h:rG P u=some (.int k)):u=.int k:=by
 cases u <;> simp only [rG] at h <;> try (cases h; done)
 all_goals (try (split at h <;> cases h; done))
 cases h;rfl
theorem nK {u:TypeDesc} {k e:TypeId} {z:Option AV} (h:rG P u=some (.map k e z)):u=.map k e∧∃ i,P.info? e=some i∧gV i=z:=by
 cases u <;> simp only [rG] at h <;> try (cases h; done)
 all_goals (try (split at h <;> cases h; done))
 split at h
 ·rename_i i h1;cases h;exact ⟨rfl,i,h1,rfl⟩
 ·cases h
end types
section ops
variable {E:Env} {R:ai} {w:World} {β:Nat→Nat} {s:St} {a:Act} {o:Oper}
theorem Bd {p q:SV} {c:Value} {n:Nat} (hp:pQ R w β p c) (hm:A4 n p=some q) :
  ∃ b o,c=.pointer (some ⟨b,o,none⟩)∧pQ R w β q (.pointer (some ⟨b,o+n,none⟩)):=by
 unfold A4 at hm;split at hm
 ·cases hm;exact ⟨_,_,hp,rfl⟩
 ·cases hm;cases hp with
  | @ptr _ _ b hb=>exact ⟨b,_,rfl,Rel.ptr hb⟩
 ·cases hm;cases hp with
  | @ep _ b o hr=>
   refine ⟨b,o,rfl,Rel.ep ?_⟩;rw [xO];exact hr.drop n
 ·cases hm;cases hp with
  | @gp _ _ _ _ _ b o _ ro hr fa=>
   refine ⟨b,o,rfl,Rel.gp hr ?_⟩;cases ro with
   |none=>trivial
   |bz=>exact fa.elim
   |bK _=>exact fa.elim
   |bc _=>exact fa.elim
   |tok f1 b1 c1=>exact ⟨fa.1,fun e=>⟨(fa.2 e).1,by rw [(fa.2 e).2,Nat.add_assoc]⟩⟩
 ·cases hm
theorem xR (h:aX E R w β s a) (t:TypeId) (x:Operand) (j:Nat) (ho:o.op=.fieldAddr t x j) {q:SV} (hq:lB E t (bw E s.ae x) j=some q) :
  bH E R w β s a o (s.put o.dst q):=by
 unfold lB at hq;split at hq
 ·rename_i i hi;split at hq
  ·rename_i fs hk;split at hq
   ·rename_i off sz ag hn;split at hq
    ·rename_i fb;have fb:=Nat.le_of_ble_eq_true fb;obtain ⟨gY,u,e1,e2,e3,e4,e5,e6⟩:=bT E hi;rw [hk] at e5;obtain ⟨fl,rfl,hf⟩:=Hy e5;obtain ⟨f,fi,u',g1,g2,g3,g4,g5,g6⟩:=oH hf hn;obtain ⟨b,o',m1,m2⟩:=Bd (aQ h x) hq;refine ao h ?_ m2;have Ns:fl[j]?=some f:=by simpa using g1
     have cz:¬ fi.size=0:=by omega
     simp [execOp,ho,Instr.fieldAt,run_underlying e2,Ns,m1,Instr.sureAddr,fieldPlace,run_sizeOf w g3,cz,cr,g2]
    ·cases hq
   ·cases hq
  ·cases hq
 ·cases hq
theorem Du {b o sz:Nat} {es:List AV} (h:iA R w b o sz es) {n:Nat} {e:AV} (hn:nth es n=some e):fg R w b (o+n * sz) e.cells∧e.cells.length=sz∧e.aS=true:=by
 induction es generalizing o n with
 |nil=>simp [nth] at hn
 |cons x l ih=>
  cases h with
  |cons hl ht _ h t=>
   cases n with
   |zero=>simp [nth] at hn; subst hn; exact ⟨by simpa using h,hl,ht⟩
   |succ n=>
    have:=ih t (show nth l n=some e from hn);rw [show o+sz+n * sz=o+(n+1) * sz by rw [Nat.add_mul]; omega] at this;exact this
theorem xS (h:aX E R w β s a) (t:TypeId) (x ix:Operand) (ho:o.op=.indexAddr t x ix) {q:SV} (hq:lA E t (bw E s.ae x) (bw E s.ae ix)=some (true,q)) :
  bH E R w β s a o (s.put o.dst q):=by
 have rx:=aQ h x;have ri:=aQ h ix;unfold lA at hq;split at hq
 ·rename_i i k n hi WW;rw [WW] at ri;have Qx:Rel R w (.int k n) (a.eval ix):=ri;generalize Nt:a.eval ix=iv at Qx;cases Qx;obtain ⟨gY,u,e1,e2,e3,e4,e5,e6⟩:=bT E hi;split at hq
  ·-- a list
   rename_i elem esz ag oI z kk sz es hk hx;rw [hx] at rx;rw [hk] at e5;obtain ⟨ie,ue,rfl,f1,f2,f3,f4,f5,f6⟩:=dF e5;split at hq
   ·rename_i hc;have key:∀ (u:AV),(0≤n∧n < (es.length:Int))→cM (ab es n.toNat).cells u.cells→bH E R w β s a o (s.put o.dst (.v (.ep u.cells))):=fun u mA hu=>by
     obtain ⟨Be,IX⟩:=mA;have dH:Rel R w (.list kk sz es) (a.eval x):=rx;generalize fD:a.eval x=xv at dH;cases dH with
     |jD=>simp at IX; omega
     |jl=>simp at IX; omega
     |nj=>simp at IX; omega
     |kL=>simp at IX; omega
     |mD=>simp at IX; omega
     | @list _ _ _ b o' len cap hr hl gC IY=>
      subst hl;have bO:n.toNat < es.length:=by omega
      obtain ⟨e,he⟩:∃ e,nth es n.toNat=some e:=⟨es[n.toNat],by rw [aV]; exact List.getElem?_eq_getElem bO⟩;have fb:sz=esz:=by
       simp only [Bool.or_eq_true] at hc;rcases hc with hc|hc
       ·exact Nat.eq_of_beq_eq_true hc
       ·cases es with
        |nil=>simp at bO
        |cons _ _=>simp at hc
      obtain ⟨g1,_,_⟩:=Du hr he;refine ao h (c:=.pointer (some ⟨b,o'+n.toNat * sz,none⟩)) ?_ ?_
      ·have gq:0≤n∧n < (es.length:Int):=⟨Be,IX⟩;simp [execOp,ho,Instr.indexAt,Nt,fD,asIntOf,run_underlying e2,gq,run_sizeOf w f1,f2,fb,cr]
      ·have:ab es n.toNat=e:=by simp [ab,he]
       rw [this] at hu;exact .ep (hu.KR g1)
    split at hq
    ·rename_i p hp;injection hq with hq;injection hq with mA kO;subst kO;rw [Bool.and_eq_true] at mA;have gq:=of_decide_eq_true mA.1;have hd:=p.cV mA.2;have bO:n.toNat < es.length:=by omega
     refine key _ gq (hd.cells ?_);obtain ⟨e,he⟩:∃ e,nth es n.toNat=some e:=⟨es[n.toNat],by rw [aV]; exact List.getElem?_eq_getElem bO⟩;have:ab es n.toNat=e:=by simp [ab,he]
     rw [this];have dH:Rel R w (.list kk sz es) (a.eval x):=rx;generalize a.eval x=xv at dH;cases dH with
     |jD=>simp at bO
     |jl=>simp at bO
     |nj=>simp at bO
     |kL=>simp at bO
     |mD=>simp at bO
     |list hr _ _ _=>exact (Du hr he).2.2
    ·injection hq with hq;injection hq with mA kO;subst kO;exact key _ (of_decide_eq_true mA) (cM.refl _)
   ·cases hq
  ·-- a heap slice
   rename_i elem esz ag oI z id off sz len cap hk hx;rw [hx] at rx;rw [hk] at e5;obtain ⟨ie,ue,rfl,f1,f2,f3,f4,f5,f6⟩:=dF e5;split at hq
   ·rename_i hc;have fb:=Nat.eq_of_beq_eq_true hc;injection hq with hq;injection hq with mA kO;subst kO;have gq:=of_decide_eq_true mA;have dH:Rel R w (.jB id off sz len cap) (a.eval x):=rx;generalize fD:a.eval x=xv at dH;cases dH with
    | @jB _ _ _ _ _ b hb _=>
     refine ao h (c:=.pointer (some ⟨b,off+n.toNat * sz,none⟩)) ?_ (Rel.ptr hb);simp [execOp,ho,Instr.indexAt,Nt,fD,asIntOf,run_underlying e2,gq,run_sizeOf w f1,f2,fb,cr]
   ·cases hq
  ·-- a slice that grows
   rename_i elem esz ag oI z id f' off sz len hk hx;rw [hx] at rx;rw [hk] at e5;obtain ⟨ie,ue,rfl,f1,f2,f3,f4,f5,f6⟩:=dF e5;split at hq
   ·rename_i hc;have fb:=Nat.eq_of_beq_eq_true hc;injection hq with hq;injection hq with mA kO;subst kO;have gq:=of_decide_eq_true mA;have dH:Rel R w (.cZ id f' off sz len) (a.eval x):=rx;generalize fD:a.eval x=xv at dH;cases dH with
    |jE _ _=>omega
    | @cZ _ _ _ _ _ cap b o' ro bn fa gC=>
     refine ao h (c:=.pointer (some ⟨b,o'+n.toNat * sz,none⟩)) ?_ (Rel.gp bn ?_)
     ·simp [execOp,ho,Instr.indexAt,Nt,fD,asIntOf,run_underlying e2,gq,run_sizeOf w f1,f2,fb,cr]
     ·cases ro with
      |none=>trivial
      |bz=>exact fa.elim
      |bK _=>exact fa.elim
      |bc _=>exact fa.elim
      |tok f1 b1 c1=>
       refine ⟨fa.1,fun e=>?_⟩;obtain ⟨k1,k2,k3⟩:=fa.2 e;refine ⟨k1,?_⟩;rcases k3 with k3|k3
       ·rw [k3,Nat.add_zero,Nat.add_mul]
       ·omega
   ·cases hq
  ·-- an array that is never written
   rename_i len esz ag cs hk hx;rw [hx] at rx;rw [hk] at e5;obtain ⟨e,ie,ue,rfl,f1,f2,f3,f4⟩:=pU e5;have dH:Rel R w (.ep cs) (a.eval x):=rx;generalize fD:a.eval x=xv at dH;cases dH with
   | @ep _ b o' hr=>
    split at hq
    ·rename_i p hp;split at hq
     ·rename_i hc;rw [Bool.and_eq_true] at hc;have hz:=Nat.eq_of_beq_eq_true hc.1;have hl:=Nat.le_of_ble_eq_true hc.2;injection hq with hq;injection hq with mA kO;subst kO;rw [Bool.and_eq_true] at mA;have gq:=of_decide_eq_true mA.1;have hd:=p.cV mA.2;have bO:n.toNat < cs.length:=by omega
      have Zv:=hr.drop n.toNat;rw [List.drop_eq_getElem_cons bO] at Zv;have hn:ab cs n.toNat=cs[n.toNat]:=by
       unfold ab;rw [aV,List.getElem?_eq_getElem bO]
      rw [hn] at hd ⊢;refine ao h (c:=.pointer (some ⟨b,o'+n.toNat * esz,none⟩)) ?_ ?_
      ·simp [execOp,ho,Instr.indexAt,Nt,fD,Instr.sureAddr,asIntOf,run_underlying e2,gq,run_sizeOf w f1,f2,cr]
      ·subst hz;rw [Nat.mul_one];cases Zv with
       |cons hc h1 hi dm t=>exact .ep (.cons hc h1 hi (hd.1 _ _ _ dm) .nil)
     ·cases hq
    ·injection hq with hq;injection hq with mA kO;subst kO;have gq:=of_decide_eq_true mA;refine ao h (c:=.pointer (some ⟨b,o'+n.toNat * esz,none⟩)) ?_ ?_
     ·simp [execOp,ho,Instr.indexAt,Nt,fD,Instr.sureAddr,asIntOf,run_underlying e2,gq,run_sizeOf w f1,f2,cr]
     ·rw [xO];exact .ep (hr.drop _)
  ·-- an array
   rename_i len esz ag hk _;rw [hk] at e5;obtain ⟨e,ie,ue,rfl,f1,f2,f3,f4⟩:=pU e5;split at hq
   ·rename_i q' hm;injection hq with hq;injection hq with mA kO;subst kO;have gq:=of_decide_eq_true mA;obtain ⟨b,o',m1,m2⟩:=Bd rx hm;refine ao h ?_ m2;simp [execOp,ho,Instr.indexAt,Nt,m1,Instr.sureAddr,asIntOf,run_underlying e2,gq,run_sizeOf w f1,f2,cr]
   ·cases hq
  ·cases hq
 ·cases hq
theorem nL {t:TypeId} {i:TypeInfo} {u:TypeDesc} (h1:E.P.info? t=some i) (h2:E.P.underlying t=some u) {off:Nat} {cs l:List AV} {vs:List Value} {v:AV} (hr:aL R w cs vs) (h3:∀ x∈vs,x.oneCell'=true)
  (Cf:kp u=true→Hq off i.size cs=some l∧uM true l=some v) (hsc:kp u=false→Hq off 1 cs=some l∧uM false l=some v) :
  ∃ c,(part t ⟨vs⟩ off).run E.P w=.ok c w∧Rel R w v c:=by
 unfold part;simp only [Sem.run_bind,Bc w h2,Result.andThen_ok];cases ha:kp u with
 |true=>
  obtain ⟨g1,g2⟩:=Cf ha;obtain ⟨k1,k2,k3,k4⟩:=qN g1 hr h3;obtain ⟨m1,_⟩:=xQ g2 k2 k3;refine ⟨_,?_,m1 rfl⟩;have:(⟨vs⟩:Array Value).extract off (off+i.size)=⟨(vs.drop off).take i.size⟩:=by
   apply Array.ext';simp [List.extract_eq_take_drop]
  simp [run_sizeOf w h1]
 |false=>
  obtain ⟨g1,g2⟩:=hsc ha;obtain ⟨k1,k2,k3,k4⟩:=qN g1 hr h3;obtain ⟨_,m2⟩:=xQ g2 k2 k3;obtain ⟨c,hc,dm⟩:=m2 rfl;refine ⟨c,?_,dm⟩;have h0:=k4 0 c (by rw [hc]; simp);simp only [Nat.add_zero] at h0;simp [h0]
theorem Fz (h:aX E R w β s a) (t:TypeId) (x:Operand) (j:Nat) (ho:o.op=.field t x j) {v:AV} (hq:Fk E t (bw E s.ae x) j=some v) :
  bH E R w β s a o (s.put o.dst (.v v)):=by
 have rx:=aQ h x;unfold Fk at hq;split at hq
 ·rename_i i cs hi hx;rw [hx] at rx;have dH:Rel R w (.agg cs) (a.eval x):=rx;generalize fD:a.eval x=xv at dH;cases dH with
  | @agg _ vs hr h1=>
  split at hq
  ·rename_i fs hk;split at hq
   ·rename_i off sz ag hn;obtain ⟨gY,u,e1,e2,e3,e4,e5,e6⟩:=bT E hi;rw [hk] at e5;obtain ⟨fl,rfl,hf⟩:=Hy e5;obtain ⟨f,fi,u',g1,g2,g3,g4,g5,g6⟩:=oH hf hn;have key:∃ c,(part f.type ⟨vs⟩ off).run E.P w=.ok c w∧Rel R w v c:=by
     split at hq
     ·rename_i Cf;split at hq
      ·rename_i l hl;exact nL g3 g5 (l:=l) hr h1 (fun _=>⟨by rw [g4]; exact hl,hq⟩) (fun hf=>by rw [g6,Cf] at hf; cases hf)
      ·cases hq
     ·rename_i Cf;split at hq
      ·rename_i l hl;exact nL g3 g5 (l:=l) hr h1 (fun hf=>by rw [g6] at hf; exact absurd hf Cf) (fun _=>⟨hl,hq⟩)
      ·cases hq
    obtain ⟨c,k1,k2⟩:=key;refine ao h ?_ k2;have Ns:fl[j]?=some f:=by simpa using g1
    simp [execOp,ho,Instr.field,run_underlying e2,Ns,fD,asAgg,g2,k1]
   ·cases hq
  ·cases hq
 ·cases hq
theorem FA (h:aX E R w β s a) (t:TypeId) (x ix:Operand) (ho:o.op=.index t x ix) {v:AV} (hq:Fl E t (bw E s.ae x) (bw E s.ae ix)=some (true,v)) :
  bH E R w β s a o (s.put o.dst (.v v)):=by
 have rx:=aQ h x;have ri:=aQ h ix;unfold Fl at hq;split at hq
 ·rename_i i l k n hi hx WW;rw [hx] at rx;rw [WW] at ri;have Qx:Rel R w (.int k n) (a.eval ix):=ri;have dH:Rel R w (.str l) (a.eval x):=rx;generalize Nt:a.eval ix=iv at Qx;generalize fD:a.eval x=xv at dH;cases Qx;cases dH;obtain ⟨gY,u,e1,e2,e3,e4,e5,e6⟩:=bT E hi;split at hq
  ·rename_i hk;rw [hk] at e5;have:=lE e5;subst this;injection hq with hq;injection hq with mA kO;subst kO;obtain ⟨Be,IX⟩:=of_decide_eq_true mA;have bO:n.toNat < l.length:=by omega
   refine ao h (c:=.int .u8 (l.getD n.toNat 0).toNat) ?_ (Rel.int _ _);have kP:(⟨⟨l⟩⟩:ByteArray)[n.toNat]?=some (l.getD n.toNat 0):=by
    have hs:n.toNat < (⟨⟨l⟩⟩:ByteArray).size:=bO;rw [getElem?_pos (⟨⟨l⟩⟩:ByteArray) n.toNat hs];congr 1;simp [List.getD,List.getElem?_eq_getElem bO];rfl
   simp [execOp,ho,Instr.index,Nt,fD,asIntOf,run_underlying e2,Be,kP]
  ·cases hq
 ·rename_i i cs k n hi hx WW;rw [hx] at rx;rw [WW] at ri;have Qx:Rel R w (.int k n) (a.eval ix):=ri;have dH:Rel R w (.agg cs) (a.eval x):=rx;generalize Nt:a.eval ix=iv at Qx;generalize fD:a.eval x=xv at dH;cases Qx;cases dH with
  | @agg _ vs hr h1=>
  obtain ⟨gY,u,e1,e2,e3,e4,e5,e6⟩:=bT E hi;split at hq
  ·rename_i len esz ag hk;rw [hk] at e5;obtain ⟨e,ie,ue,rfl,f1,f2,f3,f4⟩:=pU e5;split at hq
   ·rename_i v' RR;injection hq with hq;injection hq with mA kO;subst kO;have gq:=of_decide_eq_true mA;have key:∃ c,(part e ⟨vs⟩ (n.toNat * esz)).run E.P w=.ok c w∧Rel R w v' c:=by
     split at RR
     ·rename_i Cf;split at RR
      ·rename_i l hl;exact nL f1 f3 (l:=l) hr h1 (fun _=>⟨by rw [f2]; exact hl,RR⟩) (fun hf=>by rw [f4,Cf] at hf; cases hf)
      ·cases RR
     ·rename_i Cf;split at RR
      ·rename_i l hl;exact nL f1 f3 (l:=l) hr h1 (fun hf=>by rw [f4] at hf; exact absurd hf Cf) (fun _=>⟨hl,RR⟩)
      ·cases RR
    obtain ⟨c,k1,k2⟩:=key;refine ao h ?_ k2;simp [execOp,ho,Instr.index,Nt,fD,asIntOf,run_underlying e2,gq,run_sizeOf w f1,f2,k1]
   ·cases hq
  ·cases hq
 ·cases hq
theorem Cg (h:aX E R w β s a) (x:Operand) (j:Nat) (ho:o.op=.extract x j) {vs:List AV} {v:AV} (hx:bw E s.ae x=.v (.bD vs)) (hn:nth vs j=some v) :
  bH E R w β s a o (s.put o.dst (.v v)):=by
 have rx:=aQ h x;rw [hx] at rx;have dH:Rel R w (.bD vs) (a.eval x):=rx;generalize fD:a.eval x=xv at dH;cases dH with
 | @bD _ us hr=>
 rw [aV] at hn;obtain ⟨c,h1,h2⟩:=hr.get hn;refine ao h ?_ h2;simp [execOp,ho,Instr.extract,fD,h1]
theorem gu (h:aX E R w β s a):∀ {l:List Operand} {vs:List AV},nf E s.ae l=some vs→aL R w vs (l.map a.eval)
 |[],vs,hl=>by simp [nf] at hl; subst hl; exact .nil
 |x :: l,vs,hl=>by
  unfold nf at hl;split at hl
  ·rename_i v r h1 h2;cases hl;have:=aQ h x;rw [h1] at this;exact .cons this (gu h h2)
  ·cases hl
theorem Ay (h:aX E R w β s a) (g:FuncId) (x y:Array Operand) (ho:o.op=.makeFunc (.func g) x y) {p q:List AV} (hp:nf E s.ae x.toList=some p) (hq:nf E s.ae y.toList=some q) :
  bH E R w β s a o (s.put o.dst (.v (.fn g p q))):=by
 have h1:=gu h hp;have h2:=gu h hq;refine ao h (c:=.func (.func g) ⟨x.toList.map a.eval⟩ ⟨y.toList.map a.eval⟩) ?_ (Rel.fn h1 h2);have e1:x.map a.eval=⟨x.toList.map a.eval⟩:=Array.ext' (by simp);have e2:y.map a.eval=⟨y.toList.map a.eval⟩:=Array.ext' (by simp);simp [execOp,ho,Instr.makeFunc,e1,e2]
end ops
end Go.Am
namespace Go.Am
open Go
section ops
variable {E:Env} {R:ai} {w:World} {β:Nat→Nat} {s:St} {a:Act} {o:Oper}
theorem size_bytes (l:List UInt8):(⟨⟨l⟩⟩:ByteArray).size=l.length:=rfl
theorem ta (l:List UInt8):(⟨⟨l⟩⟩:ByteArray).toList=l:=by rw [ByteArray.toList_eq]
theorem Ch (l r:List UInt8):((⟨⟨l⟩⟩:ByteArray)++⟨⟨r⟩⟩)=⟨⟨l++r⟩⟩:=by
 apply ByteArray.ext;rw [ByteArray.data_append];simp
theorem IZ (op:BinOp) (t:TypeId) (x y:Operand) (k k':IntKind) (n m:Int):(eqGuard op t x y (.int k n) (.int k' m)).run E.P w=.ok () w:=by
 unfold eqGuard;cases op <;> rfl
theorem I0 (op:BinOp) (t:TypeId) (x y:Operand) (n m:ByteArray):(eqGuard op t x y (.string n) (.string m)).run E.P w=.ok () w:=by
 unfold eqGuard;cases op <;> rfl
theorem FB (h:aX E R w β s a) (op:BinOp) (t u:TypeId) (x y:Operand) (ho:o.op=.binOp op t x y u) {p q v:AV} (hx:bw E s.ae x=.v p) (hy:bw E s.ae y=.v q) (hv:Dq op p q=some (true,v)) :
  bH E R w β s a o (s.put o.dst (.v v)):=by
 have rx:=aQ h x;have ry:=aQ h y;rw [hx] at rx;rw [hy] at ry;have dH:Rel R w p (a.eval x):=rx;have pJ:Rel R w q (a.eval y):=ry;have key:∃ c,(do eqGuard op t x y (a.eval x) (a.eval y); binOp op t (a.eval x) (a.eval y):Sem Value).run E.P w=.ok c w∧Rel R w v c:=by
  generalize fD:a.eval x=xv at dH;generalize V1:a.eval y=yv at pJ;unfold Dq at hv;split at hv
  ·rename_i k n k' m;cases dH;cases pJ;simp only [Sem.run_bind,IZ,Result.andThen_ok];split at hv
   ·injection hv with hv;injection hv with h1 h2;subst h2;have hm:=of_decide_eq_true h1;have RS:¬ m < 0:=by omega
    exact ⟨.int k (k.wrap (n * 2 ^ (min m.toNat k.bits))),by simp [binOp,Op.shift,RS],.int _ _⟩
   ·injection hv with hv;injection hv with h1 h2;subst h2;have hm:=of_decide_eq_true h1;have RS:¬ m < 0:=by omega
    exact ⟨.int k (n.fdiv (2 ^ (min m.toNat k.bits))),by simp [binOp,Op.shift,RS],.int _ _⟩
   ·rename_i FC I1;split at hv
    ·rename_i IY;subst IY;split at hv
     ·cases hv; exact ⟨.int k (k.wrap (n+m)),by simp [binOp,Op.intArith],.int _ _⟩
     ·cases hv; exact ⟨.int k (k.wrap (n - m)),by simp [binOp,Op.intArith],.int _ _⟩
     ·cases hv; exact ⟨.int k (k.wrap (n * m)),by simp [binOp,Op.intArith],.int _ _⟩
     ·injection hv with hv;injection hv with h1 h2;subst h2;have hm:¬ m=0:=by simpa using h1
      exact ⟨.int k (k.wrap (n.tdiv m)),by simp [binOp,Op.intDiv,hm],.int _ _⟩
     ·injection hv with hv;injection hv with h1 h2;subst h2;have hm:¬ m=0:=by simpa using h1
      exact ⟨.int k (n.tmod m),by simp [binOp,Op.intDiv,hm],.int _ _⟩
     ·cases hv; exact ⟨.int k (RE k n m),by simp [binOp,Op.intBits,RE],.int _ _⟩
     ·cases hv; exact ⟨.int k (orI k n m),by simp [binOp,Op.intBits,orI],.int _ _⟩
     ·cases hv; exact ⟨.int k (RG k n m),by simp [binOp,Op.intBits,RG],.int _ _⟩
     ·cases hv; exact ⟨.bool (n == m),by simp [binOp,Op.intCmp],.bool _⟩
     ·cases hv; exact ⟨.bool (n != m),by simp [binOp,Op.intCmp],.bool _⟩
     ·cases hv; exact ⟨.bool (decide (n < m)),by simp [binOp,Op.intCmp],.bool _⟩
     ·cases hv; exact ⟨.bool (decide (n≤m)),by simp [binOp,Op.intCmp],.bool _⟩
     ·cases hv; exact ⟨.bool (decide (n > m)),by simp [binOp,Op.intCmp],.bool _⟩
     ·cases hv; exact ⟨.bool (decide (n≥m)),by simp [binOp,Op.intCmp],.bool _⟩
     ·cases hv
    ·cases hv
  ·rename_i l r;cases dH;cases pJ;simp only [Sem.run_bind,I0,Result.andThen_ok];split at hv
   ·injection hv with hv;injection hv with h1 h2;subst h2;have hm:=of_decide_eq_true h1;refine ⟨.string ⟨⟨l++r⟩⟩,?_,.str _⟩;have RT:¬ ((l.length+r.length:Nat):Int) > IntKind.i64.max:=by
     have:IntKind.i64.max=9223372036854775807:=by decide
     omega
    simp only [binOp,Op.stringOp,size_bytes,if_neg RT,Ch,Sem.run_pure]
   ·cases hv; exact ⟨.bool (l == r),by simp [binOp,Op.stringOp],.bool _⟩
   ·cases hv; exact ⟨.bool (!(l == r)),by simp [binOp,Op.stringOp],.bool _⟩
   ·cases hv; exact ⟨.bool (Op.bytesLess l r),by simp [binOp,Op.stringOp],.bool _⟩
   ·cases hv; exact ⟨.bool (Op.bytesLess l r || l == r),by simp [binOp,Op.stringOp],.bool _⟩
   ·cases hv; exact ⟨.bool (!(Op.bytesLess l r || l == r)),by simp [binOp,Op.stringOp],.bool _⟩
   ·cases hv; exact ⟨.bool (!(Op.bytesLess l r)),by simp [binOp,Op.stringOp],.bool _⟩
   ·cases hv
  ·cases hv
 obtain ⟨c,k1,k2⟩:=key;refine ao h (c:=c) ?_ k2;simp only [Sem.run_bind] at k1;simp only [execOp,ho,Sem.run_bind,k1,Result.andThen_ok,Sem.run_pure]
theorem li {t:TypeId} {i:TypeInfo} {u:TypeDesc} (h1:E.P.info? t=some i) (h2:E.P.underlying t=some u) {off:Nat} {cs:List AV} {vs:List Value} {v:AV} (hr:aL R w cs vs) (h3:∀ x∈vs,x.oneCell'=true)
  (h:Hr (kp u) off i.size cs=some v):∃ c,(part t ⟨vs⟩ off).run E.P w=.ok c w∧Rel R w v c:=by
 unfold Hr at h;cases ha:kp u with
 |true=>
  rw [ha] at h;simp only [if_true] at h;split at h
  ·rename_i l hl;exact nL h1 h2 hr h3 (fun _=>⟨hl,h⟩) (fun e=>by rw [ha] at e; cases e)
  ·cases h
 |false=>
  rw [ha] at h;simp only [Bool.false_eq_true,if_false] at h;split at h
  ·rename_i l hl;exact nL h1 h2 hr h3 (fun e=>by rw [ha] at e; cases e) (fun _=>⟨hl,h⟩)
  ·cases h
theorem Dv {ek:TypeId→EK} {d:Nat} (ih:∀ (t:TypeId) (a b:AV) (r:Bool) (x y:Value),mB (ek t) a b=some r→Rel R w a x→Rel R w b y→(Op.equalIn d t x y).run E.P w=.ok r w) {xs ys:List AV} {vs us:List Value}
  (hx:aL R w xs vs) (wH:∀ x∈vs,x.oneCell'=true) (hy:aL R w ys us) (N5:∀ x∈us,x.oneCell'=true) :
  ∀ (fs:List Field) (l:Qu) (r:Bool),Fj E.P ek fs=some l→uN l xs ys=some r→(Op.eqFields d ⟨vs⟩ ⟨us⟩ fs).run E.P w=.ok r w
 |[],l,r,hl,hr=>by
  simp [Fj] at hl;subst hl;simp [uN] at hr;subst hr;rfl
 |f :: fs,l,r,hl,hr=>by
  unfold Fj at hl;split at hl
  ·cases hl
  ·rename_i hn;split at hl
   ·rename_i i u l' h1 h2 h3;cases hl;unfold uN at hr;split at hr
    ·rename_i a b ha hb;split at hr
     ·rename_i p q hp hq;cases hr;obtain ⟨c,k1,k2⟩:=li h1 h2 hx wH ha;obtain ⟨c',k3,k4⟩:=li h1 h2 hy N5 hb;have cz : f.name ≠ "_" := by simpa using hn
      have he:=ih f.type a b p c c' hp k2 k4;have xT:=Dv ih hx wH hy N5 fs l' q h3 hq;simp only [Op.eqFields,cz,ne_eq,not_false_eq_true,if_true,Sem.run_bind,k1,k3,he,Result.andThen_ok];cases p with
      |true=>simp [xT]
      |false=>simp
     ·cases hr
    ·cases hr
   ·cases hl
theorem Bf {ek:EK} {d:Nat} {e:TypeId} {i:TypeInfo} {u:TypeDesc} (h1:E.P.info? e=some i) (h2:E.P.underlying e=some u) (ih:∀ (a b:AV) (r:Bool) (x y:Value),mB ek a b=some r→Rel R w a x→Rel R w b y→(Op.equalIn d e x y).run E.P w=.ok r w) {xs ys:List AV} {vs us:List Value}
  (hx:aL R w xs vs) (wH:∀ x∈vs,x.oneCell'=true) (hy:aL R w ys us) (N5:∀ x∈us,x.oneCell'=true) :
  ∀ (m k:Nat) (r:Bool),uN (xI i.size (kp u) ek m k) xs ys=some r→(Op.eqItems d e i.size ⟨vs⟩ ⟨us⟩ (List.range' k m)).run E.P w=.ok r w
 |0,k,r,hr=>by
  simp [xI,uN] at hr;subst hr;rfl
 |m+1,k,r,hr=>by
  unfold xI uN at hr;split at hr
  ·rename_i a b ha hb;split at hr
   ·rename_i p q hp hq;cases hr;obtain ⟨c,k1,k2⟩:=li h1 h2 hx wH ha;obtain ⟨c',k3,k4⟩:=li h1 h2 hy N5 hb;have he:=ih a b p c c' hp k2 k4;have xT:=Bf h1 h2 ih hx wH hy N5 m (k+1) q hq;simp only [List.range'_succ,Op.eqItems,Sem.run_bind,k1,k3,he,Result.andThen_ok];cases p with
    |true=>simpa using xT
    |false=>simp
   ·cases hr
  ·cases hr
theorem Ci:∀ (n d:Nat),n≤d→∀ (t:TypeId) (a b:AV) (r:Bool) (x y:Value),mB (rH E.P n t) a b=some r→Rel R w a x→Rel R w b y→(Op.equalIn d t x y).run E.P w=.ok r w
 |0,_,_,t,a,b,r,x,y,h,_,_=>by simp [rH,mB] at h
 |n+1,0,hd,_,_,_,_,_,_,_,_,_=>by omega
 |n+1,d+1,hd,t,a,b,r,x,y,h,hx,hy=>by
  unfold rH at h;split at h
  ·rename_i hu;unfold mB at h;split at h
   all_goals (try contradiction)
   cases hx; cases hy; cases h;exact run_equalIn_bool' w d t _ _ hu
  ·rename_i k hu;unfold mB at h;split at h
   all_goals (try contradiction)
   split at h
   ·rename_i hk;subst hk;cases hx; cases hy; cases h;exact run_equalIn_int w d t _ k _ _ hu
   ·cases h
  ·rename_i hu;unfold mB at h;split at h
   all_goals (try contradiction)
   cases hx; cases hy; cases h;rw [run_equalIn_string w d t _ _ hu,ta,ta]
  ·rename_i fs hu;split at h
   ·simp [mB] at h
   ·rename_i hs;split at h
    ·rename_i l hl;unfold mB at h;split at h
     all_goals (try contradiction)
     rename_i Cc xs ys hk;cases hk;cases hx with
     |agg hx wH=>
     cases hy with
     |agg hy N5=>
     have hf:E.P.fieldsOf t=fs:=by simp [Program.fieldsOf,hu]
     rw [run_equalIn_struct w d t _ _ (by rw [hf]; exact hu) (by simpa using hs),hf];exact Dv (fun t a b r x y=>Ci n d (by omega) t a b r x y) hx wH hy N5 fs.toList _ r hl h
    ·simp [mB] at h
  ·rename_i m e hu;split at h
   ·rename_i i ud g1 g2;unfold mB at h;split at h
    all_goals (try contradiction)
    rename_i Cc xs ys hk;cases hk;cases hx with
    |agg hx wH=>
    cases hy with
    |agg hy N5=>
    have tc:E.P.cellsOf e=i.size:=by simp [Program.cellsOf,g1]
    rw [run_equalIn_array (P:=E.P) w d _ _ hu g1,tc,List.range_eq_range'];exact Bf g1 g2 (fun a b r x y=>Ci n d (by omega) e a b r x y) hx wH hy N5 m 0 r h
   ·simp [mB] at h
  ·simp [mB] at h
theorem lj {t:TypeId} {i:TI} (hi:E.ti t=some i) {p q:AV} {r:Bool} {x y:Value} (h:mB i.ek p q=some r) (hx:Rel R w p x) (hy:Rel R w q y) :
  (Op.equalIn 10000 t x y).run E.P w=.ok r w∧((∃ b c,x=.bool b∧y=.bool c)∨(∃ k n k' m,x=.int k n∧y=.int k' m)∨(∃ n m,x=.string n∧y=.string m)∨(∃ n m,x=.agg n∧y=.agg m∧E.P.eqGuardType E.P.depth t=false)):=by
 have Bg:i.ek=vC E.P t:=by
  have:=E.IL t i hi;unfold IK at this;split at this
  ·split at this
   ·cases this; rfl
   ·cases this
  ·cases this
 rw [Bg] at h;have hg:mB (rH E.P 6 t) p q=some r∧((∃ l,rH E.P 6 t=.st l)→E.P.eqGuardType E.P.depth t=false):=by
  unfold vC at h;split at h
  ·rename_i l hl;split at h
   ·simp [mB] at h
   ·rename_i Nu;exact ⟨by rw [hl]; exact h,fun _=>by simpa using Nu⟩
  ·rename_i k hk;exact ⟨h,fun ⟨l,hl⟩=>absurd hl (hk l)⟩
 refine ⟨Ci 6 10000 (by omega) t p q r x y hg.1 hx hy,?_⟩;have h2:=hg.1;have h3:=hg.2;generalize rH E.P 6 t=k at h2 h3;unfold mB at h2;split at h2
 ·cases hx; cases hy; exact .inl ⟨_,_,rfl,rfl⟩
 ·cases hx; cases hy; exact .inr (.inl ⟨_,_,_,_,rfl,rfl⟩)
 ·cases hx; cases hy; exact .inr (.inr (.inl ⟨_,_,rfl,rfl⟩))
 ·cases hx; cases hy; exact .inr (.inr (.inr ⟨_,_,rfl,rfl,h3 ⟨_,rfl⟩⟩))
 ·cases h2
theorem KV (h:aX E R w β s a) (op:BinOp) (t u:TypeId) (x y:Operand) (ho:o.op=.binOp op t x y u) {p q:AV} {r:Bool} (hx:bw E s.ae x=.v p) (hy:bw E s.ae y=.v q) (hb:Dq op p q=none) (hv:eqO E op t p q=some r) :
  bH E R w β s a o (s.put o.dst (.v (.bool r))):=by
 have rx:=aQ h x;have ry:=aQ h y;rw [hx] at rx;rw [hy] at ry;have dH:Rel R w p (a.eval x):=rx;have pJ:Rel R w q (a.eval y):=ry;have key:(do eqGuard op t x y (a.eval x) (a.eval y); binOp op t (a.eval x) (a.eval y):Sem Value).run E.P w=.ok (.bool r) w:=by
  generalize fD:a.eval x=xv at dH;generalize V1:a.eval y=yv at pJ;unfold eqO at hv;split at hv
  ·rename_i i hi;obtain ⟨k1,k2⟩:=lj hi hv dH pJ;rcases k2 with ⟨b,c,rfl,rfl⟩|⟨k,n,k',m,rfl,rfl⟩|⟨n,m,rfl,rfl⟩|⟨n,m,rfl,rfl,hg⟩
   ·have FD:(eqGuard .eql t x y (.bool b) (.bool c)).run E.P w=.ok () w:=rfl;simp [FD,binOp,Op.equal,Op.maxDepth,k1]
   ·cases dH; cases pJ; simp [Dq] at hb;cases hk:i.ek <;> simp [hk,mB] at hv;exact absurd hv.1 hb
   ·cases dH; cases pJ; simp [Dq] at hb
   ·simp only [Sem.run_bind,run_eqGuard_agg w _ t x y n m hg,Result.andThen_ok,run_eql_struct,k1]
  ·rename_i i hi;split at hv
   ·rename_i r' lF;cases hv;obtain ⟨k1,k2⟩:=lj hi lF dH pJ;rcases k2 with ⟨b,c,rfl,rfl⟩|⟨k,n,k',m,rfl,rfl⟩|⟨n,m,rfl,rfl⟩|⟨n,m,rfl,rfl,hg⟩
    ·have FD:(eqGuard .neq t x y (.bool b) (.bool c)).run E.P w=.ok () w:=rfl;simp [FD,binOp,Op.equal,Op.maxDepth,k1]
    ·cases dH; cases pJ; simp [Dq] at hb;cases hk:i.ek <;> simp [hk,mB] at lF;exact absurd lF.1 hb
    ·cases dH; cases pJ; simp [Dq] at hb
    ·simp only [Sem.run_bind,run_eqGuard_agg w _ t x y n m hg,Result.andThen_ok,run_neq_struct,k1]
   ·cases hv
  ·cases hv
 refine ao h (c:=.bool r) ?_ (.bool r);simp only [Sem.run_bind] at key;simp only [execOp,ho,Sem.run_bind,key,Result.andThen_ok,Sem.run_pure]
theorem Dw {p:AV} {r:Bool} {x:Value} (hv:NX p=some r) (hx:Rel R w p x):(Zs p=true∧∃ a n c,x=.slice a n c∧a.isNone=r)∨(Zs p=false∧∃ a,x=.pointer a∧a.isNone=r):=by
 unfold NX at hv;split at hv
 ·cases hv;cases hx with
  |jD=>exact .inl ⟨rfl,_,_,_,rfl,rfl⟩
  |list _ _ _ hk=>exact hk.elim
 ·cases hv;cases hx with
  |list _ _ _ _=>exact .inl ⟨rfl,_,_,_,rfl,rfl⟩
 ·cases hv;cases hx with
  |list _ _ _ _=>exact .inl ⟨rfl,_,_,_,rfl,rfl⟩
 ·cases hv;cases hx with
  |jB _ _=>exact .inl ⟨rfl,_,_,_,rfl,rfl⟩
 ·cases hv;cases hx with
  |cZ _ _ _=>exact .inl ⟨rfl,_,_,_,rfl,rfl⟩
 ·cases hv;cases hx;exact .inr ⟨rfl,_,rfl,rfl⟩
 ·cases hv;cases hx with
  |ptr _=>exact .inr ⟨rfl,_,rfl,rfl⟩
 ·cases hv;cases hx with
  |ep _=>exact .inr ⟨rfl,_,rfl,rfl⟩
 ·cases hv
theorem xU {p:AV} {b:Bool} {x:Value} (hv:Fq p=some b) (hx:Rel R w p x):(b=true∧x=.slice none 0 0)∨(b=false∧x=.pointer none):=by
 unfold Fq at hv;split at hv
 ·cases hv;cases hx with
  |jD=>exact .inl ⟨rfl,rfl⟩
  |list _ _ _ hk=>exact hk.elim
 ·cases hv;cases hx;exact .inr ⟨rfl,rfl⟩
 ·cases hv
theorem N6 {P:Program} {t:TypeId} (h:RI P t=true):∃ e,P.underlying t=some (.slice e):=by
 unfold RI at h;split at h
 ·rename_i e he; exact ⟨e,he⟩
 ·cases h
theorem N7 {P:Program} {t:TypeId} (h:RJ P t=true):P.underlying t=some (.pointer (P.pointee t)):=by
 unfold RJ at h;split at h
 ·rename_i e he;unfold Program.pointee;rw [he]
 ·cases h
theorem I2 (h:aX E R w β s a) (op:BinOp) (t u:TypeId) (x y:Operand) (ho:o.op=.binOp op t x y u) {p q:AV} {r:Bool} (hx:bw E s.ae x=.v p) (hy:bw E s.ae y=.v q) (hv:RK E op t p q=some r) :
  bH E R w β s a o (s.put o.dst (.v (.bool r))):=by
 have rx:=aQ h x;rw [hx] at rx;have ry:=aQ h y;rw [hy] at ry;have dH:Rel R w p (a.eval x):=rx;have pJ:Rel R w q (a.eval y):=ry;have key:(do eqGuard op t x y (a.eval x) (a.eval y); binOp op t (a.eval x) (a.eval y):Sem Value).run E.P w=.ok (.bool r) w:=by
  generalize fD:a.eval x=xv at dH;generalize V1:a.eval y=yv at pJ;have two:∀ {r0:Bool},NX p=some r0→vF E.P t p q=true→(∃ a n c e,xv=.slice a n c∧yv=.slice none 0 0∧a.isNone=r0∧E.P.underlying t=some (.slice e))∨(∃ a,xv=.pointer a∧yv=.pointer none∧a.isNone=r0∧E.P.underlying t=some (.pointer (E.P.pointee t))):=by
   intro r0 h1 h2;unfold vF at h2;split at h2
   ·rename_i hb;rw [Bool.and_eq_true] at h2;obtain ⟨e,he⟩:=N6 h2.2;rcases xU hb pJ with ⟨_,rfl⟩|⟨hf,_⟩
    ·rcases Dw h1 dH with ⟨_,a,n,c,rfl,hn⟩|⟨hs,_⟩
     ·exact .inl ⟨a,n,c,e,rfl,rfl,hn,he⟩
     ·rw [h2.1] at hs; cases hs
    ·cases hf
   ·rename_i hb;rw [Bool.and_eq_true] at h2;have hp:=N7 h2.2;rcases xU hb pJ with ⟨hf,_⟩|⟨_,rfl⟩
    ·cases hf
    ·rcases Dw h1 dH with ⟨hs,_⟩|⟨_,a,rfl,hn⟩
     ·rw [hs] at h2; cases h2.1
     ·exact .inr ⟨a,rfl,rfl,hn,hp⟩
   ·cases h2
  unfold RK at hv;split at hv
  ·rename_i r0 h1;obtain ⟨h2,h3⟩:vF E.P t p q=true∧_:=by
    cases h2:vF E.P t p q with
    |false=>rw [h2] at hv; cases hv
    |true=>rw [h2] at hv; exact ⟨rfl,Option.some.inj hv⟩
   subst h3;rcases two h1 h2 with ⟨a,n,c,e,rfl,rfl,hn,he⟩|⟨a,rfl,rfl,hn,hp⟩
   ·have hg:(eqGuard .eql t x y (.slice a n c) (.slice none 0 0)).run E.P w=.ok () w:=rfl;simp only [Sem.run_bind,hg,Result.andThen_ok,Lib.run_eql_slice_nil w t e a n c 0 0 he,hn]
   ·have hg:(eqGuard .eql t x y (.pointer a) (.pointer none)).run E.P w=.ok () w:=rfl;simp only [Sem.run_bind,hg,Result.andThen_ok,run_eql_pointer_nil w t a hp,hn]
  ·rename_i r0 h1;obtain ⟨h2,h3⟩:vF E.P t p q=true∧_:=by
    cases h2:vF E.P t p q with
    |false=>rw [h2] at hv; cases hv
    |true=>rw [h2] at hv; exact ⟨rfl,Option.some.inj hv⟩
   subst h3;rcases two h1 h2 with ⟨a,n,c,e,rfl,rfl,hn,he⟩|⟨a,rfl,rfl,hn,hp⟩
   ·have hg:(eqGuard .neq t x y (.slice a n c) (.slice none 0 0)).run E.P w=.ok () w:=rfl;simp only [Sem.run_bind,hg,Result.andThen_ok,run_neq_slice_nil w t e a n c he,hn]
   ·have hg:(eqGuard .neq t x y (.pointer a) (.pointer none)).run E.P w=.ok () w:=rfl;simp only [Sem.run_bind,hg,Result.andThen_ok,run_neq_pointer_nil w t a hp,hn]
  ·cases hv
 refine ao h (c:=.bool r) ?_ (.bool r);simp only [Sem.run_bind] at key;simp only [execOp,ho,Sem.run_bind,key,Result.andThen_ok,Sem.run_pure]
theorem KW (h:aX E R w β s a) (t:TypeId) (x:Operand) (ho:o.op=.unOp .not t x) {b:Bool} (hx:bw E s.ae x=.v (.bool b)):bH E R w β s a o (s.put o.dst (.v (.bool (!b)))):=by
 have rx:=aQ h x;rw [hx] at rx;have dH:Rel R w (.bool b) (a.eval x):=rx;generalize fD:a.eval x=xv at dH;cases dH;refine ao h (c:=.bool (!b)) ?_ (Rel.bool _);simp [execOp,ho,Op.unary,fD]
theorem KX (h:aX E R w β s a) (t:TypeId) (x:Operand) (ho:o.op=.unOp .neg t x) {k:IntKind} {n:Int} (hx:bw E s.ae x=.v (.int k n)):bH E R w β s a o (s.put o.dst (.v (.int k (k.wrap (0 - n))))):=by
 have rx:=aQ h x;rw [hx] at rx;have dH:Rel R w (.int k n) (a.eval x):=rx;generalize fD:a.eval x=xv at dH;cases dH;refine ao h (c:=.int k (k.wrap (0 - n))) ?_ (Rel.int _ _);simp [execOp,ho,Op.unary,Op.intArith,fD]
theorem Bh:∀ (us:List Value) (off j0:Nat) (cells:Array Value),off+j0+us.length≤cells.size →
  ((us.zipIdx j0).foldl (fun (cs:Array Value) (p:Value × Nat)=>cs.setIfInBounds (off+p.2) p.1) cells).toList=cells.toList.take (off+j0)++us++cells.toList.drop (off+j0+us.length)
 |[],off,j0,cells,_=>by simp
 |u :: us,off,j0,cells,h=>by
  have bO:off+j0 < cells.size:=by simp at h; omega
  have ih:=Bh us off (j0+1) (cells.setIfInBounds (off+j0) u) (by simp at h ⊢; omega);simp only [List.zipIdx_cons,List.foldl_cons];rw [ih];have e:=list_seg_step cells.toList (off+j0) u us (by simp at h ⊢; omega);simpa [Array.toList_setIfInBounds,Nat.add_assoc] using e
theorem pV (place:Nat→Option (Nat × Nat)):∀ {ps:List (Nat × AV)} {qs:List (Nat × Value)} {cells xV:List AV} {vs:List Value},
  aL R w (ps.map (·.2)) (qs.map (·.2))→ps.map (·.1)=qs.map (·.1)→aL R w cells vs→(∀ x∈vs,x.oneCell'=true)→vE place cells ps=some xV →
  ∃ us,Instr.fill place ⟨vs⟩ qs=some ⟨us⟩∧aL R w xV us∧∀ x∈us,x.oneCell'=true
 |[],qs,cells,xV,vs,h1,h2,h3,h4,h5=>by
  have:qs=[]:=by simpa using h2.symm
  subst this;simp [vE] at h5;subst h5;exact ⟨vs,rfl,h3,h4⟩
 |(i,v) :: ps,[],cells,xV,vs,h1,h2,h3,h4,h5=>by simp at h2
 |(i,v) :: ps,(j,c) :: qs,cells,xV,vs,h1,h2,h3,h4,h5=>by
  simp only [List.map_cons,List.cons.injEq] at h2;obtain ⟨rfl,h2⟩:=h2;cases h1 with
  |cons hr h1=>
  unfold vE at h5;split at h5
  ·cases h5
  ·rename_i off sz hp;split at h5
   ·rename_i gq;simp only [Bool.and_eq_true] at gq;obtain ⟨⟨Nq,hlen⟩,hle⟩:=gq;have hlen:=Nat.eq_of_beq_eq_true hlen;have hle:=Nat.le_of_ble_eq_true hle;obtain ⟨c1,c2⟩:=Rel.cells hr Nq;have Dh:c.cells.toList.length=sz:=by rw [← c1.length]; exact hlen
    have hb:off+v.cells.length≤cells.length:=by omega
    obtain ⟨us,u1,u2,u3⟩:=pV place h1 h2 (h3.b9 c1 hb) (jF h4 c2) h5;refine ⟨us,?_,u2,u3⟩;have fb:c.cells.size=sz:=by simpa using Dh
    have Qy:vs.length=cells.length:=h3.length.symm;have WX:c.cells.zipIdx.foldl (fun (cs:Array Value) (x:Value × Nat)=>cs.setIfInBounds (off+x.2) x.1) ⟨vs⟩=⟨vs.take off++c.cells.toList++vs.drop (off+c.cells.toList.length)⟩:=by
     apply Array.ext';rw [← Array.foldl_toList,Array.toList_zipIdx];have:=Bh c.cells.toList off 0 ⟨vs⟩ (by simp only [List.size_toArray]; omega);simpa using this
    have cm:(c.cells.size≠sz || decide (off+c.cells.size > (⟨vs⟩:Array Value).size))=false:=by
     have FC:decide (c.cells.size≠sz)=false:=by simp [fb]
     have I1:decide (off+c.cells.size > (⟨vs⟩:Array Value).size)=false:=by
      rw [decide_eq_false_iff_not,fb];show ¬ off+sz > vs.length;omega
     rw [FC,I1];rfl
    unfold Instr.fill;simp only [hp,cm,Bool.false_eq_true,if_false];rw [← u1];exact congrArg (fun z=>Instr.fill place z qs) WX
   ·cases h5
theorem xi (h:aX E R w β s a):∀ {l:List (Nat × Operand)} {ps:List (Nat × AV)},Np E s.ae l=some ps →
  aL R w (ps.map (·.2)) ((l.map fun x=>(x.1,a.eval x.2)).map (·.2))∧ps.map (·.1)=(l.map fun x=>(x.1,a.eval x.2)).map (·.1)
 |[],ps,hl=>by simp [Np] at hl; subst hl; exact ⟨.nil,rfl⟩
 |(i,x) :: l,ps,hl=>by
  unfold Np at hl;split at hl
  ·rename_i v r h1 h2;cases hl;have hx:=aQ h x;rw [h1] at hx;obtain ⟨g1,g2⟩:=xi h h2;exact ⟨.cons hx g1,by simpa using g2⟩
  ·cases hl
theorem FE (h:aX E R w β s a) (t:TypeId) (parts:Array (Nat × Operand)) (ho:o.op=.build t parts) {v:AV} (hv:oA E s t parts.toList=some v) :
  bH E R w β s a o (s.put o.dst (.v v)):=by
 unfold oA at hv;split at hv
 ·rename_i i ps hi Ku;split at hv
  ·rename_i z hz;split at hv
   ·rename_i cs tc;split at hv
    ·rename_i Cf;cases hv;simp only [Bool.and_eq_true] at Cf;obtain ⟨Cf,pK⟩:=Cf;obtain ⟨gY,u,e1,e2,e3,e4,e5,e6⟩:=bT E hi;rw [hz] at e6;obtain ⟨zc,pD,E4⟩:=dE e6;obtain ⟨p1,p2⟩:=xi h Ku;obtain ⟨c1,c2⟩:=Rel.cells (E4 R w) pK;have RU:(parts.map fun (x:Nat × Operand)=>(x.1,a.eval x.2)).toList=parts.toList.map fun x=>(x.1,a.eval x.2):=by simp
     have key:∃ us,E.P.built t (parts.toList.map fun x=>(x.1,a.eval x.2))=some ⟨us⟩∧aL R w cs us∧∀ x∈us,x.oneCell'=true:=by
      cases u <;> simp only [kp] at e4 <;> first | (rw [Cf] at e4; cases e4; done) | skip
      ·rename_i n e;simp only [rG] at e5;split at e5
       ·rename_i ie ue f1 f2;injection e5 with e5;rw [← e5] at tc;obtain ⟨us,u1,u2,u3⟩:=pV (R:=R) (w:=w) _ p1 p2 c1 c2 tc;refine ⟨us,?_,u2,u3⟩;unfold Program.built;simp only [e1,e2,pD,f1];rw [← u1];rfl
       ·cases e5
      ·rename_i fs;simp only [rG] at e5;split at e5
       ·rename_i l hl;injection e5 with e5;rw [← e5] at tc;obtain ⟨us,u1,u2,u3⟩:=pV (R:=R) (w:=w) _ p1 p2 c1 c2 tc;refine ⟨us,?_,u2,u3⟩;unfold Program.built;simp only [e1,e2,pD,py hl];rw [← u1];have Zw:placeOf (.st l)=fun j=>(l.map fun x=>(x.1,x.2.1)).toArray[j]?:=by
         funext j;simp only [placeOf,aV,List.getElem?_toArray,List.getElem?_map];cases l[j]? <;> rfl
        rw [Zw]
       ·cases e5
     obtain ⟨us,u1,u2,u3⟩:=key;refine ao h (c:=.agg ⟨us⟩) ?_ (Rel.agg u2 u3);have bB:=run_build (P:=E.P) w t (parts.map fun (x:Nat × Operand)=>(x.1,a.eval x.2)) ⟨us⟩ (by rw [RU]; exact u1);simp only [execOp,ho,Sem.run_bind,bB,Result.andThen_ok,Sem.run_pure]
    ·cases hv
   ·cases hv
  ·cases hv
 ·cases hv
end ops
end Go.Am
