/- The abstract machine: lists of cells; what keeps a state's meaning; loads and stores. -/
import Derived.Test.YtophnjjjmikmeaaGreatAmKA
import Derived.Laws.CopyRow
import Derived.Laws.Slices
set_option linter.all false
namespace Go.Am
open Go
section lists
variable {α:Type}
theorem uc (n:Nat) (l:List α):ef n l=l.drop n:=by
 induction n generalizing l with
 | zero=>simp [ef]
 | succ n ih=>cases l <;> simp [ef,ih]
theorem Gq {n:Nat} {l r:List α} (h:takeN n l=some r):r=l.take n∧r.length=n:=by
 induction n generalizing l r with
 | zero=>simp [takeN] at h; subst h; simp
 | succ n ih=>
  cases l with
  | nil=>simp [takeN] at h
  | cons a l=>
   unfold takeN at h
   split at h
   ·rename_i r' hr
    cases h
    obtain ⟨h1,h2⟩:=ih hr
    exact ⟨by simp [h1],by simp [h2]⟩
   ·cases h
theorem MR {off n:Nat} {l r:List α} (h:BX off n l=some r):r=(l.drop off).take n∧r.length=n:=by
 unfold BX at h
 rw [uc] at h
 exact Gq h
theorem dh (l:List α) (off:Nat) (ys:List α) (h:off+ys.length≤l.length):bu l off ys=l.take off++ys++l.drop (off+ys.length):=by
 induction l generalizing off ys with
 | nil=>
  have hy:ys=[]:=List.eq_nil_of_length_eq_zero (by rw [List.length_nil] at h; omega)
  subst hy
  simp [bu]
 | cons a l ih=>
  cases ys with
  | nil=>simp [bu]
  | cons y ys=>
   cases off with
   | zero=>
    simp only [bu]
    rw [ih 0 ys (by simp at h ⊢; omega)]
    simp
   | succ n=>
    simp only [bu]
    rw [ih n (y :: ys) (by simp at h ⊢; omega)]
    rw [show n+1+(y :: ys).length=(n+(y :: ys).length)+1 by omega]
    simp
theorem nW (l:List α) (off:Nat) (ys:List α) (h:off+ys.length≤l.length):(bu l off ys).length=l.length:=by
 rw [dh l off ys h]
 simp
 omega
end lists
section rel
variable {R:af} {w:World}
theorem aA.length {l:List AV} {vs:List Value} (h:aA R w l vs):l.length=vs.length:=by
 induction l generalizing vs with
 | nil=>cases h; rfl
 | cons a l ih=>cases h with | cons h t=>simp [ih t]
theorem aA.get {l:List AV} {vs:List Value} (h:aA R w l vs) {i:Nat} {a:AV} (ha:l[i]?=some a):∃ c,vs[i]?=some c∧Rel R w a c:=by
 induction l generalizing vs i with
 | nil=>simp at ha
 | cons x l ih=>
  cases h with
  | cons h t=>
   cases i with
   | zero=>simp at ha; subst ha; exact ⟨_,by simp,h⟩
   | succ i=>simp at ha; obtain ⟨c,h1,h2⟩:=ih t ha; exact ⟨c,by simpa using h1,h2⟩
theorem aA.drop {l:List AV} {vs:List Value} (h:aA R w l vs) (n:Nat):aA R w (l.drop n) (vs.drop n):=by
 induction n generalizing l vs with
 | zero=>simpa using h
 | succ n ih=>cases h with
  | nil=>simpa using aA.nil
  | cons h t=>simpa using ih t
theorem aA.take {l:List AV} {vs:List Value} (h:aA R w l vs) (n:Nat):aA R w (l.take n) (vs.take n):=by
 induction n generalizing l vs with
 | zero=>simpa using aA.nil
 | succ n ih=>cases h with
  | nil=>simpa using aA.nil
  | cons h t=>simpa using aA.cons h (ih t)
theorem aA.append {l r:List AV} {vs us:List Value} (h:aA R w l vs) (k:aA R w r us):aA R w (l++r) (vs++us):=by
 induction l generalizing vs with
 | nil=>cases h; simpa using k
 | cons a l ih=>cases h with | cons h t=>exact .cons h (ih t)
theorem aA.one {a:AV} {c:Value} (h:Rel R w a c):aA R w [a] [c]:=.cons h .nil
theorem Rel.cells {a:AV} {c:Value} (h:Rel R w a c) (ht:a.aI=true):aA R w a.cells c.cells.toList∧∀ v∈c.cells.toList,v.oneCell'=true:=by
 cases h with
 | agg h h1=>exact ⟨h,h1⟩
 | bt h=>simp [AV.aI] at ht
 | bool=>exact ⟨.one (.bool _),by simp [Value.cells,Value.oneCell']⟩
 | int=>exact ⟨.one (.int _ _),by simp [Value.cells,Value.oneCell']⟩
 | str=>exact ⟨.one (.str _),by simp [Value.cells,Value.oneCell']⟩
 | gW=>exact ⟨.one .gW,by simp [Value.cells,Value.oneCell']⟩
 | ptr h=>exact ⟨.one (.ptr h),by simp [Value.cells,Value.oneCell']⟩
 | ep h=>exact ⟨.one (.ep h),by simp [Value.cells,Value.oneCell']⟩
 | gF=>exact ⟨.one .gF,by simp [Value.cells,Value.oneCell']⟩
 | gl=>exact ⟨.one .gl,by simp [Value.cells,Value.oneCell']⟩
 | ki=>exact ⟨.one .ki,by simp [Value.cells,Value.oneCell']⟩
 | jl h ho=>exact ⟨.one (.jl h ho),by simp [Value.cells,Value.oneCell']⟩
 | jO h ho=>exact ⟨.one (.jO h ho),by simp [Value.cells,Value.oneCell']⟩
 | list h hl hc hk=>exact ⟨.one (.list h hl hc hk),by simp [Value.cells,Value.oneCell']⟩
 | gC h hc=>exact ⟨.one (.gC h hc),by simp [Value.cells,Value.oneCell']⟩
 | gB h ho=>exact ⟨.one (.gB h ho),by simp [Value.cells,Value.oneCell']⟩
 | cL h ho hc=>exact ⟨.one (.cL h ho hc),by simp [Value.cells,Value.oneCell']⟩
 | gp h ho=>exact ⟨.one (.gp h ho),by simp [Value.cells,Value.oneCell']⟩
 | py h ho=>exact ⟨.one (.py h ho),by simp [Value.cells,Value.oneCell']⟩
 | fx h ho hc=>exact ⟨.one (.fx h ho hc),by simp [Value.cells,Value.oneCell']⟩
 | rp h ho=>exact ⟨.one (.rp h ho),by simp [Value.cells,Value.oneCell']⟩
 | ke=>exact ⟨.one .ke,by simp [Value.cells,Value.oneCell']⟩
 | map h=>exact ⟨.one (.map h),by simp [Value.cells,Value.oneCell']⟩
 | dz=>exact ⟨.one .dz,by simp [Value.cells,Value.oneCell']⟩
 | fn h h'=>exact ⟨.one (.fn h h'),by simp [Value.cells,Value.oneCell']⟩
 | yield h=>exact ⟨.one (.yield h),by simp [Value.cells,Value.oneCell']⟩
 | lY=>exact ⟨.one .lY,by simp [Value.cells,Value.oneCell']⟩
 | iface h=>exact ⟨.one (.iface h),by simp [Value.cells,Value.oneCell']⟩
mutual
theorem Rel.fB:∀ {a:AV} {c:Value},Rel R w a c→Rel R w a.fB c
 | _,_,.bool b=>.bool b
 | _,_,.int k n=>.int k n
 | _,_,.str l=>.str l
 | _,_,.agg h h1=>.agg h.fB h1
 | _,_,.bt h=>.bt h.fB
 | _,_,.gW=>.gW
 | _,_,.ptr h=>.ptr h
 | _,_,.ep h=>.ep h
 | _,_,.gF=>.gF
 | _,_,.gl=>.gl
 | _,_,.ki=>.ki
 | _,_,.jl _ _=>.gl
 | _,_,.jO _ _=>.gl
 | _,_,@Rel.list _ _ .nil _ _ _ _ _ _ h hl hc hk=>.list h hl hc hk
 | _,_,@Rel.list _ _ .full _ _ _ _ _ _ h hl hc hk=>.list h hl hc hk
 | _,_,@Rel.list _ _ .gA _ _ _ _ _ _ h hl hc hk=>.list h hl hc hk
 | _,_,@Rel.list _ _ (.own _) _ _ _ _ _ _ h hl hc _=>.list h hl hc trivial
 | _,_,@Rel.list _ _ (.aH _ _) _ _ _ _ _ _ h hl hc _=>.list h hl hc trivial
 | _,_,.gC h hc=>.gC h hc
 | _,_,.gB h ho=>.gB h ho
 | _,_,.cL h ho hc=>.cL h ho hc
 | _,_,.gp h ho=>.gp h ho
 | _,_,.py h ho=>.py h ho
 | _,_,.fx h ho hc=>.fx h ho hc
 | _,_,.rp h ho=>.rp h ho
 | _,_,.ke=>.ke
 | _,_,.map h=>.map h
 | _,_,.dz=>.dz
 | _,_,.fn h h'=>.fn h h'
 | _,_,.yield h=>.yield h
 | _,_,.lY=>.lY
 | _,_,.iface h=>.iface h
theorem aA.fB:∀ {l:List AV} {cs:List Value},aA R w l cs→aA R w (jS l) cs
 | _,_,.nil=>.nil
 | _,_,.cons h t=>.cons h.fB t.fB
end
theorem dN.get {b o:Nat} {l:List AV} (h:dN R w b o l):∃ vs,aA R w l vs∧(∀ v∈vs,v.oneCell'=true)∧(∀ j v,vs[j]?=some v→w.cell? ⟨b,o+j,none⟩=some v)∧∀ j,j < l.length→R.I b (o+j):=by
 induction l generalizing o with
 | nil=>exact ⟨[],.nil,by simp,by simp,by simp⟩
 | cons a l ih=>
  cases h with
  | @cons _ _ _ c _ hc h1 hi h t=>
   obtain ⟨vs,k1,k2,k3,k4⟩:=ih t
   refine ⟨c :: vs,.cons h k1,?_,?_,?_⟩
   ·intro v hv
    rcases List.mem_cons.1 hv with rfl | hv
    ·exact h1
    ·exact k2 v hv
   ·intro j v hv
    cases j with
    | zero=>simp at hv; subst hv; exact hc
    | succ j=>simp at hv; have:=k3 j v hv; rwa [show o+1+j=o+(j+1) by omega] at this
   ·intro j hj
    cases j with
    | zero=>exact hi
    | succ j=>have:=k4 j (by simp at hj; omega); rwa [show o+1+j=o+(j+1) by omega] at this
theorem dN.make {b o:Nat} {l:List AV} {vs:List Value} (h:aA R w l vs) (h1:∀ v∈vs,v.oneCell'=true) (hc:∀ j v,vs[j]?=some v→w.cell? ⟨b,o+j,none⟩=some v) (hi:∀ j,j < l.length→R.I b (o+j)):dN R w b o l:=by
 induction l generalizing vs o with
 | nil=>exact .nil
 | cons a l ih=>
  cases h with
  | cons h t=>
   refine .cons (hc 0 _ (by simp)) (h1 _ (by simp)) (hi 0 (by simp)) h (ih t (fun v hv=>h1 v (by simp [hv])) (fun j v hv=>?_) (fun j hj=>?_))
   ·have:=hc (j+1) v (by simpa using hv); rwa [show o+(j+1)=o+1+j by omega] at this
   ·have:=hi (j+1) (by simpa using hj); rwa [show o+(j+1)=o+1+j by omega] at this
theorem dN.drop {b o:Nat} {l:List AV} (h:dN R w b o l) (n:Nat):dN R w b (o+n) (l.drop n):=by
 induction n generalizing o l with
 | zero=>simpa using h
 | succ n ih=>cases h with
  | nil=>simpa using dN.nil
  | cons hc h1 hi h t=>have:=ih t; rw [show o+1+n=o+(n+1) by omega] at this; simpa using this
end rel
theorem bO (b o n:Nat):(⟨b,o,none⟩:Addr).add n=⟨b,o+n,none⟩:=by unfold Addr.add; split <;> simp_all
section bl
variable {E:Env} {R R':af} {w w':World} {β β':Nat→Nat} {s:St} {a:Act}
theorem mo.mono (e:Ext R w R' w') {sl:aV} {tm:Array Value} (h:mo R w β sl tm):mo R' w' β sl tm:=
 fun i hi=>let ⟨c,h1,h2⟩:=h i hi; ⟨c,h1,h2.mono e⟩
theorem cV.mono (e:Ext R w R' w'):∀ {l:List (AV × AV)} {es:List MapEntry},cV R w l es→cV R' w' l es
 | [],[],_=>trivial
 | (_,_) :: _,_ :: _,h=>⟨h.1.mono e,h.2.1.mono e,cV.mono e h.2.2⟩
 | [],_ :: _,h=>h.elim
 | _ :: _,[],h=>h.elim
theorem mq {w w':World} {b:Nat} (h:b < w.heap.size) (e:w'.heap[b]?=w.heap[b]?):b < w'.heap.size:=by
 rw [Array.getElem?_eq_getElem h] at e
 exact (Array.getElem?_eq_some_iff.1 e).1
theorem fa.mono (e:Ext R w R' w') {go:GO} {ro:RO} (h:fa R w go ro) (hb:∀ b,ro.has b→w'.heap[b]?=w.heap[b]?) (hi:∀ b o,ro.has b→R'.I b o→R.I b o):fa R' w' go ro:=by
 cases ro with
 | none=>cases go <;> first | exact h | exact h.elim
 | aN=>cases go <;> first | exact h | exact h.elim
 | bi b=>
  have iQ:=hb b rfl
  cases go with
  | dead=>exact mq h iQ
  | row cs el=>obtain ⟨vs,h1,h2,h3,h4⟩:=h; exact ⟨vs,iQ.trans h1,h2.mono e,h3,fun o ho=>h4 o (hi b o rfl ho)⟩
  | tok f sz el=>exact h.elim
  | aH _ _ _=>exact h.elim
  | mg eW n left _=>obtain ⟨bm,seen,c0,h1,h2,h3⟩:=h; exact ⟨bm,seen,c0,e.bi h1,iQ.trans h2,h3⟩
  | cP es sz el=>exact h.elim
  | ga _ _ _=>exact h.elim
  | map es=>obtain ⟨ay,clock,h1,h2,h3⟩:=h; exact ⟨ay,clock,iQ.trans h1,cV.mono e h2,h3⟩
  | fu l pos=>exact iQ.trans h
  | loop busy pending fn ab n params assign body defers done=>
   obtain ⟨⟨r,db,h1,h2,h3,h4,h5,h6,h7,h8,h9,S6⟩,Qi⟩:=h
   exact ⟨⟨r,db,iQ.trans h1,h2,h3,h4.mono e,h5,h6,h7,h8,h9,e.bi S6⟩,Qi⟩
  | defers o=>exact iQ.trans h
 | tok f b c k0=>
  have iQ:=hb b rfl
  cases go with
  | tok f' sz el=>
   obtain ⟨h0,cur,h1,h2,h3,h4,h5⟩:=h
   exact ⟨h0,cur,iQ.trans h1,h2,h3,h4,fun o ho oC=>h5 o ho (hi b o rfl oC)⟩
  | cP es sz el=>
   obtain ⟨hk,h0,jm,cur,vs,h1,h2,h3,h4,h5,h6,h7,h8⟩:=h
   exact ⟨hk,h0,jm,cur,vs,iQ.trans h1,h2,h3,h4,fun o ho=>h5 o (hi b o rfl ho),h6.mono e,h7,h8⟩
  | dead=>exact mq h iQ
  | row cs=>exact h.elim
  | aH _ _ _=>exact h.elim
  | mg _ _ _ _=>exact h.elim
  | ga _ _ _=>exact h.elim
  | map es=>exact h.elim
  | fu l pos=>exact h.elim
  | loop=>exact h.elim
  | defers o=>exact h.elim
 | aH ts=>
  cases go with
  | aH fs sz el=>
   obtain ⟨h1,h2,h3⟩:=h
   refine ⟨h1,h2,fun j f t hf ht=>?_⟩
   have h4:=h3 j f t hf ht
   cases t with
   | aN=>exact h4
   | full f'=>exact h4
   | tok f' b c=>
    obtain ⟨h5,cur,k1,k2,k3,k4,k5⟩:=h4
    have hh:RO.has (.aH ts) b:=⟨j,f',c,ht⟩
    exact ⟨h5,cur,(hb b hh).trans k1,k2,k3,k4,fun o ho oC=>k5 o ho (hi b o hh oC)⟩
  | ga rows sz el=>
   obtain ⟨h1,h2,h3⟩:=h
   refine ⟨h1,h2,fun j row t hf ht=>?_⟩
   have h4:=h3 j row t hf ht
   cases t with
   | aN=>exact h4
   | full f'=>exact h4
   | tok f' b c=>
    obtain ⟨h5,jm,cur,vs,k1,k2,k3,k4,k5,k6,k7,k8⟩:=h4
    have hh:RO.has (.aH ts) b:=⟨j,f',c,ht⟩
    exact ⟨h5,jm,cur,vs,(hb b hh).trans k1,k2,k3,k4,fun o ho=>k5 o (hi b o hh ho),k6.mono e,k7,k8⟩
  | dead=>exact fun j f b c ht=>mq (h j f b c ht) (hb b ⟨j,f,c,ht⟩)
  | _=>exact h.elim
theorem Live.of {id b:Nat} {ro:RO} (h:nth R.obj id=some ro) (hb:ro.has b):Live R b:=⟨id,ro,h,hb⟩
theorem dO.bl {G:List GO} (h:dO E R w G) (e:Ext R w R' w') (ho:R'.obj=R.obj) (hb:∀ b,Live R b→w'.heap[b]?=w.heap[b]?) (hi:∀ b o,Live R b→R'.I b o→R.I b o) (wf:∀ b o,R'.I b o→b < w'.heap.size) (hd:E.lo≤w.drawn→E.lo≤w'.drawn:=by first | exact fun h=>h | exact fun h=>Nat.le_succ_of_le h):dO E R' w' G where
 lo:=hd h.lo
 len:=by rw [ho]; exact h.len
 obj:=fun id go ro hg hr=>by
  rw [ho] at hr
  exact (h.obj id go ro hg hr).mono e (fun b Gr=>hb b (.of hr Gr)) (fun b o Gr=>hi b o (.of hr Gr))
 inj:=fun i j ri rj b h1 h2=>by rw [ho] at h1 h2; exact h.inj i j ri rj b h1 h2
 wf:=wf
 cG:=fun g cs hg=>(h.cG g cs hg).mono e
theorem JG.bl {bx:bX} (h:JG R w β bx) (e:Ext R w R' w') (hb:∀ k cs,cO bx k=some cs→w'.heap[β k]?=w.heap[β k]?) (hi:∀ k cs o,cO bx k=some cs→R'.I (β k) o→R.I (β k) o) (hl:∀ k cs,cO bx k=some cs→Live R' (β k)→Live R (β k)):JG R' w' β bx where
 box:=fun k cs hk=>by
  obtain ⟨⟨vs,el,h1,h2,h3⟩,h4,h5⟩:=h.box k cs hk
  exact ⟨⟨vs,el,(hb k cs hk).trans h1,h2.mono e,h3⟩,fun o ho=>h4 o (hi k cs o hk ho),fun pf=>h5 (hl k cs hk pf)⟩
 inj:=h.inj
theorem nR.mono (e:Ext R w R' w'):∀ {l:List Nat} {ds:List Deferred},nR R l ds→nR R' l ds
 | [],[],_=>trivial
 | _ :: _,_ :: _,h=>let ⟨⟨b,h1,h2⟩,h3⟩:=h; ⟨⟨b,e.bi h1,h2⟩,nR.mono e h3⟩
 | [],_ :: _,h=>h.elim
 | _ :: _,[],h=>h.elim
theorem aL.bl (h:aL E R w β s a) (e:Ext R w R' w') (ho:R'.obj=R.obj) (hb:∀ b,Own R β s.boxes b→w'.heap[b]?=w.heap[b]?) (hi:∀ b o,Own R β s.boxes b→R'.I b o→R.I b o) (wf:∀ b o,R'.I b o→b < w'.heap.size) (hd:E.lo≤w.drawn→E.lo≤w'.drawn:=by first | exact fun h=>h | exact fun h=>Nat.le_succ_of_le h):aL E R' w' β s a where
 g:=h.g.bl e ho (fun b hl=>hb b (.inl hl)) (fun b o hl=>hi b o (.inl hl)) wf hd
 b:=h.b.bl e (fun k cs hk=>hb _ (.inr ⟨k,cs,hk,rfl⟩)) (fun k cs o hk=>hi _ o (.inr ⟨k,cs,hk,rfl⟩)) (fun k cs _ hl=>by obtain ⟨id,ro,h1,h2⟩:=hl; rw [ho] at h1; exact ⟨id,ro,h1,h2⟩)
 t:=h.t.mono e
 n:=h.n
 d:=h.d.mono e
theorem a7 {w:World} {b:Nat} {o:Obj} (h:w.heap[b]?=some o):b < w.heap.size:=(Array.getElem?_eq_some_iff.1 h).1
theorem fa.lt {go:GO} {ro:RO} (h:fa R w go ro) {b:Nat} (hb:ro.has b):b < w.heap.size:=by
 cases ro with
 | none=>exact hb.elim
 | aN=>exact hb.elim
 | bi x=>
  have hb:b=x:=hb
  subst hb
  cases go with
  | dead=>exact h
  | row cs el=>obtain ⟨vs,h1,_⟩:=h; exact a7 h1
  | tok f sz el=>exact h.elim
  | aH _ _ _=>exact h.elim
  | mg eW n left _=>obtain ⟨bm,seen,c0,_,h2,_⟩:=h; exact a7 h2
  | cP es sz el=>exact h.elim
  | ga _ _ _=>exact h.elim
  | map es=>obtain ⟨ay,clock,h1,_⟩:=h; exact a7 h1
  | fu l pos=>exact a7 h
  | loop=>obtain ⟨⟨r,db,h1,_⟩,_⟩:=h; exact a7 h1
  | defers o=>exact a7 h
 | tok f x c k0=>
  have hb:b=x:=hb
  subst hb
  cases go with
  | tok f' sz el=>obtain ⟨_,cur,h1,_⟩:=h; exact a7 h1
  | cP es sz el=>obtain ⟨_,_,_,cur,vs,h1,_⟩:=h; exact a7 h1
  | dead=>exact h
  | row cs=>exact h.elim
  | aH _ _ _=>exact h.elim
  | mg _ _ _ _=>exact h.elim
  | ga _ _ _=>exact h.elim
  | map es=>exact h.elim
  | fu l pos=>exact h.elim
  | loop=>exact h.elim
  | defers o=>exact h.elim
 | aH ts=>
  obtain ⟨j,f,c,ht⟩:=hb
  cases go with
  | aH fs sz el=>
   obtain ⟨h1,h2,h3⟩:=h
   have bM:=aQ ht
   rw [h1] at bM
   obtain ⟨f',hf⟩:∃ f',nth fs j=some f':=⟨fs[j],by rw [aE]; exact List.getElem?_eq_getElem bM⟩
   obtain ⟨_,cur,k1,_⟩:=h3 j f' _ hf ht
   exact a7 k1
  | dead=>exact h j f b c ht
  | ga rows sz el=>
   obtain ⟨h1,h2,h3⟩:=h
   have bM:=aQ ht
   have h4:=h3 j rows[j] (.tok f b c) (by rw [aE]; exact List.getElem?_eq_getElem (by omega)) ht
   obtain ⟨_,_,cur,vs,k1,_⟩:=h4
   exact a7 k1
  | _=>exact h.elim
theorem dO.bq {G:List GO} (h:dO E R w G) {b:Nat} (hl:Live R b):b < w.heap.size:=by
 obtain ⟨id,ro,h1,h2⟩:=hl
 have bM:=aQ h1
 rw [h.len] at bM
 obtain ⟨go,fc⟩:∃ go,nth G id=some go:=⟨G[id],by rw [aE]; exact List.getElem?_eq_getElem bM⟩
 exact (h.obj id go ro fc h1).lt h2
theorem aL.cI (h:aL E R w β s a) {b:Nat} (ho:Own R β s.boxes b):b < w.heap.size:=by
 rcases ho with hl | ⟨k,cs,hk,rfl⟩
 ·exact h.g.bq hl
 ·obtain ⟨⟨vs,el,h1,_⟩,_⟩:=h.b.box k cs hk
  exact a7 h1
theorem bo {w w':World} {b:Nat} (h:w'.heap[b]?=w.heap[b]?) (o:Nat):w'.cell? ⟨b,o,none⟩=w.cell? ⟨b,o,none⟩:=by simp [World.cell?,h]
theorem xC (wf:∀ b o,R.I b o→b < w.heap.size) (x:Obj):Ext R w R (w.alloc x):=
 ⟨fun _ _ h=>h,fun b o h=>bo (heap_alloc_old w x b (wf b o h)) o,fun _ ro h=>⟨ro,h,bI.refl ro⟩,.old fun b hb=>heap_alloc_old w x b hb⟩
theorem aL.alloc (h:aL E R w β s a) (x:Obj):aL E R (w.alloc x) β s a:=
 h.bl (xC h.g.wf x) rfl (fun b hb=>heap_alloc_old w x b (h.cI hb)) (fun _ _ _ hi=>hi) (fun b o hi=>by have:=h.g.wf b o hi; simp; omega)
end bl
end Go.Am
namespace Go.Am
open Go
theorem Gs {a b:AV} (h:Gg a b=true):a=b:=by
 unfold Gg at h
 split at h
 all_goals (first | (cases h; done) | skip)
 all_goals (try simp only [Bool.and_eq_true,beq_iff_eq,Nat.beq_eq] at h)
 all_goals (simp [*])
mutual
theorem gm:∀ {a b:AV},dA a b=true→a=b:=by
 intro a b h
 unfold dA at h
 split at h
 ·simp only [Bool.and_eq_true,Nat.beq_eq] at h; rw [h.1.1,eO h.1.2,eO h.2]
 ·rw [eO h]
 ·rw [eO h]
 ·rw [eO h]
 ·simp only [Bool.and_eq_true,Nat.beq_eq] at h; rw [h.1,eO h.2]
 ·simp only [Bool.and_eq_true,Nat.beq_eq] at h; rw [h.1,eO h.2]
 ·simp only [Bool.and_eq_true,Nat.beq_eq] at h; rw [h.1,eO h.2]
 ·simp only [Bool.and_eq_true,Nat.beq_eq] at h; rw [h.1.1,h.1.2,eO h.2]
 ·simp only [Bool.and_eq_true,Nat.beq_eq] at h; rw [h.1.1.1,h.1.1.2,h.1.2,eO h.2]
 ·exact Gs h
theorem eO:∀ {l r:List AV},kB l r=true→l=r:=by
 intro l r h
 unfold kB at h
 split at h
 ·rfl
 ·rw [Bool.and_eq_true] at h; rw [gm h.1,eO h.2]
 ·cases h
end
def yQ (a b:AV):Prop:=∀ (R:af) (w:World) (c:Value),Rel R w a c→Rel R w b c
def b9:List AV→List AV→Prop
 | [],[]=>True
 | a :: l,b :: r=>yQ a b∧b9 l r
 | _,_=>False
theorem yQ.refl (a:AV):yQ a a:=fun _ _ _ h=>h
theorem b9.refl:∀ l:List AV,b9 l l
 | []=>trivial
 | a :: l=>⟨yQ.refl a,b9.refl l⟩
theorem b9.length:∀ {l r:List AV},b9 l r→l.length=r.length
 | [],[],_=>rfl
 | _ :: _,_ :: _,h=>by simp [b9.length h.2]
 | [],_ :: _,h=>h.elim
 | _ :: _,[],h=>h.elim
theorem b9.rel {R:af} {w:World}:∀ {l r:List AV} {cs:List Value},b9 l r→aA R w l cs→aA R w r cs
 | [],[],_,_,h=>h
 | _ :: _,_ :: _,_,k,.cons h t=>.cons (k.1 _ _ _ h) (b9.rel k.2 t)
 | [],_ :: _,_,h,_=>h.elim
 | _ :: _,[],_,h,_=>h.elim
theorem b9.Gt {R:af} {w:World}:∀ {l r:List AV} {b o:Nat},b9 l r→dN R w b o l→dN R w b o r
 | [],[],_,_,_,_=>.nil
 | _ :: _,_ :: _,_,_,k,.cons hc h1 hi h t=>.cons hc h1 hi (k.1 _ _ _ h) (b9.Gt k.2 t)
 | [],_ :: _,_,_,h,_=>h.elim
 | _ :: _,[],_,_,h,_=>h.elim
theorem b9.append:∀ {a b c d:List AV},b9 a b→b9 c d→b9 (a++c) (b++d)
 | [],[],_,_,_,h=>h
 | _ :: _,_ :: _,_,_,k,h=>⟨k.1,b9.append k.2 h⟩
 | [],_ :: _,_,_,h,_=>h.elim
 | _ :: _,[],_,_,h,_=>h.elim
structure fD (v u:AV):Prop where
 fB:yQ v u
 bt:u.aI=v.aI
 cells:v.aI=true→b9 v.cells u.cells
 closed:v.closed=true→u.closed=true
theorem pD {u v a:AV} (h:(aq.two u v).fits a=true):(aq.two u v).enc ((aq.two u v).bc a)=a:=by
 change (dA a u || dA a v)=true at h
 change (bif dA a v then v else u)=a
 cases hs:dA a v with
 | true=>exact (gm hs).symm
 | false=>
  rw [hs,Bool.or_false] at h
  exact (gm h).symm
theorem fD.refl (v:AV):fD v v:=⟨yQ.refl v,rfl,fun _=>b9.refl _,fun h=>h⟩
theorem B7 {a b:IntKind} (h:Qg a b=true):a=b:=of_decide_eq_true h
theorem pE {α:Type} {f:AV→Bool} {d:AV→α} {g:α→AV} (DQ:∀ v,f v=true→fD v (g (d v))) {R:af} {w:World} :
  ∀ {es:List AV} {b o sz:Nat},allFit f es=true→eY R w b o sz es→eY R w b o sz ((es.map d).map g)
 | [],b,o,sz,_,_=>.nil
 | e :: es,b,o,sz,h,hr=>by
  simp only [allFit,Bool.and_eq_true] at h
  cases hr with
  | cons hl ht hk hc t=>
   have d':=DQ e h.1
   have wc:=d'.cells ht
   exact .cons (by rw [← wc.length,hl]) (by rw [d'.bt,ht]) (d'.closed hk) (wc.Gt hc) (pE DQ h.2 t)
theorem EQ {R:af} {w:World} {b o sz aT:Nat} {es:List AV} (h:es=[]∨sz=aT) (hr:eY R w b o aT es):eY R w b o sz es:=by
 rcases h with rfl | rfl
 ·exact .nil
 ·exact hr
theorem ER {α:Type} {f:AV→Bool} {d:AV→α} {g:α→AV} (DQ:∀ v,f v=true→fD v (g (d v))) {k:LK} {sz aT:Nat} {es:List AV} (hs:es=[]∨sz=aT) (h:allFit f es=true) :
  yQ (.list k aT es) (.list .gA sz ((es.map d).map g)):=fun R w c hr=>by
 cases hr with
 | gF=>exact .gl
 | gl=>exact .gl
 | ki=>exact .ki
 | jl _ _=>exact .gl
 | jO _ _=>exact .gl
 | list hr hlen hc hk=>exact .list (pE DQ h (EQ hs hr)) (by simp [hlen]) hc trivial
theorem Gu {α:Type} {f:AV→Bool} {d:AV→α} {g:α→AV} (DQ:∀ v,f v=true→fD v (g (d v))) {id sz:Nat} {es:List AV} (h:allFit f es=true) :
  yQ (.list (.own id) sz es) (.list (.own id) sz ((es.map d).map g)):=fun R w c hr=>by
 cases hr with
 | jl h1 h2=>exact .jl h1 h2
 | list hr hlen hc hk=>exact .list (pE DQ h hr) (by simp [hlen]) hc hk
theorem Gv {α:Type} {f:AV→Bool} {d:AV→α} {g:α→AV} (DQ:∀ v,f v=true→fD v (g (d v))) {id j sz:Nat} {es:List AV} (h:allFit f es=true) :
  yQ (.list (.aH id j) sz es) (.list (.aH id j) sz ((es.map d).map g)):=fun R w c hr=>by
 cases hr with
 | jO h1 h2=>exact .jO h1 h2
 | list hr hlen hc hk=>exact .list (pE DQ h hr) (by simp [hlen]) hc hk
mutual
theorem aq.cn:∀ (p:aq) {v:AV},p.fits v=true→fD v (p.enc (p.bc v))
 | .int k,v,h=>by
  cases v with
  | int k' n=>
   have hk:Qg k k'=true:=h
   rw [B7 hk]
   exact fD.refl _
  | _=>cases h
 | .bool,v,h=>by
  cases v with
  | bool b=>exact fD.refl _
  | _=>cases h
 | .str,v,h=>by
  cases v with
  | str b=>exact fD.refl _
  | _=>cases h
 | .agg ps,v,h=>by
  cases v with
  | agg cs=>
   obtain ⟨h1,h2⟩:=ps.cn (show ps.fits cs=true from h)
   exact ⟨fun R w c hr=>by cases hr with | agg hr jP=>exact .agg (h1.rel hr) jP,rfl,fun _=>h1,fun hc=>by
    have lS:aJ cs=true:=by simpa [AV.closed] using hc
    show AV.closed (.agg (ps.enc (ps.bc cs)))=true
    simp only [AV.closed]; exact h2 lS⟩
  | _=>cases h
 | .bt ps,v,h=>by
  cases v with
  | bt cs=>
   obtain ⟨h1,h2⟩:=ps.cn (show ps.fits cs=true from h)
   exact ⟨fun R w c hr=>by cases hr with | bt hr=>exact .bt (h1.rel hr),rfl,fun hn=>by simp [AV.aI] at hn,fun hc=>by
    have lS:aJ cs=true:=by simpa [AV.closed] using hc
    show AV.closed (.bt (ps.enc (ps.bc cs)))=true
    simp only [AV.closed]; exact h2 lS⟩
  | _=>cases h
 | .list sz p,v,h=>by
  cases v with
  | list k aT es=>
   have hb:((Nat.beq sz aT || es.isEmpty)&&allFit p.fits es)=true:=h
   simp only [Bool.and_eq_true,Bool.or_eq_true,Nat.beq_eq,List.isEmpty_iff] at hb
   have hw:=ER (k:=k) (fun v=>p.cn) hb.1.symm hb.2
   exact ⟨hw,rfl,fun _=>⟨hw,trivial⟩,fun _=>rfl⟩
  | _=>cases h
 | .own id sz p,v,h=>by
  cases v with
  | list k aT es=>
   cases k with
   | own gb=>
    have hb:((Nat.beq id gb&&Nat.beq sz aT)&&allFit p.fits es)=true:=h
    simp only [Bool.and_eq_true,Nat.beq_eq] at hb
    obtain ⟨⟨rfl,rfl⟩,hf⟩:=hb
    have hw:=Gu (id:=id) (sz:=sz) (fun v=>p.cn) hf
    exact ⟨hw,rfl,fun _=>⟨hw,trivial⟩,fun hc=>by simp [AV.closed,LK.closed] at hc⟩
   | _=>cases h
  | _=>cases h
 | .aH id sz p,v,h=>by
  cases v with
  | list k aT es=>
   cases k with
   | aH gb j=>
    have hb:((Nat.beq id gb&&Nat.beq sz aT)&&allFit p.fits es)=true:=h
    simp only [Bool.and_eq_true,Nat.beq_eq] at hb
    obtain ⟨⟨rfl,rfl⟩,hf⟩:=hb
    have hw:=Gv (id:=id) (j:=j) (sz:=sz) (fun v=>p.cn) hf
    exact ⟨hw,rfl,fun _=>⟨hw,trivial⟩,fun hc=>by simp [AV.closed,LK.closed] at hc⟩
   | _=>cases h
  | _=>cases h
 | .fx id sz,v,h=>by
  cases v with
  | fx gb j aT len=>
   have hb:(Nat.beq id gb&&Nat.beq sz aT)=true:=h
   simp only [Bool.and_eq_true,Nat.beq_eq] at hb
   obtain ⟨rfl,rfl⟩:=hb
   exact fD.refl _
  | _=>cases h
 | .lg u,v,h=>by
  have:=gm (show dA v u=true from h)
  subst this
  exact fD.refl _
 | .two u v,a,h=>by
  have hv:(aq.two u v).enc ((aq.two u v).bc a)=a:=pD h
  rw [hv]
  exact fD.refl _
theorem aG.cn:∀ (ps:aG) {l:List AV},ps.fits l=true→b9 l (ps.enc (ps.bc l))∧(aJ l=true→aJ (ps.enc (ps.bc l))=true)
 | .nil,l,h=>by
  cases l with
  | nil=>exact ⟨trivial,fun h=>h⟩
  | cons _ _=>cases h
 | .cons p .nil,l,h=>by
  match l,h with
  | [],h=>cases h
  | a :: l,h=>
   have h':(p.fits a&&l.isEmpty)=true:=h
   simp only [Bool.and_eq_true,List.isEmpty_iff] at h'
   obtain ⟨h1,rfl⟩:=h'
   have d:=p.cn h1
   exact ⟨⟨d.fB,trivial⟩,fun hc=>by
    simp only [aJ,Bool.and_true] at hc
    show aJ [p.enc (p.bc a)]=true
    simp only [aJ,Bool.and_true]
    exact d.closed hc⟩
 | .cons p (.cons q ps),l,h=>by
  cases l with
  | nil=>cases h
  | cons a l=>
   have h':(p.fits a&&(aG.cons q ps).fits l)=true:=h
   rw [Bool.and_eq_true] at h'
   have d:=p.cn h'.1
   obtain ⟨k1,k2⟩:=(aG.cons q ps).cn h'.2
   exact ⟨⟨d.fB,k1⟩,fun hc=>by
    simp only [aJ,Bool.and_eq_true] at hc
    show aJ (p.enc (p.bc a) :: (aG.cons q ps).enc ((aG.cons q ps).bc l))=true
    simp only [aJ,Bool.and_eq_true]
    exact ⟨d.closed hc.1,k2 hc.2⟩⟩
end
theorem aq.oD (p:aq) {v:AV} {x:p.T} (h:p.dec v=some x):fD v (p.enc x):=by
 unfold aq.dec at h
 cases hf:p.fits v with
 | true=>rw [hf] at h; cases h; exact p.cn hf
 | false=>rw [hf] at h; cases h
theorem aG.oD (ps:aG) {l:List AV} {x:ps.T} (h:ps.dec l=some x):b9 l (ps.enc x)∧(aJ l=true→aJ (ps.enc x)=true):=by
 unfold aG.dec at h
 cases hf:ps.fits l with
 | true=>rw [hf] at h; cases h; exact ps.cn hf
 | false=>rw [hf] at h; cases h
mutual
def aq.plain:aq→Bool
 | .agg ps=>ps.plain
 | .bt ps=>ps.plain
 | .list _ p=>p.plain
 | .own _ _ p=>p.plain
 | .aH _ _ p=>p.plain
 | .lg v=>dA v v
 | .two u v=>dA u u&&dA v v&&!dA u v
 | _=>true
def aG.plain:aG→Bool
 | .nil=>true
 | .cons p ps=>p.plain&&ps.plain
end
theorem ls {α:Type} {f:AV→Bool} {g:α→AV} (h:∀ x,f (g x)=true):∀ xs:List α,allFit f (xs.map g)=true
 | []=>rfl
 | x :: xs=>by simp only [List.map_cons,allFit,h x,ls h xs,Bool.and_self]
theorem tA {α:Type} {d:AV→α} {g:α→AV} (h:∀ x,d (g x)=x):∀ xs:List α,(xs.map g).map d=xs
 | []=>rfl
 | x :: xs=>by simp only [List.map_cons,h x,tA h xs]
mutual
theorem aq.bL:∀ (p:aq) (x:p.T),p.plain=true→p.fits (p.enc x)=true∧p.bc (p.enc x)=x
 | .int k,x,_=>⟨decide_eq_true rfl,rfl⟩
 | .bool,x,_=>⟨rfl,rfl⟩
 | .str,x,_=>⟨rfl,rfl⟩
 | .agg ps,x,h=>ps.bL x h
 | .bt ps,x,h=>ps.bL x h
 | .list sz p,x,h=>by
  refine ⟨?_,tA (fun y=>(p.bL y h).2) x⟩
  change ((Nat.beq sz sz || (List.map p.enc x).isEmpty)&&allFit p.fits (List.map p.enc x))=true
  rw [Nat.beq_refl,Bool.true_or,Bool.true_and]
  exact ls (fun y=>(p.bL y h).1) x
 | .own id sz p,x,h=>by
  refine ⟨?_,tA (fun y=>(p.bL y h).2) x⟩
  change ((Nat.beq id id&&Nat.beq sz sz)&&allFit p.fits (List.map p.enc x))=true
  rw [Nat.beq_refl,Nat.beq_refl,Bool.true_and,Bool.true_and]
  exact ls (fun y=>(p.bL y h).1) x
 | .aH id sz p,(x:Nat × List p.T),h=>by
  refine ⟨?_,?_⟩
  ·change ((Nat.beq id id&&Nat.beq sz sz)&&allFit p.fits (List.map p.enc x.2))=true
   rw [Nat.beq_refl,Nat.beq_refl,Bool.true_and,Bool.true_and]
   exact ls (fun y=>(p.bL y h).1) x.2
  ·change (x.1,(List.map p.enc x.2).map p.bc)=x
   rw [tA (fun y=>(p.bL y h).2) x.2]
 | .fx id sz,(x:Nat × Nat),_=>⟨by change (Nat.beq id id&&Nat.beq sz sz)=true; rw [Nat.beq_refl,Nat.beq_refl]; rfl,rfl⟩
 | .lg v,x,h=>⟨h,rfl⟩
 | .two u v,(x:Bool),h=>by
  change (dA u u&&dA v v&&!dA u v)=true at h
  simp only [Bool.and_eq_true,Bool.not_eq_true'] at h
  obtain ⟨⟨h1,h2⟩,h3⟩:=h
  cases x
  ·exact ⟨by change (dA u u || dA u v)=true; rw [h1]; rfl,h3⟩
  ·exact ⟨by change (dA v u || dA v v)=true; rw [h2,Bool.or_true],h2⟩
theorem aG.bL:∀ (ps:aG) (x:ps.T),ps.plain=true→ps.fits (ps.enc x)=true∧ps.bc (ps.enc x)=x
 | .nil,x,_=>⟨rfl,rfl⟩
 | .cons p .nil,x,h=>by
  have h':(p.plain&&true)=true:=h
  rw [Bool.and_true] at h'
  have:=p.bL x h'
  exact ⟨by change (p.fits (p.enc x)&&true)=true; rw [this.1]; rfl,this.2⟩
 | .cons p (.cons q ps),x,h=>by
  have h':(p.plain&&(aG.cons q ps).plain)=true:=h
  rw [Bool.and_eq_true] at h'
  have h1:=p.bL x.1 h'.1
  have h2:=(aG.cons q ps).bL x.2 h'.2
  refine ⟨?_,?_⟩
  ·change (p.fits (p.enc x.1)&&(aG.cons q ps).fits ((aG.cons q ps).enc x.2))=true
   rw [h1.1,h2.1]
   rfl
  ·change (p.bc (p.enc x.1),(aG.cons q ps).bc ((aG.cons q ps).enc x.2))=x
   rw [h1.2,h2.2]
   rfl
end
end Go.Am
namespace Go.Am
open Go
theorem bH (E:Env) {t:TypeId} {i:TI} (h:E.ti t=some i) :
  ∃ eP u,E.P.info? t=some eP∧E.P.underlying t=some u∧eP.size=i.size∧iy u=i.agg∧nP E.P u=some i.k∧eJ eP=i.zero:=by
 have h1:=E.EG t i h
 unfold EF at h1
 split at h1
 ·rename_i eP u h2 h3
  split at h1
  ·rename_i k hk
   cases h1
   exact ⟨eP,u,h2,h3,rfl,rfl,hk,rfl⟩
  ·cases h1
 ·cases h1
section runs
variable {P:Program} (w:World)
theorem xD {t:TypeId} {u:TypeDesc} (h:P.underlying t=some u):(isAgg t).run P w=.ok (iy u) w:=by
 unfold isAgg
 simp only [Sem.run_bind,run_underlying h,Result.andThen_ok]
 cases u <;> rfl
theorem run_sizeOf {t:TypeId} {i:TypeInfo} (h:P.info? t=some i):(sizeOf t).run P w=.ok i.size w:=by
 simp [sizeOf,typeInfo,h]
theorem fE {t:TypeId} {i:TypeInfo} {z:Value} (h:P.info? t=some i) (hz:i.zero=some z):(zeroValue t).run P w=.ok z w:=by
 simp [zeroValue,typeInfo,h,hz]
theorem uf (t:TypeId) (v:Value):(newVar t v).run P w=.ok ⟨w.heap.size,0,none⟩ (w.alloc (.cells v.cells t)):=by
 simp only [newVar,newRow,Sem.run_bind,run_newObj,Result.andThen_ok,Sem.run_pure]
 rfl
end runs
theorem ug {R:af} {w:World} {ag:Bool} {l:List AV} {v:AV} {vs:List Value} (hm:pn ag l=some v) (h:aA R w l vs) (h1:∀ x∈vs,x.oneCell'=true) :
  (ag=true→Rel R w v (.agg ⟨vs⟩))∧(ag=false→∃ c,vs=[c]∧Rel R w v c):=by
 unfold pn at hm
 cases ag with
 | true=>
  simp at hm
  subst hm
  exact ⟨fun _=>.agg h h1,fun e=>by cases e⟩
 | false=>
  refine ⟨(fun e=>by cases e),fun _=>?_⟩
  simp only [Bool.false_eq_true,if_false] at hm
  split at hm
  ·cases hm
   cases h with
   | cons h t=>
    cases t
    exact ⟨_,rfl,h⟩
  ·cases hm
theorem jX {E:Env} {R:af} {w:World} {t:TypeId} {i:TI} (hi:E.ti t=some i) {b off:Nat} {l:List AV} {vs:List Value} {v:AV}
  (hl:l.length=i.size) (hr:aA R w l vs) (h1:∀ x∈vs,x.oneCell'=true) (hc:∀ j x,vs[j]?=some x→w.cell? ⟨b,off+j,none⟩=some x) (hm:pn i.agg l=some v) :
  ∃ c,(loadVar t ⟨b,off,none⟩).run E.P w=.ok c w∧Rel R w v c:=by
 obtain ⟨eP,u,e1,e2,e3,e4,_⟩:=bH E hi
 obtain ⟨m1,m2⟩:=ug hm hr h1
 unfold loadVar
 simp only [Sem.run_bind,xD w e2,Result.andThen_ok,e4]
 cases ha:i.agg with
 | true=>
  refine ⟨.agg ⟨vs⟩,?_,m1 ha⟩
  have hlen:eP.size=vs.length:=by rw [e3,← hl,hr.length]
  have:=run_loadCells_list (P:=E.P) w ⟨b,off,none⟩ vs (fun j x hx=>by rw [bO]; exact hc j x hx)
  simp [run_sizeOf w e1,hlen,this]
 | false=>
  obtain ⟨c,rfl,dq⟩:=m2 ha
  refine ⟨c,?_,dq⟩
  have:=hc 0 c (by simp)
  simp only [Nat.add_zero] at this
  simp [run_load,this]
theorem gZ {w:World} {b:Nat} {vs:List Value} {el:TypeId} {fr:Nat × Nat} (h:w.heap[b]?=some (.cells ⟨vs⟩ el fr)) (j:Nat):w.cell? ⟨b,j,none⟩=vs[j]?:=by
 simp [World.cell?,h]
theorem sf {E:Env} {R:af} {w:World} {β:Nat→Nat} {s:St} {a:Act} (h:aL E R w β s a) {p:SV} {c:Value} (hp:lZ R w β p c) {cs:List AV} {off:Nat} (hc:lh s p=some (cs,off)) :
  ∃ b o vs,c=.pointer (some ⟨b,o+off,none⟩)∧aA R w cs vs∧(∀ x∈vs,x.oneCell'=true)∧∀ j x,vs[j]?=some x→w.cell? ⟨b,o+j,none⟩=some x:=by
 unfold lh at hc
 split at hc
 ·rename_i k eI
  split at hc
  ·rename_i dB hk
   cases hc
   obtain ⟨⟨vs,el,h1,h2,h3⟩,_⟩:=h.b.box k cs hk
   exact ⟨β k,0,vs,by rw [hp]; simp,h2,h3,fun j x hx=>by rw [gZ h1]; simpa using hx⟩
  ·cases hc
 ·rename_i id eI
  split at hc
  ·rename_i dB hk
   cases hc
   cases hp with
   | @ptr _ _ b hb=>
    obtain ⟨vs,h1,h2,h3,_⟩:=h.g.obj id _ _ hk hb
    exact ⟨b,0,vs,by simp,h2,h3,fun j x hx=>by rw [gZ h1]; simpa using hx⟩
  ·cases hc
 ·rename_i dB
  cases hc
  cases hp with
  | ep hr=>
   obtain ⟨vs,h1,h2,h3,_⟩:=hr.get
   exact ⟨_,_,vs,rfl,h1,h2,h3⟩
 ·cases hc
theorem lu {R:af} {w:World} {off n:Nat} {cs l:List AV} {vs:List Value} (hs:BX off n cs=some l) (h:aA R w cs vs) (h1:∀ x∈vs,x.oneCell'=true) :
  l.length=n∧aA R w l ((vs.drop off).take n)∧(∀ x∈(vs.drop off).take n,x.oneCell'=true)∧∀ j x,((vs.drop off).take n)[j]?=some x→vs[off+j]?=some x:=by
 obtain ⟨e1,e2⟩:=MR hs
 subst e1
 refine ⟨e2,(h.drop off).take n,fun x hx=>h1 x (List.mem_of_mem_drop (List.mem_of_mem_take hx)),fun j x hx=>?_⟩
 rw [List.getElem?_take] at hx
 split at hx
 ·rwa [List.getElem?_drop] at hx
 ·cases hx
def bn (E:Env) (R:af) (w:World) (β:Nat→Nat) (s:St) (a:Act) (o:Oper) (s':St):Prop:=
 ∃ nx x w' R' β',(execOp a.eval o).run E.P w=.ok nx w'∧(nx=.value x∨(nx=.skip∧x=undef))∧aL E R' w' β' s' (a.put o.dst x)∧Step R w β s.boxes R' w' β' s'.boxes
section ops
variable {E:Env} {R:af} {w:World} {β:Nat→Nat} {s:St} {a:Act} {o:Oper}
@[simp] theorem aO (s:St) (d:Option Tmp) (x:SV):(s.put d x).boxes=s.boxes:=by
 cases d with
 | none=>rfl
 | some d=>simp only [St.put]; split <;> rfl
theorem an (h:aL E R w β s a) {c:Value} {sv:SV} (hx:(execOp a.eval o).run E.P w=.ok (.value c) w) (hr:lZ R w β sv c):bn E R w β s a o (s.put o.dst sv):=
 ⟨.value c,c,w,R,β,hx,.inl rfl,h.put o.dst hr,by rw [aO]; exact Step.refl R w β s.boxes⟩
theorem B8 {t:Bool} {x y:AV} {c d:Value} (hx:Rel R w x c) (hy:Rel R w y d):Rel R w (yL t x y) (if t=true then c else d):=by
 unfold yL
 split
 ·cases hx; cases hy; cases t <;> exact .bool _
 ·cases hx; cases hy
  split
  ·rename_i e; subst e; cases t <;> exact .int _ _
  ·cases t <;> exact .int _ _
 ·cases t
  ·exact hy
  ·exact hx
theorem jc (h:aL E R w β s a) (x:Operand) (ho:o.op=.move x∨o.op=.assign x) {y:SV} (hy:ba E s.ab x=y):bn E R w β s a o (s.put o.dst y):=by
 subst hy
 refine an h (c:=a.eval x) ?_ (aF h x)
 rcases ho with ho | ho <;> simp [execOp,ho]
theorem ES (h:aL E R w β s a) (c x y:Operand) (ho:o.op=.pick c x y) {t:Bool} {p q:AV} (h1:ba E s.ab c=.v (.bool t)) (h2:ba E s.ab x=.v p) (h3:ba E s.ab y=.v q) :
  bn E R w β s a o (s.put o.dst (.v (yL t p q))):=by
 have r1:=aF h c
 have r2:=aF h x
 have r3:=aF h y
 rw [h1] at r1; rw [h2] at r2; rw [h3] at r3
 refine an h (c:=if t=true then a.eval x else a.eval y) ?_ (B8 r2 r3)
 have Wn:Rel R w (.bool t) (a.eval c):=r1
 generalize QM:a.eval c=cc at Wn
 cases Wn
 simp [execOp,ho,asBool,QM]
theorem ET (h:aL E R w β s a) (t:TypeId) (x:Operand) (ho:o.op=.load t x) {v:AV} (hl:po E s t (ba E s.ab x)=some v) :
  bn E R w β s a o (s.put o.dst (.v v)):=by
 unfold po at hl
 split at hl
 ·rename_i i cs off hi hc
  split at hl
  ·rename_i l hs
   obtain ⟨b,o',vs,e,h1,h2,h3⟩:=sf h (aF h x) hc
   obtain ⟨k1,k2,k3,k4⟩:=lu hs h1 h2
   obtain ⟨c,hc,dq⟩:=jX (E:=E) hi (b:=b) (off:=o'+off) k1 k2 k3 (fun j y hy=>by rw [Nat.add_assoc]; exact h3 _ _ (k4 j y hy)) hl
   refine an h (c:=c) ?_ dq
   simp [execOp,ho,Instr.loadAt,e,Instr.sureAddr,hc]
  ·cases hl
 ·cases hl
theorem fN {b:Nat} (hI:∀ o,¬ R.I b o) (cs:Array Value):Ext R w R (w.setRow b cs):=
 ⟨fun _ _ h=>h,fun b' o h=>bo (setRow_other w b b' cs (fun e=>hI o (e ▸ h))) o,fun _ ro h=>⟨ro,h,bI.refl ro⟩,fun b' r hb=>⟨r,by
  by_cases e:b'=b
  ·subst e
   have bM:b' < w.heap.size:=a7 hb
   have hv:w.heap[b']=.loop r:=(Array.getElem?_eq_some_iff.1 hb).2
   unfold World.setRow
   rw [Array.getElem?_eq_getElem (by simpa using bM),Array.getElem_modify]
   simp [hv]
  ·exact (setRow_other w b b' cs e).trans hb,rfl,rfl,rfl,rfl,rfl⟩⟩
theorem aA.bu {cs ys:List AV} {vs us:List Value} {off:Nat} (h:aA R w cs vs) (k:aA R w ys us) (hl:off+ys.length≤cs.length) :
  aA R w (bu cs off ys) (vs.take off++us++vs.drop (off+us.length)):=by
 rw [dh cs off ys hl,← k.length]
 exact ((h.take off).append k).append (h.drop _)
theorem gG {vs us:List Value} {off n:Nat} (h:∀ x∈vs,x.oneCell'=true) (k:∀ x∈us,x.oneCell'=true):∀ x∈vs.take off++us++vs.drop n,x.oneCell'=true:=by
 intro x hx
 simp only [List.mem_append] at hx
 rcases hx with (hx | hx) | hx
 ·exact h x (List.mem_of_mem_take hx)
 ·exact k x hx
 ·exact h x (List.mem_of_mem_drop hx)
theorem fe {t:TypeId} {i:TI} (hi:E.ti t=some i) {b off:Nat} {vs:List Value} {el:TypeId} {c:Value} (hb:w.heap[b]?=some (.cells ⟨vs⟩ el (0,0)))
  (hs:c.cells.toList.length=i.size) (hl:off+c.cells.toList.length≤vs.length) (h1:∀ v∈c.cells.toList,v.oneCell'=true) :
  (storeVar t ⟨b,off,none⟩ c).run E.P w=.ok () (w.setRow b ⟨vs.take off++c.cells.toList++vs.drop (off+c.cells.toList.length)⟩):=by
 obtain ⟨eP,u,e1,e2,e3,_⟩:=bH E hi
 have fF:=run_storeCells_at (P:=E.P) b off el c.cells.toList 0 ⟨vs⟩ w hb (by simpa using hl) h1
 have bW:c.cells.size=eP.size:=by rw [e3,← hs]; simp
 simp only [Nat.add_zero] at fF
 unfold storeVar
 simp only [Sem.run_bind,run_sizeOf w e1,Result.andThen_ok,Sem.run_ite,bW,ne_eq,not_true_eq_false,if_false]
 simpa using fF
theorem aL.B9 (h:aL E R w β s a) {id b k:Nat} {cs:List AV} (hb:nth R.obj id=some (.bi b)) (hk:cO s.boxes k=some cs):β k≠b:=by
 intro e
 exact (h.b.box k cs hk).2.2 ⟨id,_,hb,by rw [e]; rfl⟩
theorem Ca (h:aL E R w β s a) (t:TypeId) (p x:Operand) (ho:o.op=.store t p x) (hd:o.dst=none) {s':St} (hs:fy E s t (ba E s.ab p) (ba E s.ab x)=some s') :
  bn E R w β s a o s':=by
 unfold fy at hs
 have rp:=aF h p
 have rx:=aF h x
 split at hs
 ·rename_i i v hi hx
  rw [hx] at rx
  split at hs
  ·rename_i dD
   simp only [Bool.and_eq_true] at dD
   obtain ⟨EU,hlen⟩:=dD
   have hlen:=Nat.eq_of_beq_eq_true hlen
   obtain ⟨c1,c2⟩:=Rel.cells rx EU
   have pf:v.cells.length=(a.eval x).cells.toList.length:=c1.length
   split at hs
   ·-- a local box
    rename_i k off EV
    rw [EV] at rp
    split at hs
    ·rename_i cs hk
     split at hs
     ·rename_i hle
      cases hs
      have hle:=Nat.le_of_ble_eq_true hle
      obtain ⟨⟨vs,el,b1,b2,b3⟩,b4,b5⟩:=h.b.box k cs hk
      have aW:=fe (E:=E) (w:=w) hi (off:=off) (c:=a.eval x) b1 (by rw [← pf]; exact hlen) (by rw [← pf,← b2.length]; exact hle) c2
      have hex:=fN (R:=R) (w:=w) b4 ⟨vs.take off++(a.eval x).cells.toList++vs.drop (off+(a.eval x).cells.toList.length)⟩
      refine ⟨.skip,undef,w.setRow (β k) ⟨vs.take off++(a.eval x).cells.toList++vs.drop (off+(a.eval x).cells.toList.length)⟩,R,β,?_,.inr ⟨rfl,rfl⟩,?_,?_⟩
      ·simp [execOp,ho,Instr.storeAt,show a.eval p=.pointer (some ⟨β k,off,none⟩) from rp,Instr.sureAddr,aW]
      ·rw [hd]
       refine ⟨?_,?_,h.t.mono hex,h.n,h.d⟩
       ·exact h.g.bl hex rfl (fun b hb=>setRow_other w _ b _ (fun e=>b5 (e ▸ hb))) (fun _ _ _ hi=>hi) (fun b o hi=>by have:=h.g.wf b o hi; simp; omega)
       ·refine ⟨fun k' dB fA=>?_,fun k1 k2 x1 x2 g1 g2=>?_⟩
        ·rcases dV fA with ⟨rfl,e⟩ | ⟨bW,QN⟩
         ·cases e
          exact ⟨⟨_,el,setRow_heap w _ _ _ el (0,0) b1,(b2.bu c1 hle).mono hex,gG b3 c2⟩,b4,b5⟩
         ·obtain ⟨⟨vs',S7,d1,d2,d3⟩,d4,d5⟩:=h.b.box k' dB QN
          refine ⟨⟨vs',S7,?_,d2.mono hex,d3⟩,d4,d5⟩
          rw [setRow_other]
          ·exact d1
          ·exact fun e=>bW (h.b.inj k' k dB cs QN hk e).symm
        ·have q1:∃ y,cO s.boxes k1=some y:=by
          rcases dV g1 with ⟨rfl,_⟩ | ⟨_,g⟩
          ·exact ⟨_,hk⟩
          ·exact ⟨_,g⟩
         have q2:∃ y,cO s.boxes k2=some y:=by
          rcases dV g2 with ⟨rfl,_⟩ | ⟨_,g⟩
          ·exact ⟨_,hk⟩
          ·exact ⟨_,g⟩
         obtain ⟨y1,q1⟩:=q1
         obtain ⟨y2,q2⟩:=q2
         exact h.b.inj k1 k2 y1 y2 q1 q2
      ·have uh:Own R β s.boxes (β k):=.inr ⟨k,cs,hk,rfl⟩
       refine ⟨hex,rfl,rfl,rfl,by simp,fun b _ hn=>setRow_other w _ b _ (fun e=>hn (e ▸ uh)),fun b _ hb=>?_,fun b o hi _ _=>hi⟩
       rcases hb with hb | ⟨k',dB,fA,e⟩
       ·exact .inl hb
       ·rcases dV fA with ⟨rfl,_⟩ | ⟨_,g⟩
        ·exact .inr ⟨k,cs,hk,e⟩
        ·exact .inr ⟨k',dB,g,e⟩
     ·cases hs
    ·cases hs
   ·-- an object
    rename_i id off EV
    rw [EV] at rp
    split at hs
    ·rename_i cs hk
     split at hs
     ·rename_i hle
      cases hs
      have hle:=Nat.le_of_ble_eq_true hle
      have LX:Rel R w (.ptr id off) (a.eval p):=rp
      generalize JI:a.eval p=pv at LX
      cases LX with
      | @ptr _ _ b hb=>
      obtain ⟨vs,b1,b2,b3,b4⟩:=h.g.obj id _ _ hk hb
      have aW:=fe (E:=E) (w:=w) hi (off:=off) (c:=a.eval x) b1 (by rw [← pf]; exact hlen) (by rw [← pf,← b2.length]; exact hle) c2
      have hex:=fN (R:=R) (w:=w) b4 ⟨vs.take off++(a.eval x).cells.toList++vs.drop (off+(a.eval x).cells.toList.length)⟩
      refine ⟨.skip,undef,w.setRow b ⟨vs.take off++(a.eval x).cells.toList++vs.drop (off+(a.eval x).cells.toList.length)⟩,R,β,?_,.inr ⟨rfl,rfl⟩,?_,?_⟩
      ·simp [execOp,ho,Instr.storeAt,JI,Instr.sureAddr,aW]
      ·rw [hd]
       refine ⟨⟨?_,fun gb go ro hg hr=>?_,h.g.inj,fun b' o' oC=>by have:=h.g.wf b' o' oC; simp; omega,fun g dB hg=>(h.g.cG g dB hg).mono hex,by first | exact h.g.lo | exact Nat.le_succ_of_le h.g.lo⟩,?_,h.t.mono hex,h.n,h.d⟩
       ·simp [St.aZ,h.g.len]
       ·rcases bK hg with ⟨rfl,rfl,_⟩ | ⟨bW,xF⟩
        ·rw [hb] at hr
         cases hr
         exact ⟨_,setRow_heap w _ _ _ _ (0,0) b1,(b2.bu c1 hle).mono hex,gG b3 c2,b4⟩
        ·refine (h.g.obj gb go ro xF hr).mono hex (fun b' iQ=>setRow_other w _ b' _ (fun e=>bW ?_)) (fun _ _ _ hi=>hi)
         subst e
         exact h.g.inj id gb _ _ b' hb hr rfl iQ
       ·exact h.b.bl hex (fun k dB fA=>setRow_other w _ _ _ (h.B9 hb fA)) (fun _ _ _ _ hi=>hi) (fun _ _ _ hl=>hl)
      ·have uh:Own R β s.boxes b:=.inl ⟨id,_,hb,rfl⟩
       exact ⟨hex,rfl,rfl,rfl,by simp,fun b' _ hn=>setRow_other w _ b' _ (fun e=>hn (e ▸ uh)),fun _ _ hb=>hb,fun b o hi _ _=>hi⟩
     ·cases hs
    ·cases hs
   ·cases hs
  ·cases hs
 ·cases hs
end ops
end Go.Am
namespace Go.Am
open Go
section ops
variable {E:Env} {R:af} {w:World} {β:Nat→Nat} {s:St} {a:Act} {o:Oper}
def af.add (R:af) (ro:RO):af:=⟨R.I,R.obj++[ro]⟩
theorem fg (wf:∀ b o,R.I b o→b < w.heap.size) (x:Obj) (ro:RO):Ext R w (R.add ro) (w.alloc x):=
 ⟨fun _ _ h=>h,fun b o h=>bo (heap_alloc_old w x b (wf b o h)) o,fun _ r h=>⟨r,bf h,bI.refl r⟩,.old fun b hb=>heap_alloc_old w x b hb⟩
theorem hJ {ro:RO} {b:Nat} (h:Live (R.add ro) b):Live R b∨ro.has b:=by
 obtain ⟨id,r,h1,h2⟩:=h
 rcases ah h1 with h1 | ⟨_,rfl⟩
 ·exact .inl ⟨id,r,h1,h2⟩
 ·exact .inr h2
theorem aL.jn (h:aL E R w β s a) (x:Obj) (go:GO) (ro:RO) (aR:∀ b,ro.has b→b=w.heap.size) (fc:fa (R.add ro) (w.alloc x) go ro):aL E (R.add ro) (w.alloc x) β (s.cU go) a where
 g:=by
  have e:=fg (R:=R) (w:=w) h.g.wf x ro
  refine ⟨by simp [St.cU,af.add,h.g.len],fun id g r h1 h2=>?_,fun i j ri rj b h1 h2 b1 b2=>?_,fun b o hi=>?_,fun g cs hg=>(h.g.cG g cs hg).mono e,by first | exact h.g.lo | exact Nat.le_succ_of_le h.g.lo⟩
  ·rcases ah h2 with h2 | ⟨h3,rfl⟩
   ·have bM:=aQ h2
    rw [h.g.len] at bM
    rcases ah h1 with h1 | ⟨h4,_⟩
    ·exact (h.g.obj id g r h1 h2).mono e (fun b hb=>heap_alloc_old w x b (h.g.bq ⟨id,r,h2,hb⟩)) (fun _ _ _ hi=>hi)
    ·omega
   ·rcases ah h1 with h1 | ⟨h4,rfl⟩
    ·have:=aQ h1
     rw [h3,h.g.len] at this
     omega
    ·exact fc
  ·rcases ah h1 with g1 | ⟨h3,e1⟩
   ·rcases ah h2 with g2 | ⟨h4,e2⟩
    ·exact h.g.inj i j ri rj b g1 g2 b1 b2
    ·have:=h.g.bq ⟨i,ri,g1,b1⟩
     rw [e2] at b2
     have:=aR b b2
     omega
   ·rcases ah h2 with g2 | ⟨h4,e2⟩
    ·have:=h.g.bq ⟨j,rj,g2,b2⟩
     rw [e1] at b1
     have:=aR b b1
     omega
    ·omega
  ·have:=h.g.wf b o hi
   simp
   omega
 b:=h.b.bl (fg h.g.wf x ro) (fun k cs hk=>heap_alloc_old w x _ (h.cI (.inr ⟨k,cs,hk,rfl⟩))) (fun _ _ _ _ hi=>hi) (fun k cs hk hl=>by
  rcases hJ hl with hl | hl
  ·exact hl
  ·have:=h.cI (.inr ⟨k,cs,hk,rfl⟩)
   have hl:=aR _ hl
   omega)
 t:=h.t.mono (fg h.g.wf x ro)
 n:=h.n
 d:=h.d.mono (fg h.g.wf x ro)
theorem cA (h:aL E R w β s a) (x:Obj) (ro:RO) (aR:∀ b,ro.has b→b=w.heap.size):Step R w β s.boxes (R.add ro) (w.alloc x) β s.boxes:=
 ⟨fg h.g.wf x ro,rfl,rfl,rfl,by simp,fun b hb _=>heap_alloc_old w x b hb,fun b hb ho=>by
  rcases ho with ho | ho
  ·rcases hJ ho with ho | ho
   ·exact .inl ho
   ·have ho:=aR _ ho
    omega
  ·exact .inr ho,fun _ _ hi _ _=>hi⟩
theorem fh (h:aL E R w β s a) (ro:RO):nth (R.add ro).obj s.G.length=some ro:=by
 rw [← h.g.len]
 exact dp _ _
theorem Aq {f:FuncId} (h:aL E R w β s a) {v:AV} {c:Value} {t:TypeId} (hv:Rel R w v c) (hn:v.aI=true)
  (hx:(execOp a.eval o).run E.P w=.ok (.value (.pointer (some ⟨w.heap.size,0,none⟩))) (w.alloc (.cells c.cells t))) {s':St} (ha:ej E f s o.dst t v.cells=some (true,s')) :
  bn E R w β s a o s':=by
 obtain ⟨c1,c2⟩:=Rel.cells hv hn
 unfold ej at ha
 split at ha
 ·cases ha
 ·rename_i d hd
  split at ha
  ·-- an object
   cases ha
   have fc:fa (R.add (.bi w.heap.size)) (w.alloc (.cells c.cells t)) (.row v.cells t) (.bi w.heap.size):=
    ⟨c.cells.toList,heap_alloc_new w _,c1.mono (fg h.g.wf _ _),c2,fun o' hi=>by have:=h.g.wf _ _ hi; omega⟩
   have bh:=h.jn (.cells c.cells t) (.row v.cells t) (.bi w.heap.size) (by exact fun _ h=>h) fc
   refine ⟨_,.pointer (some ⟨w.heap.size,0,none⟩),_,R.add (.bi w.heap.size),β,hx,.inl rfl,?_,?_⟩
   ·rw [hd]
    exact bh.put (some d) (x:=.v (.ptr s.G.length 0)) (Rel.ptr (fh h _))
   ·rw [aO]
    exact cA h _ _ (by exact fun _ h=>h)
  ·split at ha
   ·rename_i S8
    injection ha with ha
    injection ha with _ F8
    subst F8
    have e:=xC (R:=R) (w:=w) h.g.wf (.cells c.cells t)
    let β':Nat→Nat:=fun k=>if k=d then w.heap.size else β k
    have DR:β' d=w.heap.size:=by simp [β']
    have bW:∀ k,k≠d→β' k=β k:=fun k hk=>by simp [β',hk]
    have XZ:d < a.tmps.size:=by rw [h.n]; exact Nat.le_of_ble_eq_true S8
    have Cb:((s.kill d).r7 d v.cells).put (some d) (.lp d 0)=⟨.put d (.lp d 0) :: .kill d :: s.ab,(d,v.cells) :: s.boxes,s.G,s.marks,s.ro,s.n⟩:=by
     simp only [St.put,St.r7,St.kill,S8]
    refine ⟨_,.pointer (some ⟨w.heap.size,0,none⟩),_,R,β',hx,.inl rfl,?_,?_⟩
    ·rw [hd,Cb]
     refine ⟨?_,⟨fun k cs hk=>?_,fun k k' cs dB hk fA he=>?_⟩,?_,by simp [Act.put,h.n],h.d⟩
     ·exact h.g.bl e rfl (fun b hb=>heap_alloc_old w _ b (h.g.bq hb)) (fun _ _ _ hi=>hi) (fun b o hi=>by have:=h.g.wf b o hi; simp; omega)
     ·rcases dV hk with ⟨rfl,he⟩ | ⟨Jg,hk⟩
      ·cases he
       rw [DR]
       exact ⟨⟨c.cells.toList,t,heap_alloc_new w _,c1.mono e,c2⟩,fun o' hi=>by have:=h.g.wf _ _ hi; omega,fun hl=>by have:=h.g.bq hl; omega⟩
      ·rw [bW k (Ne.symm Jg)]
       obtain ⟨⟨vs,el,b1,b2,b3⟩,b4,b5⟩:=h.b.box k cs hk
       exact ⟨⟨vs,el,(heap_alloc_old w _ _ (a7 b1)).trans b1,b2.mono e,b3⟩,b4,b5⟩
     ·rcases dV hk with ⟨rfl,_⟩ | ⟨Jg,hk⟩
      ·rcases dV fA with ⟨rfl,_⟩ | ⟨MS,fA⟩
       ·rfl
       ·rw [DR,bW k' (Ne.symm MS)] at he
        have:=h.cI (.inr ⟨k',dB,fA,rfl⟩)
        omega
      ·rcases dV fA with ⟨rfl,_⟩ | ⟨MS,fA⟩
       ·rw [DR,bW k (Ne.symm Jg)] at he
        have:=h.cI (.inr ⟨k,cs,hk,rfl⟩)
        omega
       ·rw [bW k (Ne.symm Jg),bW k' (Ne.symm MS)] at he
        exact h.b.inj k k' cs dB hk fA he
     ·intro i hi
      by_cases Ue:d=i
      ·subst Ue
       rw [aw]
       refine ⟨.pointer (some ⟨w.heap.size,0,none⟩),by simp [Act.put,XZ],?_⟩
       show Value.pointer _=_
       rw [DR]
      ·rw [aD Ue] at hi ⊢
       rcases DP (l:=s.ab) (d:=d) (t:=i) with ⟨h1,h2⟩ | h1
       ·rw [h1] at hi ⊢
        obtain ⟨c',q1,q2⟩:=h.t i hi
        refine ⟨c',?_,?_⟩
        ·simp only [Act.put]
         rw [Array.getElem?_setIfInBounds_ne Ue]
         exact q1
        ·cases sW:lk s.ab i with
         | none=>trivial
         | v y=>rw [sW] at q2; exact Rel.mono e q2
         | lp k off=>
          rw [sW] at q2
          show c'=_
          rw [bW k (h2 k off sW)]
          exact q2
       ·exact absurd h1 hi
    ·rw [Cb]
     refine ⟨e,rfl,rfl,rfl,by simp,fun b hb _=>heap_alloc_old w _ b hb,fun b hb ho=>?_,fun _ _ hi _ _=>hi⟩
     rcases ho with ho | ⟨k,cs,hk,he⟩
     ·exact .inl ho
     ·rcases dV hk with ⟨rfl,_⟩ | ⟨Jg,hk⟩
      ·rw [DR] at he
       omega
      ·rw [bW k (Ne.symm Jg)] at he
       exact .inr ⟨k,cs,hk,he⟩
   ·cases ha
theorem cw {i:TypeInfo} {z:AV} (h:eJ i=some z):∃ c,i.zero=some c∧∀ R w,Rel R w z c:=by
 unfold eJ at h
 split at h
 ·rename_i c hc
  exact ⟨c,hc,fun R w=>se h⟩
 ·cases h
theorem Cc {f:FuncId} (h:aL E R w β s a) (t:TypeId) (ho:o.op=.alloc t) {i:TI} {z:AV} (hi:E.ti t=some i) (hz:i.zero=some z) (hn:z.aI=true) {s':St} (ha:ej E f s o.dst t z.cells=some (true,s')) :
  bn E R w β s a o s':=by
 obtain ⟨eP,u,e1,e2,e3,e4,e5,e6⟩:=bH E hi
 rw [hz] at e6
 obtain ⟨c,hc,hr⟩:=cw e6
 refine Aq h (hr R w) hn (t:=t) ?_ ha
 simp [execOp,ho,Instr.alloc,fE w e1 hc,uf]
theorem Gw {f:FuncId} (h:aL E R w β s a) (t:TypeId) (x:Operand) (ho:o.op=.box t x) {v:AV} (hv:ba E s.ab x=.v v) (hn:v.aI=true) {s':St} (ha:ej E f s o.dst t v.cells=some (true,s')) :
  bn E R w β s a o s':=by
 have hr:=aF h x
 rw [hv] at hr
 refine Aq h hr hn (t:=t) ?_ ha
 simp [execOp,ho,Instr.box,uf]
end ops
end Go.Am
namespace Go.Am
open Go
section types
variable {P:Program}
theorem lx:∀ {fs:List Field} {l:List (Nat × Nat × Bool)},fieldsOf P fs=some l→∀ {j o sz:Nat} {ag:Bool},nth l j=some (o,sz,ag) →
  ∃ f fi u,fs[j]?=some f∧f.offset=o∧P.info? f.type=some fi∧fi.size=sz∧P.underlying f.type=some u∧iy u=ag
 | [],l,h,j,o,sz,ag,hn=>by simp [fieldsOf] at h; subst h; simp [nth] at hn
 | f :: fs,l,h,j,o,sz,ag,hn=>by
  unfold fieldsOf at h
  split at h
  ·rename_i i u r h1 h2 h3
   cases h
   cases j with
   | zero=>simp [nth] at hn; obtain ⟨e1,e2,e3⟩:=hn; exact ⟨f,i,u,by simp,e1,h1,e2,h2,e3⟩
   | succ j=>
    obtain ⟨f',fi,u',g1,g2⟩:=lx h3 (show nth r j=some (o,sz,ag) from hn)
    exact ⟨f',fi,u',by simpa using g1,g2⟩
  ·cases h
theorem lT:∀ {fs:List Field} {l:List (Nat × Nat × Bool)},fieldsOf P fs=some l→fs.mapM (fun f=>(P.info? f.type).map fun i=>(f.offset,i.size))=some (l.map fun x=>(x.1,x.2.1))
 | [],l,h=>by simp [fieldsOf] at h; subst h; simp
 | f :: fs,l,h=>by
  unfold fieldsOf at h
  split at h
  ·rename_i i u r h1 h2 h3
   cases h
   simp [List.mapM_cons,h1,lT h3]
  ·cases h
theorem DS {u:TypeDesc} {l:List (Nat × Nat × Bool)} (h:nP P u=some (.st l)):∃ fs,u=.struct fs∧fieldsOf P fs.toList=some l:=by
 cases u <;> simp only [nP] at h <;> try (cases h; done)
 all_goals (try (split at h <;> cases h; done))
 rename_i fs
 split at h
 ·rename_i l' hl
  cases h
  exact ⟨fs,rfl,hl⟩
 ·cases h
theorem mr {u:TypeDesc} {n esz:Nat} {ag:Bool} (h:nP P u=some (.arr n esz ag)):∃ e i ue,u=.array n e∧P.info? e=some i∧i.size=esz∧P.underlying e=some ue∧iy ue=ag:=by
 cases u <;> simp only [nP] at h <;> try (cases h; done)
 all_goals (try (split at h <;> cases h; done))
 rename_i m e
 split at h
 ·rename_i i ue h1 h2
  cases h
  exact ⟨e,i,ue,rfl,h1,rfl,h2,rfl⟩
 ·cases h
theorem cp {u:TypeDesc} {e esz lU:Nat} {ag:Bool} {z:Option AV} (h:nP P u=some (.sl e esz ag lU z)) :
  ∃ i ue,u=.slice e∧P.info? e=some i∧i.size=esz∧i.bytes=lU∧P.underlying e=some ue∧iy ue=ag∧eJ i=z:=by
 cases u <;> simp only [nP] at h <;> try (cases h; done)
 all_goals (try (split at h <;> cases h; done))
 rename_i e'
 split at h
 ·rename_i i ue h1 h2
  injection h with h
  injection h with g1 g2 g3 g4 g5
  subst g1; subst g2; subst g3; subst g4; subst g5
  exact ⟨i,ue,rfl,h1,rfl,rfl,h2,rfl,rfl⟩
 ·cases h
theorem jo {u:TypeDesc} (h:nP P u=some .str):u=.string:=by
 cases u <;> simp only [nP] at h <;> try (cases h; done)
 all_goals (try (split at h <;> cases h; done))
 rfl
theorem pF {u:TypeDesc} {k:IntKind} (h:nP P u=some (.int k)):u=.int k:=by
 cases u <;> simp only [nP] at h <;> try (cases h; done)
 all_goals (try (split at h <;> cases h; done))
 cases h
 rfl
theorem kE {u:TypeDesc} {k e:TypeId} {z:Option AV} (h:nP P u=some (.map k e z)):u=.map k e∧∃ i,P.info? e=some i∧eJ i=z:=by
 cases u <;> simp only [nP] at h <;> try (cases h; done)
 all_goals (try (split at h <;> cases h; done))
 split at h
 ·rename_i i h1
  cases h
  exact ⟨rfl,i,h1,rfl⟩
 ·cases h
end types
section ops
variable {E:Env} {R:af} {w:World} {β:Nat→Nat} {s:St} {a:Act} {o:Oper}
theorem xG {p q:SV} {c:Value} {n:Nat} (hp:lZ R w β p c) (hm:xu n p=some q) :
  ∃ b o,c=.pointer (some ⟨b,o,none⟩)∧lZ R w β q (.pointer (some ⟨b,o+n,none⟩)):=by
 unfold xu at hm
 split at hm
 ·cases hm
  exact ⟨_,_,hp,rfl⟩
 ·cases hm
  cases hp with
  | @ptr _ _ b hb=>exact ⟨b,_,rfl,Rel.ptr hb⟩
 ·cases hm
  cases hp with
  | @ep _ b o hr=>
   refine ⟨b,o,rfl,Rel.ep ?_⟩
   rw [uc]
   exact hr.drop n
 ·cases hm
  cases hp with
  | @gp _ _ _ _ _ b o _ ro hr cM=>
   refine ⟨b,o,rfl,Rel.gp hr ?_⟩
   cases ro with
   | none=>trivial
   | aN=>exact cM.elim
   | bi _=>exact cM.elim
   | aH _=>exact cM.elim
   | tok f1 b1 c1=>exact ⟨cM.1,fun e=>⟨(cM.2 e).1,by rw [(cM.2 e).2,Nat.add_assoc]⟩⟩
 ·cases hm
  cases hp with
  | @rp _ _ _ _ _ _ b o _ ro hr cM=>
   refine ⟨b,o,rfl,Rel.rp hr ?_⟩
   cases ro with
   | none=>trivial
   | aN=>exact cM.elim
   | bi _=>exact cM.elim
   | tok _ _ _ _=>exact cM.elim
   | aH ts=>
    obtain ⟨t,k1,k2⟩:=cM
    refine ⟨t,k1,?_⟩
    cases t with
    | aN=>exact k2.elim
    | full _=>exact k2
    | tok f1 b1 c1=>exact ⟨k2.1,fun e=>⟨(k2.2 e).1,by rw [(k2.2 e).2,Nat.add_assoc]⟩⟩
 ·cases hm
theorem ui (h:aL E R w β s a) (t:TypeId) (x:Operand) (j:Nat) (ho:o.op=.fieldAddr t x j) {q:SV} (hq:jk E t (ba E s.ab x) j=some q) :
  bn E R w β s a o (s.put o.dst q):=by
 unfold jk at hq
 split at hq
 ·rename_i i hi
  split at hq
  ·rename_i fs hk
   split at hq
   ·rename_i off sz ag hn
    split at hq
    ·rename_i dl
     have dl:=Nat.le_of_ble_eq_true dl
     obtain ⟨eP,u,e1,e2,e3,e4,e5,e6⟩:=bH E hi
     rw [hk] at e5
     obtain ⟨fl,rfl,hf⟩:=DS e5
     obtain ⟨f,fi,u',g1,g2,g3,g4,g5,g6⟩:=lx hf hn
     obtain ⟨b,o',m1,m2⟩:=xG (aF h x) hq
     refine an h ?_ m2
     have wL:fl[j]?=some f:=by simpa using g1
     have bW:¬ fi.size=0:=by omega
     simp [execOp,ho,Instr.fieldAt,run_underlying e2,wL,m1,Instr.sureAddr,fieldPlace,run_sizeOf w g3,bW,bO,g2]
    ·cases hq
   ·cases hq
  ·cases hq
 ·cases hq
theorem Ar {b o sz:Nat} {es:List AV} (h:eY R w b o sz es) {n:Nat} {e:AV} (hn:nth es n=some e):dN R w b (o+n * sz) e.cells∧e.cells.length=sz∧e.aI=true:=by
 induction es generalizing o n with
 | nil=>simp [nth] at hn
 | cons x l ih=>
  cases h with
  | cons hl ht _ h t=>
   cases n with
   | zero=>simp [nth] at hn; subst hn; exact ⟨by simpa using h,hl,ht⟩
   | succ n=>
    have:=ih t (show nth l n=some e from hn)
    rw [show o+sz+n * sz=o+(n+1) * sz by rw [Nat.add_mul]; omega] at this
    exact this
theorem uj (h:aL E R w β s a) (t:TypeId) (x ix:Operand) (ho:o.op=.indexAddr t x ix) {q:SV} (hq:jj E t (ba E s.ab x) (ba E s.ab ix)=some (true,q)) :
  bn E R w β s a o (s.put o.dst q):=by
 have rx:=aF h x
 have ri:=aF h ix
 unfold jj at hq
 split at hq
 ·rename_i i k n hi QO
  rw [QO] at ri
  have LY:Rel R w (.int k n) (a.eval ix):=ri
  generalize Gx:a.eval ix=iv at LY
  cases LY
  obtain ⟨eP,u,e1,e2,e3,e4,e5,e6⟩:=bH E hi
  split at hq
  ·-- a list
   rename_i elem esz ag lU z kk sz es hk hx
   rw [hx] at rx
   rw [hk] at e5
   obtain ⟨ie,ue,rfl,f1,f2,f3,f4,f5,f6⟩:=cp e5
   split at hq
   ·rename_i hc
    have key:∀ (u:AV),(0≤n∧n < (es.length:Int))→b9 (av es n.toNat).cells u.cells→bn E R w β s a o (s.put o.dst (.v (.ep u.cells))):=fun u sX hu=>by
     obtain ⟨yR,EW⟩:=sX
     have cF:Rel R w (.list kk sz es) (a.eval x):=rx
     generalize dP:a.eval x=xv at cF
     cases cF with
     | gF=>simp at EW; omega
     | gl=>simp at EW; omega
     | ki=>simp at EW; omega
     | jl=>simp at EW; omega
     | jO=>simp at EW; omega
     | @list _ _ _ b o' len cap hr hl dW Cd=>
      subst hl
      have bM:n.toNat < es.length:=by omega
      obtain ⟨e,he⟩:∃ e,nth es n.toNat=some e:=⟨es[n.toNat],by rw [aE]; exact List.getElem?_eq_getElem bM⟩
      have dl:sz=esz:=by
       simp only [Bool.or_eq_true] at hc
       rcases hc with hc | hc
       ·exact Nat.eq_of_beq_eq_true hc
       ·cases es with
        | nil=>simp at bM
        | cons _ _=>simp at hc
      obtain ⟨g1,_,_⟩:=Ar hr he
      refine an h (c:=.pointer (some ⟨b,o'+n.toNat * sz,none⟩)) ?_ ?_
      ·have dD:0≤n∧n < (es.length:Int):=⟨yR,EW⟩
       simp [execOp,ho,Instr.indexAt,Gx,dP,asIntOf,run_underlying e2,dD,run_sizeOf w f1,f2,dl,bO]
      ·have:av es n.toNat=e:=by simp [av,he]
       rw [this] at hu
       exact .ep (hu.Gt g1)
    split at hq
    ·rename_i p hp
     injection hq with hq
     injection hq with sX ma
     subst ma
     rw [Bool.and_eq_true] at sX
     have dD:=of_decide_eq_true sX.1
     have hd:=p.cn sX.2
     have bM:n.toNat < es.length:=by omega
     refine key _ dD (hd.cells ?_)
     obtain ⟨e,he⟩:∃ e,nth es n.toNat=some e:=⟨es[n.toNat],by rw [aE]; exact List.getElem?_eq_getElem bM⟩
     have:av es n.toNat=e:=by simp [av,he]
     rw [this]
     have cF:Rel R w (.list kk sz es) (a.eval x):=rx
     generalize a.eval x=xv at cF
     cases cF with
     | gF=>simp at bM
     | gl=>simp at bM
     | ki=>simp at bM
     | jl=>simp at bM
     | jO=>simp at bM
     | list hr _ _ _=>exact (Ar hr he).2.2
    ·injection hq with hq
     injection hq with sX ma
     subst ma
     exact key _ (of_decide_eq_true sX) (b9.refl _)
   ·cases hq
  ·-- a heap slice
   rename_i elem esz ag lU z id off sz len cap hk hx
   rw [hx] at rx
   rw [hk] at e5
   obtain ⟨ie,ue,rfl,f1,f2,f3,f4,f5,f6⟩:=cp e5
   split at hq
   ·rename_i hc
    have dl:=Nat.eq_of_beq_eq_true hc
    injection hq with hq
    injection hq with sX ma
    subst ma
    have dD:=of_decide_eq_true sX
    have cF:Rel R w (.gC id off sz len cap) (a.eval x):=rx
    generalize dP:a.eval x=xv at cF
    cases cF with
    | @gC _ _ _ _ _ b hb _=>
     refine an h (c:=.pointer (some ⟨b,off+n.toNat * sz,none⟩)) ?_ (Rel.ptr hb)
     simp [execOp,ho,Instr.indexAt,Gx,dP,asIntOf,run_underlying e2,dD,run_sizeOf w f1,f2,dl,bO]
   ·cases hq
  ·-- a slice that grows
   rename_i elem esz ag lU z id f' off sz len hk hx
   rw [hx] at rx
   rw [hk] at e5
   obtain ⟨ie,ue,rfl,f1,f2,f3,f4,f5,f6⟩:=cp e5
   split at hq
   ·rename_i hc
    have dl:=Nat.eq_of_beq_eq_true hc
    injection hq with hq
    injection hq with sX ma
    subst ma
    have dD:=of_decide_eq_true sX
    have cF:Rel R w (.cL id f' off sz len) (a.eval x):=rx
    generalize dP:a.eval x=xv at cF
    cases cF with
    | gB _ _=>omega
    | @cL _ _ _ _ _ cap b o' ro aR cM dW=>
     refine an h (c:=.pointer (some ⟨b,o'+n.toNat * sz,none⟩)) ?_ (Rel.gp aR ?_)
     ·simp [execOp,ho,Instr.indexAt,Gx,dP,asIntOf,run_underlying e2,dD,run_sizeOf w f1,f2,dl,bO]
     ·cases ro with
      | none=>trivial
      | aN=>exact cM.elim
      | bi _=>exact cM.elim
      | aH _=>exact cM.elim
      | tok f1 b1 c1=>
       refine ⟨cM.1,fun e=>?_⟩
       obtain ⟨k1,k2,k3⟩:=cM.2 e
       refine ⟨k1,?_⟩
       rcases k3 with k3 | k3
       ·rw [k3,Nat.add_zero,Nat.add_mul]
       ·omega
   ·cases hq
  ·-- a row
   rename_i elem esz ag lU z id j' sz len hk hx
   rw [hx] at rx
   rw [hk] at e5
   obtain ⟨ie,ue,rfl,f1,f2,f3,f4,f5,f6⟩:=cp e5
   split at hq
   ·rename_i hc
    have dl:=Nat.eq_of_beq_eq_true hc
    injection hq with hq
    injection hq with sX ma
    subst ma
    have dD:=of_decide_eq_true sX
    have cF:Rel R w (.fx id j' sz len) (a.eval x):=rx
    generalize dP:a.eval x=xv at cF
    cases cF with
    | py _ _=>omega
    | @fx _ _ _ _ cap b o' ro aR cM dW=>
     refine an h (c:=.pointer (some ⟨b,o'+n.toNat * sz,none⟩)) ?_ (Rel.rp aR ?_)
     ·simp [execOp,ho,Instr.indexAt,Gx,dP,asIntOf,run_underlying e2,dD,run_sizeOf w f1,f2,dl,bO]
     ·cases ro with
      | none=>trivial
      | aN=>exact cM.elim
      | bi _=>exact cM.elim
      | tok _ _ _ _=>exact cM.elim
      | aH ts=>
       obtain ⟨t,k1,k2⟩:=cM
       refine ⟨t,k1,?_⟩
       cases t with
       | aN=>exact k2.elim
       | full f1=>exact k2.1
       | tok f1 b1 c1=>
        refine ⟨k2.1,fun e=>?_⟩
        obtain ⟨k3,k4,k5⟩:=k2.2 e
        refine ⟨k3,?_⟩
        rcases k4 with k4 | k4
        ·rw [k4,Nat.zero_add,Nat.add_zero]
        ·omega
   ·cases hq
  ·-- an array that is never written
   rename_i len esz ag cs hk hx
   rw [hx] at rx
   rw [hk] at e5
   obtain ⟨e,ie,ue,rfl,f1,f2,f3,f4⟩:=mr e5
   have cF:Rel R w (.ep cs) (a.eval x):=rx
   generalize dP:a.eval x=xv at cF
   cases cF with
   | @ep _ b o' hr=>
    split at hq
    ·rename_i p hp
     split at hq
     ·rename_i hc
      rw [Bool.and_eq_true] at hc
      have hz:=Nat.eq_of_beq_eq_true hc.1
      have hl:=Nat.le_of_ble_eq_true hc.2
      injection hq with hq
      injection hq with sX ma
      subst ma
      rw [Bool.and_eq_true] at sX
      have dD:=of_decide_eq_true sX.1
      have hd:=p.cn sX.2
      have bM:n.toNat < cs.length:=by omega
      have Wo:=hr.drop n.toNat
      rw [List.drop_eq_getElem_cons bM] at Wo
      have hn:av cs n.toNat=cs[n.toNat]:=by
       unfold av
       rw [aE,List.getElem?_eq_getElem bM]
      rw [hn] at hd ⊢
      refine an h (c:=.pointer (some ⟨b,o'+n.toNat * esz,none⟩)) ?_ ?_
      ·simp [execOp,ho,Instr.indexAt,Gx,dP,Instr.sureAddr,asIntOf,run_underlying e2,dD,run_sizeOf w f1,f2,bO]
      ·subst hz
       rw [Nat.mul_one]
       cases Wo with
       | cons hc h1 hi dq t=>exact .ep (.cons hc h1 hi (hd.1 _ _ _ dq) .nil)
     ·cases hq
    ·injection hq with hq
     injection hq with sX ma
     subst ma
     have dD:=of_decide_eq_true sX
     refine an h (c:=.pointer (some ⟨b,o'+n.toNat * esz,none⟩)) ?_ ?_
     ·simp [execOp,ho,Instr.indexAt,Gx,dP,Instr.sureAddr,asIntOf,run_underlying e2,dD,run_sizeOf w f1,f2,bO]
     ·rw [uc]
      exact .ep (hr.drop _)
  ·-- an array
   rename_i len esz ag hk _
   rw [hk] at e5
   obtain ⟨e,ie,ue,rfl,f1,f2,f3,f4⟩:=mr e5
   split at hq
   ·rename_i q' hm
    injection hq with hq
    injection hq with sX ma
    subst ma
    have dD:=of_decide_eq_true sX
    obtain ⟨b,o',m1,m2⟩:=xG rx hm
    refine an h ?_ m2
    simp [execOp,ho,Instr.indexAt,Gx,m1,Instr.sureAddr,asIntOf,run_underlying e2,dD,run_sizeOf w f1,f2,bO]
   ·cases hq
  ·cases hq
 ·cases hq
theorem kF {t:TypeId} {i:TypeInfo} {u:TypeDesc} (h1:E.P.info? t=some i) (h2:E.P.underlying t=some u) {off:Nat} {cs l:List AV} {vs:List Value} {v:AV} (hr:aA R w cs vs) (h3:∀ x∈vs,x.oneCell'=true)
  (yS:iy u=true→BX off i.size cs=some l∧pn true l=some v) (X0:iy u=false→BX off 1 cs=some l∧pn false l=some v) :
  ∃ c,(part t ⟨vs⟩ off).run E.P w=.ok c w∧Rel R w v c:=by
 unfold part
 simp only [Sem.run_bind,xD w h2,Result.andThen_ok]
 cases ha:iy u with
 | true=>
  obtain ⟨g1,g2⟩:=yS ha
  obtain ⟨k1,k2,k3,k4⟩:=lu g1 hr h3
  obtain ⟨m1,_⟩:=ug g2 k2 k3
  refine ⟨_,?_,m1 rfl⟩
  have:(⟨vs⟩:Array Value).extract off (off+i.size)=⟨(vs.drop off).take i.size⟩:=by
   apply Array.ext'
   simp [List.extract_eq_take_drop]
  simp [run_sizeOf w h1]
 | false=>
  obtain ⟨g1,g2⟩:=X0 ha
  obtain ⟨k1,k2,k3,k4⟩:=lu g1 hr h3
  obtain ⟨_,m2⟩:=ug g2 k2 k3
  obtain ⟨c,hc,dq⟩:=m2 rfl
  refine ⟨c,?_,dq⟩
  have h0:=k4 0 c (by rw [hc]; simp)
  simp only [Nat.add_zero] at h0
  simp [h0]
theorem Ce (h:aL E R w β s a) (t:TypeId) (x:Operand) (j:Nat) (ho:o.op=.field t x j) {v:AV} (hq:BZ E t (ba E s.ab x) j=some v) :
  bn E R w β s a o (s.put o.dst (.v v)):=by
 have rx:=aF h x
 unfold BZ at hq
 split at hq
 ·rename_i i cs hi hx
  rw [hx] at rx
  have cF:Rel R w (.agg cs) (a.eval x):=rx
  generalize dP:a.eval x=xv at cF
  cases cF with
  | @agg _ vs hr h1=>
  split at hq
  ·rename_i fs hk
   split at hq
   ·rename_i off sz ag hn
    obtain ⟨eP,u,e1,e2,e3,e4,e5,e6⟩:=bH E hi
    rw [hk] at e5
    obtain ⟨fl,rfl,hf⟩:=DS e5
    obtain ⟨f,fi,u',g1,g2,g3,g4,g5,g6⟩:=lx hf hn
    have key:∃ c,(part f.type ⟨vs⟩ off).run E.P w=.ok c w∧Rel R w v c:=by
     split at hq
     ·rename_i yS
      split at hq
      ·rename_i l hl
       exact kF g3 g5 (l:=l) hr h1 (fun _=>⟨by rw [g4]; exact hl,hq⟩) (fun hf=>by rw [g6,yS] at hf; cases hf)
      ·cases hq
     ·rename_i yS
      split at hq
      ·rename_i l hl
       exact kF g3 g5 (l:=l) hr h1 (fun hf=>by rw [g6] at hf; exact absurd hf yS) (fun _=>⟨hl,hq⟩)
      ·cases hq
    obtain ⟨c,k1,k2⟩:=key
    refine an h ?_ k2
    have wL:fl[j]?=some f:=by simpa using g1
    simp [execOp,ho,Instr.field,run_underlying e2,wL,dP,asAgg,g2,k1]
   ·cases hq
  ·cases hq
 ·cases hq
theorem Cf (h:aL E R w β s a) (t:TypeId) (x ix:Operand) (ho:o.op=.index t x ix) {v:AV} (hq:B0 E t (ba E s.ab x) (ba E s.ab ix)=some (true,v)) :
  bn E R w β s a o (s.put o.dst (.v v)):=by
 have rx:=aF h x
 have ri:=aF h ix
 unfold B0 at hq
 split at hq
 ·rename_i i l k n hi hx QO
  rw [hx] at rx
  rw [QO] at ri
  have LY:Rel R w (.int k n) (a.eval ix):=ri
  have cF:Rel R w (.str l) (a.eval x):=rx
  generalize Gx:a.eval ix=iv at LY
  generalize dP:a.eval x=xv at cF
  cases LY
  cases cF
  obtain ⟨eP,u,e1,e2,e3,e4,e5,e6⟩:=bH E hi
  split at hq
  ·rename_i hk
   rw [hk] at e5
   have:=jo e5
   subst this
   injection hq with hq
   injection hq with sX ma
   subst ma
   obtain ⟨yR,EW⟩:=of_decide_eq_true sX
   have bM:n.toNat < l.length:=by omega
   refine an h (c:=.int .u8 (l.getD n.toNat 0).toNat) ?_ (Rel.int _ _)
   have iV:(⟨⟨l⟩⟩:ByteArray)[n.toNat]?=some (l.getD n.toNat 0):=by
    have hs:n.toNat < (⟨⟨l⟩⟩:ByteArray).size:=bM
    rw [getElem?_pos (⟨⟨l⟩⟩:ByteArray) n.toNat hs]
    congr 1
    simp [List.getD,List.getElem?_eq_getElem bM]
    rfl
   simp [execOp,ho,Instr.index,Gx,dP,asIntOf,run_underlying e2,yR,iV]
  ·cases hq
 ·rename_i i cs k n hi hx QO
  rw [hx] at rx
  rw [QO] at ri
  have LY:Rel R w (.int k n) (a.eval ix):=ri
  have cF:Rel R w (.agg cs) (a.eval x):=rx
  generalize Gx:a.eval ix=iv at LY
  generalize dP:a.eval x=xv at cF
  cases LY
  cases cF with
  | @agg _ vs hr h1=>
  obtain ⟨eP,u,e1,e2,e3,e4,e5,e6⟩:=bH E hi
  split at hq
  ·rename_i len esz ag hk
   rw [hk] at e5
   obtain ⟨e,ie,ue,rfl,f1,f2,f3,f4⟩:=mr e5
   split at hq
   ·rename_i v' MT
    injection hq with hq
    injection hq with sX ma
    subst ma
    have dD:=of_decide_eq_true sX
    have key:∃ c,(part e ⟨vs⟩ (n.toNat * esz)).run E.P w=.ok c w∧Rel R w v' c:=by
     split at MT
     ·rename_i yS
      split at MT
      ·rename_i l hl
       exact kF f1 f3 (l:=l) hr h1 (fun _=>⟨by rw [f2]; exact hl,MT⟩) (fun hf=>by rw [f4,yS] at hf; cases hf)
      ·cases MT
     ·rename_i yS
      split at MT
      ·rename_i l hl
       exact kF f1 f3 (l:=l) hr h1 (fun hf=>by rw [f4] at hf; exact absurd hf yS) (fun _=>⟨hl,MT⟩)
      ·cases MT
    obtain ⟨c,k1,k2⟩:=key
    refine an h ?_ k2
    simp [execOp,ho,Instr.index,Gx,dP,asIntOf,run_underlying e2,dD,run_sizeOf w f1,f2,k1]
   ·cases hq
  ·cases hq
 ·cases hq
theorem yT (h:aL E R w β s a) (x:Operand) (j:Nat) (ho:o.op=.extract x j) {vs:List AV} {v:AV} (hx:ba E s.ab x=.v (.bt vs)) (hn:nth vs j=some v) :
  bn E R w β s a o (s.put o.dst (.v v)):=by
 have rx:=aF h x
 rw [hx] at rx
 have cF:Rel R w (.bt vs) (a.eval x):=rx
 generalize dP:a.eval x=xv at cF
 cases cF with
 | @bt _ us hr=>
 rw [aE] at hn
 obtain ⟨c,h1,h2⟩:=hr.get hn
 refine an h ?_ h2
 simp [execOp,ho,Instr.extract,dP,h1]
theorem er (h:aL E R w β s a):∀ {l:List Operand} {vs:List AV},jU E s.ab l=some vs→aA R w vs (l.map a.eval)
 | [],vs,hl=>by simp [jU] at hl; subst hl; exact .nil
 | x :: l,vs,hl=>by
  unfold jU at hl
  split at hl
  ·rename_i v r h1 h2
   cases hl
   have:=aF h x
   rw [h1] at this
   exact .cons this (er h h2)
  ·cases hl
theorem wP (h:aL E R w β s a) (g:FuncId) (x y:Array Operand) (ho:o.op=.makeFunc (.func g) x y) {p q:List AV} (hp:jU E s.ab x.toList=some p) (hq:jU E s.ab y.toList=some q) :
  bn E R w β s a o (s.put o.dst (.v (.fn g p q))):=by
 have h1:=er h hp
 have h2:=er h hq
 refine an h (c:=.func (.func g) ⟨x.toList.map a.eval⟩ ⟨y.toList.map a.eval⟩) ?_ (Rel.fn h1 h2)
 have e1:x.map a.eval=⟨x.toList.map a.eval⟩:=Array.ext' (by simp)
 have e2:y.map a.eval=⟨y.toList.map a.eval⟩:=Array.ext' (by simp)
 simp [execOp,ho,Instr.makeFunc,e1,e2]
end ops
end Go.Am
