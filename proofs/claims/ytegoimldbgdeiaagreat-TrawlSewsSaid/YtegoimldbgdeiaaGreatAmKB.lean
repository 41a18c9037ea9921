/- The abstract machine: lists of cells; what keeps a state's meaning; loads and stores. -/
import Derived.Test.YtegoimldbgdeiaaGreatAmKA
import Derived.Laws.CopyRow
import Derived.Laws.Slices
import Derived.Laws.StructEq
import Derived.ChangeKeysEq
import Derived.Laws.Cover3
import Derived.Laws.Pointers
import Derived.Lib.SliceRun
set_option linter.all false
open Array renaming getElem?_eq_some_iff→aaQ, getElem?_eq_getElem→aaZ, ext'→aa6
open Bool renaming and_eq_true→aal, true_and→aaU, false_eq_true→aaW, and_true→aa8
open Go.Instr renaming sureAddr→aaM, indexAt→aaN
open Go.Op renaming stringOp→aaR, intCmp→aaX, bytesLess→aa0, intArith→aa1, equalIn→aa7
open Go.Result renaming andThen_ok→aap
open Go.Sem renaming run_bind→aas, run_pure→aaS
open Go.Value renaming oneCell'→aao, cells→aaq
open List renaming getElem?_eq_getElem→aav, map→aa3, mem_of_mem_drop→aa4, mem_of_mem_take→aa5, map_cons→aa9
open Nat renaming eq_of_beq_eq_true→aax, le_of_ble_eq_true→aaI, beq_eq→aaK, beq→aaL, beq_refl→aaO, le_succ_of_le→aaT, add_zero→aaV, add_assoc→aaY
open Ne renaming symm→aa2
open Option.some renaming inj→abe
namespace Go.Am
open Go
section lists
variable {α:Type}
theorem zn (n:Nat) (l:List α):gm n l=l.drop n:=by
 induction n generalizing l with
 |zero=>simp [gm]
 |succ n ih=>cases l <;> simp [gm,ih]
theorem Mh {n:Nat} {l r:List α} (h:takeN n l=some r):r=l.take n∧r.length=n:=by
 induction n generalizing l r with
 |zero=>simp [takeN] at h; subst h; simp
 |succ n ih=>
  cases l with
  |nil=>simp [takeN] at h
  |cons a l=>
   unfold takeN at h;split at h
   ·rename_i r' hr;cases h;obtain ⟨h1,h2⟩:=ih hr;exact ⟨by simp [h1],by simp [h2]⟩
   ·cases h
theorem TX {off n:Nat} {l r:List α} (h:GP off n l=some r):r=(l.drop off).take n∧r.length=n:=by
 unfold GP at h;rw [zn] at h;exact Mh h
theorem eN (l:List α) (off:Nat) (ys:List α) (h:off+ys.length≤l.length):bu l off ys=l.take off++ys++l.drop (off+ys.length):=by
 induction l generalizing off ys with
 |nil=>
  have hy:ys=[]:=List.eq_nil_of_length_eq_zero (by rw [List.length_nil] at h; omega);subst hy;simp [bu]
 |cons a l ih=>
  cases ys with
  |nil=>simp [bu]
  |cons y ys=>
   cases off with
   |zero=>
    simp only [bu];rw [ih 0 ys (by simp at h ⊢; omega)];simp
   |succ n=>
    simp only [bu];rw [ih n (y :: ys) (by simp at h ⊢; omega)];rw [show n+1+(y :: ys).length=(n+(y :: ys).length)+1 by omega];simp
theorem sU (l:List α) (off:Nat) (ys:List α) (h:off+ys.length≤l.length):(bu l off ys).length=l.length:=by
 rw [eN l off ys h];simp;omega
end lists
section rel
variable {R:ai} {w:World}
theorem aL.length {l:List AV} {vs:List Value} (h:aL R w l vs):l.length=vs.length:=by
 induction l generalizing vs with
 |nil=>cases h; rfl
 |cons a l ih=>cases h with | cons h t=>simp [ih t]
theorem aL.get {l:List AV} {vs:List Value} (h:aL R w l vs) {i:Nat} {a:AV} (ha:l[i]?=some a):∃ c,vs[i]?=some c∧Rel R w a c:=by
 induction l generalizing vs i with
 |nil=>simp at ha
 |cons x l ih=>
  cases h with
  |cons h t=>
   cases i with
   |zero=>simp at ha; subst ha; exact ⟨_,by simp,h⟩
   |succ i=>simp at ha; obtain ⟨c,h1,h2⟩:=ih t ha; exact ⟨c,by simpa using h1,h2⟩
theorem aL.drop {l:List AV} {vs:List Value} (h:aL R w l vs) (n:Nat):aL R w (l.drop n) (vs.drop n):=by
 induction n generalizing l vs with
 |zero=>simpa using h
 |succ n ih=>cases h with
  |nil=>simpa using aL.nil
  |cons h t=>simpa using ih t
theorem aL.take {l:List AV} {vs:List Value} (h:aL R w l vs) (n:Nat):aL R w (l.take n) (vs.take n):=by
 induction n generalizing l vs with
 |zero=>simpa using aL.nil
 |succ n ih=>cases h with
  |nil=>simpa using aL.nil
  |cons h t=>simpa using aL.cons h (ih t)
theorem aL.append {l r:List AV} {vs us:List Value} (h:aL R w l vs) (k:aL R w r us):aL R w (l++r) (vs++us):=by
 induction l generalizing vs with
 |nil=>cases h; simpa using k
 |cons a l ih=>cases h with | cons h t=>exact .cons h (ih t)
theorem aL.one {a:AV} {c:Value} (h:Rel R w a c):aL R w [a] [c]:=.cons h .nil
theorem Rel.cells {a:AV} {c:Value} (h:Rel R w a c) (ht:a.aR=true):aL R w a.cells c.cells.toList∧∀ v∈c.cells.toList,v.oneCell'=true:=by
 cases h with
 |agg h h1=>exact ⟨h,h1⟩
 |bP h=>simp [AV.aR] at ht
 |bool=>exact ⟨.one (.bool _),by simp [aaq,aao]⟩
 |int=>exact ⟨.one (.int _ _),by simp [aaq,aao]⟩
 |str=>exact ⟨.one (.str _),by simp [aaq,aao]⟩
 |oW=>exact ⟨.one .oW,by simp [aaq,aao]⟩
 |ptr h=>exact ⟨.one (.ptr h),by simp [aaq,aao]⟩
 |ep h=>exact ⟨.one (.ep h),by simp [aaq,aao]⟩
 |jZ=>exact ⟨.one .jZ,by simp [aaq,aao]⟩
 |jN=>exact ⟨.one .jN,by simp [aaq,aao]⟩
 |oG=>exact ⟨.one .oG,by simp [aaq,aao]⟩
 |me h ho=>exact ⟨.one (.me h ho),by simp [aaq,aao]⟩
 |mJ h ho=>exact ⟨.one (.mJ h ho),by simp [aaq,aao]⟩
 |list h hl hc hk=>exact ⟨.one (.list h hl hc hk),by simp [aaq,aao]⟩
 |jV h hc=>exact ⟨.one (.jV h hc),by simp [aaq,aao]⟩
 |jO h ho=>exact ⟨.one (.jO h ho),by simp [aaq,aao]⟩
 |de h ho hc=>exact ⟨.one (.de h ho hc),by simp [aaq,aao]⟩
 |gp h ho=>exact ⟨.one (.gp h ho),by simp [aaq,aao]⟩
 |tF h ho=>exact ⟨.one (.tF h ho),by simp [aaq,aao]⟩
 |eX h ho hc=>exact ⟨.one (.eX h ho hc),by simp [aaq,aao]⟩
 |rp h ho=>exact ⟨.one (.rp h ho),by simp [aaq,aao]⟩
 |mb=>exact ⟨.one .mb,by simp [aaq,aao]⟩
 |map h=>exact ⟨.one (.map h),by simp [aaq,aao]⟩
 |eV=>exact ⟨.one .eV,by simp [aaq,aao]⟩
 |fn h h'=>exact ⟨.one (.fn h h'),by simp [aaq,aao]⟩
 |yield h=>exact ⟨.one (.yield h),by simp [aaq,aao]⟩
 |sM=>exact ⟨.one .sM,by simp [aaq,aao]⟩
 |iface h=>exact ⟨.one (.iface h),by simp [aaq,aao]⟩
mutual
theorem Rel.hJ:∀ {a:AV} {c:Value},Rel R w a c→Rel R w a.hJ c
 |_,_,.bool b=>.bool b
 |_,_,.int k n=>.int k n
 |_,_,.str l=>.str l
 |_,_,.agg h h1=>.agg h.hJ h1
 |_,_,.bP h=>.bP h.hJ
 |_,_,.oW=>.oW
 |_,_,.ptr h=>.ptr h
 |_,_,.ep h=>.ep h
 |_,_,.jZ=>.jZ
 |_,_,.jN=>.jN
 |_,_,.oG=>.oG
 |_,_,.me _ _=>.jN
 |_,_,.mJ _ _=>.jN
 |_,_,@Rel.list _ _ .nil _ _ _ _ _ _ h hl hc hk=>.list h hl hc hk
 |_,_,@Rel.list _ _ .full _ _ _ _ _ _ h hl hc hk=>.list h hl hc hk
 |_,_,@Rel.list _ _ .gQ _ _ _ _ _ _ h hl hc hk=>.list h hl hc hk
 |_,_,@Rel.list _ _ (.own _) _ _ _ _ _ _ h hl hc _=>.list h hl hc trivial
 |_,_,@Rel.list _ _ (.aX _ _) _ _ _ _ _ _ h hl hc _=>.list h hl hc trivial
 |_,_,.jV h hc=>.jV h hc
 |_,_,.jO h ho=>.jO h ho
 |_,_,.de h ho hc=>.de h ho hc
 |_,_,.gp h ho=>.gp h ho
 |_,_,.tF h ho=>.tF h ho
 |_,_,.eX h ho hc=>.eX h ho hc
 |_,_,.rp h ho=>.rp h ho
 |_,_,.mb=>.mb
 |_,_,.map h=>.map h
 |_,_,.eV=>.eV
 |_,_,.fn h h'=>.fn h h'
 |_,_,.yield h=>.yield h
 |_,_,.sM=>.sM
 |_,_,.iface h=>.iface h
theorem aL.hJ:∀ {l:List AV} {cs:List Value},aL R w l cs→aL R w (nV l) cs
 |_,_,.nil=>.nil
 |_,_,.cons h t=>.cons h.hJ t.hJ
end
theorem fN.get {b o:Nat} {l:List AV} (h:fN R w b o l):∃ vs,aL R w l vs∧(∀ v∈vs,v.oneCell'=true)∧(∀ j v,vs[j]?=some v→w.cell? ⟨b,o+j,none⟩=some v)∧∀ j,j < l.length→R.I b (o+j):=by
 induction l generalizing o with
 |nil=>exact ⟨[],.nil,by simp,by simp,by simp⟩
 |cons a l ih=>
  cases h with
  | @cons _ _ _ c _ hc h1 hi h t=>
   obtain ⟨vs,k1,k2,k3,k4⟩:=ih t;refine ⟨c :: vs,.cons h k1,?_,?_,?_⟩
   ·intro v hv;rcases List.mem_cons.1 hv with rfl|hv
    ·exact h1
    ·exact k2 v hv
   ·intro j v hv;cases j with
    |zero=>simp at hv; subst hv; exact hc
    |succ j=>simp at hv; have:=k3 j v hv; rwa [show o+1+j=o+(j+1) by omega] at this
   ·intro j hj;cases j with
    |zero=>exact hi
    |succ j=>have:=k4 j (by simp at hj; omega); rwa [show o+1+j=o+(j+1) by omega] at this
theorem fN.make {b o:Nat} {l:List AV} {vs:List Value} (h:aL R w l vs) (h1:∀ v∈vs,v.oneCell'=true) (hc:∀ j v,vs[j]?=some v→w.cell? ⟨b,o+j,none⟩=some v) (hi:∀ j,j < l.length→R.I b (o+j)):fN R w b o l:=by
 induction l generalizing vs o with
 |nil=>exact .nil
 |cons a l ih=>
  cases h with
  |cons h t=>
   refine .cons (hc 0 _ (by simp)) (h1 _ (by simp)) (hi 0 (by simp)) h (ih t (fun v hv=>h1 v (by simp [hv])) (fun j v hv=>?_) (fun j hj=>?_))
   ·have:=hc (j+1) v (by simpa using hv); rwa [show o+(j+1)=o+1+j by omega] at this
   ·have:=hi (j+1) (by simpa using hj); rwa [show o+(j+1)=o+1+j by omega] at this
theorem fN.drop {b o:Nat} {l:List AV} (h:fN R w b o l) (n:Nat):fN R w b (o+n) (l.drop n):=by
 induction n generalizing o l with
 |zero=>simpa using h
 |succ n ih=>cases h with
  |nil=>simpa using fN.nil
  |cons hc h1 hi h t=>have:=ih t; rw [show o+1+n=o+(n+1) by omega] at this; simpa using this
end rel
theorem b9 (b o n:Nat):(⟨b,o,none⟩:Addr).add n=⟨b,o+n,none⟩:=by unfold Addr.add; split <;> simp_all
section keep
variable {E:Env} {R R':ai} {w w':World} {β β':Nat→Nat} {s:St} {a:Act}
theorem qW.mono (e:Ext R w R' w') {sl:bo} {tm:Array Value} (h:qW R w β sl tm):qW R' w' β sl tm:=
 fun i hi=>let ⟨c,h1,h2⟩:=h i hi; ⟨c,h1,h2.mono e⟩
theorem eL.mono (e:Ext R w R' w'):∀ {l:List (AV × AV)} {es:List MapEntry},eL R w l es→eL R' w' l es
 |[],[],_=>trivial
 |(_,_) :: _,_ :: _,h=>⟨h.1.mono e,h.2.1.mono e,eL.mono e h.2.2⟩
 |[],_ :: _,h=>h.elim
 |_ :: _,[],h=>h.elim
theorem qX {w w':World} {b:Nat} (h:b < w.heap.size) (e:w'.heap[b]?=w.heap[b]?):b < w'.heap.size:=by
 rw [aaZ h] at e;exact (aaQ.1 e).1
theorem iE.mono (e:Ext R w R' w') {go:GO} {ro:RO} (h:iE R w go ro) (hb:∀ b,ro.has b→w'.heap[b]?=w.heap[b]?) (hi:∀ b o,ro.has b→R'.I b o→R.I b o):iE R' w' go ro:=by
 cases ro with
 |none=>cases go <;> first | exact h | exact h.elim
 |a8=>cases go <;> first | exact h | exact h.elim
 |bE b=>
  have kX:=hb b rfl;cases go with
  |dead=>exact qX h kX
  |row cs el=>obtain ⟨vs,h1,h2,h3,h4⟩:=h; exact ⟨vs,kX.trans h1,h2.mono e,h3,fun o ho=>h4 o (hi b o rfl ho)⟩
  |tok f sz el=>exact h.elim
  |aX _ _ _=>exact h.elim
  |jQ mid n left _=>obtain ⟨bm,seen,c0,h1,h2,h3⟩:=h; exact ⟨bm,seen,c0,e.bE h1,kX.trans h2,h3⟩
  |cg es sz el=>exact h.elim
  |gT _ _ _=>exact h.elim
  |map es=>obtain ⟨aH,clock,h1,h2,h3⟩:=h; exact ⟨aH,clock,kX.trans h1,eL.mono e h2,h3⟩
  |iO l pos=>exact kX.trans h
  |loop busy pending fn ab n params assign body defers done=>
   obtain ⟨⟨r,db,h1,h2,h3,h4,h5,h6,h7,h8,h9,h11⟩,h10⟩:=h;exact ⟨⟨r,db,kX.trans h1,h2,h3,h4.mono e,h5,h6,h7,h8,h9,e.bE h11⟩,h10⟩
  |defers o=>exact kX.trans h
 |tok f b c k0=>
  have kX:=hb b rfl;cases go with
  |tok f' sz el=>
   obtain ⟨h0,cur,h1,h2,h3,h4,h5⟩:=h;exact ⟨h0,cur,kX.trans h1,h2,h3,h4,fun o ho qP=>h5 o ho (hi b o rfl qP)⟩
  |cg es sz el=>
   obtain ⟨hk,h0,kr,cur,vs,h1,h2,h3,h4,h5,h6,h7,h8⟩:=h;exact ⟨hk,h0,kr,cur,vs,kX.trans h1,h2,h3,h4,fun o ho=>h5 o (hi b o rfl ho),h6.mono e,h7,h8⟩
  |dead=>exact qX h kX
  |row cs=>exact h.elim
  |aX _ _ _=>exact h.elim
  |jQ _ _ _ _=>exact h.elim
  |gT _ _ _=>exact h.elim
  |map es=>exact h.elim
  |iO l pos=>exact h.elim
  |loop=>exact h.elim
  |defers o=>exact h.elim
 |aX ts=>
  cases go with
  |aX fs sz el=>
   obtain ⟨h1,h2,h3⟩:=h;refine ⟨h1,h2,fun j f t hf ht=>?_⟩;have h4:=h3 j f t hf ht;cases t with
   |a8=>exact h4
   |full f'=>exact h4
   |tok f' b c=>
    obtain ⟨h5,cur,k1,k2,k3,k4,k5⟩:=h4;have hh:RO.has (.aX ts) b:=⟨j,f',c,ht⟩;exact ⟨h5,cur,(hb b hh).trans k1,k2,k3,k4,fun o ho qP=>k5 o ho (hi b o hh qP)⟩
  |gT rows sz el=>
   obtain ⟨h1,h2,h3⟩:=h;refine ⟨h1,h2,fun j row t hf ht=>?_⟩;have h4:=h3 j row t hf ht;cases t with
   |a8=>exact h4
   |full f'=>exact h4
   |tok f' b c=>
    obtain ⟨h5,kr,cur,vs,k1,k2,k3,k4,k5,k6,k7,k8⟩:=h4;have hh:RO.has (.aX ts) b:=⟨j,f',c,ht⟩;exact ⟨h5,kr,cur,vs,(hb b hh).trans k1,k2,k3,k4,fun o ho=>k5 o (hi b o hh ho),k6.mono e,k7,k8⟩
  |dead=>exact fun j f b c ht=>qX (h j f b c ht) (hb b ⟨j,f,c,ht⟩)
  |_=>exact h.elim
theorem Live.of {id b:Nat} {ro:RO} (h:nth R.obj id=some ro) (hb:ro.has b):Live R b:=⟨id,ro,h,hb⟩
theorem eY.keep {G:List GO} (h:eY E R w G) (e:Ext R w R' w') (ho:R'.obj=R.obj) (hb:∀ b,Live R b→w'.heap[b]?=w.heap[b]?) (hi:∀ b o,Live R b→R'.I b o→R.I b o) (wf:∀ b o,R'.I b o→b < w'.heap.size) (hd:E.lo≤w.drawn→E.lo≤w'.drawn:=by first | exact fun h=>h | exact fun h=>aaT h):eY E R' w' G where
 lo:=hd h.lo
 len:=by rw [ho]; exact h.len
 obj:=fun id go ro hg hr=>by
  rw [ho] at hr;exact (h.obj id go ro hg hr).mono e (fun b Mi=>hb b (.of hr Mi)) (fun b o Mi=>hi b o (.of hr Mi))
 inj:=fun i j ri rj b h1 h2=>by rw [ho] at h1 h2; exact h.inj i j ri rj b h1 h2
 wf:=wf
 dF:=fun g cs hg=>(h.dF g cs hg).mono e
theorem Pr.keep {bx:cX} (h:Pr R w β bx) (e:Ext R w R' w') (hb:∀ k cs,dR bx k=some cs→w'.heap[β k]?=w.heap[β k]?) (hi:∀ k cs o,dR bx k=some cs→R'.I (β k) o→R.I (β k) o) (hl:∀ k cs,dR bx k=some cs→Live R' (β k)→Live R (β k)):Pr R' w' β bx where
 box:=fun k cs hk=>by
  obtain ⟨⟨vs,el,h1,h2,h3⟩,h4,h5⟩:=h.box k cs hk;exact ⟨⟨vs,el,(hb k cs hk).trans h1,h2.mono e,h3⟩,fun o ho=>h4 o (hi k cs o hk ho),fun uc=>h5 (hl k cs hk uc)⟩
 inj:=h.inj
theorem sP.mono (e:Ext R w R' w'):∀ {l:List Nat} {ds:List Deferred},sP R l ds→sP R' l ds
 |[],[],_=>trivial
 |_ :: _,_ :: _,h=>let ⟨⟨b,h1,h2⟩,h3⟩:=h; ⟨⟨b,e.bE h1,h2⟩,sP.mono e h3⟩
 |[],_ :: _,h=>h.elim
 |_ :: _,[],h=>h.elim
theorem aY.keep (h:aY E R w β s a) (e:Ext R w R' w') (ho:R'.obj=R.obj) (hb:∀ b,Own R β s.boxes b→w'.heap[b]?=w.heap[b]?) (hi:∀ b o,Own R β s.boxes b→R'.I b o→R.I b o) (wf:∀ b o,R'.I b o→b < w'.heap.size) (hd:E.lo≤w.drawn→E.lo≤w'.drawn:=by first | exact fun h=>h | exact fun h=>aaT h):aY E R' w' β s a where
 g:=h.g.keep e ho (fun b hl=>hb b (.inl hl)) (fun b o hl=>hi b o (.inl hl)) wf hd
 b:=h.b.keep e (fun k cs hk=>hb _ (.inr ⟨k,cs,hk,rfl⟩)) (fun k cs o hk=>hi _ o (.inr ⟨k,cs,hk,rfl⟩)) (fun k cs _ hl=>by obtain ⟨id,ro,h1,h2⟩:=hl; rw [ho] at h1; exact ⟨id,ro,h1,h2⟩)
 t:=h.t.mono e
 n:=h.n
 d:=h.d.mono e
theorem bz {w:World} {b:Nat} {o:Obj} (h:w.heap[b]?=some o):b < w.heap.size:=(aaQ.1 h).1
theorem iE.lt {go:GO} {ro:RO} (h:iE R w go ro) {b:Nat} (hb:ro.has b):b < w.heap.size:=by
 cases ro with
 |none=>exact hb.elim
 |a8=>exact hb.elim
 |bE x=>
  have hb:b=x:=hb;subst hb;cases go with
  |dead=>exact h
  |row cs el=>obtain ⟨vs,h1,_⟩:=h; exact bz h1
  |tok f sz el=>exact h.elim
  |aX _ _ _=>exact h.elim
  |jQ mid n left _=>obtain ⟨bm,seen,c0,_,h2,_⟩:=h; exact bz h2
  |cg es sz el=>exact h.elim
  |gT _ _ _=>exact h.elim
  |map es=>obtain ⟨aH,clock,h1,_⟩:=h; exact bz h1
  |iO l pos=>exact bz h
  |loop=>obtain ⟨⟨r,db,h1,_⟩,_⟩:=h; exact bz h1
  |defers o=>exact bz h
 |tok f x c k0=>
  have hb:b=x:=hb;subst hb;cases go with
  |tok f' sz el=>obtain ⟨_,cur,h1,_⟩:=h; exact bz h1
  |cg es sz el=>obtain ⟨_,_,_,cur,vs,h1,_⟩:=h; exact bz h1
  |dead=>exact h
  |row cs=>exact h.elim
  |aX _ _ _=>exact h.elim
  |jQ _ _ _ _=>exact h.elim
  |gT _ _ _=>exact h.elim
  |map es=>exact h.elim
  |iO l pos=>exact h.elim
  |loop=>exact h.elim
  |defers o=>exact h.elim
 |aX ts=>
  obtain ⟨j,f,c,ht⟩:=hb;cases go with
  |aX fs sz el=>
   obtain ⟨h1,h2,h3⟩:=h;have bW:=aU ht;rw [h1] at bW;obtain ⟨f',hf⟩:∃ f',nth fs j=some f':=⟨fs[j],by rw [aN]; exact aav bW⟩;obtain ⟨_,cur,k1,_⟩:=h3 j f' _ hf ht;exact bz k1
  |dead=>exact h j f b c ht
  |gT rows sz el=>
   obtain ⟨h1,h2,h3⟩:=h;have bW:=aU ht;have h4:=h3 j rows[j] (.tok f b c) (by rw [aN]; exact aav (by omega)) ht;obtain ⟨_,_,cur,vs,k1,_⟩:=h4;exact bz k1
  |_=>exact h.elim
theorem eY.bT {G:List GO} (h:eY E R w G) {b:Nat} (hl:Live R b):b < w.heap.size:=by
 obtain ⟨id,ro,h1,h2⟩:=hl;have bW:=aU h1;rw [h.len] at bW;obtain ⟨go,ia⟩:∃ go,nth G id=some go:=⟨G[id],by rw [aN]; exact aav bW⟩;exact (h.obj id go ro ia h1).lt h2
theorem aY.ea (h:aY E R w β s a) {b:Nat} (ho:Own R β s.boxes b):b < w.heap.size:=by
 rcases ho with hl|⟨k,cs,hk,rfl⟩
 ·exact h.g.bT hl
 ·obtain ⟨⟨vs,el,h1,_⟩,_⟩:=h.b.box k cs hk;exact bz h1
theorem bL {w w':World} {b:Nat} (h:w'.heap[b]?=w.heap[b]?) (o:Nat):w'.cell? ⟨b,o,none⟩=w.cell? ⟨b,o,none⟩:=by simp [World.cell?,h]
theorem Ci (wf:∀ b o,R.I b o→b < w.heap.size) (x:Obj):Ext R w R (w.alloc x):=
 ⟨fun _ _ h=>h,fun b o h=>bL (heap_alloc_old w x b (wf b o h)) o,fun _ ro h=>⟨ro,h,cj.refl ro⟩,.old fun b hb=>heap_alloc_old w x b hb⟩
theorem aY.alloc (h:aY E R w β s a) (x:Obj):aY E R (w.alloc x) β s a:=
 h.keep (Ci h.g.wf x) rfl (fun b hb=>heap_alloc_old w x b (h.ea hb)) (fun _ _ _ hi=>hi) (fun b o hi=>by have:=h.g.wf b o hi; simp; omega)
end keep
end Go.Am
namespace Go.Am
open Go
theorem Mj {a b:AV} (h:ui a b=true):a=b:=by
 unfold ui at h;split at h
 all_goals (first|(cases h; done) | skip)
 all_goals (try simp only [aal,beq_iff_eq,aaK] at h)
 all_goals (simp [*])
mutual
theorem j6:∀ {a b:AV},eu a b=true→a=b:=by
 intro a b h;unfold eu at h;split at h
 ·simp only [aal,aaK] at h; rw [h.1.1,ib h.1.2,ib h.2]
 ·rw [ib h]
 ·rw [ib h]
 ·rw [ib h]
 ·simp only [aal,aaK] at h; rw [h.1,ib h.2]
 ·simp only [aal,aaK] at h; rw [h.1,ib h.2]
 ·simp only [aal,aaK] at h; rw [h.1,ib h.2]
 ·simp only [aal,aaK] at h; rw [h.1.1,h.1.2,ib h.2]
 ·simp only [aal,aaK] at h; rw [h.1.1.1,h.1.1.2,h.1.2,ib h.2]
 ·exact Mj h
theorem ib:∀ {l r:List AV},bD l r=true→l=r:=by
 intro l r h;unfold bD at h;split at h
 ·rfl
 ·rw [aal] at h; rw [j6 h.1,ib h.2]
 ·cases h
end
def Dt (a b:AV):Prop:=∀ (R:ai) (w:World) (c:Value),Rel R w a c→Rel R w b c
def dv:List AV→List AV→Prop
 |[],[]=>True
 |a :: l,b :: r=>Dt a b∧dv l r
 |_,_=>False
theorem Dt.refl (a:AV):Dt a a:=fun _ _ _ h=>h
theorem dv.refl:∀ l:List AV,dv l l
 |[]=>trivial
 |a :: l=>⟨Dt.refl a,dv.refl l⟩
theorem dv.length:∀ {l r:List AV},dv l r→l.length=r.length
 |[],[],_=>rfl
 |_ :: _,_ :: _,h=>by simp [dv.length h.2]
 |[],_ :: _,h=>h.elim
 |_ :: _,[],h=>h.elim
theorem dv.rel {R:ai} {w:World}:∀ {l r:List AV} {cs:List Value},dv l r→aL R w l cs→aL R w r cs
 |[],[],_,_,h=>h
 |_ :: _,_ :: _,_,k,.cons h t=>.cons (k.1 _ _ _ h) (dv.rel k.2 t)
 |[],_ :: _,_,h,_=>h.elim
 |_ :: _,[],_,h,_=>h.elim
theorem dv.Mk {R:ai} {w:World}:∀ {l r:List AV} {b o:Nat},dv l r→fN R w b o l→fN R w b o r
 |[],[],_,_,_,_=>.nil
 |_ :: _,_ :: _,_,_,k,.cons hc h1 hi h t=>.cons hc h1 hi (k.1 _ _ _ h) (dv.Mk k.2 t)
 |[],_ :: _,_,_,h,_=>h.elim
 |_ :: _,[],_,_,h,_=>h.elim
theorem dv.append:∀ {a b c d:List AV},dv a b→dv c d→dv (a++c) (b++d)
 |[],[],_,_,_,h=>h
 |_ :: _,_ :: _,_,_,k,h=>⟨k.1,dv.append k.2 h⟩
 |[],_ :: _,_,_,h,_=>h.elim
 |_ :: _,[],_,_,h,_=>h.elim
structure iX (v u:AV):Prop where
 hJ:Dt v u
 bP:u.aR=v.aR
 cells:v.aR=true→dv v.cells u.cells
 closed:v.closed=true→u.closed=true
theorem ux {u v a:AV} (h:(aP.two u v).fits a=true):(aP.two u v).enc ((aP.two u v).bw a)=a:=by
 change (eu a u || eu a v)=true at h;change (bif eu a v then v else u)=a;cases hs:eu a v with
 |true=>exact (j6 hs).symm
 |false=>
  rw [hs,Bool.or_false] at h;exact (j6 h).symm
theorem iX.refl (v:AV):iX v v:=⟨Dt.refl v,rfl,fun _=>dv.refl _,fun h=>h⟩
theorem G3 {a b:IntKind} (h:TM a b=true):a=b:=of_decide_eq_true h
theorem uy {α:Type} {f:AV→Bool} {d:AV→α} {g:α→AV} (IZ:∀ v,f v=true→iX v (g (d v))) {R:ai} {w:World} :
  ∀ {es:List AV} {b o sz:Nat},allFit f es=true→iW R w b o sz es→iW R w b o sz ((es.map d).map g)
 |[],b,o,sz,_,_=>.nil
 |e :: es,b,o,sz,h,hr=>by
  simp only [allFit,aal] at h;cases hr with
  |cons hl ht hk hc t=>
   have d':=IZ e h.1;have wc:=d'.cells ht;exact .cons (by rw [← wc.length,hl]) (by rw [d'.bP,ht]) (d'.closed hk) (wc.Mk hc) (uy IZ h.2 t)
theorem Kn {R:ai} {w:World} {b o sz bh:Nat} {es:List AV} (h:es=[]∨sz=bh) (hr:iW R w b o bh es):iW R w b o sz es:=by
 rcases h with rfl|rfl
 ·exact .nil
 ·exact hr
theorem Ko {α:Type} {f:AV→Bool} {d:AV→α} {g:α→AV} (IZ:∀ v,f v=true→iX v (g (d v))) {k:LK} {sz bh:Nat} {es:List AV} (hs:es=[]∨sz=bh) (h:allFit f es=true) :
  Dt (.list k bh es) (.list .gQ sz ((es.map d).map g)):=fun R w c hr=>by
 cases hr with
 |jZ=>exact .jN
 |jN=>exact .jN
 |oG=>exact .oG
 |me _ _=>exact .jN
 |mJ _ _=>exact .jN
 |list hr hlen hc hk=>exact .list (uy IZ h (Kn hs hr)) (by simp [hlen]) hc trivial
theorem Ml {α:Type} {f:AV→Bool} {d:AV→α} {g:α→AV} (IZ:∀ v,f v=true→iX v (g (d v))) {id sz:Nat} {es:List AV} (h:allFit f es=true) :
  Dt (.list (.own id) sz es) (.list (.own id) sz ((es.map d).map g)):=fun R w c hr=>by
 cases hr with
 |me h1 h2=>exact .me h1 h2
 |list hr hlen hc hk=>exact .list (uy IZ h hr) (by simp [hlen]) hc hk
theorem Mm {α:Type} {f:AV→Bool} {d:AV→α} {g:α→AV} (IZ:∀ v,f v=true→iX v (g (d v))) {id j sz:Nat} {es:List AV} (h:allFit f es=true) :
  Dt (.list (.aX id j) sz es) (.list (.aX id j) sz ((es.map d).map g)):=fun R w c hr=>by
 cases hr with
 |mJ h1 h2=>exact .mJ h1 h2
 |list hr hlen hc hk=>exact .list (uy IZ h hr) (by simp [hlen]) hc hk
mutual
theorem aP.dE:∀ (p:aP) {v:AV},p.fits v=true→iX v (p.enc (p.bw v))
 |.int k,v,h=>by
  cases v with
  |int k' n=>
   have hk:TM k k'=true:=h;rw [G3 hk];exact iX.refl _
  |_=>cases h
 |.bool,v,h=>by
  cases v with
  |bool b=>exact iX.refl _
  |_=>cases h
 |.str,v,h=>by
  cases v with
  |str b=>exact iX.refl _
  |_=>cases h
 |.agg ps,v,h=>by
  cases v with
  |agg cs=>
   obtain ⟨h1,h2⟩:=ps.dE (show ps.fits cs=true from h);exact ⟨fun R w c hr=>by cases hr with | agg hr oI=>exact .agg (h1.rel hr) oI,rfl,fun _=>h1,fun hc=>by
    have sj:aF cs=true:=by simpa [AV.closed] using hc
    show AV.closed (.agg (ps.enc (ps.bw cs)))=true;simp only [AV.closed]; exact h2 sj⟩
  |_=>cases h
 |.bP ps,v,h=>by
  cases v with
  |bP cs=>
   obtain ⟨h1,h2⟩:=ps.dE (show ps.fits cs=true from h);exact ⟨fun R w c hr=>by cases hr with | bP hr=>exact .bP (h1.rel hr),rfl,fun hn=>by simp [AV.aR] at hn,fun hc=>by
    have sj:aF cs=true:=by simpa [AV.closed] using hc
    show AV.closed (.bP (ps.enc (ps.bw cs)))=true;simp only [AV.closed]; exact h2 sj⟩
  |_=>cases h
 |.list sz p,v,h=>by
  cases v with
  |list k bh es=>
   have hb:((aaL sz bh || es.isEmpty)&&allFit p.fits es)=true:=h;simp only [aal,Bool.or_eq_true,aaK,List.isEmpty_iff] at hb;have hw:=Ko (k:=k) (fun v=>p.dE) hb.1.symm hb.2;exact ⟨hw,rfl,fun _=>⟨hw,trivial⟩,fun _=>rfl⟩
  |_=>cases h
 |.own id sz p,v,h=>by
  cases v with
  |list k bh es=>
   cases k with
   |own iU=>
    have hb:((aaL id iU&&aaL sz bh)&&allFit p.fits es)=true:=h;simp only [aal,aaK] at hb;obtain ⟨⟨rfl,rfl⟩,hf⟩:=hb;have hw:=Ml (id:=id) (sz:=sz) (fun v=>p.dE) hf;exact ⟨hw,rfl,fun _=>⟨hw,trivial⟩,fun hc=>by simp [AV.closed,LK.closed] at hc⟩
   |_=>cases h
  |_=>cases h
 |.aX id sz p,v,h=>by
  cases v with
  |list k bh es=>
   cases k with
   |aX iU j=>
    have hb:((aaL id iU&&aaL sz bh)&&allFit p.fits es)=true:=h;simp only [aal,aaK] at hb;obtain ⟨⟨rfl,rfl⟩,hf⟩:=hb;have hw:=Mm (id:=id) (j:=j) (sz:=sz) (fun v=>p.dE) hf;exact ⟨hw,rfl,fun _=>⟨hw,trivial⟩,fun hc=>by simp [AV.closed,LK.closed] at hc⟩
   |_=>cases h
  |_=>cases h
 |.eX id sz,v,h=>by
  cases v with
  |eX iU j bh len=>
   have hb:(aaL id iU&&aaL sz bh)=true:=h;simp only [aal,aaK] at hb;obtain ⟨rfl,rfl⟩:=hb;exact iX.refl _
  |_=>cases h
 |.oD u,v,h=>by
  have:=j6 (show eu v u=true from h);subst this;exact iX.refl _
 |.two u v,a,h=>by
  have hv:(aP.two u v).enc ((aP.two u v).bw a)=a:=ux h;rw [hv];exact iX.refl _
theorem aQ.dE:∀ (ps:aQ) {l:List AV},ps.fits l=true→dv l (ps.enc (ps.bw l))∧(aF l=true→aF (ps.enc (ps.bw l))=true)
 |.nil,l,h=>by
  cases l with
  |nil=>exact ⟨trivial,fun h=>h⟩
  |cons _ _=>cases h
 |.cons p .nil,l,h=>by
  match l,h with
  |[],h=>cases h
  |a :: l,h=>
   have h':(p.fits a&&l.isEmpty)=true:=h;simp only [aal,List.isEmpty_iff] at h';obtain ⟨h1,rfl⟩:=h';have d:=p.dE h1;exact ⟨⟨d.hJ,trivial⟩,fun hc=>by
    simp only [aF,aa8] at hc;show aF [p.enc (p.bw a)]=true;simp only [aF,aa8];exact d.closed hc⟩
 |.cons p (.cons q ps),l,h=>by
  cases l with
  |nil=>cases h
  |cons a l=>
   have h':(p.fits a&&(aQ.cons q ps).fits l)=true:=h;rw [aal] at h';have d:=p.dE h'.1;obtain ⟨k1,k2⟩:=(aQ.cons q ps).dE h'.2;exact ⟨⟨d.hJ,k1⟩,fun hc=>by
    simp only [aF,aal] at hc;show aF (p.enc (p.bw a) :: (aQ.cons q ps).enc ((aQ.cons q ps).bw l))=true;simp only [aF,aal];exact ⟨d.closed hc.1,k2 hc.2⟩⟩
end
theorem aP.tG (p:aP) {v:AV} {x:p.T} (h:p.dec v=some x):iX v (p.enc x):=by
 unfold aP.dec at h;cases hf:p.fits v with
 |true=>rw [hf] at h; cases h; exact p.dE hf
 |false=>rw [hf] at h; cases h
theorem aQ.tG (ps:aQ) {l:List AV} {x:ps.T} (h:ps.dec l=some x):dv l (ps.enc x)∧(aF l=true→aF (ps.enc x)=true):=by
 unfold aQ.dec at h;cases hf:ps.fits l with
 |true=>rw [hf] at h; cases h; exact ps.dE hf
 |false=>rw [hf] at h; cases h
mutual
def aP.plain:aP→Bool
 |.agg ps=>ps.plain
 |.bP ps=>ps.plain
 |.list _ p=>p.plain
 |.own _ _ p=>p.plain
 |.aX _ _ p=>p.plain
 |.oD v=>eu v v
 |.two u v=>eu u u&&eu v v&&!eu u v
 |_=>true
def aQ.plain:aQ→Bool
 |.nil=>true
 |.cons p ps=>p.plain&&ps.plain
end
theorem pU {α:Type} {f:AV→Bool} {g:α→AV} (h:∀ x,f (g x)=true):∀ xs:List α,allFit f (xs.map g)=true
 |[]=>rfl
 |x :: xs=>by simp only [aa9,allFit,h x,pU h xs,Bool.and_self]
theorem yL {α:Type} {d:AV→α} {g:α→AV} (h:∀ x,d (g x)=x):∀ xs:List α,(xs.map g).map d=xs
 |[]=>rfl
 |x :: xs=>by simp only [aa9,h x,yL h xs]
mutual
theorem aP.bA:∀ (p:aP) (x:p.T),p.plain=true→p.fits (p.enc x)=true∧p.bw (p.enc x)=x
 |.int k,x,_=>⟨decide_eq_true rfl,rfl⟩
 |.bool,x,_=>⟨rfl,rfl⟩
 |.str,x,_=>⟨rfl,rfl⟩
 |.agg ps,x,h=>ps.bA x h
 |.bP ps,x,h=>ps.bA x h
 |.list sz p,x,h=>by
  refine ⟨?_,yL (fun y=>(p.bA y h).2) x⟩;change ((aaL sz sz || (aa3 p.enc x).isEmpty)&&allFit p.fits (aa3 p.enc x))=true;rw [aaO,Bool.true_or,aaU];exact pU (fun y=>(p.bA y h).1) x
 |.own id sz p,x,h=>by
  refine ⟨?_,yL (fun y=>(p.bA y h).2) x⟩;change ((aaL id id&&aaL sz sz)&&allFit p.fits (aa3 p.enc x))=true;rw [aaO,aaO,aaU,aaU];exact pU (fun y=>(p.bA y h).1) x
 |.aX id sz p,(x:Nat × List p.T),h=>by
  refine ⟨?_,?_⟩
  ·change ((aaL id id&&aaL sz sz)&&allFit p.fits (aa3 p.enc x.2))=true;rw [aaO,aaO,aaU,aaU];exact pU (fun y=>(p.bA y h).1) x.2
  ·change (x.1,(aa3 p.enc x.2).map p.bw)=x;rw [yL (fun y=>(p.bA y h).2) x.2]
 |.eX id sz,(x:Nat × Nat),_=>⟨by change (aaL id id&&aaL sz sz)=true; rw [aaO,aaO]; rfl,rfl⟩
 |.oD v,x,h=>⟨h,rfl⟩
 |.two u v,(x:Bool),h=>by
  change (eu u u&&eu v v&&!eu u v)=true at h;simp only [aal,Bool.not_eq_true'] at h;obtain ⟨⟨h1,h2⟩,h3⟩:=h;cases x
  ·exact ⟨by change (eu u u || eu u v)=true; rw [h1]; rfl,h3⟩
  ·exact ⟨by change (eu v u || eu v v)=true; rw [h2,Bool.or_true],h2⟩
theorem aQ.bA:∀ (ps:aQ) (x:ps.T),ps.plain=true→ps.fits (ps.enc x)=true∧ps.bw (ps.enc x)=x
 |.nil,x,_=>⟨rfl,rfl⟩
 |.cons p .nil,x,h=>by
  have h':(p.plain&&true)=true:=h;rw [aa8] at h';have:=p.bA x h';exact ⟨by change (p.fits (p.enc x)&&true)=true; rw [this.1]; rfl,this.2⟩
 |.cons p (.cons q ps),x,h=>by
  have h':(p.plain&&(aQ.cons q ps).plain)=true:=h;rw [aal] at h';have h1:=p.bA x.1 h'.1;have h2:=(aQ.cons q ps).bA x.2 h'.2;refine ⟨?_,?_⟩
  ·change (p.fits (p.enc x.1)&&(aQ.cons q ps).fits ((aQ.cons q ps).enc x.2))=true;rw [h1.1,h2.1];rfl
  ·change (p.bw (p.enc x.1),(aQ.cons q ps).bw ((aQ.cons q ps).enc x.2))=x;rw [h1.2,h2.2];rfl
end
end Go.Am
namespace Go.Am
open Go
theorem ck (E:Env) {t:TypeId} {i:TI} (h:E.ti t=some i) :
  ∃ hU u,E.P.info? t=some hU∧E.P.underlying t=some u∧hU.size=i.size∧lC u=i.agg∧sN E.P u=some i.k∧gU hU=i.zero:=by
 have h1:=E.Kf t i h;unfold Ke at h1;split at h1
 ·rename_i hU u h2 h3;split at h1
  ·rename_i k hk;cases h1;exact ⟨hU,u,h2,h3,rfl,rfl,hk,rfl⟩
  ·cases h1
 ·cases h1
section runs
variable {P:Program} (w:World)
theorem Cj {t:TypeId} {u:TypeDesc} (h:P.underlying t=some u):(isAgg t).run P w=.ok (lC u) w:=by
 unfold isAgg;simp only [aas,run_underlying h,aap];cases u <;> rfl
theorem run_sizeOf {t:TypeId} {i:TypeInfo} (h:P.info? t=some i):(sizeOf t).run P w=.ok i.size w:=by
 simp [sizeOf,typeInfo,h]
theorem iY {t:TypeId} {i:TypeInfo} {z:Value} (h:P.info? t=some i) (hz:i.zero=some z):(zeroValue t).run P w=.ok z w:=by
 simp [zeroValue,typeInfo,h,hz]
theorem zo (t:TypeId) (v:Value):(newVar t v).run P w=.ok ⟨w.heap.size,0,none⟩ (w.alloc (.cells v.cells t)):=by
 simp only [newVar,newRow,aas,run_newObj,aap,aaS];rfl
end runs
theorem zp {R:ai} {w:World} {ag:Bool} {l:List AV} {v:AV} {vs:List Value} (hm:uj ag l=some v) (h:aL R w l vs) (h1:∀ x∈vs,x.oneCell'=true) :
  (ag=true→Rel R w v (.agg ⟨vs⟩))∧(ag=false→∃ c,vs=[c]∧Rel R w v c):=by
 unfold uj at hm;cases ag with
 |true=>
  simp at hm;subst hm;exact ⟨fun _=>.agg h h1,fun e=>by cases e⟩
 |false=>
  refine ⟨(fun e=>by cases e),fun _=>?_⟩;simp only [aaW,if_false] at hm;split at hm
  ·cases hm;cases h with
   |cons h t=>
    cases t;exact ⟨_,rfl,h⟩
  ·cases hm
theorem nZ {E:Env} {R:ai} {w:World} {t:TypeId} {i:TI} (hi:E.ti t=some i) {b off:Nat} {l:List AV} {vs:List Value} {v:AV}
  (hl:l.length=i.size) (hr:aL R w l vs) (h1:∀ x∈vs,x.oneCell'=true) (hc:∀ j x,vs[j]?=some x→w.cell? ⟨b,off+j,none⟩=some x) (hm:uj i.agg l=some v) :
  ∃ c,(loadVar t ⟨b,off,none⟩).run E.P w=.ok c w∧Rel R w v c:=by
 obtain ⟨hU,u,e1,e2,e3,e4,_⟩:=ck E hi;obtain ⟨m1,m2⟩:=zp hm hr h1;unfold loadVar;simp only [aas,Cj w e2,aap,e4];cases ha:i.agg with
 |true=>
  refine ⟨.agg ⟨vs⟩,?_,m1 ha⟩;have hlen:hU.size=vs.length:=by rw [e3,← hl,hr.length]
  have:=run_loadCells_list (P:=E.P) w ⟨b,off,none⟩ vs (fun j x hx=>by rw [b9]; exact hc j x hx);simp [run_sizeOf w e1,hlen,this]
 |false=>
  obtain ⟨c,rfl,dJ⟩:=m2 ha;refine ⟨c,?_,dJ⟩;have:=hc 0 c (by simp);simp only [aaV] at this;simp [run_load,this]
theorem kY {w:World} {b:Nat} {vs:List Value} {el:TypeId} {fr:Nat × Nat} (h:w.heap[b]?=some (.cells ⟨vs⟩ el fr)) (j:Nat):w.cell? ⟨b,j,none⟩=vs[j]?:=by
 simp [World.cell?,h]
theorem xo {E:Env} {R:ai} {w:World} {β:Nat→Nat} {s:St} {a:Act} (h:aY E R w β s a) {p:SV} {c:Value} (hp:qJ R w β p c) {cs:List AV} {off:Nat} (hc:pN s p=some (cs,off)) :
  ∃ b o vs,c=.pointer (some ⟨b,o+off,none⟩)∧aL R w cs vs∧(∀ x∈vs,x.oneCell'=true)∧∀ j x,vs[j]?=some x→w.cell? ⟨b,o+j,none⟩=some x:=by
 unfold pN at hc;split at hc
 ·rename_i k gR;split at hc
  ·rename_i eZ hk;cases hc;obtain ⟨⟨vs,el,h1,h2,h3⟩,_⟩:=h.b.box k cs hk;exact ⟨β k,0,vs,by rw [hp]; simp,h2,h3,fun j x hx=>by rw [kY h1]; simpa using hx⟩
  ·cases hc
 ·rename_i id gR;split at hc
  ·rename_i eZ hk;cases hc;cases hp with
   | @ptr _ _ b hb=>
    obtain ⟨vs,h1,h2,h3,_⟩:=h.g.obj id _ _ hk hb;exact ⟨b,0,vs,by simp,h2,h3,fun j x hx=>by rw [kY h1]; simpa using hx⟩
  ·cases hc
 ·rename_i eZ;cases hc;cases hp with
  |ep hr=>
   obtain ⟨vs,h1,h2,h3,_⟩:=hr.get;exact ⟨_,_,vs,rfl,h1,h2,h3⟩
 ·cases hc
theorem pV {R:ai} {w:World} {off n:Nat} {cs l:List AV} {vs:List Value} (hs:GP off n cs=some l) (h:aL R w cs vs) (h1:∀ x∈vs,x.oneCell'=true) :
  l.length=n∧aL R w l ((vs.drop off).take n)∧(∀ x∈(vs.drop off).take n,x.oneCell'=true)∧∀ j x,((vs.drop off).take n)[j]?=some x→vs[off+j]?=some x:=by
 obtain ⟨e1,e2⟩:=TX hs;subst e1;refine ⟨e2,(h.drop off).take n,fun x hx=>h1 x (aa4 (aa5 hx)),fun j x hx=>?_⟩;rw [List.getElem?_take] at hx;split at hx
 ·rwa [List.getElem?_drop] at hx
 ·cases hx
def bQ (E:Env) (R:ai) (w:World) (β:Nat→Nat) (s:St) (a:Act) (o:Oper) (s':St):Prop:=
 ∃ nx x w' R' β',(execOp a.eval o).run E.P w=.ok nx w'∧(nx=.value x∨(nx=.skip∧x=undef))∧aY E R' w' β' s' (a.put o.dst x)∧Step R w β s.boxes R' w' β' s'.boxes
section ops
variable {E:Env} {R:ai} {w:World} {β:Nat→Nat} {s:St} {a:Act} {o:Oper}
@[simp] theorem bf (s:St) (d:Option Tmp) (x:SV):(s.put d x).boxes=s.boxes:=by
 cases d with
 |none=>rfl
 |some d=>simp only [St.put]; split <;> rfl
theorem au (h:aY E R w β s a) {c:Value} {sv:SV} (hx:(execOp a.eval o).run E.P w=.ok (.value c) w) (hr:qJ R w β sv c):bQ E R w β s a o (s.put o.dst sv):=
 ⟨.value c,c,w,R,β,hx,.inl rfl,h.put o.dst hr,by rw [bf]; exact Step.refl R w β s.boxes⟩
theorem G4 {t:Bool} {x y:AV} {c d:Value} (hx:Rel R w x c) (hy:Rel R w y d):Rel R w (Dn t x y) (if t=true then c else d):=by
 unfold Dn;split
 ·cases hx; cases hy; cases t <;> exact .bool _
 ·cases hx; cases hy;split
  ·rename_i e; subst e; cases t <;> exact .int _ _
  ·cases t <;> exact .int _ _
 ·cases t
  ·exact hy
  ·exact hx
theorem my (h:aY E R w β s a) (x:Operand) (ho:o.op=.move x∨o.op=.assign x) {y:SV} (hy:bG E s.ab x=y):bQ E R w β s a o (s.put o.dst y):=by
 subst hy;refine au h (c:=a.eval x) ?_ (aV h x);rcases ho with ho|ho <;> simp [execOp,ho]
theorem Kp (h:aY E R w β s a) (c x y:Operand) (ho:o.op=.pick c x y) {t:Bool} {p q:AV} (h1:bG E s.ab c=.v (.bool t)) (h2:bG E s.ab x=.v p) (h3:bG E s.ab y=.v q) :
  bQ E R w β s a o (s.put o.dst (.v (Dn t p q))):=by
 have r1:=aV h c;have r2:=aV h x;have r3:=aV h y;rw [h1] at r1; rw [h2] at r2; rw [h3] at r3;refine au h (c:=if t=true then a.eval x else a.eval y) ?_ (G4 r2 r3);have r1':Rel R w (.bool t) (a.eval c):=r1;generalize TY:a.eval c=cc at r1';cases r1';simp [execOp,ho,asBool,TY]
theorem Kq (h:aY E R w β s a) (t:TypeId) (x:Operand) (ho:o.op=.load t x) {v:AV} (hl:uk E s t (bG E s.ab x)=some v) :
  bQ E R w β s a o (s.put o.dst (.v v)):=by
 unfold uk at hl;split at hl
 ·rename_i i cs off hi hc;split at hl
  ·rename_i l hs;obtain ⟨b,o',vs,e,h1,h2,h3⟩:=xo h (aV h x) hc;obtain ⟨k1,k2,k3,k4⟩:=pV hs h1 h2;obtain ⟨c,hc,dJ⟩:=nZ (E:=E) hi (b:=b) (off:=o'+off) k1 k2 k3 (fun j y hy=>by rw [aaY]; exact h3 _ _ (k4 j y hy)) hl;refine au h (c:=c) ?_ dJ;simp [execOp,ho,Instr.loadAt,e,aaM,hc]
  ·cases hl
 ·cases hl
theorem jo {b:Nat} (hI:∀ o,¬ R.I b o) (cs:Array Value):Ext R w R (w.setRow b cs):=
 ⟨fun _ _ h=>h,fun b' o h=>bL (setRow_other w b b' cs (fun e=>hI o (e ▸ h))) o,fun _ ro h=>⟨ro,h,cj.refl ro⟩,fun b' r hb=>⟨r,by
  by_cases e:b'=b
  ·subst e;have bW:b' < w.heap.size:=bz hb;have hv:w.heap[b']=.loop r:=(aaQ.1 hb).2;unfold World.setRow;rw [aaZ (by simpa using bW),Array.getElem_modify];simp [hv]
  ·exact (setRow_other w b b' cs e).trans hb,rfl,rfl,rfl,rfl,rfl⟩⟩
theorem aL.bu {cs ys:List AV} {vs us:List Value} {off:Nat} (h:aL R w cs vs) (k:aL R w ys us) (hl:off+ys.length≤cs.length) :
  aL R w (bu cs off ys) (vs.take off++us++vs.drop (off+us.length)):=by
 rw [eN cs off ys hl,← k.length];exact ((h.take off).append k).append (h.drop _)
theorem kw {vs us:List Value} {off n:Nat} (h:∀ x∈vs,x.oneCell'=true) (k:∀ x∈us,x.oneCell'=true):∀ x∈vs.take off++us++vs.drop n,x.oneCell'=true:=by
 intro x hx;simp only [List.mem_append] at hx;rcases hx with (hx|hx)|hx
 ·exact h x (aa5 hx)
 ·exact k x hx
 ·exact h x (aa4 hx)
theorem iF {t:TypeId} {i:TI} (hi:E.ti t=some i) {b off:Nat} {vs:List Value} {el:TypeId} {c:Value} (hb:w.heap[b]?=some (.cells ⟨vs⟩ el (0,0)))
  (hs:c.cells.toList.length=i.size) (hl:off+c.cells.toList.length≤vs.length) (h1:∀ v∈c.cells.toList,v.oneCell'=true) :
  (storeVar t ⟨b,off,none⟩ c).run E.P w=.ok () (w.setRow b ⟨vs.take off++c.cells.toList++vs.drop (off+c.cells.toList.length)⟩):=by
 obtain ⟨hU,u,e1,e2,e3,_⟩:=ck E hi;have iP:=run_storeCells_at (P:=E.P) b off el c.cells.toList 0 ⟨vs⟩ w hb (by simpa using hl) h1;have cq:c.cells.size=hU.size:=by rw [e3,← hs]; simp
 simp only [aaV] at iP;unfold storeVar;simp only [aas,run_sizeOf w e1,aap,Sem.run_ite,cq,ne_eq,not_true_eq_false,if_false];simpa using iP
theorem aY.G5 (h:aY E R w β s a) {id b k:Nat} {cs:List AV} (hb:nth R.obj id=some (.bE b)) (hk:dR s.boxes k=some cs):β k≠b:=by
 intro e;exact (h.b.box k cs hk).2.2 ⟨id,_,hb,by rw [e]; rfl⟩
theorem G6 (h:aY E R w β s a) (t:TypeId) (p x:Operand) (ho:o.op=.store t p x) (hd:o.dst=none) {s':St} (hs:iQ E s t (bG E s.ab p) (bG E s.ab x)=some s') :
  bQ E R w β s a o s':=by
 unfold iQ at hs;have rp:=aV h p;have rx:=aV h x;split at hs
 ·rename_i i v hi hx;rw [hx] at rx;split at hs
  ·rename_i fA;simp only [aal] at fA;obtain ⟨Kr,hlen⟩:=fA;have hlen:=aax hlen;obtain ⟨c1,c2⟩:=Rel.cells rx Kr;have uc:v.cells.length=(a.eval x).cells.toList.length:=c1.length;split at hs
   ·-- a local box
    rename_i k off Ks;rw [Ks] at rp;split at hs
    ·rename_i cs hk;split at hs
     ·rename_i hle;cases hs;have hle:=aaI hle;obtain ⟨⟨vs,el,b1,b2,b3⟩,b4,b5⟩:=h.b.box k cs hk;have bp:=iF (E:=E) (w:=w) hi (off:=off) (c:=a.eval x) b1 (by rw [← uc]; exact hlen) (by rw [← uc,← b2.length]; exact hle) c2;have hex:=jo (R:=R) (w:=w) b4 ⟨vs.take off++(a.eval x).cells.toList++vs.drop (off+(a.eval x).cells.toList.length)⟩;refine ⟨.skip,undef,w.setRow (β k) ⟨vs.take off++(a.eval x).cells.toList++vs.drop (off+(a.eval x).cells.toList.length)⟩,R,β,?_,.inr ⟨rfl,rfl⟩,?_,?_⟩
      ·simp [execOp,ho,Instr.storeAt,show a.eval p=.pointer (some ⟨β k,off,none⟩) from rp,aaM,bp]
      ·rw [hd];refine ⟨?_,?_,h.t.mono hex,h.n,h.d⟩
       ·exact h.g.keep hex rfl (fun b hb=>setRow_other w _ b _ (fun e=>b5 (e ▸ hb))) (fun _ _ _ hi=>hi) (fun b o hi=>by have:=h.g.wf b o hi; simp; omega)
       ·refine ⟨fun k' eZ iZ=>?_,fun k1 k2 x1 x2 g1 g2=>?_⟩
        ·rcases fR iZ with ⟨rfl,e⟩|⟨cq,Yd⟩
         ·cases e;exact ⟨⟨_,el,setRow_heap w _ _ _ el (0,0) b1,(b2.bu c1 hle).mono hex,kw b3 c2⟩,b4,b5⟩
         ·obtain ⟨⟨vs',el',d1,d2,d3⟩,d4,d5⟩:=h.b.box k' eZ Yd;refine ⟨⟨vs',el',?_,d2.mono hex,d3⟩,d4,d5⟩;rw [setRow_other]
          ·exact d1
          ·exact fun e=>cq (h.b.inj k' k eZ cs Yd hk e).symm
        ·have q1:∃ y,dR s.boxes k1=some y:=by
          rcases fR g1 with ⟨rfl,_⟩|⟨_,g⟩
          ·exact ⟨_,hk⟩
          ·exact ⟨_,g⟩
         have q2:∃ y,dR s.boxes k2=some y:=by
          rcases fR g2 with ⟨rfl,_⟩|⟨_,g⟩
          ·exact ⟨_,hk⟩
          ·exact ⟨_,g⟩
         obtain ⟨y1,q1⟩:=q1;obtain ⟨y2,q2⟩:=q2;exact h.b.inj k1 k2 y1 y2 q1 q2
      ·have qY:Own R β s.boxes (β k):=.inr ⟨k,cs,hk,rfl⟩;refine ⟨hex,rfl,rfl,rfl,by simp,fun b _ hn=>setRow_other w _ b _ (fun e=>hn (e ▸ qY)),fun b _ hb=>?_,fun b o hi _ _=>hi⟩;rcases hb with hb|⟨k',eZ,iZ,e⟩
       ·exact .inl hb
       ·rcases fR iZ with ⟨rfl,_⟩|⟨_,g⟩
        ·exact .inr ⟨k,cs,hk,e⟩
        ·exact .inr ⟨k',eZ,g,e⟩
     ·cases hs
    ·cases hs
   ·-- an object
    rename_i id off Ks;rw [Ks] at rp;split at hs
    ·rename_i cs hk;split at hs
     ·rename_i hle;cases hs;have hle:=aaI hle;have Sz:Rel R w (.ptr id off) (a.eval p):=rp;generalize Pt:a.eval p=pv at Sz;cases Sz with
      | @ptr _ _ b hb=>
      obtain ⟨vs,b1,b2,b3,b4⟩:=h.g.obj id _ _ hk hb;have bp:=iF (E:=E) (w:=w) hi (off:=off) (c:=a.eval x) b1 (by rw [← uc]; exact hlen) (by rw [← uc,← b2.length]; exact hle) c2;have hex:=jo (R:=R) (w:=w) b4 ⟨vs.take off++(a.eval x).cells.toList++vs.drop (off+(a.eval x).cells.toList.length)⟩;refine ⟨.skip,undef,w.setRow b ⟨vs.take off++(a.eval x).cells.toList++vs.drop (off+(a.eval x).cells.toList.length)⟩,R,β,?_,.inr ⟨rfl,rfl⟩,?_,?_⟩
      ·simp [execOp,ho,Instr.storeAt,Pt,aaM,bp]
      ·rw [hd];refine ⟨⟨?_,fun iU go ro hg hr=>?_,h.g.inj,fun b' o' qP=>by have:=h.g.wf b' o' qP; simp; omega,fun g eZ hg=>(h.g.dF g eZ hg).mono hex,by first | exact h.g.lo | exact aaT h.g.lo⟩,?_,h.t.mono hex,h.n,h.d⟩
       ·simp [St.bq,h.g.len]
       ·rcases b8 hg with ⟨rfl,rfl,_⟩|⟨cq,Ck⟩
        ·rw [hb] at hr;cases hr;exact ⟨_,setRow_heap w _ _ _ _ (0,0) b1,(b2.bu c1 hle).mono hex,kw b3 c2,b4⟩
        ·refine (h.g.obj iU go ro Ck hr).mono hex (fun b' kX=>setRow_other w _ b' _ (fun e=>cq ?_)) (fun _ _ _ hi=>hi);subst e;exact h.g.inj id iU _ _ b' hb hr rfl kX
       ·exact h.b.keep hex (fun k eZ iZ=>setRow_other w _ _ _ (h.G5 hb iZ)) (fun _ _ _ _ hi=>hi) (fun _ _ _ hl=>hl)
      ·have qY:Own R β s.boxes b:=.inl ⟨id,_,hb,rfl⟩;exact ⟨hex,rfl,rfl,rfl,by simp,fun b' _ hn=>setRow_other w _ b' _ (fun e=>hn (e ▸ qY)),fun _ _ hb=>hb,fun b o hi _ _=>hi⟩
     ·cases hs
    ·cases hs
   ·cases hs
  ·cases hs
 ·cases hs
end ops
end Go.Am
namespace Go.Am
open Go
section ops
variable {E:Env} {R:ai} {w:World} {β:Nat→Nat} {s:St} {a:Act} {o:Oper}
def ai.add (R:ai) (ro:RO):ai:=⟨R.I,R.obj++[ro]⟩
theorem iG (wf:∀ b o,R.I b o→b < w.heap.size) (x:Obj) (ro:RO):Ext R w (R.add ro) (w.alloc x):=
 ⟨fun _ _ h=>h,fun b o h=>bL (heap_alloc_old w x b (wf b o h)) o,fun _ r h=>⟨r,bn h,cj.refl r⟩,.old fun b hb=>heap_alloc_old w x b hb⟩
theorem kZ {ro:RO} {b:Nat} (h:Live (R.add ro) b):Live R b∨ro.has b:=by
 obtain ⟨id,r,h1,h2⟩:=h;rcases ah h1 with h1|⟨_,rfl⟩
 ·exact .inl ⟨id,r,h1,h2⟩
 ·exact .inr h2
theorem aY.mK (h:aY E R w β s a) (x:Obj) (go:GO) (ro:RO) (ba:∀ b,ro.has b→b=w.heap.size) (ia:iE (R.add ro) (w.alloc x) go ro):aY E (R.add ro) (w.alloc x) β (s.eF go) a where
 g:=by
  have e:=iG (R:=R) (w:=w) h.g.wf x ro;refine ⟨by simp [St.eF,ai.add,h.g.len],fun id g r h1 h2=>?_,fun i j ri rj b h1 h2 b1 b2=>?_,fun b o hi=>?_,fun g cs hg=>(h.g.dF g cs hg).mono e,by first | exact h.g.lo | exact aaT h.g.lo⟩
  ·rcases ah h2 with h2|⟨h3,rfl⟩
   ·have bW:=aU h2;rw [h.g.len] at bW;rcases ah h1 with h1|⟨h4,_⟩
    ·exact (h.g.obj id g r h1 h2).mono e (fun b hb=>heap_alloc_old w x b (h.g.bT ⟨id,r,h2,hb⟩)) (fun _ _ _ hi=>hi)
    ·omega
   ·rcases ah h1 with h1|⟨h4,rfl⟩
    ·have:=aU h1;rw [h3,h.g.len] at this;omega
    ·exact ia
  ·rcases ah h1 with g1|⟨h3,e1⟩
   ·rcases ah h2 with g2|⟨h4,e2⟩
    ·exact h.g.inj i j ri rj b g1 g2 b1 b2
    ·have:=h.g.bT ⟨i,ri,g1,b1⟩;rw [e2] at b2;have:=ba b b2;omega
   ·rcases ah h2 with g2|⟨h4,e2⟩
    ·have:=h.g.bT ⟨j,rj,g2,b2⟩;rw [e1] at b1;have:=ba b b1;omega
    ·omega
  ·have:=h.g.wf b o hi;simp;omega
 b:=h.b.keep (iG h.g.wf x ro) (fun k cs hk=>heap_alloc_old w x _ (h.ea (.inr ⟨k,cs,hk,rfl⟩))) (fun _ _ _ _ hi=>hi) (fun k cs hk hl=>by
  rcases kZ hl with hl|hl
  ·exact hl
  ·have:=h.ea (.inr ⟨k,cs,hk,rfl⟩);have hl:=ba _ hl;omega)
 t:=h.t.mono (iG h.g.wf x ro)
 n:=h.n
 d:=h.d.mono (iG h.g.wf x ro)
theorem dy (h:aY E R w β s a) (x:Obj) (ro:RO) (ba:∀ b,ro.has b→b=w.heap.size):Step R w β s.boxes (R.add ro) (w.alloc x) β s.boxes:=
 ⟨iG h.g.wf x ro,rfl,rfl,rfl,by simp,fun b hb _=>heap_alloc_old w x b hb,fun b hb ho=>by
  rcases ho with ho|ho
  ·rcases kZ ho with ho|ho
   ·exact .inl ho
   ·have ho:=ba _ ho;omega
  ·exact .inr ho,fun _ _ hi _ _=>hi⟩
theorem gV (h:aY E R w β s a) (ro:RO):nth (R.add ro).obj s.G.length=some ro:=by
 rw [← h.g.len];exact bS _ _
theorem EQ {f:FuncId} (h:aY E R w β s a) {v:AV} {c:Value} {t:TypeId} (hv:Rel R w v c) (hn:v.aR=true)
  (hx:(execOp a.eval o).run E.P w=.ok (.value (.pointer (some ⟨w.heap.size,0,none⟩))) (w.alloc (.cells c.cells t))) {s':St} (ha:gv E f s o.dst t v.cells=some (true,s')) :
  bQ E R w β s a o s':=by
 obtain ⟨c1,c2⟩:=Rel.cells hv hn;unfold gv at ha;split at ha
 ·cases ha
 ·rename_i d hd;split at ha
  ·-- an object
   cases ha;have ia:iE (R.add (.bE w.heap.size)) (w.alloc (.cells c.cells t)) (.row v.cells t) (.bE w.heap.size):=
    ⟨c.cells.toList,heap_alloc_new w _,c1.mono (iG h.g.wf _ _),c2,fun o' hi=>by have:=h.g.wf _ _ hi; omega⟩
   have bl:=h.mK (.cells c.cells t) (.row v.cells t) (.bE w.heap.size) (by exact fun _ h=>h) ia;refine ⟨_,.pointer (some ⟨w.heap.size,0,none⟩),_,R.add (.bE w.heap.size),β,hx,.inl rfl,?_,?_⟩
   ·rw [hd];exact bl.put (some d) (x:=.v (.ptr s.G.length 0)) (Rel.ptr (gV h _))
   ·rw [bf];exact dy h _ _ (by exact fun _ h=>h)
  ·split at ha
   ·rename_i hbx;injection ha with ha;injection ha with _ Pu;subst Pu;have e:=Ci (R:=R) (w:=w) h.g.wf (.cells c.cells t)
    let β':Nat→Nat:=fun k=>if k=d then w.heap.size else β k
    have I0:β' d=w.heap.size:=by simp [β']
    have cq:∀ k,k≠d→β' k=β k:=fun k hk=>by simp [β',hk]
    have hdn:d < a.tmps.size:=by rw [h.n]; exact aaI hbx
    have G7:((s.kill d).xi d v.cells).put (some d) (.lp d 0)=⟨.put d (.lp d 0) :: .kill d :: s.ab,(d,v.cells) :: s.boxes,s.G,s.marks,s.ro,s.n⟩:=by
     simp only [St.put,St.xi,St.kill,hbx]
    refine ⟨_,.pointer (some ⟨w.heap.size,0,none⟩),_,R,β',hx,.inl rfl,?_,?_⟩
    ·rw [hd,G7];refine ⟨?_,⟨fun k cs hk=>?_,fun k k' cs eZ hk iZ he=>?_⟩,?_,by simp [Act.put,h.n],h.d⟩
     ·exact h.g.keep e rfl (fun b hb=>heap_alloc_old w _ b (h.g.bT hb)) (fun _ _ _ hi=>hi) (fun b o hi=>by have:=h.g.wf b o hi; simp; omega)
     ·rcases fR hk with ⟨rfl,he⟩|⟨O1,hk⟩
      ·cases he;rw [I0];exact ⟨⟨c.cells.toList,t,heap_alloc_new w _,c1.mono e,c2⟩,fun o' hi=>by have:=h.g.wf _ _ hi; omega,fun hl=>by have:=h.g.bT hl; omega⟩
      ·rw [cq k (aa2 O1)];obtain ⟨⟨vs,el,b1,b2,b3⟩,b4,b5⟩:=h.b.box k cs hk;exact ⟨⟨vs,el,(heap_alloc_old w _ _ (bz b1)).trans b1,b2.mono e,b3⟩,b4,b5⟩
     ·rcases fR hk with ⟨rfl,_⟩|⟨O1,hk⟩
      ·rcases fR iZ with ⟨rfl,_⟩|⟨TZ,iZ⟩
       ·rfl
       ·rw [I0,cq k' (aa2 TZ)] at he;have:=h.ea (.inr ⟨k',eZ,iZ,rfl⟩);omega
      ·rcases fR iZ with ⟨rfl,_⟩|⟨TZ,iZ⟩
       ·rw [I0,cq k (aa2 O1)] at he;have:=h.ea (.inr ⟨k,cs,hk,rfl⟩);omega
       ·rw [cq k (aa2 O1),cq k' (aa2 TZ)] at he;exact h.b.inj k k' cs eZ hk iZ he
     ·intro i hi;by_cases hdi:d=i
      ·subst hdi;rw [aD];refine ⟨.pointer (some ⟨w.heap.size,0,none⟩),by simp [Act.put,hdn],?_⟩;show Value.pointer _=_;rw [I0]
      ·rw [aT hdi] at hi ⊢;rcases IY (l:=s.ab) (d:=d) (t:=i) with ⟨h1,h2⟩|h1
       ·rw [h1] at hi ⊢;obtain ⟨c',q1,q2⟩:=h.t i hi;refine ⟨c',?_,?_⟩
        ·simp only [Act.put];rw [Array.getElem?_setIfInBounds_ne hdi];exact q1
        ·cases yg:lk s.ab i with
         |none=>trivial
         |v y=>rw [yg] at q2; exact Rel.mono e q2
         |lp k off=>
          rw [yg] at q2;show c'=_;rw [cq k (h2 k off yg)];exact q2
       ·exact absurd h1 hi
    ·rw [G7];refine ⟨e,rfl,rfl,rfl,by simp,fun b hb _=>heap_alloc_old w _ b hb,fun b hb ho=>?_,fun _ _ hi _ _=>hi⟩;rcases ho with ho|⟨k,cs,hk,he⟩
     ·exact .inl ho
     ·rcases fR hk with ⟨rfl,_⟩|⟨O1,hk⟩
      ·rw [I0] at he;omega
      ·rw [cq k (aa2 O1)] at he;exact .inr ⟨k,cs,hk,he⟩
   ·cases ha
theorem dK {i:TypeInfo} {z:AV} (h:gU i=some z):∃ c,i.zero=some c∧∀ R w,Rel R w z c:=by
 unfold gU at h;split at h
 ·rename_i c hc;exact ⟨c,hc,fun R w=>xn h⟩
 ·cases h
theorem G8 {f:FuncId} (h:aY E R w β s a) (t:TypeId) (ho:o.op=.alloc t) {i:TI} {z:AV} (hi:E.ti t=some i) (hz:i.zero=some z) (hn:z.aR=true) {s':St} (ha:gv E f s o.dst t z.cells=some (true,s')) :
  bQ E R w β s a o s':=by
 obtain ⟨hU,u,e1,e2,e3,e4,e5,e6⟩:=ck E hi;rw [hz] at e6;obtain ⟨c,hc,hr⟩:=dK e6;refine EQ h (hr R w) hn (t:=t) ?_ ha;simp [execOp,ho,Instr.alloc,iY w e1 hc,zo]
theorem Mn {f:FuncId} (h:aY E R w β s a) (t:TypeId) (x:Operand) (ho:o.op=.box t x) {v:AV} (hv:bG E s.ab x=.v v) (hn:v.aR=true) {s':St} (ha:gv E f s o.dst t v.cells=some (true,s')) :
  bQ E R w β s a o s':=by
 have hr:=aV h x;rw [hv] at hr;refine EQ h hr hn (t:=t) ?_ ha;simp [execOp,ho,Instr.box,zo]
end ops
end Go.Am
namespace Go.Am
open Go
section types
variable {P:Program}
theorem pW:∀ {fs:List Field} {l:List (Nat × Nat × Bool)},fieldsOf P fs=some l→∀ {j o sz:Nat} {ag:Bool},nth l j=some (o,sz,ag) →
  ∃ f fi u,fs[j]?=some f∧f.offset=o∧P.info? f.type=some fi∧fi.size=sz∧P.underlying f.type=some u∧lC u=ag
 |[],l,h,j,o,sz,ag,hn=>by simp [fieldsOf] at h; subst h; simp [nth] at hn
 |f :: fs,l,h,j,o,sz,ag,hn=>by
  unfold fieldsOf at h;split at h
  ·rename_i i u r h1 h2 h3;cases h;cases j with
   |zero=>simp [nth] at hn; obtain ⟨e1,e2,e3⟩:=hn; exact ⟨f,i,u,by simp,e1,h1,e2,h2,e3⟩
   |succ j=>
    obtain ⟨f',fi,u',g1,g2⟩:=pW h3 (show nth r j=some (o,sz,ag) from hn);exact ⟨f',fi,u',by simpa using g1,g2⟩
  ·cases h
theorem qz:∀ {fs:List Field} {l:List (Nat × Nat × Bool)},fieldsOf P fs=some l→fs.mapM (fun f=>(P.info? f.type).map fun i=>(f.offset,i.size))=some (l.map fun x=>(x.1,x.2.1))
 |[],l,h=>by simp [fieldsOf] at h; subst h; simp
 |f :: fs,l,h=>by
  unfold fieldsOf at h;split at h
  ·rename_i i u r h1 h2 h3;cases h;simp [List.mapM_cons,h1,qz h3]
  ·cases h
theorem I1 {u:TypeDesc} {l:List (Nat × Nat × Bool)} (h:sN P u=some (.st l)):∃ fs,u=.struct fs∧fieldsOf P fs.toList=some l:=by
 cases u <;> simp only [sN] at h <;> try (cases h; done)
 all_goals (try (split at h <;> cases h; done))
 rename_i fs;split at h
 ·rename_i l' hl;cases h;exact ⟨fs,rfl,hl⟩
 ·cases h
theorem qZ {u:TypeDesc} {n esz:Nat} {ag:Bool} (h:sN P u=some (.arr n esz ag)):∃ e i ue,u=.array n e∧P.info? e=some i∧i.size=esz∧P.underlying e=some ue∧lC ue=ag:=by
 cases u <;> simp only [sN] at h <;> try (cases h; done)
 all_goals (try (split at h <;> cases h; done))
 rename_i m e;split at h
 ·rename_i i ue h1 h2;cases h;exact ⟨e,i,ue,rfl,h1,rfl,h2,rfl⟩
 ·cases h
theorem dq {u:TypeDesc} {e esz pK:Nat} {ag:Bool} {z:Option AV} (h:sN P u=some (.sl e esz ag pK z)) :
  ∃ i ue,u=.slice e∧P.info? e=some i∧i.size=esz∧i.bytes=pK∧P.underlying e=some ue∧lC ue=ag∧gU i=z:=by
 cases u <;> simp only [sN] at h <;> try (cases h; done)
 all_goals (try (split at h <;> cases h; done))
 rename_i e';split at h
 ·rename_i i ue h1 h2;injection h with h;injection h with g1 g2 g3 g4 g5;subst g1; subst g2; subst g3; subst g4; subst g5;exact ⟨i,ue,rfl,h1,rfl,rfl,h2,rfl,rfl⟩
 ·cases h
theorem mL {u:TypeDesc} (h:sN P u=some .str):u=.string:=by
 cases u <;> simp only [sN] at h <;> try (cases h; done)
 all_goals (try (split at h <;> cases h; done))
 rfl
theorem uz {u:TypeDesc} {k:IntKind} (h:sN P u=some (.int k)):u=.int k:=by
 cases u <;> simp only [sN] at h <;> try (cases h; done)
 all_goals (try (split at h <;> cases h; done))
 cases h;rfl
theorem o0 {u:TypeDesc} {k e:TypeId} {z:Option AV} (h:sN P u=some (.map k e z)):u=.map k e∧∃ i,P.info? e=some i∧gU i=z:=by
 cases u <;> simp only [sN] at h <;> try (cases h; done)
 all_goals (try (split at h <;> cases h; done))
 split at h
 ·rename_i i h1;cases h;exact ⟨rfl,i,h1,rfl⟩
 ·cases h
end types
section ops
variable {E:Env} {R:ai} {w:World} {β:Nat→Nat} {s:St} {a:Act} {o:Oper}
theorem Cl {p q:SV} {c:Value} {n:Nat} (hp:qJ R w β p c) (hm:Cc n p=some q) :
  ∃ b o,c=.pointer (some ⟨b,o,none⟩)∧qJ R w β q (.pointer (some ⟨b,o+n,none⟩)):=by
 unfold Cc at hm;split at hm
 ·cases hm;exact ⟨_,_,hp,rfl⟩
 ·cases hm;cases hp with
  | @ptr _ _ b hb=>exact ⟨b,_,rfl,Rel.ptr hb⟩
 ·cases hm;cases hp with
  | @ep _ b o hr=>
   refine ⟨b,o,rfl,Rel.ep ?_⟩;rw [zn];exact hr.drop n
 ·cases hm;cases hp with
  | @gp _ _ _ _ _ b o _ ro hr dG=>
   refine ⟨b,o,rfl,Rel.gp hr ?_⟩;cases ro with
   |none=>trivial
   |a8=>exact dG.elim
   |bE _=>exact dG.elim
   |aX _=>exact dG.elim
   |tok f1 b1 c1=>exact ⟨dG.1,fun e=>⟨(dG.2 e).1,by rw [(dG.2 e).2,aaY]⟩⟩
 ·cases hm;cases hp with
  | @rp _ _ _ _ _ _ b o _ ro hr dG=>
   refine ⟨b,o,rfl,Rel.rp hr ?_⟩;cases ro with
   |none=>trivial
   |a8=>exact dG.elim
   |bE _=>exact dG.elim
   |tok _ _ _ _=>exact dG.elim
   |aX ts=>
    obtain ⟨t,k1,k2⟩:=dG;refine ⟨t,k1,?_⟩;cases t with
    |a8=>exact k2.elim
    |full _=>exact k2
    |tok f1 b1 c1=>exact ⟨k2.1,fun e=>⟨(k2.2 e).1,by rw [(k2.2 e).2,aaY]⟩⟩
 ·cases hm
theorem zq (h:aY E R w β s a) (t:TypeId) (x:Operand) (j:Nat) (ho:o.op=.fieldAddr t x j) {q:SV} (hq:mI E t (bG E s.ab x) j=some q) :
  bQ E R w β s a o (s.put o.dst q):=by
 unfold mI at hq;split at hq
 ·rename_i i hi;split at hq
  ·rename_i fs hk;split at hq
   ·rename_i off sz ag hn;split at hq
    ·rename_i eR;have eR:=aaI eR;obtain ⟨hU,u,e1,e2,e3,e4,e5,e6⟩:=ck E hi;rw [hk] at e5;obtain ⟨fl,rfl,hf⟩:=I1 e5;obtain ⟨f,fi,u',g1,g2,g3,g4,g5,g6⟩:=pW hf hn;obtain ⟨b,o',m1,m2⟩:=Cl (aV h x) hq;refine au h ?_ m2;have BF:fl[j]?=some f:=by simpa using g1
     have cq:¬ fi.size=0:=by omega
     simp [execOp,ho,Instr.fieldAt,run_underlying e2,BF,m1,aaM,fieldPlace,run_sizeOf w g3,cq,b9,g2]
    ·cases hq
   ·cases hq
  ·cases hq
 ·cases hq
theorem ER {b o sz:Nat} {es:List AV} (h:iW R w b o sz es) {n:Nat} {e:AV} (hn:nth es n=some e):fN R w b (o+n * sz) e.cells∧e.cells.length=sz∧e.aR=true:=by
 induction es generalizing o n with
 |nil=>simp [nth] at hn
 |cons x l ih=>
  cases h with
  |cons hl ht _ h t=>
   cases n with
   |zero=>simp [nth] at hn; subst hn; exact ⟨by simpa using h,hl,ht⟩
   |succ n=>
    have:=ih t (show nth l n=some e from hn);rw [show o+sz+n * sz=o+(n+1) * sz by rw [Nat.add_mul]; omega] at this;exact this
theorem zr (h:aY E R w β s a) (t:TypeId) (x ix:Operand) (ho:o.op=.indexAddr t x ix) {q:SV} (hq:mH E t (bG E s.ab x) (bG E s.ab ix)=some (true,q)) :
  bQ E R w β s a o (s.put o.dst q):=by
 have rx:=aV h x;have ri:=aV h ix;unfold mH at hq;split at hq
 ·rename_i i k n hi Ye;rw [Ye] at ri;have SA:Rel R w (.int k n) (a.eval ix):=ri;generalize Mo:a.eval ix=iv at SA;cases SA;obtain ⟨hU,u,e1,e2,e3,e4,e5,e6⟩:=ck E hi;split at hq
  ·-- a list
   rename_i elem esz ag pK z kk sz es hk hx;rw [hx] at rx;rw [hk] at e5;obtain ⟨ie,ue,rfl,f1,f2,f3,f4,f5,f6⟩:=dq e5;split at hq
   ·rename_i hc;have key:∀ (u:AV),(0≤n∧n < (es.length:Int))→dv (ae es n.toNat).cells u.cells→bQ E R w β s a o (s.put o.dst (.v (.ep u.cells))):=fun u yh hu=>by
     obtain ⟨Cm,Kt⟩:=yh;have dW:Rel R w (.list kk sz es) (a.eval x):=rx;generalize fO:a.eval x=xv at dW;cases dW with
     |jZ=>simp at Kt; omega
     |jN=>simp at Kt; omega
     |oG=>simp at Kt; omega
     |me=>simp at Kt; omega
     |mJ=>simp at Kt; omega
     | @list _ _ _ b o' len cap hr hl fj G9=>
      subst hl;have bW:n.toNat < es.length:=by omega
      obtain ⟨e,he⟩:∃ e,nth es n.toNat=some e:=⟨es[n.toNat],by rw [aN]; exact aav bW⟩;have eR:sz=esz:=by
       simp only [Bool.or_eq_true] at hc;rcases hc with hc|hc
       ·exact aax hc
       ·cases es with
        |nil=>simp at bW
        |cons _ _=>simp at hc
      obtain ⟨g1,_,_⟩:=ER hr he;refine au h (c:=.pointer (some ⟨b,o'+n.toNat * sz,none⟩)) ?_ ?_
      ·have fA:0≤n∧n < (es.length:Int):=⟨Cm,Kt⟩;simp [execOp,ho,aaN,Mo,fO,asIntOf,run_underlying e2,fA,run_sizeOf w f1,f2,eR,b9]
      ·have:ae es n.toNat=e:=by simp [ae,he]
       rw [this] at hu;exact .ep (hu.Mk g1)
    split at hq
    ·rename_i p hp;injection hq with hq;injection hq with yh qK;subst qK;rw [aal] at yh;have fA:=of_decide_eq_true yh.1;have hd:=p.dE yh.2;have bW:n.toNat < es.length:=by omega
     refine key _ fA (hd.cells ?_);obtain ⟨e,he⟩:∃ e,nth es n.toNat=some e:=⟨es[n.toNat],by rw [aN]; exact aav bW⟩;have:ae es n.toNat=e:=by simp [ae,he]
     rw [this];have dW:Rel R w (.list kk sz es) (a.eval x):=rx;generalize a.eval x=xv at dW;cases dW with
     |jZ=>simp at bW
     |jN=>simp at bW
     |oG=>simp at bW
     |me=>simp at bW
     |mJ=>simp at bW
     |list hr _ _ _=>exact (ER hr he).2.2
    ·injection hq with hq;injection hq with yh qK;subst qK;exact key _ (of_decide_eq_true yh) (dv.refl _)
   ·cases hq
  ·-- a heap slice
   rename_i elem esz ag pK z id off sz len cap hk hx;rw [hx] at rx;rw [hk] at e5;obtain ⟨ie,ue,rfl,f1,f2,f3,f4,f5,f6⟩:=dq e5;split at hq
   ·rename_i hc;have eR:=aax hc;injection hq with hq;injection hq with yh qK;subst qK;have fA:=of_decide_eq_true yh;have dW:Rel R w (.jV id off sz len cap) (a.eval x):=rx;generalize fO:a.eval x=xv at dW;cases dW with
    | @jV _ _ _ _ _ b hb _=>
     refine au h (c:=.pointer (some ⟨b,off+n.toNat * sz,none⟩)) ?_ (Rel.ptr hb);simp [execOp,ho,aaN,Mo,fO,asIntOf,run_underlying e2,fA,run_sizeOf w f1,f2,eR,b9]
   ·cases hq
  ·-- a slice that grows
   rename_i elem esz ag pK z id f' off sz len hk hx;rw [hx] at rx;rw [hk] at e5;obtain ⟨ie,ue,rfl,f1,f2,f3,f4,f5,f6⟩:=dq e5;split at hq
   ·rename_i hc;have eR:=aax hc;injection hq with hq;injection hq with yh qK;subst qK;have fA:=of_decide_eq_true yh;have dW:Rel R w (.de id f' off sz len) (a.eval x):=rx;generalize fO:a.eval x=xv at dW;cases dW with
    |jO _ _=>omega
    | @de _ _ _ _ _ cap b o' ro ba dG fj=>
     refine au h (c:=.pointer (some ⟨b,o'+n.toNat * sz,none⟩)) ?_ (Rel.gp ba ?_)
     ·simp [execOp,ho,aaN,Mo,fO,asIntOf,run_underlying e2,fA,run_sizeOf w f1,f2,eR,b9]
     ·cases ro with
      |none=>trivial
      |a8=>exact dG.elim
      |bE _=>exact dG.elim
      |aX _=>exact dG.elim
      |tok f1 b1 c1=>
       refine ⟨dG.1,fun e=>?_⟩;obtain ⟨k1,k2,k3⟩:=dG.2 e;refine ⟨k1,?_⟩;rcases k3 with k3|k3
       ·rw [k3,aaV,Nat.add_mul]
       ·omega
   ·cases hq
  ·-- a row
   rename_i elem esz ag pK z id j' sz len hk hx;rw [hx] at rx;rw [hk] at e5;obtain ⟨ie,ue,rfl,f1,f2,f3,f4,f5,f6⟩:=dq e5;split at hq
   ·rename_i hc;have eR:=aax hc;injection hq with hq;injection hq with yh qK;subst qK;have fA:=of_decide_eq_true yh;have dW:Rel R w (.eX id j' sz len) (a.eval x):=rx;generalize fO:a.eval x=xv at dW;cases dW with
    |tF _ _=>omega
    | @eX _ _ _ _ cap b o' ro ba dG fj=>
     refine au h (c:=.pointer (some ⟨b,o'+n.toNat * sz,none⟩)) ?_ (Rel.rp ba ?_)
     ·simp [execOp,ho,aaN,Mo,fO,asIntOf,run_underlying e2,fA,run_sizeOf w f1,f2,eR,b9]
     ·cases ro with
      |none=>trivial
      |a8=>exact dG.elim
      |bE _=>exact dG.elim
      |tok _ _ _ _=>exact dG.elim
      |aX ts=>
       obtain ⟨t,k1,k2⟩:=dG;refine ⟨t,k1,?_⟩;cases t with
       |a8=>exact k2.elim
       |full f1=>exact k2.1
       |tok f1 b1 c1=>
        refine ⟨k2.1,fun e=>?_⟩;obtain ⟨k3,k4,k5⟩:=k2.2 e;refine ⟨k3,?_⟩;rcases k4 with k4|k4
        ·rw [k4,Nat.zero_add,aaV]
        ·omega
   ·cases hq
  ·-- an array that is never written
   rename_i len esz ag cs hk hx;rw [hx] at rx;rw [hk] at e5;obtain ⟨e,ie,ue,rfl,f1,f2,f3,f4⟩:=qZ e5;have dW:Rel R w (.ep cs) (a.eval x):=rx;generalize fO:a.eval x=xv at dW;cases dW with
   | @ep _ b o' hr=>
    split at hq
    ·rename_i p hp;split at hq
     ·rename_i hc;rw [aal] at hc;have hz:=aax hc.1;have hl:=aaI hc.2;injection hq with hq;injection hq with yh qK;subst qK;rw [aal] at yh;have fA:=of_decide_eq_true yh.1;have hd:=p.dE yh.2;have bW:n.toNat < cs.length:=by omega
      have hdr:=hr.drop n.toNat;rw [List.drop_eq_getElem_cons bW] at hdr;have hn:ae cs n.toNat=cs[n.toNat]:=by
       unfold ae;rw [aN,aav bW]
      rw [hn] at hd ⊢;refine au h (c:=.pointer (some ⟨b,o'+n.toNat * esz,none⟩)) ?_ ?_
      ·simp [execOp,ho,aaN,Mo,fO,aaM,asIntOf,run_underlying e2,fA,run_sizeOf w f1,f2,b9]
      ·subst hz;rw [Nat.mul_one];cases hdr with
       |cons hc h1 hi dJ t=>exact .ep (.cons hc h1 hi (hd.1 _ _ _ dJ) .nil)
     ·cases hq
    ·injection hq with hq;injection hq with yh qK;subst qK;have fA:=of_decide_eq_true yh;refine au h (c:=.pointer (some ⟨b,o'+n.toNat * esz,none⟩)) ?_ ?_
     ·simp [execOp,ho,aaN,Mo,fO,aaM,asIntOf,run_underlying e2,fA,run_sizeOf w f1,f2,b9]
     ·rw [zn];exact .ep (hr.drop _)
  ·-- an array
   rename_i len esz ag hk _;rw [hk] at e5;obtain ⟨e,ie,ue,rfl,f1,f2,f3,f4⟩:=qZ e5;split at hq
   ·rename_i q' hm;injection hq with hq;injection hq with yh qK;subst qK;have fA:=of_decide_eq_true yh;obtain ⟨b,o',m1,m2⟩:=Cl rx hm;refine au h ?_ m2;simp [execOp,ho,aaN,Mo,m1,aaM,asIntOf,run_underlying e2,fA,run_sizeOf w f1,f2,b9]
   ·cases hq
  ·cases hq
 ·cases hq
theorem pd {t:TypeId} {i:TypeInfo} {u:TypeDesc} (h1:E.P.info? t=some i) (h2:E.P.underlying t=some u) {off:Nat} {cs l:List AV} {vs:List Value} {v:AV} (hr:aL R w cs vs) (h3:∀ x∈vs,x.oneCell'=true)
  (Du:lC u=true→GP off i.size cs=some l∧uj true l=some v) (hsc:lC u=false→GP off 1 cs=some l∧uj false l=some v) :
  ∃ c,(part t ⟨vs⟩ off).run E.P w=.ok c w∧Rel R w v c:=by
 unfold part;simp only [aas,Cj w h2,aap];cases ha:lC u with
 |true=>
  obtain ⟨g1,g2⟩:=Du ha;obtain ⟨k1,k2,k3,k4⟩:=pV g1 hr h3;obtain ⟨m1,_⟩:=zp g2 k2 k3;refine ⟨_,?_,m1 rfl⟩;have:(⟨vs⟩:Array Value).extract off (off+i.size)=⟨(vs.drop off).take i.size⟩:=by
   apply aa6;simp [List.extract_eq_take_drop]
  simp [run_sizeOf w h1]
 |false=>
  obtain ⟨g1,g2⟩:=hsc ha;obtain ⟨k1,k2,k3,k4⟩:=pV g1 hr h3;obtain ⟨_,m2⟩:=zp g2 k2 k3;obtain ⟨c,hc,dJ⟩:=m2 rfl;refine ⟨c,?_,dJ⟩;have h0:=k4 0 c (by rw [hc]; simp);simp only [aaV] at h0;simp [h0]
theorem Ha (h:aY E R w β s a) (t:TypeId) (x:Operand) (j:Nat) (ho:o.op=.field t x j) {v:AV} (hq:GR E t (bG E s.ab x) j=some v) :
  bQ E R w β s a o (s.put o.dst (.v v)):=by
 have rx:=aV h x;unfold GR at hq;split at hq
 ·rename_i i cs hi hx;rw [hx] at rx;have dW:Rel R w (.agg cs) (a.eval x):=rx;generalize fO:a.eval x=xv at dW;cases dW with
  | @agg _ vs hr h1=>
  split at hq
  ·rename_i fs hk;split at hq
   ·rename_i off sz ag hn;obtain ⟨hU,u,e1,e2,e3,e4,e5,e6⟩:=ck E hi;rw [hk] at e5;obtain ⟨fl,rfl,hf⟩:=I1 e5;obtain ⟨f,fi,u',g1,g2,g3,g4,g5,g6⟩:=pW hf hn;have key:∃ c,(part f.type ⟨vs⟩ off).run E.P w=.ok c w∧Rel R w v c:=by
     split at hq
     ·rename_i Du;split at hq
      ·rename_i l hl;exact pd g3 g5 (l:=l) hr h1 (fun _=>⟨by rw [g4]; exact hl,hq⟩) (fun hf=>by rw [g6,Du] at hf; cases hf)
      ·cases hq
     ·rename_i Du;split at hq
      ·rename_i l hl;exact pd g3 g5 (l:=l) hr h1 (fun hf=>by rw [g6] at hf; exact absurd hf Du) (fun _=>⟨hl,hq⟩)
      ·cases hq
    obtain ⟨c,k1,k2⟩:=key;refine au h ?_ k2;have BF:fl[j]?=some f:=by simpa using g1
    simp [execOp,ho,Instr.field,run_underlying e2,BF,fO,asAgg,g2,k1]
   ·cases hq
  ·cases hq
 ·cases hq
theorem Hb (h:aY E R w β s a) (t:TypeId) (x ix:Operand) (ho:o.op=.index t x ix) {v:AV} (hq:GS E t (bG E s.ab x) (bG E s.ab ix)=some (true,v)) :
  bQ E R w β s a o (s.put o.dst (.v v)):=by
 have rx:=aV h x;have ri:=aV h ix;unfold GS at hq;split at hq
 ·rename_i i l k n hi hx Ye;rw [hx] at rx;rw [Ye] at ri;have SA:Rel R w (.int k n) (a.eval ix):=ri;have dW:Rel R w (.str l) (a.eval x):=rx;generalize Mo:a.eval ix=iv at SA;generalize fO:a.eval x=xv at dW;cases SA;cases dW;obtain ⟨hU,u,e1,e2,e3,e4,e5,e6⟩:=ck E hi;split at hq
  ·rename_i hk;rw [hk] at e5;have:=mL e5;subst this;injection hq with hq;injection hq with yh qK;subst qK;obtain ⟨Cm,Kt⟩:=of_decide_eq_true yh;have bW:n.toNat < l.length:=by omega
   refine au h (c:=.int .u8 (l.getD n.toNat 0).toNat) ?_ (Rel.int _ _);have mf:(⟨⟨l⟩⟩:ByteArray)[n.toNat]?=some (l.getD n.toNat 0):=by
    have hs:n.toNat < (⟨⟨l⟩⟩:ByteArray).size:=bW;rw [getElem?_pos (⟨⟨l⟩⟩:ByteArray) n.toNat hs];congr 1;simp [List.getD,aav bW];rfl
   simp [execOp,ho,Instr.index,Mo,fO,asIntOf,run_underlying e2,Cm,mf]
  ·cases hq
 ·rename_i i cs k n hi hx Ye;rw [hx] at rx;rw [Ye] at ri;have SA:Rel R w (.int k n) (a.eval ix):=ri;have dW:Rel R w (.agg cs) (a.eval x):=rx;generalize Mo:a.eval ix=iv at SA;generalize fO:a.eval x=xv at dW;cases SA;cases dW with
  | @agg _ vs hr h1=>
  obtain ⟨hU,u,e1,e2,e3,e4,e5,e6⟩:=ck E hi;split at hq
  ·rename_i len esz ag hk;rw [hk] at e5;obtain ⟨e,ie,ue,rfl,f1,f2,f3,f4⟩:=qZ e5;split at hq
   ·rename_i v' T0;injection hq with hq;injection hq with yh qK;subst qK;have fA:=of_decide_eq_true yh;have key:∃ c,(part e ⟨vs⟩ (n.toNat * esz)).run E.P w=.ok c w∧Rel R w v' c:=by
     split at T0
     ·rename_i Du;split at T0
      ·rename_i l hl;exact pd f1 f3 (l:=l) hr h1 (fun _=>⟨by rw [f2]; exact hl,T0⟩) (fun hf=>by rw [f4,Du] at hf; cases hf)
      ·cases T0
     ·rename_i Du;split at T0
      ·rename_i l hl;exact pd f1 f3 (l:=l) hr h1 (fun hf=>by rw [f4] at hf; exact absurd hf Du) (fun _=>⟨hl,T0⟩)
      ·cases T0
    obtain ⟨c,k1,k2⟩:=key;refine au h ?_ k2;simp [execOp,ho,Instr.index,Mo,fO,asIntOf,run_underlying e2,fA,run_sizeOf w f1,f2,k1]
   ·cases hq
  ·cases hq
 ·cases hq
theorem Dv (h:aY E R w β s a) (x:Operand) (j:Nat) (ho:o.op=.extract x j) {vs:List AV} {v:AV} (hx:bG E s.ab x=.v (.bP vs)) (hn:nth vs j=some v) :
  bQ E R w β s a o (s.put o.dst (.v v)):=by
 have rx:=aV h x;rw [hx] at rx;have dW:Rel R w (.bP vs) (a.eval x):=rx;generalize fO:a.eval x=xv at dW;cases dW with
 | @bP _ us hr=>
 rw [aN] at hn;obtain ⟨c,h1,h2⟩:=hr.get hn;refine au h ?_ h2;simp [execOp,ho,Instr.extract,fO,h1]
theorem fP (h:aY E R w β s a):∀ {l:List Operand} {vs:List AV},nL E s.ab l=some vs→aL R w vs (l.map a.eval)
 |[],vs,hl=>by simp [nL] at hl; subst hl; exact .nil
 |x :: l,vs,hl=>by
  unfold nL at hl;split at hl
  ·rename_i v r h1 h2;cases hl;have:=aV h x;rw [h1] at this;exact .cons this (fP h h2)
  ·cases hl
theorem BN (h:aY E R w β s a) (g:FuncId) (x y:Array Operand) (ho:o.op=.makeFunc (.func g) x y) {p q:List AV} (hp:nL E s.ab x.toList=some p) (hq:nL E s.ab y.toList=some q) :
  bQ E R w β s a o (s.put o.dst (.v (.fn g p q))):=by
 have h1:=fP h hp;have h2:=fP h hq;refine au h (c:=.func (.func g) ⟨x.toList.map a.eval⟩ ⟨y.toList.map a.eval⟩) ?_ (Rel.fn h1 h2);have e1:x.map a.eval=⟨x.toList.map a.eval⟩:=aa6 (by simp);have e2:y.map a.eval=⟨y.toList.map a.eval⟩:=aa6 (by simp);simp [execOp,ho,Instr.makeFunc,e1,e2]
end ops
end Go.Am
namespace Go.Am
open Go
section ops
variable {E:Env} {R:ai} {w:World} {β:Nat→Nat} {s:St} {a:Act} {o:Oper}
theorem size_bytes (l:List UInt8):(⟨⟨l⟩⟩:ByteArray).size=l.length:=rfl
theorem uA (l:List UInt8):(⟨⟨l⟩⟩:ByteArray).toList=l:=by rw [ByteArray.toList_eq]
theorem Dw (l r:List UInt8):((⟨⟨l⟩⟩:ByteArray)++⟨⟨r⟩⟩)=⟨⟨l++r⟩⟩:=by
 apply ByteArray.ext;rw [ByteArray.data_append];simp
theorem Ku (op:BinOp) (t:TypeId) (x y:Operand) (k k':IntKind) (n m:Int):(eqGuard op t x y (.int k n) (.int k' m)).run E.P w=.ok () w:=by
 unfold eqGuard;cases op <;> rfl
theorem Kv (op:BinOp) (t:TypeId) (x y:Operand) (n m:ByteArray):(eqGuard op t x y (.string n) (.string m)).run E.P w=.ok () w:=by
 unfold eqGuard;cases op <;> rfl
theorem Hc (h:aY E R w β s a) (op:BinOp) (t u:TypeId) (x y:Operand) (ho:o.op=.binOp op t x y u) {p q v:AV} (hx:bG E s.ab x=.v p) (hy:bG E s.ab y=.v q) (hv:EM op p q=some (true,v)) :
  bQ E R w β s a o (s.put o.dst (.v v)):=by
 have rx:=aV h x;have ry:=aV h y;rw [hx] at rx;rw [hy] at ry;have dW:Rel R w p (a.eval x):=rx;have qQ:Rel R w q (a.eval y):=ry;have key:∃ c,(do eqGuard op t x y (a.eval x) (a.eval y); binOp op t (a.eval x) (a.eval y):Sem Value).run E.P w=.ok c w∧Rel R w v c:=by
  generalize fO:a.eval x=xv at dW;generalize Xw:a.eval y=yv at qQ;unfold EM at hv;split at hv
  ·rename_i k n k' m;cases dW;cases qQ;simp only [aas,Ku,aap];split at hv
   ·injection hv with hv;injection hv with h1 h2;subst h2;have hm:=of_decide_eq_true h1;have Pv:¬ m < 0:=by omega
    exact ⟨.int k (k.wrap (n * 2 ^ (min m.toNat k.bits))),by simp [binOp,Op.shift,Pv],.int _ _⟩
   ·injection hv with hv;injection hv with h1 h2;subst h2;have hm:=of_decide_eq_true h1;have Pv:¬ m < 0:=by omega
    exact ⟨.int k (n.fdiv (2 ^ (min m.toNat k.bits))),by simp [binOp,Op.shift,Pv],.int _ _⟩
   ·rename_i O2 hs2;split at hv
    ·rename_i G9;subst G9;split at hv
     ·cases hv; exact ⟨.int k (k.wrap (n+m)),by simp [binOp,aa1],.int _ _⟩
     ·cases hv; exact ⟨.int k (k.wrap (n - m)),by simp [binOp,aa1],.int _ _⟩
     ·cases hv; exact ⟨.int k (k.wrap (n * m)),by simp [binOp,aa1],.int _ _⟩
     ·injection hv with hv;injection hv with h1 h2;subst h2;have hm:¬ m=0:=by simpa using h1
      exact ⟨.int k (k.wrap (n.tdiv m)),by simp [binOp,Op.intDiv,hm],.int _ _⟩
     ·injection hv with hv;injection hv with h1 h2;subst h2;have hm:¬ m=0:=by simpa using h1
      exact ⟨.int k (n.tmod m),by simp [binOp,Op.intDiv,hm],.int _ _⟩
     ·cases hv; exact ⟨.int k (TP k n m),by simp [binOp,Op.intBits,TP],.int _ _⟩
     ·cases hv; exact ⟨.int k (orI k n m),by simp [binOp,Op.intBits,orI],.int _ _⟩
     ·cases hv; exact ⟨.int k (TQ k n m),by simp [binOp,Op.intBits,TQ],.int _ _⟩
     ·cases hv; exact ⟨.bool (n == m),by simp [binOp,aaX],.bool _⟩
     ·cases hv; exact ⟨.bool (n != m),by simp [binOp,aaX],.bool _⟩
     ·cases hv; exact ⟨.bool (decide (n < m)),by simp [binOp,aaX],.bool _⟩
     ·cases hv; exact ⟨.bool (decide (n≤m)),by simp [binOp,aaX],.bool _⟩
     ·cases hv; exact ⟨.bool (decide (n > m)),by simp [binOp,aaX],.bool _⟩
     ·cases hv; exact ⟨.bool (decide (n≥m)),by simp [binOp,aaX],.bool _⟩
     ·cases hv
    ·cases hv
  ·rename_i l r;cases dW;cases qQ;simp only [aas,Kv,aap];split at hv
   ·injection hv with hv;injection hv with h1 h2;subst h2;have hm:=of_decide_eq_true h1;refine ⟨.string ⟨⟨l++r⟩⟩,?_,.str _⟩;have T1:¬ ((l.length+r.length:Nat):Int) > IntKind.i64.max:=by
     have:IntKind.i64.max=9223372036854775807:=by decide
     omega
    simp only [binOp,aaR,size_bytes,if_neg T1,Dw,aaS]
   ·cases hv; exact ⟨.bool (l == r),by simp [binOp,aaR],.bool _⟩
   ·cases hv; exact ⟨.bool (!(l == r)),by simp [binOp,aaR],.bool _⟩
   ·cases hv; exact ⟨.bool (aa0 l r),by simp [binOp,aaR],.bool _⟩
   ·cases hv; exact ⟨.bool (aa0 l r || l == r),by simp [binOp,aaR],.bool _⟩
   ·cases hv; exact ⟨.bool (!(aa0 l r || l == r)),by simp [binOp,aaR],.bool _⟩
   ·cases hv; exact ⟨.bool (!(aa0 l r)),by simp [binOp,aaR],.bool _⟩
   ·cases hv
  ·cases hv
 obtain ⟨c,k1,k2⟩:=key;refine au h (c:=c) ?_ k2;simp only [aas] at k1;simp only [execOp,ho,aas,k1,aap,aaS]
theorem mz {t:TypeId} {i:TypeInfo} {u:TypeDesc} (h1:E.P.info? t=some i) (h2:E.P.underlying t=some u) {off:Nat} {cs:List AV} {vs:List Value} {v:AV} (hr:aL R w cs vs) (h3:∀ x∈vs,x.oneCell'=true)
  (h:IV (lC u) off i.size cs=some v):∃ c,(part t ⟨vs⟩ off).run E.P w=.ok c w∧Rel R w v c:=by
 unfold IV at h;cases ha:lC u with
 |true=>
  rw [ha] at h;simp only [if_true] at h;split at h
  ·rename_i l hl;exact pd h1 h2 hr h3 (fun _=>⟨hl,h⟩) (fun e=>by rw [ha] at e; cases e)
  ·cases h
 |false=>
  rw [ha] at h;simp only [aaW,if_false] at h;split at h
  ·rename_i l hl;exact pd h1 h2 hr h3 (fun e=>by rw [ha] at e; cases e) (fun _=>⟨hl,h⟩)
  ·cases h
theorem ES {ek:TypeId→EK} {d:Nat} (ih:∀ (t:TypeId) (a b:AV) (r:Bool) (x y:Value),nK (ek t) a b=some r→Rel R w a x→Rel R w b y→(aa7 d t x y).run E.P w=.ok r w) {xs ys:List AV} {vs us:List Value}
  (hx:aL R w xs vs) (v7:∀ x∈vs,x.oneCell'=true) (hy:aL R w ys us) (Pw:∀ x∈us,x.oneCell'=true) :
  ∀ (fs:List Field) (l:Sw) (r:Bool),GQ E.P ek fs=some l→vW l xs ys=some r→(Op.eqFields d ⟨vs⟩ ⟨us⟩ fs).run E.P w=.ok r w
 |[],l,r,hl,hr=>by
  simp [GQ] at hl;subst hl;simp [vW] at hr;subst hr;rfl
 |f :: fs,l,r,hl,hr=>by
  unfold GQ at hl;split at hl
  ·cases hl
  ·rename_i hn;split at hl
   ·rename_i i u l' h1 h2 h3;cases hl;unfold vW at hr;split at hr
    ·rename_i a b ha hb;split at hr
     ·rename_i p q hp hq;cases hr;obtain ⟨c,k1,k2⟩:=mz h1 h2 hx v7 ha;obtain ⟨c',k3,k4⟩:=mz h1 h2 hy Pw hb;have cq : f.name ≠ "_" := by simpa using hn
      have he:=ih f.type a b p c c' hp k2 k4;have zt:=ES ih hx v7 hy Pw fs l' q h3 hq;simp only [Op.eqFields,cq,ne_eq,not_false_eq_true,if_true,aas,k1,k3,he,aap];cases p with
      |true=>simp [zt]
      |false=>simp
     ·cases hr
    ·cases hr
   ·cases hl
theorem Cn {ek:EK} {d:Nat} {e:TypeId} {i:TypeInfo} {u:TypeDesc} (h1:E.P.info? e=some i) (h2:E.P.underlying e=some u) (ih:∀ (a b:AV) (r:Bool) (x y:Value),nK ek a b=some r→Rel R w a x→Rel R w b y→(aa7 d e x y).run E.P w=.ok r w) {xs ys:List AV} {vs us:List Value}
  (hx:aL R w xs vs) (v7:∀ x∈vs,x.oneCell'=true) (hy:aL R w ys us) (Pw:∀ x∈us,x.oneCell'=true) :
  ∀ (m k:Nat) (r:Bool),vW (zf i.size (lC u) ek m k) xs ys=some r→(Op.eqItems d e i.size ⟨vs⟩ ⟨us⟩ (List.range' k m)).run E.P w=.ok r w
 |0,k,r,hr=>by
  simp [zf,vW] at hr;subst hr;rfl
 |m+1,k,r,hr=>by
  unfold zf vW at hr;split at hr
  ·rename_i a b ha hb;split at hr
   ·rename_i p q hp hq;cases hr;obtain ⟨c,k1,k2⟩:=mz h1 h2 hx v7 ha;obtain ⟨c',k3,k4⟩:=mz h1 h2 hy Pw hb;have he:=ih a b p c c' hp k2 k4;have zt:=Cn h1 h2 ih hx v7 hy Pw m (k+1) q hq;simp only [List.range'_succ,Op.eqItems,aas,k1,k3,he,aap];cases p with
    |true=>simpa using zt
    |false=>simp
   ·cases hr
  ·cases hr
theorem Dx:∀ (n d:Nat),n≤d→∀ (t:TypeId) (a b:AV) (r:Bool) (x y:Value),nK (sO E.P n t) a b=some r→Rel R w a x→Rel R w b y→(aa7 d t x y).run E.P w=.ok r w
 |0,_,_,t,a,b,r,x,y,h,_,_=>by simp [sO,nK] at h
 |n+1,0,hd,_,_,_,_,_,_,_,_,_=>by omega
 |n+1,d+1,hd,t,a,b,r,x,y,h,hx,hy=>by
  unfold sO at h;split at h
  ·rename_i hu;unfold nK at h;split at h
   all_goals (try contradiction)
   cases hx; cases hy; cases h;exact run_equalIn_bool' w d t _ _ hu
  ·rename_i k hu;unfold nK at h;split at h
   all_goals (try contradiction)
   split at h
   ·rename_i hk;subst hk;cases hx; cases hy; cases h;exact run_equalIn_int w d t _ k _ _ hu
   ·cases h
  ·rename_i hu;unfold nK at h;split at h
   all_goals (try contradiction)
   cases hx; cases hy; cases h;rw [run_equalIn_string w d t _ _ hu,uA,uA]
  ·rename_i fs hu;split at h
   ·simp [nK] at h
   ·rename_i hs;split at h
    ·rename_i l hl;unfold nK at h;split at h
     all_goals (try contradiction)
     rename_i Dr xs ys hk;cases hk;cases hx with
     |agg hx v7=>
     cases hy with
     |agg hy Pw=>
     have hf:E.P.fieldsOf t=fs:=by simp [Program.fieldsOf,hu]
     rw [run_equalIn_struct w d t _ _ (by rw [hf]; exact hu) (by simpa using hs),hf];exact ES (fun t a b r x y=>Dx n d (by omega) t a b r x y) hx v7 hy Pw fs.toList _ r hl h
    ·simp [nK] at h
  ·rename_i m e hu;split at h
   ·rename_i i ud g1 g2;unfold nK at h;split at h
    all_goals (try contradiction)
    rename_i Dr xs ys hk;cases hk;cases hx with
    |agg hx v7=>
    cases hy with
    |agg hy Pw=>
    have sQ:E.P.cellsOf e=i.size:=by simp [Program.cellsOf,g1]
    rw [run_equalIn_array (P:=E.P) w d _ _ hu g1,sQ,List.range_eq_range'];exact Cn g1 g2 (fun a b r x y=>Dx n d (by omega) e a b r x y) hx v7 hy Pw m 0 r h
   ·simp [nK] at h
  ·simp [nK] at h
theorem mA {t:TypeId} {i:TI} (hi:E.ti t=some i) {p q:AV} {r:Bool} {x y:Value} (h:nK i.ek p q=some r) (hx:Rel R w p x) (hy:Rel R w q y) :
  (aa7 10000 t x y).run E.P w=.ok r w∧((∃ b c,x=.bool b∧y=.bool c)∨(∃ k n k' m,x=.int k n∧y=.int k' m)∨(∃ n m,x=.string n∧y=.string m)∨(∃ n m,x=.agg n∧y=.agg m∧E.P.eqGuardType E.P.depth t=false)):=by
 have Co:i.ek=xh E.P t:=by
  have:=E.Kf t i hi;unfold Ke at this;split at this
  ·split at this
   ·cases this; rfl
   ·cases this
  ·cases this
 rw [Co] at h;have hg:nK (sO E.P 6 t) p q=some r∧((∃ l,sO E.P 6 t=.st l)→E.P.eqGuardType E.P.depth t=false):=by
  unfold xh at h;split at h
  ·rename_i l hl;split at h
   ·simp [nK] at h
   ·rename_i O3;exact ⟨by rw [hl]; exact h,fun _=>by simpa using O3⟩
  ·rename_i k hk;exact ⟨h,fun ⟨l,hl⟩=>absurd hl (hk l)⟩
 refine ⟨Dx 6 10000 (by omega) t p q r x y hg.1 hx hy,?_⟩;have h2:=hg.1;have h3:=hg.2;generalize sO E.P 6 t=k at h2 h3;unfold nK at h2;split at h2
 ·cases hx; cases hy; exact .inl ⟨_,_,rfl,rfl⟩
 ·cases hx; cases hy; exact .inr (.inl ⟨_,_,_,_,rfl,rfl⟩)
 ·cases hx; cases hy; exact .inr (.inr (.inl ⟨_,_,rfl,rfl⟩))
 ·cases hx; cases hy; exact .inr (.inr (.inr ⟨_,_,rfl,rfl,h3 ⟨_,rfl⟩⟩))
 ·cases h2
theorem Mp (h:aY E R w β s a) (op:BinOp) (t u:TypeId) (x y:Operand) (ho:o.op=.binOp op t x y u) {p q:AV} {r:Bool} (hx:bG E s.ab x=.v p) (hy:bG E s.ab y=.v q) (hb:EM op p q=none) (hv:eqO E op t p q=some r) :
  bQ E R w β s a o (s.put o.dst (.v (.bool r))):=by
 have rx:=aV h x;have ry:=aV h y;rw [hx] at rx;rw [hy] at ry;have dW:Rel R w p (a.eval x):=rx;have qQ:Rel R w q (a.eval y):=ry;have key:(do eqGuard op t x y (a.eval x) (a.eval y); binOp op t (a.eval x) (a.eval y):Sem Value).run E.P w=.ok (.bool r) w:=by
  generalize fO:a.eval x=xv at dW;generalize Xw:a.eval y=yv at qQ;unfold eqO at hv;split at hv
  ·rename_i i hi;obtain ⟨k1,k2⟩:=mA hi hv dW qQ;rcases k2 with ⟨b,c,rfl,rfl⟩|⟨k,n,k',m,rfl,rfl⟩|⟨n,m,rfl,rfl⟩|⟨n,m,rfl,rfl,hg⟩
   ·have Hd:(eqGuard .eql t x y (.bool b) (.bool c)).run E.P w=.ok () w:=rfl;simp [Hd,binOp,Op.equal,Op.maxDepth,k1]
   ·cases dW; cases qQ; simp [EM] at hb;cases hk:i.ek <;> simp [hk,nK] at hv;exact absurd hv.1 hb
   ·cases dW; cases qQ; simp [EM] at hb
   ·simp only [aas,run_eqGuard_agg w _ t x y n m hg,aap,run_eql_struct,k1]
  ·rename_i i hi;split at hv
   ·rename_i r' ky;cases hv;obtain ⟨k1,k2⟩:=mA hi ky dW qQ;rcases k2 with ⟨b,c,rfl,rfl⟩|⟨k,n,k',m,rfl,rfl⟩|⟨n,m,rfl,rfl⟩|⟨n,m,rfl,rfl,hg⟩
    ·have Hd:(eqGuard .neq t x y (.bool b) (.bool c)).run E.P w=.ok () w:=rfl;simp [Hd,binOp,Op.equal,Op.maxDepth,k1]
    ·cases dW; cases qQ; simp [EM] at hb;cases hk:i.ek <;> simp [hk,nK] at ky;exact absurd ky.1 hb
    ·cases dW; cases qQ; simp [EM] at hb
    ·simp only [aas,run_eqGuard_agg w _ t x y n m hg,aap,run_neq_struct,k1]
   ·cases hv
  ·cases hv
 refine au h (c:=.bool r) ?_ (.bool r);simp only [aas] at key;simp only [execOp,ho,aas,key,aap,aaS]
theorem ET {p:AV} {r:Bool} {x:Value} (hv:Po p=some r) (hx:Rel R w p x):(slA p=true∧∃ a n c,x=.slice a n c∧a.isNone=r)∨(slA p=false∧∃ a,x=.pointer a∧a.isNone=r):=by
 unfold Po at hv;split at hv
 ·cases hv;cases hx with
  |jZ=>exact .inl ⟨rfl,_,_,_,rfl,rfl⟩
  |list _ _ _ hk=>exact hk.elim
 ·cases hv;cases hx with
  |list _ _ _ _=>exact .inl ⟨rfl,_,_,_,rfl,rfl⟩
 ·cases hv;cases hx with
  |list _ _ _ _=>exact .inl ⟨rfl,_,_,_,rfl,rfl⟩
 ·cases hv;cases hx with
  |jV _ _=>exact .inl ⟨rfl,_,_,_,rfl,rfl⟩
 ·cases hv;cases hx with
  |de _ _ _=>exact .inl ⟨rfl,_,_,_,rfl,rfl⟩
 ·cases hv;cases hx;exact .inr ⟨rfl,_,rfl,rfl⟩
 ·cases hv;cases hx with
  |ptr _=>exact .inr ⟨rfl,_,rfl,rfl⟩
 ·cases hv;cases hx with
  |ep _=>exact .inr ⟨rfl,_,rfl,rfl⟩
 ·cases hv
theorem zu {p:AV} {b:Bool} {x:Value} (hv:GX p=some b) (hx:Rel R w p x):(b=true∧x=.slice none 0 0)∨(b=false∧x=.pointer none):=by
 unfold GX at hv;split at hv
 ·cases hv;cases hx with
  |jZ=>exact .inl ⟨rfl,rfl⟩
  |list _ _ _ hk=>exact hk.elim
 ·cases hv;cases hx;exact .inr ⟨rfl,rfl⟩
 ·cases hv
theorem Px {P:Program} {t:TypeId} (h:TT P t=true):∃ e,P.underlying t=some (.slice e):=by
 unfold TT at h;split at h
 ·rename_i e he; exact ⟨e,he⟩
 ·cases h
theorem Py {P:Program} {t:TypeId} (h:TU P t=true):P.underlying t=some (.pointer (P.pointee t)):=by
 unfold TU at h;split at h
 ·rename_i e he;unfold Program.pointee;rw [he]
 ·cases h
theorem Kw (h:aY E R w β s a) (op:BinOp) (t u:TypeId) (x y:Operand) (ho:o.op=.binOp op t x y u) {p q:AV} {r:Bool} (hx:bG E s.ab x=.v p) (hy:bG E s.ab y=.v q) (hv:TV E op t p q=some r) :
  bQ E R w β s a o (s.put o.dst (.v (.bool r))):=by
 have rx:=aV h x;rw [hx] at rx;have ry:=aV h y;rw [hy] at ry;have dW:Rel R w p (a.eval x):=rx;have qQ:Rel R w q (a.eval y):=ry;have key:(do eqGuard op t x y (a.eval x) (a.eval y); binOp op t (a.eval x) (a.eval y):Sem Value).run E.P w=.ok (.bool r) w:=by
  generalize fO:a.eval x=xv at dW;generalize Xw:a.eval y=yv at qQ;have two:∀ {r0:Bool},Po p=some r0→xl E.P t p q=true→(∃ a n c e,xv=.slice a n c∧yv=.slice none 0 0∧a.isNone=r0∧E.P.underlying t=some (.slice e))∨(∃ a,xv=.pointer a∧yv=.pointer none∧a.isNone=r0∧E.P.underlying t=some (.pointer (E.P.pointee t))):=by
   intro r0 h1 h2;unfold xl at h2;split at h2
   ·rename_i hb;rw [aal] at h2;obtain ⟨e,he⟩:=Px h2.2;rcases zu hb qQ with ⟨_,rfl⟩|⟨hf,_⟩
    ·rcases ET h1 dW with ⟨_,a,n,c,rfl,hn⟩|⟨hs,_⟩
     ·exact .inl ⟨a,n,c,e,rfl,rfl,hn,he⟩
     ·rw [h2.1] at hs; cases hs
    ·cases hf
   ·rename_i hb;rw [aal] at h2;have hp:=Py h2.2;rcases zu hb qQ with ⟨hf,_⟩|⟨_,rfl⟩
    ·cases hf
    ·rcases ET h1 dW with ⟨hs,_⟩|⟨_,a,rfl,hn⟩
     ·rw [hs] at h2; cases h2.1
     ·exact .inr ⟨a,rfl,rfl,hn,hp⟩
   ·cases h2
  unfold TV at hv;split at hv
  ·rename_i r0 h1;obtain ⟨h2,h3⟩:xl E.P t p q=true∧_:=by
    cases h2:xl E.P t p q with
    |false=>rw [h2] at hv; cases hv
    |true=>rw [h2] at hv; exact ⟨rfl,abe hv⟩
   subst h3;rcases two h1 h2 with ⟨a,n,c,e,rfl,rfl,hn,he⟩|⟨a,rfl,rfl,hn,hp⟩
   ·have hg:(eqGuard .eql t x y (.slice a n c) (.slice none 0 0)).run E.P w=.ok () w:=rfl;simp only [aas,hg,aap,Lib.run_eql_slice_nil w t e a n c 0 0 he,hn]
   ·have hg:(eqGuard .eql t x y (.pointer a) (.pointer none)).run E.P w=.ok () w:=rfl;simp only [aas,hg,aap,run_eql_pointer_nil w t a hp,hn]
  ·rename_i r0 h1;obtain ⟨h2,h3⟩:xl E.P t p q=true∧_:=by
    cases h2:xl E.P t p q with
    |false=>rw [h2] at hv; cases hv
    |true=>rw [h2] at hv; exact ⟨rfl,abe hv⟩
   subst h3;rcases two h1 h2 with ⟨a,n,c,e,rfl,rfl,hn,he⟩|⟨a,rfl,rfl,hn,hp⟩
   ·have hg:(eqGuard .neq t x y (.slice a n c) (.slice none 0 0)).run E.P w=.ok () w:=rfl;simp only [aas,hg,aap,run_neq_slice_nil w t e a n c he,hn]
   ·have hg:(eqGuard .neq t x y (.pointer a) (.pointer none)).run E.P w=.ok () w:=rfl;simp only [aas,hg,aap,run_neq_pointer_nil w t a hp,hn]
  ·cases hv
 refine au h (c:=.bool r) ?_ (.bool r);simp only [aas] at key;simp only [execOp,ho,aas,key,aap,aaS]
theorem Mq (h:aY E R w β s a) (t:TypeId) (x:Operand) (ho:o.op=.unOp .not t x) {b:Bool} (hx:bG E s.ab x=.v (.bool b)):bQ E R w β s a o (s.put o.dst (.v (.bool (!b)))):=by
 have rx:=aV h x;rw [hx] at rx;have dW:Rel R w (.bool b) (a.eval x):=rx;generalize fO:a.eval x=xv at dW;cases dW;refine au h (c:=.bool (!b)) ?_ (Rel.bool _);simp [execOp,ho,Op.unary,fO]
theorem Mr (h:aY E R w β s a) (t:TypeId) (x:Operand) (ho:o.op=.unOp .neg t x) {k:IntKind} {n:Int} (hx:bG E s.ab x=.v (.int k n)):bQ E R w β s a o (s.put o.dst (.v (.int k (k.wrap (0 - n))))):=by
 have rx:=aV h x;rw [hx] at rx;have dW:Rel R w (.int k n) (a.eval x):=rx;generalize fO:a.eval x=xv at dW;cases dW;refine au h (c:=.int k (k.wrap (0 - n))) ?_ (Rel.int _ _);simp [execOp,ho,Op.unary,aa1,fO]
theorem Cp:∀ (us:List Value) (off j0:Nat) (cells:Array Value),off+j0+us.length≤cells.size →
  ((us.zipIdx j0).foldl (fun (cs:Array Value) (p:Value × Nat)=>cs.setIfInBounds (off+p.2) p.1) cells).toList=cells.toList.take (off+j0)++us++cells.toList.drop (off+j0+us.length)
 |[],off,j0,cells,_=>by simp
 |u :: us,off,j0,cells,h=>by
  have bW:off+j0 < cells.size:=by simp at h; omega
  have ih:=Cp us off (j0+1) (cells.setIfInBounds (off+j0) u) (by simp at h ⊢; omega);simp only [List.zipIdx_cons,List.foldl_cons];rw [ih];have e:=list_seg_step cells.toList (off+j0) u us (by simp at h ⊢; omega);simpa [Array.toList_setIfInBounds,aaY] using e
theorem ra (place:Nat→Option (Nat × Nat)):∀ {ps:List (Nat × AV)} {qs:List (Nat × Value)} {cells zw:List AV} {vs:List Value},
  aL R w (ps.map (·.2)) (qs.map (·.2))→ps.map (·.1)=qs.map (·.1)→aL R w cells vs→(∀ x∈vs,x.oneCell'=true)→xj place cells ps=some zw →
  ∃ us,Instr.fill place ⟨vs⟩ qs=some ⟨us⟩∧aL R w zw us∧∀ x∈us,x.oneCell'=true
 |[],qs,cells,zw,vs,h1,h2,h3,h4,h5=>by
  have:qs=[]:=by simpa using h2.symm
  subst this;simp [xj] at h5;subst h5;exact ⟨vs,rfl,h3,h4⟩
 |(i,v) :: ps,[],cells,zw,vs,h1,h2,h3,h4,h5=>by simp at h2
 |(i,v) :: ps,(j,c) :: qs,cells,zw,vs,h1,h2,h3,h4,h5=>by
  simp only [aa9,List.cons.injEq] at h2;obtain ⟨rfl,h2⟩:=h2;cases h1 with
  |cons hr h1=>
  unfold xj at h5;split at h5
  ·cases h5
  ·rename_i off sz hp;split at h5
   ·rename_i fA;simp only [aal] at fA;obtain ⟨⟨Kr,hlen⟩,hle⟩:=fA;have hlen:=aax hlen;have hle:=aaI hle;obtain ⟨c1,c2⟩:=Rel.cells hr Kr;have ED:c.cells.toList.length=sz:=by rw [← c1.length]; exact hlen
    have hb:off+v.cells.length≤cells.length:=by omega
    obtain ⟨us,u1,u2,u3⟩:=ra place h1 h2 (h3.bu c1 hb) (kw h4 c2) h5;refine ⟨us,?_,u2,u3⟩;have eR:c.cells.size=sz:=by simpa using ED
    have yM:vs.length=cells.length:=h3.length.symm;have Yf:c.cells.zipIdx.foldl (fun (cs:Array Value) (x:Value × Nat)=>cs.setIfInBounds (off+x.2) x.1) ⟨vs⟩=⟨vs.take off++c.cells.toList++vs.drop (off+c.cells.toList.length)⟩:=by
     apply aa6;rw [← Array.foldl_toList,Array.toList_zipIdx];have:=Cp c.cells.toList off 0 ⟨vs⟩ (by simp only [List.size_toArray]; omega);simpa using this
    have bI:(c.cells.size≠sz || decide (off+c.cells.size > (⟨vs⟩:Array Value).size))=false:=by
     have O2:decide (c.cells.size≠sz)=false:=by simp [eR]
     have hs2:decide (off+c.cells.size > (⟨vs⟩:Array Value).size)=false:=by
      rw [decide_eq_false_iff_not,eR];show ¬ off+sz > vs.length;omega
     rw [O2,hs2];rfl
    unfold Instr.fill;simp only [hp,bI,aaW,if_false];rw [← u1];exact congrArg (fun z=>Instr.fill place z qs) Yf
   ·cases h5
theorem yN (h:aY E R w β s a):∀ {l:List (Nat × Operand)} {ps:List (Nat × AV)},O0 E s.ab l=some ps →
  aL R w (ps.map (·.2)) ((l.map fun x=>(x.1,a.eval x.2)).map (·.2))∧ps.map (·.1)=(l.map fun x=>(x.1,a.eval x.2)).map (·.1)
 |[],ps,hl=>by simp [O0] at hl; subst hl; exact ⟨.nil,rfl⟩
 |(i,x) :: l,ps,hl=>by
  unfold O0 at hl;split at hl
  ·rename_i v r h1 h2;cases hl;have hx:=aV h x;rw [h1] at hx;obtain ⟨g1,g2⟩:=yN h h2;exact ⟨.cons hx g1,by simpa using g2⟩
  ·cases hl
theorem He (h:aY E R w β s a) (t:TypeId) (parts:Array (Nat × Operand)) (ho:o.op=.build t parts) {v:AV} (hv:pO E s t parts.toList=some v) :
  bQ E R w β s a o (s.put o.dst (.v v)):=by
 unfold pO at hv;split at hv
 ·rename_i i ps hi LS;split at hv
  ·rename_i z hz;split at hv
   ·rename_i cs sQ;split at hv
    ·rename_i Du;cases hv;simp only [aal] at Du;obtain ⟨Du,mg⟩:=Du;obtain ⟨hU,u,e1,e2,e3,e4,e5,e6⟩:=ck E hi;rw [hz] at e6;obtain ⟨zc,lF,BO⟩:=dK e6;obtain ⟨p1,p2⟩:=yN h LS;obtain ⟨c1,c2⟩:=Rel.cells (BO R w) mg;have T2:(parts.map fun (x:Nat × Operand)=>(x.1,a.eval x.2)).toList=parts.toList.map fun x=>(x.1,a.eval x.2):=by simp
     have key:∃ us,E.P.built t (parts.toList.map fun x=>(x.1,a.eval x.2))=some ⟨us⟩∧aL R w cs us∧∀ x∈us,x.oneCell'=true:=by
      cases u <;> simp only [lC] at e4 <;> first | (rw [Du] at e4; cases e4; done) | skip
      ·rename_i n e;simp only [sN] at e5;split at e5
       ·rename_i ie ue f1 f2;injection e5 with e5;rw [← e5] at sQ;obtain ⟨us,u1,u2,u3⟩:=ra (R:=R) (w:=w) _ p1 p2 c1 c2 sQ;refine ⟨us,?_,u2,u3⟩;unfold Program.built;simp only [e1,e2,lF,f1];rw [← u1];rfl
       ·cases e5
      ·rename_i fs;simp only [sN] at e5;split at e5
       ·rename_i l hl;injection e5 with e5;rw [← e5] at sQ;obtain ⟨us,u1,u2,u3⟩:=ra (R:=R) (w:=w) _ p1 p2 c1 c2 sQ;refine ⟨us,?_,u2,u3⟩;unfold Program.built;simp only [e1,e2,lF,qz hl];rw [← u1];have Xx:placeOf (.st l)=fun j=>(l.map fun x=>(x.1,x.2.1)).toArray[j]?:=by
         funext j;simp only [placeOf,aN,List.getElem?_toArray,List.getElem?_map];cases l[j]? <;> rfl
        rw [Xx]
       ·cases e5
     obtain ⟨us,u1,u2,u3⟩:=key;refine au h (c:=.agg ⟨us⟩) ?_ (Rel.agg u2 u3);have bp:=run_build (P:=E.P) w t (parts.map fun (x:Nat × Operand)=>(x.1,a.eval x.2)) ⟨us⟩ (by rw [T2]; exact u1);simp only [execOp,ho,aas,bp,aap,aaS]
    ·cases hv
   ·cases hv
  ·cases hv
 ·cases hv
end ops
end Go.Am
