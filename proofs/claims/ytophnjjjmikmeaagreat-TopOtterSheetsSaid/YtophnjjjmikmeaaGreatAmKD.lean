/- The abstract machine: what it does is what the model does: append. -/
import Derived.Test.YtophnjjjmikmeaaGreatAmKC
set_option linter.all false
namespace Go.Am
open Go
section ops
variable {E:Env} {R:af} {w:World} {β:Nat→Nat} {s:St} {a:Act} {o:Oper}
def af.upto (R:af) (g n:Nat) (obj:List RO):af:=⟨fun b o=>R.I b o∨(b=g∧o < n),obj⟩
theorem ap {l:List RO} {id i:Nat} {x r y:RO} (X1:nth l id=some y) (h:nth (au l id x) i=some r):(i=id∧r=x)∨(i≠id∧nth l i=some r):=by
 rcases bK h with ⟨rfl,rfl,_⟩ | ⟨bW,h⟩
 ·exact .inl ⟨rfl,rfl⟩
 ·exact .inr ⟨Ne.symm bW,h⟩
theorem Cl (wf:∀ b o,R.I b o→b < w.heap.size) (x:Obj) (n:Nat) (ro:RO):Ext R w (R.upto w.heap.size n (R.obj++[ro])) (w.drew.alloc x):=
 ⟨fun _ _ h=>.inl h,fun b o h=>bo (heap_alloc_old w.drew x b (wf b o h)) o,fun _ r h=>⟨r,bf h,bI.refl r⟩,.old fun b hb=>heap_alloc_old w.drew x b hb⟩
theorem Cm (wf:∀ b o,R.I b o→b < w.heap.size) (x:Obj) {n id m:Nat} {r0:RO} (hid:nth R.obj id=some r0) (b' c':Nat) (bM:bI r0 (.tok m b' c' 0)):Ext R w (R.upto w.heap.size n (au R.obj id (.tok m b' c' 0))) (w.drew.alloc x):=
 ⟨fun _ _ h=>.inl h,fun b o h=>bo (heap_alloc_old w.drew x b (wf b o h)) o,fun i r h=>by
  by_cases e:id=i
  ·subst e
   rw [hid] at h
   cases h
   exact ⟨_,aj hid,bM⟩
  ·exact ⟨r,by rw [af.upto,aB e]; exact h,bI.refl r⟩,.old fun b hb=>heap_alloc_old w.drew x b hb⟩
theorem aL.MZ (h:aL E R w β s a) {cur:Array Value} {elem:TypeId} {n sz cap:Nat} (hn:n≤cap) (hm:cap≤maxLen) (hs:cur.size=cap * sz) :
  aL E (R.upto w.heap.size (n * sz) (R.obj++[.tok n w.heap.size cap 0])) (w.drew.alloc (.cells cur elem)) β (s.cU (.tok n sz elem)) a ∧
  Step R w β s.boxes (R.upto w.heap.size (n * sz) (R.obj++[.tok n w.heap.size cap 0])) (w.drew.alloc (.cells cur elem)) β s.boxes:=by
 have e:=Cl (R:=R) (w:=w) h.g.wf (.cells cur elem) (n * sz) (.tok n w.heap.size cap 0)
 have old:∀ b,b < w.heap.size→(w.drew.alloc (.cells cur elem)).heap[b]?=w.heap[b]?:=fun b hb=>heap_alloc_old w.drew _ b hb
 have new:(w.drew.alloc (.cells cur elem)).heap[w.heap.size]?=some (.cells cur elem (0,0)):=heap_alloc_new w.drew _
 have hI:∀ b o,b < w.heap.size→(R.upto w.heap.size (n * sz) (R.obj++[.tok n w.heap.size cap 0])).I b o→R.I b o:=fun b o hb hi=>by
  rcases hi with hi | ⟨hi,_⟩
  ·exact hi
  ·omega
 refine ⟨⟨⟨by simp [St.cU,af.upto,h.g.len],fun id g r h1 h2=>?_,fun i j ri rj b h1 h2 b1 b2=>?_,fun b o hi=>?_,fun g cs hg=>(h.g.cG g cs hg).mono e,by first | exact h.g.lo | exact Nat.le_succ_of_le h.g.lo⟩,?_,h.t.mono e,h.n,h.d.mono e⟩,?_⟩
 ·rcases ah h2 with h2 | ⟨h3,rfl⟩
  ·have bM:=aQ h2
   rw [h.g.len] at bM
   rcases ah h1 with h1 | ⟨h4,_⟩
   ·exact (h.g.obj id g r h1 h2).mono e (fun b hb=>old b (h.g.bq ⟨id,r,h2,hb⟩)) (fun b o hb=>hI b o (h.g.bq ⟨id,r,h2,hb⟩))
   ·omega
  ·rcases ah h1 with h1 | ⟨h4,rfl⟩
   ·have:=aQ h1
    rw [h3,h.g.len] at this
    omega
   ·refine ⟨rfl,cur,new,hn,hm,by omega,fun o' nT hi=>?_⟩
    rcases hi with hi | ⟨_,hi⟩
    ·have:=h.g.wf _ _ hi
     omega
    ·omega
 ·rcases ah h1 with g1 | ⟨h3,e1⟩
  ·rcases ah h2 with g2 | ⟨h4,e2⟩
   ·exact h.g.inj i j ri rj b g1 g2 b1 b2
   ·have:=h.g.bq ⟨i,ri,g1,b1⟩
    rw [e2] at b2
    simp [RO.has] at b2
    omega
  ·rcases ah h2 with g2 | ⟨h4,e2⟩
   ·have:=h.g.bq ⟨j,rj,g2,b2⟩
    rw [e1] at b1
    simp [RO.has] at b1
    omega
   ·omega
 ·rcases hi with hi | ⟨rfl,_⟩
  ·have:=h.g.wf b o hi
   simp
   omega
  ·simp
 ·refine h.b.bl e (fun k cs hk=>old _ (h.cI (.inr ⟨k,cs,hk,rfl⟩))) (fun k cs o hk=>hI _ o (h.cI (.inr ⟨k,cs,hk,rfl⟩))) (fun k cs hk hl=>?_)
  rcases hJ (R:=R) (ro:=.tok n w.heap.size cap 0) hl with hl | hl
  ·exact hl
  ·have:=h.cI (.inr ⟨k,cs,hk,rfl⟩)
   simp [RO.has] at hl
   omega
 ·refine ⟨e,rfl,rfl,rfl,by simp,fun b hb _=>old b hb,fun b hb ho=>?_,fun b o hi hb _=>hI b o hb hi⟩
  rcases ho with ho | ho
  ·rcases hJ (R:=R) (ro:=.tok n w.heap.size cap 0) ho with ho | ho
   ·exact .inl ho
   ·simp [RO.has] at ho
    omega
  ·exact .inr ho
theorem Ax (wf:∀ b o,R.I b o→b < w.heap.size) (x:Obj) (n:Nat) (ro:RO):Ext R w (R.upto w.heap.size n (R.obj++[ro])) (w.alloc x):=
 ⟨fun _ _ h=>.inl h,fun b o h=>bo (heap_alloc_old w x b (wf b o h)) o,fun _ r h=>⟨r,bf h,bI.refl r⟩,.old fun b hb=>heap_alloc_old w x b hb⟩
theorem aL.JN (h:aL E R w β s a) {cur:Array Value} {elem:TypeId} {n sz cap:Nat} (hn:n≤cap) (hm:cap≤maxLen) (hs:cur.size=cap * sz) :
  aL E (R.upto w.heap.size (n * sz) (R.obj++[.tok n w.heap.size cap 0])) (w.alloc (.cells cur elem)) β (s.cU (.tok n sz elem)) a ∧
  Step R w β s.boxes (R.upto w.heap.size (n * sz) (R.obj++[.tok n w.heap.size cap 0])) (w.alloc (.cells cur elem)) β s.boxes:=by
 have e:=Ax (R:=R) (w:=w) h.g.wf (.cells cur elem) (n * sz) (.tok n w.heap.size cap 0)
 have old:∀ b,b < w.heap.size→(w.alloc (.cells cur elem)).heap[b]?=w.heap[b]?:=fun b hb=>heap_alloc_old w _ b hb
 have new:(w.alloc (.cells cur elem)).heap[w.heap.size]?=some (.cells cur elem (0,0)):=heap_alloc_new w _
 have hI:∀ b o,b < w.heap.size→(R.upto w.heap.size (n * sz) (R.obj++[.tok n w.heap.size cap 0])).I b o→R.I b o:=fun b o hb hi=>by
  rcases hi with hi | ⟨hi,_⟩
  ·exact hi
  ·omega
 refine ⟨⟨⟨by simp [St.cU,af.upto,h.g.len],fun id g r h1 h2=>?_,fun i j ri rj b h1 h2 b1 b2=>?_,fun b o hi=>?_,fun g cs hg=>(h.g.cG g cs hg).mono e,by first | exact h.g.lo | exact Nat.le_succ_of_le h.g.lo⟩,?_,h.t.mono e,h.n,h.d.mono e⟩,?_⟩
 ·rcases ah h2 with h2 | ⟨h3,rfl⟩
  ·have bM:=aQ h2
   rw [h.g.len] at bM
   rcases ah h1 with h1 | ⟨h4,_⟩
   ·exact (h.g.obj id g r h1 h2).mono e (fun b hb=>old b (h.g.bq ⟨id,r,h2,hb⟩)) (fun b o hb=>hI b o (h.g.bq ⟨id,r,h2,hb⟩))
   ·omega
  ·rcases ah h1 with h1 | ⟨h4,rfl⟩
   ·have:=aQ h1
    rw [h3,h.g.len] at this
    omega
   ·refine ⟨rfl,cur,new,hn,hm,by omega,fun o' nT hi=>?_⟩
    rcases hi with hi | ⟨_,hi⟩
    ·have:=h.g.wf _ _ hi
     omega
    ·omega
 ·rcases ah h1 with g1 | ⟨h3,e1⟩
  ·rcases ah h2 with g2 | ⟨h4,e2⟩
   ·exact h.g.inj i j ri rj b g1 g2 b1 b2
   ·have:=h.g.bq ⟨i,ri,g1,b1⟩
    rw [e2] at b2
    simp [RO.has] at b2
    omega
  ·rcases ah h2 with g2 | ⟨h4,e2⟩
   ·have:=h.g.bq ⟨j,rj,g2,b2⟩
    rw [e1] at b1
    simp [RO.has] at b1
    omega
   ·omega
 ·rcases hi with hi | ⟨rfl,_⟩
  ·have:=h.g.wf b o hi
   simp
   omega
  ·simp
 ·refine h.b.bl e (fun k cs hk=>old _ (h.cI (.inr ⟨k,cs,hk,rfl⟩))) (fun k cs o hk=>hI _ o (h.cI (.inr ⟨k,cs,hk,rfl⟩))) (fun k cs hk hl=>?_)
  rcases hJ (R:=R) (ro:=.tok n w.heap.size cap 0) hl with hl | hl
  ·exact hl
  ·have:=h.cI (.inr ⟨k,cs,hk,rfl⟩)
   simp [RO.has] at hl
   omega
 ·refine ⟨e,rfl,rfl,rfl,by simp,fun b hb _=>old b hb,fun b hb ho=>?_,fun b o hi hb _=>hI b o hb hi⟩
  rcases ho with ho | ho
  ·rcases hJ (R:=R) (ro:=.tok n w.heap.size cap 0) ho with ho | ho
   ·exact .inl ho
   ·simp [RO.has] at ho
    omega
  ·exact .inr ho
theorem rA (h:aL E R w β s a) (t:TypeId) (len:Nat) (parts:Array (Nat × Operand)) (ho:o.op=.buildSlice t len parts) {k:LK} {esz:Nat} {es:List AV} (hv:bR E s t len parts.toList=some (.list k esz es)) {i:TI} (hi:E.ti t=some i) {elem aT lU:Nat} {ag:Bool} {z:Option AV} (hk:i.k=.sl elem aT ag lU z) (hm:len≤65536) :
  bn E R w β s a o ((s.cU (.tok len esz elem)).put o.dst (.v (.list (.own s.G.length) esz es))):=by
 obtain ⟨es',MW,us,QW,QT,aW,g2,hlen,u2,u3,i',Ug,Ql,z',oC,fA⟩:=gn h t len parts ho hv
 cases QT
 rw [hi] at oC
 cases oC
 rw [hk] at fA
 cases fA
 have QX:us.length=len * esz:=by rw [← u2.length,cq g2,hlen]
 obtain ⟨r1,r2⟩:=h.JN (cur:=⟨us⟩) (elem:=elem) (n:=len) (sz:=esz) (cap:=len) (Nat.le_refl _) (by simp [maxLen]; omega) (by simpa using QX)
 refine ⟨_,.slice (some ⟨w.heap.size,0,none⟩) len len,_,_,β,aW,.inl rfl,r1.put o.dst (x:=.v (.list (.own s.G.length) esz es)) ?_,by rw [aO]; exact r2⟩
 refine Rel.list (jf g2 (dN.make (u2.mono r2.ext) u3 (fun j x hx=>?_) (fun j hj=>.inr ⟨rfl,?_⟩))) hlen.symm (Nat.le_refl _) ⟨.tok len w.heap.size len 0,fh h _,?_⟩
 ·rw [gZ (heap_alloc_new w _)]
  simpa using hx
 ·rw [cq g2,hlen] at hj
  omega
 ·exact ⟨Nat.le_refl _,fun _=>⟨rfl,.inl rfl,rfl⟩⟩
theorem aL.GH (h:aL E R w β s a) {cur:Array Value} {elem e0:TypeId} {n sz cap id f:Nat} {r0:RO} (hg:nth s.G id=some (.tok f sz e0)) (hid:nth R.obj id=some r0) (hf:∀ b c,bI r0 (.tok n b c 0)) (hn:n≤cap) (hm:cap≤maxLen) (hs:cur.size=cap * sz) :
  aL E (R.upto w.heap.size (n * sz) (au R.obj id (.tok n w.heap.size cap 0))) (w.drew.alloc (.cells cur elem)) β (s.aZ (au s.G id (.tok n sz elem))) a ∧
  Step R w β s.boxes (R.upto w.heap.size (n * sz) (au R.obj id (.tok n w.heap.size cap 0))) (w.drew.alloc (.cells cur elem)) β s.boxes:=by
 have e:=Cm (R:=R) (w:=w) (n:=n * sz) h.g.wf (.cells cur elem) hid w.heap.size cap (hf _ _)
 have old:∀ b,b < w.heap.size→(w.drew.alloc (.cells cur elem)).heap[b]?=w.heap[b]?:=fun b hb=>heap_alloc_old w.drew _ b hb
 have new:(w.drew.alloc (.cells cur elem)).heap[w.heap.size]?=some (.cells cur elem (0,0)):=heap_alloc_new w.drew _
 have hI:∀ b o,b < w.heap.size→(R.upto w.heap.size (n * sz) (au R.obj id (.tok n w.heap.size cap 0))).I b o→R.I b o:=fun b o hb hi=>by
  rcases hi with hi | ⟨hi,_⟩
  ·exact hi
  ·omega
 have live:∀ b,b < w.heap.size→Live (R.upto w.heap.size (n * sz) (au R.obj id (.tok n w.heap.size cap 0))) b→Live R b:=fun b hb hl=>by
  obtain ⟨i,r,h1,h2⟩:=hl
  rcases ap hid h1 with ⟨_,rfl⟩ | ⟨_,h1⟩
  ·simp [RO.has] at h2
   omega
  ·exact ⟨i,r,h1,h2⟩
 refine ⟨⟨⟨by simp [St.aZ,af.upto,h.g.len],fun i gg r h1 h2=>?_,fun i j ri rj b h1 h2 b1 b2=>?_,fun b o hi=>?_,fun g cs hg=>(h.g.cG g cs hg).mono e,by first | exact h.g.lo | exact Nat.le_succ_of_le h.g.lo⟩,?_,h.t.mono e,h.n,h.d.mono e⟩,?_⟩
 ·rcases ap hid h2 with ⟨rfl,rfl⟩ | ⟨bW,h2⟩
  ·simp only [St.aZ] at h1
   rw [aj hg] at h1
   cases h1
   refine ⟨rfl,cur,new,hn,hm,by omega,fun o' nT hi=>?_⟩
   rcases hi with hi | ⟨_,hi⟩
   ·have:=h.g.wf _ _ hi
    omega
   ·omega
  ·simp only [St.aZ] at h1
   rw [aB (Ne.symm bW)] at h1
   exact (h.g.obj i gg r h1 h2).mono e (fun b hb=>old b (h.g.bq ⟨i,r,h2,hb⟩)) (fun b o hb=>hI b o (h.g.bq ⟨i,r,h2,hb⟩))
 ·rcases ap hid h1 with ⟨g3,e1⟩ | ⟨g3,g1⟩
  ·rcases ap hid h2 with ⟨g4,e2⟩ | ⟨g4,g2⟩
   ·omega
   ·have:=h.g.bq ⟨j,rj,g2,b2⟩
    rw [e1] at b1
    simp [RO.has] at b1
    omega
  ·rcases ap hid h2 with ⟨g4,e2⟩ | ⟨g4,g2⟩
   ·have:=h.g.bq ⟨i,ri,g1,b1⟩
    rw [e2] at b2
    simp [RO.has] at b2
    omega
   ·exact h.g.inj i j ri rj b g1 g2 b1 b2
 ·rcases hi with hi | ⟨rfl,_⟩
  ·have:=h.g.wf b o hi
   simp
   omega
  ·simp
 ·exact h.b.bl e (fun k cs hk=>old _ (h.cI (.inr ⟨k,cs,hk,rfl⟩))) (fun k cs o hk=>hI _ o (h.cI (.inr ⟨k,cs,hk,rfl⟩))) (fun k cs hk hl=>live _ (h.cI (.inr ⟨k,cs,hk,rfl⟩)) hl)
 ·refine ⟨e,rfl,rfl,rfl,by simp,fun b hb _=>old b hb,fun b hb ho=>?_,fun b o hi hb _=>hI b o hb hi⟩
  rcases ho with ho | ho
  ·exact .inl (live b hb ho)
  ·exact .inr ho
theorem aL.JO (h:aL E R w β s a) {cur:Array Value} {news:List Value} {elem:TypeId} {n sz id f g c k:Nat} (hg:nth s.G id=some (.tok f sz elem)) (hid:nth R.obj id=some (.tok f g c k)) (hf:f < n) (hn:n≤c)
  (gI:w.heap[g]?=some (.cells cur elem (0,0))) (hs:cur.size=k+c * sz) (hm:c≤maxLen) (hl:f * sz+news.length=n * sz) :
  Ext R w (R.upto g (k+n * sz) (au R.obj id (.tok n g c k))) (w.setRow g (cur.toList.take (k+f * sz)++news++cur.toList.drop (k+f * sz+news.length)).toArray) ∧
  aL E (R.upto g (k+n * sz) (au R.obj id (.tok n g c k))) (w.setRow g (cur.toList.take (k+f * sz)++news++cur.toList.drop (k+f * sz+news.length)).toArray) β (s.aZ (au s.G id (.tok n sz elem))) a ∧
  Step R w β s.boxes (R.upto g (k+n * sz) (au R.obj id (.tok n g c k))) (w.setRow g (cur.toList.take (k+f * sz)++news++cur.toList.drop (k+f * sz+news.length)).toArray) β s.boxes:=by
 obtain ⟨_,oE,L0,_,_,_,jr⟩:=h.g.obj id _ _ hg hid
 rw [gI] at L0
 cases L0
 have hle:n * sz≤c * sz:=Nat.mul_le_mul_right _ hn
 generalize ly:(cur.toList.take (k+f * sz)++news++cur.toList.drop (k+f * sz+news.length)).toArray=cur2
 have old:∀ b,b≠g→(w.setRow g cur2).heap[b]?=w.heap[b]?:=fun b hb=>setRow_other w g b cur2 hb
 have new:(w.setRow g cur2).heap[g]?=some (.cells cur2 elem (0,0)):=setRow_heap w g cur cur2 elem (0,0) gI
 have hlen:k+f * sz≤cur.toList.length:=by simp; omega
 have dl:cur2.size=k+c * sz:=by
  rw [← ly]
  simp
  omega
 have s8:Live R g:=⟨id,_,hid,rfl⟩
 have e:Ext R w (R.upto g (k+n * sz) (au R.obj id (.tok n g c k))) (w.setRow g cur2):=by
  refine ⟨fun _ _ hi=>.inl hi,fun b o hi=>?_,fun i r hr=>?_,fun b r hb=>⟨r,(old b fun e=>by subst e; rw [gI] at hb; cases hb).trans hb,rfl,rfl,rfl,rfl,rfl⟩⟩
  ·by_cases hb:b=g
   ·subst hb
    have ho:o < k+f * sz:=Nat.lt_of_not_le fun hle=>jr o hle hi
    simp only [World.cell?,new,gI]
    have:cur2[o]?=cur[o]?:=by
     rw [← ly,List.append_assoc]
     simp only [List.getElem?_toArray]
     rw [List.getElem?_append_left (by simp; omega),List.getElem?_take,if_pos ho,Array.getElem?_toList]
    simp [this]
   ·exact bo (old b hb) o
  ·by_cases ei:id=i
   ·subst ei
    rw [hid] at hr
    cases hr
    exact ⟨_,aj hid,by omega,fun e=>by omega⟩
   ·exact ⟨r,by rw [af.upto,aB ei]; exact hr,bI.refl r⟩
 have hI:∀ b o,b≠g→(R.upto g (k+n * sz) (au R.obj id (.tok n g c k))).I b o→R.I b o:=fun b o hb hi=>by
  rcases hi with hi | ⟨hi,_⟩
  ·exact hi
  ·exact absurd hi hb
 have live:∀ b,Live (R.upto g (k+n * sz) (au R.obj id (.tok n g c k))) b→Live R b:=fun b hl=>by
  obtain ⟨i,r,h1,h2⟩:=hl
  rcases ap hid h1 with ⟨_,rfl⟩ | ⟨_,h1⟩
  ·exact ⟨id,_,hid,h2⟩
  ·exact ⟨i,r,h1,h2⟩
 have oF:∀ k cs,cO s.boxes k=some cs→β k≠g:=fun k cs hk eq=>(h.b.box k cs hk).2.2 (eq ▸ s8)
 refine ⟨e,⟨⟨by simp [St.aZ,af.upto,h.g.len],fun i gg r h1 h2=>?_,fun i j ri rj b h1 h2 b1 b2=>?_,fun b o hi=>?_,fun g cs hg=>(h.g.cG g cs hg).mono e,by first | exact h.g.lo | exact Nat.le_succ_of_le h.g.lo⟩,?_,h.t.mono e,h.n,h.d.mono e⟩,?_⟩
 ·rcases ap hid h2 with ⟨rfl,rfl⟩ | ⟨bW,h2⟩
  ·simp only [St.aZ] at h1
   rw [aj hg] at h1
   cases h1
   refine ⟨rfl,cur2,new,hn,hm,dl,fun o' nT hi=>?_⟩
   rcases hi with hi | ⟨_,hi⟩
   ·exact jr o' (by have:=Nat.mul_le_mul_right sz (Nat.le_of_lt hf); omega) hi
   ·omega
  ·simp only [St.aZ] at h1
   rw [aB (Ne.symm bW)] at h1
   have M0:∀ b,r.has b→b≠g:=fun b hb eq=>bW (h.g.inj i id _ _ b h2 hid hb (by rw [eq]; rfl))
   exact (h.g.obj i gg r h1 h2).mono e (fun b hb=>old b (M0 b hb)) (fun b o hb=>hI b o (M0 b hb))
 ·rcases ap hid h1 with ⟨g3,e1⟩ | ⟨g3,g1⟩
  ·rcases ap hid h2 with ⟨g4,e2⟩ | ⟨g4,g2⟩
   ·omega
   ·rw [e1] at b1
    exact g3.trans (h.g.inj id j _ _ b hid g2 b1 b2)
  ·rcases ap hid h2 with ⟨g4,e2⟩ | ⟨g4,g2⟩
   ·rw [e2] at b2
    exact (h.g.inj i id _ _ b g1 hid b1 b2).trans g4.symm
   ·exact h.g.inj i j ri rj b g1 g2 b1 b2
 ·rcases hi with hi | ⟨rfl,_⟩
  ·have:=h.g.wf b o hi
   simpa using this
  ·have:=a7 gI
   simpa using this
 ·exact h.b.bl e (fun q cs hk=>old _ (oF q cs hk)) (fun q cs o hk=>hI _ o (oF q cs hk)) (fun q cs hk hl=>live _ hl)
 ·refine ⟨e,rfl,rfl,rfl,by simp,fun b hb my=>old b (fun eq=>my (.inl (eq ▸ s8))),fun b hb ho=>?_,fun b o hi hb my=>hI b o (fun eq=>my (.inl (eq ▸ s8))) hi⟩
  rcases ho with ho | ho
  ·exact .inl (live b ho)
  ·exact .inr ho
structure One (w w':World) (x:Obj):Prop where
 old:∀ b,b < w.heap.size→w'.heap[b]?=w.heap[b]?
 new:w'.heap[w.heap.size]?=some x
 size:w'.heap.size=w.heap.size+1
 os:w'.os=w.os
 tape:w'.tape=w.tape
 output:w'.output=w.output
 drawn:w.drawn≤w'.drawn
theorem One.alloc (w:World) (x:Obj):One w (w.alloc x) x:=⟨fun b hb=>heap_alloc_old w x b hb,heap_alloc_new w x,by simp,rfl,rfl,rfl,Nat.le_refl _⟩
theorem One.drew (w:World) (x:Obj):One w (w.drew.alloc x) x:=⟨fun b hb=>heap_alloc_old w.drew x b hb,heap_alloc_new w.drew x,by simp,rfl,rfl,rfl,Nat.le_succ _⟩
theorem JP {w':World} {x:Obj} (o1:One w w' x) (wf:∀ b o,R.I b o→b < w.heap.size) {n id:Nat} {r0 r1:RO} (hid:nth R.obj id=some r0) (hle:bI r0 r1):Ext R w (R.upto w.heap.size n (au R.obj id r1)) w':=
 ⟨fun _ _ h=>.inl h,fun b o h=>bo (o1.old b (wf b o h)) o,fun i r h=>by
  by_cases e:id=i
  ·subst e
   rw [hid] at h
   cases h
   exact ⟨_,aj hid,hle⟩
  ·exact ⟨r,by rw [af.upto,aB e]; exact h,bI.refl r⟩,.old fun b hb=>o1.old b hb⟩
theorem aL.M1 (h:aL E R w β s a) {w':World} {x:Obj} (o1:One w w' x) {n id:Nat} {r0 r1:RO} {Gb go:GO} (hg:nth s.G id=some Gb) (hid:nth R.obj id=some r0) (hle:bI r0 r1) (iD:∀ b,r1.has b→b=w.heap.size∨r0.has b)
  (fc:fa (R.upto w.heap.size n (au R.obj id r1)) w' go r1) :
  aL E (R.upto w.heap.size n (au R.obj id r1)) w' β (s.aZ (au s.G id go)) a∧Step R w β s.boxes (R.upto w.heap.size n (au R.obj id r1)) w' β s.boxes:=by
 have e:=JP (R:=R) (n:=n) o1 h.g.wf hid hle
 have hI:∀ b o,b < w.heap.size→(R.upto w.heap.size n (au R.obj id r1)).I b o→R.I b o:=fun b o hb hi=>by
  rcases hi with hi | ⟨hi,_⟩
  ·exact hi
  ·omega
 have live:∀ b,b < w.heap.size→Live (R.upto w.heap.size n (au R.obj id r1)) b→Live R b:=fun b hb hl=>by
  obtain ⟨i,r,h1,h2⟩:=hl
  rcases ap hid h1 with ⟨_,rfl⟩ | ⟨_,h1⟩
  ·rcases iD b h2 with h3 | h3
   ·omega
   ·exact ⟨id,r0,hid,h3⟩
  ·exact ⟨i,r,h1,h2⟩
 refine ⟨⟨⟨by simp [St.aZ,af.upto,h.g.len],fun i gg r h1 h2=>?_,fun i j ri rj b h1 h2 b1 b2=>?_,fun b o hi=>?_,fun g cs hg=>(h.g.cG g cs hg).mono e,Nat.le_trans h.g.lo o1.drawn⟩,?_,h.t.mono e,h.n,h.d.mono e⟩,?_⟩
 ·rcases ap hid h2 with ⟨rfl,rfl⟩ | ⟨bW,h2⟩
  ·simp only [St.aZ] at h1
   rw [aj hg] at h1
   cases h1
   exact fc
  ·simp only [St.aZ] at h1
   rw [aB (Ne.symm bW)] at h1
   exact (h.g.obj i gg r h1 h2).mono e (fun b hb=>o1.old b (h.g.bq ⟨i,r,h2,hb⟩)) (fun b o hb=>hI b o (h.g.bq ⟨i,r,h2,hb⟩))
 ·rcases ap hid h1 with ⟨g3,e1⟩ | ⟨g3,g1⟩
  ·rcases ap hid h2 with ⟨g4,e2⟩ | ⟨g4,g2⟩
   ·omega
   ·rw [e1] at b1
    rcases iD b b1 with b3 | b3
    ·have:=h.g.bq ⟨j,rj,g2,b2⟩
     omega
    ·exact g3.trans (h.g.inj id j _ _ b hid g2 b3 b2)
  ·rcases ap hid h2 with ⟨g4,e2⟩ | ⟨g4,g2⟩
   ·rw [e2] at b2
    rcases iD b b2 with b3 | b3
    ·have:=h.g.bq ⟨i,ri,g1,b1⟩
     omega
    ·exact (h.g.inj i id _ _ b g1 hid b1 b3).trans g4.symm
   ·exact h.g.inj i j ri rj b g1 g2 b1 b2
 ·rcases hi with hi | ⟨rfl,_⟩
  ·have:=h.g.wf b o hi
   rw [o1.size]
   omega
  ·rw [o1.size]; omega
 ·exact h.b.bl e (fun q cs hk=>o1.old _ (h.cI (.inr ⟨q,cs,hk,rfl⟩))) (fun q cs o hk=>hI _ o (h.cI (.inr ⟨q,cs,hk,rfl⟩))) (fun q cs hk hl=>live _ (h.cI (.inr ⟨q,cs,hk,rfl⟩)) hl)
 ·refine ⟨e,o1.os,o1.tape,o1.output,by rw [o1.size]; omega,fun b hb _=>o1.old b hb,fun b hb ho=>?_,fun b o hi hb _=>hI b o hb hi⟩
  rcases ho with ho | ho
  ·exact .inl (live b hb ho)
  ·exact .inr ho
theorem aL.JQ (h:aL E R w β s a) {cur cur2:Array Value} {elem:TypeId} {n id g:Nat} {r0 r1:RO} {Gb go:GO} (hg:nth s.G id=some Gb) (hid:nth R.obj id=some r0) (Qm:r0.has g) (hle:bI r0 r1) (iD:∀ b,r1.has b→r0.has b)
  (gI:w.heap[g]?=some (.cells cur elem (0,0))) (uu:∀ o,R.I g o→cur2[o]?=cur[o]?)
  (fc:Ext R w (R.upto g n (au R.obj id r1)) (w.setRow g cur2)→fa (R.upto g n (au R.obj id r1)) (w.setRow g cur2) go r1) :
  Ext R w (R.upto g n (au R.obj id r1)) (w.setRow g cur2)∧aL E (R.upto g n (au R.obj id r1)) (w.setRow g cur2) β (s.aZ (au s.G id go)) a∧Step R w β s.boxes (R.upto g n (au R.obj id r1)) (w.setRow g cur2) β s.boxes:=by
 have old:∀ b,b≠g→(w.setRow g cur2).heap[b]?=w.heap[b]?:=fun b hb=>setRow_other w g b cur2 hb
 have new:(w.setRow g cur2).heap[g]?=some (.cells cur2 elem (0,0)):=setRow_heap w g cur cur2 elem (0,0) gI
 have s8:Live R g:=⟨id,_,hid,Qm⟩
 have e:Ext R w (R.upto g n (au R.obj id r1)) (w.setRow g cur2):=by
  refine ⟨fun _ _ hi=>.inl hi,fun b o hi=>?_,fun i r hr=>?_,fun b r hb=>⟨r,(old b fun e=>by subst e; rw [gI] at hb; cases hb).trans hb,rfl,rfl,rfl,rfl,rfl⟩⟩
  ·by_cases hb:b=g
   ·subst hb
    simp only [World.cell?,new,gI,uu o hi]
   ·exact bo (old b hb) o
  ·by_cases ei:id=i
   ·subst ei
    rw [hid] at hr
    cases hr
    exact ⟨_,aj hid,hle⟩
   ·exact ⟨r,by rw [af.upto,aB ei]; exact hr,bI.refl r⟩
 have hI:∀ b o,b≠g→(R.upto g n (au R.obj id r1)).I b o→R.I b o:=fun b o hb hi=>by
  rcases hi with hi | ⟨hi,_⟩
  ·exact hi
  ·exact absurd hi hb
 have live:∀ b,Live (R.upto g n (au R.obj id r1)) b→Live R b:=fun b hl=>by
  obtain ⟨i,r,h1,h2⟩:=hl
  rcases ap hid h1 with ⟨_,rfl⟩ | ⟨_,h1⟩
  ·exact ⟨id,_,hid,iD b h2⟩
  ·exact ⟨i,r,h1,h2⟩
 have oF:∀ k cs,cO s.boxes k=some cs→β k≠g:=fun k cs hk eq=>(h.b.box k cs hk).2.2 (eq ▸ s8)
 refine ⟨e,⟨⟨by simp [St.aZ,af.upto,h.g.len],fun i gg r h1 h2=>?_,fun i j ri rj b h1 h2 b1 b2=>?_,fun b o hi=>?_,fun g cs hg=>(h.g.cG g cs hg).mono e,h.g.lo⟩,?_,h.t.mono e,h.n,h.d.mono e⟩,?_⟩
 ·rcases ap hid h2 with ⟨rfl,rfl⟩ | ⟨bW,h2⟩
  ·simp only [St.aZ] at h1
   rw [aj hg] at h1
   cases h1
   exact fc e
  ·simp only [St.aZ] at h1
   rw [aB (Ne.symm bW)] at h1
   have M0:∀ b,r.has b→b≠g:=fun b hb eq=>bW (h.g.inj i id _ _ b h2 hid hb (by rw [eq]; exact Qm))
   exact (h.g.obj i gg r h1 h2).mono e (fun b hb=>old b (M0 b hb)) (fun b o hb=>hI b o (M0 b hb))
 ·rcases ap hid h1 with ⟨g3,e1⟩ | ⟨g3,g1⟩
  ·rcases ap hid h2 with ⟨g4,e2⟩ | ⟨g4,g2⟩
   ·omega
   ·rw [e1] at b1
    exact g3.trans (h.g.inj id j _ _ b hid g2 (iD b b1) b2)
  ·rcases ap hid h2 with ⟨g4,e2⟩ | ⟨g4,g2⟩
   ·rw [e2] at b2
    exact (h.g.inj i id _ _ b g1 hid b1 (iD b b2)).trans g4.symm
   ·exact h.g.inj i j ri rj b g1 g2 b1 b2
 ·rcases hi with hi | ⟨rfl,_⟩
  ·have:=h.g.wf b o hi
   simpa using this
  ·have:=a7 gI
   simpa using this
 ·exact h.b.bl e (fun q cs hk=>old _ (oF q cs hk)) (fun q cs o hk=>hI _ o (oF q cs hk)) (fun q cs hk hl=>live _ hl)
 ·refine ⟨e,rfl,rfl,rfl,by simp,fun b hb my=>old b (fun eq=>my (.inl (eq ▸ s8))),fun b hb ho=>?_,fun b o hi hb my=>hI b o (fun eq=>my (.inl (eq ▸ s8))) hi⟩
  rcases ho with ho | ho
  ·exact .inl (live b ho)
  ·exact .inr ho
theorem pz.set {ts:List TR} {j:Nat} {t t':TR} (ht:nth ts j=some t) (hle:eZ t t'):pz ts (au ts j t'):=fun i u hu=>by
 by_cases e:j=i
 ·subst e
  rw [ht] at hu
  cases hu
  exact ⟨t',aj ht,hle⟩
 ·exact ⟨u,by rw [aB e]; exact hu,eZ.refl u⟩
theorem DW {ts:List TR} {j n g c b:Nat} (h:RO.has (.aH (au ts j (.tok n g c))) b):b=g∨RO.has (.aH ts) b:=by
 obtain ⟨i,f,c',hi⟩:=h
 rcases bK hi with ⟨_,e,_⟩ | ⟨_,hi⟩
 ·cases e; exact .inl rfl
 ·exact .inr ⟨i,f,c',hi⟩
theorem xA.of {R':af} {w':World} {sz f:Nat} {e:TypeId} {t:TR} (h:xA R w sz e f t) (hold:∀ f b c,t=.tok f b c→w'.heap[b]?=w.heap[b]?∧∀ o,R'.I b o→R.I b o):xA R' w' sz e f t:=by
 cases t with
 | aN=>exact h
 | full f'=>exact h
 | tok f' b c=>
  obtain ⟨h0,cur,h1,h2,h3,h4,h5⟩:=h
  obtain ⟨k1,k2⟩:=hold f' b c rfl
  exact ⟨h0,cur,k1.trans h1,h2,h3,h4,fun o ho hi=>h5 o ho (k2 o hi)⟩
theorem ub.set {R':af} {w':World} {sz:Nat} {e:TypeId} {fs:List Nat} {ts:List TR} (h:ub R w sz e fs ts) {j n g c:Nat} (ly:xA R' w' sz e n (.tok n g c)) (GI:∀ i f c,nth ts i=some (.tok f g c)→i=j)
  (hold:∀ i f b c,i≠j→nth ts i=some (.tok f b c)→w'.heap[b]?=w.heap[b]?∧∀ o,R'.I b o→R.I b o):ub R' w' sz e (au fs j n) (au ts j (.tok n g c)):=by
 obtain ⟨h1,h2,h3⟩:=h
 refine ⟨by simp [h1],fun i i' f1 b c1 f2 c2 q1 q2=>?_,fun i f1 t1 q1 q2=>?_⟩
 ·rcases bK q1 with ⟨n1,e1,_⟩ | ⟨n1,q1⟩
  ·cases e1
   rcases bK q2 with ⟨n2,_,_⟩ | ⟨n2,q2⟩
   ·exact n1.symm.trans n2
   ·exact absurd (GI _ _ _ q2).symm n2
  ·rcases bK q2 with ⟨n2,e2,_⟩ | ⟨n2,q2⟩
   ·cases e2
    exact (GI _ _ _ q1).trans n2
   ·exact h2 i i' _ _ _ _ _ q1 q2
 ·rcases bK q1 with ⟨n1,e1,_⟩ | ⟨n1,q1⟩
  ·rcases bK q2 with ⟨_,e2,_⟩ | ⟨n2,_⟩
   ·subst e1 e2
    exact ly
   ·exact absurd n1 n2
  ·rcases bK q2 with ⟨n2,_,_⟩ | ⟨n2,q2⟩
   ·exact absurd n2 n1
   ·exact (h3 i f1 t1 q1 q2).of fun f b c ht=>by subst ht; exact hold i f b c (Ne.symm n2) q2
end ops
end Go.Am
namespace Go.Am
open Go
section lists
theorem oG {α:Type} (c us:List α) (n p sz off:Nat) (hn:n≤c.length) (hp:p+sz≤n) (ho:off+us.length≤sz) :
  (c.take (p+off)++us++c.drop (p+off+us.length)).take n =
   (c.take n).take p++((((c.take n).drop p).take sz).take off++us++(((c.take n).drop p).take sz).drop (off+us.length))++(c.take n).drop (p+sz):=by
 apply List.ext_getElem?
 intro j
 simp only [List.getElem?_append,List.getElem?_take,List.getElem?_drop,List.length_append,List.length_take,List.length_drop]
 by_cases h1:j < p
 ·rw [if_pos (by omega),if_pos (by omega),if_pos (by omega),if_pos (by omega),if_pos (by omega),if_pos (by omega),if_pos (by omega),if_pos (by omega)]
 ·by_cases h2:j < p+off
  ·rw [if_pos (by omega),if_pos (by omega),if_pos (by omega),if_pos (by omega),if_pos (by omega),if_neg (by omega),if_pos (by omega),if_pos (by omega),if_pos (by omega),if_pos (by omega),if_pos (by omega)]
   congr 1; omega
  ·by_cases h3:j < p+off+us.length
   ·rw [if_pos (by omega),if_pos (by omega),if_neg (by omega),if_pos (by omega),if_neg (by omega),if_pos (by omega),if_neg (by omega)]
    congr 1; omega
   ·by_cases h4:j < p+sz
    ·rw [if_pos (by omega),if_neg (by omega),if_pos (by omega),if_neg (by omega),if_neg (by omega),if_pos (by omega),if_pos (by omega)]
     congr 1; omega
    ·by_cases h5:j < n
     ·rw [if_pos (by omega),if_neg (by omega),if_neg (by omega),if_pos (by omega)]
      congr 1; omega
     ·rw [if_neg (by omega),if_neg (by omega),if_neg (by omega)]
theorem js {sz:Nat}:∀ {es:List AV} {i:Nat} {e:AV},cW sz es→nth es i=some e→((ar es).drop (i * sz)).take sz=e.cells
 | [],_,_,_,h=>by simp [nth] at h
 | x :: es,0,e,h,hi=>by
  simp only [nth] at hi
  cases hi
  have h1:=(h x (by simp)).1
  rw [Nat.zero_mul,List.drop_zero]
  simp only [ar]
  rw [← h1,List.take_left]
 | x :: es,i+1,e,h,hi=>by
  have h1:=(h x (by simp)).1
  have ih:=js (i:=i) (fun y hy=>h y (by simp [hy])) (show nth es i=some e from hi)
  simp only [ar]
  rw [show (i+1) * sz=x.cells.length+i * sz by rw [h1,Nat.succ_mul]; omega,List.drop_append,List.drop_of_length_le (by omega),List.nil_append,Nat.add_sub_cancel_left]
  exact ih
theorem pI {sz:Nat} {l r:List AV} (h:cW sz l) (k:cW sz r):cW sz (l++r):=fun e he=>by
 rcases List.mem_append.1 he with he | he
 ·exact h e he
 ·exact k e he
theorem xM {sz:Nat} {l:List AV} (n:Nat) (h:cW sz l):cW sz (l.take n):=fun e he=>h e (List.mem_of_mem_take he)
theorem E0 {sz:Nat} {l:List AV} (n:Nat) (h:cW sz l):cW sz (l.drop n):=fun e he=>h e (List.mem_of_mem_drop he)
theorem fR {sz:Nat}:∀ {es:List AV} (i:Nat),cW sz es→ar (es.take i)=(ar es).take (i * sz)
 | [],i,_=>by simp [ar]
 | e :: es,0,_=>by simp [ar]
 | e :: es,i+1,h=>by
  have h1:=(h e (by simp)).1
  simp only [List.take_succ_cons,ar]
  rw [fR i (fun y hy=>h y (by simp [hy])),show (i+1) * sz=e.cells.length+i * sz by rw [h1,Nat.succ_mul]; omega,List.take_append,Nat.add_sub_cancel_left,List.take_of_length_le (by omega:e.cells.length≤e.cells.length+i * sz)]
theorem mz {sz:Nat}:∀ {es:List AV} (i:Nat),cW sz es→ar (es.drop i)=(ar es).drop (i * sz)
 | [],i,_=>by simp [ar]
 | e :: es,0,_=>by simp [ar]
 | e :: es,i+1,h=>by
  have h1:=(h e (by simp)).1
  simp only [List.drop_succ_cons,ar]
  rw [mz i (fun y hy=>h y (by simp [hy])),show (i+1) * sz=e.cells.length+i * sz by rw [h1,Nat.succ_mul]; omega,List.drop_append,List.drop_of_length_le (by omega:e.cells.length≤e.cells.length+i * sz),List.nil_append,Nat.add_sub_cancel_left]
theorem bp {sz:Nat} {es:List AV} (h:cW sz es):(ar es).length=es.length * sz:=by
 induction es with
 | nil=>simp [ar]
 | cons e es ih=>
  have h1:=(h e (by simp)).1
  have:=ih (fun x hx=>h x (by simp [hx]))
  simp only [ar,List.length_append,this,h1,List.length_cons,Nat.add_mul]
  omega
theorem Cn {sz:Nat} {es:List AV} {i:Nat} {v:AV} (h:cW sz es) (h1:v.cells.length=sz) (h2:v.aI=true):cW sz (au es i v):=fun e he=>by
 rw [dy] at he
 rcases List.mem_or_eq_of_mem_set he with he | rfl
 ·exact h e he
 ·exact ⟨h1,h2⟩
theorem si {sz:Nat} {es:List AV} {i:Nat} {v:AV} (h:cW sz es) (hi:i < es.length) (hv:v.cells.length=sz):ar (au es i v)=bu (ar es) (i * sz) v.cells:=by
 have xN:i * sz+sz≤es.length * sz:=by
  rw [← Nat.succ_mul]
  exact Nat.mul_le_mul_right _ hi
 rw [dy,List.set_eq_take_append_cons_drop,if_pos hi,dh _ _ _ (by rw [hv,bp h]; exact xN),bQ,fR i h,hv]
 simp only [ar]
 rw [mz (i+1) h,Nat.succ_mul,List.append_assoc]
end lists
section ops
variable {E:Env} {R:af} {w:World} {β:Nat→Nat} {s:St} {a:Act} {o:Oper}
theorem lz {G:List GO} (h:dO E R w G) {id:Nat} {es:List AV} {sz:Nat} {el:TypeId} {ro:RO} (hid:nth G id=some (.cP es sz el)) (aR:nth R.obj id=some ro) (hn:ro≠.aN) :
  ∃ b c cur vs,ro=.tok es.length b c 0∧cW sz es∧w.heap[b]?=some (.cells cur el (0,0))∧es.length≤c∧c≤maxLen∧cur.size=c * sz∧(∀ o,¬ R.I b o)∧aA R w (ar es) vs∧(∀ v∈vs,v.oneCell'=true)∧cur.toList.take (es.length * sz)=vs:=by
 have hr:=h.obj id _ _ hid aR
 cases ro with
 | none=>exact hr.elim
 | aN=>exact absurd rfl hn
 | bi b=>exact hr.elim
 | aH _=>exact hr.elim
 | tok f b c k=>
  obtain ⟨rfl,rfl,h1,cur,vs,h2,h3,h4,h5,h6,h7,h8,h9⟩:=hr
  exact ⟨b,c,cur,vs,rfl,h1,h2,h3,h4,h5,h6,h7,h8,h9⟩
theorem uv {id f i sz:Nat} {t:TypeId} {v:AV} (h:tX E s id f i sz t=some (true,v)) :
  ∃ es el e,nth s.G id=some (.cP es sz el)∧f=es.length∧nth es i=some e∧fD e v:=by
 unfold tX at h
 split at h
 ·rename_i es aT el hid
  split at h
  ·rename_i p hp
   split at h
   ·rename_i dl
    have dl:=Nat.eq_of_beq_eq_true dl
    subst dl
    injection h with h
    injection h with h1 h2
    simp only [Bool.and_eq_true,decide_eq_true_eq] at h1
    obtain ⟨⟨h3,h4⟩,h5⟩:=h1
    obtain ⟨e,he⟩:∃ e,nth es i=some e:=⟨es[i],by rw [aE]; exact List.getElem?_eq_getElem h4⟩
    have hd:av es i=e:=by simp [av,he]
    rw [hd] at h5 h2
    rw [← h2]
    exact ⟨es,el,e,hid,h3,he,p.cn h5⟩
   ·cases h
  ·split at h
   ·rename_i dl
    have dl:=Nat.eq_of_beq_eq_true dl
    subst dl
    injection h with h
    injection h with h1 h2
    simp only [Bool.and_eq_true,decide_eq_true_eq] at h1
    obtain ⟨h3,h4⟩:=h1
    obtain ⟨e,he⟩:∃ e,nth es i=some e:=⟨es[i],by rw [aE]; exact List.getElem?_eq_getElem h4⟩
    have hd:av es i=e:=by simp [av,he]
    rw [hd] at h2
    rw [← h2]
    exact ⟨es,el,e,hid,h3,he,fD.refl e⟩
   ·cases h
 ·cases h
theorem yZ {G:List GO} (h:dO E R w G) {id j:Nat} {rows:List (List AV)} {sz:Nat} {el:TypeId} {ro:RO} {b o f i off:Nat} (hid:nth G id=some (.ga rows sz el)) (aR:nth R.obj id=some ro) (cM:Gl b o j f i off sz ro) (hf:f=(rowOf rows j).length) :
  ∃ ts c cur vs,ro=.aH ts∧nth ts j=some (.tok f b c)∧nth rows j=some (rowOf rows j)∧o=i * sz+off∧eM sz (rowOf rows j)∧w.heap[b]?=some (.cells cur el (0,0))∧f≤c∧c≤maxLen∧cur.size=c * sz∧(∀ o,¬ R.I b o)∧aA R w (ar (rowOf rows j)) vs∧(∀ v∈vs,v.oneCell'=true)∧cur.toList.take (f * sz)=vs:=by
 have hr:=h.obj id _ _ hid aR
 cases ro with
 | none=>exact hr.elim
 | aN=>exact hr.elim
 | bi b=>exact hr.elim
 | tok _ _ _ _=>exact hr.elim
 | aH ts=>
  obtain ⟨t,k1,k2⟩:=cM
  obtain ⟨h1,h2,h3⟩:=hr
  have bM:=aQ k1
  have iW:nth rows j=some rows[j]:=by rw [aE]; exact List.getElem?_eq_getElem (by omega)
  have he:rowOf rows j=rows[j]:=by unfold rowOf; rw [iW]
  have h4:=h3 j _ t iW k1
  rw [← he] at h4 iW
  cases t with
  | aN=>exact k2.elim
  | full _=>exact h4.elim
  | tok f' b' c=>
   obtain ⟨h5,h6,cur,vs,q1,q2,q3,q4,q5,q6,q7,q8⟩:=h4
   obtain ⟨e1,e2⟩:=k2.2 (by omega)
   subst e1
   have e3:f'=f:=by omega
   subst e3
   exact ⟨ts,c,cur,vs,rfl,k1,iW,e2,h6,q1,q2,q3,q4,q5,q6,q7,q8⟩
theorem uw {id j f i sz:Nat} {t:TypeId} {v:AV} (h:tY E s id j f i sz t=some (true,v)) :
  ∃ rows el e,nth s.G id=some (.ga rows sz el)∧f=(rowOf rows j).length∧nth (rowOf rows j) i=some e∧fD e v:=by
 unfold tY at h
 split at h
 ·rename_i rows aT el hid
  split at h
  ·rename_i p hp
   split at h
   ·rename_i dl
    have dl:=Nat.eq_of_beq_eq_true dl
    subst dl
    injection h with h
    injection h with h1 h2
    simp only [Bool.and_eq_true,decide_eq_true_eq] at h1
    obtain ⟨⟨h3,h4⟩,h5⟩:=h1
    obtain ⟨e,he⟩:∃ e,nth (rowOf rows j) i=some e:=⟨(rowOf rows j)[i],by rw [aE]; exact List.getElem?_eq_getElem h4⟩
    have hd:av (rowOf rows j) i=e:=by simp [av,he]
    rw [hd] at h5 h2
    rw [← h2]
    exact ⟨rows,el,e,hid,h3,he,p.cn h5⟩
   ·cases h
  ·split at h
   ·rename_i dl
    have dl:=Nat.eq_of_beq_eq_true dl
    subst dl
    injection h with h
    injection h with h1 h2
    simp only [Bool.and_eq_true,decide_eq_true_eq] at h1
    obtain ⟨h3,h4⟩:=h1
    obtain ⟨e,he⟩:∃ e,nth (rowOf rows j) i=some e:=⟨(rowOf rows j)[i],by rw [aE]; exact List.getElem?_eq_getElem h4⟩
    have hd:av (rowOf rows j) i=e:=by simp [av,he]
    rw [hd] at h2
    rw [← h2]
    exact ⟨rows,el,e,hid,h3,he,fD.refl e⟩
   ·cases h
 ·cases h
theorem tD {α:Type} {l:List α} {i:Nat} {x:α} (h:nth l i=some x):x∈l:=by
 rw [aE] at h
 exact List.mem_of_getElem? h
theorem rB {i n sz:Nat} (h:i < n):i * sz+sz≤n * sz:=by
 rw [← Nat.succ_mul]
 exact Nat.mul_le_mul_right _ h
theorem Co (h:aL E R w β s a) (t:TypeId) (x:Operand) (ho:o.op=.load t x) {v:AV} (hl:xx E s t (ba E s.ab x)=some (true,v)) :
  bn E R w β s a o (s.put o.dst (.v v)):=by
 have rx:=aF h x
 unfold xx at hl
 split at hl
 ·rename_i id f i off sz ty hx
  rw [hx] at rx
  split at hl
  ·rename_i ti c ve Ga hg
   split at hl
   ·rename_i l hs
    split at hl
    ·rename_i r hm
     injection hl with hl
     injection hl with h1 h2
     subst h1; subst h2
     obtain ⟨es,el,e,hid,DX,he,wR⟩:=uv hg
     have cF:Rel R w (.gp id f i off sz ty) (a.eval x):=rx
     generalize dP:a.eval x=xv at cF
     cases cF with
     | @gp _ _ _ _ _ b o' _ ro aR cM=>
     obtain ⟨b',c',cur,vs,rfl,g1,g2,g3,g4,g5,g6,g7,g8,g9⟩:=lz h.g hid aR (fun k=>by subst k; exact cM)
     obtain ⟨rfl,rfl⟩:=cM.2 DX
     have M2:=g1 e (tD he)
     have dq:aA R w e.cells ((vs.drop (i * sz)).take sz):=by
      rw [← js g1 he]
      exact (g7.drop _).take _
     have hw:=(wR.cells M2.2).rel dq
     obtain ⟨k1,k2,k3,k4⟩:=lu hs hw (fun y hy=>g8 y (List.mem_of_mem_drop (List.mem_of_mem_take hy)))
     obtain ⟨c,hc,Ui⟩:=jX (E:=E) Ga (b:=b) (off:=i * sz+off) k1 k2 k3 (fun j y hy=>by
      have h1:=k4 j y hy
      rw [List.getElem?_take] at h1
      split at h1
      ·rw [List.getElem?_drop,← g9,List.getElem?_take] at h1
       split at h1
       ·rw [cell_of_row w b _ cur el (0,0) g2,Nat.add_assoc,← Array.getElem?_toList]
        exact h1
       ·cases h1
      ·cases h1) hm
     refine an h (c:=c) ?_ Ui
     simp [execOp,ho,Instr.loadAt,dP,Instr.sureAddr,hc]
    ·cases hl
   ·cases hl
  ·cases hl
 ·rename_i id j f i off sz ty hx
  rw [hx] at rx
  split at hl
  ·rename_i ti c ve Ga hg
   split at hl
   ·rename_i l hs
    split at hl
    ·rename_i r hm
     injection hl with hl
     injection hl with h1 h2
     subst h1; subst h2
     obtain ⟨rows,el,e,hid,DX,he,wR⟩:=uw hg
     have cF:Rel R w (.rp id j f i off sz ty) (a.eval x):=rx
     generalize dP:a.eval x=xv at cF
     cases cF with
     | @rp _ _ _ _ _ _ b o' _ ro aR cM=>
     obtain ⟨ts,c',cur,vs,rfl,k1,k2,rfl,wL,g2,g3,g4,g5,g6,g7,g8,g9⟩:=yZ h.g hid aR cM DX
     have g1:=wL.g
     subst DX
     have M2:=g1 e (tD he)
     have dq:aA R w e.cells ((vs.drop (i * sz)).take sz):=by
      rw [← js g1 he]
      exact (g7.drop _).take _
     have hw:=(wR.cells M2.2).rel dq
     obtain ⟨k1,k2,k3,k4⟩:=lu hs hw (fun y hy=>g8 y (List.mem_of_mem_drop (List.mem_of_mem_take hy)))
     obtain ⟨c,hc,Ui⟩:=jX (E:=E) Ga (b:=b) (off:=i * sz+off) k1 k2 k3 (fun j' y hy=>by
      have h1:=k4 j' y hy
      rw [List.getElem?_take] at h1
      split at h1
      ·rw [List.getElem?_drop,← g9,List.getElem?_take] at h1
       split at h1
       ·rw [cell_of_row w b _ cur el (0,0) g2,Nat.add_assoc,← Array.getElem?_toList]
        exact h1
       ·cases h1
      ·cases h1) hm
     refine an h (c:=c) ?_ Ui
     simp [execOp,ho,Instr.loadAt,dP,Instr.sureAddr,hc]
    ·cases hl
   ·cases hl
  ·cases hl
 ·split at hl
  ·rename_i v' hv
   injection hl with hl
   injection hl with h1 h2
   subst h2
   exact ET h t x ho hv
  ·cases hl
theorem aL.M3 (h:aL E R w β s a) {id j f b c:Nat} {rows:List (List AV)} {row':List AV} {sz:Nat} {el:TypeId} {ts:List TR} {cur oE:Array Value} {vs':List Value} (hid:nth s.G id=some (.ga rows sz el)) (aR:nth R.obj id=some (.aH ts)) (GJ:nth ts j=some (.tok f b c))
  (hb:w.heap[b]?=some (.cells cur el (0,0))) (hlen:row'.length=f) (jm:eM sz row') (dl:oE.size=cur.size) (hr:aA R w (ar row') vs') (h1:∀ v∈vs',v.oneCell'=true) (ht:oE.toList.take (f * sz)=vs') :
  aL E R (w.setRow b oE) β (s.aZ (au s.G id (.ga (au rows j row') sz el))) a∧Step R w β s.boxes R (w.setRow b oE) β s.boxes:=by
 obtain ⟨m1,m2,m3⟩:=h.g.obj id _ _ hid aR
 have bM:=aQ GJ
 have iW:nth rows j=some rows[j]:=by rw [aE]; exact List.getElem?_eq_getElem (by omega)
 obtain ⟨_,q1,M4,Wu,p1,p2,p3,p4,p5,p6,p7,p8⟩:=m3 j _ _ iW GJ
 rw [hb] at p1
 cases p1
 have hex:=fN (R:=R) (w:=w) p5 oE
 have iD:RO.has (.aH ts) b:=⟨j,f,c,GJ⟩
 have ux:∀ k cs,cO s.boxes k=some cs→β k≠b:=fun k cs hk e=>(h.b.box k cs hk).2.2 ⟨id,_,aR,by rw [e]; exact iD⟩
 refine ⟨⟨⟨by simp [St.aZ,h.g.len],fun gb go ro hg gH=>?_,h.g.inj,fun b' o' oC=>by have:=h.g.wf b' o' oC; simp; omega,fun g dB hg=>(h.g.cG g dB hg).mono hex,h.g.lo⟩,?_,h.t.mono hex,h.n,h.d⟩,?_⟩
 ·rcases bK hg with ⟨rfl,rfl,_⟩ | ⟨bW,xF⟩
  ·rw [aR] at gH
   cases gH
   refine ⟨by rw [de]; exact m1,m2,fun j' row t X2 JR=>?_⟩
   rcases bK X2 with ⟨rfl,rfl,_⟩ | ⟨X3,Uj⟩
   ·rw [GJ] at JR
    cases JR
    exact ⟨hlen.symm,jm,oE,vs',setRow_heap w _ _ _ _ (0,0) hb,p2,p3,by rw [dl]; exact p4,p5,hr.mono hex,h1,ht⟩
   ·have h4:=m3 j' row t Uj JR
    cases t with
    | aN=>exact h4
    | full _=>exact h4
    | tok f1 b1 c1=>
     obtain ⟨h5,h6,Uk,X4,k1,k2,k3,k4,k5,k6,k7,k8⟩:=h4
     have Gr:b1≠b:=fun e=>X3 (m2 j' j f1 b1 c1 f c JR (by rw [e]; exact GJ)).symm
     exact ⟨h5,h6,Uk,X4,(setRow_other w _ b1 _ Gr).trans k1,k2,k3,k4,k5,k6.mono hex,k7,k8⟩
  ·refine (h.g.obj gb go ro xF gH).mono hex (fun b' iQ=>setRow_other w _ b' _ (fun e=>bW ?_)) (fun _ _ _ hi=>hi)
   subst e
   exact h.g.inj id gb _ _ b' aR gH iD iQ
 ·exact h.b.bl hex (fun k dB fA=>setRow_other w _ _ _ (ux k dB fA)) (fun _ _ _ _ hi=>hi) (fun _ _ _ hl=>hl)
 ·have uh:Own R β s.boxes b:=.inl ⟨id,_,aR,iD⟩
  exact ⟨hex,rfl,rfl,rfl,by simp,fun b' _ hn=>setRow_other w _ b' _ (fun e=>hn (e ▸ uh)),fun _ _ hb=>hb,fun b o hi _ _=>hi⟩
theorem aL.GK (h:aL E R w β s a) {id f b c:Nat} {es es':List AV} {sz:Nat} {el:TypeId} {cur oE:Array Value} {vs':List Value} (hid:nth s.G id=some (.cP es sz el)) (aR:nth R.obj id=some (.tok f b c 0))
  (hb:w.heap[b]?=some (.cells cur el (0,0))) (hlen:es'.length=es.length) (jm:cW sz es') (dl:oE.size=cur.size) (hr:aA R w (ar es') vs') (h1:∀ v∈vs',v.oneCell'=true) (ht:oE.toList.take (f * sz)=vs') :
  aL E R (w.setRow b oE) β (s.aZ (au s.G id (.cP es' sz el))) a∧Step R w β s.boxes R (w.setRow b oE) β s.boxes:=by
 obtain ⟨_,q0,q1,M4,Wu,p1,p2,p3,p4,p5,p6,p7,p8⟩:=h.g.obj id _ _ hid aR
 rw [hb] at p1
 cases p1
 have hex:=fN (R:=R) (w:=w) p5 oE
 have ux:∀ k cs,cO s.boxes k=some cs→β k≠b:=fun k cs hk e=>(h.b.box k cs hk).2.2 ⟨id,_,aR,by rw [e]; rfl⟩
 refine ⟨⟨⟨by simp [St.aZ,h.g.len],fun gb go ro hg gH=>?_,h.g.inj,fun b' o' oC=>by have:=h.g.wf b' o' oC; simp; omega,fun g dB hg=>(h.g.cG g dB hg).mono hex,h.g.lo⟩,?_,h.t.mono hex,h.n,h.d⟩,?_⟩
 ·rcases bK hg with ⟨rfl,rfl,_⟩ | ⟨bW,xF⟩
  ·rw [aR] at gH
   cases gH
   exact ⟨rfl,by rw [hlen]; exact q0,jm,oE,vs',setRow_heap w _ _ _ _ (0,0) hb,p2,p3,by rw [dl]; exact p4,p5,hr.mono hex,h1,ht⟩
  ·refine (h.g.obj gb go ro xF gH).mono hex (fun b' iQ=>setRow_other w _ b' _ (fun e=>bW ?_)) (fun _ _ _ hi=>hi)
   subst e
   exact h.g.inj id gb _ _ b' aR gH rfl iQ
 ·exact h.b.bl hex (fun k dB fA=>setRow_other w _ _ _ (ux k dB fA)) (fun _ _ _ _ hi=>hi) (fun _ _ _ hl=>hl)
 ·have uh:Own R β s.boxes b:=.inl ⟨id,_,aR,rfl⟩
  exact ⟨hex,rfl,rfl,rfl,by simp,fun b' _ hn=>setRow_other w _ b' _ (fun e=>hn (e ▸ uh)),fun _ _ hb=>hb,fun b o hi _ _=>hi⟩
theorem aL.DY (h:aL E R w β s a) {id b c i off:Nat} {es:List AV} {sz:Nat} {el:TypeId} {cur:Array Value} {vs us:List Value} {e':AV} (hid:nth s.G id=some (.cP es sz el)) (aR:nth R.obj id=some (.tok es.length b c 0))
  (hb:w.heap[b]?=some (.cells cur el (0,0))) (jm:cW sz es) (hle:es.length≤c) (nS:cur.size=c * sz) (hr:aA R w (ar es) vs) (h1:∀ v∈vs,v.oneCell'=true) (ht:cur.toList.take (es.length * sz)=vs) (hi:i < es.length)
  (h2:∀ v∈us,v.oneCell'=true) (rC:off+us.length≤sz) (lS:e'.cells.length=sz) (JS:e'.aI=true) (M5:aA R w e'.cells (((vs.drop (i * sz)).take sz).take off++us++((vs.drop (i * sz)).take sz).drop (off+us.length))) :
  aL E R (w.setRow b ⟨cur.toList.take (i * sz+off)++us++cur.toList.drop (i * sz+off+us.length)⟩) β (s.aZ (au s.G id (.cP (au es i e') sz el))) a ∧
   Step R w β s.boxes R (w.setRow b ⟨cur.toList.take (i * sz+off)++us++cur.toList.drop (i * sz+off+us.length)⟩) β s.boxes:=by
 have xN:=rB (sz:=sz) hi
 have za:es.length * sz≤cur.toList.length:=by
  rw [show cur.toList.length=cur.size from Array.length_toList,nS]
  exact Nat.mul_le_mul_right _ hle
 have BS:vs.length=es.length * sz:=by rw [← hr.length,bp jm]
 refine h.GK hid aR hb (de _ _ _) (Cn jm lS JS) ?_ (vs':=vs.take (i * sz)++(((vs.drop (i * sz)).take sz).take off++us++((vs.drop (i * sz)).take sz).drop (off+us.length))++vs.drop (i * sz+sz)) ?_ ?_ ?_
 ·rw [List.size_toArray,← Array.length_toList]
  simp only [List.length_append,List.length_take,List.length_drop]
  omega
 ·rw [si jm hi lS,dh _ _ _ (by rw [lS,bp jm]; exact xN),lS]
  exact ((hr.take _).append M5).append (hr.drop _)
 ·intro v hv
  simp only [List.mem_append] at hv
  rcases hv with (hv | ((hv | hv) | hv)) | hv
  ·exact h1 v (List.mem_of_mem_take hv)
  ·exact h1 v (List.mem_of_mem_drop (List.mem_of_mem_take (List.mem_of_mem_take hv)))
  ·exact h2 v hv
  ·exact h1 v (List.mem_of_mem_drop (List.mem_of_mem_take (List.mem_of_mem_drop hv)))
  ·exact h1 v (List.mem_of_mem_drop hv)
 ·rw [List.toList_toArray,oG _ _ _ _ _ _ za xN rC,ht]
theorem aL.DZ (h:aL E R w β s a) {id j b c i off:Nat} {rows:List (List AV)} {es:List AV} {ts:List TR} {sz:Nat} {el:TypeId} {cur:Array Value} {vs us:List Value} {e':AV} (hid:nth s.G id=some (.ga rows sz el)) (aR:nth R.obj id=some (.aH ts)) (GJ:nth ts j=some (.tok es.length b c))
  (hb:w.heap[b]?=some (.cells cur el (0,0))) (pJ:eM sz es) (hle:es.length≤c) (nS:cur.size=c * sz) (hr:aA R w (ar es) vs) (h1:∀ v∈vs,v.oneCell'=true) (ht:cur.toList.take (es.length * sz)=vs) (hi:i < es.length)
  (h2:∀ v∈us,v.oneCell'=true) (rC:off+us.length≤sz) (lS:e'.cells.length=sz) (JS:e'.aI=true) (gd:e'.closed=true) (M5:aA R w e'.cells (((vs.drop (i * sz)).take sz).take off++us++((vs.drop (i * sz)).take sz).drop (off+us.length))) :
  aL E R (w.setRow b ⟨cur.toList.take (i * sz+off)++us++cur.toList.drop (i * sz+off+us.length)⟩) β (s.aZ (au s.G id (.ga (au rows j (au es i e')) sz el))) a ∧
   Step R w β s.boxes R (w.setRow b ⟨cur.toList.take (i * sz+off)++us++cur.toList.drop (i * sz+off+us.length)⟩) β s.boxes:=by
 have jm:=pJ.g
 have xN:=rB (sz:=sz) hi
 have za:es.length * sz≤cur.toList.length:=by
  rw [show cur.toList.length=cur.size from Array.length_toList,nS]
  exact Nat.mul_le_mul_right _ hle
 have BS:vs.length=es.length * sz:=by rw [← hr.length,bp jm]
 refine h.M3 hid aR GJ hb (de _ _ _) (xK pJ lS JS gd) ?_ (vs':=vs.take (i * sz)++(((vs.drop (i * sz)).take sz).take off++us++((vs.drop (i * sz)).take sz).drop (off+us.length))++vs.drop (i * sz+sz)) ?_ ?_ ?_
 ·rw [List.size_toArray,← Array.length_toList]
  simp only [List.length_append,List.length_take,List.length_drop]
  omega
 ·rw [si jm hi lS,dh _ _ _ (by rw [lS,bp jm]; exact xN),lS]
  exact ((hr.take _).append M5).append (hr.drop _)
 ·intro v hv
  simp only [List.mem_append] at hv
  rcases hv with (hv | ((hv | hv) | hv)) | hv
  ·exact h1 v (List.mem_of_mem_take hv)
  ·exact h1 v (List.mem_of_mem_drop (List.mem_of_mem_take (List.mem_of_mem_take hv)))
  ·exact h2 v hv
  ·exact h1 v (List.mem_of_mem_drop (List.mem_of_mem_take (List.mem_of_mem_drop hv)))
  ·exact h1 v (List.mem_of_mem_drop hv)
 ·rw [List.toList_toArray,oG _ _ _ _ _ _ za xN rC,ht]
theorem aL.D0 (h:aL E R w β s a) {id b c off:Nat} {es ns:List AV} {sz:Nat} {el:TypeId} {cur:Array Value} {vs us:List Value} (hid:nth s.G id=some (.cP es sz el)) (aR:nth R.obj id=some (.tok es.length b c 0))
  (hb:w.heap[b]?=some (.cells cur el (0,0))) (jm:cW sz es) (hle:es.length≤c) (nS:cur.size=c * sz) (hr:aA R w (ar es) vs) (h1:∀ v∈vs,v.oneCell'=true) (ht:cur.toList.take (es.length * sz)=vs)
  (rC:off+ns.length≤es.length) (Wv:cW sz ns) (hu:aA R w (ar ns) us) (h2:∀ v∈us,v.oneCell'=true) :
  aL E R (w.setRow b ⟨cur.toList.take (off * sz)++us++cur.toList.drop (off * sz+us.length)⟩) β (s.aZ (au s.G id (.cP (bu es off ns) sz el))) a ∧
   Step R w β s.boxes R (w.setRow b ⟨cur.toList.take (off * sz)++us++cur.toList.drop (off * sz+us.length)⟩) β s.boxes:=by
 have D1:us.length=ns.length * sz:=by rw [← hu.length,bp Wv]
 have xN:off * sz+ns.length * sz≤es.length * sz:=by rw [← Nat.add_mul]; exact Nat.mul_le_mul_right _ rC
 have za:es.length * sz≤cur.toList.length:=by
  rw [show cur.toList.length=cur.size from Array.length_toList,nS]
  exact Nat.mul_le_mul_right _ hle
 have BS:vs.length=es.length * sz:=by rw [← hr.length,bp jm]
 have hm:=oG cur.toList us (es.length * sz) (off * sz) (ns.length * sz) 0 za xN (by omega)
 simp only [Nat.add_zero,List.take_zero,List.nil_append,Nat.zero_add] at hm
 rw [D1,ht,show List.drop (ns.length * sz) (List.take (ns.length * sz) (List.drop (off * sz) vs))=[] from List.drop_of_length_le (by rw [List.length_take]; exact Nat.min_le_left _ _),List.append_nil] at hm
 rw [dh _ _ _ rC]
 refine h.GK hid aR hb (by simp; omega) (pI (pI (xM _ jm) Wv) (E0 _ jm)) ?_ (vs':=vs.take (off * sz)++us++vs.drop (off * sz+ns.length * sz)) ?_ ?_ ?_
 ·rw [List.size_toArray,← Array.length_toList]
  simp only [List.length_append,List.length_take,List.length_drop,D1]
  omega
 ·rw [bQ,bQ,fR _ jm,mz _ jm,Nat.add_mul]
  exact ((hr.take _).append hu).append (hr.drop _)
 ·intro v hv
  simp only [List.mem_append] at hv
  rcases hv with (hv | hv) | hv
  ·exact h1 v (List.mem_of_mem_take hv)
  ·exact h2 v hv
  ·exact h1 v (List.mem_of_mem_drop hv)
 ·rw [List.toList_toArray,D1]
  exact hm
theorem pK (h:aL E R w β s a) (t:TypeId) (p x:Operand) (ho:o.op=.store t p x) (hd:o.dst=none) {id f i off sz:Nat} {ty:TypeId} (EV:ba E s.ab p=.v (.gp id f i off sz ty)) {x':SV} (rx:lZ R w β x' (a.eval x)) {s':St} (hs:dU E s t (.v (.gp id f i off sz ty)) x'=some (true,s')) :
  bn E R w β s a o s':=by
 have rp:=aF h p
 rw [EV] at rp
 have LX:Rel R w (.gp id f i off sz ty) (a.eval p):=rp
 generalize JI:a.eval p=pv at LX
 unfold dU at hs
 simp only at hs
 split at hs
 ·rename_i ti v es aT el Ga hid
  split at hs
  ·rename_i dD
   simp only [Bool.and_eq_true] at dD
   obtain ⟨⟨EU,hlen⟩,Cp⟩:=dD
   have hlen:=Nat.eq_of_beq_eq_true hlen
   have Cp:=Nat.eq_of_beq_eq_true Cp
   subst Cp
   have Ul:Rel R w v (a.eval x):=rx
   obtain ⟨c1,c2⟩:=Rel.cells Ul EU
   have pf:v.cells.length=(a.eval x).cells.toList.length:=c1.length
   cases LX with
   | @gp _ _ _ _ _ b o' _ ro aR cM=>
   obtain ⟨b',c',cur,vs,rfl,g1,g2,g3,g4,g5,g6,g7,g8,g9⟩:=lz h.g hid aR (fun k=>by subst k; exact cM)
   have BS:vs.length=es.length * sz:=by rw [← g7.length,bp g1]
   have za:es.length * sz≤cur.toList.length:=by
    rw [show cur.toList.length=cur.size from Array.length_toList,g5]
    exact Nat.mul_le_mul_right _ g3
   split at hs
   ·rename_i hw
    rw [Bool.and_eq_true] at hw
    have rC:=Nat.eq_of_beq_eq_true hw.1
    have D2:=Nat.eq_of_beq_eq_true hw.2
    subst rC
    injection hs with hs
    injection hs with h1 h2
    rw [Bool.and_eq_true,decide_eq_true_eq,decide_eq_true_eq] at h1
    subst h2
    obtain ⟨rfl,rfl⟩:=cM.2 h1.1
    have xN:=rB (sz:=sz) h1.2
    have aW:=fe (E:=E) (w:=w) Ga (b:=b) (vs:=cur.toList) (off:=i * sz+0) (c:=a.eval x) g2 (by rw [← pf]; exact hlen) (by rw [← pf]; omega) c2
    obtain ⟨r1,r2⟩:=h.DY (us:=(a.eval x).cells.toList) (off:=0) (i:=i) (e':=v) hid aR g2 g1 g3 g5 g7 g8 g9 h1.2 c2 (by rw [← pf]; omega) (by omega) EU (by
     rw [List.take_zero,List.nil_append,Nat.zero_add,List.drop_of_length_le (by rw [List.length_take,← pf]; omega),List.append_nil]
     exact c1)
    simp only [Nat.add_zero] at JI aW r1 r2
    refine ⟨.skip,undef,_,R,β,?_,.inr ⟨rfl,rfl⟩,by rw [hd]; exact r1,r2⟩
    simp [execOp,ho,Instr.storeAt,JI,Instr.sureAddr,aW]
   ·split at hs
    ·rename_i cc cs hg
     split at hs
     ·rename_i hw
      simp only [Bool.and_eq_true] at hw
      obtain ⟨hle,Cq⟩:=hw
      have hle:=Nat.le_of_ble_eq_true hle
      have Cq:=Nat.eq_of_beq_eq_true Cq
      injection hs with hs
      injection hs with h1 h2
      subst h1; subst h2
      obtain ⟨X5,X6,e,Ay,DX,he,wR⟩:=uv hg
      rw [hid] at Ay
      cases Ay
      obtain ⟨rfl,rfl⟩:=cM.2 DX
      have hi:i < es.length:=aQ he
      have xN:=rB (sz:=sz) hi
      have M2:=g1 e (tD he)
      have dq:aA R w e.cells ((vs.drop (i * sz)).take sz):=by
       rw [← js g1 he]
       exact (g7.drop _).take _
      have hw:=(wR.cells M2.2).rel dq
      have QY:aA R w cs ((vs.drop (i * sz)).take sz):=hw
      have aW:=fe (E:=E) (w:=w) Ga (b:=b) (vs:=cur.toList) (off:=i * sz+off) (c:=a.eval x) g2 (by rw [← pf]; exact hlen) (by rw [← pf]; omega) c2
      have wS:off+v.cells.length≤cs.length:=by omega
      obtain ⟨r1,r2⟩:=h.DY (us:=(a.eval x).cells.toList) (off:=off) (i:=i) (e':=.agg (bu cs off v.cells)) hid aR g2 g1 g3 g5 g7 g8 g9 hi c2 (by rw [← pf]; omega) (by show (bu cs off v.cells).length=sz; rw [nW _ _ _ wS]; exact Cq) rfl (by
       show aA R w (bu cs off v.cells) _
       rw [dh _ _ _ wS,pf]
       exact ((QY.take _).append c1).append (QY.drop _))
      refine ⟨.skip,undef,_,R,β,?_,.inr ⟨rfl,rfl⟩,by rw [hd]; exact r1,r2⟩
      simp [execOp,ho,Instr.storeAt,JI,Instr.sureAddr,aW]
     ·cases hs
    ·cases hs
  ·cases hs
 ·cases hs
theorem zb (h:aL E R w β s a) (t:TypeId) (p x:Operand) (ho:o.op=.store t p x) (hd:o.dst=none) {id j f i off sz:Nat} {ty:TypeId} (EV:ba E s.ab p=.v (.rp id j f i off sz ty)) {x':SV} (rx:lZ R w β x' (a.eval x)) {s':St} (hs:dU E s t (.v (.rp id j f i off sz ty)) x'=some (true,s')) :
  bn E R w β s a o s':=by
 have rp:=aF h p
 rw [EV] at rp
 have LX:Rel R w (.rp id j f i off sz ty) (a.eval p):=rp
 generalize JI:a.eval p=pv at LX
 unfold dU at hs
 simp only at hs
 split at hs
 ·rename_i ti v rows aT el Ga hid
  split at hs
  ·rename_i dD
   simp only [Bool.and_eq_true] at dD
   obtain ⟨⟨EU,hlen⟩,Cp⟩:=dD
   have hlen:=Nat.eq_of_beq_eq_true hlen
   have Cp:=Nat.eq_of_beq_eq_true Cp
   subst Cp
   have Ul:Rel R w v (a.eval x):=rx
   obtain ⟨c1,c2⟩:=Rel.cells Ul EU
   have pf:v.cells.length=(a.eval x).cells.toList.length:=c1.length
   cases LX with
   | @rp _ _ _ _ _ _ b o' _ ro aR cM=>
   split at hs
   ·rename_i hw
    rw [Bool.and_eq_true] at hw
    have rC:=Nat.eq_of_beq_eq_true hw.1
    have D2:=Nat.eq_of_beq_eq_true hw.2
    subst rC
    injection hs with hs
    injection hs with h1 h2
    rw [Bool.and_eq_true,Bool.and_eq_true,decide_eq_true_eq,decide_eq_true_eq] at h1
    obtain ⟨⟨Um,Ww⟩,Un⟩:=h1
    subst h2
    obtain ⟨ts,c',cur,vs,rfl,GJ,iW,rfl,wL,g2,g3,g4,g5,g6,g7,g8,g9⟩:=yZ h.g hid aR cM Um
    have g1:=wL.g
    have BS:vs.length=(rowOf rows j).length * sz:=by rw [← g7.length,bp g1]
    have za:(rowOf rows j).length * sz≤cur.toList.length:=by
     rw [show cur.toList.length=cur.size from Array.length_toList,g5,← Um]
     exact Nat.mul_le_mul_right _ g3
    subst Um
    have xN:=rB (sz:=sz) Ww
    have aW:=fe (E:=E) (w:=w) Ga (b:=b) (vs:=cur.toList) (off:=i * sz+0) (c:=a.eval x) g2 (by rw [← pf]; exact hlen) (by rw [← pf]; omega) c2
    obtain ⟨r1,r2⟩:=h.DZ (us:=(a.eval x).cells.toList) (off:=0) (i:=i) (e':=v) hid aR GJ g2 wL g3 g5 g7 g8 g9 Ww c2 (by rw [← pf]; omega) (by omega) EU Un (by
     rw [List.take_zero,List.nil_append,Nat.zero_add,List.drop_of_length_le (by rw [List.length_take,← pf]; omega),List.append_nil]
     exact c1)
    simp only [Nat.add_zero] at JI aW r1 r2
    refine ⟨.skip,undef,_,R,β,?_,.inr ⟨rfl,rfl⟩,by rw [hd]; exact r1,r2⟩
    simp [execOp,ho,Instr.storeAt,JI,Instr.sureAddr,aW]
   ·split at hs
    ·rename_i cc cs hg
     split at hs
     ·rename_i hw
      simp only [Bool.and_eq_true] at hw
      obtain ⟨hle,Cq⟩:=hw
      have hle:=Nat.le_of_ble_eq_true hle
      have Cq:=Nat.eq_of_beq_eq_true Cq
      injection hs with hs
      injection hs with h1 h2
      rw [Bool.and_eq_true] at h1
      obtain ⟨h1,Un⟩:=h1
      subst h1; subst h2
      obtain ⟨X5,X6,e,Ay,DX,he,wR⟩:=uw hg
      rw [hid] at Ay
      cases Ay
      obtain ⟨ts,c',cur,vs,rfl,GJ,iW,rfl,wL,g2,g3,g4,g5,g6,g7,g8,g9⟩:=yZ h.g hid aR cM DX
      have g1:=wL.g
      have BS:vs.length=(rowOf rows j).length * sz:=by rw [← g7.length,bp g1]
      have za:(rowOf rows j).length * sz≤cur.toList.length:=by
       rw [show cur.toList.length=cur.size from Array.length_toList,g5,← DX]
       exact Nat.mul_le_mul_right _ g3
      subst DX
      have hi:i < (rowOf rows j).length:=aQ he
      have xN:=rB (sz:=sz) hi
      have M2:=g1 e (tD he)
      have dq:aA R w e.cells ((vs.drop (i * sz)).take sz):=by
       rw [← js g1 he]
       exact (g7.drop _).take _
      have hw:=(wR.cells M2.2).rel dq
      have QY:aA R w cs ((vs.drop (i * sz)).take sz):=hw
      have aW:=fe (E:=E) (w:=w) Ga (b:=b) (vs:=cur.toList) (off:=i * sz+off) (c:=a.eval x) g2 (by rw [← pf]; exact hlen) (by rw [← pf]; omega) c2
      have wS:off+v.cells.length≤cs.length:=by omega
      obtain ⟨r1,r2⟩:=h.DZ (us:=(a.eval x).cells.toList) (off:=off) (i:=i) (e':=.agg (bu cs off v.cells)) hid aR GJ g2 wL g3 g5 g7 g8 g9 hi c2 (by rw [← pf]; omega) (by show (bu cs off v.cells).length=sz; rw [nW _ _ _ wS]; exact Cq) rfl Un (by
       show aA R w (bu cs off v.cells) _
       rw [dh _ _ _ wS,pf]
       exact ((QY.take _).append c1).append (QY.drop _))
      refine ⟨.skip,undef,_,R,β,?_,.inr ⟨rfl,rfl⟩,by rw [hd]; exact r1,r2⟩
      simp [execOp,ho,Instr.storeAt,JI,Instr.sureAddr,aW]
     ·cases hs
    ·cases hs
  ·cases hs
 ·cases hs
theorem Az (h:aL E R w β s a) (t:TypeId) (p x:Operand) (ho:o.op=.store t p x) (hd:o.dst=none) {s':St} (hs:dU E s t (ba E s.ab p) (ba E s.ab x)=some (true,s')) :
  bn E R w β s a o s':=by
 have Tc:=hs
 unfold dU at hs
 split at hs
 ·rename_i id f i off sz ty EV
  rw [EV] at Tc
  exact pK h t p x ho hd EV (aF h x) Tc
 ·rename_i id j f i off sz ty EV
  rw [EV] at Tc
  exact zb h t p x ho hd EV (aF h x) Tc
 ·split at hs
  ·rename_i zd hv
   injection hs with hs
   injection hs with h1 h2
   subst h2
   exact Ca h t p x ho hd hv
  ·cases hs
def af.reset (R:af) (id:Nat) (ro:RO):af:=⟨R.I,au R.obj id ro⟩
theorem oH {id g:Nat} {r0 ro:RO} (hid:nth R.obj id=some r0) (aR:∀ b,ro.has b→b=g) {b:Nat} (hl:Live (R.reset id ro) b):b=g∨Live R b:=by
 obtain ⟨i,r,h1,h2⟩:=hl
 rcases ap hid h1 with ⟨_,rfl⟩ | ⟨_,h1⟩
 ·exact .inl (aR b h2)
 ·exact .inr ⟨i,r,h1,h2⟩
theorem aL.M6 (h:aL E R w β s a) {cur:Array Value} {vs:List Value} {es es':List AV} {elem:TypeId} {sz cap id:Nat} {r0:RO} (hg:nth s.G id=some (.cP es sz elem)) (hid:nth R.obj id=some r0) (hf:∀ b c,bI r0 (.tok es'.length b c 0))
  (hn:es'.length≤cap) (hm:cap≤maxLen) (hs:cur.size=cap * sz) (jm:cW sz es') (hr:aA R w (ar es') vs) (h1:∀ v∈vs,v.oneCell'=true) (ht:cur.toList.take (es'.length * sz)=vs) :
  aL E (R.reset id (.tok es'.length w.heap.size cap 0)) (w.drew.alloc (.cells cur elem)) β (s.aZ (au s.G id (.cP es' sz elem))) a ∧
  Step R w β s.boxes (R.reset id (.tok es'.length w.heap.size cap 0)) (w.drew.alloc (.cells cur elem)) β s.boxes:=by
 have e:Ext R w (R.reset id (.tok es'.length w.heap.size cap 0)) (w.drew.alloc (.cells cur elem)):=
  ⟨fun _ _ h=>h,fun b o hi=>bo (heap_alloc_old w.drew _ b (h.g.wf b o hi)) o,fun i r hr=>by
   by_cases ei:id=i
   ·subst ei
    rw [hid] at hr
    cases hr
    exact ⟨_,aj hid,hf _ _⟩
   ·exact ⟨r,by rw [af.reset,aB ei]; exact hr,bI.refl r⟩,.old fun b hb=>heap_alloc_old w.drew _ b hb⟩
 have old:∀ b,b < w.heap.size→(w.drew.alloc (.cells cur elem)).heap[b]?=w.heap[b]?:=fun b hb=>heap_alloc_old w.drew _ b hb
 have new:(w.drew.alloc (.cells cur elem)).heap[w.heap.size]?=some (.cells cur elem (0,0)):=heap_alloc_new w.drew _
 have live:∀ b,b < w.heap.size→Live (R.reset id (.tok es'.length w.heap.size cap 0)) b→Live R b:=fun b hb hl=>by
  rcases oH (g:=w.heap.size) (ro:=.tok es'.length w.heap.size cap 0) hid (fun _ h=>h) hl with rfl | hl
  ·omega
  ·exact hl
 refine ⟨⟨⟨by simp [St.aZ,af.reset,h.g.len],fun i gg r jP h2=>?_,fun i j ri rj b jP h2 b1 b2=>?_,fun b o hi=>?_,fun g cs hg=>(h.g.cG g cs hg).mono e,Nat.le_succ_of_le h.g.lo⟩,?_,h.t.mono e,h.n,h.d.mono e⟩,?_⟩
 ·rcases ap hid h2 with ⟨rfl,rfl⟩ | ⟨bW,h2⟩
  ·simp only [St.aZ] at jP
   rw [aj hg] at jP
   cases jP
   exact ⟨rfl,rfl,jm,cur,vs,new,hn,hm,hs,fun o hi=>by have:=h.g.wf _ _ hi; omega,hr.mono e,h1,ht⟩
  ·simp only [St.aZ] at jP
   rw [aB (Ne.symm bW)] at jP
   exact (h.g.obj i gg r jP h2).mono e (fun b hb=>old b (h.g.bq ⟨i,r,h2,hb⟩)) (fun b o _ hi=>hi)
 ·rcases ap hid jP with ⟨g3,e1⟩ | ⟨g3,g1⟩
  ·rcases ap hid h2 with ⟨g4,e2⟩ | ⟨g4,g2⟩
   ·omega
   ·have:=h.g.bq ⟨j,rj,g2,b2⟩
    rw [e1] at b1
    simp [RO.has] at b1
    omega
  ·rcases ap hid h2 with ⟨g4,e2⟩ | ⟨g4,g2⟩
   ·have:=h.g.bq ⟨i,ri,g1,b1⟩
    rw [e2] at b2
    simp [RO.has] at b2
    omega
   ·exact h.g.inj i j ri rj b g1 g2 b1 b2
 ·have:=h.g.wf b o hi
  simp
  omega
 ·exact h.b.bl e (fun k cs hk=>old _ (h.cI (.inr ⟨k,cs,hk,rfl⟩))) (fun k cs o hk hi=>hi) (fun k cs hk hl=>live _ (h.cI (.inr ⟨k,cs,hk,rfl⟩)) hl)
 ·refine ⟨e,rfl,rfl,rfl,by simp,fun b hb _=>old b hb,fun b hb ho=>?_,fun b o hi hb _=>hi⟩
  rcases ho with ho | ho
  ·exact .inl (live b hb ho)
  ·exact .inr ho
theorem aL.JU (h:aL E R w β s a) {cur:Array Value} {vs:List Value} {es es':List AV} {elem:TypeId} {sz cap id:Nat} {r0:RO} (hg:nth s.G id=some (.cP es sz elem)) (hid:nth R.obj id=some r0) (hf:∀ b c,bI r0 (.tok es'.length b c 0))
  (hn:es'.length≤cap) (hm:cap≤maxLen) (hs:cur.size=cap * sz) (jm:cW sz es') (hr:aA R w (ar es') vs) (h1:∀ v∈vs,v.oneCell'=true) (ht:cur.toList.take (es'.length * sz)=vs) :
  aL E (R.reset id (.tok es'.length w.heap.size cap 0)) (w.alloc (.cells cur elem)) β (s.aZ (au s.G id (.cP es' sz elem))) a ∧
  Step R w β s.boxes (R.reset id (.tok es'.length w.heap.size cap 0)) (w.alloc (.cells cur elem)) β s.boxes:=by
 have e:Ext R w (R.reset id (.tok es'.length w.heap.size cap 0)) (w.alloc (.cells cur elem)):=
  ⟨fun _ _ h=>h,fun b o hi=>bo (heap_alloc_old w _ b (h.g.wf b o hi)) o,fun i r hr=>by
   by_cases ei:id=i
   ·subst ei
    rw [hid] at hr
    cases hr
    exact ⟨_,aj hid,hf _ _⟩
   ·exact ⟨r,by rw [af.reset,aB ei]; exact hr,bI.refl r⟩,.old fun b hb=>heap_alloc_old w _ b hb⟩
 have old:∀ b,b < w.heap.size→(w.alloc (.cells cur elem)).heap[b]?=w.heap[b]?:=fun b hb=>heap_alloc_old w _ b hb
 have new:(w.alloc (.cells cur elem)).heap[w.heap.size]?=some (.cells cur elem (0,0)):=heap_alloc_new w _
 have live:∀ b,b < w.heap.size→Live (R.reset id (.tok es'.length w.heap.size cap 0)) b→Live R b:=fun b hb hl=>by
  rcases oH (g:=w.heap.size) (ro:=.tok es'.length w.heap.size cap 0) hid (fun _ h=>h) hl with rfl | hl
  ·omega
  ·exact hl
 refine ⟨⟨⟨by simp [St.aZ,af.reset,h.g.len],fun i gg r jP h2=>?_,fun i j ri rj b jP h2 b1 b2=>?_,fun b o hi=>?_,fun g cs hg=>(h.g.cG g cs hg).mono e,h.g.lo⟩,?_,h.t.mono e,h.n,h.d.mono e⟩,?_⟩
 ·rcases ap hid h2 with ⟨rfl,rfl⟩ | ⟨bW,h2⟩
  ·simp only [St.aZ] at jP
   rw [aj hg] at jP
   cases jP
   exact ⟨rfl,rfl,jm,cur,vs,new,hn,hm,hs,fun o hi=>by have:=h.g.wf _ _ hi; omega,hr.mono e,h1,ht⟩
  ·simp only [St.aZ] at jP
   rw [aB (Ne.symm bW)] at jP
   exact (h.g.obj i gg r jP h2).mono e (fun b hb=>old b (h.g.bq ⟨i,r,h2,hb⟩)) (fun b o _ hi=>hi)
 ·rcases ap hid jP with ⟨g3,e1⟩ | ⟨g3,g1⟩
  ·rcases ap hid h2 with ⟨g4,e2⟩ | ⟨g4,g2⟩
   ·omega
   ·have:=h.g.bq ⟨j,rj,g2,b2⟩
    rw [e1] at b1
    simp [RO.has] at b1
    omega
  ·rcases ap hid h2 with ⟨g4,e2⟩ | ⟨g4,g2⟩
   ·have:=h.g.bq ⟨i,ri,g1,b1⟩
    rw [e2] at b2
    simp [RO.has] at b2
    omega
   ·exact h.g.inj i j ri rj b g1 g2 b1 b2
 ·have:=h.g.wf b o hi
  simp
  omega
 ·exact h.b.bl e (fun k cs hk=>old _ (h.cI (.inr ⟨k,cs,hk,rfl⟩))) (fun k cs o hk hi=>hi) (fun k cs hk hl=>live _ (h.cI (.inr ⟨k,cs,hk,rfl⟩)) hl)
 ·refine ⟨e,rfl,rfl,rfl,by simp,fun b hb _=>old b hb,fun b hb ho=>?_,fun b o hi hb _=>hi⟩
  rcases ho with ho | ho
  ·exact .inl (live b hb ho)
  ·exact .inr ho
theorem aL.JV (h:aL E R w β s a) {cur cur2:Array Value} {vs:List Value} {es es':List AV} {elem:TypeId} {sz id g c:Nat} (hg:nth s.G id=some (.cP es sz elem)) (hid:nth R.obj id=some (.tok es.length g c 0)) (bM:es.length < es'.length) (hn:es'.length≤c)
  (gI:w.heap[g]?=some (.cells cur elem (0,0))) (hs:cur2.size=cur.size) (jm:cW sz es') (hr:aA R w (ar es') vs) (h1:∀ v∈vs,v.oneCell'=true) (ht:cur2.toList.take (es'.length * sz)=vs) :
  aL E (R.reset id (.tok es'.length g c 0)) (w.setRow g cur2) β (s.aZ (au s.G id (.cP es' sz elem))) a ∧
  Step R w β s.boxes (R.reset id (.tok es'.length g c 0)) (w.setRow g cur2) β s.boxes:=by
 obtain ⟨_,q0,q1,M4,Wu,p1,p2,p3,p4,p5,p6,p7,p8⟩:=h.g.obj id _ _ hg hid
 rw [gI] at p1
 cases p1
 have s8:Live R g:=⟨id,_,hid,rfl⟩
 have old:∀ b,b≠g→(w.setRow g cur2).heap[b]?=w.heap[b]?:=fun b hb=>setRow_other w g b cur2 hb
 have new:(w.setRow g cur2).heap[g]?=some (.cells cur2 elem (0,0)):=setRow_heap w g cur cur2 elem (0,0) gI
 have e:Ext R w (R.reset id (.tok es'.length g c 0)) (w.setRow g cur2):=by
  have e0:=fN (R:=R) (w:=w) p5 cur2
  refine ⟨fun _ _ h=>h,e0.cell,fun i r hr=>?_,e0.lp⟩
  by_cases ei:id=i
  ·subst ei
   rw [hid] at hr
   cases hr
   exact ⟨_,aj hid,by omega,fun e=>by omega⟩
  ·exact ⟨r,by rw [af.reset,aB ei]; exact hr,bI.refl r⟩
 have live:∀ b,Live (R.reset id (.tok es'.length g c 0)) b→Live R b:=fun b hl=>by
  rcases oH (g:=g) (ro:=.tok es'.length g c 0) hid (fun _ h=>h) hl with rfl | hl
  ·exact s8
  ·exact hl
 have oF:∀ k cs,cO s.boxes k=some cs→β k≠g:=fun k cs hk eq=>(h.b.box k cs hk).2.2 (eq ▸ s8)
 refine ⟨⟨⟨by simp [St.aZ,af.reset,h.g.len],fun i gg r jP h2=>?_,fun i j ri rj b jP h2 b1 b2=>?_,fun b o hi=>?_,fun g cs hg=>(h.g.cG g cs hg).mono e,h.g.lo⟩,?_,h.t.mono e,h.n,h.d.mono e⟩,?_⟩
 ·rcases ap hid h2 with ⟨rfl,rfl⟩ | ⟨bW,h2⟩
  ·simp only [St.aZ] at jP
   rw [aj hg] at jP
   cases jP
   exact ⟨rfl,rfl,jm,cur2,vs,new,hn,p3,by rw [hs]; exact p4,p5,hr.mono e,h1,ht⟩
  ·simp only [St.aZ] at jP
   rw [aB (Ne.symm bW)] at jP
   have M0:∀ b,r.has b→b≠g:=fun b hb eq=>bW (h.g.inj i id _ _ b h2 hid hb (by rw [eq]; rfl))
   exact (h.g.obj i gg r jP h2).mono e (fun b hb=>old b (M0 b hb)) (fun b o hb hi=>hi)
 ·rcases ap hid jP with ⟨g3,e1⟩ | ⟨g3,g1⟩
  ·rcases ap hid h2 with ⟨g4,e2⟩ | ⟨g4,g2⟩
   ·omega
   ·rw [e1] at b1
    exact g3.trans (h.g.inj id j _ _ b hid g2 b1 b2)
  ·rcases ap hid h2 with ⟨g4,e2⟩ | ⟨g4,g2⟩
   ·rw [e2] at b2
    exact (h.g.inj i id _ _ b g1 hid b1 b2).trans g4.symm
   ·exact h.g.inj i j ri rj b g1 g2 b1 b2
 ·have:=h.g.wf b o hi
  simpa using this
 ·exact h.b.bl e (fun k cs hk=>old _ (oF k cs hk)) (fun k cs o hk hi=>hi) (fun k cs hk hl=>live _ hl)
 ·refine ⟨e,rfl,rfl,rfl,by simp,fun b hb my=>old b (fun eq=>my (.inl (eq ▸ s8))),fun b hb ho=>?_,fun b o hi hb my=>hi⟩
  rcases ho with ho | ho
  ·exact .inl (live b ho)
  ·exact .inr ho
theorem aL.GM (h:aL E R w β s a) {cur:Array Value} {vs:List Value} {es:List AV} {elem:TypeId} {sz cap:Nat} (hn:es.length≤cap) (hm:cap≤maxLen) (hs:cur.size=cap * sz) (jm:cW sz es) (hr:aA R w (ar es) vs) (h1:∀ v∈vs,v.oneCell'=true) (ht:cur.toList.take (es.length * sz)=vs) :
  aL E (R.add (.tok es.length w.heap.size cap 0)) (w.alloc (.cells cur elem)) β (s.cU (.cP es sz elem)) a:=
 h.jn (.cells cur elem) (.cP es sz elem) (.tok es.length w.heap.size cap 0) (by exact fun _ h=>h)
  ⟨rfl,rfl,jm,cur,vs,heap_alloc_new w _,hn,hm,hs,fun o hi=>by have:=h.g.wf _ _ hi; omega,hr.mono (fg h.g.wf _ _),h1,ht⟩
theorem tc (h:aL E R w β s a) (t:TypeId) (x y:Operand) (ho:o.op=.makeSlice t x y) {i:TI} (hi:E.ti t=some i) {k k':IntKind} {n m:Int} (hx:ba E s.ab x=.v (.int k n)) (hy:ba E s.ab y=.v (.int k' m))
  {elem esz lU:Nat} {ag:Bool} {z:AV} (hk:i.k=.sl elem esz ag lU (some z)) (hz:z.cells.length=esz) (Cj:1≤esz) (kG:z.aI=true) (kz:z.closed=true) (hc:0≤n∧n≤m∧m≤140737488355328∧m * lU≤140737488355328) :
  bn E R w β s a o ((s.cU (.cP (List.replicate n.toNat z) esz elem)).put o.dst (.v (.cL s.G.length n.toNat 0 esz n.toNat))):=by
 obtain ⟨us,z1,z2,aW⟩:=km h t x y ho hi hx hy hk hz Cj kG hc
 have GN:n.toNat≤m.toNat:=by omega
 have jm:=(du (n:=m.toNat) hz kG kz).g
 have D1:us.length=m.toNat * esz:=by rw [← z1.length,bp jm,List.length_replicate]
 have za:(List.replicate n.toNat z).length=n.toNat:=List.length_replicate
 have Gc:(List.replicate m.toNat z).take n.toNat=List.replicate n.toNat z:=by rw [List.take_replicate,Nat.min_eq_left GN]
 have hr:aA R w (ar (List.replicate n.toNat z)) (us.take (n.toNat * esz)):=by
  rw [← Gc,fR _ jm]
  exact z1.take _
 have r1:=h.GM (cur:=⟨us⟩) (vs:=us.take (n.toNat * esz)) (es:=List.replicate n.toNat z) (elem:=elem) (cap:=m.toNat) (by rw [za]; exact GN) (by unfold maxLen; omega) (by simpa using D1) (du hz kG kz).g hr (fun v hv=>z2 v (List.mem_of_mem_take hv)) (by rw [za])
 rw [za] at r1
 have e:=fg (R:=R) (w:=w) h.g.wf (.cells ⟨us⟩ elem) (.tok n.toNat w.heap.size m.toNat 0)
 exact ⟨_,.slice (some ⟨w.heap.size,0,none⟩) n.toNat m.toNat,_,R.add (.tok n.toNat w.heap.size m.toNat 0),β,aW,.inl rfl,r1.put o.dst (x:=.v (.cL s.G.length n.toNat 0 esz n.toNat)) (Rel.cL (fh h _) ⟨Nat.le_refl _,fun _=>⟨rfl,Nat.zero_add _,.inl (Nat.zero_mul _).symm⟩⟩ GN),by rw [aO]; exact cA h _ _ (by exact fun _ h=>h)⟩
theorem pL:∀ {G:List GO} {sz:Nat} {e:TypeId} {i j:Nat},ny G sz e i=some j→∃ k,j=i+k∧nth G k=some (.cP [] sz e)
 | [],_,_,_,_,h=>by cases h
 | g :: G,sz,e,i,j,h=>by
  have QZ:ny G sz e (i+1)=some j→∃ k,j=i+k∧nth (g :: G) k=some (.cP [] sz e):=fun h=>by
   obtain ⟨k,h1,h2⟩:=pL h
   exact ⟨k+1,by omega,h2⟩
  unfold ny at h
  split at h
  ·cases ‹_ :: _=[]›
  ·rename_i es s' e' G' iw
   obtain ⟨rfl,rfl⟩:=List.cons.inj iw
   split at h
   ·rename_i j' hj
    cases h
    exact QZ hj
   ·rw [Bool.cond_eq_ite] at h
    split at h
    ·rename_i hb
     rw [Bool.and_eq_true] at hb
     have q1:=Nat.eq_of_beq_eq_true hb.1
     have q2:=Nat.eq_of_beq_eq_true hb.2
     cases es with
     | nil=>
      injection h with h
      rw [q1,q2]
      exact ⟨0,by omega,rfl⟩
     | cons x l=>cases h
    ·cases h
  ·rename_i g' G' _ iw
   obtain ⟨rfl,rfl⟩:=List.cons.inj iw
   exact QZ h
theorem ze (h:aL E R w β s a) (t:TypeId) (x y:Operand) (ho:o.op=.makeSlice t x y) {i:TI} (hi:E.ti t=some i) {k k':IntKind} {n m:Int} (hx:ba E s.ab x=.v (.int k n)) (hy:ba E s.ab y=.v (.int k' m))
  {elem esz lU:Nat} {ag:Bool} {z:AV} (hk:i.k=.sl elem esz ag lU (some z)) (hz:z.cells.length=esz) (Cj:1≤esz) (kG:z.aI=true) {s':St} (hs:ln s o.dst elem esz lU z n m=some (true,s')) :
  bn E R w β s a o s':=by
 unfold ln at hs
 split at hs
 ·rename_i id hid
  split at hs
  ·rename_i kz
   injection hs with hs; injection hs with hc hs
   subst hs
   have hc:=of_decide_eq_true hc
   obtain ⟨gb,he,hid⟩:=pL hid
   rw [Nat.zero_add] at he
   subst he
   obtain ⟨us,z1,z2,aW⟩:=km h t x y ho hi hx hy hk hz Cj kG ⟨by omega,by omega,by omega,by omega⟩
   have GN:n.toNat≤m.toNat:=by omega
   have jm:=(du (n:=m.toNat) hz kG kz).g
   have D1:us.length=m.toNat * esz:=by rw [← z1.length,bp jm,List.length_replicate]
   have za:(List.replicate n.toNat z).length=n.toNat:=List.length_replicate
   have Gc:(List.replicate m.toNat z).take n.toNat=List.replicate n.toNat z:=by rw [List.take_replicate,Nat.min_eq_left GN]
   have hr:aA R w (ar (List.replicate n.toNat z)) (us.take (n.toNat * esz)):=by
    rw [← Gc,fR _ jm]
    exact z1.take _
   obtain ⟨ro,aR⟩:∃ ro,nth R.obj id=some ro:=by
    have bM:=aQ hid
    rw [← h.g.len] at bM
    exact ⟨R.obj[id],by rw [aE,List.getElem?_eq_getElem bM]⟩
   have hle:∀ b c,bI ro (.tok (List.replicate n.toNat z).length b c 0):=fun b c=>by
    have bh:=h.g.obj id _ _ hid aR
    rw [za]
    cases ro with
    | none=>exact bh.elim
    | aN=>show 1≤n.toNat; omega
    | bi _=>exact bh.elim
    | aH _=>exact bh.elim
    | tok f g c' k0=>
     obtain ⟨_,hf,_⟩:=bh
     simp only [List.length_nil] at hf
     exact ⟨by omega,fun e=>by omega⟩
   obtain ⟨r1,r2⟩:=h.JU (cur:=⟨us⟩) (vs:=us.take (n.toNat * esz)) (es':=List.replicate n.toNat z) (elem:=elem) (cap:=m.toNat) hid aR hle (by rw [za]; exact GN) (by unfold maxLen; omega) (by simpa using D1) (du hz kG kz).g hr (fun v hv=>z2 v (List.mem_of_mem_take hv)) (by rw [za])
   rw [za] at r1 r2
   exact ⟨_,.slice (some ⟨w.heap.size,0,none⟩) n.toNat m.toNat,_,_,β,aW,.inl rfl,r1.put o.dst (x:=.v (.cL id n.toNat 0 esz n.toNat)) (Rel.cL (aj aR) ⟨Nat.le_refl _,fun _=>⟨rfl,Nat.zero_add _,.inl (Nat.zero_mul _).symm⟩⟩ GN),by rw [aO]; exact r2⟩
  ·cases hs
 ·cases hs
theorem rD (h:aL E R w β s a) (t:TypeId) (len:Nat) (parts:Array (Nat × Operand)) (ho:o.op=.buildSlice t len parts) {k:LK} {esz:Nat} {es:List AV} (hv:bR E s t len parts.toList=some (.list k esz es)) {i:TI} (hi:E.ti t=some i) {elem aT lU:Nat} {ag:Bool} {z:Option AV} (hk:i.k=.sl elem aT ag lU z) (hm:len≤65536) :
  bn E R w β s a o ((s.cU (.cP es esz elem)).put o.dst (.v (.cL s.G.length len 0 esz len))):=by
 obtain ⟨es',MW,us,QW,QT,aW,g2,hlen,u2,u3,i',Ug,Ql,z',oC,fA⟩:=gn h t len parts ho hv
 cases QT
 rw [hi] at oC
 cases oC
 rw [hk] at fA
 cases fA
 have QX:us.length=len * esz:=by rw [← u2.length,cq g2,hlen]
 have r1:=h.GM (cur:=⟨us⟩) (vs:=us) (es:=es) (elem:=elem) (cap:=len) (by rw [hlen]; exact Nat.le_refl _) (by simp [maxLen]; omega) (by simpa using QX) g2.g u2 u3 (by rw [hlen,← QX]; exact List.take_length)
 rw [hlen] at r1
 exact ⟨_,.slice (some ⟨w.heap.size,0,none⟩) len len,_,R.add (.tok len w.heap.size len 0),β,aW,.inl rfl,r1.put o.dst (x:=.v (.cL s.G.length len 0 esz len)) (Rel.cL (fh h _) ⟨Nat.le_refl _,fun _=>⟨rfl,Nat.zero_add _,.inl (Nat.zero_mul _).symm⟩⟩ (Nat.le_refl _)),by rw [aO]; exact cA h _ _ (by exact fun _ h=>h)⟩
end ops
end Go.Am
