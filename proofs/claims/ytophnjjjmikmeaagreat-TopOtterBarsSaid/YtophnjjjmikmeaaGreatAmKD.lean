/- The abstract machine: what it does is what the model does: append. -/
import Derived.Test.YtophnjjjmikmeaaGreatAmKC
set_option linter.all false
namespace Go.Am
open Go
section ops
variable {E:Env} {R:af} {w:World} {β:Nat→Nat} {s:St} {a:Act} {o:Oper}
def af.upto (R:af) (g n:Nat) (obj:List RO):af:=⟨fun b o=>R.I b o∨(b=g∧o < n),obj⟩
theorem aq {l:List RO} {id i:Nat} {x r y:RO} (abE:nth l id=some y) (h:nth (au l id x) i=some r):(i=id∧r=x)∨(i≠id∧nth l i=some r):=by
 rcases bT h with ⟨rfl,rfl,_⟩ | ⟨cg,h⟩
 ·exact .inl ⟨rfl,rfl⟩
 ·exact .inr ⟨Ne.symm cg,h⟩
theorem Ef (wf:∀ b o,R.I b o→b < w.heap.size) (x:Obj) (n:Nat) (ro:RO):Ext R w (R.upto w.heap.size n (R.obj++[ro])) (w.drew.alloc x):=
 ⟨fun _ _ h=>.inl h,fun b o h=>bC (heap_alloc_old w.drew x b (wf b o h)) o,fun _ r h=>⟨r,bq h,bQ.refl r⟩,.old fun b hb=>heap_alloc_old w.drew x b hb⟩
theorem Eg (wf:∀ b o,R.I b o→b < w.heap.size) (x:Obj) {n id m:Nat} {r0:RO} (aX:nth R.obj id=some r0) (b' c':Nat) (bK:bQ r0 (.tok m b' c' 0)):Ext R w (R.upto w.heap.size n (au R.obj id (.tok m b' c' 0))) (w.drew.alloc x):=
 ⟨fun _ _ h=>.inl h,fun b o h=>bC (heap_alloc_old w.drew x b (wf b o h)) o,fun i r h=>by
  by_cases e:id=i
  ·subst e
   rw [aX] at h
   cases h
   exact ⟨_,an aX,bK⟩
  ·exact ⟨r,by rw [af.upto,aD e]; exact h,bQ.refl r⟩,.old fun b hb=>heap_alloc_old w.drew x b hb⟩
theorem aQ.P5 (h:aQ E R w β s a) {cur:Array Value} {elem:TypeId} {n sz cap:Nat} (hn:n≤cap) (hm:cap≤maxLen) (hs:cur.size=cap * sz) :
  aQ E (R.upto w.heap.size (n * sz) (R.obj++[.tok n w.heap.size cap 0])) (w.drew.alloc (.cells cur elem)) β (s.df (.tok n sz elem)) a ∧
  Step R w β s.boxes (R.upto w.heap.size (n * sz) (R.obj++[.tok n w.heap.size cap 0])) (w.drew.alloc (.cells cur elem)) β s.boxes:=by
 have e:=Ef (R:=R) (w:=w) h.g.wf (.cells cur elem) (n * sz) (.tok n w.heap.size cap 0)
 have old:∀ b,b < w.heap.size→(w.drew.alloc (.cells cur elem)).heap[b]?=w.heap[b]?:=fun b hb=>heap_alloc_old w.drew _ b hb
 have new:(w.drew.alloc (.cells cur elem)).heap[w.heap.size]?=some (.cells cur elem (0,0)):=heap_alloc_new w.drew _
 have hI:∀ b o,b < w.heap.size→(R.upto w.heap.size (n * sz) (R.obj++[.tok n w.heap.size cap 0])).I b o→R.I b o:=fun b o hb hi=>by
  rcases hi with hi | ⟨hi,_⟩
  ·exact hi
  ·omega
 refine ⟨⟨⟨by simp [St.df,af.upto,h.g.len],fun id g r h1 h2=>?_,fun i j ri rj b h1 h2 b1 b2=>?_,fun b o hi=>?_,fun g cs hg=>(h.g.ck g cs hg).mono e,by first | exact h.g.lo | exact Nat.le_succ_of_le h.g.lo⟩,?_,h.t.mono e,h.n,h.d.mono e⟩,?_⟩
 ·rcases ai h2 with h2 | ⟨h3,rfl⟩
  ·have bK:=aT h2
   rw [h.g.len] at bK
   rcases ai h1 with h1 | ⟨h4,_⟩
   ·exact (h.g.obj id g r h1 h2).mono e (fun b hb=>old b (h.g.bE ⟨id,r,h2,hb⟩)) (fun b o hb=>hI b o (h.g.bE ⟨id,r,h2,hb⟩))
   ·omega
  ·rcases ai h1 with h1 | ⟨h4,rfl⟩
   ·have:=aT h1
    rw [h3,h.g.len] at this
    omega
   ·refine ⟨rfl,cur,new,hn,hm,by omega,fun o' mY hi=>?_⟩
    rcases hi with hi | ⟨_,hi⟩
    ·have:=h.g.wf _ _ hi
     omega
    ·omega
 ·rcases ai h1 with g1 | ⟨h3,e1⟩
  ·rcases ai h2 with g2 | ⟨h4,e2⟩
   ·exact h.g.inj i j ri rj b g1 g2 b1 b2
   ·have:=h.g.bE ⟨i,ri,g1,b1⟩
    rw [e2] at b2
    simp [RO.has] at b2
    omega
  ·rcases ai h2 with g2 | ⟨h4,e2⟩
   ·have:=h.g.bE ⟨j,rj,g2,b2⟩
    rw [e1] at b1
    simp [RO.has] at b1
    omega
   ·omega
 ·rcases hi with hi | ⟨rfl,_⟩
  ·have:=h.g.wf b o hi
   simp
   omega
  ·simp
 ·refine h.b.bY e (fun k cs hk=>old _ (h.cU (.inr ⟨k,cs,hk,rfl⟩))) (fun k cs o hk=>hI _ o (h.cU (.inr ⟨k,cs,hk,rfl⟩))) (fun k cs hk hl=>?_)
  rcases iW (R:=R) (ro:=.tok n w.heap.size cap 0) hl with hl | hl
  ·exact hl
  ·have:=h.cU (.inr ⟨k,cs,hk,rfl⟩)
   simp [RO.has] at hl
   omega
 ·refine ⟨e,rfl,rfl,rfl,by simp,fun b hb _=>old b hb,fun b hb ho=>?_,fun b o hi hb _=>hI b o hb hi⟩
  rcases ho with ho | ho
  ·rcases iW (R:=R) (ro:=.tok n w.heap.size cap 0) ho with ho | ho
   ·exact .inl ho
   ·simp [RO.has] at ho
    omega
  ·exact .inr ho
theorem B4 (wf:∀ b o,R.I b o→b < w.heap.size) (x:Obj) (n:Nat) (ro:RO):Ext R w (R.upto w.heap.size n (R.obj++[ro])) (w.alloc x):=
 ⟨fun _ _ h=>.inl h,fun b o h=>bC (heap_alloc_old w x b (wf b o h)) o,fun _ r h=>⟨r,bq h,bQ.refl r⟩,.old fun b hb=>heap_alloc_old w x b hb⟩
theorem aQ.MA (h:aQ E R w β s a) {cur:Array Value} {elem:TypeId} {n sz cap:Nat} (hn:n≤cap) (hm:cap≤maxLen) (hs:cur.size=cap * sz) :
  aQ E (R.upto w.heap.size (n * sz) (R.obj++[.tok n w.heap.size cap 0])) (w.alloc (.cells cur elem)) β (s.df (.tok n sz elem)) a ∧
  Step R w β s.boxes (R.upto w.heap.size (n * sz) (R.obj++[.tok n w.heap.size cap 0])) (w.alloc (.cells cur elem)) β s.boxes:=by
 have e:=B4 (R:=R) (w:=w) h.g.wf (.cells cur elem) (n * sz) (.tok n w.heap.size cap 0)
 have old:∀ b,b < w.heap.size→(w.alloc (.cells cur elem)).heap[b]?=w.heap[b]?:=fun b hb=>heap_alloc_old w _ b hb
 have new:(w.alloc (.cells cur elem)).heap[w.heap.size]?=some (.cells cur elem (0,0)):=heap_alloc_new w _
 have hI:∀ b o,b < w.heap.size→(R.upto w.heap.size (n * sz) (R.obj++[.tok n w.heap.size cap 0])).I b o→R.I b o:=fun b o hb hi=>by
  rcases hi with hi | ⟨hi,_⟩
  ·exact hi
  ·omega
 refine ⟨⟨⟨by simp [St.df,af.upto,h.g.len],fun id g r h1 h2=>?_,fun i j ri rj b h1 h2 b1 b2=>?_,fun b o hi=>?_,fun g cs hg=>(h.g.ck g cs hg).mono e,by first | exact h.g.lo | exact Nat.le_succ_of_le h.g.lo⟩,?_,h.t.mono e,h.n,h.d.mono e⟩,?_⟩
 ·rcases ai h2 with h2 | ⟨h3,rfl⟩
  ·have bK:=aT h2
   rw [h.g.len] at bK
   rcases ai h1 with h1 | ⟨h4,_⟩
   ·exact (h.g.obj id g r h1 h2).mono e (fun b hb=>old b (h.g.bE ⟨id,r,h2,hb⟩)) (fun b o hb=>hI b o (h.g.bE ⟨id,r,h2,hb⟩))
   ·omega
  ·rcases ai h1 with h1 | ⟨h4,rfl⟩
   ·have:=aT h1
    rw [h3,h.g.len] at this
    omega
   ·refine ⟨rfl,cur,new,hn,hm,by omega,fun o' mY hi=>?_⟩
    rcases hi with hi | ⟨_,hi⟩
    ·have:=h.g.wf _ _ hi
     omega
    ·omega
 ·rcases ai h1 with g1 | ⟨h3,e1⟩
  ·rcases ai h2 with g2 | ⟨h4,e2⟩
   ·exact h.g.inj i j ri rj b g1 g2 b1 b2
   ·have:=h.g.bE ⟨i,ri,g1,b1⟩
    rw [e2] at b2
    simp [RO.has] at b2
    omega
  ·rcases ai h2 with g2 | ⟨h4,e2⟩
   ·have:=h.g.bE ⟨j,rj,g2,b2⟩
    rw [e1] at b1
    simp [RO.has] at b1
    omega
   ·omega
 ·rcases hi with hi | ⟨rfl,_⟩
  ·have:=h.g.wf b o hi
   simp
   omega
  ·simp
 ·refine h.b.bY e (fun k cs hk=>old _ (h.cU (.inr ⟨k,cs,hk,rfl⟩))) (fun k cs o hk=>hI _ o (h.cU (.inr ⟨k,cs,hk,rfl⟩))) (fun k cs hk hl=>?_)
  rcases iW (R:=R) (ro:=.tok n w.heap.size cap 0) hl with hl | hl
  ·exact hl
  ·have:=h.cU (.inr ⟨k,cs,hk,rfl⟩)
   simp [RO.has] at hl
   omega
 ·refine ⟨e,rfl,rfl,rfl,by simp,fun b hb _=>old b hb,fun b hb ho=>?_,fun b o hi hb _=>hI b o hb hi⟩
  rcases ho with ho | ho
  ·rcases iW (R:=R) (ro:=.tok n w.heap.size cap 0) ho with ho | ho
   ·exact .inl ho
   ·simp [RO.has] at ho
    omega
  ·exact .inr ho
theorem su (h:aQ E R w β s a) (t:TypeId) (len:Nat) (parts:Array (Nat × Operand)) (ho:o.op=.buildSlice t len parts) {k:LK} {esz:Nat} {es:List AV} (hv:b8 E s t len parts.toList=some (.list k esz es)) {i:TI} (hi:E.ti t=some i) {elem a6 mQ:Nat} {ag:Bool} {z:Option AV} (hk:i.k=.sl elem a6 ag mQ z) (hm:len≤65536) :
  bB E R w β s a o ((s.df (.tok len esz elem)).put o.dst (.v (.list (.own s.G.length) esz es))):=by
 obtain ⟨es',PY,us,Un,Uk,ba,g2,hlen,u2,u3,i',XN,TA,z',pw,gm⟩:=ib h t len parts ho hv
 cases Uk
 rw [hi] at pw
 cases pw
 rw [hk] at gm
 cases gm
 have Uo:us.length=len * esz:=by rw [← u2.length,cG g2,hlen]
 obtain ⟨r1,r2⟩:=h.MA (cur:=⟨us⟩) (elem:=elem) (n:=len) (sz:=esz) (cap:=len) (Nat.le_refl _) (by simp [maxLen]; omega) (by simpa using Uo)
 refine ⟨_,.slice (some ⟨w.heap.size,0,none⟩) len len,_,_,β,ba,.inl rfl,r1.put o.dst (x:=.v (.list (.own s.G.length) esz es)) ?_,by rw [aS]; exact r2⟩
 refine Rel.list (jS g2 (dZ.make (u2.mono r2.ext) u3 (fun j x hx=>?_) (fun j hj=>.inr ⟨rfl,?_⟩))) hlen.symm (Nat.le_refl _) ⟨.tok len w.heap.size len 0,fS h _,?_⟩
 ·rw [iV (heap_alloc_new w _)]
  simpa using hx
 ·rw [cG g2,hlen] at hj
  omega
 ·exact ⟨Nat.le_refl _,fun _=>⟨rfl,.inl rfl,rfl⟩⟩
theorem aQ.Jo (h:aQ E R w β s a) {cur:Array Value} {elem e0:TypeId} {n sz cap id f:Nat} {r0:RO} (hg:nth s.G id=some (.tok f sz e0)) (aX:nth R.obj id=some r0) (hf:∀ b c,bQ r0 (.tok n b c 0)) (hn:n≤cap) (hm:cap≤maxLen) (hs:cur.size=cap * sz) :
  aQ E (R.upto w.heap.size (n * sz) (au R.obj id (.tok n w.heap.size cap 0))) (w.drew.alloc (.cells cur elem)) β (s.bn (au s.G id (.tok n sz elem))) a ∧
  Step R w β s.boxes (R.upto w.heap.size (n * sz) (au R.obj id (.tok n w.heap.size cap 0))) (w.drew.alloc (.cells cur elem)) β s.boxes:=by
 have e:=Eg (R:=R) (w:=w) (n:=n * sz) h.g.wf (.cells cur elem) aX w.heap.size cap (hf _ _)
 have old:∀ b,b < w.heap.size→(w.drew.alloc (.cells cur elem)).heap[b]?=w.heap[b]?:=fun b hb=>heap_alloc_old w.drew _ b hb
 have new:(w.drew.alloc (.cells cur elem)).heap[w.heap.size]?=some (.cells cur elem (0,0)):=heap_alloc_new w.drew _
 have hI:∀ b o,b < w.heap.size→(R.upto w.heap.size (n * sz) (au R.obj id (.tok n w.heap.size cap 0))).I b o→R.I b o:=fun b o hb hi=>by
  rcases hi with hi | ⟨hi,_⟩
  ·exact hi
  ·omega
 have live:∀ b,b < w.heap.size→Live (R.upto w.heap.size (n * sz) (au R.obj id (.tok n w.heap.size cap 0))) b→Live R b:=fun b hb hl=>by
  obtain ⟨i,r,h1,h2⟩:=hl
  rcases aq aX h1 with ⟨_,rfl⟩ | ⟨_,h1⟩
  ·simp [RO.has] at h2
   omega
  ·exact ⟨i,r,h1,h2⟩
 refine ⟨⟨⟨by simp [St.bn,af.upto,h.g.len],fun i gg r h1 h2=>?_,fun i j ri rj b h1 h2 b1 b2=>?_,fun b o hi=>?_,fun g cs hg=>(h.g.ck g cs hg).mono e,by first | exact h.g.lo | exact Nat.le_succ_of_le h.g.lo⟩,?_,h.t.mono e,h.n,h.d.mono e⟩,?_⟩
 ·rcases aq aX h2 with ⟨rfl,rfl⟩ | ⟨cg,h2⟩
  ·simp only [St.bn] at h1
   rw [an hg] at h1
   cases h1
   refine ⟨rfl,cur,new,hn,hm,by omega,fun o' mY hi=>?_⟩
   rcases hi with hi | ⟨_,hi⟩
   ·have:=h.g.wf _ _ hi
    omega
   ·omega
  ·simp only [St.bn] at h1
   rw [aD (Ne.symm cg)] at h1
   exact (h.g.obj i gg r h1 h2).mono e (fun b hb=>old b (h.g.bE ⟨i,r,h2,hb⟩)) (fun b o hb=>hI b o (h.g.bE ⟨i,r,h2,hb⟩))
 ·rcases aq aX h1 with ⟨g3,e1⟩ | ⟨g3,g1⟩
  ·rcases aq aX h2 with ⟨g4,e2⟩ | ⟨g4,g2⟩
   ·omega
   ·have:=h.g.bE ⟨j,rj,g2,b2⟩
    rw [e1] at b1
    simp [RO.has] at b1
    omega
  ·rcases aq aX h2 with ⟨g4,e2⟩ | ⟨g4,g2⟩
   ·have:=h.g.bE ⟨i,ri,g1,b1⟩
    rw [e2] at b2
    simp [RO.has] at b2
    omega
   ·exact h.g.inj i j ri rj b g1 g2 b1 b2
 ·rcases hi with hi | ⟨rfl,_⟩
  ·have:=h.g.wf b o hi
   simp
   omega
  ·simp
 ·exact h.b.bY e (fun k cs hk=>old _ (h.cU (.inr ⟨k,cs,hk,rfl⟩))) (fun k cs o hk=>hI _ o (h.cU (.inr ⟨k,cs,hk,rfl⟩))) (fun k cs hk hl=>live _ (h.cU (.inr ⟨k,cs,hk,rfl⟩)) hl)
 ·refine ⟨e,rfl,rfl,rfl,by simp,fun b hb _=>old b hb,fun b hb ho=>?_,fun b o hi hb _=>hI b o hb hi⟩
  rcases ho with ho | ho
  ·exact .inl (live b hb ho)
  ·exact .inr ho
theorem aQ.MB (h:aQ E R w β s a) {cur:Array Value} {news:List Value} {elem:TypeId} {n sz id f g c k:Nat} (hg:nth s.G id=some (.tok f sz elem)) (aX:nth R.obj id=some (.tok f g c k)) (hf:f < n) (hn:n≤c)
  (iF:w.heap[g]?=some (.cells cur elem (0,0))) (hs:cur.size=k+c * sz) (hm:c≤maxLen) (hl:f * sz+news.length=n * sz) :
  Ext R w (R.upto g (k+n * sz) (au R.obj id (.tok n g c k))) (w.setRow g (cur.toList.take (k+f * sz)++news++cur.toList.drop (k+f * sz+news.length)).toArray) ∧
  aQ E (R.upto g (k+n * sz) (au R.obj id (.tok n g c k))) (w.setRow g (cur.toList.take (k+f * sz)++news++cur.toList.drop (k+f * sz+news.length)).toArray) β (s.bn (au s.G id (.tok n sz elem))) a ∧
  Step R w β s.boxes (R.upto g (k+n * sz) (au R.obj id (.tok n g c k))) (w.setRow g (cur.toList.take (k+f * sz)++news++cur.toList.drop (k+f * sz+news.length)).toArray) β s.boxes:=by
 obtain ⟨_,py,O2,_,_,_,iX⟩:=h.g.obj id _ _ hg aX
 rw [iF] at O2
 cases O2
 have hle:n * sz≤c * sz:=Nat.mul_le_mul_right _ hn
 generalize mq:(cur.toList.take (k+f * sz)++news++cur.toList.drop (k+f * sz+news.length)).toArray=cur2
 have old:∀ b,b≠g→(w.setRow g cur2).heap[b]?=w.heap[b]?:=fun b hb=>setRow_other w g b cur2 hb
 have new:(w.setRow g cur2).heap[g]?=some (.cells cur2 elem (0,0)):=setRow_heap w g cur cur2 elem (0,0) iF
 have hlen:k+f * sz≤cur.toList.length:=by simp; omega
 have dx:cur2.size=k+c * sz:=by
  rw [← mq]
  simp
  omega
 have r8:Live R g:=⟨id,_,aX,rfl⟩
 have e:Ext R w (R.upto g (k+n * sz) (au R.obj id (.tok n g c k))) (w.setRow g cur2):=by
  refine ⟨fun _ _ hi=>.inl hi,fun b o hi=>?_,fun i r hr=>?_,fun b r hb=>⟨r,(old b fun e=>by subst e; rw [iF] at hb; cases hb).trans hb,rfl,rfl,rfl,rfl,rfl⟩⟩
  ·by_cases hb:b=g
   ·subst hb
    have ho:o < k+f * sz:=Nat.lt_of_not_le fun hle=>iX o hle hi
    simp only [World.cell?,new,iF]
    have:cur2[o]?=cur[o]?:=by
     rw [← mq,List.append_assoc]
     simp only [List.getElem?_toArray]
     rw [List.getElem?_append_left (by simp; omega),List.getElem?_take,if_pos ho,Array.getElem?_toList]
    simp [this]
   ·exact bC (old b hb) o
  ·by_cases ei:id=i
   ·subst ei
    rw [aX] at hr
    cases hr
    exact ⟨_,an aX,by omega,fun e=>by omega⟩
   ·exact ⟨r,by rw [af.upto,aD ei]; exact hr,bQ.refl r⟩
 have hI:∀ b o,b≠g→(R.upto g (k+n * sz) (au R.obj id (.tok n g c k))).I b o→R.I b o:=fun b o hb hi=>by
  rcases hi with hi | ⟨hi,_⟩
  ·exact hi
  ·exact absurd hi hb
 have live:∀ b,Live (R.upto g (k+n * sz) (au R.obj id (.tok n g c k))) b→Live R b:=fun b hl=>by
  obtain ⟨i,r,h1,h2⟩:=hl
  rcases aq aX h1 with ⟨_,rfl⟩ | ⟨_,h1⟩
  ·exact ⟨id,_,aX,h2⟩
  ·exact ⟨i,r,h1,h2⟩
 have pz:∀ k cs,cX s.boxes k=some cs→β k≠g:=fun k cs hk eq=>(h.b.box k cs hk).2.2 (eq ▸ r8)
 refine ⟨e,⟨⟨by simp [St.bn,af.upto,h.g.len],fun i gg r h1 h2=>?_,fun i j ri rj b h1 h2 b1 b2=>?_,fun b o hi=>?_,fun g cs hg=>(h.g.ck g cs hg).mono e,by first | exact h.g.lo | exact Nat.le_succ_of_le h.g.lo⟩,?_,h.t.mono e,h.n,h.d.mono e⟩,?_⟩
 ·rcases aq aX h2 with ⟨rfl,rfl⟩ | ⟨cg,h2⟩
  ·simp only [St.bn] at h1
   rw [an hg] at h1
   cases h1
   refine ⟨rfl,cur2,new,hn,hm,dx,fun o' mY hi=>?_⟩
   rcases hi with hi | ⟨_,hi⟩
   ·exact iX o' (by have:=Nat.mul_le_mul_right sz (Nat.le_of_lt hf); omega) hi
   ·omega
  ·simp only [St.bn] at h1
   rw [aD (Ne.symm cg)] at h1
   have P6:∀ b,r.has b→b≠g:=fun b hb eq=>cg (h.g.inj i id _ _ b h2 aX hb (by rw [eq]; rfl))
   exact (h.g.obj i gg r h1 h2).mono e (fun b hb=>old b (P6 b hb)) (fun b o hb=>hI b o (P6 b hb))
 ·rcases aq aX h1 with ⟨g3,e1⟩ | ⟨g3,g1⟩
  ·rcases aq aX h2 with ⟨g4,e2⟩ | ⟨g4,g2⟩
   ·omega
   ·rw [e1] at b1
    exact g3.trans (h.g.inj id j _ _ b aX g2 b1 b2)
  ·rcases aq aX h2 with ⟨g4,e2⟩ | ⟨g4,g2⟩
   ·rw [e2] at b2
    exact (h.g.inj i id _ _ b g1 aX b1 b2).trans g4.symm
   ·exact h.g.inj i j ri rj b g1 g2 b1 b2
 ·rcases hi with hi | ⟨rfl,_⟩
  ·have:=h.g.wf b o hi
   simpa using this
  ·have:=bj iF
   simpa using this
 ·exact h.b.bY e (fun q cs hk=>old _ (pz q cs hk)) (fun q cs o hk=>hI _ o (pz q cs hk)) (fun q cs hk hl=>live _ hl)
 ·refine ⟨e,rfl,rfl,rfl,by simp,fun b hb nu=>old b (fun eq=>nu (.inl (eq ▸ r8))),fun b hb ho=>?_,fun b o hi hb nu=>hI b o (fun eq=>nu (.inl (eq ▸ r8))) hi⟩
  rcases ho with ho | ho
  ·exact .inl (live b ho)
  ·exact .inr ho
structure One (w w':World) (x:Obj):Prop where
 old:∀ b,b < w.heap.size→w'.heap[b]?=w.heap[b]?
 new:w'.heap[w.heap.size]?=some x
 size:w'.heap.size=w.heap.size+1
 os:w'.os=w.os
 tape:w'.tape=w.tape
 output:w'.output=w.output
 drawn:w.drawn≤w'.drawn
theorem One.alloc (w:World) (x:Obj):One w (w.alloc x) x:=⟨fun b hb=>heap_alloc_old w x b hb,heap_alloc_new w x,by simp,rfl,rfl,rfl,Nat.le_refl _⟩
theorem One.drew (w:World) (x:Obj):One w (w.drew.alloc x) x:=⟨fun b hb=>heap_alloc_old w.drew x b hb,heap_alloc_new w.drew x,by simp,rfl,rfl,rfl,Nat.le_succ _⟩
theorem MC {w':World} {x:Obj} (o1:One w w' x) (wf:∀ b o,R.I b o→b < w.heap.size) {n id:Nat} {r0 r1:RO} (aX:nth R.obj id=some r0) (hle:bQ r0 r1):Ext R w (R.upto w.heap.size n (au R.obj id r1)) w':=
 ⟨fun _ _ h=>.inl h,fun b o h=>bC (o1.old b (wf b o h)) o,fun i r h=>by
  by_cases e:id=i
  ·subst e
   rw [aX] at h
   cases h
   exact ⟨_,an aX,hle⟩
  ·exact ⟨r,by rw [af.upto,aD e]; exact h,bQ.refl r⟩,.old fun b hb=>o1.old b hb⟩
theorem aQ.P7 (h:aQ E R w β s a) {w':World} {x:Obj} (o1:One w w' x) {n id:Nat} {r0 r1:RO} {IS go:GO} (hg:nth s.G id=some IS) (aX:nth R.obj id=some r0) (hle:bQ r0 r1) (jo:∀ b,r1.has b→b=w.heap.size∨r0.has b)
  (fP:fO (R.upto w.heap.size n (au R.obj id r1)) w' go r1) :
  aQ E (R.upto w.heap.size n (au R.obj id r1)) w' β (s.bn (au s.G id go)) a∧Step R w β s.boxes (R.upto w.heap.size n (au R.obj id r1)) w' β s.boxes:=by
 have e:=MC (R:=R) (n:=n) o1 h.g.wf aX hle
 have hI:∀ b o,b < w.heap.size→(R.upto w.heap.size n (au R.obj id r1)).I b o→R.I b o:=fun b o hb hi=>by
  rcases hi with hi | ⟨hi,_⟩
  ·exact hi
  ·omega
 have live:∀ b,b < w.heap.size→Live (R.upto w.heap.size n (au R.obj id r1)) b→Live R b:=fun b hb hl=>by
  obtain ⟨i,r,h1,h2⟩:=hl
  rcases aq aX h1 with ⟨_,rfl⟩ | ⟨_,h1⟩
  ·rcases jo b h2 with h3 | h3
   ·omega
   ·exact ⟨id,r0,aX,h3⟩
  ·exact ⟨i,r,h1,h2⟩
 refine ⟨⟨⟨by simp [St.bn,af.upto,h.g.len],fun i gg r h1 h2=>?_,fun i j ri rj b h1 h2 b1 b2=>?_,fun b o hi=>?_,fun g cs hg=>(h.g.ck g cs hg).mono e,Nat.le_trans h.g.lo o1.drawn⟩,?_,h.t.mono e,h.n,h.d.mono e⟩,?_⟩
 ·rcases aq aX h2 with ⟨rfl,rfl⟩ | ⟨cg,h2⟩
  ·simp only [St.bn] at h1
   rw [an hg] at h1
   cases h1
   exact fP
  ·simp only [St.bn] at h1
   rw [aD (Ne.symm cg)] at h1
   exact (h.g.obj i gg r h1 h2).mono e (fun b hb=>o1.old b (h.g.bE ⟨i,r,h2,hb⟩)) (fun b o hb=>hI b o (h.g.bE ⟨i,r,h2,hb⟩))
 ·rcases aq aX h1 with ⟨g3,e1⟩ | ⟨g3,g1⟩
  ·rcases aq aX h2 with ⟨g4,e2⟩ | ⟨g4,g2⟩
   ·omega
   ·rw [e1] at b1
    rcases jo b b1 with b3 | b3
    ·have:=h.g.bE ⟨j,rj,g2,b2⟩
     omega
    ·exact g3.trans (h.g.inj id j _ _ b aX g2 b3 b2)
  ·rcases aq aX h2 with ⟨g4,e2⟩ | ⟨g4,g2⟩
   ·rw [e2] at b2
    rcases jo b b2 with b3 | b3
    ·have:=h.g.bE ⟨i,ri,g1,b1⟩
     omega
    ·exact (h.g.inj i id _ _ b g1 aX b1 b3).trans g4.symm
   ·exact h.g.inj i j ri rj b g1 g2 b1 b2
 ·rcases hi with hi | ⟨rfl,_⟩
  ·have:=h.g.wf b o hi
   rw [o1.size]
   omega
  ·rw [o1.size]; omega
 ·exact h.b.bY e (fun q cs hk=>o1.old _ (h.cU (.inr ⟨q,cs,hk,rfl⟩))) (fun q cs o hk=>hI _ o (h.cU (.inr ⟨q,cs,hk,rfl⟩))) (fun q cs hk hl=>live _ (h.cU (.inr ⟨q,cs,hk,rfl⟩)) hl)
 ·refine ⟨e,o1.os,o1.tape,o1.output,by rw [o1.size]; omega,fun b hb _=>o1.old b hb,fun b hb ho=>?_,fun b o hi hb _=>hI b o hb hi⟩
  rcases ho with ho | ho
  ·exact .inl (live b hb ho)
  ·exact .inr ho
theorem aQ.MD (h:aQ E R w β s a) {cur cur2:Array Value} {elem:TypeId} {n id g:Nat} {r0 r1:RO} {IS go:GO} (hg:nth s.G id=some IS) (aX:nth R.obj id=some r0) (O3:r0.has g) (hle:bQ r0 r1) (jo:∀ b,r1.has b→r0.has b)
  (iF:w.heap[g]?=some (.cells cur elem (0,0))) (vz:∀ o,R.I g o→cur2[o]?=cur[o]?)
  (fP:Ext R w (R.upto g n (au R.obj id r1)) (w.setRow g cur2)→fO (R.upto g n (au R.obj id r1)) (w.setRow g cur2) go r1) :
  Ext R w (R.upto g n (au R.obj id r1)) (w.setRow g cur2)∧aQ E (R.upto g n (au R.obj id r1)) (w.setRow g cur2) β (s.bn (au s.G id go)) a∧Step R w β s.boxes (R.upto g n (au R.obj id r1)) (w.setRow g cur2) β s.boxes:=by
 have old:∀ b,b≠g→(w.setRow g cur2).heap[b]?=w.heap[b]?:=fun b hb=>setRow_other w g b cur2 hb
 have new:(w.setRow g cur2).heap[g]?=some (.cells cur2 elem (0,0)):=setRow_heap w g cur cur2 elem (0,0) iF
 have r8:Live R g:=⟨id,_,aX,O3⟩
 have e:Ext R w (R.upto g n (au R.obj id r1)) (w.setRow g cur2):=by
  refine ⟨fun _ _ hi=>.inl hi,fun b o hi=>?_,fun i r hr=>?_,fun b r hb=>⟨r,(old b fun e=>by subst e; rw [iF] at hb; cases hb).trans hb,rfl,rfl,rfl,rfl,rfl⟩⟩
  ·by_cases hb:b=g
   ·subst hb
    simp only [World.cell?,new,iF,vz o hi]
   ·exact bC (old b hb) o
  ·by_cases ei:id=i
   ·subst ei
    rw [aX] at hr
    cases hr
    exact ⟨_,an aX,hle⟩
   ·exact ⟨r,by rw [af.upto,aD ei]; exact hr,bQ.refl r⟩
 have hI:∀ b o,b≠g→(R.upto g n (au R.obj id r1)).I b o→R.I b o:=fun b o hb hi=>by
  rcases hi with hi | ⟨hi,_⟩
  ·exact hi
  ·exact absurd hi hb
 have live:∀ b,Live (R.upto g n (au R.obj id r1)) b→Live R b:=fun b hl=>by
  obtain ⟨i,r,h1,h2⟩:=hl
  rcases aq aX h1 with ⟨_,rfl⟩ | ⟨_,h1⟩
  ·exact ⟨id,_,aX,jo b h2⟩
  ·exact ⟨i,r,h1,h2⟩
 have pz:∀ k cs,cX s.boxes k=some cs→β k≠g:=fun k cs hk eq=>(h.b.box k cs hk).2.2 (eq ▸ r8)
 refine ⟨e,⟨⟨by simp [St.bn,af.upto,h.g.len],fun i gg r h1 h2=>?_,fun i j ri rj b h1 h2 b1 b2=>?_,fun b o hi=>?_,fun g cs hg=>(h.g.ck g cs hg).mono e,h.g.lo⟩,?_,h.t.mono e,h.n,h.d.mono e⟩,?_⟩
 ·rcases aq aX h2 with ⟨rfl,rfl⟩ | ⟨cg,h2⟩
  ·simp only [St.bn] at h1
   rw [an hg] at h1
   cases h1
   exact fP e
  ·simp only [St.bn] at h1
   rw [aD (Ne.symm cg)] at h1
   have P6:∀ b,r.has b→b≠g:=fun b hb eq=>cg (h.g.inj i id _ _ b h2 aX hb (by rw [eq]; exact O3))
   exact (h.g.obj i gg r h1 h2).mono e (fun b hb=>old b (P6 b hb)) (fun b o hb=>hI b o (P6 b hb))
 ·rcases aq aX h1 with ⟨g3,e1⟩ | ⟨g3,g1⟩
  ·rcases aq aX h2 with ⟨g4,e2⟩ | ⟨g4,g2⟩
   ·omega
   ·rw [e1] at b1
    exact g3.trans (h.g.inj id j _ _ b aX g2 (jo b b1) b2)
  ·rcases aq aX h2 with ⟨g4,e2⟩ | ⟨g4,g2⟩
   ·rw [e2] at b2
    exact (h.g.inj i id _ _ b g1 aX b1 (jo b b2)).trans g4.symm
   ·exact h.g.inj i j ri rj b g1 g2 b1 b2
 ·rcases hi with hi | ⟨rfl,_⟩
  ·have:=h.g.wf b o hi
   simpa using this
  ·have:=bj iF
   simpa using this
 ·exact h.b.bY e (fun q cs hk=>old _ (pz q cs hk)) (fun q cs o hk=>hI _ o (pz q cs hk)) (fun q cs hk hl=>live _ hl)
 ·refine ⟨e,rfl,rfl,rfl,by simp,fun b hb nu=>old b (fun eq=>nu (.inl (eq ▸ r8))),fun b hb ho=>?_,fun b o hi hb nu=>hI b o (fun eq=>nu (.inl (eq ▸ r8))) hi⟩
  rcases ho with ho | ho
  ·exact .inl (live b ho)
  ·exact .inr ho
theorem qt.set {ts:List TR} {j:Nat} {t t':TR} (ht:nth ts j=some t) (hle:fN t t'):qt ts (au ts j t'):=fun i u hu=>by
 by_cases e:j=i
 ·subst e
  rw [ht] at hu
  cases hu
  exact ⟨t',an ht,hle⟩
 ·exact ⟨u,by rw [aD e]; exact hu,fN.refl u⟩
theorem F5 {ts:List TR} {j n g c b:Nat} (h:RO.has (.aM (au ts j (.tok n g c))) b):b=g∨RO.has (.aM ts) b:=by
 obtain ⟨i,f,c',hi⟩:=h
 rcases bT hi with ⟨_,e,_⟩ | ⟨_,hi⟩
 ·cases e; exact .inl rfl
 ·exact .inr ⟨i,f,c',hi⟩
theorem zf.of {R':af} {w':World} {sz f:Nat} {e:TypeId} {t:TR} (h:zf R w sz e f t) (hold:∀ f b c,t=.tok f b c→w'.heap[b]?=w.heap[b]?∧∀ o,R'.I b o→R.I b o):zf R' w' sz e f t:=by
 cases t with
 | aR=>exact h
 | full f'=>exact h
 | tok f' b c=>
  obtain ⟨h0,cur,h1,h2,h3,h4,h5⟩:=h
  obtain ⟨k1,k2⟩:=hold f' b c rfl
  exact ⟨h0,cur,k1.trans h1,h2,h3,h4,fun o ho hi=>h5 o ho (k2 o hi)⟩
theorem vl.set {R':af} {w':World} {sz:Nat} {e:TypeId} {fs:List Nat} {ts:List TR} (h:vl R w sz e fs ts) {j n g c:Nat} (mq:zf R' w' sz e n (.tok n g c)) (Jp:∀ i f c,nth ts i=some (.tok f g c)→i=j)
  (hold:∀ i f b c,i≠j→nth ts i=some (.tok f b c)→w'.heap[b]?=w.heap[b]?∧∀ o,R'.I b o→R.I b o):vl R' w' sz e (au fs j n) (au ts j (.tok n g c)):=by
 obtain ⟨h1,h2,h3⟩:=h
 refine ⟨by simp [h1],fun i i' f1 b c1 f2 c2 q1 q2=>?_,fun i f1 t1 q1 q2=>?_⟩
 ·rcases bT q1 with ⟨n1,e1,_⟩ | ⟨n1,q1⟩
  ·cases e1
   rcases bT q2 with ⟨n2,_,_⟩ | ⟨n2,q2⟩
   ·exact n1.symm.trans n2
   ·exact absurd (Jp _ _ _ q2).symm n2
  ·rcases bT q2 with ⟨n2,e2,_⟩ | ⟨n2,q2⟩
   ·cases e2
    exact (Jp _ _ _ q1).trans n2
   ·exact h2 i i' _ _ _ _ _ q1 q2
 ·rcases bT q1 with ⟨n1,e1,_⟩ | ⟨n1,q1⟩
  ·rcases bT q2 with ⟨_,e2,_⟩ | ⟨n2,_⟩
   ·subst e1 e2
    exact mq
   ·exact absurd n1 n2
  ·rcases bT q2 with ⟨n2,_,_⟩ | ⟨n2,q2⟩
   ·exact absurd n2 n1
   ·exact (h3 i f1 t1 q1 q2).of fun f b c ht=>by subst ht; exact hold i f b c (Ne.symm n2) q2
end ops
end Go.Am
namespace Go.Am
open Go
section lists
theorem pA {α:Type} (c us:List α) (n p sz off:Nat) (hn:n≤c.length) (hp:p+sz≤n) (ho:off+us.length≤sz) :
  (c.take (p+off)++us++c.drop (p+off+us.length)).take n =
   (c.take n).take p++((((c.take n).drop p).take sz).take off++us++(((c.take n).drop p).take sz).drop (off+us.length))++(c.take n).drop (p+sz):=by
 apply List.ext_getElem?
 intro j
 simp only [List.getElem?_append,List.getElem?_take,List.getElem?_drop,List.length_append,List.length_take,List.length_drop]
 by_cases h1:j < p
 ·rw [if_pos (by omega),if_pos (by omega),if_pos (by omega),if_pos (by omega),if_pos (by omega),if_pos (by omega),if_pos (by omega),if_pos (by omega)]
 ·by_cases h2:j < p+off
  ·rw [if_pos (by omega),if_pos (by omega),if_pos (by omega),if_pos (by omega),if_pos (by omega),if_neg (by omega),if_pos (by omega),if_pos (by omega),if_pos (by omega),if_pos (by omega),if_pos (by omega)]
   congr 1; omega
  ·by_cases h3:j < p+off+us.length
   ·rw [if_pos (by omega),if_pos (by omega),if_neg (by omega),if_pos (by omega),if_neg (by omega),if_pos (by omega),if_neg (by omega)]
    congr 1; omega
   ·by_cases h4:j < p+sz
    ·rw [if_pos (by omega),if_neg (by omega),if_pos (by omega),if_neg (by omega),if_neg (by omega),if_pos (by omega),if_pos (by omega)]
     congr 1; omega
    ·by_cases h5:j < n
     ·rw [if_pos (by omega),if_neg (by omega),if_neg (by omega),if_pos (by omega)]
      congr 1; omega
     ·rw [if_neg (by omega),if_neg (by omega),if_neg (by omega)]
theorem j9 {sz:Nat}:∀ {es:List AV} {i:Nat} {e:AV},da sz es→nth es i=some e→((ar es).drop (i * sz)).take sz=e.cells
 | [],_,_,_,h=>by simp [nth] at h
 | x :: es,0,e,h,hi=>by
  simp only [nth] at hi
  cases hi
  have h1:=(h x (by simp)).1
  rw [Nat.zero_mul,List.drop_zero]
  simp only [ar]
  rw [← h1,List.take_left]
 | x :: es,i+1,e,h,hi=>by
  have h1:=(h x (by simp)).1
  have ih:=j9 (i:=i) (fun y hy=>h y (by simp [hy])) (show nth es i=some e from hi)
  simp only [ar]
  rw [show (i+1) * sz=x.cells.length+i * sz by rw [h1,Nat.succ_mul]; omega,List.drop_append,List.drop_of_length_le (by omega),List.nil_append,Nat.add_sub_cancel_left]
  exact ih
theorem qB {sz:Nat} {l r:List AV} (h:da sz l) (k:da sz r):da sz (l++r):=fun e he=>by
 rcases List.mem_append.1 he with he | he
 ·exact h e he
 ·exact k e he
theorem zr {sz:Nat} {l:List AV} (n:Nat) (h:da sz l):da sz (l.take n):=fun e he=>h e (List.mem_of_mem_take he)
theorem Hy {sz:Nat} {l:List AV} (n:Nat) (h:da sz l):da sz (l.drop n):=fun e he=>h e (List.mem_of_mem_drop he)
theorem gJ {sz:Nat}:∀ {es:List AV} (i:Nat),da sz es→ar (es.take i)=(ar es).take (i * sz)
 | [],i,_=>by simp [ar]
 | e :: es,0,_=>by simp [ar]
 | e :: es,i+1,h=>by
  have h1:=(h e (by simp)).1
  simp only [List.take_succ_cons,ar]
  rw [gJ i (fun y hy=>h y (by simp [hy])),show (i+1) * sz=e.cells.length+i * sz by rw [h1,Nat.succ_mul]; omega,List.take_append,Nat.add_sub_cancel_left,List.take_of_length_le (by omega:e.cells.length≤e.cells.length+i * sz)]
theorem nw {sz:Nat}:∀ {es:List AV} (i:Nat),da sz es→ar (es.drop i)=(ar es).drop (i * sz)
 | [],i,_=>by simp [ar]
 | e :: es,0,_=>by simp [ar]
 | e :: es,i+1,h=>by
  have h1:=(h e (by simp)).1
  simp only [List.drop_succ_cons,ar]
  rw [nw i (fun y hy=>h y (by simp [hy])),show (i+1) * sz=e.cells.length+i * sz by rw [h1,Nat.succ_mul]; omega,List.drop_append,List.drop_of_length_le (by omega:e.cells.length≤e.cells.length+i * sz),List.nil_append,Nat.add_sub_cancel_left]
theorem bD {sz:Nat} {es:List AV} (h:da sz es):(ar es).length=es.length * sz:=by
 induction es with
 | nil=>simp [ar]
 | cons e es ih=>
  have h1:=(h e (by simp)).1
  have:=ih (fun x hx=>h x (by simp [hx]))
  simp only [ar,List.length_append,this,h1,List.length_cons,Nat.add_mul]
  omega
theorem Eh {sz:Nat} {es:List AV} {i:Nat} {v:AV} (h:da sz es) (h1:v.cells.length=sz) (h2:v.aN=true):da sz (au es i v):=fun e he=>by
 rw [dw] at he
 rcases List.mem_or_eq_of_mem_set he with he | rfl
 ·exact h e he
 ·exact ⟨h1,h2⟩
theorem tn {sz:Nat} {es:List AV} {i:Nat} {v:AV} (h:da sz es) (hi:i < es.length) (hv:v.cells.length=sz):ar (au es i v)=aY (ar es) (i * sz) v.cells:=by
 have yq:i * sz+sz≤es.length * sz:=by
  rw [← Nat.succ_mul]
  exact Nat.mul_le_mul_right _ hi
 rw [dw,List.set_eq_take_append_cons_drop,if_pos hi,dA _ _ _ (by rw [hv,bD h]; exact yq),b7,gJ i h,hv]
 simp only [ar]
 rw [nw (i+1) h,Nat.succ_mul,List.append_assoc]
end lists
section ops
variable {E:Env} {R:af} {w:World} {β:Nat→Nat} {s:St} {a:Act} {o:Oper}
theorem kS {G:List GO} (h:dN E R w G) {id:Nat} {es:List AV} {sz:Nat} {el:TypeId} {ro:RO} (aX:nth G id=some (.cK es sz el)) (aU:nth R.obj id=some ro) (hn:ro≠.aR) :
  ∃ b c cur vs,ro=.tok es.length b c 0∧da sz es∧w.heap[b]?=some (.cells cur el (0,0))∧es.length≤c∧c≤maxLen∧cur.size=c * sz∧(∀ o,¬ R.I b o)∧aC R w (ar es) vs∧(∀ v∈vs,v.oneCell'=true)∧cur.toList.take (es.length * sz)=vs:=by
 have hr:=h.obj id _ _ aX aU
 cases ro with
 | none=>exact hr.elim
 | aR=>exact absurd rfl hn
 | bw b=>exact hr.elim
 | aM _=>exact hr.elim
 | tok f b c k=>
  obtain ⟨rfl,rfl,h1,cur,vs,h2,h3,h4,h5,h6,h7,h8,h9⟩:=hr
  exact ⟨b,c,cur,vs,rfl,h1,h2,h3,h4,h5,h6,h7,h8,h9⟩
theorem vA {id f i sz:Nat} {t:TypeId} {v:AV} (h:vh E s id f i sz t=some (true,v)) :
  ∃ es el e,nth s.G id=some (.cK es sz el)∧f=es.length∧nth es i=some e∧gv e v:=by
 unfold vh at h
 split at h
 ·rename_i es a6 el aX
  split at h
  ·rename_i p hp
   split at h
   ·rename_i dx
    have dx:=Nat.eq_of_beq_eq_true dx
    subst dx
    injection h with h
    injection h with h1 h2
    simp only [Bool.and_eq_true,decide_eq_true_eq] at h1
    obtain ⟨⟨h3,h4⟩,h5⟩:=h1
    obtain ⟨e,he⟩:∃ e,nth es i=some e:=⟨es[i],by rw [aG]; exact List.getElem?_eq_getElem h4⟩
    have hd:aw es i=e:=by simp [aw,he]
    rw [hd] at h5 h2
    rw [← h2]
    exact ⟨es,el,e,aX,h3,he,p.cD h5⟩
   ·cases h
  ·split at h
   ·rename_i dx
    have dx:=Nat.eq_of_beq_eq_true dx
    subst dx
    injection h with h
    injection h with h1 h2
    simp only [Bool.and_eq_true,decide_eq_true_eq] at h1
    obtain ⟨h3,h4⟩:=h1
    obtain ⟨e,he⟩:∃ e,nth es i=some e:=⟨es[i],by rw [aG]; exact List.getElem?_eq_getElem h4⟩
    have hd:aw es i=e:=by simp [aw,he]
    rw [hd] at h2
    rw [← h2]
    exact ⟨es,el,e,aX,h3,he,gv.refl e⟩
   ·cases h
 ·cases h
theorem AE {G:List GO} (h:dN E R w G) {id j:Nat} {rows:List (List AV)} {sz:Nat} {el:TypeId} {ro:RO} {b o f i off:Nat} (aX:nth G id=some (.gY rows sz el)) (aU:nth R.obj id=some ro) (cS:I5 b o j f i off sz ro) (hf:f=(rowOf rows j).length) :
  ∃ ts c cur vs,ro=.aM ts∧nth ts j=some (.tok f b c)∧nth rows j=some (rowOf rows j)∧o=i * sz+off∧fq sz (rowOf rows j)∧w.heap[b]?=some (.cells cur el (0,0))∧f≤c∧c≤maxLen∧cur.size=c * sz∧(∀ o,¬ R.I b o)∧aC R w (ar (rowOf rows j)) vs∧(∀ v∈vs,v.oneCell'=true)∧cur.toList.take (f * sz)=vs:=by
 have hr:=h.obj id _ _ aX aU
 cases ro with
 | none=>exact hr.elim
 | aR=>exact hr.elim
 | bw b=>exact hr.elim
 | tok _ _ _ _=>exact hr.elim
 | aM ts=>
  obtain ⟨t,k1,k2⟩:=cS
  obtain ⟨h1,h2,h3⟩:=hr
  have bK:=aT k1
  have jI:nth rows j=some rows[j]:=by rw [aG]; exact List.getElem?_eq_getElem (by omega)
  have he:rowOf rows j=rows[j]:=by unfold rowOf; rw [jI]
  have h4:=h3 j _ t jI k1
  rw [← he] at h4 jI
  cases t with
  | aR=>exact k2.elim
  | full _=>exact h4.elim
  | tok f' b' c=>
   obtain ⟨h5,h6,cur,vs,q1,q2,q3,q4,q5,q6,q7,q8⟩:=h4
   obtain ⟨e1,e2⟩:=k2.2 (by omega)
   subst e1
   have e3:f'=f:=by omega
   subst e3
   exact ⟨ts,c,cur,vs,rfl,k1,jI,e2,h6,q1,q2,q3,q4,q5,q6,q7,q8⟩
theorem vB {id j f i sz:Nat} {t:TypeId} {v:AV} (h:vi E s id j f i sz t=some (true,v)) :
  ∃ rows el e,nth s.G id=some (.gY rows sz el)∧f=(rowOf rows j).length∧nth (rowOf rows j) i=some e∧gv e v:=by
 unfold vi at h
 split at h
 ·rename_i rows a6 el aX
  split at h
  ·rename_i p hp
   split at h
   ·rename_i dx
    have dx:=Nat.eq_of_beq_eq_true dx
    subst dx
    injection h with h
    injection h with h1 h2
    simp only [Bool.and_eq_true,decide_eq_true_eq] at h1
    obtain ⟨⟨h3,h4⟩,h5⟩:=h1
    obtain ⟨e,he⟩:∃ e,nth (rowOf rows j) i=some e:=⟨(rowOf rows j)[i],by rw [aG]; exact List.getElem?_eq_getElem h4⟩
    have hd:aw (rowOf rows j) i=e:=by simp [aw,he]
    rw [hd] at h5 h2
    rw [← h2]
    exact ⟨rows,el,e,aX,h3,he,p.cD h5⟩
   ·cases h
  ·split at h
   ·rename_i dx
    have dx:=Nat.eq_of_beq_eq_true dx
    subst dx
    injection h with h
    injection h with h1 h2
    simp only [Bool.and_eq_true,decide_eq_true_eq] at h1
    obtain ⟨h3,h4⟩:=h1
    obtain ⟨e,he⟩:∃ e,nth (rowOf rows j) i=some e:=⟨(rowOf rows j)[i],by rw [aG]; exact List.getElem?_eq_getElem h4⟩
    have hd:aw (rowOf rows j) i=e:=by simp [aw,he]
    rw [hd] at h2
    rw [← h2]
    exact ⟨rows,el,e,aX,h3,he,gv.refl e⟩
   ·cases h
 ·cases h
theorem uO {α:Type} {l:List α} {i:Nat} {x:α} (h:nth l i=some x):x∈l:=by
 rw [aG] at h
 exact List.mem_of_getElem? h
theorem sw {i n sz:Nat} (h:i < n):i * sz+sz≤n * sz:=by
 rw [← Nat.succ_mul]
 exact Nat.mul_le_mul_right _ h
theorem Ei (h:aQ E R w β s a) (t:TypeId) (x:Operand) (ho:o.op=.load t x) {v:AV} (hl:zb E s t (bp E s.ae x)=some (true,v)) :
  bB E R w β s a o (s.put o.dst (.v v)):=by
 have rx:=aJ h x
 unfold zb at hl
 split at hl
 ·rename_i id f i off sz ty hx
  rw [hx] at rx
  split at hl
  ·rename_i ti c ve IR hg
   split at hl
   ·rename_i l hs
    split at hl
    ·rename_i r hm
     injection hl with hl
     injection hl with h1 h2
     subst h1; subst h2
     obtain ⟨es,el,e,aX,F6,he,sx⟩:=vA hg
     have cP:Rel R w (.gp id f i off sz ty) (a.eval x):=rx
     generalize ea:a.eval x=xv at cP
     cases cP with
     | @gp _ _ _ _ _ b o' _ ro aU cS=>
     obtain ⟨b',c',cur,vs,rfl,g1,g2,g3,g4,g5,g6,g7,g8,g9⟩:=kS h.g aX aU (fun k=>by subst k; exact cS)
     obtain ⟨rfl,rfl⟩:=cS.2 F6
     have P8:=g1 e (uO he)
     have dh:aC R w e.cells ((vs.drop (i * sz)).take sz):=by
      rw [← j9 g1 he]
      exact (g7.drop _).take _
     have hw:=(sx.cells P8.2).rel dh
     obtain ⟨k1,k2,k3,k4⟩:=mn hs hw (fun y hy=>g8 y (List.mem_of_mem_drop (List.mem_of_mem_take hy)))
     obtain ⟨c,hc,XP⟩:=kR (E:=E) IR (b:=b) (off:=i * sz+off) k1 k2 k3 (fun j y hy=>by
      have h1:=k4 j y hy
      rw [List.getElem?_take] at h1
      split at h1
      ·rw [List.getElem?_drop,← g9,List.getElem?_take] at h1
       split at h1
       ·rw [cell_of_row w b _ cur el (0,0) g2,Nat.add_assoc,← Array.getElem?_toList]
        exact h1
       ·cases h1
      ·cases h1) hm
     refine ap h (c:=c) ?_ XP
     simp [execOp,ho,Instr.loadAt,ea,Instr.sureAddr,hc]
    ·cases hl
   ·cases hl
  ·cases hl
 ·rename_i id j f i off sz ty hx
  rw [hx] at rx
  split at hl
  ·rename_i ti c ve IR hg
   split at hl
   ·rename_i l hs
    split at hl
    ·rename_i r hm
     injection hl with hl
     injection hl with h1 h2
     subst h1; subst h2
     obtain ⟨rows,el,e,aX,F6,he,sx⟩:=vB hg
     have cP:Rel R w (.rp id j f i off sz ty) (a.eval x):=rx
     generalize ea:a.eval x=xv at cP
     cases cP with
     | @rp _ _ _ _ _ _ b o' _ ro aU cS=>
     obtain ⟨ts,c',cur,vs,rfl,k1,k2,rfl,yp,g2,g3,g4,g5,g6,g7,g8,g9⟩:=AE h.g aX aU cS F6
     have g1:=yp.g
     subst F6
     have P8:=g1 e (uO he)
     have dh:aC R w e.cells ((vs.drop (i * sz)).take sz):=by
      rw [← j9 g1 he]
      exact (g7.drop _).take _
     have hw:=(sx.cells P8.2).rel dh
     obtain ⟨k1,k2,k3,k4⟩:=mn hs hw (fun y hy=>g8 y (List.mem_of_mem_drop (List.mem_of_mem_take hy)))
     obtain ⟨c,hc,XP⟩:=kR (E:=E) IR (b:=b) (off:=i * sz+off) k1 k2 k3 (fun j' y hy=>by
      have h1:=k4 j' y hy
      rw [List.getElem?_take] at h1
      split at h1
      ·rw [List.getElem?_drop,← g9,List.getElem?_take] at h1
       split at h1
       ·rw [cell_of_row w b _ cur el (0,0) g2,Nat.add_assoc,← Array.getElem?_toList]
        exact h1
       ·cases h1
      ·cases h1) hm
     refine ap h (c:=c) ?_ XP
     simp [execOp,ho,Instr.loadAt,ea,Instr.sureAddr,hc]
    ·cases hl
   ·cases hl
  ·cases hl
 ·split at hl
  ·rename_i v' hv
   injection hl with hl
   injection hl with h1 h2
   subst h2
   exact Hr h t x ho hv
  ·cases hl
theorem aQ.P9 (h:aQ E R w β s a) {id j f b c:Nat} {rows:List (List AV)} {row':List AV} {sz:Nat} {el:TypeId} {ts:List TR} {cur py:Array Value} {vs':List Value} (aX:nth s.G id=some (.gY rows sz el)) (aU:nth R.obj id=some (.aM ts)) (Jq:nth ts j=some (.tok f b c))
  (hb:w.heap[b]?=some (.cells cur el (0,0))) (hlen:row'.length=f) (jD:fq sz row') (dx:py.size=cur.size) (hr:aC R w (ar row') vs') (h1:∀ v∈vs',v.oneCell'=true) (ht:py.toList.take (f * sz)=vs') :
  aQ E R (w.setRow b py) β (s.bn (au s.G id (.gY (au rows j row') sz el))) a∧Step R w β s.boxes R (w.setRow b py) β s.boxes:=by
 obtain ⟨m1,m2,m3⟩:=h.g.obj id _ _ aX aU
 have bK:=aT Jq
 have jI:nth rows j=some rows[j]:=by rw [aG]; exact List.getElem?_eq_getElem (by omega)
 obtain ⟨_,q1,Qa,Z2,p1,p2,p3,p4,p5,p6,p7,p8⟩:=m3 j _ _ jI Jq
 rw [hb] at p1
 cases p1
 have hex:=fy (R:=R) (w:=w) p5 py
 have jo:RO.has (.aM ts) b:=⟨j,f,c,Jq⟩
 have vC:∀ k cs,cX s.boxes k=some cs→β k≠b:=fun k cs hk e=>(h.b.box k cs hk).2.2 ⟨id,_,aU,by rw [e]; exact jo⟩
 refine ⟨⟨⟨by simp [St.bn,h.g.len],fun gZ go ro hg iE=>?_,h.g.inj,fun b' o' pw=>by have:=h.g.wf b' o' pw; simp; omega,fun g dJ hg=>(h.g.ck g dJ hg).mono hex,h.g.lo⟩,?_,h.t.mono hex,h.n,h.d⟩,?_⟩
 ·rcases bT hg with ⟨rfl,rfl,_⟩ | ⟨cg,zj⟩
  ·rw [aU] at iE
   cases iE
   refine ⟨by rw [dz]; exact m1,m2,fun j' row t hrj ME=>?_⟩
   rcases bT hrj with ⟨rfl,rfl,_⟩ | ⟨hnj,XQ⟩
   ·rw [Jq] at ME
    cases ME
    exact ⟨hlen.symm,jD,py,vs',setRow_heap w _ _ _ _ (0,0) hb,p2,p3,by rw [dx]; exact p4,p5,hr.mono hex,h1,ht⟩
   ·have h4:=m3 j' row t XQ ME
    cases t with
    | aR=>exact h4
    | full _=>exact h4
    | tok f1 b1 c1=>
     obtain ⟨h5,h6,XR,vs1,k1,k2,k3,k4,k5,k6,k7,k8⟩:=h4
     have FZ:b1≠b:=fun e=>hnj (m2 j' j f1 b1 c1 f c ME (by rw [e]; exact Jq)).symm
     exact ⟨h5,h6,XR,vs1,(setRow_other w _ b1 _ FZ).trans k1,k2,k3,k4,k5,k6.mono hex,k7,k8⟩
  ·refine (h.g.obj gZ go ro zj iE).mono hex (fun b' jC=>setRow_other w _ b' _ (fun e=>cg ?_)) (fun _ _ _ hi=>hi)
   subst e
   exact h.g.inj id gZ _ _ b' aU iE jo jC
 ·exact h.b.bY hex (fun k dJ gm=>setRow_other w _ _ _ (vC k dJ gm)) (fun _ _ _ _ hi=>hi) (fun _ _ _ hl=>hl)
 ·have vp:Own R β s.boxes b:=.inl ⟨id,_,aU,jo⟩
  exact ⟨hex,rfl,rfl,rfl,by simp,fun b' _ hn=>setRow_other w _ b' _ (fun e=>hn (e ▸ vp)),fun _ _ hb=>hb,fun b o hi _ _=>hi⟩
theorem aQ.Ej (h:aQ E R w β s a) {id f b c:Nat} {es es':List AV} {sz:Nat} {el:TypeId} {cur py:Array Value} {vs':List Value} (aX:nth s.G id=some (.cK es sz el)) (aU:nth R.obj id=some (.tok f b c 0))
  (hb:w.heap[b]?=some (.cells cur el (0,0))) (hlen:es'.length=es.length) (jD:da sz es') (dx:py.size=cur.size) (hr:aC R w (ar es') vs') (h1:∀ v∈vs',v.oneCell'=true) (ht:py.toList.take (f * sz)=vs') :
  aQ E R (w.setRow b py) β (s.bn (au s.G id (.cK es' sz el))) a∧Step R w β s.boxes R (w.setRow b py) β s.boxes:=by
 obtain ⟨_,q0,q1,Qa,Z2,p1,p2,p3,p4,p5,p6,p7,p8⟩:=h.g.obj id _ _ aX aU
 rw [hb] at p1
 cases p1
 have hex:=fy (R:=R) (w:=w) p5 py
 have vC:∀ k cs,cX s.boxes k=some cs→β k≠b:=fun k cs hk e=>(h.b.box k cs hk).2.2 ⟨id,_,aU,by rw [e]; rfl⟩
 refine ⟨⟨⟨by simp [St.bn,h.g.len],fun gZ go ro hg iE=>?_,h.g.inj,fun b' o' pw=>by have:=h.g.wf b' o' pw; simp; omega,fun g dJ hg=>(h.g.ck g dJ hg).mono hex,h.g.lo⟩,?_,h.t.mono hex,h.n,h.d⟩,?_⟩
 ·rcases bT hg with ⟨rfl,rfl,_⟩ | ⟨cg,zj⟩
  ·rw [aU] at iE
   cases iE
   exact ⟨rfl,by rw [hlen]; exact q0,jD,py,vs',setRow_heap w _ _ _ _ (0,0) hb,p2,p3,by rw [dx]; exact p4,p5,hr.mono hex,h1,ht⟩
  ·refine (h.g.obj gZ go ro zj iE).mono hex (fun b' jC=>setRow_other w _ b' _ (fun e=>cg ?_)) (fun _ _ _ hi=>hi)
   subst e
   exact h.g.inj id gZ _ _ b' aU iE rfl jC
 ·exact h.b.bY hex (fun k dJ gm=>setRow_other w _ _ _ (vC k dJ gm)) (fun _ _ _ _ hi=>hi) (fun _ _ _ hl=>hl)
 ·have vp:Own R β s.boxes b:=.inl ⟨id,_,aU,rfl⟩
  exact ⟨hex,rfl,rfl,rfl,by simp,fun b' _ hn=>setRow_other w _ b' _ (fun e=>hn (e ▸ vp)),fun _ _ hb=>hb,fun b o hi _ _=>hi⟩
theorem aQ.F7 (h:aQ E R w β s a) {id b c i off:Nat} {es:List AV} {sz:Nat} {el:TypeId} {cur:Array Value} {vs us:List Value} {e':AV} (aX:nth s.G id=some (.cK es sz el)) (aU:nth R.obj id=some (.tok es.length b c 0))
  (hb:w.heap[b]?=some (.cells cur el (0,0))) (jD:da sz es) (hle:es.length≤c) (mX:cur.size=c * sz) (hr:aC R w (ar es) vs) (h1:∀ v∈vs,v.oneCell'=true) (ht:cur.toList.take (es.length * sz)=vs) (hi:i < es.length)
  (h2:∀ v∈us,v.oneCell'=true) (sy:off+us.length≤sz) (mO:e'.cells.length=sz) (MF:e'.aN=true) (Qb:aC R w e'.cells (((vs.drop (i * sz)).take sz).take off++us++((vs.drop (i * sz)).take sz).drop (off+us.length))) :
  aQ E R (w.setRow b ⟨cur.toList.take (i * sz+off)++us++cur.toList.drop (i * sz+off+us.length)⟩) β (s.bn (au s.G id (.cK (au es i e') sz el))) a ∧
   Step R w β s.boxes R (w.setRow b ⟨cur.toList.take (i * sz+off)++us++cur.toList.drop (i * sz+off+us.length)⟩) β s.boxes:=by
 have yq:=sw (sz:=sz) hi
 have AF:es.length * sz≤cur.toList.length:=by
  rw [show cur.toList.length=cur.size from Array.length_toList,mX]
  exact Nat.mul_le_mul_right _ hle
 have DC:vs.length=es.length * sz:=by rw [← hr.length,bD jD]
 refine h.Ej aX aU hb (dz _ _ _) (Eh jD mO MF) ?_ (vs':=vs.take (i * sz)++(((vs.drop (i * sz)).take sz).take off++us++((vs.drop (i * sz)).take sz).drop (off+us.length))++vs.drop (i * sz+sz)) ?_ ?_ ?_
 ·rw [List.size_toArray,← Array.length_toList]
  simp only [List.length_append,List.length_take,List.length_drop]
  omega
 ·rw [tn jD hi mO,dA _ _ _ (by rw [mO,bD jD]; exact yq),mO]
  exact ((hr.take _).append Qb).append (hr.drop _)
 ·intro v hv
  simp only [List.mem_append] at hv
  rcases hv with (hv | ((hv | hv) | hv)) | hv
  ·exact h1 v (List.mem_of_mem_take hv)
  ·exact h1 v (List.mem_of_mem_drop (List.mem_of_mem_take (List.mem_of_mem_take hv)))
  ·exact h2 v hv
  ·exact h1 v (List.mem_of_mem_drop (List.mem_of_mem_take (List.mem_of_mem_drop hv)))
  ·exact h1 v (List.mem_of_mem_drop hv)
 ·rw [List.toList_toArray,pA _ _ _ _ _ _ AF yq sy,ht]
theorem aQ.F8 (h:aQ E R w β s a) {id j b c i off:Nat} {rows:List (List AV)} {es:List AV} {ts:List TR} {sz:Nat} {el:TypeId} {cur:Array Value} {vs us:List Value} {e':AV} (aX:nth s.G id=some (.gY rows sz el)) (aU:nth R.obj id=some (.aM ts)) (Jq:nth ts j=some (.tok es.length b c))
  (hb:w.heap[b]?=some (.cells cur el (0,0))) (qC:fq sz es) (hle:es.length≤c) (mX:cur.size=c * sz) (hr:aC R w (ar es) vs) (h1:∀ v∈vs,v.oneCell'=true) (ht:cur.toList.take (es.length * sz)=vs) (hi:i < es.length)
  (h2:∀ v∈us,v.oneCell'=true) (sy:off+us.length≤sz) (mO:e'.cells.length=sz) (MF:e'.aN=true) (gi:e'.closed=true) (Qb:aC R w e'.cells (((vs.drop (i * sz)).take sz).take off++us++((vs.drop (i * sz)).take sz).drop (off+us.length))) :
  aQ E R (w.setRow b ⟨cur.toList.take (i * sz+off)++us++cur.toList.drop (i * sz+off+us.length)⟩) β (s.bn (au s.G id (.gY (au rows j (au es i e')) sz el))) a ∧
   Step R w β s.boxes R (w.setRow b ⟨cur.toList.take (i * sz+off)++us++cur.toList.drop (i * sz+off+us.length)⟩) β s.boxes:=by
 have jD:=qC.g
 have yq:=sw (sz:=sz) hi
 have AF:es.length * sz≤cur.toList.length:=by
  rw [show cur.toList.length=cur.size from Array.length_toList,mX]
  exact Nat.mul_le_mul_right _ hle
 have DC:vs.length=es.length * sz:=by rw [← hr.length,bD jD]
 refine h.P9 aX aU Jq hb (dz _ _ _) (zp qC mO MF gi) ?_ (vs':=vs.take (i * sz)++(((vs.drop (i * sz)).take sz).take off++us++((vs.drop (i * sz)).take sz).drop (off+us.length))++vs.drop (i * sz+sz)) ?_ ?_ ?_
 ·rw [List.size_toArray,← Array.length_toList]
  simp only [List.length_append,List.length_take,List.length_drop]
  omega
 ·rw [tn jD hi mO,dA _ _ _ (by rw [mO,bD jD]; exact yq),mO]
  exact ((hr.take _).append Qb).append (hr.drop _)
 ·intro v hv
  simp only [List.mem_append] at hv
  rcases hv with (hv | ((hv | hv) | hv)) | hv
  ·exact h1 v (List.mem_of_mem_take hv)
  ·exact h1 v (List.mem_of_mem_drop (List.mem_of_mem_take (List.mem_of_mem_take hv)))
  ·exact h2 v hv
  ·exact h1 v (List.mem_of_mem_drop (List.mem_of_mem_take (List.mem_of_mem_drop hv)))
  ·exact h1 v (List.mem_of_mem_drop hv)
 ·rw [List.toList_toArray,pA _ _ _ _ _ _ AF yq sy,ht]
theorem aQ.F9 (h:aQ E R w β s a) {id b c off:Nat} {es ns:List AV} {sz:Nat} {el:TypeId} {cur:Array Value} {vs us:List Value} (aX:nth s.G id=some (.cK es sz el)) (aU:nth R.obj id=some (.tok es.length b c 0))
  (hb:w.heap[b]?=some (.cells cur el (0,0))) (jD:da sz es) (hle:es.length≤c) (mX:cur.size=c * sz) (hr:aC R w (ar es) vs) (h1:∀ v∈vs,v.oneCell'=true) (ht:cur.toList.take (es.length * sz)=vs)
  (sy:off+ns.length≤es.length) (Z3:da sz ns) (hu:aC R w (ar ns) us) (h2:∀ v∈us,v.oneCell'=true) :
  aQ E R (w.setRow b ⟨cur.toList.take (off * sz)++us++cur.toList.drop (off * sz+us.length)⟩) β (s.bn (au s.G id (.cK (aY es off ns) sz el))) a ∧
   Step R w β s.boxes R (w.setRow b ⟨cur.toList.take (off * sz)++us++cur.toList.drop (off * sz+us.length)⟩) β s.boxes:=by
 have Ga:us.length=ns.length * sz:=by rw [← hu.length,bD Z3]
 have yq:off * sz+ns.length * sz≤es.length * sz:=by rw [← Nat.add_mul]; exact Nat.mul_le_mul_right _ sy
 have AF:es.length * sz≤cur.toList.length:=by
  rw [show cur.toList.length=cur.size from Array.length_toList,mX]
  exact Nat.mul_le_mul_right _ hle
 have DC:vs.length=es.length * sz:=by rw [← hr.length,bD jD]
 have hm:=pA cur.toList us (es.length * sz) (off * sz) (ns.length * sz) 0 AF yq (by omega)
 simp only [Nat.add_zero,List.take_zero,List.nil_append,Nat.zero_add] at hm
 rw [Ga,ht,show List.drop (ns.length * sz) (List.take (ns.length * sz) (List.drop (off * sz) vs))=[] from List.drop_of_length_le (by rw [List.length_take]; exact Nat.min_le_left _ _),List.append_nil] at hm
 rw [dA _ _ _ sy]
 refine h.Ej aX aU hb (by simp; omega) (qB (qB (zr _ jD) Z3) (Hy _ jD)) ?_ (vs':=vs.take (off * sz)++us++vs.drop (off * sz+ns.length * sz)) ?_ ?_ ?_
 ·rw [List.size_toArray,← Array.length_toList]
  simp only [List.length_append,List.length_take,List.length_drop,Ga]
  omega
 ·rw [b7,b7,gJ _ jD,nw _ jD,Nat.add_mul]
  exact ((hr.take _).append hu).append (hr.drop _)
 ·intro v hv
  simp only [List.mem_append] at hv
  rcases hv with (hv | hv) | hv
  ·exact h1 v (List.mem_of_mem_take hv)
  ·exact h2 v hv
  ·exact h1 v (List.mem_of_mem_drop hv)
 ·rw [List.toList_toArray,Ga]
  exact hm
theorem qD (h:aQ E R w β s a) (t:TypeId) (p x:Operand) (ho:o.op=.store t p x) (hd:o.dst=none) {id f i off sz:Nat} {ty:TypeId} (Ht:bp E s.ae p=.v (.gp id f i off sz ty)) {x':SV} (rx:mW R w β x' (a.eval x)) {s':St} (hs:er E s t (.v (.gp id f i off sz ty)) x'=some (true,s')) :
  bB E R w β s a o s':=by
 have rp:=aJ h p
 rw [Ht] at rp
 have OZ:Rel R w (.gp id f i off sz ty) (a.eval p):=rp
 generalize Ms:a.eval p=pv at OZ
 unfold er at hs
 simp only at hs
 split at hs
 ·rename_i ti v es a6 el IR aX
  split at hs
  ·rename_i dO
   simp only [Bool.and_eq_true] at dO
   obtain ⟨⟨Hs,hlen⟩,Ek⟩:=dO
   have hlen:=Nat.eq_of_beq_eq_true hlen
   have Ek:=Nat.eq_of_beq_eq_true Ek
   subst Ek
   have XS:Rel R w v (a.eval x):=rx
   obtain ⟨c1,c2⟩:=Rel.cells XS Hs
   have qf:v.cells.length=(a.eval x).cells.toList.length:=c1.length
   cases OZ with
   | @gp _ _ _ _ _ b o' _ ro aU cS=>
   obtain ⟨b',c',cur,vs,rfl,g1,g2,g3,g4,g5,g6,g7,g8,g9⟩:=kS h.g aX aU (fun k=>by subst k; exact cS)
   have DC:vs.length=es.length * sz:=by rw [← g7.length,bD g1]
   have AF:es.length * sz≤cur.toList.length:=by
    rw [show cur.toList.length=cur.size from Array.length_toList,g5]
    exact Nat.mul_le_mul_right _ g3
   split at hs
   ·rename_i hw
    rw [Bool.and_eq_true] at hw
    have sy:=Nat.eq_of_beq_eq_true hw.1
    have Gb:=Nat.eq_of_beq_eq_true hw.2
    subst sy
    injection hs with hs
    injection hs with h1 h2
    rw [Bool.and_eq_true,decide_eq_true_eq,decide_eq_true_eq] at h1
    subst h2
    obtain ⟨rfl,rfl⟩:=cS.2 h1.1
    have yq:=sw (sz:=sz) h1.2
    have ba:=fQ (E:=E) (w:=w) IR (b:=b) (vs:=cur.toList) (off:=i * sz+0) (c:=a.eval x) g2 (by rw [← qf]; exact hlen) (by rw [← qf]; omega) c2
    obtain ⟨r1,r2⟩:=h.F7 (us:=(a.eval x).cells.toList) (off:=0) (i:=i) (e':=v) aX aU g2 g1 g3 g5 g7 g8 g9 h1.2 c2 (by rw [← qf]; omega) (by omega) Hs (by
     rw [List.take_zero,List.nil_append,Nat.zero_add,List.drop_of_length_le (by rw [List.length_take,← qf]; omega),List.append_nil]
     exact c1)
    simp only [Nat.add_zero] at Ms ba r1 r2
    refine ⟨.skip,undef,_,R,β,?_,.inr ⟨rfl,rfl⟩,by rw [hd]; exact r1,r2⟩
    simp [execOp,ho,Instr.storeAt,Ms,Instr.sureAddr,ba]
   ·split at hs
    ·rename_i cc cs hg
     split at hs
     ·rename_i hw
      simp only [Bool.and_eq_true] at hw
      obtain ⟨hle,El⟩:=hw
      have hle:=Nat.le_of_ble_eq_true hle
      have El:=Nat.eq_of_beq_eq_true El
      injection hs with hs
      injection hs with h1 h2
      subst h1; subst h2
      obtain ⟨es0,el0,e,B5,F6,he,sx⟩:=vA hg
      rw [aX] at B5
      cases B5
      obtain ⟨rfl,rfl⟩:=cS.2 F6
      have hi:i < es.length:=aT he
      have yq:=sw (sz:=sz) hi
      have P8:=g1 e (uO he)
      have dh:aC R w e.cells ((vs.drop (i * sz)).take sz):=by
       rw [← j9 g1 he]
       exact (g7.drop _).take _
      have hw:=(sx.cells P8.2).rel dh
      have Up:aC R w cs ((vs.drop (i * sz)).take sz):=hw
      have ba:=fQ (E:=E) (w:=w) IR (b:=b) (vs:=cur.toList) (off:=i * sz+off) (c:=a.eval x) g2 (by rw [← qf]; exact hlen) (by rw [← qf]; omega) c2
      have yz:off+v.cells.length≤cs.length:=by omega
      obtain ⟨r1,r2⟩:=h.F7 (us:=(a.eval x).cells.toList) (off:=off) (i:=i) (e':=.agg (aY cs off v.cells)) aX aU g2 g1 g3 g5 g7 g8 g9 hi c2 (by rw [← qf]; omega) (by show (aY cs off v.cells).length=sz; rw [oQ _ _ _ yz]; exact El) rfl (by
       show aC R w (aY cs off v.cells) _
       rw [dA _ _ _ yz,qf]
       exact ((Up.take _).append c1).append (Up.drop _))
      refine ⟨.skip,undef,_,R,β,?_,.inr ⟨rfl,rfl⟩,by rw [hd]; exact r1,r2⟩
      simp [execOp,ho,Instr.storeAt,Ms,Instr.sureAddr,ba]
     ·cases hs
    ·cases hs
  ·cases hs
 ·cases hs
theorem AG (h:aQ E R w β s a) (t:TypeId) (p x:Operand) (ho:o.op=.store t p x) (hd:o.dst=none) {id j f i off sz:Nat} {ty:TypeId} (Ht:bp E s.ae p=.v (.rp id j f i off sz ty)) {x':SV} (rx:mW R w β x' (a.eval x)) {s':St} (hs:er E s t (.v (.rp id j f i off sz ty)) x'=some (true,s')) :
  bB E R w β s a o s':=by
 have rp:=aJ h p
 rw [Ht] at rp
 have OZ:Rel R w (.rp id j f i off sz ty) (a.eval p):=rp
 generalize Ms:a.eval p=pv at OZ
 unfold er at hs
 simp only at hs
 split at hs
 ·rename_i ti v rows a6 el IR aX
  split at hs
  ·rename_i dO
   simp only [Bool.and_eq_true] at dO
   obtain ⟨⟨Hs,hlen⟩,Ek⟩:=dO
   have hlen:=Nat.eq_of_beq_eq_true hlen
   have Ek:=Nat.eq_of_beq_eq_true Ek
   subst Ek
   have XS:Rel R w v (a.eval x):=rx
   obtain ⟨c1,c2⟩:=Rel.cells XS Hs
   have qf:v.cells.length=(a.eval x).cells.toList.length:=c1.length
   cases OZ with
   | @rp _ _ _ _ _ _ b o' _ ro aU cS=>
   split at hs
   ·rename_i hw
    rw [Bool.and_eq_true] at hw
    have sy:=Nat.eq_of_beq_eq_true hw.1
    have Gb:=Nat.eq_of_beq_eq_true hw.2
    subst sy
    injection hs with hs
    injection hs with h1 h2
    rw [Bool.and_eq_true,Bool.and_eq_true,decide_eq_true_eq,decide_eq_true_eq] at h1
    obtain ⟨⟨XU,Z4⟩,XV⟩:=h1
    subst h2
    obtain ⟨ts,c',cur,vs,rfl,Jq,jI,rfl,yp,g2,g3,g4,g5,g6,g7,g8,g9⟩:=AE h.g aX aU cS XU
    have g1:=yp.g
    have DC:vs.length=(rowOf rows j).length * sz:=by rw [← g7.length,bD g1]
    have AF:(rowOf rows j).length * sz≤cur.toList.length:=by
     rw [show cur.toList.length=cur.size from Array.length_toList,g5,← XU]
     exact Nat.mul_le_mul_right _ g3
    subst XU
    have yq:=sw (sz:=sz) Z4
    have ba:=fQ (E:=E) (w:=w) IR (b:=b) (vs:=cur.toList) (off:=i * sz+0) (c:=a.eval x) g2 (by rw [← qf]; exact hlen) (by rw [← qf]; omega) c2
    obtain ⟨r1,r2⟩:=h.F8 (us:=(a.eval x).cells.toList) (off:=0) (i:=i) (e':=v) aX aU Jq g2 yp g3 g5 g7 g8 g9 Z4 c2 (by rw [← qf]; omega) (by omega) Hs XV (by
     rw [List.take_zero,List.nil_append,Nat.zero_add,List.drop_of_length_le (by rw [List.length_take,← qf]; omega),List.append_nil]
     exact c1)
    simp only [Nat.add_zero] at Ms ba r1 r2
    refine ⟨.skip,undef,_,R,β,?_,.inr ⟨rfl,rfl⟩,by rw [hd]; exact r1,r2⟩
    simp [execOp,ho,Instr.storeAt,Ms,Instr.sureAddr,ba]
   ·split at hs
    ·rename_i cc cs hg
     split at hs
     ·rename_i hw
      simp only [Bool.and_eq_true] at hw
      obtain ⟨hle,El⟩:=hw
      have hle:=Nat.le_of_ble_eq_true hle
      have El:=Nat.eq_of_beq_eq_true El
      injection hs with hs
      injection hs with h1 h2
      rw [Bool.and_eq_true] at h1
      obtain ⟨h1,XV⟩:=h1
      subst h1; subst h2
      obtain ⟨es0,el0,e,B5,F6,he,sx⟩:=vB hg
      rw [aX] at B5
      cases B5
      obtain ⟨ts,c',cur,vs,rfl,Jq,jI,rfl,yp,g2,g3,g4,g5,g6,g7,g8,g9⟩:=AE h.g aX aU cS F6
      have g1:=yp.g
      have DC:vs.length=(rowOf rows j).length * sz:=by rw [← g7.length,bD g1]
      have AF:(rowOf rows j).length * sz≤cur.toList.length:=by
       rw [show cur.toList.length=cur.size from Array.length_toList,g5,← F6]
       exact Nat.mul_le_mul_right _ g3
      subst F6
      have hi:i < (rowOf rows j).length:=aT he
      have yq:=sw (sz:=sz) hi
      have P8:=g1 e (uO he)
      have dh:aC R w e.cells ((vs.drop (i * sz)).take sz):=by
       rw [← j9 g1 he]
       exact (g7.drop _).take _
      have hw:=(sx.cells P8.2).rel dh
      have Up:aC R w cs ((vs.drop (i * sz)).take sz):=hw
      have ba:=fQ (E:=E) (w:=w) IR (b:=b) (vs:=cur.toList) (off:=i * sz+off) (c:=a.eval x) g2 (by rw [← qf]; exact hlen) (by rw [← qf]; omega) c2
      have yz:off+v.cells.length≤cs.length:=by omega
      obtain ⟨r1,r2⟩:=h.F8 (us:=(a.eval x).cells.toList) (off:=off) (i:=i) (e':=.agg (aY cs off v.cells)) aX aU Jq g2 yp g3 g5 g7 g8 g9 hi c2 (by rw [← qf]; omega) (by show (aY cs off v.cells).length=sz; rw [oQ _ _ _ yz]; exact El) rfl XV (by
       show aC R w (aY cs off v.cells) _
       rw [dA _ _ _ yz,qf]
       exact ((Up.take _).append c1).append (Up.drop _))
      refine ⟨.skip,undef,_,R,β,?_,.inr ⟨rfl,rfl⟩,by rw [hd]; exact r1,r2⟩
      simp [execOp,ho,Instr.storeAt,Ms,Instr.sureAddr,ba]
     ·cases hs
    ·cases hs
  ·cases hs
 ·cases hs
theorem B6 (h:aQ E R w β s a) (t:TypeId) (p x:Operand) (ho:o.op=.store t p x) (hd:o.dst=none) {s':St} (hs:er E s t (bp E s.ae p) (bp E s.ae x)=some (true,s')) :
  bB E R w β s a o s':=by
 have IT:=hs
 unfold er at hs
 split at hs
 ·rename_i id f i off sz ty Ht
  rw [Ht] at IT
  exact qD h t p x ho hd Ht (aJ h x) IT
 ·rename_i id j f i off sz ty Ht
  rw [Ht] at IT
  exact AG h t p x ho hd Ht (aJ h x) IT
 ·split at hs
  ·rename_i AH hv
   injection hs with hs
   injection hs with h1 h2
   subst h2
   exact D3 h t p x ho hd hv
  ·cases hs
def af.reset (R:af) (id:Nat) (ro:RO):af:=⟨R.I,au R.obj id ro⟩
theorem pC {id g:Nat} {r0 ro:RO} (aX:nth R.obj id=some r0) (aU:∀ b,ro.has b→b=g) {b:Nat} (hl:Live (R.reset id ro) b):b=g∨Live R b:=by
 obtain ⟨i,r,h1,h2⟩:=hl
 rcases aq aX h1 with ⟨_,rfl⟩ | ⟨_,h1⟩
 ·exact .inl (aU b h2)
 ·exact .inr ⟨i,r,h1,h2⟩
theorem aQ.Qd (h:aQ E R w β s a) {cur:Array Value} {vs:List Value} {es es':List AV} {elem:TypeId} {sz cap id:Nat} {r0:RO} (hg:nth s.G id=some (.cK es sz elem)) (aX:nth R.obj id=some r0) (hf:∀ b c,bQ r0 (.tok es'.length b c 0))
  (hn:es'.length≤cap) (hm:cap≤maxLen) (hs:cur.size=cap * sz) (jD:da sz es') (hr:aC R w (ar es') vs) (h1:∀ v∈vs,v.oneCell'=true) (ht:cur.toList.take (es'.length * sz)=vs) :
  aQ E (R.reset id (.tok es'.length w.heap.size cap 0)) (w.drew.alloc (.cells cur elem)) β (s.bn (au s.G id (.cK es' sz elem))) a ∧
  Step R w β s.boxes (R.reset id (.tok es'.length w.heap.size cap 0)) (w.drew.alloc (.cells cur elem)) β s.boxes:=by
 have e:Ext R w (R.reset id (.tok es'.length w.heap.size cap 0)) (w.drew.alloc (.cells cur elem)):=
  ⟨fun _ _ h=>h,fun b o hi=>bC (heap_alloc_old w.drew _ b (h.g.wf b o hi)) o,fun i r hr=>by
   by_cases ei:id=i
   ·subst ei
    rw [aX] at hr
    cases hr
    exact ⟨_,an aX,hf _ _⟩
   ·exact ⟨r,by rw [af.reset,aD ei]; exact hr,bQ.refl r⟩,.old fun b hb=>heap_alloc_old w.drew _ b hb⟩
 have old:∀ b,b < w.heap.size→(w.drew.alloc (.cells cur elem)).heap[b]?=w.heap[b]?:=fun b hb=>heap_alloc_old w.drew _ b hb
 have new:(w.drew.alloc (.cells cur elem)).heap[w.heap.size]?=some (.cells cur elem (0,0)):=heap_alloc_new w.drew _
 have live:∀ b,b < w.heap.size→Live (R.reset id (.tok es'.length w.heap.size cap 0)) b→Live R b:=fun b hb hl=>by
  rcases pC (g:=w.heap.size) (ro:=.tok es'.length w.heap.size cap 0) aX (fun _ h=>h) hl with rfl | hl
  ·omega
  ·exact hl
 refine ⟨⟨⟨by simp [St.bn,af.reset,h.g.len],fun i gg r jZ h2=>?_,fun i j ri rj b jZ h2 b1 b2=>?_,fun b o hi=>?_,fun g cs hg=>(h.g.ck g cs hg).mono e,Nat.le_succ_of_le h.g.lo⟩,?_,h.t.mono e,h.n,h.d.mono e⟩,?_⟩
 ·rcases aq aX h2 with ⟨rfl,rfl⟩ | ⟨cg,h2⟩
  ·simp only [St.bn] at jZ
   rw [an hg] at jZ
   cases jZ
   exact ⟨rfl,rfl,jD,cur,vs,new,hn,hm,hs,fun o hi=>by have:=h.g.wf _ _ hi; omega,hr.mono e,h1,ht⟩
  ·simp only [St.bn] at jZ
   rw [aD (Ne.symm cg)] at jZ
   exact (h.g.obj i gg r jZ h2).mono e (fun b hb=>old b (h.g.bE ⟨i,r,h2,hb⟩)) (fun b o _ hi=>hi)
 ·rcases aq aX jZ with ⟨g3,e1⟩ | ⟨g3,g1⟩
  ·rcases aq aX h2 with ⟨g4,e2⟩ | ⟨g4,g2⟩
   ·omega
   ·have:=h.g.bE ⟨j,rj,g2,b2⟩
    rw [e1] at b1
    simp [RO.has] at b1
    omega
  ·rcases aq aX h2 with ⟨g4,e2⟩ | ⟨g4,g2⟩
   ·have:=h.g.bE ⟨i,ri,g1,b1⟩
    rw [e2] at b2
    simp [RO.has] at b2
    omega
   ·exact h.g.inj i j ri rj b g1 g2 b1 b2
 ·have:=h.g.wf b o hi
  simp
  omega
 ·exact h.b.bY e (fun k cs hk=>old _ (h.cU (.inr ⟨k,cs,hk,rfl⟩))) (fun k cs o hk hi=>hi) (fun k cs hk hl=>live _ (h.cU (.inr ⟨k,cs,hk,rfl⟩)) hl)
 ·refine ⟨e,rfl,rfl,rfl,by simp,fun b hb _=>old b hb,fun b hb ho=>?_,fun b o hi hb _=>hi⟩
  rcases ho with ho | ho
  ·exact .inl (live b hb ho)
  ·exact .inr ho
theorem aQ.MG (h:aQ E R w β s a) {cur:Array Value} {vs:List Value} {es es':List AV} {elem:TypeId} {sz cap id:Nat} {r0:RO} (hg:nth s.G id=some (.cK es sz elem)) (aX:nth R.obj id=some r0) (hf:∀ b c,bQ r0 (.tok es'.length b c 0))
  (hn:es'.length≤cap) (hm:cap≤maxLen) (hs:cur.size=cap * sz) (jD:da sz es') (hr:aC R w (ar es') vs) (h1:∀ v∈vs,v.oneCell'=true) (ht:cur.toList.take (es'.length * sz)=vs) :
  aQ E (R.reset id (.tok es'.length w.heap.size cap 0)) (w.alloc (.cells cur elem)) β (s.bn (au s.G id (.cK es' sz elem))) a ∧
  Step R w β s.boxes (R.reset id (.tok es'.length w.heap.size cap 0)) (w.alloc (.cells cur elem)) β s.boxes:=by
 have e:Ext R w (R.reset id (.tok es'.length w.heap.size cap 0)) (w.alloc (.cells cur elem)):=
  ⟨fun _ _ h=>h,fun b o hi=>bC (heap_alloc_old w _ b (h.g.wf b o hi)) o,fun i r hr=>by
   by_cases ei:id=i
   ·subst ei
    rw [aX] at hr
    cases hr
    exact ⟨_,an aX,hf _ _⟩
   ·exact ⟨r,by rw [af.reset,aD ei]; exact hr,bQ.refl r⟩,.old fun b hb=>heap_alloc_old w _ b hb⟩
 have old:∀ b,b < w.heap.size→(w.alloc (.cells cur elem)).heap[b]?=w.heap[b]?:=fun b hb=>heap_alloc_old w _ b hb
 have new:(w.alloc (.cells cur elem)).heap[w.heap.size]?=some (.cells cur elem (0,0)):=heap_alloc_new w _
 have live:∀ b,b < w.heap.size→Live (R.reset id (.tok es'.length w.heap.size cap 0)) b→Live R b:=fun b hb hl=>by
  rcases pC (g:=w.heap.size) (ro:=.tok es'.length w.heap.size cap 0) aX (fun _ h=>h) hl with rfl | hl
  ·omega
  ·exact hl
 refine ⟨⟨⟨by simp [St.bn,af.reset,h.g.len],fun i gg r jZ h2=>?_,fun i j ri rj b jZ h2 b1 b2=>?_,fun b o hi=>?_,fun g cs hg=>(h.g.ck g cs hg).mono e,h.g.lo⟩,?_,h.t.mono e,h.n,h.d.mono e⟩,?_⟩
 ·rcases aq aX h2 with ⟨rfl,rfl⟩ | ⟨cg,h2⟩
  ·simp only [St.bn] at jZ
   rw [an hg] at jZ
   cases jZ
   exact ⟨rfl,rfl,jD,cur,vs,new,hn,hm,hs,fun o hi=>by have:=h.g.wf _ _ hi; omega,hr.mono e,h1,ht⟩
  ·simp only [St.bn] at jZ
   rw [aD (Ne.symm cg)] at jZ
   exact (h.g.obj i gg r jZ h2).mono e (fun b hb=>old b (h.g.bE ⟨i,r,h2,hb⟩)) (fun b o _ hi=>hi)
 ·rcases aq aX jZ with ⟨g3,e1⟩ | ⟨g3,g1⟩
  ·rcases aq aX h2 with ⟨g4,e2⟩ | ⟨g4,g2⟩
   ·omega
   ·have:=h.g.bE ⟨j,rj,g2,b2⟩
    rw [e1] at b1
    simp [RO.has] at b1
    omega
  ·rcases aq aX h2 with ⟨g4,e2⟩ | ⟨g4,g2⟩
   ·have:=h.g.bE ⟨i,ri,g1,b1⟩
    rw [e2] at b2
    simp [RO.has] at b2
    omega
   ·exact h.g.inj i j ri rj b g1 g2 b1 b2
 ·have:=h.g.wf b o hi
  simp
  omega
 ·exact h.b.bY e (fun k cs hk=>old _ (h.cU (.inr ⟨k,cs,hk,rfl⟩))) (fun k cs o hk hi=>hi) (fun k cs hk hl=>live _ (h.cU (.inr ⟨k,cs,hk,rfl⟩)) hl)
 ·refine ⟨e,rfl,rfl,rfl,by simp,fun b hb _=>old b hb,fun b hb ho=>?_,fun b o hi hb _=>hi⟩
  rcases ho with ho | ho
  ·exact .inl (live b hb ho)
  ·exact .inr ho
theorem aQ.MH (h:aQ E R w β s a) {cur cur2:Array Value} {vs:List Value} {es es':List AV} {elem:TypeId} {sz id g c:Nat} (hg:nth s.G id=some (.cK es sz elem)) (aX:nth R.obj id=some (.tok es.length g c 0)) (bK:es.length < es'.length) (hn:es'.length≤c)
  (iF:w.heap[g]?=some (.cells cur elem (0,0))) (hs:cur2.size=cur.size) (jD:da sz es') (hr:aC R w (ar es') vs) (h1:∀ v∈vs,v.oneCell'=true) (ht:cur2.toList.take (es'.length * sz)=vs) :
  aQ E (R.reset id (.tok es'.length g c 0)) (w.setRow g cur2) β (s.bn (au s.G id (.cK es' sz elem))) a ∧
  Step R w β s.boxes (R.reset id (.tok es'.length g c 0)) (w.setRow g cur2) β s.boxes:=by
 obtain ⟨_,q0,q1,Qa,Z2,p1,p2,p3,p4,p5,p6,p7,p8⟩:=h.g.obj id _ _ hg aX
 rw [iF] at p1
 cases p1
 have r8:Live R g:=⟨id,_,aX,rfl⟩
 have old:∀ b,b≠g→(w.setRow g cur2).heap[b]?=w.heap[b]?:=fun b hb=>setRow_other w g b cur2 hb
 have new:(w.setRow g cur2).heap[g]?=some (.cells cur2 elem (0,0)):=setRow_heap w g cur cur2 elem (0,0) iF
 have e:Ext R w (R.reset id (.tok es'.length g c 0)) (w.setRow g cur2):=by
  have e0:=fy (R:=R) (w:=w) p5 cur2
  refine ⟨fun _ _ h=>h,e0.cell,fun i r hr=>?_,e0.lp⟩
  by_cases ei:id=i
  ·subst ei
   rw [aX] at hr
   cases hr
   exact ⟨_,an aX,by omega,fun e=>by omega⟩
  ·exact ⟨r,by rw [af.reset,aD ei]; exact hr,bQ.refl r⟩
 have live:∀ b,Live (R.reset id (.tok es'.length g c 0)) b→Live R b:=fun b hl=>by
  rcases pC (g:=g) (ro:=.tok es'.length g c 0) aX (fun _ h=>h) hl with rfl | hl
  ·exact r8
  ·exact hl
 have pz:∀ k cs,cX s.boxes k=some cs→β k≠g:=fun k cs hk eq=>(h.b.box k cs hk).2.2 (eq ▸ r8)
 refine ⟨⟨⟨by simp [St.bn,af.reset,h.g.len],fun i gg r jZ h2=>?_,fun i j ri rj b jZ h2 b1 b2=>?_,fun b o hi=>?_,fun g cs hg=>(h.g.ck g cs hg).mono e,h.g.lo⟩,?_,h.t.mono e,h.n,h.d.mono e⟩,?_⟩
 ·rcases aq aX h2 with ⟨rfl,rfl⟩ | ⟨cg,h2⟩
  ·simp only [St.bn] at jZ
   rw [an hg] at jZ
   cases jZ
   exact ⟨rfl,rfl,jD,cur2,vs,new,hn,p3,by rw [hs]; exact p4,p5,hr.mono e,h1,ht⟩
  ·simp only [St.bn] at jZ
   rw [aD (Ne.symm cg)] at jZ
   have P6:∀ b,r.has b→b≠g:=fun b hb eq=>cg (h.g.inj i id _ _ b h2 aX hb (by rw [eq]; rfl))
   exact (h.g.obj i gg r jZ h2).mono e (fun b hb=>old b (P6 b hb)) (fun b o hb hi=>hi)
 ·rcases aq aX jZ with ⟨g3,e1⟩ | ⟨g3,g1⟩
  ·rcases aq aX h2 with ⟨g4,e2⟩ | ⟨g4,g2⟩
   ·omega
   ·rw [e1] at b1
    exact g3.trans (h.g.inj id j _ _ b aX g2 b1 b2)
  ·rcases aq aX h2 with ⟨g4,e2⟩ | ⟨g4,g2⟩
   ·rw [e2] at b2
    exact (h.g.inj i id _ _ b g1 aX b1 b2).trans g4.symm
   ·exact h.g.inj i j ri rj b g1 g2 b1 b2
 ·have:=h.g.wf b o hi
  simpa using this
 ·exact h.b.bY e (fun k cs hk=>old _ (pz k cs hk)) (fun k cs o hk hi=>hi) (fun k cs hk hl=>live _ hl)
 ·refine ⟨e,rfl,rfl,rfl,by simp,fun b hb nu=>old b (fun eq=>nu (.inl (eq ▸ r8))),fun b hb ho=>?_,fun b o hi hb nu=>hi⟩
  rcases ho with ho | ho
  ·exact .inl (live b ho)
  ·exact .inr ho
theorem aQ.Jr (h:aQ E R w β s a) {cur:Array Value} {vs:List Value} {es:List AV} {elem:TypeId} {sz cap:Nat} (hn:es.length≤cap) (hm:cap≤maxLen) (hs:cur.size=cap * sz) (jD:da sz es) (hr:aC R w (ar es) vs) (h1:∀ v∈vs,v.oneCell'=true) (ht:cur.toList.take (es.length * sz)=vs) :
  aQ E (R.add (.tok es.length w.heap.size cap 0)) (w.alloc (.cells cur elem)) β (s.df (.cK es sz elem)) a:=
 h.j6 (.cells cur elem) (.cK es sz elem) (.tok es.length w.heap.size cap 0) (by exact fun _ h=>h)
  ⟨rfl,rfl,jD,cur,vs,heap_alloc_new w _,hn,hm,hs,fun o hi=>by have:=h.g.wf _ _ hi; omega,hr.mono (fR h.g.wf _ _),h1,ht⟩
theorem ul (h:aQ E R w β s a) (t:TypeId) (x y:Operand) (ho:o.op=.makeSlice t x y) {i:TI} (hi:E.ti t=some i) {k k':IntKind} {n m:Int} (hx:bp E s.ae x=.v (.int k n)) (hy:bp E s.ae y=.v (.int k' m))
  {elem esz mQ:Nat} {ag:Bool} {z:AV} (hk:i.k=.sl elem esz ag mQ (some z)) (hz:z.cells.length=esz) (Ed:1≤esz) (lM:z.aN=true) (lD:z.closed=true) (hc:0≤n∧n≤m∧m≤140737488355328∧m * mQ≤140737488355328) :
  bB E R w β s a o ((s.df (.cK (List.replicate n.toNat z) esz elem)).put o.dst (.v (.cT s.G.length n.toNat 0 esz n.toNat))):=by
 obtain ⟨us,z1,z2,ba⟩:=lr h t x y ho hi hx hy hk hz Ed lM hc
 have L6:n.toNat≤m.toNat:=by omega
 have jD:=(dG (n:=m.toNat) hz lM lD).g
 have Ga:us.length=m.toNat * esz:=by rw [← z1.length,bD jD,List.length_replicate]
 have AF:(List.replicate n.toNat z).length=n.toNat:=List.length_replicate
 have Em:(List.replicate m.toNat z).take n.toNat=List.replicate n.toNat z:=by rw [List.take_replicate,Nat.min_eq_left L6]
 have hr:aC R w (ar (List.replicate n.toNat z)) (us.take (n.toNat * esz)):=by
  rw [← Em,gJ _ jD]
  exact z1.take _
 have r1:=h.Jr (cur:=⟨us⟩) (vs:=us.take (n.toNat * esz)) (es:=List.replicate n.toNat z) (elem:=elem) (cap:=m.toNat) (by rw [AF]; exact L6) (by unfold maxLen; omega) (by simpa using Ga) (dG hz lM lD).g hr (fun v hv=>z2 v (List.mem_of_mem_take hv)) (by rw [AF])
 rw [AF] at r1
 have e:=fR (R:=R) (w:=w) h.g.wf (.cells ⟨us⟩ elem) (.tok n.toNat w.heap.size m.toNat 0)
 exact ⟨_,.slice (some ⟨w.heap.size,0,none⟩) n.toNat m.toNat,_,R.add (.tok n.toNat w.heap.size m.toNat 0),β,ba,.inl rfl,r1.put o.dst (x:=.v (.cT s.G.length n.toNat 0 esz n.toNat)) (Rel.cT (fS h _) ⟨Nat.le_refl _,fun _=>⟨rfl,Nat.zero_add _,.inl (Nat.zero_mul _).symm⟩⟩ L6),by rw [aS]; exact cM h _ _ (by exact fun _ h=>h)⟩
theorem qE:∀ {G:List GO} {sz:Nat} {e:TypeId} {i j:Nat},om G sz e i=some j→∃ k,j=i+k∧nth G k=some (.cK [] sz e)
 | [],_,_,_,_,h=>by cases h
 | g :: G,sz,e,i,j,h=>by
  have Uq:om G sz e (i+1)=some j→∃ k,j=i+k∧nth (g :: G) k=some (.cK [] sz e):=fun h=>by
   obtain ⟨k,h1,h2⟩:=qE h
   exact ⟨k+1,by omega,h2⟩
  unfold om at h
  split at h
  ·cases ‹_ :: _=[]›
  ·rename_i es s' e' G' iP
   obtain ⟨rfl,rfl⟩:=List.cons.inj iP
   split at h
   ·rename_i j' hj
    cases h
    exact Uq hj
   ·rw [Bool.cond_eq_ite] at h
    split at h
    ·rename_i hb
     rw [Bool.and_eq_true] at hb
     have q1:=Nat.eq_of_beq_eq_true hb.1
     have q2:=Nat.eq_of_beq_eq_true hb.2
     cases es with
     | nil=>
      injection h with h
      rw [q1,q2]
      exact ⟨0,by omega,rfl⟩
     | cons x l=>cases h
    ·cases h
  ·rename_i g' G' _ iP
   obtain ⟨rfl,rfl⟩:=List.cons.inj iP
   exact Uq h
theorem AI (h:aQ E R w β s a) (t:TypeId) (x y:Operand) (ho:o.op=.makeSlice t x y) {i:TI} (hi:E.ti t=some i) {k k':IntKind} {n m:Int} (hx:bp E s.ae x=.v (.int k n)) (hy:bp E s.ae y=.v (.int k' m))
  {elem esz mQ:Nat} {ag:Bool} {z:AV} (hk:i.k=.sl elem esz ag mQ (some z)) (hz:z.cells.length=esz) (Ed:1≤esz) (lM:z.aN=true) {s':St} (hs:mi s o.dst elem esz mQ z n m=some (true,s')) :
  bB E R w β s a o s':=by
 unfold mi at hs
 split at hs
 ·rename_i id aX
  split at hs
  ·rename_i lD
   injection hs with hs; injection hs with hc hs
   subst hs
   have hc:=of_decide_eq_true hc
   obtain ⟨gZ,he,aX⟩:=qE aX
   rw [Nat.zero_add] at he
   subst he
   obtain ⟨us,z1,z2,ba⟩:=lr h t x y ho hi hx hy hk hz Ed lM ⟨by omega,by omega,by omega,by omega⟩
   have L6:n.toNat≤m.toNat:=by omega
   have jD:=(dG (n:=m.toNat) hz lM lD).g
   have Ga:us.length=m.toNat * esz:=by rw [← z1.length,bD jD,List.length_replicate]
   have AF:(List.replicate n.toNat z).length=n.toNat:=List.length_replicate
   have Em:(List.replicate m.toNat z).take n.toNat=List.replicate n.toNat z:=by rw [List.take_replicate,Nat.min_eq_left L6]
   have hr:aC R w (ar (List.replicate n.toNat z)) (us.take (n.toNat * esz)):=by
    rw [← Em,gJ _ jD]
    exact z1.take _
   obtain ⟨ro,aU⟩:∃ ro,nth R.obj id=some ro:=by
    have bK:=aT aX
    rw [← h.g.len] at bK
    exact ⟨R.obj[id],by rw [aG,List.getElem?_eq_getElem bK]⟩
   have hle:∀ b c,bQ ro (.tok (List.replicate n.toNat z).length b c 0):=fun b c=>by
    have bt:=h.g.obj id _ _ aX aU
    rw [AF]
    cases ro with
    | none=>exact bt.elim
    | aR=>show 1≤n.toNat; omega
    | bw _=>exact bt.elim
    | aM _=>exact bt.elim
    | tok f g c' k0=>
     obtain ⟨_,hf,_⟩:=bt
     simp only [List.length_nil] at hf
     exact ⟨by omega,fun e=>by omega⟩
   obtain ⟨r1,r2⟩:=h.MG (cur:=⟨us⟩) (vs:=us.take (n.toNat * esz)) (es':=List.replicate n.toNat z) (elem:=elem) (cap:=m.toNat) aX aU hle (by rw [AF]; exact L6) (by unfold maxLen; omega) (by simpa using Ga) (dG hz lM lD).g hr (fun v hv=>z2 v (List.mem_of_mem_take hv)) (by rw [AF])
   rw [AF] at r1 r2
   exact ⟨_,.slice (some ⟨w.heap.size,0,none⟩) n.toNat m.toNat,_,_,β,ba,.inl rfl,r1.put o.dst (x:=.v (.cT id n.toNat 0 esz n.toNat)) (Rel.cT (an aU) ⟨Nat.le_refl _,fun _=>⟨rfl,Nat.zero_add _,.inl (Nat.zero_mul _).symm⟩⟩ L6),by rw [aS]; exact r2⟩
  ·cases hs
 ·cases hs
theorem sA (h:aQ E R w β s a) (t:TypeId) (len:Nat) (parts:Array (Nat × Operand)) (ho:o.op=.buildSlice t len parts) {k:LK} {esz:Nat} {es:List AV} (hv:b8 E s t len parts.toList=some (.list k esz es)) {i:TI} (hi:E.ti t=some i) {elem a6 mQ:Nat} {ag:Bool} {z:Option AV} (hk:i.k=.sl elem a6 ag mQ z) (hm:len≤65536) :
  bB E R w β s a o ((s.df (.cK es esz elem)).put o.dst (.v (.cT s.G.length len 0 esz len))):=by
 obtain ⟨es',PY,us,Un,Uk,ba,g2,hlen,u2,u3,i',XN,TA,z',pw,gm⟩:=ib h t len parts ho hv
 cases Uk
 rw [hi] at pw
 cases pw
 rw [hk] at gm
 cases gm
 have Uo:us.length=len * esz:=by rw [← u2.length,cG g2,hlen]
 have r1:=h.Jr (cur:=⟨us⟩) (vs:=us) (es:=es) (elem:=elem) (cap:=len) (by rw [hlen]; exact Nat.le_refl _) (by simp [maxLen]; omega) (by simpa using Uo) g2.g u2 u3 (by rw [hlen,← Uo]; exact List.take_length)
 rw [hlen] at r1
 exact ⟨_,.slice (some ⟨w.heap.size,0,none⟩) len len,_,R.add (.tok len w.heap.size len 0),β,ba,.inl rfl,r1.put o.dst (x:=.v (.cT s.G.length len 0 esz len)) (Rel.cT (fS h _) ⟨Nat.le_refl _,fun _=>⟨rfl,Nat.zero_add _,.inl (Nat.zero_mul _).symm⟩⟩ (Nat.le_refl _)),by rw [aS]; exact cM h _ _ (by exact fun _ h=>h)⟩
end ops
end Go.Am
