/- The abstract machine: what it does is what the model does: slices that grow and are written. -/
import Derived.Test.YtldcljfjjoidhaaGreatDoorAmKC
import Derived.Lib.AppendStr
set_option linter.all false
namespace Go.Am
open Go
section lists
theorem uQ {α:Type} (c us:List α) (n p sz off:Nat) (hn:n≤c.length) (hp:p+sz≤n) (ho:off+us.length≤sz) :
  (c.take (p+off)++us++c.drop (p+off+us.length)).take n =
   (c.take n).take p++((((c.take n).drop p).take sz).take off++us++(((c.take n).drop p).take sz).drop (off+us.length))++(c.take n).drop (p+sz):=by
 apply List.ext_getElem?
 intro j
 simp only [List.getElem?_append,List.getElem?_take,List.getElem?_drop,List.length_append,List.length_take,List.length_drop]
 by_cases h1:j < p
 ·rw [if_pos (by omega),if_pos (by omega),if_pos (by omega),if_pos (by omega),if_pos (by omega),if_pos (by omega),if_pos (by omega),if_pos (by omega)]
 ·by_cases h2:j < p+off
  ·rw [if_pos (by omega),if_pos (by omega),if_pos (by omega),if_pos (by omega),if_pos (by omega),if_neg (by omega),if_pos (by omega),if_pos (by omega),if_pos (by omega),if_pos (by omega),if_pos (by omega)]
   congr 1; omega
  ·by_cases h3:j < p+off+us.length
   ·rw [if_pos (by omega),if_pos (by omega),if_neg (by omega),if_pos (by omega),if_neg (by omega),if_pos (by omega),if_neg (by omega)]
    congr 1; omega
   ·by_cases h4:j < p+sz
    ·rw [if_pos (by omega),if_neg (by omega),if_pos (by omega),if_neg (by omega),if_neg (by omega),if_pos (by omega),if_pos (by omega)]
     congr 1; omega
    ·by_cases h5:j < n
     ·rw [if_pos (by omega),if_neg (by omega),if_neg (by omega),if_pos (by omega)]
      congr 1; omega
     ·rw [if_neg (by omega),if_neg (by omega),if_neg (by omega)]
theorem pA {sz:Nat}:∀ {es:List AV} {i:Nat} {e:AV},dp sz es→nth es i=some e→((ar es).drop (i * sz)).take sz=e.cells
 | [],_,_,_,h=>by simp [nth] at h
 | x :: es,0,e,h,hi=>by
  simp only [nth] at hi
  cases hi
  have h1:=(h x (by simp)).1
  rw [Nat.zero_mul,List.drop_zero]
  simp only [ar]
  rw [← h1,List.take_left]
 | x :: es,i+1,e,h,hi=>by
  have h1:=(h x (by simp)).1
  have ih:=pA (i:=i) (fun y hy=>h y (by simp [hy])) (show nth es i=some e from hi)
  simp only [ar]
  rw [show (i+1) * sz=x.cells.length+i * sz by rw [h1,Nat.succ_mul]; omega,List.drop_append,List.drop_of_length_le (by omega),List.nil_append,Nat.add_sub_cancel_left]
  exact ih
theorem qm {sz:Nat} {l r:List AV} (h:dp sz l) (k:dp sz r):dp sz (l++r):=fun e he=>by
 rcases List.mem_append.1 he with he | he
 ·exact h e he
 ·exact k e he
theorem yj {sz:Nat} {l:List AV} (n:Nat) (h:dp sz l):dp sz (l.take n):=fun e he=>h e (List.mem_of_mem_take he)
theorem FZ {sz:Nat} {l:List AV} (n:Nat) (h:dp sz l):dp sz (l.drop n):=fun e he=>h e (List.mem_of_mem_drop he)
theorem iF {sz:Nat}:∀ {es:List AV} (i:Nat),dp sz es→ar (es.take i)=(ar es).take (i * sz)
 | [],i,_=>by simp [ar]
 | e :: es,0,_=>by simp [ar]
 | e :: es,i+1,h=>by
  have h1:=(h e (by simp)).1
  simp only [List.take_succ_cons,ar]
  rw [iF i (fun y hy=>h y (by simp [hy])),show (i+1) * sz=e.cells.length+i * sz by rw [h1,Nat.succ_mul]; omega,List.take_append,Nat.add_sub_cancel_left,List.take_of_length_le (by omega:e.cells.length≤e.cells.length+i * sz)]
theorem ni {sz:Nat}:∀ {es:List AV} (i:Nat),dp sz es→ar (es.drop i)=(ar es).drop (i * sz)
 | [],i,_=>by simp [ar]
 | e :: es,0,_=>by simp [ar]
 | e :: es,i+1,h=>by
  have h1:=(h e (by simp)).1
  simp only [List.drop_succ_cons,ar]
  rw [ni i (fun y hy=>h y (by simp [hy])),show (i+1) * sz=e.cells.length+i * sz by rw [h1,Nat.succ_mul]; omega,List.drop_append,List.drop_of_length_le (by omega:e.cells.length≤e.cells.length+i * sz),List.nil_append,Nat.add_sub_cancel_left]
theorem cU {sz:Nat} {es:List AV} (h:dp sz es):(ar es).length=es.length * sz:=by
 induction es with
 | nil=>simp [ar]
 | cons e es ih=>
  have h1:=(h e (by simp)).1
  have:=ih (fun x hx=>h x (by simp [hx]))
  simp only [ar,List.length_append,this,h1,List.length_cons,Nat.add_mul]
  omega
theorem CS {sz:Nat} {es:List AV} {i:Nat} {v:AV} (h:dp sz es) (h1:v.cells.length=sz) (h2:v.aQ=true):dp sz (aA es i v):=fun e he=>by
 rw [fy] at he
 rcases List.mem_or_eq_of_mem_set he with he | rfl
 ·exact h e he
 ·exact ⟨h1,h2⟩
theorem AT {sz:Nat} {es:List AV} {i:Nat} {v:AV} (h:dp sz es) (hi:i < es.length) (hv:v.cells.length=sz):ar (aA es i v)=a7 (ar es) (i * sz) v.cells:=by
 have CT:i * sz+sz≤es.length * sz:=by
  rw [← Nat.succ_mul]
  exact Nat.mul_le_mul_right _ hi
 rw [fy,List.set_eq_take_append_cons_drop,if_pos hi,dX _ _ _ (by rw [hv,cU h]; exact CT),cF,iF i h,hv]
 simp only [ar]
 rw [ni (i+1) h,Nat.succ_mul,List.append_assoc]
end lists
section ops
variable {E:Env} {R:ak} {w:World} {β:Nat→Nat} {s:St} {a:Act} {o:Oper}
theorem lZ {G:List GO} (h:de E R w G) {id:Nat} {es:List AV} {sz:Nat} {el:TypeId} {ro:RO} (hid:nth G id=some (.cS es sz el)) (bP:nth R.obj id=some ro) (hn:ro≠.bC) :
  ∃ b c cur vs,ro=.tok es.length b c∧dp sz es∧w.heap[b]?=some (.cells cur el (0,0))∧es.length≤c∧c≤maxLen∧cur.size=c * sz∧(∀ o,¬ R.I b o)∧aH R w (ar es) vs∧(∀ v∈vs,v.oneCell'=true)∧cur.toList.take (es.length * sz)=vs:=by
 have hr:=h.obj id _ _ hid bP
 cases ro with
 | none=>exact hr.elim
 | bC=>exact absurd rfl hn
 | bU b=>exact hr.elim
 | ba _=>exact hr.elim
 | tok f b c=>
  obtain ⟨rfl,h1,cur,vs,h2,h3,h4,h5,h6,h7,h8,h9⟩:=hr
  exact ⟨b,c,cur,vs,rfl,h1,h2,h3,h4,h5,h6,h7,h8,h9⟩
theorem uR {id f i sz:Nat} {t:TypeId} {v:AV} (h:uw E s id f i sz t=some (true,v)) :
  ∃ es el e,nth s.G id=some (.cS es sz el)∧f=es.length∧nth es i=some e∧hU e v:=by
 unfold uw at h
 split at h
 ·rename_i es bI el hid
  split at h
  ·rename_i p hp
   split at h
   ·rename_i dV
    have dV:=Nat.eq_of_beq_eq_true dV
    subst dV
    injection h with h
    injection h with h1 h2
    simp only [Bool.and_eq_true,decide_eq_true_eq] at h1
    obtain ⟨⟨h3,h4⟩,h5⟩:=h1
    obtain ⟨e,he⟩:∃ e,nth es i=some e:=⟨es[i],by rw [aX]; exact List.getElem?_eq_getElem h4⟩
    have hd:ah es i=e:=by simp [ah,he]
    rw [hd] at h5 h2
    rw [← h2]
    exact ⟨es,el,e,hid,h3,he,p.cH h5⟩
   ·cases h
  ·split at h
   ·rename_i dV
    have dV:=Nat.eq_of_beq_eq_true dV
    subst dV
    injection h with h
    injection h with h1 h2
    simp only [Bool.and_eq_true,decide_eq_true_eq] at h1
    obtain ⟨h3,h4⟩:=h1
    obtain ⟨e,he⟩:∃ e,nth es i=some e:=⟨es[i],by rw [aX]; exact List.getElem?_eq_getElem h4⟩
    have hd:ah es i=e:=by simp [ah,he]
    rw [hd] at h2
    rw [← h2]
    exact ⟨es,el,e,hid,h3,he,hU.refl e⟩
   ·cases h
 ·cases h
theorem Ez {α:Type} {l:List α} {i:Nat} {x:α} (h:nth l i=some x):x∈l:=by
 rw [aX] at h
 exact List.mem_of_getElem? h
theorem CU {i n sz:Nat} (h:i < n):i * sz+sz≤n * sz:=by
 rw [← Nat.succ_mul]
 exact Nat.mul_le_mul_right _ h
theorem CV (h:bg E R w β s a) (t:TypeId) (x:Operand) (ho:o.op=.load t x) {v:AV} (hl:xV E s t (bB E s.ae x)=some (true,v)) :
  bS E R w β s a o (s.put o.dst (.v v)):=by
 have rx:=aN h x
 unfold xV at hl
 split at hl
 ·rename_i id f i off sz ty hx
  rw [hx] at rx
  split at hl
  ·rename_i ti c ve Q6 hg
   split at hl
   ·rename_i l hs
    split at hl
    ·rename_i r hm
     injection hl with hl
     injection hl with h1 h2
     subst h1; subst h2
     obtain ⟨es,el,e,hid,Ra,he,zq⟩:=uR hg
     have du:Rel R w (.gp id f i off sz ty) (a.eval x):=rx
     generalize eJ:a.eval x=xv at du
     cases du with
     | @gp _ _ _ _ _ b o' _ ro bP dY=>
     obtain ⟨b',c',cur,vs,rfl,g1,g2,g3,g4,g5,g6,g7,g8,g9⟩:=lZ h.g hid bP (fun k=>by subst k; exact dY)
     obtain ⟨rfl,rfl⟩:=dY.2 Ra
     have YT:=g1 e (Ez he)
     have dS:aH R w e.cells ((vs.drop (i * sz)).take sz):=by
      rw [← pA g1 he]
      exact (g7.drop _).take _
     have hw:=(zq.cells YT.2).rel dS
     obtain ⟨k1,k2,k3,k4⟩:=oh hs hw (fun y hy=>g8 y (List.mem_of_mem_drop (List.mem_of_mem_take hy)))
     obtain ⟨c,hc,hrr⟩:=mX (E:=E) Q6 (b:=b) (off:=i * sz+off) k1 k2 k3 (fun j y hy=>by
      have h1:=k4 j y hy
      rw [List.getElem?_take] at h1
      split at h1
      ·rw [List.getElem?_drop,← g9,List.getElem?_take] at h1
       split at h1
       ·rw [cell_of_row w b _ cur el (0,0) g2,Nat.add_assoc,← Array.getElem?_toList]
        exact h1
       ·cases h1
      ·cases h1) hm
     refine aq h (c:=c) ?_ hrr
     simp [execOp,ho,Instr.loadAt,eJ,Instr.sureAddr,hc]
    ·cases hl
   ·cases hl
  ·cases hl
 ·split at hl
  ·rename_i v' hv
   injection hl with hl
   injection hl with h1 h2
   subst h2
   exact FT h t x ho hv
  ·cases hl
theorem bg.CW (h:bg E R w β s a) {id f b c:Nat} {es es':List AV} {sz:Nat} {el:TypeId} {cur AS:Array Value} {vs':List Value} (hid:nth s.G id=some (.cS es sz el)) (bP:nth R.obj id=some (.tok f b c))
  (hb:w.heap[b]?=some (.cells cur el (0,0))) (hlen:es'.length=es.length) (oQ:dp sz es') (dV:AS.size=cur.size) (hr:aH R w (ar es') vs') (h1:∀ v∈vs',v.oneCell'=true) (ht:AS.toList.take (f * sz)=vs') :
  bg E R (w.setRow b AS) β (s.bW (aA s.G id (.cS es' sz el))) a∧Step R w β s.boxes R (w.setRow b AS) β s.boxes:=by
 obtain ⟨q0,q1,Vu,vs0,p1,p2,p3,p4,p5,p6,p7,p8⟩:=h.g.obj id _ _ hid bP
 rw [hb] at p1
 cases p1
 have hex:=hZ (R:=R) (w:=w) p5 AS
 have CX:∀ k cs,dm s.boxes k=some cs→β k≠b:=fun k cs hk e=>(h.b.box k cs hk).2.2 ⟨id,_,bP,by rw [e]; rfl⟩
 refine ⟨⟨⟨by simp [St.bW,h.g.len],fun iS go ro hg kP=>?_,h.g.inj,fun b' o' rH=>by have:=h.g.wf b' o' rH; simp; omega,fun g cs' hg=>(h.g.bY g cs' hg).mono hex,h.g.lo⟩,?_,h.t.mono hex,h.n,h.d⟩,?_⟩
 ·rcases cV hg with ⟨rfl,rfl,_⟩ | ⟨cA,pw⟩
  ·rw [bP] at kP
   cases kP
   exact ⟨by rw [hlen]; exact q0,oQ,AS,vs',setRow_heap w _ _ _ _ (0,0) hb,p2,p3,by rw [dV]; exact p4,p5,hr.mono hex,h1,ht⟩
  ·refine (h.g.obj iS go ro pw kP).mono hex (fun b' jI=>setRow_other w _ b' _ (fun e=>cA ?_)) (fun _ _ _ hi=>hi)
   subst e
   exact h.g.inj id iS _ _ b' bP kP rfl jI
 ·exact h.b.bp hex (fun k cs' gX=>setRow_other w _ _ _ (CX k cs' gX)) (fun _ _ _ _ hi=>hi) (fun _ _ _ hl=>hl)
 ·have zi:Own R β s.boxes b:=.inl ⟨id,_,bP,rfl⟩
  exact ⟨hex,rfl,rfl,rfl,by simp,fun b' _ hn=>setRow_other w _ b' _ (fun e=>hn (e ▸ zi)),fun _ _ hb=>hb,fun b o hi _ _=>hi⟩
theorem bg.EA (h:bg E R w β s a) {id b c i off:Nat} {es:List AV} {sz:Nat} {el:TypeId} {cur:Array Value} {vs us:List Value} {e':AV} (hid:nth s.G id=some (.cS es sz el)) (bP:nth R.obj id=some (.tok es.length b c))
  (hb:w.heap[b]?=some (.cells cur el (0,0))) (oQ:dp sz es) (hle:es.length≤c) (ol:cur.size=c * sz) (hr:aH R w (ar es) vs) (h1:∀ v∈vs,v.oneCell'=true) (ht:cur.toList.take (es.length * sz)=vs) (hi:i < es.length)
  (h2:∀ v∈us,v.oneCell'=true) (zr:off+us.length≤sz) (tA:e'.cells.length=sz) (UB:e'.aQ=true) (Vv:aH R w e'.cells (((vs.drop (i * sz)).take sz).take off++us++((vs.drop (i * sz)).take sz).drop (off+us.length))) :
  bg E R (w.setRow b ⟨cur.toList.take (i * sz+off)++us++cur.toList.drop (i * sz+off+us.length)⟩) β (s.bW (aA s.G id (.cS (aA es i e') sz el))) a ∧
   Step R w β s.boxes R (w.setRow b ⟨cur.toList.take (i * sz+off)++us++cur.toList.drop (i * sz+off+us.length)⟩) β s.boxes:=by
 have CT:=CU (sz:=sz) hi
 have Lg:es.length * sz≤cur.toList.length:=by
  rw [show cur.toList.length=cur.size from Array.length_toList,ol]
  exact Nat.mul_le_mul_right _ hle
 have PW:vs.length=es.length * sz:=by rw [← hr.length,cU oQ]
 refine h.CW hid bP hb (gu _ _ _) (CS oQ tA UB) ?_ (vs':=vs.take (i * sz)++(((vs.drop (i * sz)).take sz).take off++us++((vs.drop (i * sz)).take sz).drop (off+us.length))++vs.drop (i * sz+sz)) ?_ ?_ ?_
 ·rw [List.size_toArray,← Array.length_toList]
  simp only [List.length_append,List.length_take,List.length_drop]
  omega
 ·rw [AT oQ hi tA,dX _ _ _ (by rw [tA,cU oQ]; exact CT),tA]
  exact ((hr.take _).append Vv).append (hr.drop _)
 ·intro v hv
  simp only [List.mem_append] at hv
  rcases hv with (hv | ((hv | hv) | hv)) | hv
  ·exact h1 v (List.mem_of_mem_take hv)
  ·exact h1 v (List.mem_of_mem_drop (List.mem_of_mem_take (List.mem_of_mem_take hv)))
  ·exact h2 v hv
  ·exact h1 v (List.mem_of_mem_drop (List.mem_of_mem_take (List.mem_of_mem_drop hv)))
  ·exact h1 v (List.mem_of_mem_drop hv)
 ·rw [List.toList_toArray,uQ _ _ _ _ _ _ Lg CT zr,ht]
theorem bg.EB (h:bg E R w β s a) {id b c off:Nat} {es ns:List AV} {sz:Nat} {el:TypeId} {cur:Array Value} {vs us:List Value} (hid:nth s.G id=some (.cS es sz el)) (bP:nth R.obj id=some (.tok es.length b c))
  (hb:w.heap[b]?=some (.cells cur el (0,0))) (oQ:dp sz es) (hle:es.length≤c) (ol:cur.size=c * sz) (hr:aH R w (ar es) vs) (h1:∀ v∈vs,v.oneCell'=true) (ht:cur.toList.take (es.length * sz)=vs)
  (zr:off+ns.length≤es.length) (hns:dp sz ns) (hu:aH R w (ar ns) us) (h2:∀ v∈us,v.oneCell'=true) :
  bg E R (w.setRow b ⟨cur.toList.take (off * sz)++us++cur.toList.drop (off * sz+us.length)⟩) β (s.bW (aA s.G id (.cS (a7 es off ns) sz el))) a ∧
   Step R w β s.boxes R (w.setRow b ⟨cur.toList.take (off * sz)++us++cur.toList.drop (off * sz+us.length)⟩) β s.boxes:=by
 have Rb:us.length=ns.length * sz:=by rw [← hu.length,cU hns]
 have CT:off * sz+ns.length * sz≤es.length * sz:=by rw [← Nat.add_mul]; exact Nat.mul_le_mul_right _ zr
 have Lg:es.length * sz≤cur.toList.length:=by
  rw [show cur.toList.length=cur.size from Array.length_toList,ol]
  exact Nat.mul_le_mul_right _ hle
 have PW:vs.length=es.length * sz:=by rw [← hr.length,cU oQ]
 have hm:=uQ cur.toList us (es.length * sz) (off * sz) (ns.length * sz) 0 Lg CT (by omega)
 simp only [Nat.add_zero,List.take_zero,List.nil_append,Nat.zero_add] at hm
 rw [Rb,ht,show List.drop (ns.length * sz) (List.take (ns.length * sz) (List.drop (off * sz) vs))=[] from List.drop_of_length_le (by rw [List.length_take]; exact Nat.min_le_left _ _),List.append_nil] at hm
 rw [dX _ _ _ zr]
 refine h.CW hid bP hb (by simp; omega) (qm (qm (yj _ oQ) hns) (FZ _ oQ)) ?_ (vs':=vs.take (off * sz)++us++vs.drop (off * sz+ns.length * sz)) ?_ ?_ ?_
 ·rw [List.size_toArray,← Array.length_toList]
  simp only [List.length_append,List.length_take,List.length_drop,Rb]
  omega
 ·rw [cF,cF,iF _ oQ,ni _ oQ,Nat.add_mul]
  exact ((hr.take _).append hu).append (hr.drop _)
 ·intro v hv
  simp only [List.mem_append] at hv
  rcases hv with (hv | hv) | hv
  ·exact h1 v (List.mem_of_mem_take hv)
  ·exact h2 v hv
  ·exact h1 v (List.mem_of_mem_drop hv)
 ·rw [List.toList_toArray,Rb]
  exact hm
theorem AU (h:bg E R w β s a) (t:TypeId) (p x:Operand) (ho:o.op=.store t p x) (hd:o.dst=none) {s':St} (hs:iV E s t (bB E s.ae p) (bB E s.ae x)=some (true,s')) :
  bS E R w β s a o s':=by
 have rp:=aN h p
 have rx:=aN h x
 unfold iV at hs
 split at hs
 ·rename_i id f i off sz ty Ve
  rw [Ve] at rp
  have Vg:Rel R w (.gp id f i off sz ty) (a.eval p):=rp
  generalize Vh:a.eval p=pv at Vg
  split at hs
  ·rename_i ti v es bI el Q6 hx hid
   rw [hx] at rx
   split at hs
   ·rename_i eO
    simp only [Bool.and_eq_true] at eO
    obtain ⟨⟨Lb,hlen⟩,Rc⟩:=eO
    have hlen:=Nat.eq_of_beq_eq_true hlen
    have Rc:=Nat.eq_of_beq_eq_true Rc
    subst Rc
    have rxw:Rel R w v (a.eval x):=rx
    obtain ⟨c1,c2⟩:=Rel.cells rxw Lb
    have AB:v.cells.length=(a.eval x).cells.toList.length:=c1.length
    cases Vg with
    | @gp _ _ _ _ _ b o' _ ro bP dY=>
    obtain ⟨b',c',cur,vs,rfl,g1,g2,g3,g4,g5,g6,g7,g8,g9⟩:=lZ h.g hid bP (fun k=>by subst k; exact dY)
    have PW:vs.length=es.length * sz:=by rw [← g7.length,cU g1]
    have Lg:es.length * sz≤cur.toList.length:=by
     rw [show cur.toList.length=cur.size from Array.length_toList,g5]
     exact Nat.mul_le_mul_right _ g3
    split at hs
    ·rename_i hw
     rw [Bool.and_eq_true] at hw
     have zr:=Nat.eq_of_beq_eq_true hw.1
     have UC:=Nat.eq_of_beq_eq_true hw.2
     subst zr
     injection hs with hs
     injection hs with h1 h2
     rw [Bool.and_eq_true,decide_eq_true_eq,decide_eq_true_eq] at h1
     subst h2
     obtain ⟨rfl,rfl⟩:=dY.2 h1.1
     have CT:=CU (sz:=sz) h1.2
     have bw:=jk (E:=E) (w:=w) Q6 (b:=b) (vs:=cur.toList) (off:=i * sz+0) (c:=a.eval x) g2 (by rw [← AB]; exact hlen) (by rw [← AB]; omega) c2
     obtain ⟨r1,r2⟩:=h.EA (us:=(a.eval x).cells.toList) (off:=0) (i:=i) (e':=v) hid bP g2 g1 g3 g5 g7 g8 g9 h1.2 c2 (by rw [← AB]; omega) (by omega) Lb (by
      rw [List.take_zero,List.nil_append,Nat.zero_add,List.drop_of_length_le (by rw [List.length_take,← AB]; omega),List.append_nil]
      exact c1)
     simp only [Nat.add_zero] at Vh bw r1 r2
     refine ⟨.skip,undef,_,R,β,?_,.inr ⟨rfl,rfl⟩,by rw [hd]; exact r1,r2⟩
     simp [execOp,ho,Instr.storeAt,Vh,Instr.sureAddr,bw]
    ·split at hs
     ·rename_i cc cs hg
      split at hs
      ·rename_i hw
       simp only [Bool.and_eq_true] at hw
       obtain ⟨hle,Re⟩:=hw
       have hle:=Nat.le_of_ble_eq_true hle
       have Re:=Nat.eq_of_beq_eq_true Re
       injection hs with hs
       injection hs with h1 h2
       subst h1; subst h2
       obtain ⟨es0,el0,e,HJ,Ra,he,zq⟩:=uR hg
       rw [hid] at HJ
       cases HJ
       obtain ⟨rfl,rfl⟩:=dY.2 Ra
       have hi:i < es.length:=bJ he
       have CT:=CU (sz:=sz) hi
       have YT:=g1 e (Ez he)
       have dS:aH R w e.cells ((vs.drop (i * sz)).take sz):=by
        rw [← pA g1 he]
        exact (g7.drop _).take _
       have hw:=(zq.cells YT.2).rel dS
       have hw':aH R w cs ((vs.drop (i * sz)).take sz):=hw
       have bw:=jk (E:=E) (w:=w) Q6 (b:=b) (vs:=cur.toList) (off:=i * sz+off) (c:=a.eval x) g2 (by rw [← AB]; exact hlen) (by rw [← AB]; omega) c2
       have AE:off+v.cells.length≤cs.length:=by omega
       obtain ⟨r1,r2⟩:=h.EA (us:=(a.eval x).cells.toList) (off:=off) (i:=i) (e':=.agg (a7 cs off v.cells)) hid bP g2 g1 g3 g5 g7 g8 g9 hi c2 (by rw [← AB]; omega) (by show (a7 cs off v.cells).length=sz; rw [xm _ _ _ AE]; exact Re) rfl (by
        show aH R w (a7 cs off v.cells) _
        rw [dX _ _ _ AE,AB]
        exact ((hw'.take _).append c1).append (hw'.drop _))
       refine ⟨.skip,undef,_,R,β,?_,.inr ⟨rfl,rfl⟩,by rw [hd]; exact r1,r2⟩
       simp [execOp,ho,Instr.storeAt,Vh,Instr.sureAddr,bw]
      ·cases hs
     ·cases hs
   ·cases hs
  ·cases hs
 ·split at hs
  ·rename_i AW hv
   injection hs with hs
   injection hs with h1 h2
   subst h2
   exact CH h t p x ho hd hv
  ·cases hs
def ak.reset (R:ak) (id:Nat) (ro:RO):ak:=⟨R.I,aA R.obj id ro⟩
theorem uS {id g:Nat} {r0 ro:RO} (hid:nth R.obj id=some r0) (bP:∀ b,ro.has b→b=g) {b:Nat} (hl:Live (R.reset id ro) b):b=g∨Live R b:=by
 obtain ⟨i,r,h1,h2⟩:=hl
 rcases aD hid h1 with ⟨_,rfl⟩ | ⟨_,h1⟩
 ·exact .inl (bP b h2)
 ·exact .inr ⟨i,r,h1,h2⟩
theorem bg.Rf (h:bg E R w β s a) {cur:Array Value} {vs:List Value} {es es':List AV} {elem:TypeId} {sz cap id:Nat} {r0:RO} (hg:nth s.G id=some (.cS es sz elem)) (hid:nth R.obj id=some r0) (hf:∀ b c,ck r0 (.tok es'.length b c))
  (hn:es'.length≤cap) (hm:cap≤maxLen) (hs:cur.size=cap * sz) (oQ:dp sz es') (hr:aH R w (ar es') vs) (h1:∀ v∈vs,v.oneCell'=true) (ht:cur.toList.take (es'.length * sz)=vs) :
  bg E (R.reset id (.tok es'.length w.heap.size cap)) (w.drew.alloc (.cells cur elem)) β (s.bW (aA s.G id (.cS es' sz elem))) a ∧
  Step R w β s.boxes (R.reset id (.tok es'.length w.heap.size cap)) (w.drew.alloc (.cells cur elem)) β s.boxes:=by
 have e:Ext R w (R.reset id (.tok es'.length w.heap.size cap)) (w.drew.alloc (.cells cur elem)):=
  ⟨fun _ _ h=>h,fun b o hi=>bV (heap_alloc_old w.drew _ b (h.g.wf b o hi)) o,fun i r hr=>by
   by_cases ei:id=i
   ·subst ei
    rw [hid] at hr
    cases hr
    exact ⟨_,aG hid,hf _ _⟩
   ·exact ⟨r,by rw [ak.reset,bG ei]; exact hr,ck.refl r⟩,.old fun b hb=>heap_alloc_old w.drew _ b hb⟩
 have old:∀ b,b < w.heap.size→(w.drew.alloc (.cells cur elem)).heap[b]?=w.heap[b]?:=fun b hb=>heap_alloc_old w.drew _ b hb
 have new:(w.drew.alloc (.cells cur elem)).heap[w.heap.size]?=some (.cells cur elem (0,0)):=heap_alloc_new w.drew _
 have live:∀ b,b < w.heap.size→Live (R.reset id (.tok es'.length w.heap.size cap)) b→Live R b:=fun b hb hl=>by
  rcases uS (g:=w.heap.size) (ro:=.tok es'.length w.heap.size cap) hid (fun _ h=>h) hl with rfl | hl
  ·omega
  ·exact hl
 refine ⟨⟨⟨by simp [St.bW,ak.reset,h.g.len],fun i gg r uA h2=>?_,fun i j ri rj b uA h2 b1 b2=>?_,fun b o hi=>?_,fun g cs hg=>(h.g.bY g cs hg).mono e,Nat.le_succ_of_le h.g.lo⟩,?_,h.t.mono e,h.n,h.d.mono e⟩,?_⟩
 ·rcases aD hid h2 with ⟨rfl,rfl⟩ | ⟨cA,h2⟩
  ·simp only [St.bW] at uA
   rw [aG hg] at uA
   cases uA
   exact ⟨rfl,oQ,cur,vs,new,hn,hm,hs,fun o hi=>by have:=h.g.wf _ _ hi; omega,hr.mono e,h1,ht⟩
  ·simp only [St.bW] at uA
   rw [bG (Ne.symm cA)] at uA
   exact (h.g.obj i gg r uA h2).mono e (fun b hb=>old b (h.g.bT ⟨i,r,h2,hb⟩)) (fun b o _ hi=>hi)
 ·rcases aD hid uA with ⟨g3,e1⟩ | ⟨g3,g1⟩
  ·rcases aD hid h2 with ⟨g4,e2⟩ | ⟨g4,g2⟩
   ·omega
   ·have:=h.g.bT ⟨j,rj,g2,b2⟩
    rw [e1] at b1
    simp [RO.has] at b1
    omega
  ·rcases aD hid h2 with ⟨g4,e2⟩ | ⟨g4,g2⟩
   ·have:=h.g.bT ⟨i,ri,g1,b1⟩
    rw [e2] at b2
    simp [RO.has] at b2
    omega
   ·exact h.g.inj i j ri rj b g1 g2 b1 b2
 ·have:=h.g.wf b o hi
  simp
  omega
 ·exact h.b.bp e (fun k cs hk=>old _ (h.dI (.inr ⟨k,cs,hk,rfl⟩))) (fun k cs o hk hi=>hi) (fun k cs hk hl=>live _ (h.dI (.inr ⟨k,cs,hk,rfl⟩)) hl)
 ·refine ⟨e,rfl,rfl,rfl,by simp,fun b hb _=>old b hb,fun b hb ho=>?_,fun b o hi hb _=>hi⟩
  rcases ho with ho | ho
  ·exact .inl (live b hb ho)
  ·exact .inr ho
theorem bg.LF (h:bg E R w β s a) {cur cur2:Array Value} {vs:List Value} {es es':List AV} {elem:TypeId} {sz id g c:Nat} (hg:nth s.G id=some (.cS es sz elem)) (hid:nth R.obj id=some (.tok es.length g c)) (bM:es.length < es'.length) (hn:es'.length≤c)
  (gZ:w.heap[g]?=some (.cells cur elem (0,0))) (hs:cur2.size=cur.size) (oQ:dp sz es') (hr:aH R w (ar es') vs) (h1:∀ v∈vs,v.oneCell'=true) (ht:cur2.toList.take (es'.length * sz)=vs) :
  bg E (R.reset id (.tok es'.length g c)) (w.setRow g cur2) β (s.bW (aA s.G id (.cS es' sz elem))) a ∧
  Step R w β s.boxes (R.reset id (.tok es'.length g c)) (w.setRow g cur2) β s.boxes:=by
 obtain ⟨q0,q1,Vu,vs0,p1,p2,p3,p4,p5,p6,p7,p8⟩:=h.g.obj id _ _ hg hid
 rw [gZ] at p1
 cases p1
 have py:Live R g:=⟨id,_,hid,rfl⟩
 have old:∀ b,b≠g→(w.setRow g cur2).heap[b]?=w.heap[b]?:=fun b hb=>setRow_other w g b cur2 hb
 have new:(w.setRow g cur2).heap[g]?=some (.cells cur2 elem (0,0)):=setRow_heap w g cur cur2 elem (0,0) gZ
 have e:Ext R w (R.reset id (.tok es'.length g c)) (w.setRow g cur2):=by
  have e0:=hZ (R:=R) (w:=w) p5 cur2
  refine ⟨fun _ _ h=>h,e0.cell,fun i r hr=>?_,e0.lp⟩
  by_cases ei:id=i
  ·subst ei
   rw [hid] at hr
   cases hr
   exact ⟨_,aG hid,by omega,fun e=>by omega⟩
  ·exact ⟨r,by rw [ak.reset,bG ei]; exact hr,ck.refl r⟩
 have live:∀ b,Live (R.reset id (.tok es'.length g c)) b→Live R b:=fun b hl=>by
  rcases uS (g:=g) (ro:=.tok es'.length g c) hid (fun _ h=>h) hl with rfl | hl
  ·exact py
  ·exact hl
 have pz:∀ k cs,dm s.boxes k=some cs→β k≠g:=fun k cs hk eq=>(h.b.box k cs hk).2.2 (eq ▸ py)
 refine ⟨⟨⟨by simp [St.bW,ak.reset,h.g.len],fun i gg r uA h2=>?_,fun i j ri rj b uA h2 b1 b2=>?_,fun b o hi=>?_,fun g cs hg=>(h.g.bY g cs hg).mono e,h.g.lo⟩,?_,h.t.mono e,h.n,h.d.mono e⟩,?_⟩
 ·rcases aD hid h2 with ⟨rfl,rfl⟩ | ⟨cA,h2⟩
  ·simp only [St.bW] at uA
   rw [aG hg] at uA
   cases uA
   exact ⟨rfl,oQ,cur2,vs,new,hn,p3,by rw [hs]; exact p4,p5,hr.mono e,h1,ht⟩
  ·simp only [St.bW] at uA
   rw [bG (Ne.symm cA)] at uA
   have Q8:∀ b,r.has b→b≠g:=fun b hb eq=>cA (h.g.inj i id _ _ b h2 hid hb (by rw [eq]; rfl))
   exact (h.g.obj i gg r uA h2).mono e (fun b hb=>old b (Q8 b hb)) (fun b o hb hi=>hi)
 ·rcases aD hid uA with ⟨g3,e1⟩ | ⟨g3,g1⟩
  ·rcases aD hid h2 with ⟨g4,e2⟩ | ⟨g4,g2⟩
   ·omega
   ·rw [e1] at b1
    exact g3.trans (h.g.inj id j _ _ b hid g2 b1 b2)
  ·rcases aD hid h2 with ⟨g4,e2⟩ | ⟨g4,g2⟩
   ·rw [e2] at b2
    exact (h.g.inj i id _ _ b g1 hid b1 b2).trans g4.symm
   ·exact h.g.inj i j ri rj b g1 g2 b1 b2
 ·have:=h.g.wf b o hi
  simpa using this
 ·exact h.b.bp e (fun k cs hk=>old _ (pz k cs hk)) (fun k cs o hk hi=>hi) (fun k cs hk hl=>live _ hl)
 ·refine ⟨e,rfl,rfl,rfl,by simp,fun b hb rQ=>old b (fun eq=>rQ (.inl (eq ▸ py))),fun b hb ho=>?_,fun b o hi hb rQ=>hi⟩
  rcases ho with ho | ho
  ·exact .inl (live b ho)
  ·exact .inr ho
theorem bg.HK (h:bg E R w β s a) {cur:Array Value} {vs:List Value} {es:List AV} {elem:TypeId} {sz cap:Nat} (hn:es.length≤cap) (hm:cap≤maxLen) (hs:cur.size=cap * sz) (oQ:dp sz es) (hr:aH R w (ar es) vs) (h1:∀ v∈vs,v.oneCell'=true) (ht:cur.toList.take (es.length * sz)=vs) :
  bg E (R.add (.tok es.length w.heap.size cap)) (w.alloc (.cells cur elem)) β (s.dC (.cS es sz elem)) a:=
 h.kO (.cells cur elem) (.cS es sz elem) (.tok es.length w.heap.size cap) (by exact fun _ h=>h)
  ⟨rfl,oQ,cur,vs,heap_alloc_new w _,hn,hm,hs,fun o hi=>by have:=h.g.wf _ _ hi; omega,hr.mono (fZ h.g.wf _ _),h1,ht⟩
theorem tE (h:bg E R w β s a) (t:TypeId) (x y:Operand) (ho:o.op=.makeSlice t x y) {i:TI} (hi:E.ti t=some i) {k k':IntKind} {n m:Int} (hx:bB E s.ae x=.v (.int k n)) (hy:bB E s.ae y=.v (.int k' m))
  {elem esz oM:Nat} {ag:Bool} {z:AV} (hk:i.k=.sl elem esz ag oM (some z)) (hz:z.cells.length=esz) (FY:1≤esz) (pY:z.aQ=true) (px:z.closed=true) (hc:0≤n∧n≤m∧m≤140737488355328∧m * oM≤140737488355328) :
  bS E R w β s a o ((s.dC (.cS (List.replicate n.toNat z) esz elem)).put o.dst (.v (.dA s.G.length n.toNat 0 esz n.toNat))):=by
 obtain ⟨us,z1,z2,bw⟩:=oU h t x y ho hi hx hy hk hz FY pY hc
 have UD:n.toNat≤m.toNat:=by omega
 have oQ:=(e8 (n:=m.toNat) hz pY px).g
 have Rb:us.length=m.toNat * esz:=by rw [← z1.length,cU oQ,List.length_replicate]
 have Lg:(List.replicate n.toNat z).length=n.toNat:=List.length_replicate
 have F0:(List.replicate m.toNat z).take n.toNat=List.replicate n.toNat z:=by rw [List.take_replicate,Nat.min_eq_left UD]
 have hr:aH R w (ar (List.replicate n.toNat z)) (us.take (n.toNat * esz)):=by
  rw [← F0,iF _ oQ]
  exact z1.take _
 have r1:=h.HK (cur:=⟨us⟩) (vs:=us.take (n.toNat * esz)) (es:=List.replicate n.toNat z) (elem:=elem) (cap:=m.toNat) (by rw [Lg]; exact UD) (by unfold maxLen; omega) (by simpa using Rb) (e8 hz pY px).g hr (fun v hv=>z2 v (List.mem_of_mem_take hv)) (by rw [Lg])
 rw [Lg] at r1
 have e:=fZ (R:=R) (w:=w) h.g.wf (.cells ⟨us⟩ elem) (.tok n.toNat w.heap.size m.toNat)
 exact ⟨_,.slice (some ⟨w.heap.size,0,none⟩) n.toNat m.toNat,_,R.add (.tok n.toNat w.heap.size m.toNat),β,bw,.inl rfl,r1.put o.dst (x:=.v (.dA s.G.length n.toNat 0 esz n.toNat)) (Rel.dA (ga h _) ⟨Nat.le_refl _,fun _=>⟨rfl,Nat.zero_add _,.inl (Nat.zero_mul _).symm⟩⟩ UD),by rw [aW]; exact cX h _ _ (by exact fun _ h=>h)⟩
theorem rR (h:bg E R w β s a) (t:TypeId) (len:Nat) (parts:Array (Nat × Operand)) (ho:o.op=.buildSlice t len parts) {k:LK} {esz:Nat} {es:List AV} (hv:bX E s t len parts.toList=some (.list k esz es)) {i:TI} (hi:E.ti t=some i) {elem bI oM:Nat} {ag:Bool} {z:Option AV} (hk:i.k=.sl elem bI ag oM z) (hm:len≤65536) :
  bS E R w β s a o ((s.dC (.cS es esz elem)).put o.dst (.v (.dA s.G.length len 0 esz len))):=by
 obtain ⟨es',Q2,us,Vs,Vp,bw,g2,hlen,u2,u3,i',YR,Vo,z',rH,gX⟩:=gK h t len parts ho hv
 cases Vp
 rw [hi] at rH
 cases rH
 rw [hk] at gX
 cases gX
 have Vt:us.length=len * esz:=by rw [← u2.length,dv g2,hlen]
 have r1:=h.HK (cur:=⟨us⟩) (vs:=us) (es:=es) (elem:=elem) (cap:=len) (by rw [hlen]; exact Nat.le_refl _) (by simp [maxLen]; omega) (by simpa using Vt) g2.g u2 u3 (by rw [hlen,← Vt]; exact List.take_length)
 rw [hlen] at r1
 exact ⟨_,.slice (some ⟨w.heap.size,0,none⟩) len len,_,R.add (.tok len w.heap.size len),β,bw,.inl rfl,r1.put o.dst (x:=.v (.dA s.G.length len 0 esz len)) (Rel.dA (ga h _) ⟨Nat.le_refl _,fun _=>⟨rfl,Nat.zero_add _,.inl (Nat.zero_mul _).symm⟩⟩ (Nat.le_refl _)),by rw [aW]; exact cX h _ _ (by exact fun _ h=>h)⟩
end ops
end Go.Am
namespace Go.Am
open Go
section fams
variable {E:Env} {R R':ak} {w w':World} {β β':Nat→Nat} {s s':St} {a a':Act} {o:Oper}
theorem rS {α:Type} {l r:List α} {i:Nat} {x:α} (h:nth r i=some x):nth (l++r) (l.length+i)=some x:=by
 rw [aX] at *
 rw [List.getElem?_append_right (Nat.le_add_right _ _),Nat.add_sub_cancel_left]
 exact h
theorem tF {α:Type} {l r:List α} {i:Nat} {x:α} (h:nth l i=some x):nth (l++r) i=some x:=by
 have:=bJ h
 rw [aX] at *
 rw [List.getElem?_append_left this]
 exact h
theorem dy {α:Type} {l r:List α} {i:Nat} {x:α} (h:nth (l++r) i=some x):nth l i=some x∨∃ j,i=l.length+j∧nth r j=some x:=by
 rw [aX] at h
 rcases Nat.lt_or_ge i l.length with bM | kN
 ·rw [List.getElem?_append_left bM] at h
  exact .inl (by rw [aX]; exact h)
 ·rw [List.getElem?_append_right kN] at h
  exact .inr ⟨i - l.length,by omega,by rw [aX]; exact h⟩
theorem bg.CY (h:bg E R w β s a) {id sz:Nat} {e:TypeId} {fs:List Nat} (hid:nth s.G id=some (.ba fs sz e)) {nfs:List Nat} {nts:List TR} (hl:nts.length=nfs.length)
  (dY:∀ j f t,nth nfs j=some f→nth nts j=some t→xY R w sz e f t) (rQ:∀ j f b c,nth nts j≠some (.tok f b c)) {ro:RO} (bP:nth R.obj id=some ro) :
  ∃ ts,ro=.ba ts∧ts.length=fs.length∧bg E (R.reset id (.ba (ts++nts))) w β (s.bW (aA s.G id (.ba (fs++nfs) sz e))) a∧Step R w β s.boxes (R.reset id (.ba (ts++nts))) w β s.boxes:=by
 have cN:=h.g.obj id _ _ hid bP
 cases ro with
 | none=>exact cN.elim
 | bC=>exact cN.elim
 | bU _=>exact cN.elim
 | tok _ _ _=>exact cN.elim
 | ba ts=>
 obtain ⟨q1,q2,q3⟩:=cN
 have uO:∀ b,RO.has (.ba (ts++nts)) b→RO.has (.ba ts) b:=fun b ⟨j,f,c,hj⟩=>by
  rcases dy hj with hj | ⟨i,_,hi⟩
  ·exact ⟨j,f,c,hj⟩
  ·exact absurd hi (rQ i f b c)
 have ext:Ext R w (R.reset id (.ba (ts++nts))) w:=⟨fun _ _ h=>h,fun _ _ _=>rfl,fun i r hr=>by
  by_cases e:id=i
  ·subst e
   rw [bP] at hr
   cases hr
   exact ⟨_,aG bP,fun j t hj=>⟨t,tF hj,kM.refl t⟩⟩
  ·exact ⟨r,by rw [ak.reset,bG e]; exact hr,ck.refl r⟩,fJ.refl w⟩
 have live:∀ b,Live (R.reset id (.ba (ts++nts))) b→Live R b:=fun b ⟨i,r,h1,h2⟩=>by
  rcases aD bP h1 with ⟨_,rfl⟩ | ⟨_,h1⟩
  ·exact ⟨id,_,bP,uO b h2⟩
  ·exact ⟨i,r,h1,h2⟩
 refine ⟨ts,rfl,q1,⟨⟨by simp [St.bW,ak.reset,h.g.len],fun i g r h1 h2=>?_,fun i j ri rj b h1 h2 b1 b2=>?_,h.g.wf,fun g cs hg=>(h.g.bY g cs hg).mono ext,h.g.lo⟩,h.b.bp ext (fun _ _ _=>rfl) (fun _ _ _ _ h=>h) (fun _ _ _ hl=>live _ hl),h.t.mono ext,h.n,h.d.mono ext⟩,?_⟩
 ·rcases aD bP h2 with ⟨rfl,rfl⟩ | ⟨cA,h2⟩
  ·simp only [St.bW] at h1
   rw [aG hid] at h1
   cases h1
   refine ⟨by simp [q1,hl],fun i j f b c f' c' hi hj=>?_,fun j f t hf ht=>?_⟩
   ·rcases dy hi with hi | ⟨_,_,hi⟩
    ·rcases dy hj with hj | ⟨_,_,hj⟩
     ·exact q2 i j _ _ _ _ _ hi hj
     ·exact absurd hj (rQ _ _ _ _)
    ·exact absurd hi (rQ _ _ _ _)
   ·rcases dy hf with Lh | ⟨k,hk,Lh⟩
    ·rcases dy ht with ht | ⟨k',gX,ht⟩
     ·exact q3 j f t Lh ht
     ·have:=bJ Lh
      omega
    ·rcases dy ht with ht | ⟨k',gX,ht⟩
     ·have:=bJ ht
      omega
     ·have Hy:k=k':=by omega
      subst Hy
      exact dY k f t Lh ht
  ·simp only [St.bW] at h1
   rw [bG (Ne.symm cA)] at h1
   exact (h.g.obj i g r h1 h2).mono ext (fun _ _=>rfl) (fun _ _ _ h=>h)
 ·rcases aD bP h1 with ⟨g3,e1⟩ | ⟨g3,g1⟩
  ·rcases aD bP h2 with ⟨g4,e2⟩ | ⟨g4,g2⟩
   ·omega
   ·rw [e1] at b1
    exact g3.trans (h.g.inj id j _ _ b bP g2 (uO b b1) b2)
  ·rcases aD bP h2 with ⟨g4,e2⟩ | ⟨g4,g2⟩
   ·rw [e2] at b2
    exact (h.g.inj i id _ _ b g1 bP b1 (uO b b2)).trans g4.symm
   ·exact h.g.inj i j ri rj b g1 g2 b1 b2
 ·refine ⟨ext,rfl,rfl,rfl,Nat.le_refl _,fun _ _ _=>rfl,fun b _ ho=>?_,fun _ _ h _ _=>h⟩
  rcases ho with ho | ho
  ·exact .inl (live b ho)
  ·exact .inr ho
theorem bS.step {s1:St} {s2:St} (e:s1.boxes=s.boxes) (st:Step R w β s.boxes R' w β s.boxes) (h:bS E R' w β s1 a o s2):bS E R w β s a o s2:=by
 obtain ⟨nx,x,w',R2,β',h1,h2,h3,h4⟩:=h
 rw [e] at h4
 exact ⟨nx,x,w',R2,β',h1,h2,h3,st.trans h4⟩
theorem Vw {c:Bool} {α:Type} {a b:α} (h:(bif c then some a else none)=some b):c=true∧a=b:=by
 cases c
 ·cases h
 ·exact ⟨rfl,Option.some.inj h⟩
theorem ma {sz:Nat} {e:TypeId}:∀ {G:List GO} {i j:Nat},iu G sz e i=some j→∃ fs,nth G (j - i)=some (.ba fs sz e)∧i≤j
 | [],i,j,h=>by cases h
 | g :: G,i,j,h=>by
  have step:iu G sz e (i+1)=some j→∃ fs,nth (g :: G) (j - i)=some (.ba fs sz e)∧i≤j:=fun h=>by
   obtain ⟨fs,h1,h2⟩:=ma h
   refine ⟨fs,?_,by omega⟩
   rw [show j - i=(j - (i+1))+1 by omega]
   exact h1
  unfold iu at h
  split at h
  ·rename_i jf
   cases jf
  ·rename_i jf
   obtain ⟨rfl,rfl⟩:=List.cons.inj jf
   split at h
   ·rename_i j' hj
    cases h
    exact step hj
   ·obtain ⟨hc,rfl⟩:=Vw h
    ·rw [Bool.and_eq_true] at hc
     have h1:=Nat.eq_of_beq_eq_true hc.1
     have h2:=Nat.eq_of_beq_eq_true hc.2
     subst h1 h2
     exact ⟨_,by rw [Nat.sub_self]; rfl,Nat.le_refl _⟩
  ·rename_i x G1 _ _ _ hn jf
   obtain ⟨rfl,rfl⟩:=List.cons.inj jf
   exact step h
theorem bg.EC {s0:St} {d:Option Tmp} {x y:AV} (h:bg E R w β (s0.put d (.v x)) a) (hw:∀ c,Rel R w x c→Rel R w y c):bg E R w β (s0.put d (.v y)) a:=by
 cases d with
 | none=>exact h
 | some d=>
  simp only [St.put] at h ⊢
  cases hb:Nat.blt d s0.n with
  | false=>rw [hb] at h; exact h
  | true=>
   rw [hb] at h
   refine ⟨h.g,h.b,fun i hi=>?_,h.n,h.d⟩
   by_cases e:d=i
   ·subst e
    rw [ay]
    obtain ⟨c,k1,k2⟩:=h.t d (by rw [ay]; simp)
    rw [ay] at k2
    exact ⟨c,k1,hw c k2⟩
   ·rw [aK e] at hi ⊢
    have:=h.t i (by rw [aK e]; exact hi)
    rw [aK e] at this
    exact this
theorem bS.EC {s0:St} {x y:AV} (h:bS E R w β s a o (s0.put o.dst (.v x))) (hw:∀ R' w',Ext R w R' w'→∀ c,Rel R' w' x c→Rel R' w' y c):bS E R w β s a o (s0.put o.dst (.v y)):=by
 obtain ⟨nx,v,w',R',β',h1,h2,h3,h4⟩:=h
 refine ⟨nx,v,w',R',β',h1,h2,h3.EC (hw R' w' h4.ext),?_⟩
 rw [aW] at h4 ⊢
 exact h4
end fams
section ops
variable {E:Env} {R:ak} {w:World} {β:Nat→Nat} {s:St} {a:Act} {o:Oper}
theorem e9 {k:LK} {sz esz:Nat} {es:List AV} {c:Value} (h:Rel R w (.list k sz es) c) (dV:es=[]∨sz=esz) :
  iA esz es∧∃ vs,aH R w (ar es) vs∧(∀ v∈vs,v.oneCell'=true)∧vs.length=es.length * esz ∧
   ((es=[]∧vs=[]∧∃ ad,c=.slice ad 0 0∧(ad=none∨k=.ki))∨∃ b o' cap,c=.slice (some ⟨b,o',none⟩) es.length cap∧es.length≤cap∧zg R k b o' es.length cap∧(∀ j v,vs[j]?=some v→w.cell? ((⟨b,o',none⟩:Addr).add j)=some v)∧fx R w b o' esz es):=by
 cases h with
 | jj=>exact ⟨fun e he=>by simp at he,[],.nil,by simp,by simp,.inl ⟨rfl,rfl,_,rfl,.inl rfl⟩⟩
 | hY=>exact ⟨fun e he=>by simp at he,[],.nil,by simp,by simp,.inl ⟨rfl,rfl,_,rfl,.inl rfl⟩⟩
 | lU=>exact ⟨fun e he=>by simp at he,[],.nil,by simp,by simp,.inl ⟨rfl,rfl,_,rfl,.inr rfl⟩⟩
 | ln=>exact ⟨fun e he=>by simp at he,[],.nil,by simp,by simp,.inl ⟨rfl,rfl,_,rfl,.inl rfl⟩⟩
 | kL=>exact ⟨fun e he=>by simp at he,[],.nil,by simp,by simp,.inl ⟨rfl,rfl,_,rfl,.inl rfl⟩⟩
 | @list _ _ _ b o' len cap hr hlen gC Hy=>
  subst hlen
  have kP:fx R w b o' esz es:=by
   rcases dV with rfl | rfl
   ·exact .nil
   ·exact hr
  obtain ⟨g0,vs,g1,g2,g3,g4⟩:=uI kP
  refine ⟨g0,vs,g1,g2,by rw [← g1.length,dv g0],.inr ⟨b,o',cap,rfl,gC,Hy,fun j v hv=>?_,kP⟩⟩
  rw [cn]
  exact g3 j v hv
theorem qn {b esz:Nat} {es:List AV} {vs:List Value} {w:World} {R:ak} (h0:iA esz es) (h:aH R w (ar es) vs) (h1:∀ v∈vs,v.oneCell'=true)
  (hc:∀ j v,vs[j]?=some v→w.cell? ⟨b,j,none⟩=some v) (hI:∀ j,j < vs.length→R.I b j):fx R w b 0 esz es:=
 lu h0 (dx.make h h1 (fun j v hv=>by rw [Nat.zero_add]; exact hc j v hv) (fun j hj=>by rw [Nat.zero_add]; exact hI j (by rw [← h.length]; exact hj)))
theorem ky {sz:Nat} {l r:List AV} (h:iA sz l) (k:iA sz r):iA sz (l++r):=fun e he=>by
 rcases List.mem_append.1 he with he | he
 ·exact h e he
 ·exact k e he
theorem ic {l r:List Value} (h:∀ v∈l,v.oneCell'=true) (k:∀ v∈r,v.oneCell'=true):∀ v∈l++r,v.oneCell'=true:=fun v hv=>by
 rcases List.mem_append.1 hv with hv | hv
 ·exact h v hv
 ·exact k v hv
structure XX (P:Program) (w:World) (t u ty e:TypeId) (i:TypeInfo) (z:Value) (cy:Value) (n:Nat) (us:List Value):Prop where
 zero:n=0→∀ base len cap,len≤cap→(Builtin.append_ #[t,u] ty #[.slice base len cap,cy]).run P w=.ok (.slice base len cap) w
 nil:0 < n→(n:Int)≤9223372036854775807→n * i.bytes≤281474976710656→(Builtin.append_ #[t,u] ty #[.slice none 0 0,cy]).run P w =
   .ok (.slice (some ⟨w.heap.size,0,none⟩) n (grownCap w n 0 e)) (w.drew.alloc (.cells (us.toArray++Builtin.zeroCells z.cells (grownCap w n 0 e - n)) e))
 grow:0 < n→∀ (b:Addr) (sLen kR:Nat) (zt:List Value),zt.length=sLen * i.size→(∀ j v,zt[j]?=some v→w.cell? (b.add j)=some v)→kR < sLen+n→((sLen+n:Nat):Int)≤9223372036854775807→Builtin.nextslicecap (sLen+n) kR * i.bytes≤281474976710656 →
   (Builtin.append_ #[t,u] ty #[.slice (some b) sLen kR,cy]).run P w=.ok (.slice (some ⟨w.heap.size,0,none⟩) (sLen+n) (grownCap w (sLen+n) kR e))
    (w.drew.alloc (.cells (zt.toArray++us.toArray++Builtin.zeroCells z.cells (grownCap w (sLen+n) kR e - (sLen+n))) e))
 room:0 < n→∀ (g sLen kR:Nat) (cur:Array Value),w.heap[g]?=some (.cells cur e (0,0))→sLen+n≤kR→sLen * i.size+us.length≤cur.size →
   (Builtin.append_ #[t,u] ty #[.slice (some ⟨g,0,none⟩) sLen kR,cy]).run P w=.ok (.slice (some ⟨g,0,none⟩) (sLen+n) kR) (w.setRow g (cur.toList.take (sLen * i.size)++us++cur.toList.drop (sLen * i.size+us.length)).toArray)
theorem mL (h:bg E R w β s a) {t u:TypeId} {id f off sz len:Nat} {y:AV} {ys:List AV} {cx cy:Value} {us:List Value}
  (eR:∀ {c:Value} {w':World},(Builtin.append_ #[t,u] o.type #[cx,cy]).run E.P w=.ok c w'→(execOp a.eval o).run E.P w=.ok (.value c) w')
  {elem esz eb:Nat} {z:AV} (ED:1≤eb) (hz:z.cells.length=esz) (pY:z.aQ=true)
  {ie:TypeInfo} (f2:ie.size=esz) (f3:ie.bytes=eb) (f6:ft ie=some z)
  (h0:Rel R w (.dA id f off sz len) cx) (hA:∀ zc:Value,ie.zero=some zc→XX E.P w t u o.type elem ie zc cy (y :: ys).length us)
  (y0:dp esz (y :: ys)) (y1:aH R w (ar (y :: ys)) us) (y2:∀ v∈us,v.oneCell'=true) (y3:us.length=(y :: ys).length * esz)
  {es:List AV} (hid:nth s.G id=some (.cS es esz elem)) (hf:f=es.length) (ho0:off=0) (rM:len=f) (hb:(es.length+(y :: ys).length) * eb≤140737488355328) :
  bS E R w β s a o ((s.bW (aA s.G id (.cS (es++(y :: ys)) esz elem))).put o.dst (.v (.dA id (es.length+(y :: ys).length) 0 esz (es.length+(y :: ys).length)))):=by
 obtain ⟨zc,px,Cq⟩:=cT f6
 have hA:=hA zc px
 obtain ⟨d1,d2⟩:=Rel.cells (Cq R w) pY
 have ol:zc.cells.size=esz:=by rw [← hz,d1.length]; simp
 have oN:0 < (y :: ys).length:=by simp
 have hm:es.length+(y :: ys).length≤140737488355328:=Nat.le_trans (Nat.le_mul_of_pos_right _ ED) hb
 have AX:(es++(y :: ys)).length=es.length+(y :: ys).length:=List.length_append
 -- where a new block has been made
 have fresh:∀ {xs:List Value} {old:Nat} {r0:RO},nth R.obj id=some r0→(∀ b c,ck r0 (.tok (es.length+(y :: ys).length) b c))→dp esz es→aH R w (ar es) xs→(∀ v∈xs,v.oneCell'=true)→xs.length=es.length * esz →
   (Builtin.append_ #[t,u] o.type #[cx,cy]).run E.P w=.ok (.slice (some ⟨w.heap.size,0,none⟩) (es.length+(y :: ys).length) (grownCap w (es.length+(y :: ys).length) old elem)) (w.drew.alloc (.cells (xs.toArray++us.toArray++Builtin.zeroCells zc.cells (grownCap w (es.length+(y :: ys).length) old elem - (es.length+(y :: ys).length))) elem)) →
   bS E R w β s a o ((s.bW (aA s.G id (.cS (es++(y :: ys)) esz elem))).put o.dst (.v (.dA id (es.length+(y :: ys).length) 0 esz (es.length+(y :: ys).length)))):=by
  intro xs old r0 bP hle Hf Vx tB yk bw
  have kN:=grownCap_ge w (es.length+(y :: ys).length) old elem
  obtain ⟨r1,r2⟩:=h.Rf (cur:=xs.toArray++us.toArray++Builtin.zeroCells zc.cells (grownCap w (es.length+(y :: ys).length) old elem - (es.length+(y :: ys).length))) (vs:=xs++us) (es':=es++(y :: ys)) hid bP (by rw [AX]; exact hle) (by rw [AX]; exact kN) (grownCap_le_maxLen w _ old elem (by unfold maxLen; omega)) (by
   simp only [Array.size_append,List.size_toArray,size_zeroCells,ol,yk,y3,← Nat.add_mul]
   congr 1
   omega) (qm Hf y0) (by rw [cF]; exact Vx.append y1) (ic tB y2) (by
   rw [AX]
   simp only [Array.toList_append]
   exact List.take_left' (by rw [List.length_append,yk,y3,Nat.add_mul]))
  rw [AX] at r1 r2
  refine ⟨_,_,_,_,β,eR bw,.inl rfl,r1.put o.dst ?_,by rw [aW]; exact r2⟩
  exact Rel.dA (aG bP) ⟨Nat.le_refl _,fun _=>⟨rfl,Nat.zero_add _,.inl (Nat.zero_mul _).symm⟩⟩ kN
 cases h0 with
 | @iB _ _ ro bP hon=>
  have cN:=h.g.obj id _ _ hid bP
  have he0:es=[]:=List.eq_nil_of_length_eq_zero hf.symm
  subst he0
  cases ro with
  | none=>exact cN.elim
  | bU _=>exact cN.elim
  | ba _=>exact cN.elim
  | tok f' g c=>
   obtain ⟨rfl,_⟩:=cN
   simp [lT] at hon
  | bC=>
   simp only [List.length_nil] at hb
   have bw:=hA.nil oN (by omega) (by rw [f3]; rw [Nat.zero_add] at hb; omega)
   exact fresh (xs:=[]) (old:=0) bP (fun b c=>by simp only [ck]; omega) (fun e he=>by simp at he) .nil (by simp) (by simp) (by simpa using bw)
 | @dA _ _ _ _ _ cap b o' ro bP dY gC=>
  subst hf; subst ho0; subst rM
  obtain ⟨b',c',cur,vs,rfl,g1,g2,g3,g4,g5,g6,g7,g8,g9⟩:=lZ h.g hid bP (fun k=>by subst k; exact dY)
  obtain ⟨rfl,Cr,uT⟩:=dY.2 rfl
  rw [Nat.zero_add] at Cr
  subst Cr
  have PW:vs.length=es.length * esz:=by rw [← g7.length,cU g1]
  have fa:∀ j v,vs[j]?=some v→cur[j]?=some v:=fun j v hj=>by
   rw [← g9,List.getElem?_take] at hj
   split at hj
   ·rw [← Array.getElem?_toList]; exact hj
   ·cases hj
  by_cases fS:es.length+(y :: ys).length≤cap
  ·have om:o'=0:=by
    rcases uT with uT | uT
    ·rw [uT,Nat.zero_mul]
    ·rw [List.length_cons] at fS; omega
   subst om
   have hle:(es.length+(y :: ys).length) * esz≤cap * esz:=Nat.mul_le_mul_right _ fS
   have bw:=hA.room oN b es.length cap cur g2 fS (by rw [f2,y3,← Nat.add_mul,g5]; exact hle)
   rw [f2] at bw
   have iG:cur.toList.length=cap * esz:=by rw [show cur.toList.length=cur.size from Array.length_toList,g5]
   obtain ⟨r1,r2⟩:=h.LF (cur2:=(cur.toList.take (es.length * esz)++us++cur.toList.drop (es.length * esz+us.length)).toArray) (vs:=vs++us) (es':=es++(y :: ys)) hid bP (by rw [AX]; omega) (by rw [AX]; exact fS) g2 (by
    rw [List.size_toArray,← Array.length_toList]
    simp only [List.length_append,List.length_take,List.length_drop,y3,iG]
    rw [Nat.add_mul] at hle
    omega) (qm g1 y0) (by rw [cF]; exact g7.append y1) (ic g8 y2) (by
    rw [AX,List.toList_toArray,g9]
    exact List.take_left' (by rw [List.length_append,PW,y3,Nat.add_mul]))
   rw [AX] at r1 r2
   refine ⟨_,_,_,_,β,eR bw,.inl rfl,r1.put o.dst ?_,by rw [aW]; exact r2⟩
   exact Rel.dA (aG bP) ⟨Nat.le_refl _,fun _=>⟨rfl,Nat.zero_add _,.inl (Nat.zero_mul _).symm⟩⟩ fS
  ·have bw:=hA.grow oN ⟨b,o',none⟩ es.length cap vs (by rw [PW,f2]) (fun j v hj=>by
    rw [cn]
    have Le:=(List.getElem?_eq_some_iff.1 hj).1
    have om:o'=0:=by
     rcases uT with uT | uT
     ·rw [uT,Nat.zero_mul]
     ·have:es.length=0:=by omega
      rw [PW,this] at Le
      omega
    subst om
    rw [Nat.zero_add,cell_of_row w b j cur elem (0,0) g2]
    exact fa j v hj) (by omega) (by omega) (growslice_fits (by omega) (by rw [f3]; exact hb))
   exact fresh (xs:=vs) (old:=cap) bP (fun b c=>⟨by omega,fun e=>by omega⟩) g1 g7 g8 PW bw
theorem ly (h:bg E R w β s a) {t u:TypeId} {id j:Nat} {es:List AV} {y:AV} {ys:List AV} {cx cy:Value} {us:List Value}
  (eR:∀ {c:Value} {w':World},(Builtin.append_ #[t,u] o.type #[cx,cy]).run E.P w=.ok c w'→(execOp a.eval o).run E.P w=.ok (.value c) w')
  {elem esz eb:Nat} {z:AV} (ED:1≤eb) (hz:z.cells.length=esz) (pY:z.aQ=true)
  {ie:TypeInfo} (f2:ie.size=esz) (f3:ie.bytes=eb) (f6:ft ie=some z)
  (h0:Rel R w (.list (.ba id j) esz es) cx) (hA:∀ zc:Value,ie.zero=some zc→XX E.P w t u o.type elem ie zc cy (y :: ys).length us)
  (y0:iA esz (y :: ys)) (y1:aH R w (ar (y :: ys)) us) (y2:∀ v∈us,v.oneCell'=true) (y3:us.length=(y :: ys).length * esz)
  {fs:List Nat} (gF:nth s.G id=some (.ba fs esz elem)) (sN:nth fs j=some es.length) (hb:(es.length+(y :: ys).length) * eb≤140737488355328) :
  bS E R w β s a o ((s.bW (aA s.G id (.ba (aA fs j (es.length+(y :: ys).length)) esz elem))).put o.dst (.v (.list (.ba id j) esz (es++(y :: ys))))):=by
 obtain ⟨zc,px,Cq⟩:=cT f6
 have hA:=hA zc px
 obtain ⟨d1,d2⟩:=Rel.cells (Cq R w) pY
 have ol:zc.cells.size=esz:=by rw [← hz,d1.length]; simp
 have oN:0 < (y :: ys).length:=by simp
 have hm:es.length+(y :: ys).length≤140737488355328:=Nat.le_trans (Nat.le_mul_of_pos_right _ ED) hb
 obtain ⟨x0,xs,x1,x2,x3,x4⟩:=e9 (esz:=esz) h0 (.inr rfl)
 obtain ⟨ro,bP⟩:∃ ro,nth R.obj id=some ro:=by
  cases h0 with
  | kL q _=>exact ⟨_,q⟩
  | list _ _ _ hk=>obtain ⟨ro,q,_⟩:=hk; exact ⟨ro,q⟩
 have cN:=h.g.obj id _ _ gF bP
 cases ro with
 | none=>exact cN.elim
 | bC=>exact cN.elim
 | bU _=>exact cN.elim
 | tok _ _ _=>exact cN.elim
 | ba ts=>
 have cN:uy R w esz elem fs ts:=cN
 have hjl:j < ts.length:=by rw [cN.1]; exact bJ sN
 obtain ⟨tr,ht⟩:∃ tr,nth ts j=some tr:=⟨ts[j],by rw [aX]; exact List.getElem?_eq_getElem hjl⟩
 have kz:=cN.2.2 j _ _ sN ht
 have AY:∀ i f b c,nth ts i=some (.tok f b c)→b < w.heap.size:=fun i f b c hi=>h.g.bT ⟨id,_,bP,i,f,c,hi⟩
 -- where a new block has been made
 have fresh:∀ {old:Nat},(∀ b c,kM tr (.tok (es.length+(y :: ys).length) b c)) →
   (Builtin.append_ #[t,u] o.type #[cx,cy]).run E.P w=.ok (.slice (some ⟨w.heap.size,0,none⟩) (es.length+(y :: ys).length) (grownCap w (es.length+(y :: ys).length) old elem)) (w.drew.alloc (.cells (xs.toArray++us.toArray++Builtin.zeroCells zc.cells (grownCap w (es.length+(y :: ys).length) old elem - (es.length+(y :: ys).length))) elem)) →
   bS E R w β s a o ((s.bW (aA s.G id (.ba (aA fs j (es.length+(y :: ys).length)) esz elem))).put o.dst (.v (.list (.ba id j) esz (es++(y :: ys))))):=by
  intro old hle bw
  have kN:=grownCap_ge w (es.length+(y :: ys).length) old elem
  have YU:=grownCap_le_maxLen w (es.length+(y :: ys).length) old elem (by unfold maxLen; omega)
  have PZ:(xs.toArray++us.toArray++Builtin.zeroCells zc.cells (grownCap w (es.length+(y :: ys).length) old elem - (es.length+(y :: ys).length))).size=grownCap w (es.length+(y :: ys).length) old elem * esz:=by
   simp only [Array.size_append,List.size_toArray,size_zeroCells,ol,x3,y3,← Nat.add_mul]
   congr 1
   omega
  generalize gZ:xs.toArray++us.toArray++Builtin.zeroCells zc.cells (grownCap w (es.length+(y :: ys).length) old elem - (es.length+(y :: ys).length))=cur at bw PZ
  have o1:=One.drew w (.cells cur elem)
  obtain ⟨r1,r2⟩:=h.Q9 o1 (n:=(es.length+(y :: ys).length) * esz) (r1:=.ba (aA ts j (.tok (es.length+(y :: ys).length) w.heap.size (grownCap w (es.length+(y :: ys).length) old elem)))) (go:=.ba (aA fs j (es.length+(y :: ys).length)) esz elem) gF bP
   (rG.set ht (hle _ _)) (fun b hb=>Ey hb) (uy.set cN ⟨rfl,cur,o1.new,kN,YU,PZ,fun o' om hi=>by
    rcases hi with hi | ⟨_,hi⟩
    ·have:=h.g.wf _ _ hi
     omega
    ·omega⟩ (fun i f c hi=>absurd (AY i f _ c hi) (Nat.lt_irrefl _)) (fun i f b c _ hi=>⟨o1.old b (AY i f b c hi),fun o' om=>by
     rcases om with om | ⟨om,_⟩
     ·exact om
     ·have:=AY i f b c hi
      omega⟩))
  have e:=r2.ext
  refine ⟨_,_,_,_,β,eR bw,.inl rfl,r1.put o.dst ?_,by rw [aW]; exact r2⟩
  refine Rel.list (qn (vs:=xs++us) (ky x0 y0) (by rw [cF]; exact (x1.mono e).append (y1.mono e)) (ic x2 y2) (fun j v hj=>?_) (fun j hj=>.inr ⟨rfl,by rw [List.length_append,x3,y3,← Nat.add_mul] at hj; exact hj⟩)) (by simp) kN ⟨_,aG bP,_,aG ht,Nat.le_refl _,fun _=>⟨rfl,rfl,rfl⟩⟩
  rw [cell_of_row _ _ j _ _ _ o1.new,← gZ]
  have bM:=(List.getElem?_eq_some_iff.1 hj).1
  rw [← Array.getElem?_toList]
  simp only [Array.toList_append,List.append_assoc]
  rw [← List.append_assoc,List.getElem?_append_left bM]
  exact hj
 rcases x4 with ⟨rfl,rfl,ad,rfl,hd⟩ | ⟨b,o',cap,rfl,Vy,xk,sO,xE⟩
 ·obtain rfl:ad=none:=by
   rcases hd with hd | hd
   ·exact hd
   ·cases hd
  simp only [List.length_nil] at hb kz
  have bw:=hA.nil oN (by simp only [List.length_nil] at hm; omega) (by rw [f3]; rw [Nat.zero_add] at hb; omega)
  cases tr with
  | bC=>exact fresh (old:=0) (fun b c=>by simp only [kM,List.length_cons]; omega) (by simpa using bw)
  | full f'=>
   have kz:f'=0:=kz
   subst kz
   exact fresh (old:=0) (fun b c=>by simp only [kM,List.length_cons]; omega) (by simpa using bw)
  | tok f' g c=>
   obtain ⟨kz,_⟩:=kz
   subst kz
   exact fresh (old:=0) (fun b c=>by simp only [kM,List.length_cons,List.length_nil]; omega) (by simpa using bw)
 ·obtain ⟨k9,Vz,sM⟩:=xk
  rw [bP] at Vz
  cases Vz
  obtain ⟨t',q3,sM⟩:=sM
  rw [ht] at q3
  cases q3
  cases tr with
  | bC=>exact sM.elim
  | full f'=>
   have hf:f'=es.length:=kz
   subst hf
   have gC:=sM.2 rfl
   subst gC
   have bw:=hA.grow oN ⟨b,o',none⟩ es.length es.length xs (by rw [x3,f2]) sO (by omega) (by omega) (growslice_fits (by omega) (by rw [f3]; exact hb))
   exact fresh (fun b c=>by simp only [kM]; omega) bw
  | tok f' g c=>
   obtain ⟨rfl,cur,gZ,k1,k3,k4,k5⟩:=kz
   obtain ⟨rfl,rfl,rfl⟩:=sM.2 rfl
   by_cases fS:es.length+(y :: ys).length≤cap
   ·have hle:(es.length+(y :: ys).length) * esz≤cap * esz:=Nat.mul_le_mul_right _ fS
    have bw:=hA.room oN b es.length cap cur gZ fS (by rw [f2,y3,← Nat.add_mul,k4]; exact hle)
    rw [f2] at bw
    generalize HL:(cur.toList.take (es.length * esz)++us++cur.toList.drop (es.length * esz+us.length)).toArray=cur2 at bw
    have iG:cur.toList.length=cap * esz:=by rw [show cur.toList.length=cur.size from Array.length_toList,k4]
    have hll:es.length * esz≤cap * esz:=Nat.mul_le_mul_right _ k1
    have F1:cur2.size=cap * esz:=by
     rw [← HL,List.size_toArray]
     simp only [List.length_append,List.length_take,List.length_drop,y3,iG]
     rw [Nat.add_mul] at hle
     omega
    have uP:∀ o',R.I b o'→cur2[o']?=cur[o']?:=fun o' hi=>by
     have ho:o' < es.length * esz:=Nat.lt_of_not_le fun hle=>k5 o' hle hi
     rw [← HL,List.append_assoc]
     simp only [List.getElem?_toArray]
     rw [List.getElem?_append_left (by rw [List.length_take]; omega),List.getElem?_take,if_pos ho,Array.getElem?_toList]
    have new:(w.setRow b cur2).heap[b]?=some (.cells cur2 elem (0,0)):=setRow_heap w b cur cur2 elem (0,0) gZ
    obtain ⟨r0,r1,r2⟩:=h.LD (cur2:=cur2) (n:=(es.length+(y :: ys).length) * esz) (r1:=.ba (aA ts j (.tok (es.length+(y :: ys).length) b cap))) (go:=.ba (aA fs j (es.length+(y :: ys).length)) esz elem) gF bP ⟨j,_,_,ht⟩
     (rG.set ht ⟨by omega,fun e=>by omega⟩) (fun b' jI=>(Ey jI).elim (fun e=>by rw [e]; exact ⟨j,_,_,ht⟩) (fun x=>x)) gZ uP (fun _=>uy.set cN ⟨rfl,cur2,new,fS,k3,F1,fun o' om hi=>by
      rcases hi with hi | ⟨_,hi⟩
      ·exact k5 o' (Nat.le_trans (Nat.mul_le_mul_right _ (Nat.le_add_right _ _)) om) hi
      ·omega⟩ (fun i f c hi=>cN.2.1 i j _ _ _ _ _ hi ht) (fun i f b' c cA hi=>by
       have Uw:b'≠b:=fun e=>by subst e; exact cA (cN.2.1 i j _ _ _ _ _ hi ht)
       refine ⟨setRow_other w b b' cur2 Uw,fun o' om=>?_⟩
       rcases om with om | ⟨om,_⟩
       ·exact om
       ·exact absurd om Uw))
    refine ⟨_,_,_,_,β,eR bw,.inl rfl,r1.put o.dst ?_,by rw [aW]; exact r2⟩
    have UE:cur.toList.take (es.length * esz)=xs:=by
     have Cs:xs.length=es.length * esz:=x3
     apply List.ext_getElem?
     intro j
     rw [List.getElem?_take]
     split
     ·rename_i hj
      have Le:j < xs.length:=by omega
      have qj:=sO j xs[j] (List.getElem?_eq_getElem Le)
      rw [cn,Nat.zero_add,cell_of_row w b j cur elem (0,0) gZ] at qj
      rw [Array.getElem?_toList,qj,List.getElem?_eq_getElem Le]
     ·rw [List.getElem?_eq_none (by omega)]
    refine Rel.list (qn (vs:=xs++us) (ky x0 y0) (by rw [cF]; exact (x1.mono r0).append (y1.mono r0)) (ic x2 y2) (fun j v hj=>?_) (fun j hj=>.inr ⟨rfl,by rw [List.length_append,x3,y3,← Nat.add_mul] at hj; exact hj⟩)) (by simp) fS ⟨_,aG bP,_,aG ht,Nat.le_refl _,fun _=>⟨rfl,rfl,rfl⟩⟩
    rw [cell_of_row _ _ j _ _ _ new,← HL,UE]
    simp only [List.getElem?_toArray]
    rw [List.getElem?_append_left (List.getElem?_eq_some_iff.1 hj).1]
    exact hj
   ·have bw:=hA.grow oN ⟨b,0,none⟩ es.length cap xs (by rw [x3,f2]) sO (by omega) (by omega) (growslice_fits (by omega) (by rw [f3]; exact hb))
    exact fresh (fun b c=>⟨by omega,fun e=>by omega⟩) bw
theorem tG (h:bg E R w β s a) {t u:TypeId} {id j:Nat} {es:List AV} {y:AV} {ys:List AV} {cx cy:Value} {us:List Value}
  (eR:∀ {c:Value} {w':World},(Builtin.append_ #[t,u] o.type #[cx,cy]).run E.P w=.ok c w'→(execOp a.eval o).run E.P w=.ok (.value c) w')
  {elem esz eb:Nat} {z:AV} (ED:1≤eb) (hz:z.cells.length=esz) (pY:z.aQ=true)
  {ie:TypeInfo} (f2:ie.size=esz) (f3:ie.bytes=eb) (f6:ft ie=some z)
  (h0:Rel R w (.list (.ba id j) esz es) cx) (hA:∀ zc:Value,ie.zero=some zc→XX E.P w t u o.type elem ie zc cy (y :: ys).length us)
  (y0:iA esz (y :: ys)) (y1:aH R w (ar (y :: ys)) us) (y2:∀ v∈us,v.oneCell'=true) (y3:us.length=(y :: ys).length * esz)
  {fs:List Nat} (gF:nth s.G id=some (.ba fs esz elem)) (sN:Lu fs j es.length=true) (hb:(es.length+(y :: ys).length) * eb≤140737488355328) :
  bS E R w β s a o ((s.bW (aA s.G id (.ba (FI fs j (es.length+(y :: ys).length)) esz elem))).put o.dst (.v (.list (.ba id j) esz (es++(y :: ys))))):=by
 unfold Lu at sN
 rw [Bool.or_eq_true,decide_eq_true_eq,Bool.and_eq_true] at sN
 rcases sN with sN | ⟨hj,hl⟩
 ·have cA:Nat.beq j fs.length=false:=by
   cases hb:Nat.beq j fs.length with
   | false=>rfl
   | true=>
    have:=Nat.eq_of_beq_eq_true hb
    have:=bJ sN
    omega
  unfold FI
  rw [cA]
  exact ly h eR ED hz pY f2 f3 f6 h0 hA y0 y1 y2 y3 gF sN hb
 ·have uU:FI fs j (es.length+(y :: ys).length)=fs++[es.length+(y :: ys).length]:=by
   unfold FI
   rw [hj]
   rfl
  rw [uU]
  have hj:=Nat.eq_of_beq_eq_true hj
  have hl:=Nat.eq_of_beq_eq_true hl
  subst hj
  have bM:=bJ gF
  rw [← h.g.len] at bM
  obtain ⟨ro,bP⟩:∃ ro,nth R.obj id=some ro:=⟨R.obj[id],by rw [aX]; exact List.getElem?_eq_getElem bM⟩
  obtain ⟨ts,rfl,z1,z2,z3⟩:=h.CY gF (nfs:=[0]) (nts:=[.bC]) rfl (fun j f t h1 h2=>by
   cases j with
   | zero=>simp only [nth] at h1 h2; cases h1; cases h2; exact rfl
   | succ j=>simp [nth] at h1) (fun j f b c hj=>by
   cases j with
   | zero=>simp only [nth] at hj; cases hj
   | succ j=>simp [nth] at hj) bP
  have key:=ly z2 eR ED hz pY f2 f3 f6 (h0.mono z3.ext) hA y0 (y1.mono z3.ext) y2 y3 (fs:=fs++[0]) (aG gF) (by rw [hl]; exact eZ _ _) hb
  have e1:aA (fs++[0]) fs.length (es.length+(y :: ys).length)=fs++[es.length+(y :: ys).length]:=by
   rw [fy,List.set_append_right _ _ (Nat.le_refl _),Nat.sub_self]
   rfl
  have e2:∀ x y:GO,aA (aA s.G id x) id y=aA s.G id y:=fun x y=>by rw [fy,fy,fy,List.set_set]
  rw [e1] at key
  refine bS.step rfl z3 ?_
  have e3:((s.bW (aA s.G id (.ba (fs++[0]) esz elem))).bW (aA (s.bW (aA s.G id (.ba (fs++[0]) esz elem))).G id (.ba (fs++[es.length+(y :: ys).length]) esz elem)))=s.bW (aA s.G id (.ba (fs++[es.length+(y :: ys).length]) esz elem)):=by
   simp only [St.bW,e2]
  rw [e3] at key
  exact key
theorem lz (h:bg E R w β s a) {t u:TypeId} {x:AV} {ys:List AV} {cx cy:Value} {us:List Value}
  (eR:∀ {c:Value} {w':World},(Builtin.append_ #[t,u] o.type #[cx,cy]).run E.P w=.ok c w'→(execOp a.eval o).run E.P w=.ok (.value c) w')
  {i:TI} {elem esz eb:Nat} {ag:Bool} {z:AV} (hk:i.k=.sl elem esz ag eb (some z)) (ED:1≤eb) (hz:z.cells.length=esz) (pY:z.aQ=true)
  {ie:TypeInfo} (f1:E.P.info? elem=some ie) (f2:ie.size=esz) (f3:ie.bytes=eb) (f6:ft ie=some z)
  (h0:Rel R w x cx) (hA:∀ zc:Value,ie.zero=some zc→XX E.P w t u o.type elem ie zc cy ys.length us)
  (y0:iA esz ys) (y1:aH R w (ar ys) us) (y2:∀ v∈us,v.oneCell'=true) (y3:us.length=ys.length * esz)
  {v:AV} {G':List GO} (ha:fu s.G elem esz eb x ys=some (true,v,G')) :
  bS E R w β s a o ((s.bW G').put o.dst (.v v)):=by
 obtain ⟨zc,px,Cq⟩:=cT f6
 have hA':=hA
 have hA:=hA zc px
 obtain ⟨d1,d2⟩:=Rel.cells (Cq R w) pY
 have ol:zc.cells.size=esz:=by rw [← hz,d1.length]; simp
 unfold fu at ha
 split at ha
 ·-- nothing is appended
  rename_i k sz es
  have Vt:us=[]:=List.eq_nil_of_length_eq_zero (by simpa using y3)
  have hG:G'=s.G∧Rel R w v cx:=by
   split at ha
   ·injection ha with ha; injection ha with _ ha; injection ha with p q
    subst p; subst q
    exact ⟨rfl,h0⟩
   ·injection ha with ha; injection ha with _ ha; injection ha with p q
    subst p; subst q
    exact ⟨rfl,h0⟩
  obtain ⟨rfl,hvr⟩:=hG
  refine aq (s:=s) h (c:=cx) (eR ?_) hvr
  cases h0 with
  | jj=>exact hA.zero rfl _ _ _ (Nat.le_refl 0)
  | hY=>exact hA.zero rfl _ _ _ (Nat.le_refl 0)
  | lU=>exact hA.zero rfl _ _ _ (Nat.le_refl 0)
  | ln=>exact hA.zero rfl _ _ _ (Nat.le_refl 0)
  | kL=>exact hA.zero rfl _ _ _ (Nat.le_refl 0)
  | list hr hlen gC _=>exact hA.zero rfl _ _ _ gC
 ·-- something is appended
  rename_i k sz es y ys hA
  have oN:0 < (y :: ys).length:=by simp
  -- what is shown where a new block has been made
  have grown:∀ {n old:Nat} {xs:List Value} {es':List AV},(es'.length=n)→iA esz es'→aH R w (ar es') xs→(∀ v∈xs,v.oneCell'=true)→xs.length=n * esz →
    (n+(y :: ys).length) * eb≤140737488355328→n+(y :: ys).length≤maxLen→∀ (R':ak) (G2:List GO) (id:Nat),
    bg E R' (w.drew.alloc (.cells (xs.toArray++us.toArray++Builtin.zeroCells zc.cells (grownCap w (n+(y :: ys).length) old elem - (n+(y :: ys).length))) elem)) β (s.bW G2) a →
    Step R w β s.boxes R' (w.drew.alloc (.cells (xs.toArray++us.toArray++Builtin.zeroCells zc.cells (grownCap w (n+(y :: ys).length) old elem - (n+(y :: ys).length))) elem)) β s.boxes →
    (∀ j,j < (n+(y :: ys).length) * esz→R'.I w.heap.size j)→nth R'.obj id=some (.tok (n+(y :: ys).length) w.heap.size (grownCap w (n+(y :: ys).length) old elem)) →
    (Builtin.append_ #[t,u] o.type #[cx,cy]).run E.P w=.ok (.slice (some ⟨w.heap.size,0,none⟩) (n+(y :: ys).length) (grownCap w (n+(y :: ys).length) old elem)) (w.drew.alloc (.cells (xs.toArray++us.toArray++Builtin.zeroCells zc.cells (grownCap w (n+(y :: ys).length) old elem - (n+(y :: ys).length))) elem)) →
    bS E R w β s a o ((s.bW G2).put o.dst (.v (.list (.own id) esz (es'++(y :: ys))))):=by
   intro n old xs es' AD Rg Vx tB yk _ _ R' G2 id cN EE hI hid bw
   refine ⟨_,_,_,R',β,eR bw,.inl rfl,cN.put o.dst ?_,by rw [aW]; exact EE⟩
   have e:=EE.ext
   refine Rel.list (qn (vs:=xs++us) (ky Rg y0) (by rw [cF]; exact (Vx.mono e).append (y1.mono e)) (ic tB y2) (fun j v hj=>?_) (fun j hj=>hI j (by rw [List.length_append,yk,y3,← Nat.add_mul] at hj; exact hj))) (by simp [AD]) (grownCap_ge w _ _ _) ⟨_,hid,Nat.le_refl _,fun _=>⟨rfl,rfl,rfl⟩⟩
   have nh:(w.drew.alloc (.cells (xs.toArray++us.toArray++Builtin.zeroCells zc.cells (grownCap w (n+(y :: ys).length) old elem - (n+(y :: ys).length))) elem)).heap[w.heap.size]?=some (.cells (xs.toArray++us.toArray++Builtin.zeroCells zc.cells (grownCap w (n+(y :: ys).length) old elem - (n+(y :: ys).length))) elem (0,0)):=heap_alloc_new w.drew _
   rw [cell_of_row _ _ j _ _ _ nh]
   have bM:=(List.getElem?_eq_some_iff.1 hj).1
   rw [← Array.getElem?_toList]
   simp only [Array.toList_append,List.append_assoc]
   rw [← List.append_assoc,List.getElem?_append_left bM]
   exact hj
  have HM:∀ {n old:Nat} {xs:List Value},xs.length=n * esz→n+(y :: ys).length≤maxLen→(xs.toArray++us.toArray++Builtin.zeroCells zc.cells (grownCap w (n+(y :: ys).length) old elem - (n+(y :: ys).length))).size=grownCap w (n+(y :: ys).length) old elem * esz:=by
   intro n old xs yk _
   have kN:=grownCap_ge w (n+(y :: ys).length) old elem
   simp only [Array.size_append,List.size_toArray,size_zeroCells,ol,yk,y3,← Nat.add_mul]
   congr 1
   omega
  have fresh:∀ {n old:Nat} {xs:List Value} {es':List AV},(es'.length=n)→iA esz es'→aH R w (ar es') xs→(∀ v∈xs,v.oneCell'=true)→xs.length=n * esz →
    (n+(y :: ys).length) * eb≤140737488355328→n+(y :: ys).length≤maxLen →
    (Builtin.append_ #[t,u] o.type #[cx,cy]).run E.P w=.ok (.slice (some ⟨w.heap.size,0,none⟩) (n+(y :: ys).length) (grownCap w (n+(y :: ys).length) old elem)) (w.drew.alloc (.cells (xs.toArray++us.toArray++Builtin.zeroCells zc.cells (grownCap w (n+(y :: ys).length) old elem - (n+(y :: ys).length))) elem)) →
    bS E R w β s a o ((s.bW (s.G++[.tok (n+(y :: ys).length) esz elem])).put o.dst (.v (.list (.own s.G.length) esz (es'++(y :: ys))))):=by
   intro n old xs es' AD Rg Vx tB yk hb hm bw
   obtain ⟨r1,r2⟩:=h.Q7 (cur:=xs.toArray++us.toArray++Builtin.zeroCells zc.cells (grownCap w (n+(y :: ys).length) old elem - (n+(y :: ys).length))) (elem:=elem) (grownCap_ge w (n+(y :: ys).length) old elem) (grownCap_le_maxLen w _ old elem hm) (HM yk hm)
   exact grown AD Rg Vx tB yk hb hm _ _ _ r1 r2 (fun j hj=>.inr ⟨rfl,hj⟩) (by rw [← h.g.len]; exact eZ _ _) bw
  have Hh:∀ {n:Nat},(n+(y :: ys).length) * eb≤140737488355328→n+(y :: ys).length≤140737488355328:=fun {n} hb=>Nat.le_trans (Nat.le_mul_of_pos_right _ ED) hb
  split at ha
  ·-- nil
   injection ha with ha; injection ha with hc ha; injection ha with p q
   subst p; subst q
   have hb:=of_decide_eq_true hc
   cases h0 with
   | list _ _ _ Hy=>exact Hy.elim
   | jj=>
    simp only [List.length_nil] at hb
    have hm:=Hh hb
    refine fresh (n:=0) (old:=0) (xs:=[]) (es':=[]) rfl (fun e he=>by simp at he) .nil (by simp) (by simp) hb (by unfold maxLen; omega) ?_
    have bw:=hA.nil oN (by omega) (by rw [f3]; rw [Nat.zero_add] at hb; omega)
    simpa using bw
  ·-- as long as its capacity
   split at ha
   ·rename_i dV
    have dV:=Nat.eq_of_beq_eq_true dV
    subst dV
    injection ha with ha; injection ha with hc ha; injection ha with p q
    subst p; subst q
    have hb:=of_decide_eq_true hc
    have hm:=Hh hb
    obtain ⟨x0,xs,x1,x2,x3,x4⟩:=e9 (esz:=sz) h0 (.inr rfl)
    rcases x4 with ⟨rfl,rfl,ad,rfl,hd⟩ | ⟨b,o',cap,rfl,Vy,xk,sO,_⟩
    ·rcases hd with rfl | hd
     ·cases h0
     ·cases hd
    ·have gC:cap=es.length:=xk
     subst gC
     refine fresh (n:=es.length) (old:=es.length) (xs:=xs) (es':=es) rfl x0 x1 x2 x3 hb (by unfold maxLen; omega) ?_
     exact hA.grow oN ⟨b,o',none⟩ es.length es.length xs (by rw [x3,f2]) sO (by omega) (by omega) (growslice_fits (by omega) (by rw [f3]; exact hb))
   ·cases ha
  ·-- of a token
   rename_i id
   split at ha
   ·rename_i f bI e' gF
    split at ha
    ·rename_i cD
     simp only [Bool.and_eq_true] at cD
     obtain ⟨⟨q1,q2⟩,q3⟩:=cD
     have q1:=Nat.eq_of_beq_eq_true q1
     have q2:=Nat.eq_of_beq_eq_true q2
     have q3:=Nat.eq_of_beq_eq_true q3
     subst q1; subst q2; subst q3
     injection ha with ha; injection ha with hc ha; injection ha with p q
     subst p; subst q
     simp only [Bool.and_eq_true] at hc
     have sN:=of_decide_eq_true hc.1
     have hb:=of_decide_eq_true hc.2
     subst sN
     have hm:=Hh hb
     obtain ⟨x0,xs,x1,x2,x3,x4⟩:=e9 (esz:=sz) h0 (.inr rfl)
     rcases x4 with ⟨rfl,rfl,ad,rfl,hd⟩ | ⟨b,o',cap,rfl,Vy,xk,sO,xE⟩
     ·obtain rfl:ad=none:=by
       rcases hd with hd | hd
       ·exact hd
       ·cases hd
      cases h0 with
      | @ln _ _ ro bP hon=>
      have cN:=h.g.obj id _ _ gF bP
      cases ro with
      | none=>exact cN.elim
      | bU _=>exact cN.elim
      | tok f' g c=>
       obtain ⟨rfl,_⟩:=cN
       simp [lT] at hon
      | ba _=>exact cN.elim
      | bC=>
       simp only [List.length_nil] at hb
       have bw:=hA.nil oN (by omega) (by rw [f3]; rw [Nat.zero_add] at hb; omega)
       have dV:=HM (n:=0) (old:=0) (xs:=[]) (by simp) (by unfold maxLen; omega)
       obtain ⟨r1,r2⟩:=h.HH (cur:=[].toArray++us.toArray++Builtin.zeroCells zc.cells (grownCap w (0+(y :: ys).length) 0 e' - (0+(y :: ys).length))) (elem:=e') (n:=0+(y :: ys).length) (cap:=grownCap w (0+(y :: ys).length) 0 e') gF bP (fun b c=>by simp only [ck]; omega) (grownCap_ge w _ _ _) (grownCap_le_maxLen w _ _ _ (by unfold maxLen; omega)) dV
       exact grown (n:=0) (es':=[]) rfl (fun e he=>by simp at he) .nil (by simp) (by simp) hb (by unfold maxLen; omega) _ _ _ r1 r2 (fun j hj=>.inr ⟨rfl,hj⟩) (aG bP) (by simpa using bw)
     ·obtain ⟨ro,bP,sM⟩:=xk
      have cN:=h.g.obj id _ _ gF bP
      cases ro with
      | none=>exact cN.elim
      | bC=>exact sM.elim
      | bU _=>exact cN.elim
      | ba _=>exact cN.elim
      | tok f' g c=>
       obtain ⟨rfl,cur,gZ,k1,k3,k4,k5⟩:=cN
       obtain ⟨rfl,rfl,rfl⟩:=sM.2 rfl
       by_cases fS:es.length+(y :: ys).length≤cap
       ·have hle:(es.length+(y :: ys).length) * sz≤cap * sz:=Nat.mul_le_mul_right _ fS
        have bw:=hA.room oN b es.length cap cur gZ fS (by rw [f2,y3,← Nat.add_mul,k4]; exact hle)
        rw [f2] at bw
        obtain ⟨r0,r1,r2⟩:=h.LB (news:=us) (n:=es.length+(y :: ys).length) gF bP (by omega) fS gZ k4 k3 (by rw [y3,← Nat.add_mul])
        refine ⟨_,_,_,_,β,eR bw,.inl rfl,r1.put o.dst ?_,by rw [aW]; exact r2⟩
        have nh:=setRow_heap w b cur (cur.toList.take (es.length * sz)++us++cur.toList.drop (es.length * sz+us.length)).toArray e' (0,0) gZ
        have UE:cur.toList.take (es.length * sz)=xs:=by
         have Cs:xs.length=es.length * sz:=x3
         apply List.ext_getElem?
         intro j
         rw [List.getElem?_take]
         split
         ·rename_i hj
          have Le:j < xs.length:=by omega
          have qj:=sO j xs[j] (List.getElem?_eq_getElem Le)
          rw [cn,Nat.zero_add,cell_of_row w b j cur e' (0,0) gZ] at qj
          rw [Array.getElem?_toList,qj,List.getElem?_eq_getElem Le]
         ·rw [List.getElem?_eq_none (by omega)]
        refine Rel.list (qn (vs:=xs++us) (ky x0 y0) (by rw [cF]; exact (x1.mono r0).append (y1.mono r0)) (ic x2 y2) (fun j v hj=>?_) (fun j hj=>.inr ⟨rfl,by rw [List.length_append,x3,y3,← Nat.add_mul] at hj; exact hj⟩)) (by simp) fS ⟨_,aG bP,Nat.le_refl _,fun _=>⟨rfl,rfl,rfl⟩⟩
        rw [cell_of_row _ _ j _ _ _ nh,UE]
        simp only [List.getElem?_toArray]
        rw [List.getElem?_append_left (List.getElem?_eq_some_iff.1 hj).1]
        exact hj
       ·have bw:=hA.grow oN ⟨b,0,none⟩ es.length cap xs (by rw [x3,f2]) sO (by omega) (by omega) (growslice_fits (by omega) (by rw [f3]; exact hb))
        obtain ⟨r1,r2⟩:=h.HH (cur:=xs.toArray++us.toArray++Builtin.zeroCells zc.cells (grownCap w (es.length+(y :: ys).length) cap e' - (es.length+(y :: ys).length))) (elem:=e') (n:=es.length+(y :: ys).length) (cap:=grownCap w (es.length+(y :: ys).length) cap e') gF bP (fun b c=>⟨by omega,fun e=>by omega⟩) (grownCap_ge w _ _ _) (grownCap_le_maxLen w _ _ _ (by unfold maxLen; omega)) (HM x3 (by unfold maxLen; omega))
        exact grown rfl x0 x1 x2 x3 hb (by unfold maxLen; omega) _ _ _ r1 r2 (fun j hj=>.inr ⟨rfl,hj⟩) (aG bP) bw
    ·cases ha
   ·cases ha
  ·-- of a member of a family
   rename_i id j
   split at ha
   ·rename_i fs bI e' gF
    split at ha
    ·rename_i cD
     simp only [Bool.and_eq_true] at cD
     obtain ⟨⟨q1,q2⟩,q3⟩:=cD
     have q1:=Nat.eq_of_beq_eq_true q1
     have q2:=Nat.eq_of_beq_eq_true q2
     have q3:=Nat.eq_of_beq_eq_true q3
     subst q1; subst q2; subst q3
     injection ha with ha; injection ha with hc ha; injection ha with p q
     subst p; subst q
     simp only [Bool.and_eq_true,decide_eq_true_eq] at hc
     exact tG h eR ED hz pY f2 f3 f6 h0 (fun YV Rh=>hA' YV Rh) y0 y1 y2 y3 gF hc.1 hc.2
    ·cases ha
   ·cases ha
  ·cases ha
 ·-- a slice that grows, and nothing
  injection ha with ha; injection ha with _ ha; injection ha with p q
  subst p; subst q
  refine aq (s:=s) h (c:=cx) (eR ?_) h0
  cases h0 with
  | iB=>exact hA.zero rfl _ _ _ (Nat.le_refl 0)
  | dA _ _ gC=>exact hA.zero rfl _ _ _ gC
 ·-- a slice that grows
  rename_i id f' off sz len y ys hA
  split at ha
  ·rename_i es bI e' gF
   split at ha
   ·rename_i cD
    simp only [Bool.and_eq_true] at cD
    obtain ⟨⟨q1,q2⟩,q3⟩:=cD
    have q1:=Nat.eq_of_beq_eq_true q1
    have q2:=Nat.eq_of_beq_eq_true q2
    have q3:=Nat.eq_of_beq_eq_true q3
    subst q1; subst q2; subst q3
    injection ha with ha; injection ha with hc ha; injection ha with p q
    subst p; subst q
    simp only [Bool.and_eq_true,decide_eq_true_eq] at hc
    exact mL h eR ED hz pY f2 f3 f6 h0 (fun YV Rh=>hA' YV Rh) y0.g y1 y2 y3 gF hc.1.1.1 hc.1.1.2 hc.1.2 hc.2
   ·cases ha
  ·cases ha
 ·cases ha
theorem AZ (h:bg E R w β s a) {args:Array Operand} {t:TypeId} (ho:o.op=.call { callee:=.builtin .append,args:=args,argTypes:=#[t,t] }) {x:AV} {k2:LK} {mS:Nat} {ys:List AV}
  (hl:kZ E s.ae args.toList=some [x,.list k2 mS ys]) {i:TI} (hi:E.ti t=some i) {elem esz eb:Nat} {ag:Bool} {z:AV} (hk:i.k=.sl elem esz ag eb (some z)) (F1:ys=[]∨mS=esz) (ac1:1≤esz) (ED:1≤eb) (hz:z.cells.length=esz) (pY:z.aQ=true)
  {v:AV} {G':List GO} (ha:fu s.G elem esz eb x ys=some (true,v,G')) :
  bS E R w β s a o ((s.bW G').put o.dst (.v v)):=by
 have hr:=fA h hl
 generalize hv:args.toList.map a.eval=vs at hr
 have hx:=dN (E:=E) (w:=w) ho vs hv
 cases hr with
 | @cons _ cx _ _ h0 h1=>
 cases h1 with
 | @cons _ cy _ _ h1 h2=>
 cases h2
 obtain ⟨fQ,u,e1,e2,e3,e4,e5,e6⟩:=b6 E hi
 have uK:=hk
 rw [hk] at e5
 obtain ⟨ie,ue,rfl,f1,f2,f3,f4,f5,f6⟩:=dq e5
 have oV:(⟨[cx,cy]⟩:Array Value)=#[cx,cy]:=rfl
 obtain ⟨y0,us,y1,y2,y3,y4⟩:=e9 (esz:=esz) h1 F1
 refine lz h (cx:=cx) (cy:=cy) (t:=t) (u:=t) (fun hh=>?_) uK ED hz pY f1 f2 f3 f6 h0 (fun zc px=>?_) y0 y1 y2 y3 ha
 ·rw [hx]
  simp only [builtin,oV,Sem.run_bind,hh,Result.andThen_ok,Sem.run_pure]
 ·rcases y4 with ⟨rfl,rfl,ad,rfl,_⟩ | ⟨Vo,oy,CZ,rfl,YW,_,uV,yE⟩
  ·refine ⟨fun _ base len cap Ev=>?_,fun hh=>absurd hh (by simp),fun hh=>absurd hh (by simp),fun hh=>absurd hh (by simp)⟩
   cases ad <;> simp [Builtin.append_,run_underlying e2,run_sizeOf w f1,Builtin.lenOf,Builtin.firstCells,Ev,storeCells,loadCells,loadCellsFrom] <;>
    cases base <;> simp [storeCells]
  ·refine ⟨fun hn base len cap Ev=>?_,fun hh HN HO=>run_append_nil (P:=E.P) w t o.type elem ie zc e2 f1 px _ _ CZ us (by rw [y3,f2]) uV hh HN HO,fun _ b sLen kR zt A0 Li hg HN HO=>run_append_grow (P:=E.P) w t o.type elem ie zc e2 f1 px b sLen kR zt A0 Li _ _ CZ us (by rw [y3,f2]) uV hg HN HO,fun _ g sLen kR cur hg fS tH=>run_append_room (P:=E.P) w t o.type elem ie e2 f1 g sLen kR cur hg _ _ CZ us (by rw [y3,f2]) uV y2 fS tH⟩
   rw [hn]
   simp [Builtin.append_,run_underlying e2,run_sizeOf w f1,Builtin.lenOf,Builtin.firstCells,Ev,storeCells,loadCells,loadCellsFrom]
   cases base <;> simp [storeCells]
theorem uW:∀ (bs:List UInt8),aH R w (ar (bs.map qc)) (Lib.strCells ⟨⟨bs⟩⟩)
 | []=>.nil
 | b :: bs=>.cons (Rel.int .u8 b.toNat) (uW bs)
theorem tJ (h:bg E R w β s a) {args:Array Operand} {t u:TypeId} (ho:o.op=.call { callee:=.builtin .append,args:=args,argTypes:=#[t,u] }) {x:AV} {bs:List UInt8}
  (hl:kZ E s.ae args.toList=some [x,.str bs]) {i j:TI} (hi:E.ti t=some i) (hj:E.ti u=some j) {elem eb:Nat} {ag:Bool} {z:AV} (hk:i.k=.sl elem 1 ag eb (some z)) (UF:j.k=.str) (ED:1≤eb) (hz:z.cells.length=1) (pY:z.aQ=true)
  {v:AV} {G':List GO} (ha:fu s.G elem 1 eb x (bs.map qc)=some (true,v,G')) :
  bS E R w β s a o ((s.bW G').put o.dst (.v v)):=by
 have hr:=fA h hl
 generalize hv:args.toList.map a.eval=vs at hr
 have hx:=dN (E:=E) (w:=w) ho vs hv
 cases hr with
 | @cons _ cx _ _ h0 h1=>
 cases h1 with
 | @cons _ cy _ _ h1 h2=>
 cases h2
 obtain ⟨fQ,ud,e1,e2,e3,e4,e5,e6⟩:=b6 E hi
 obtain ⟨VA,ud',g1,g2,g3,g4,g5,g6⟩:=b6 E hj
 rw [UF] at g5
 have:=jJ g5
 subst this
 have uK:=hk
 rw [hk] at e5
 obtain ⟨ie,ue,rfl,f1,f2,f3,f4,f5,f6⟩:=dq e5
 cases h1
 have dV:(⟨⟨bs⟩⟩:ByteArray).size=bs.length:=rfl
 have hlen:(bs.map qc).length=bs.length:=List.length_map _
 have oV:(⟨[cx,.string ⟨⟨bs⟩⟩]⟩:Array Value)=#[cx,.string ⟨⟨bs⟩⟩]:=rfl
 have iG:(Lib.strCells ⟨⟨bs⟩⟩).length=bs.length:=Lib.strCells_length _
 refine lz h (cx:=cx) (cy:=.string ⟨⟨bs⟩⟩) (us:=Lib.strCells ⟨⟨bs⟩⟩) (t:=t) (u:=u) (fun hh=>?_) uK ED hz pY f1 f2 f3 f6 h0 (fun zc px=>?_) ?_ (uW bs) (Lib.strCells_oneCell _) (by rw [iG,hlen,Nat.mul_one]) ha
 ·rw [hx]
  simp only [builtin,oV,Sem.run_bind,hh,Result.andThen_ok,Sem.run_pure]
 ·rw [hlen]
  refine ⟨fun hn base len cap Ev=>?_,fun hh HN HO=>?_,fun _ b sLen kR zt A0 Li hg HN HO=>Lib.run_append_grow_string (P:=E.P) w t u o.type elem ie zc e2 g2 f1 px b sLen kR zt A0 Li ⟨⟨bs⟩⟩ hg HN HO,fun _ g sLen kR cur hg fS tH=>?_⟩
  ·have hb:bs=[]:=List.eq_nil_of_length_eq_zero hn
   subst hb
   have hz0:(⟨⟨[]⟩⟩:ByteArray).size=0:=rfl
   simp [hz0,Builtin.append_,run_underlying e2,run_underlying g2,run_sizeOf w f1,Builtin.lenOf,Builtin.firstCells,Ev,storeCells]
   cases base <;> simp [storeCells]
  ·rw [run_append_nil_string (P:=E.P) w t u o.type elem ie zc e2 g2 f1 px ⟨⟨bs⟩⟩ hh HN HO]
   simp [Lib.strCells,dV]
  ·have:=Lib.run_append_room_string (P:=E.P) w t u o.type elem ie e2 g2 f1 f2 g sLen kR cur hg ⟨⟨bs⟩⟩ fS (by rw [f2,Nat.mul_one,iG] at tH; exact tH)
   rw [this,f2,Nat.mul_one,iG]
   rfl
 ·intro e he
  obtain ⟨b,_,rfl⟩:=List.mem_map.1 he
  exact ⟨rfl,rfl,rfl⟩
end ops
end Go.Am
