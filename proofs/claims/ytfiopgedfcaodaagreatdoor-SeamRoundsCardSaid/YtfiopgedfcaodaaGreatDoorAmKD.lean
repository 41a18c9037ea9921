/- The abstract machine: what it does is what the model does: slices that grow and are written. -/
import Derived.Test.YtfiopgedfcaodaaGreatDoorAmKC
import Derived.Lib.AppendStr
set_option linter.all false
namespace Go.Am
open Go
section lists
theorem splice_mid {α:Type} (c us:List α) (n p sz off:Nat) (hn:n≤c.length) (hp:p+sz≤n) (ho:off+us.length≤sz) :
  (c.take (p+off)++us++c.drop (p+off+us.length)).take n =
   (c.take n).take p++((((c.take n).drop p).take sz).take off++us++(((c.take n).drop p).take sz).drop (off+us.length))++(c.take n).drop (p+sz):=by
 apply List.ext_getElem?
 intro j
 simp only [List.getElem?_append,List.getElem?_take,List.getElem?_drop,List.length_append,List.length_take,List.length_drop]
 by_cases h1:j < p
 ·rw [if_pos (by omega),if_pos (by omega),if_pos (by omega),if_pos (by omega),if_pos (by omega),if_pos (by omega),if_pos (by omega),if_pos (by omega)]
 ·by_cases h2:j < p+off
  ·rw [if_pos (by omega),if_pos (by omega),if_pos (by omega),if_pos (by omega),if_pos (by omega),if_neg (by omega),if_pos (by omega),if_pos (by omega),if_pos (by omega),if_pos (by omega),if_pos (by omega)]
   congr 1; omega
  ·by_cases h3:j < p+off+us.length
   ·rw [if_pos (by omega),if_pos (by omega),if_neg (by omega),if_pos (by omega),if_neg (by omega),if_pos (by omega),if_neg (by omega)]
    congr 1; omega
   ·by_cases h4:j < p+sz
    ·rw [if_pos (by omega),if_neg (by omega),if_pos (by omega),if_neg (by omega),if_neg (by omega),if_pos (by omega),if_pos (by omega)]
     congr 1; omega
    ·by_cases h5:j < n
     ·rw [if_pos (by omega),if_neg (by omega),if_neg (by omega),if_pos (by omega)]
      congr 1; omega
     ·rw [if_neg (by omega),if_neg (by omega),if_neg (by omega)]
theorem cellsL_get {sz:Nat}:∀ {es:List AV} {i:Nat} {e:AV},ElOkG sz es→nth es i=some e→((cellsL es).drop (i * sz)).take sz=e.cells
 | [],_,_,_,h=>by simp [nth] at h
 | x :: es,0,e,h,hi=>by
  simp only [nth] at hi
  cases hi
  have h1:=(h x (by simp)).1
  rw [Nat.zero_mul,List.drop_zero]
  simp only [cellsL]
  rw [← h1,List.take_left]
 | x :: es,i+1,e,h,hi=>by
  have h1:=(h x (by simp)).1
  have ih:=cellsL_get (i:=i) (fun y hy=>h y (by simp [hy])) (show nth es i=some e from hi)
  simp only [cellsL]
  rw [show (i+1) * sz=x.cells.length+i * sz by rw [h1,Nat.succ_mul]; omega,List.drop_append,List.drop_of_length_le (by omega),List.nil_append,Nat.add_sub_cancel_left]
  exact ih
theorem elOk_app {sz:Nat} {l r:List AV} (h:ElOkG sz l) (k:ElOkG sz r):ElOkG sz (l++r):=fun e he=>by
 rcases List.mem_append.1 he with he | he
 ·exact h e he
 ·exact k e he
theorem elOk_take {sz:Nat} {l:List AV} (n:Nat) (h:ElOkG sz l):ElOkG sz (l.take n):=fun e he=>h e (List.mem_of_mem_take he)
theorem elOk_drop {sz:Nat} {l:List AV} (n:Nat) (h:ElOkG sz l):ElOkG sz (l.drop n):=fun e he=>h e (List.mem_of_mem_drop he)
theorem cellsL_take {sz:Nat}:∀ {es:List AV} (i:Nat),ElOkG sz es→cellsL (es.take i)=(cellsL es).take (i * sz)
 | [],i,_=>by simp [cellsL]
 | e :: es,0,_=>by simp [cellsL]
 | e :: es,i+1,h=>by
  have h1:=(h e (by simp)).1
  simp only [List.take_succ_cons,cellsL]
  rw [cellsL_take i (fun y hy=>h y (by simp [hy])),show (i+1) * sz=e.cells.length+i * sz by rw [h1,Nat.succ_mul]; omega,List.take_append,Nat.add_sub_cancel_left,List.take_of_length_le (by omega:e.cells.length≤e.cells.length+i * sz)]
theorem cellsL_drop {sz:Nat}:∀ {es:List AV} (i:Nat),ElOkG sz es→cellsL (es.drop i)=(cellsL es).drop (i * sz)
 | [],i,_=>by simp [cellsL]
 | e :: es,0,_=>by simp [cellsL]
 | e :: es,i+1,h=>by
  have h1:=(h e (by simp)).1
  simp only [List.drop_succ_cons,cellsL]
  rw [cellsL_drop i (fun y hy=>h y (by simp [hy])),show (i+1) * sz=e.cells.length+i * sz by rw [h1,Nat.succ_mul]; omega,List.drop_append,List.drop_of_length_le (by omega:e.cells.length≤e.cells.length+i * sz),List.nil_append,Nat.add_sub_cancel_left]
theorem length_cellsG {sz:Nat} {es:List AV} (h:ElOkG sz es):(cellsL es).length=es.length * sz:=by
 induction es with
 | nil=>simp [cellsL]
 | cons e es ih=>
  have h1:=(h e (by simp)).1
  have:=ih (fun x hx=>h x (by simp [hx]))
  simp only [cellsL,List.length_append,this,h1,List.length_cons,Nat.add_mul]
  omega
theorem elOk_setNG {sz:Nat} {es:List AV} {i:Nat} {v:AV} (h:ElOkG sz es) (h1:v.cells.length=sz) (h2:v.notTup=true):ElOkG sz (setN es i v):=fun e he=>by
 rw [setN_eq] at he
 rcases List.mem_or_eq_of_mem_set he with he | rfl
 ·exact h e he
 ·exact ⟨h1,h2⟩
theorem setN_cellsG {sz:Nat} {es:List AV} {i:Nat} {v:AV} (h:ElOkG sz es) (hi:i < es.length) (hv:v.cells.length=sz):cellsL (setN es i v)=splice (cellsL es) (i * sz) v.cells:=by
 have hin:i * sz+sz≤es.length * sz:=by
  rw [← Nat.succ_mul]
  exact Nat.mul_le_mul_right _ hi
 rw [setN_eq,List.set_eq_take_append_cons_drop,if_pos hi,splice_eq _ _ _ (by rw [hv,length_cellsG h]; exact hin),cellsL_append,cellsL_take i h,hv]
 simp only [cellsL]
 rw [cellsL_drop (i+1) h,Nat.succ_mul,List.append_assoc]
end lists
section ops
variable {E:Env} {R:Realm} {w:World} {β:Nat→Nat} {s:St} {a:Act} {o:Oper}
theorem gro_tok {G:List GO} (h:RepG E R w G) {id:Nat} {es:List AV} {sz:Nat} {el:TypeId} {ro:RO} (hid:nth G id=some (.gro es sz el)) (hro:nth R.obj id=some ro) (hn:ro≠.nil0) :
  ∃ b c cur vs,ro=.tok es.length b c∧ElOkG sz es∧w.heap[b]?=some (.cells cur el (0,0))∧es.length≤c∧c≤maxLen∧cur.size=c * sz∧(∀ o,¬ R.I b o)∧RelL R w (cellsL es) vs∧(∀ v∈vs,v.oneCell'=true)∧cur.toList.take (es.length * sz)=vs:=by
 have hr:=h.obj id _ _ hid hro
 cases ro with
 | none=>exact hr.elim
 | nil0=>exact absurd rfl hn
 | blk b=>exact hr.elim
 | fam _=>exact hr.elim
 | tok f b c=>
  obtain ⟨rfl,h1,cur,vs,h2,h3,h4,h5,h6,h7,h8,h9⟩:=hr
  exact ⟨b,c,cur,vs,rfl,h1,h2,h3,h4,h5,h6,h7,h8,h9⟩
theorem groAt_some {id f i sz:Nat} {t:TypeId} {v:AV} (h:groAt E s id f i sz t=some (true,v)) :
  ∃ es el e,nth s.G id=some (.gro es sz el)∧f=es.length∧nth es i=some e∧DecOk e v:=by
 unfold groAt at h
 split at h
 ·rename_i es sz' el hid
  split at h
  ·rename_i p hp
   split at h
   ·rename_i hsz
    have hsz:=Nat.eq_of_beq_eq_true hsz
    subst hsz
    injection h with h
    injection h with h1 h2
    simp only [Bool.and_eq_true,decide_eq_true_eq] at h1
    obtain ⟨⟨h3,h4⟩,h5⟩:=h1
    obtain ⟨e,he⟩:∃ e,nth es i=some e:=⟨es[i],by rw [nth_eq]; exact List.getElem?_eq_getElem h4⟩
    have hd:nthD es i=e:=by simp [nthD,he]
    rw [hd] at h5 h2
    rw [← h2]
    exact ⟨es,el,e,hid,h3,he,p.fits_ok h5⟩
   ·cases h
  ·split at h
   ·rename_i hsz
    have hsz:=Nat.eq_of_beq_eq_true hsz
    subst hsz
    injection h with h
    injection h with h1 h2
    simp only [Bool.and_eq_true,decide_eq_true_eq] at h1
    obtain ⟨h3,h4⟩:=h1
    obtain ⟨e,he⟩:∃ e,nth es i=some e:=⟨es[i],by rw [nth_eq]; exact List.getElem?_eq_getElem h4⟩
    have hd:nthD es i=e:=by simp [nthD,he]
    rw [hd] at h2
    rw [← h2]
    exact ⟨es,el,e,hid,h3,he,DecOk.refl e⟩
   ·cases h
 ·cases h
theorem nth_mem {α:Type} {l:List α} {i:Nat} {x:α} (h:nth l i=some x):x∈l:=by
 rw [nth_eq] at h
 exact List.mem_of_getElem? h
theorem mul_in {i n sz:Nat} (h:i < n):i * sz+sz≤n * sz:=by
 rw [← Nat.succ_mul]
 exact Nat.mul_le_mul_right _ h
theorem exec_loadG (h:Rep E R w β s a) (t:TypeId) (x:Operand) (ho:o.op=.load t x) {v:AV} (hl:loadG E s t (evO E s.slots x)=some (true,v)) :
  Done E R w β s a o (s.put o.dst (.v v)):=by
 have rx:=evO_rel h x
 unfold loadG at hl
 split at hl
 ·rename_i id f i off sz ty hx
  rw [hx] at rx
  split at hl
  ·rename_i ti c ve hti hg
   split at hl
   ·rename_i l hs
    split at hl
    ·rename_i r hm
     injection hl with hl
     injection hl with h1 h2
     subst h1; subst h2
     obtain ⟨es,el,e,hid,hfe,he,hdec⟩:=groAt_some hg
     have rx':Rel R w (.gp id f i off sz ty) (a.eval x):=rx
     generalize hxv:a.eval x=xv at rx'
     cases rx' with
     | @gp _ _ _ _ _ b o' _ ro hro hok=>
     obtain ⟨b',c',cur,vs,rfl,g1,g2,g3,g4,g5,g6,g7,g8,g9⟩:=gro_tok h.g hid hro (fun k=>by subst k; exact hok)
     obtain ⟨rfl,rfl⟩:=hok.2 hfe
     have hem:=g1 e (nth_mem he)
     have hrel:RelL R w e.cells ((vs.drop (i * sz)).take sz):=by
      rw [← cellsL_get g1 he]
      exact (g7.drop _).take _
     have hw:=(hdec.cells hem.2).rel hrel
     obtain ⟨k1,k2,k3,k4⟩:=seg_rel hs hw (fun y hy=>g8 y (List.mem_of_mem_drop (List.mem_of_mem_take hy)))
     obtain ⟨c,hc,hrr⟩:=run_loadVar (E:=E) hti (b:=b) (off:=i * sz+off) k1 k2 k3 (fun j y hy=>by
      have h1:=k4 j y hy
      rw [List.getElem?_take] at h1
      split at h1
      ·rw [List.getElem?_drop,← g9,List.getElem?_take] at h1
       split at h1
       ·rw [cell_of_row w b _ cur el (0,0) g2,Nat.add_assoc,← Array.getElem?_toList]
        exact h1
       ·cases h1
      ·cases h1) hm
     refine done_value h (c:=c) ?_ hrr
     simp [execOp,ho,Instr.loadAt,hxv,Instr.sureAddr,hc]
    ·cases hl
   ·cases hl
  ·cases hl
 ·split at hl
  ·rename_i v' hv
   injection hl with hl
   injection hl with h1 h2
   subst h2
   exact exec_load h t x ho hv
  ·cases hl
theorem Rep.setGro (h:Rep E R w β s a) {id f b c:Nat} {es es':List AV} {sz:Nat} {el:TypeId} {cur cur':Array Value} {vs':List Value} (hid:nth s.G id=some (.gro es sz el)) (hro:nth R.obj id=some (.tok f b c))
  (hb:w.heap[b]?=some (.cells cur el (0,0))) (hlen:es'.length=es.length) (hel:ElOkG sz es') (hsz:cur'.size=cur.size) (hr:RelL R w (cellsL es') vs') (h1:∀ v∈vs',v.oneCell'=true) (ht:cur'.toList.take (f * sz)=vs') :
  Rep E R (w.setRow b cur') β (s.inG (setN s.G id (.gro es' sz el))) a∧Step R w β s.boxes R (w.setRow b cur') β s.boxes:=by
 obtain ⟨q0,q1,cur0,vs0,p1,p2,p3,p4,p5,p6,p7,p8⟩:=h.g.obj id _ _ hid hro
 rw [hb] at p1
 cases p1
 have hex:=ext_setRow (R:=R) (w:=w) p5 cur'
 have hbox:∀ k cs,lkB s.boxes k=some cs→β k≠b:=fun k cs hk e=>(h.b.box k cs hk).2.2 ⟨id,_,hro,by rw [e]; rfl⟩
 refine ⟨⟨⟨by simp [St.inG,h.g.len],fun id' go ro hg hr'=>?_,h.g.inj,fun b' o' hi'=>by have:=h.g.wf b' o' hi'; simp; omega,fun g cs' hg=>(h.g.glob g cs' hg).mono hex,h.g.lo⟩,?_,h.t.mono hex,h.n,h.d⟩,?_⟩
 ·rcases nth_setN hg with ⟨rfl,rfl,_⟩ | ⟨hne,hg'⟩
  ·rw [hro] at hr'
   cases hr'
   exact ⟨by rw [hlen]; exact q0,hel,cur',vs',setRow_heap w _ _ _ _ (0,0) hb,p2,p3,by rw [hsz]; exact p4,p5,hr.mono hex,h1,ht⟩
  ·refine (h.g.obj id' go ro hg' hr').mono hex (fun b' hb'=>setRow_other w _ b' _ (fun e=>hne ?_)) (fun _ _ _ hi=>hi)
   subst e
   exact h.g.inj id id' _ _ b' hro hr' rfl hb'
 ·exact h.b.keep hex (fun k cs' hk'=>setRow_other w _ _ _ (hbox k cs' hk')) (fun _ _ _ _ hi=>hi) (fun _ _ _ hl=>hl)
 ·have hown:Own R β s.boxes b:=.inl ⟨id,_,hro,rfl⟩
  exact ⟨hex,rfl,rfl,rfl,by simp,fun b' _ hn=>setRow_other w _ b' _ (fun e=>hn (e ▸ hown)),fun _ _ hb=>hb,fun b o hi _ _=>hi⟩
theorem Rep.setGroE (h:Rep E R w β s a) {id b c i off:Nat} {es:List AV} {sz:Nat} {el:TypeId} {cur:Array Value} {vs us:List Value} {e':AV} (hid:nth s.G id=some (.gro es sz el)) (hro:nth R.obj id=some (.tok es.length b c))
  (hb:w.heap[b]?=some (.cells cur el (0,0))) (hel:ElOkG sz es) (hle:es.length≤c) (hcs:cur.size=c * sz) (hr:RelL R w (cellsL es) vs) (h1:∀ v∈vs,v.oneCell'=true) (ht:cur.toList.take (es.length * sz)=vs) (hi:i < es.length)
  (h2:∀ v∈us,v.oneCell'=true) (hoff:off+us.length≤sz) (hc':e'.cells.length=sz) (hn':e'.notTup=true) (hre:RelL R w e'.cells (((vs.drop (i * sz)).take sz).take off++us++((vs.drop (i * sz)).take sz).drop (off+us.length))) :
  Rep E R (w.setRow b ⟨cur.toList.take (i * sz+off)++us++cur.toList.drop (i * sz+off+us.length)⟩) β (s.inG (setN s.G id (.gro (setN es i e') sz el))) a ∧
   Step R w β s.boxes R (w.setRow b ⟨cur.toList.take (i * sz+off)++us++cur.toList.drop (i * sz+off+us.length)⟩) β s.boxes:=by
 have hin:=mul_in (sz:=sz) hi
 have hln:es.length * sz≤cur.toList.length:=by
  rw [show cur.toList.length=cur.size from Array.length_toList,hcs]
  exact Nat.mul_le_mul_right _ hle
 have hvl:vs.length=es.length * sz:=by rw [← hr.length,length_cellsG hel]
 refine h.setGro hid hro hb (length_setN _ _ _) (elOk_setNG hel hc' hn') ?_ (vs':=vs.take (i * sz)++(((vs.drop (i * sz)).take sz).take off++us++((vs.drop (i * sz)).take sz).drop (off+us.length))++vs.drop (i * sz+sz)) ?_ ?_ ?_
 ·rw [List.size_toArray,← Array.length_toList]
  simp only [List.length_append,List.length_take,List.length_drop]
  omega
 ·rw [setN_cellsG hel hi hc',splice_eq _ _ _ (by rw [hc',length_cellsG hel]; exact hin),hc']
  exact ((hr.take _).append hre).append (hr.drop _)
 ·intro v hv
  simp only [List.mem_append] at hv
  rcases hv with (hv | ((hv | hv) | hv)) | hv
  ·exact h1 v (List.mem_of_mem_take hv)
  ·exact h1 v (List.mem_of_mem_drop (List.mem_of_mem_take (List.mem_of_mem_take hv)))
  ·exact h2 v hv
  ·exact h1 v (List.mem_of_mem_drop (List.mem_of_mem_take (List.mem_of_mem_drop hv)))
  ·exact h1 v (List.mem_of_mem_drop hv)
 ·rw [List.toList_toArray,splice_mid _ _ _ _ _ _ hln hin hoff,ht]
theorem Rep.setGroS (h:Rep E R w β s a) {id b c off:Nat} {es ns:List AV} {sz:Nat} {el:TypeId} {cur:Array Value} {vs us:List Value} (hid:nth s.G id=some (.gro es sz el)) (hro:nth R.obj id=some (.tok es.length b c))
  (hb:w.heap[b]?=some (.cells cur el (0,0))) (hel:ElOkG sz es) (hle:es.length≤c) (hcs:cur.size=c * sz) (hr:RelL R w (cellsL es) vs) (h1:∀ v∈vs,v.oneCell'=true) (ht:cur.toList.take (es.length * sz)=vs)
  (hoff:off+ns.length≤es.length) (hns:ElOkG sz ns) (hu:RelL R w (cellsL ns) us) (h2:∀ v∈us,v.oneCell'=true) :
  Rep E R (w.setRow b ⟨cur.toList.take (off * sz)++us++cur.toList.drop (off * sz+us.length)⟩) β (s.inG (setN s.G id (.gro (splice es off ns) sz el))) a ∧
   Step R w β s.boxes R (w.setRow b ⟨cur.toList.take (off * sz)++us++cur.toList.drop (off * sz+us.length)⟩) β s.boxes:=by
 have hul:us.length=ns.length * sz:=by rw [← hu.length,length_cellsG hns]
 have hin:off * sz+ns.length * sz≤es.length * sz:=by rw [← Nat.add_mul]; exact Nat.mul_le_mul_right _ hoff
 have hln:es.length * sz≤cur.toList.length:=by
  rw [show cur.toList.length=cur.size from Array.length_toList,hcs]
  exact Nat.mul_le_mul_right _ hle
 have hvl:vs.length=es.length * sz:=by rw [← hr.length,length_cellsG hel]
 have hm:=splice_mid cur.toList us (es.length * sz) (off * sz) (ns.length * sz) 0 hln hin (by omega)
 simp only [Nat.add_zero,List.take_zero,List.nil_append,Nat.zero_add] at hm
 rw [hul,ht,show List.drop (ns.length * sz) (List.take (ns.length * sz) (List.drop (off * sz) vs))=[] from List.drop_of_length_le (by rw [List.length_take]; exact Nat.min_le_left _ _),List.append_nil] at hm
 rw [splice_eq _ _ _ hoff]
 refine h.setGro hid hro hb (by simp; omega) (elOk_app (elOk_app (elOk_take _ hel) hns) (elOk_drop _ hel)) ?_ (vs':=vs.take (off * sz)++us++vs.drop (off * sz+ns.length * sz)) ?_ ?_ ?_
 ·rw [List.size_toArray,← Array.length_toList]
  simp only [List.length_append,List.length_take,List.length_drop,hul]
  omega
 ·rw [cellsL_append,cellsL_append,cellsL_take _ hel,cellsL_drop _ hel,Nat.add_mul]
  exact ((hr.take _).append hu).append (hr.drop _)
 ·intro v hv
  simp only [List.mem_append] at hv
  rcases hv with (hv | hv) | hv
  ·exact h1 v (List.mem_of_mem_take hv)
  ·exact h2 v hv
  ·exact h1 v (List.mem_of_mem_drop hv)
 ·rw [List.toList_toArray,hul]
  exact hm
theorem exec_storeG (h:Rep E R w β s a) (t:TypeId) (p x:Operand) (ho:o.op=.store t p x) (hd:o.dst=none) {s':St} (hs:storeG E s t (evO E s.slots p) (evO E s.slots x)=some (true,s')) :
  Done E R w β s a o s':=by
 have rp:=evO_rel h p
 have rx:=evO_rel h x
 unfold storeG at hs
 split at hs
 ·rename_i id f i off sz ty hpe
  rw [hpe] at rp
  have rp':Rel R w (.gp id f i off sz ty) (a.eval p):=rp
  generalize hpv:a.eval p=pv at rp'
  split at hs
  ·rename_i ti v es sz' el hti hx hid
   rw [hx] at rx
   split at hs
   ·rename_i hcond
    simp only [Bool.and_eq_true] at hcond
    obtain ⟨⟨hnt,hlen⟩,hszz⟩:=hcond
    have hlen:=Nat.eq_of_beq_eq_true hlen
    have hszz:=Nat.eq_of_beq_eq_true hszz
    subst hszz
    have rxw:Rel R w v (a.eval x):=rx
    obtain ⟨c1,c2⟩:=Rel.cells rxw hnt
    have hlv:v.cells.length=(a.eval x).cells.toList.length:=c1.length
    cases rp' with
    | @gp _ _ _ _ _ b o' _ ro hro hok=>
    obtain ⟨b',c',cur,vs,rfl,g1,g2,g3,g4,g5,g6,g7,g8,g9⟩:=gro_tok h.g hid hro (fun k=>by subst k; exact hok)
    have hvl:vs.length=es.length * sz:=by rw [← g7.length,length_cellsG g1]
    have hln:es.length * sz≤cur.toList.length:=by
     rw [show cur.toList.length=cur.size from Array.length_toList,g5]
     exact Nat.mul_le_mul_right _ g3
    split at hs
    ·rename_i hw
     rw [Bool.and_eq_true] at hw
     have hoff:=Nat.eq_of_beq_eq_true hw.1
     have hts:=Nat.eq_of_beq_eq_true hw.2
     subst hoff
     injection hs with hs
     injection hs with h1 h2
     rw [Bool.and_eq_true,decide_eq_true_eq,decide_eq_true_eq] at h1
     subst h2
     obtain ⟨rfl,rfl⟩:=hok.2 h1.1
     have hin:=mul_in (sz:=sz) h1.2
     have hrun:=run_storeVar (E:=E) (w:=w) hti (b:=b) (vs:=cur.toList) (off:=i * sz+0) (c:=a.eval x) g2 (by rw [← hlv]; exact hlen) (by rw [← hlv]; omega) c2
     obtain ⟨r1,r2⟩:=h.setGroE (us:=(a.eval x).cells.toList) (off:=0) (i:=i) (e':=v) hid hro g2 g1 g3 g5 g7 g8 g9 h1.2 c2 (by rw [← hlv]; omega) (by omega) hnt (by
      rw [List.take_zero,List.nil_append,Nat.zero_add,List.drop_of_length_le (by rw [List.length_take,← hlv]; omega),List.append_nil]
      exact c1)
     simp only [Nat.add_zero] at hpv hrun r1 r2
     refine ⟨.skip,undef,_,R,β,?_,.inr ⟨rfl,rfl⟩,by rw [hd]; exact r1,r2⟩
     simp [execOp,ho,Instr.storeAt,hpv,Instr.sureAddr,hrun]
    ·split at hs
     ·rename_i cc cs hg
      split at hs
      ·rename_i hw
       simp only [Bool.and_eq_true] at hw
       obtain ⟨hle,hcsz⟩:=hw
       have hle:=Nat.le_of_ble_eq_true hle
       have hcsz:=Nat.eq_of_beq_eq_true hcsz
       injection hs with hs
       injection hs with h1 h2
       subst h1; subst h2
       obtain ⟨es0,el0,e,hid0,hfe,he,hdec⟩:=groAt_some hg
       rw [hid] at hid0
       cases hid0
       obtain ⟨rfl,rfl⟩:=hok.2 hfe
       have hi:i < es.length:=nth_lt he
       have hin:=mul_in (sz:=sz) hi
       have hem:=g1 e (nth_mem he)
       have hrel:RelL R w e.cells ((vs.drop (i * sz)).take sz):=by
        rw [← cellsL_get g1 he]
        exact (g7.drop _).take _
       have hw:=(hdec.cells hem.2).rel hrel
       have hw':RelL R w cs ((vs.drop (i * sz)).take sz):=hw
       have hrun:=run_storeVar (E:=E) (w:=w) hti (b:=b) (vs:=cur.toList) (off:=i * sz+off) (c:=a.eval x) g2 (by rw [← hlv]; exact hlen) (by rw [← hlv]; omega) c2
       have hsp:off+v.cells.length≤cs.length:=by omega
       obtain ⟨r1,r2⟩:=h.setGroE (us:=(a.eval x).cells.toList) (off:=off) (i:=i) (e':=.agg (splice cs off v.cells)) hid hro g2 g1 g3 g5 g7 g8 g9 hi c2 (by rw [← hlv]; omega) (by show (splice cs off v.cells).length=sz; rw [length_splice _ _ _ hsp]; exact hcsz) rfl (by
        show RelL R w (splice cs off v.cells) _
        rw [splice_eq _ _ _ hsp,hlv]
        exact ((hw'.take _).append c1).append (hw'.drop _))
       refine ⟨.skip,undef,_,R,β,?_,.inr ⟨rfl,rfl⟩,by rw [hd]; exact r1,r2⟩
       simp [execOp,ho,Instr.storeAt,hpv,Instr.sureAddr,hrun]
      ·cases hs
     ·cases hs
   ·cases hs
  ·cases hs
 ·split at hs
  ·rename_i s'' hv
   injection hs with hs
   injection hs with h1 h2
   subst h2
   exact exec_store h t p x ho hd hv
  ·cases hs
def Realm.reset (R:Realm) (id:Nat) (ro:RO):Realm:=⟨R.I,setN R.obj id ro⟩
theorem live_reset {id g:Nat} {r0 ro:RO} (hid:nth R.obj id=some r0) (hro:∀ b,ro.has b→b=g) {b:Nat} (hl:Live (R.reset id ro) b):b=g∨Live R b:=by
 obtain ⟨i,r,h1,h2⟩:=hl
 rcases setN_inj_ro hid h1 with ⟨_,rfl⟩ | ⟨_,h1⟩
 ·exact .inl (hro b h2)
 ·exact .inr ⟨i,r,h1,h2⟩
theorem Rep.groSet (h:Rep E R w β s a) {cur:Array Value} {vs:List Value} {es es':List AV} {elem:TypeId} {sz cap id:Nat} {r0:RO} (hg:nth s.G id=some (.gro es sz elem)) (hid:nth R.obj id=some r0) (hf:∀ b c,RoLe r0 (.tok es'.length b c))
  (hn:es'.length≤cap) (hm:cap≤maxLen) (hs:cur.size=cap * sz) (hel:ElOkG sz es') (hr:RelL R w (cellsL es') vs) (h1:∀ v∈vs,v.oneCell'=true) (ht:cur.toList.take (es'.length * sz)=vs) :
  Rep E (R.reset id (.tok es'.length w.heap.size cap)) (w.drew.alloc (.cells cur elem)) β (s.inG (setN s.G id (.gro es' sz elem))) a ∧
  Step R w β s.boxes (R.reset id (.tok es'.length w.heap.size cap)) (w.drew.alloc (.cells cur elem)) β s.boxes:=by
 have e:Ext R w (R.reset id (.tok es'.length w.heap.size cap)) (w.drew.alloc (.cells cur elem)):=
  ⟨fun _ _ h=>h,fun b o hi=>cell_of_block (heap_alloc_old w.drew _ b (h.g.wf b o hi)) o,fun i r hr=>by
   by_cases ei:id=i
   ·subst ei
    rw [hid] at hr
    cases hr
    exact ⟨_,nth_setN_self hid,hf _ _⟩
   ·exact ⟨r,by rw [Realm.reset,nth_setN_ne ei]; exact hr,RoLe.refl r⟩,.old fun b hb=>heap_alloc_old w.drew _ b hb⟩
 have old:∀ b,b < w.heap.size→(w.drew.alloc (.cells cur elem)).heap[b]?=w.heap[b]?:=fun b hb=>heap_alloc_old w.drew _ b hb
 have new:(w.drew.alloc (.cells cur elem)).heap[w.heap.size]?=some (.cells cur elem (0,0)):=heap_alloc_new w.drew _
 have live:∀ b,b < w.heap.size→Live (R.reset id (.tok es'.length w.heap.size cap)) b→Live R b:=fun b hb hl=>by
  rcases live_reset (g:=w.heap.size) (ro:=.tok es'.length w.heap.size cap) hid (fun _ h=>h) hl with rfl | hl
  ·omega
  ·exact hl
 refine ⟨⟨⟨by simp [St.inG,Realm.reset,h.g.len],fun i gg r h1' h2=>?_,fun i j ri rj b h1' h2 b1 b2=>?_,fun b o hi=>?_,fun g cs hg=>(h.g.glob g cs hg).mono e,Nat.le_succ_of_le h.g.lo⟩,?_,h.t.mono e,h.n,h.d.mono e⟩,?_⟩
 ·rcases setN_inj_ro hid h2 with ⟨rfl,rfl⟩ | ⟨hne,h2⟩
  ·simp only [St.inG] at h1'
   rw [nth_setN_self hg] at h1'
   cases h1'
   exact ⟨rfl,hel,cur,vs,new,hn,hm,hs,fun o hi=>by have:=h.g.wf _ _ hi; omega,hr.mono e,h1,ht⟩
  ·simp only [St.inG] at h1'
   rw [nth_setN_ne (Ne.symm hne)] at h1'
   exact (h.g.obj i gg r h1' h2).mono e (fun b hb=>old b (h.g.live_lt ⟨i,r,h2,hb⟩)) (fun b o _ hi=>hi)
 ·rcases setN_inj_ro hid h1' with ⟨g3,e1⟩ | ⟨g3,g1⟩
  ·rcases setN_inj_ro hid h2 with ⟨g4,e2⟩ | ⟨g4,g2⟩
   ·omega
   ·have:=h.g.live_lt ⟨j,rj,g2,b2⟩
    rw [e1] at b1
    simp [RO.has] at b1
    omega
  ·rcases setN_inj_ro hid h2 with ⟨g4,e2⟩ | ⟨g4,g2⟩
   ·have:=h.g.live_lt ⟨i,ri,g1,b1⟩
    rw [e2] at b2
    simp [RO.has] at b2
    omega
   ·exact h.g.inj i j ri rj b g1 g2 b1 b2
 ·have:=h.g.wf b o hi
  simp
  omega
 ·exact h.b.keep e (fun k cs hk=>old _ (h.own_lt (.inr ⟨k,cs,hk,rfl⟩))) (fun k cs o hk hi=>hi) (fun k cs hk hl=>live _ (h.own_lt (.inr ⟨k,cs,hk,rfl⟩)) hl)
 ·refine ⟨e,rfl,rfl,rfl,by simp,fun b hb _=>old b hb,fun b hb ho=>?_,fun b o hi hb _=>hi⟩
  rcases ho with ho | ho
  ·exact .inl (live b hb ho)
  ·exact .inr ho
theorem Rep.groRoom (h:Rep E R w β s a) {cur cur2:Array Value} {vs:List Value} {es es':List AV} {elem:TypeId} {sz id g c:Nat} (hg:nth s.G id=some (.gro es sz elem)) (hid:nth R.obj id=some (.tok es.length g c)) (hlt:es.length < es'.length) (hn:es'.length≤c)
  (hcur:w.heap[g]?=some (.cells cur elem (0,0))) (hs:cur2.size=cur.size) (hel:ElOkG sz es') (hr:RelL R w (cellsL es') vs) (h1:∀ v∈vs,v.oneCell'=true) (ht:cur2.toList.take (es'.length * sz)=vs) :
  Rep E (R.reset id (.tok es'.length g c)) (w.setRow g cur2) β (s.inG (setN s.G id (.gro es' sz elem))) a ∧
  Step R w β s.boxes (R.reset id (.tok es'.length g c)) (w.setRow g cur2) β s.boxes:=by
 obtain ⟨q0,q1,cur0,vs0,p1,p2,p3,p4,p5,p6,p7,p8⟩:=h.g.obj id _ _ hg hid
 rw [hcur] at p1
 cases p1
 have hgl:Live R g:=⟨id,_,hid,rfl⟩
 have old:∀ b,b≠g→(w.setRow g cur2).heap[b]?=w.heap[b]?:=fun b hb=>setRow_other w g b cur2 hb
 have new:(w.setRow g cur2).heap[g]?=some (.cells cur2 elem (0,0)):=setRow_heap w g cur cur2 elem (0,0) hcur
 have e:Ext R w (R.reset id (.tok es'.length g c)) (w.setRow g cur2):=by
  have e0:=ext_setRow (R:=R) (w:=w) p5 cur2
  refine ⟨fun _ _ h=>h,e0.cell,fun i r hr=>?_,e0.lp⟩
  by_cases ei:id=i
  ·subst ei
   rw [hid] at hr
   cases hr
   exact ⟨_,nth_setN_self hid,by omega,fun e=>by omega⟩
  ·exact ⟨r,by rw [Realm.reset,nth_setN_ne ei]; exact hr,RoLe.refl r⟩
 have live:∀ b,Live (R.reset id (.tok es'.length g c)) b→Live R b:=fun b hl=>by
  rcases live_reset (g:=g) (ro:=.tok es'.length g c) hid (fun _ h=>h) hl with rfl | hl
  ·exact hgl
  ·exact hl
 have hboxne:∀ k cs,lkB s.boxes k=some cs→β k≠g:=fun k cs hk eq=>(h.b.box k cs hk).2.2 (eq ▸ hgl)
 refine ⟨⟨⟨by simp [St.inG,Realm.reset,h.g.len],fun i gg r h1' h2=>?_,fun i j ri rj b h1' h2 b1 b2=>?_,fun b o hi=>?_,fun g cs hg=>(h.g.glob g cs hg).mono e,h.g.lo⟩,?_,h.t.mono e,h.n,h.d.mono e⟩,?_⟩
 ·rcases setN_inj_ro hid h2 with ⟨rfl,rfl⟩ | ⟨hne,h2⟩
  ·simp only [St.inG] at h1'
   rw [nth_setN_self hg] at h1'
   cases h1'
   exact ⟨rfl,hel,cur2,vs,new,hn,p3,by rw [hs]; exact p4,p5,hr.mono e,h1,ht⟩
  ·simp only [St.inG] at h1'
   rw [nth_setN_ne (Ne.symm hne)] at h1'
   have hbg:∀ b,r.has b→b≠g:=fun b hb eq=>hne (h.g.inj i id _ _ b h2 hid hb (by rw [eq]; rfl))
   exact (h.g.obj i gg r h1' h2).mono e (fun b hb=>old b (hbg b hb)) (fun b o hb hi=>hi)
 ·rcases setN_inj_ro hid h1' with ⟨g3,e1⟩ | ⟨g3,g1⟩
  ·rcases setN_inj_ro hid h2 with ⟨g4,e2⟩ | ⟨g4,g2⟩
   ·omega
   ·rw [e1] at b1
    exact g3.trans (h.g.inj id j _ _ b hid g2 b1 b2)
  ·rcases setN_inj_ro hid h2 with ⟨g4,e2⟩ | ⟨g4,g2⟩
   ·rw [e2] at b2
    exact (h.g.inj i id _ _ b g1 hid b1 b2).trans g4.symm
   ·exact h.g.inj i j ri rj b g1 g2 b1 b2
 ·have:=h.g.wf b o hi
  simpa using this
 ·exact h.b.keep e (fun k cs hk=>old _ (hboxne k cs hk)) (fun k cs o hk hi=>hi) (fun k cs hk hl=>live _ hl)
 ·refine ⟨e,rfl,rfl,rfl,by simp,fun b hb hno=>old b (fun eq=>hno (.inl (eq ▸ hgl))),fun b hb ho=>?_,fun b o hi hb hno=>hi⟩
  rcases ho with ho | ho
  ·exact .inl (live b ho)
  ·exact .inr ho
theorem Rep.groAdd (h:Rep E R w β s a) {cur:Array Value} {vs:List Value} {es:List AV} {elem:TypeId} {sz cap:Nat} (hn:es.length≤cap) (hm:cap≤maxLen) (hs:cur.size=cap * sz) (hel:ElOkG sz es) (hr:RelL R w (cellsL es) vs) (h1:∀ v∈vs,v.oneCell'=true) (ht:cur.toList.take (es.length * sz)=vs) :
  Rep E (R.add (.tok es.length w.heap.size cap)) (w.alloc (.cells cur elem)) β (s.addG (.gro es sz elem)) a:=
 h.addObj (.cells cur elem) (.gro es sz elem) (.tok es.length w.heap.size cap) (by exact fun _ h=>h)
  ⟨rfl,hel,cur,vs,heap_alloc_new w _,hn,hm,hs,fun o hi=>by have:=h.g.wf _ _ hi; omega,hr.mono (ext_add h.g.wf _ _),h1,ht⟩
theorem exec_makeSliceG (h:Rep E R w β s a) (t:TypeId) (x y:Operand) (ho:o.op=.makeSlice t x y) {i:TI} (hi:E.ti t=some i) {k k':IntKind} {n m:Int} (hx:evO E s.slots x=.v (.int k n)) (hy:evO E s.slots y=.v (.int k' m))
  {elem esz by_:Nat} {ag:Bool} {z:AV} (hk:i.k=.sl elem esz ag by_ (some z)) (hz:z.cells.length=esz) (hz1:1≤esz) (hzn:z.notTup=true) (hzc:z.closed=true) (hc:0≤n∧n≤m∧m≤140737488355328∧m * by_≤140737488355328) :
  Done E R w β s a o ((s.addG (.gro (List.replicate n.toNat z) esz elem)).put o.dst (.v (.gsl s.G.length n.toNat 0 esz n.toNat))):=by
 obtain ⟨us,z1,z2,hrun⟩:=makeSlice_run h t x y ho hi hx hy hk hz hz1 hzn hc
 have hnm:n.toNat≤m.toNat:=by omega
 have hel:=(elOk_replicate (n:=m.toNat) hz hzn hzc).g
 have hul:us.length=m.toNat * esz:=by rw [← z1.length,length_cellsG hel,List.length_replicate]
 have hln:(List.replicate n.toNat z).length=n.toNat:=List.length_replicate
 have htk:(List.replicate m.toNat z).take n.toNat=List.replicate n.toNat z:=by rw [List.take_replicate,Nat.min_eq_left hnm]
 have hr:RelL R w (cellsL (List.replicate n.toNat z)) (us.take (n.toNat * esz)):=by
  rw [← htk,cellsL_take _ hel]
  exact z1.take _
 have r1:=h.groAdd (cur:=⟨us⟩) (vs:=us.take (n.toNat * esz)) (es:=List.replicate n.toNat z) (elem:=elem) (cap:=m.toNat) (by rw [hln]; exact hnm) (by unfold maxLen; omega) (by simpa using hul) (elOk_replicate hz hzn hzc).g hr (fun v hv=>z2 v (List.mem_of_mem_take hv)) (by rw [hln])
 rw [hln] at r1
 have e:=ext_add (R:=R) (w:=w) h.g.wf (.cells ⟨us⟩ elem) (.tok n.toNat w.heap.size m.toNat)
 exact ⟨_,.slice (some ⟨w.heap.size,0,none⟩) n.toNat m.toNat,_,R.add (.tok n.toNat w.heap.size m.toNat),β,hrun,.inl rfl,r1.put o.dst (x:=.v (.gsl s.G.length n.toNat 0 esz n.toNat)) (Rel.gsl (nth_new h _) ⟨Nat.le_refl _,fun _=>⟨rfl,Nat.zero_add _,.inl (Nat.zero_mul _).symm⟩⟩ hnm),by rw [boxes_put]; exact step_addObj h _ _ (by exact fun _ h=>h)⟩
theorem exec_buildSliceG (h:Rep E R w β s a) (t:TypeId) (len:Nat) (parts:Array (Nat × Operand)) (ho:o.op=.buildSlice t len parts) {k:LK} {esz:Nat} {es:List AV} (hv:buildSliceA E s t len parts.toList=some (.list k esz es)) {i:TI} (hi:E.ti t=some i) {elem sz' by_:Nat} {ag:Bool} {z:Option AV} (hk:i.k=.sl elem sz' ag by_ z) (hm:len≤65536) :
  Done E R w β s a o ((s.addG (.gro es esz elem)).put o.dst (.v (.gsl s.G.length len 0 esz len))):=by
 obtain ⟨es',esz',us,elem',hve,hrun,g2,hlen,u2,u3,i',ag',by',z',hi',hk'⟩:=buildSlice_run h t len parts ho hv
 cases hve
 rw [hi] at hi'
 cases hi'
 rw [hk] at hk'
 cases hk'
 have hus:us.length=len * esz:=by rw [← u2.length,length_cellsL g2,hlen]
 have r1:=h.groAdd (cur:=⟨us⟩) (vs:=us) (es:=es) (elem:=elem) (cap:=len) (by rw [hlen]; exact Nat.le_refl _) (by simp [maxLen]; omega) (by simpa using hus) g2.g u2 u3 (by rw [hlen,← hus]; exact List.take_length)
 rw [hlen] at r1
 exact ⟨_,.slice (some ⟨w.heap.size,0,none⟩) len len,_,R.add (.tok len w.heap.size len),β,hrun,.inl rfl,r1.put o.dst (x:=.v (.gsl s.G.length len 0 esz len)) (Rel.gsl (nth_new h _) ⟨Nat.le_refl _,fun _=>⟨rfl,Nat.zero_add _,.inl (Nat.zero_mul _).symm⟩⟩ (Nat.le_refl _)),by rw [boxes_put]; exact step_addObj h _ _ (by exact fun _ h=>h)⟩
end ops
end Go.Am
namespace Go.Am
open Go
section fams
variable {E:Env} {R R':Realm} {w w':World} {β β':Nat→Nat} {s s':St} {a a':Act} {o:Oper}
theorem nth_append_right {α:Type} {l r:List α} {i:Nat} {x:α} (h:nth r i=some x):nth (l++r) (l.length+i)=some x:=by
 rw [nth_eq] at *
 rw [List.getElem?_append_right (Nat.le_add_right _ _),Nat.add_sub_cancel_left]
 exact h
theorem nth_append_left {α:Type} {l r:List α} {i:Nat} {x:α} (h:nth l i=some x):nth (l++r) i=some x:=by
 have:=nth_lt h
 rw [nth_eq] at *
 rw [List.getElem?_append_left this]
 exact h
theorem nth_append_split {α:Type} {l r:List α} {i:Nat} {x:α} (h:nth (l++r) i=some x):nth l i=some x∨∃ j,i=l.length+j∧nth r j=some x:=by
 rw [nth_eq] at h
 rcases Nat.lt_or_ge i l.length with hlt | hge
 ·rw [List.getElem?_append_left hlt] at h
  exact .inl (by rw [nth_eq]; exact h)
 ·rw [List.getElem?_append_right hge] at h
  exact .inr ⟨i - l.length,by omega,by rw [nth_eq]; exact h⟩
theorem Rep.famMem (h:Rep E R w β s a) {id sz:Nat} {e:TypeId} {fs:List Nat} (hid:nth s.G id=some (.fam fs sz e)) {nfs:List Nat} {nts:List TR} (hl:nts.length=nfs.length)
  (hok:∀ j f t,nth nfs j=some f→nth nts j=some t→TokAt R w sz e f t) (hno:∀ j f b c,nth nts j≠some (.tok f b c)) {ro:RO} (hro:nth R.obj id=some ro) :
  ∃ ts,ro=.fam ts∧ts.length=fs.length∧Rep E (R.reset id (.fam (ts++nts))) w β (s.inG (setN s.G id (.fam (fs++nfs) sz e))) a∧Step R w β s.boxes (R.reset id (.fam (ts++nts))) w β s.boxes:=by
 have hrep:=h.g.obj id _ _ hid hro
 cases ro with
 | none=>exact hrep.elim
 | nil0=>exact hrep.elim
 | blk _=>exact hrep.elim
 | tok _ _ _=>exact hrep.elim
 | fam ts=>
 obtain ⟨q1,q2,q3⟩:=hrep
 have hhas:∀ b,RO.has (.fam (ts++nts)) b→RO.has (.fam ts) b:=fun b ⟨j,f,c,hj⟩=>by
  rcases nth_append_split hj with hj | ⟨i,_,hi⟩
  ·exact ⟨j,f,c,hj⟩
  ·exact absurd hi (hno i f b c)
 have ext:Ext R w (R.reset id (.fam (ts++nts))) w:=⟨fun _ _ h=>h,fun _ _ _=>rfl,fun i r hr=>by
  by_cases e:id=i
  ·subst e
   rw [hro] at hr
   cases hr
   exact ⟨_,nth_setN_self hro,fun j t hj=>⟨t,nth_append_left hj,TrLe.refl t⟩⟩
  ·exact ⟨r,by rw [Realm.reset,nth_setN_ne e]; exact hr,RoLe.refl r⟩,KeepLp.refl w⟩
 have live:∀ b,Live (R.reset id (.fam (ts++nts))) b→Live R b:=fun b ⟨i,r,h1,h2⟩=>by
  rcases setN_inj_ro hro h1 with ⟨_,rfl⟩ | ⟨_,h1⟩
  ·exact ⟨id,_,hro,hhas b h2⟩
  ·exact ⟨i,r,h1,h2⟩
 refine ⟨ts,rfl,q1,⟨⟨by simp [St.inG,Realm.reset,h.g.len],fun i g r h1 h2=>?_,fun i j ri rj b h1 h2 b1 b2=>?_,h.g.wf,fun g cs hg=>(h.g.glob g cs hg).mono ext,h.g.lo⟩,h.b.keep ext (fun _ _ _=>rfl) (fun _ _ _ _ h=>h) (fun _ _ _ hl=>live _ hl),h.t.mono ext,h.n,h.d.mono ext⟩,?_⟩
 ·rcases setN_inj_ro hro h2 with ⟨rfl,rfl⟩ | ⟨hne,h2⟩
  ·simp only [St.inG] at h1
   rw [nth_setN_self hid] at h1
   cases h1
   refine ⟨by simp [q1,hl],fun i j f b c f' c' hi hj=>?_,fun j f t hf ht=>?_⟩
   ·rcases nth_append_split hi with hi | ⟨_,_,hi⟩
    ·rcases nth_append_split hj with hj | ⟨_,_,hj⟩
     ·exact q2 i j _ _ _ _ _ hi hj
     ·exact absurd hj (hno _ _ _ _)
    ·exact absurd hi (hno _ _ _ _)
   ·rcases nth_append_split hf with hf0 | ⟨k,hk,hf0⟩
    ·rcases nth_append_split ht with ht | ⟨k',hk',ht⟩
     ·exact q3 j f t hf0 ht
     ·have:=nth_lt hf0
      omega
    ·rcases nth_append_split ht with ht | ⟨k',hk',ht⟩
     ·have:=nth_lt ht
      omega
     ·have hkk:k=k':=by omega
      subst hkk
      exact hok k f t hf0 ht
  ·simp only [St.inG] at h1
   rw [nth_setN_ne (Ne.symm hne)] at h1
   exact (h.g.obj i g r h1 h2).mono ext (fun _ _=>rfl) (fun _ _ _ h=>h)
 ·rcases setN_inj_ro hro h1 with ⟨g3,e1⟩ | ⟨g3,g1⟩
  ·rcases setN_inj_ro hro h2 with ⟨g4,e2⟩ | ⟨g4,g2⟩
   ·omega
   ·rw [e1] at b1
    exact g3.trans (h.g.inj id j _ _ b hro g2 (hhas b b1) b2)
  ·rcases setN_inj_ro hro h2 with ⟨g4,e2⟩ | ⟨g4,g2⟩
   ·rw [e2] at b2
    exact (h.g.inj i id _ _ b g1 hro b1 (hhas b b2)).trans g4.symm
   ·exact h.g.inj i j ri rj b g1 g2 b1 b2
 ·refine ⟨ext,rfl,rfl,rfl,Nat.le_refl _,fun _ _ _=>rfl,fun b _ ho=>?_,fun _ _ h _ _=>h⟩
  rcases ho with ho | ho
  ·exact .inl (live b ho)
  ·exact .inr ho
theorem Done.step {s1:St} {s2:St} (e:s1.boxes=s.boxes) (st:Step R w β s.boxes R' w β s.boxes) (h:Done E R' w β s1 a o s2):Done E R w β s a o s2:=by
 obtain ⟨nx,x,w',R2,β',h1,h2,h3,h4⟩:=h
 rw [e] at h4
 exact ⟨nx,x,w',R2,β',h1,h2,h3,st.trans h4⟩
theorem condS {c:Bool} {α:Type} {a b:α} (h:(bif c then some a else none)=some b):c=true∧a=b:=by
 cases c
 ·cases h
 ·exact ⟨rfl,Option.some.inj h⟩
theorem findFam_ok {sz:Nat} {e:TypeId}:∀ {G:List GO} {i j:Nat},findFam G sz e i=some j→∃ fs,nth G (j - i)=some (.fam fs sz e)∧i≤j
 | [],i,j,h=>by cases h
 | g :: G,i,j,h=>by
  have step:findFam G sz e (i+1)=some j→∃ fs,nth (g :: G) (j - i)=some (.fam fs sz e)∧i≤j:=fun h=>by
   obtain ⟨fs,h1,h2⟩:=findFam_ok h
   refine ⟨fs,?_,by omega⟩
   rw [show j - i=(j - (i+1))+1 by omega]
   exact h1
  unfold findFam at h
  split at h
  ·rename_i heq
   cases heq
  ·rename_i heq
   obtain ⟨rfl,rfl⟩:=List.cons.inj heq
   split at h
   ·rename_i j' hj
    cases h
    exact step hj
   ·obtain ⟨hc,rfl⟩:=condS h
    ·rw [Bool.and_eq_true] at hc
     have h1:=Nat.eq_of_beq_eq_true hc.1
     have h2:=Nat.eq_of_beq_eq_true hc.2
     subst h1 h2
     exact ⟨_,by rw [Nat.sub_self]; rfl,Nat.le_refl _⟩
  ·rename_i x G1 _ _ _ hn heq
   obtain ⟨rfl,rfl⟩:=List.cons.inj heq
   exact step h
theorem Rep.reput {s0:St} {d:Option Tmp} {x y:AV} (h:Rep E R w β (s0.put d (.v x)) a) (hw:∀ c,Rel R w x c→Rel R w y c):Rep E R w β (s0.put d (.v y)) a:=by
 cases d with
 | none=>exact h
 | some d=>
  simp only [St.put] at h ⊢
  cases hb:Nat.blt d s0.n with
  | false=>rw [hb] at h; exact h
  | true=>
   rw [hb] at h
   refine ⟨h.g,h.b,fun i hi=>?_,h.n,h.d⟩
   by_cases e:d=i
   ·subst e
    rw [lk_put_self]
    obtain ⟨c,k1,k2⟩:=h.t d (by rw [lk_put_self]; simp)
    rw [lk_put_self] at k2
    exact ⟨c,k1,hw c k2⟩
   ·rw [lk_put_ne e] at hi ⊢
    have:=h.t i (by rw [lk_put_ne e]; exact hi)
    rw [lk_put_ne e] at this
    exact this
theorem Done.reput {s0:St} {x y:AV} (h:Done E R w β s a o (s0.put o.dst (.v x))) (hw:∀ R' w',Ext R w R' w'→∀ c,Rel R' w' x c→Rel R' w' y c):Done E R w β s a o (s0.put o.dst (.v y)):=by
 obtain ⟨nx,v,w',R',β',h1,h2,h3,h4⟩:=h
 refine ⟨nx,v,w',R',β',h1,h2,h3.reput (hw R' w' h4.ext),?_⟩
 rw [boxes_put] at h4 ⊢
 exact h4
end fams
section ops
variable {E:Env} {R:Realm} {w:World} {β:Nat→Nat} {s:St} {a:Act} {o:Oper}
theorem list_cells {k:LK} {sz esz:Nat} {es:List AV} {c:Value} (h:Rel R w (.list k sz es) c) (hsz:es=[]∨sz=esz) :
  ElOk esz es∧∃ vs,RelL R w (cellsL es) vs∧(∀ v∈vs,v.oneCell'=true)∧vs.length=es.length * esz ∧
   ((es=[]∧vs=[]∧∃ ad,c=.slice ad 0 0∧(ad=none∨k=.opn))∨∃ b o' cap,c=.slice (some ⟨b,o',none⟩) es.length cap∧es.length≤cap∧LkOk R k b o' es.length cap∧(∀ j v,vs[j]?=some v→w.cell? ((⟨b,o',none⟩:Addr).add j)=some v)∧RelE R w b o' esz es):=by
 cases h with
 | lnil=>exact ⟨fun e he=>by simp at he,[],.nil,by simp,by simp,.inl ⟨rfl,rfl,_,rfl,.inl rfl⟩⟩
 | lopn=>exact ⟨fun e he=>by simp at he,[],.nil,by simp,by simp,.inl ⟨rfl,rfl,_,rfl,.inl rfl⟩⟩
 | lemp=>exact ⟨fun e he=>by simp at he,[],.nil,by simp,by simp,.inl ⟨rfl,rfl,_,rfl,.inr rfl⟩⟩
 | lown=>exact ⟨fun e he=>by simp at he,[],.nil,by simp,by simp,.inl ⟨rfl,rfl,_,rfl,.inl rfl⟩⟩
 | lfam=>exact ⟨fun e he=>by simp at he,[],.nil,by simp,by simp,.inl ⟨rfl,rfl,_,rfl,.inl rfl⟩⟩
 | @list _ _ _ b o' len cap hr hlen hcap hkk=>
  subst hlen
  have hr':RelE R w b o' esz es:=by
   rcases hsz with rfl | rfl
   ·exact .nil
   ·exact hr
  obtain ⟨g0,vs,g1,g2,g3,g4⟩:=relE_cells hr'
  refine ⟨g0,vs,g1,g2,by rw [← g1.length,length_cellsL g0],.inr ⟨b,o',cap,rfl,hcap,hkk,fun j v hv=>?_,hr'⟩⟩
  rw [addr_add]
  exact g3 j v hv
theorem relE_row {b esz:Nat} {es:List AV} {vs:List Value} {w:World} {R:Realm} (h0:ElOk esz es) (h:RelL R w (cellsL es) vs) (h1:∀ v∈vs,v.oneCell'=true)
  (hc:∀ j v,vs[j]?=some v→w.cell? ⟨b,j,none⟩=some v) (hI:∀ j,j < vs.length→R.I b j):RelE R w b 0 esz es:=
 relE_make h0 (RelC.make h h1 (fun j v hv=>by rw [Nat.zero_add]; exact hc j v hv) (fun j hj=>by rw [Nat.zero_add]; exact hI j (by rw [← h.length]; exact hj)))
theorem elOk_append {sz:Nat} {l r:List AV} (h:ElOk sz l) (k:ElOk sz r):ElOk sz (l++r):=fun e he=>by
 rcases List.mem_append.1 he with he | he
 ·exact h e he
 ·exact k e he
theorem one_append {l r:List Value} (h:∀ v∈l,v.oneCell'=true) (k:∀ v∈r,v.oneCell'=true):∀ v∈l++r,v.oneCell'=true:=fun v hv=>by
 rcases List.mem_append.1 hv with hv | hv
 ·exact h v hv
 ·exact k v hv
structure Apd (P:Program) (w:World) (t u ty e:TypeId) (i:TypeInfo) (z:Value) (cy:Value) (n:Nat) (us:List Value):Prop where
 zero:n=0→∀ base len cap,len≤cap→(Builtin.append_ #[t,u] ty #[.slice base len cap,cy]).run P w=.ok (.slice base len cap) w
 nil:0 < n→(n:Int)≤9223372036854775807→n * i.bytes≤281474976710656→(Builtin.append_ #[t,u] ty #[.slice none 0 0,cy]).run P w =
   .ok (.slice (some ⟨w.heap.size,0,none⟩) n (grownCap w n 0 e)) (w.drew.alloc (.cells (us.toArray++Builtin.zeroCells z.cells (grownCap w n 0 e - n)) e))
 grow:0 < n→∀ (b:Addr) (sLen sCap:Nat) (olds:List Value),olds.length=sLen * i.size→(∀ j v,olds[j]?=some v→w.cell? (b.add j)=some v)→sCap < sLen+n→((sLen+n:Nat):Int)≤9223372036854775807→Builtin.nextslicecap (sLen+n) sCap * i.bytes≤281474976710656 →
   (Builtin.append_ #[t,u] ty #[.slice (some b) sLen sCap,cy]).run P w=.ok (.slice (some ⟨w.heap.size,0,none⟩) (sLen+n) (grownCap w (sLen+n) sCap e))
    (w.drew.alloc (.cells (olds.toArray++us.toArray++Builtin.zeroCells z.cells (grownCap w (sLen+n) sCap e - (sLen+n))) e))
 room:0 < n→∀ (g sLen sCap:Nat) (cur:Array Value),w.heap[g]?=some (.cells cur e (0,0))→sLen+n≤sCap→sLen * i.size+us.length≤cur.size →
   (Builtin.append_ #[t,u] ty #[.slice (some ⟨g,0,none⟩) sLen sCap,cy]).run P w=.ok (.slice (some ⟨g,0,none⟩) (sLen+n) sCap) (w.setRow g (cur.toList.take (sLen * i.size)++us++cur.toList.drop (sLen * i.size+us.length)).toArray)
theorem exec_append_gro (h:Rep E R w β s a) {t u:TypeId} {id f off sz len:Nat} {y:AV} {ys:List AV} {cx cy:Value} {us:List Value}
  (hfin:∀ {c:Value} {w':World},(Builtin.append_ #[t,u] o.type #[cx,cy]).run E.P w=.ok c w'→(execOp a.eval o).run E.P w=.ok (.value c) w')
  {elem esz eb:Nat} {z:AV} (heb:1≤eb) (hz:z.cells.length=esz) (hzn:z.notTup=true)
  {ie:TypeInfo} (f2:ie.size=esz) (f3:ie.bytes=eb) (f6:constOf ie=some z)
  (h0:Rel R w (.gsl id f off sz len) cx) (hA:∀ zc:Value,ie.zero=some zc→Apd E.P w t u o.type elem ie zc cy (y :: ys).length us)
  (y0:ElOkG esz (y :: ys)) (y1:RelL R w (cellsL (y :: ys)) us) (y2:∀ v∈us,v.oneCell'=true) (y3:us.length=(y :: ys).length * esz)
  {es:List AV} (hid:nth s.G id=some (.gro es esz elem)) (hf:f=es.length) (ho0:off=0) (hl0:len=f) (hb:(es.length+(y :: ys).length) * eb≤140737488355328) :
  Done E R w β s a o ((s.inG (setN s.G id (.gro (es++(y :: ys)) esz elem))).put o.dst (.v (.gsl id (es.length+(y :: ys).length) 0 esz (es.length+(y :: ys).length)))):=by
 obtain ⟨zc,hzc,hzr⟩:=constOf_some f6
 have hA:=hA zc hzc
 obtain ⟨d1,d2⟩:=Rel.cells (hzr R w) hzn
 have hcs:zc.cells.size=esz:=by rw [← hz,d1.length]; simp
 have hpos:0 < (y :: ys).length:=by simp
 have hm:es.length+(y :: ys).length≤140737488355328:=Nat.le_trans (Nat.le_mul_of_pos_right _ heb) hb
 have hel':(es++(y :: ys)).length=es.length+(y :: ys).length:=List.length_append
 -- where a new block has been made
 have fresh:∀ {xs:List Value} {old:Nat} {r0:RO},nth R.obj id=some r0→(∀ b c,RoLe r0 (.tok (es.length+(y :: ys).length) b c))→ElOkG esz es→RelL R w (cellsL es) xs→(∀ v∈xs,v.oneCell'=true)→xs.length=es.length * esz →
   (Builtin.append_ #[t,u] o.type #[cx,cy]).run E.P w=.ok (.slice (some ⟨w.heap.size,0,none⟩) (es.length+(y :: ys).length) (grownCap w (es.length+(y :: ys).length) old elem)) (w.drew.alloc (.cells (xs.toArray++us.toArray++Builtin.zeroCells zc.cells (grownCap w (es.length+(y :: ys).length) old elem - (es.length+(y :: ys).length))) elem)) →
   Done E R w β s a o ((s.inG (setN s.G id (.gro (es++(y :: ys)) esz elem))).put o.dst (.v (.gsl id (es.length+(y :: ys).length) 0 esz (es.length+(y :: ys).length)))):=by
  intro xs old r0 hro hle hes hxr hx1 hxl hrun
  have hge:=grownCap_ge w (es.length+(y :: ys).length) old elem
  obtain ⟨r1,r2⟩:=h.groSet (cur:=xs.toArray++us.toArray++Builtin.zeroCells zc.cells (grownCap w (es.length+(y :: ys).length) old elem - (es.length+(y :: ys).length))) (vs:=xs++us) (es':=es++(y :: ys)) hid hro (by rw [hel']; exact hle) (by rw [hel']; exact hge) (grownCap_le_maxLen w _ old elem (by unfold maxLen; omega)) (by
   simp only [Array.size_append,List.size_toArray,size_zeroCells,hcs,hxl,y3,← Nat.add_mul]
   congr 1
   omega) (elOk_app hes y0) (by rw [cellsL_append]; exact hxr.append y1) (one_append hx1 y2) (by
   rw [hel']
   simp only [Array.toList_append]
   exact List.take_left' (by rw [List.length_append,hxl,y3,Nat.add_mul]))
  rw [hel'] at r1 r2
  refine ⟨_,_,_,_,β,hfin hrun,.inl rfl,r1.put o.dst ?_,by rw [boxes_put]; exact r2⟩
  exact Rel.gsl (nth_setN_self hro) ⟨Nat.le_refl _,fun _=>⟨rfl,Nat.zero_add _,.inl (Nat.zero_mul _).symm⟩⟩ hge
 cases h0 with
 | @gnil _ _ ro hro hon=>
  have hrep:=h.g.obj id _ _ hid hro
  have he0:es=[]:=List.eq_nil_of_length_eq_zero hf.symm
  subst he0
  cases ro with
  | none=>exact hrep.elim
  | blk _=>exact hrep.elim
  | fam _=>exact hrep.elim
  | tok f' g c=>
   obtain ⟨rfl,_⟩:=hrep
   simp [OwnNil] at hon
  | nil0=>
   simp only [List.length_nil] at hb
   have hrun:=hA.nil hpos (by omega) (by rw [f3]; rw [Nat.zero_add] at hb; omega)
   exact fresh (xs:=[]) (old:=0) hro (fun b c=>by simp only [RoLe]; omega) (fun e he=>by simp at he) .nil (by simp) (by simp) (by simpa using hrun)
 | @gsl _ _ _ _ _ cap b o' ro hro hok hcap=>
  subst hf; subst ho0; subst hl0
  obtain ⟨b',c',cur,vs,rfl,g1,g2,g3,g4,g5,g6,g7,g8,g9⟩:=gro_tok h.g hid hro (fun k=>by subst k; exact hok)
  obtain ⟨rfl,hcc,hoo⟩:=hok.2 rfl
  rw [Nat.zero_add] at hcc
  subst hcc
  have hvl:vs.length=es.length * esz:=by rw [← g7.length,length_cellsG g1]
  have hcell:∀ j v,vs[j]?=some v→cur[j]?=some v:=fun j v hj=>by
   rw [← g9,List.getElem?_take] at hj
   split at hj
   ·rw [← Array.getElem?_toList]; exact hj
   ·cases hj
  by_cases hroom:es.length+(y :: ys).length≤cap
  ·have ho':o'=0:=by
    rcases hoo with hoo | hoo
    ·rw [hoo,Nat.zero_mul]
    ·rw [List.length_cons] at hroom; omega
   subst ho'
   have hle:(es.length+(y :: ys).length) * esz≤cap * esz:=Nat.mul_le_mul_right _ hroom
   have hrun:=hA.room hpos b es.length cap cur g2 hroom (by rw [f2,y3,← Nat.add_mul,g5]; exact hle)
   rw [f2] at hrun
   have hcl:cur.toList.length=cap * esz:=by rw [show cur.toList.length=cur.size from Array.length_toList,g5]
   obtain ⟨r1,r2⟩:=h.groRoom (cur2:=(cur.toList.take (es.length * esz)++us++cur.toList.drop (es.length * esz+us.length)).toArray) (vs:=vs++us) (es':=es++(y :: ys)) hid hro (by rw [hel']; omega) (by rw [hel']; exact hroom) g2 (by
    rw [List.size_toArray,← Array.length_toList]
    simp only [List.length_append,List.length_take,List.length_drop,y3,hcl]
    rw [Nat.add_mul] at hle
    omega) (elOk_app g1 y0) (by rw [cellsL_append]; exact g7.append y1) (one_append g8 y2) (by
    rw [hel',List.toList_toArray,g9]
    exact List.take_left' (by rw [List.length_append,hvl,y3,Nat.add_mul]))
   rw [hel'] at r1 r2
   refine ⟨_,_,_,_,β,hfin hrun,.inl rfl,r1.put o.dst ?_,by rw [boxes_put]; exact r2⟩
   exact Rel.gsl (nth_setN_self hro) ⟨Nat.le_refl _,fun _=>⟨rfl,Nat.zero_add _,.inl (Nat.zero_mul _).symm⟩⟩ hroom
  ·have hrun:=hA.grow hpos ⟨b,o',none⟩ es.length cap vs (by rw [hvl,f2]) (fun j v hj=>by
    rw [addr_add]
    have hj':=(List.getElem?_eq_some_iff.1 hj).1
    have ho':o'=0:=by
     rcases hoo with hoo | hoo
     ·rw [hoo,Nat.zero_mul]
     ·have:es.length=0:=by omega
      rw [hvl,this] at hj'
      omega
    subst ho'
    rw [Nat.zero_add,cell_of_row w b j cur elem (0,0) g2]
    exact hcell j v hj) (by omega) (by omega) (growslice_fits (by omega) (by rw [f3]; exact hb))
   exact fresh (xs:=vs) (old:=cap) hro (fun b c=>⟨by omega,fun e=>by omega⟩) g1 g7 g8 hvl hrun
theorem exec_append_fam0 (h:Rep E R w β s a) {t u:TypeId} {id j:Nat} {es:List AV} {y:AV} {ys:List AV} {cx cy:Value} {us:List Value}
  (hfin:∀ {c:Value} {w':World},(Builtin.append_ #[t,u] o.type #[cx,cy]).run E.P w=.ok c w'→(execOp a.eval o).run E.P w=.ok (.value c) w')
  {elem esz eb:Nat} {z:AV} (heb:1≤eb) (hz:z.cells.length=esz) (hzn:z.notTup=true)
  {ie:TypeInfo} (f2:ie.size=esz) (f3:ie.bytes=eb) (f6:constOf ie=some z)
  (h0:Rel R w (.list (.fam id j) esz es) cx) (hA:∀ zc:Value,ie.zero=some zc→Apd E.P w t u o.type elem ie zc cy (y :: ys).length us)
  (y0:ElOk esz (y :: ys)) (y1:RelL R w (cellsL (y :: ys)) us) (y2:∀ v∈us,v.oneCell'=true) (y3:us.length=(y :: ys).length * esz)
  {fs:List Nat} (hgo:nth s.G id=some (.fam fs esz elem)) (hfl:nth fs j=some es.length) (hb:(es.length+(y :: ys).length) * eb≤140737488355328) :
  Done E R w β s a o ((s.inG (setN s.G id (.fam (setN fs j (es.length+(y :: ys).length)) esz elem))).put o.dst (.v (.list (.fam id j) esz (es++(y :: ys))))):=by
 obtain ⟨zc,hzc,hzr⟩:=constOf_some f6
 have hA:=hA zc hzc
 obtain ⟨d1,d2⟩:=Rel.cells (hzr R w) hzn
 have hcs:zc.cells.size=esz:=by rw [← hz,d1.length]; simp
 have hpos:0 < (y :: ys).length:=by simp
 have hm:es.length+(y :: ys).length≤140737488355328:=Nat.le_trans (Nat.le_mul_of_pos_right _ heb) hb
 obtain ⟨x0,xs,x1,x2,x3,x4⟩:=list_cells (esz:=esz) h0 (.inr rfl)
 obtain ⟨ro,hro⟩:∃ ro,nth R.obj id=some ro:=by
  cases h0 with
  | lfam q _=>exact ⟨_,q⟩
  | list _ _ _ hk=>obtain ⟨ro,q,_⟩:=hk; exact ⟨ro,q⟩
 have hrep:=h.g.obj id _ _ hgo hro
 cases ro with
 | none=>exact hrep.elim
 | nil0=>exact hrep.elim
 | blk _=>exact hrep.elim
 | tok _ _ _=>exact hrep.elim
 | fam ts=>
 have hrep:FamOk R w esz elem fs ts:=hrep
 have hjl:j < ts.length:=by rw [hrep.1]; exact nth_lt hfl
 obtain ⟨tr,ht⟩:∃ tr,nth ts j=some tr:=⟨ts[j],by rw [nth_eq]; exact List.getElem?_eq_getElem hjl⟩
 have hat:=hrep.2.2 j _ _ hfl ht
 have hlive:∀ i f b c,nth ts i=some (.tok f b c)→b < w.heap.size:=fun i f b c hi=>h.g.live_lt ⟨id,_,hro,i,f,c,hi⟩
 -- where a new block has been made
 have fresh:∀ {old:Nat},(∀ b c,TrLe tr (.tok (es.length+(y :: ys).length) b c)) →
   (Builtin.append_ #[t,u] o.type #[cx,cy]).run E.P w=.ok (.slice (some ⟨w.heap.size,0,none⟩) (es.length+(y :: ys).length) (grownCap w (es.length+(y :: ys).length) old elem)) (w.drew.alloc (.cells (xs.toArray++us.toArray++Builtin.zeroCells zc.cells (grownCap w (es.length+(y :: ys).length) old elem - (es.length+(y :: ys).length))) elem)) →
   Done E R w β s a o ((s.inG (setN s.G id (.fam (setN fs j (es.length+(y :: ys).length)) esz elem))).put o.dst (.v (.list (.fam id j) esz (es++(y :: ys))))):=by
  intro old hle hrun
  have hge:=grownCap_ge w (es.length+(y :: ys).length) old elem
  have hcm:=grownCap_le_maxLen w (es.length+(y :: ys).length) old elem (by unfold maxLen; omega)
  have hsize:(xs.toArray++us.toArray++Builtin.zeroCells zc.cells (grownCap w (es.length+(y :: ys).length) old elem - (es.length+(y :: ys).length))).size=grownCap w (es.length+(y :: ys).length) old elem * esz:=by
   simp only [Array.size_append,List.size_toArray,size_zeroCells,hcs,x3,y3,← Nat.add_mul]
   congr 1
   omega
  generalize hcur:xs.toArray++us.toArray++Builtin.zeroCells zc.cells (grownCap w (es.length+(y :: ys).length) old elem - (es.length+(y :: ys).length))=cur at hrun hsize
  have o1:=One.drew w (.cells cur elem)
  obtain ⟨r1,r2⟩:=h.newBlk o1 (n:=(es.length+(y :: ys).length) * esz) (r1:=.fam (setN ts j (.tok (es.length+(y :: ys).length) w.heap.size (grownCap w (es.length+(y :: ys).length) old elem)))) (go:=.fam (setN fs j (es.length+(y :: ys).length)) esz elem) hgo hro
   (TsLe.set ht (hle _ _)) (fun b hb=>fam_has hb) (FamOk.set hrep ⟨rfl,cur,o1.new,hge,hcm,hsize,fun o' ho' hi=>by
    rcases hi with hi | ⟨_,hi⟩
    ·have:=h.g.wf _ _ hi
     omega
    ·omega⟩ (fun i f c hi=>absurd (hlive i f _ c hi) (Nat.lt_irrefl _)) (fun i f b c _ hi=>⟨o1.old b (hlive i f b c hi),fun o' ho'=>by
     rcases ho' with ho' | ⟨ho',_⟩
     ·exact ho'
     ·have:=hlive i f b c hi
      omega⟩))
  have e:=r2.ext
  refine ⟨_,_,_,_,β,hfin hrun,.inl rfl,r1.put o.dst ?_,by rw [boxes_put]; exact r2⟩
  refine Rel.list (relE_row (vs:=xs++us) (elOk_append x0 y0) (by rw [cellsL_append]; exact (x1.mono e).append (y1.mono e)) (one_append x2 y2) (fun j v hj=>?_) (fun j hj=>.inr ⟨rfl,by rw [List.length_append,x3,y3,← Nat.add_mul] at hj; exact hj⟩)) (by simp) hge ⟨_,nth_setN_self hro,_,nth_setN_self ht,Nat.le_refl _,fun _=>⟨rfl,rfl,rfl⟩⟩
  rw [cell_of_row _ _ j _ _ _ o1.new,← hcur]
  have hlt:=(List.getElem?_eq_some_iff.1 hj).1
  rw [← Array.getElem?_toList]
  simp only [Array.toList_append,List.append_assoc]
  rw [← List.append_assoc,List.getElem?_append_left hlt]
  exact hj
 rcases x4 with ⟨rfl,rfl,ad,rfl,hd⟩ | ⟨b,o',cap,rfl,xcap,xk,xcell,xE⟩
 ·obtain rfl:ad=none:=by
   rcases hd with hd | hd
   ·exact hd
   ·cases hd
  simp only [List.length_nil] at hb hat
  have hrun:=hA.nil hpos (by simp only [List.length_nil] at hm; omega) (by rw [f3]; rw [Nat.zero_add] at hb; omega)
  cases tr with
  | nil0=>exact fresh (old:=0) (fun b c=>by simp only [TrLe,List.length_cons]; omega) (by simpa using hrun)
  | full f'=>
   have hat:f'=0:=hat
   subst hat
   exact fresh (old:=0) (fun b c=>by simp only [TrLe,List.length_cons]; omega) (by simpa using hrun)
  | tok f' g c=>
   obtain ⟨hat,_⟩:=hat
   subst hat
   exact fresh (old:=0) (fun b c=>by simp only [TrLe,List.length_cons,List.length_nil]; omega) (by simpa using hrun)
 ·obtain ⟨ro',hro',hlk⟩:=xk
  rw [hro] at hro'
  cases hro'
  obtain ⟨t',q3,hlk⟩:=hlk
  rw [ht] at q3
  cases q3
  cases tr with
  | nil0=>exact hlk.elim
  | full f'=>
   have hf:f'=es.length:=hat
   subst hf
   have hcap:=hlk.2 rfl
   subst hcap
   have hrun:=hA.grow hpos ⟨b,o',none⟩ es.length es.length xs (by rw [x3,f2]) xcell (by omega) (by omega) (growslice_fits (by omega) (by rw [f3]; exact hb))
   exact fresh (fun b c=>by simp only [TrLe]; omega) hrun
  | tok f' g c=>
   obtain ⟨rfl,cur,hcur,k1,k3,k4,k5⟩:=hat
   obtain ⟨rfl,rfl,rfl⟩:=hlk.2 rfl
   by_cases hroom:es.length+(y :: ys).length≤cap
   ·have hle:(es.length+(y :: ys).length) * esz≤cap * esz:=Nat.mul_le_mul_right _ hroom
    have hrun:=hA.room hpos b es.length cap cur hcur hroom (by rw [f2,y3,← Nat.add_mul,k4]; exact hle)
    rw [f2] at hrun
    generalize hcur2:(cur.toList.take (es.length * esz)++us++cur.toList.drop (es.length * esz+us.length)).toArray=cur2 at hrun
    have hcl:cur.toList.length=cap * esz:=by rw [show cur.toList.length=cur.size from Array.length_toList,k4]
    have hll:es.length * esz≤cap * esz:=Nat.mul_le_mul_right _ k1
    have hsz2:cur2.size=cap * esz:=by
     rw [← hcur2,List.size_toArray]
     simp only [List.length_append,List.length_take,List.length_drop,y3,hcl]
     rw [Nat.add_mul] at hle
     omega
    have hkeep:∀ o',R.I b o'→cur2[o']?=cur[o']?:=fun o' hi=>by
     have ho:o' < es.length * esz:=Nat.lt_of_not_le fun hle=>k5 o' hle hi
     rw [← hcur2,List.append_assoc]
     simp only [List.getElem?_toArray]
     rw [List.getElem?_append_left (by rw [List.length_take]; omega),List.getElem?_take,if_pos ho,Array.getElem?_toList]
    have new:(w.setRow b cur2).heap[b]?=some (.cells cur2 elem (0,0)):=setRow_heap w b cur cur2 elem (0,0) hcur
    obtain ⟨r0,r1,r2⟩:=h.roomBlk (cur2:=cur2) (n:=(es.length+(y :: ys).length) * esz) (r1:=.fam (setN ts j (.tok (es.length+(y :: ys).length) b cap))) (go:=.fam (setN fs j (es.length+(y :: ys).length)) esz elem) hgo hro ⟨j,_,_,ht⟩
     (TsLe.set ht ⟨by omega,fun e=>by omega⟩) (fun b' hb'=>(fam_has hb').elim (fun e=>by rw [e]; exact ⟨j,_,_,ht⟩) (fun x=>x)) hcur hkeep (fun _=>FamOk.set hrep ⟨rfl,cur2,new,hroom,k3,hsz2,fun o' ho' hi=>by
      rcases hi with hi | ⟨_,hi⟩
      ·exact k5 o' (Nat.le_trans (Nat.mul_le_mul_right _ (Nat.le_add_right _ _)) ho') hi
      ·omega⟩ (fun i f c hi=>hrep.2.1 i j _ _ _ _ _ hi ht) (fun i f b' c hne hi=>by
       have hbb:b'≠b:=fun e=>by subst e; exact hne (hrep.2.1 i j _ _ _ _ _ hi ht)
       refine ⟨setRow_other w b b' cur2 hbb,fun o' ho'=>?_⟩
       rcases ho' with ho' | ⟨ho',_⟩
       ·exact ho'
       ·exact absurd ho' hbb))
    refine ⟨_,_,_,_,β,hfin hrun,.inl rfl,r1.put o.dst ?_,by rw [boxes_put]; exact r2⟩
    have hxs:cur.toList.take (es.length * esz)=xs:=by
     have hl1:xs.length=es.length * esz:=x3
     apply List.ext_getElem?
     intro j
     rw [List.getElem?_take]
     split
     ·rename_i hj
      have hj':j < xs.length:=by omega
      have hx':=xcell j xs[j] (List.getElem?_eq_getElem hj')
      rw [addr_add,Nat.zero_add,cell_of_row w b j cur elem (0,0) hcur] at hx'
      rw [Array.getElem?_toList,hx',List.getElem?_eq_getElem hj']
     ·rw [List.getElem?_eq_none (by omega)]
    refine Rel.list (relE_row (vs:=xs++us) (elOk_append x0 y0) (by rw [cellsL_append]; exact (x1.mono r0).append (y1.mono r0)) (one_append x2 y2) (fun j v hj=>?_) (fun j hj=>.inr ⟨rfl,by rw [List.length_append,x3,y3,← Nat.add_mul] at hj; exact hj⟩)) (by simp) hroom ⟨_,nth_setN_self hro,_,nth_setN_self ht,Nat.le_refl _,fun _=>⟨rfl,rfl,rfl⟩⟩
    rw [cell_of_row _ _ j _ _ _ new,← hcur2,hxs]
    simp only [List.getElem?_toArray]
    rw [List.getElem?_append_left (List.getElem?_eq_some_iff.1 hj).1]
    exact hj
   ·have hrun:=hA.grow hpos ⟨b,0,none⟩ es.length cap xs (by rw [x3,f2]) xcell (by omega) (by omega) (growslice_fits (by omega) (by rw [f3]; exact hb))
    exact fresh (fun b c=>⟨by omega,fun e=>by omega⟩) hrun
theorem setA_old {fs:List Nat} {j n m:Nat} (h:nth fs j=some m):setA fs j n=setN fs j n:=by
 unfold setA
 cases hb:Nat.beq j fs.length with
 | false=>rfl
 | true=>
  have:=Nat.eq_of_beq_eq_true hb
  have:=nth_lt h
  omega
theorem exec_append_fam (h:Rep E R w β s a) {t u:TypeId} {id j:Nat} {es:List AV} {y:AV} {ys:List AV} {cx cy:Value} {us:List Value}
  (hfin:∀ {c:Value} {w':World},(Builtin.append_ #[t,u] o.type #[cx,cy]).run E.P w=.ok c w'→(execOp a.eval o).run E.P w=.ok (.value c) w')
  {elem esz eb:Nat} {z:AV} (heb:1≤eb) (hz:z.cells.length=esz) (hzn:z.notTup=true)
  {ie:TypeInfo} (f2:ie.size=esz) (f3:ie.bytes=eb) (f6:constOf ie=some z)
  (h0:Rel R w (.list (.fam id j) esz es) cx) (hA:∀ zc:Value,ie.zero=some zc→Apd E.P w t u o.type elem ie zc cy (y :: ys).length us)
  (y0:ElOk esz (y :: ys)) (y1:RelL R w (cellsL (y :: ys)) us) (y2:∀ v∈us,v.oneCell'=true) (y3:us.length=(y :: ys).length * esz)
  {fs:List Nat} (hgo:nth s.G id=some (.fam fs esz elem)) (hfl:memA fs j es.length=true) (hb:(es.length+(y :: ys).length) * eb≤140737488355328) :
  Done E R w β s a o ((s.inG (setN s.G id (.fam (setA fs j (es.length+(y :: ys).length)) esz elem))).put o.dst (.v (.list (.fam id j) esz (es++(y :: ys))))):=by
 unfold memA at hfl
 rw [Bool.or_eq_true,decide_eq_true_eq,Bool.and_eq_true] at hfl
 rcases hfl with hfl | ⟨hj,hl⟩
 ·have hne:Nat.beq j fs.length=false:=by
   cases hb:Nat.beq j fs.length with
   | false=>rfl
   | true=>
    have:=Nat.eq_of_beq_eq_true hb
    have:=nth_lt hfl
    omega
  unfold setA
  rw [hne]
  exact exec_append_fam0 h hfin heb hz hzn f2 f3 f6 h0 hA y0 y1 y2 y3 hgo hfl hb
 ·have hset:setA fs j (es.length+(y :: ys).length)=fs++[es.length+(y :: ys).length]:=by
   unfold setA
   rw [hj]
   rfl
  rw [hset]
  have hj:=Nat.eq_of_beq_eq_true hj
  have hl:=Nat.eq_of_beq_eq_true hl
  subst hj
  have hlt:=nth_lt hgo
  rw [← h.g.len] at hlt
  obtain ⟨ro,hro⟩:∃ ro,nth R.obj id=some ro:=⟨R.obj[id],by rw [nth_eq]; exact List.getElem?_eq_getElem hlt⟩
  obtain ⟨ts,rfl,z1,z2,z3⟩:=h.famMem hgo (nfs:=[0]) (nts:=[.nil0]) rfl (fun j f t h1 h2=>by
   cases j with
   | zero=>simp only [nth] at h1 h2; cases h1; cases h2; exact rfl
   | succ j=>simp [nth] at h1) (fun j f b c hj=>by
   cases j with
   | zero=>simp only [nth] at hj; cases hj
   | succ j=>simp [nth] at hj) hro
  have key:=exec_append_fam0 z2 hfin heb hz hzn f2 f3 f6 (h0.mono z3.ext) hA y0 (y1.mono z3.ext) y2 y3 (fs:=fs++[0]) (nth_setN_self hgo) (by rw [hl]; exact nth_append_new _ _) hb
  have e1:setN (fs++[0]) fs.length (es.length+(y :: ys).length)=fs++[es.length+(y :: ys).length]:=by
   rw [setN_eq,List.set_append_right _ _ (Nat.le_refl _),Nat.sub_self]
   rfl
  have e2:∀ x y:GO,setN (setN s.G id x) id y=setN s.G id y:=fun x y=>by rw [setN_eq,setN_eq,setN_eq,List.set_set]
  rw [e1] at key
  refine Done.step rfl z3 ?_
  have e3:((s.inG (setN s.G id (.fam (fs++[0]) esz elem))).inG (setN (s.inG (setN s.G id (.fam (fs++[0]) esz elem))).G id (.fam (fs++[es.length+(y :: ys).length]) esz elem)))=s.inG (setN s.G id (.fam (fs++[es.length+(y :: ys).length]) esz elem)):=by
   simp only [St.inG,e2]
  rw [e3] at key
  exact key
theorem exec_append_core (h:Rep E R w β s a) {t u:TypeId} {x:AV} {ys:List AV} {cx cy:Value} {us:List Value}
  (hfin:∀ {c:Value} {w':World},(Builtin.append_ #[t,u] o.type #[cx,cy]).run E.P w=.ok c w'→(execOp a.eval o).run E.P w=.ok (.value c) w')
  {i:TI} {elem esz eb:Nat} {ag:Bool} {z:AV} (hk:i.k=.sl elem esz ag eb (some z)) (heb:1≤eb) (hz:z.cells.length=esz) (hzn:z.notTup=true)
  {ie:TypeInfo} (f1:E.P.info? elem=some ie) (f2:ie.size=esz) (f3:ie.bytes=eb) (f6:constOf ie=some z)
  (h0:Rel R w x cx) (hA:∀ zc:Value,ie.zero=some zc→Apd E.P w t u o.type elem ie zc cy ys.length us)
  (y0:ElOk esz ys) (y1:RelL R w (cellsL ys) us) (y2:∀ v∈us,v.oneCell'=true) (y3:us.length=ys.length * esz)
  {v:AV} {G':List GO} (ha:appendA s.G elem esz eb x ys=some (true,v,G')) :
  Done E R w β s a o ((s.inG G').put o.dst (.v v)):=by
 obtain ⟨zc,hzc,hzr⟩:=constOf_some f6
 have hA':=hA
 have hA:=hA zc hzc
 obtain ⟨d1,d2⟩:=Rel.cells (hzr R w) hzn
 have hcs:zc.cells.size=esz:=by rw [← hz,d1.length]; simp
 unfold appendA at ha
 split at ha
 ·-- nothing is appended
  rename_i k sz es
  have hus:us=[]:=List.eq_nil_of_length_eq_zero (by simpa using y3)
  have hG:G'=s.G∧Rel R w v cx:=by
   split at ha
   ·injection ha with ha; injection ha with _ ha; injection ha with p q
    subst p; subst q
    exact ⟨rfl,h0⟩
   ·injection ha with ha; injection ha with _ ha; injection ha with p q
    subst p; subst q
    exact ⟨rfl,h0⟩
  obtain ⟨rfl,hvr⟩:=hG
  refine done_value (s:=s) h (c:=cx) (hfin ?_) hvr
  cases h0 with
  | lnil=>exact hA.zero rfl _ _ _ (Nat.le_refl 0)
  | lopn=>exact hA.zero rfl _ _ _ (Nat.le_refl 0)
  | lemp=>exact hA.zero rfl _ _ _ (Nat.le_refl 0)
  | lown=>exact hA.zero rfl _ _ _ (Nat.le_refl 0)
  | lfam=>exact hA.zero rfl _ _ _ (Nat.le_refl 0)
  | list hr hlen hcap _=>exact hA.zero rfl _ _ _ hcap
 ·-- something is appended
  rename_i k sz es y ys hA
  have hpos:0 < (y :: ys).length:=by simp
  -- what is shown where a new block has been made
  have grown:∀ {n old:Nat} {xs:List Value} {es':List AV},(es'.length=n)→ElOk esz es'→RelL R w (cellsL es') xs→(∀ v∈xs,v.oneCell'=true)→xs.length=n * esz →
    (n+(y :: ys).length) * eb≤140737488355328→n+(y :: ys).length≤maxLen→∀ (R':Realm) (G2:List GO) (id:Nat),
    Rep E R' (w.drew.alloc (.cells (xs.toArray++us.toArray++Builtin.zeroCells zc.cells (grownCap w (n+(y :: ys).length) old elem - (n+(y :: ys).length))) elem)) β (s.inG G2) a →
    Step R w β s.boxes R' (w.drew.alloc (.cells (xs.toArray++us.toArray++Builtin.zeroCells zc.cells (grownCap w (n+(y :: ys).length) old elem - (n+(y :: ys).length))) elem)) β s.boxes →
    (∀ j,j < (n+(y :: ys).length) * esz→R'.I w.heap.size j)→nth R'.obj id=some (.tok (n+(y :: ys).length) w.heap.size (grownCap w (n+(y :: ys).length) old elem)) →
    (Builtin.append_ #[t,u] o.type #[cx,cy]).run E.P w=.ok (.slice (some ⟨w.heap.size,0,none⟩) (n+(y :: ys).length) (grownCap w (n+(y :: ys).length) old elem)) (w.drew.alloc (.cells (xs.toArray++us.toArray++Builtin.zeroCells zc.cells (grownCap w (n+(y :: ys).length) old elem - (n+(y :: ys).length))) elem)) →
    Done E R w β s a o ((s.inG G2).put o.dst (.v (.list (.own id) esz (es'++(y :: ys))))):=by
   intro n old xs es' hn0 hes0 hxr hx1 hxl _ _ R' G2 id hrep hstep hI hid hrun
   refine ⟨_,_,_,R',β,hfin hrun,.inl rfl,hrep.put o.dst ?_,by rw [boxes_put]; exact hstep⟩
   have e:=hstep.ext
   refine Rel.list (relE_row (vs:=xs++us) (elOk_append hes0 y0) (by rw [cellsL_append]; exact (hxr.mono e).append (y1.mono e)) (one_append hx1 y2) (fun j v hj=>?_) (fun j hj=>hI j (by rw [List.length_append,hxl,y3,← Nat.add_mul] at hj; exact hj))) (by simp [hn0]) (grownCap_ge w _ _ _) ⟨_,hid,Nat.le_refl _,fun _=>⟨rfl,rfl,rfl⟩⟩
   have hnew:(w.drew.alloc (.cells (xs.toArray++us.toArray++Builtin.zeroCells zc.cells (grownCap w (n+(y :: ys).length) old elem - (n+(y :: ys).length))) elem)).heap[w.heap.size]?=some (.cells (xs.toArray++us.toArray++Builtin.zeroCells zc.cells (grownCap w (n+(y :: ys).length) old elem - (n+(y :: ys).length))) elem (0,0)):=heap_alloc_new w.drew _
   rw [cell_of_row _ _ j _ _ _ hnew]
   have hlt:=(List.getElem?_eq_some_iff.1 hj).1
   rw [← Array.getElem?_toList]
   simp only [Array.toList_append,List.append_assoc]
   rw [← List.append_assoc,List.getElem?_append_left hlt]
   exact hj
  have sizes:∀ {n old:Nat} {xs:List Value},xs.length=n * esz→n+(y :: ys).length≤maxLen→(xs.toArray++us.toArray++Builtin.zeroCells zc.cells (grownCap w (n+(y :: ys).length) old elem - (n+(y :: ys).length))).size=grownCap w (n+(y :: ys).length) old elem * esz:=by
   intro n old xs hxl _
   have hge:=grownCap_ge w (n+(y :: ys).length) old elem
   simp only [Array.size_append,List.size_toArray,size_zeroCells,hcs,hxl,y3,← Nat.add_mul]
   congr 1
   omega
  have fresh:∀ {n old:Nat} {xs:List Value} {es':List AV},(es'.length=n)→ElOk esz es'→RelL R w (cellsL es') xs→(∀ v∈xs,v.oneCell'=true)→xs.length=n * esz →
    (n+(y :: ys).length) * eb≤140737488355328→n+(y :: ys).length≤maxLen →
    (Builtin.append_ #[t,u] o.type #[cx,cy]).run E.P w=.ok (.slice (some ⟨w.heap.size,0,none⟩) (n+(y :: ys).length) (grownCap w (n+(y :: ys).length) old elem)) (w.drew.alloc (.cells (xs.toArray++us.toArray++Builtin.zeroCells zc.cells (grownCap w (n+(y :: ys).length) old elem - (n+(y :: ys).length))) elem)) →
    Done E R w β s a o ((s.inG (s.G++[.tok (n+(y :: ys).length) esz elem])).put o.dst (.v (.list (.own s.G.length) esz (es'++(y :: ys))))):=by
   intro n old xs es' hn0 hes0 hxr hx1 hxl hb hm hrun
   obtain ⟨r1,r2⟩:=h.tokAdd (cur:=xs.toArray++us.toArray++Builtin.zeroCells zc.cells (grownCap w (n+(y :: ys).length) old elem - (n+(y :: ys).length))) (elem:=elem) (grownCap_ge w (n+(y :: ys).length) old elem) (grownCap_le_maxLen w _ old elem hm) (sizes hxl hm)
   exact grown hn0 hes0 hxr hx1 hxl hb hm _ _ _ r1 r2 (fun j hj=>.inr ⟨rfl,hj⟩) (by rw [← h.g.len]; exact nth_append_new _ _) hrun
  have hml:∀ {n:Nat},(n+(y :: ys).length) * eb≤140737488355328→n+(y :: ys).length≤140737488355328:=fun {n} hb=>Nat.le_trans (Nat.le_mul_of_pos_right _ heb) hb
  split at ha
  ·-- nil
   injection ha with ha; injection ha with hc ha; injection ha with p q
   subst p; subst q
   have hb:=of_decide_eq_true hc
   cases h0 with
   | list _ _ _ hkk=>exact hkk.elim
   | lnil=>
    simp only [List.length_nil] at hb
    have hm:=hml hb
    refine fresh (n:=0) (old:=0) (xs:=[]) (es':=[]) rfl (fun e he=>by simp at he) .nil (by simp) (by simp) hb (by unfold maxLen; omega) ?_
    have hrun:=hA.nil hpos (by omega) (by rw [f3]; rw [Nat.zero_add] at hb; omega)
    simpa using hrun
  ·-- as long as its capacity
   split at ha
   ·rename_i hsz
    have hsz:=Nat.eq_of_beq_eq_true hsz
    subst hsz
    injection ha with ha; injection ha with hc ha; injection ha with p q
    subst p; subst q
    have hb:=of_decide_eq_true hc
    have hm:=hml hb
    obtain ⟨x0,xs,x1,x2,x3,x4⟩:=list_cells (esz:=sz) h0 (.inr rfl)
    rcases x4 with ⟨rfl,rfl,ad,rfl,hd⟩ | ⟨b,o',cap,rfl,xcap,xk,xcell,_⟩
    ·rcases hd with rfl | hd
     ·cases h0
     ·cases hd
    ·have hcap:cap=es.length:=xk
     subst hcap
     refine fresh (n:=es.length) (old:=es.length) (xs:=xs) (es':=es) rfl x0 x1 x2 x3 hb (by unfold maxLen; omega) ?_
     exact hA.grow hpos ⟨b,o',none⟩ es.length es.length xs (by rw [x3,f2]) xcell (by omega) (by omega) (growslice_fits (by omega) (by rw [f3]; exact hb))
   ·cases ha
  ·-- of a token
   rename_i id
   split at ha
   ·rename_i f sz' e' hgo
    split at ha
    ·rename_i hcnd
     simp only [Bool.and_eq_true] at hcnd
     obtain ⟨⟨q1,q2⟩,q3⟩:=hcnd
     have q1:=Nat.eq_of_beq_eq_true q1
     have q2:=Nat.eq_of_beq_eq_true q2
     have q3:=Nat.eq_of_beq_eq_true q3
     subst q1; subst q2; subst q3
     injection ha with ha; injection ha with hc ha; injection ha with p q
     subst p; subst q
     simp only [Bool.and_eq_true] at hc
     have hfl:=of_decide_eq_true hc.1
     have hb:=of_decide_eq_true hc.2
     subst hfl
     have hm:=hml hb
     obtain ⟨x0,xs,x1,x2,x3,x4⟩:=list_cells (esz:=sz) h0 (.inr rfl)
     rcases x4 with ⟨rfl,rfl,ad,rfl,hd⟩ | ⟨b,o',cap,rfl,xcap,xk,xcell,xE⟩
     ·obtain rfl:ad=none:=by
       rcases hd with hd | hd
       ·exact hd
       ·cases hd
      cases h0 with
      | @lown _ _ ro hro hon=>
      have hrep:=h.g.obj id _ _ hgo hro
      cases ro with
      | none=>exact hrep.elim
      | blk _=>exact hrep.elim
      | tok f' g c=>
       obtain ⟨rfl,_⟩:=hrep
       simp [OwnNil] at hon
      | fam _=>exact hrep.elim
      | nil0=>
       simp only [List.length_nil] at hb
       have hrun:=hA.nil hpos (by omega) (by rw [f3]; rw [Nat.zero_add] at hb; omega)
       have hsz:=sizes (n:=0) (old:=0) (xs:=[]) (by simp) (by unfold maxLen; omega)
       obtain ⟨r1,r2⟩:=h.tokSet (cur:=[].toArray++us.toArray++Builtin.zeroCells zc.cells (grownCap w (0+(y :: ys).length) 0 e' - (0+(y :: ys).length))) (elem:=e') (n:=0+(y :: ys).length) (cap:=grownCap w (0+(y :: ys).length) 0 e') hgo hro (fun b c=>by simp only [RoLe]; omega) (grownCap_ge w _ _ _) (grownCap_le_maxLen w _ _ _ (by unfold maxLen; omega)) hsz
       exact grown (n:=0) (es':=[]) rfl (fun e he=>by simp at he) .nil (by simp) (by simp) hb (by unfold maxLen; omega) _ _ _ r1 r2 (fun j hj=>.inr ⟨rfl,hj⟩) (nth_setN_self hro) (by simpa using hrun)
     ·obtain ⟨ro,hro,hlk⟩:=xk
      have hrep:=h.g.obj id _ _ hgo hro
      cases ro with
      | none=>exact hrep.elim
      | nil0=>exact hlk.elim
      | blk _=>exact hrep.elim
      | fam _=>exact hrep.elim
      | tok f' g c=>
       obtain ⟨rfl,cur,hcur,k1,k3,k4,k5⟩:=hrep
       obtain ⟨rfl,rfl,rfl⟩:=hlk.2 rfl
       by_cases hroom:es.length+(y :: ys).length≤cap
       ·have hle:(es.length+(y :: ys).length) * sz≤cap * sz:=Nat.mul_le_mul_right _ hroom
        have hrun:=hA.room hpos b es.length cap cur hcur hroom (by rw [f2,y3,← Nat.add_mul,k4]; exact hle)
        rw [f2] at hrun
        obtain ⟨r0,r1,r2⟩:=h.tokRoom (news:=us) (n:=es.length+(y :: ys).length) hgo hro (by omega) hroom hcur k4 k3 (by rw [y3,← Nat.add_mul])
        refine ⟨_,_,_,_,β,hfin hrun,.inl rfl,r1.put o.dst ?_,by rw [boxes_put]; exact r2⟩
        have hnew:=setRow_heap w b cur (cur.toList.take (es.length * sz)++us++cur.toList.drop (es.length * sz+us.length)).toArray e' (0,0) hcur
        have hxs:cur.toList.take (es.length * sz)=xs:=by
         have hl1:xs.length=es.length * sz:=x3
         apply List.ext_getElem?
         intro j
         rw [List.getElem?_take]
         split
         ·rename_i hj
          have hj':j < xs.length:=by omega
          have hx':=xcell j xs[j] (List.getElem?_eq_getElem hj')
          rw [addr_add,Nat.zero_add,cell_of_row w b j cur e' (0,0) hcur] at hx'
          rw [Array.getElem?_toList,hx',List.getElem?_eq_getElem hj']
         ·rw [List.getElem?_eq_none (by omega)]
        refine Rel.list (relE_row (vs:=xs++us) (elOk_append x0 y0) (by rw [cellsL_append]; exact (x1.mono r0).append (y1.mono r0)) (one_append x2 y2) (fun j v hj=>?_) (fun j hj=>.inr ⟨rfl,by rw [List.length_append,x3,y3,← Nat.add_mul] at hj; exact hj⟩)) (by simp) hroom ⟨_,nth_setN_self hro,Nat.le_refl _,fun _=>⟨rfl,rfl,rfl⟩⟩
        rw [cell_of_row _ _ j _ _ _ hnew,hxs]
        simp only [List.getElem?_toArray]
        rw [List.getElem?_append_left (List.getElem?_eq_some_iff.1 hj).1]
        exact hj
       ·have hrun:=hA.grow hpos ⟨b,0,none⟩ es.length cap xs (by rw [x3,f2]) xcell (by omega) (by omega) (growslice_fits (by omega) (by rw [f3]; exact hb))
        obtain ⟨r1,r2⟩:=h.tokSet (cur:=xs.toArray++us.toArray++Builtin.zeroCells zc.cells (grownCap w (es.length+(y :: ys).length) cap e' - (es.length+(y :: ys).length))) (elem:=e') (n:=es.length+(y :: ys).length) (cap:=grownCap w (es.length+(y :: ys).length) cap e') hgo hro (fun b c=>⟨by omega,fun e=>by omega⟩) (grownCap_ge w _ _ _) (grownCap_le_maxLen w _ _ _ (by unfold maxLen; omega)) (sizes x3 (by unfold maxLen; omega))
        exact grown rfl x0 x1 x2 x3 hb (by unfold maxLen; omega) _ _ _ r1 r2 (fun j hj=>.inr ⟨rfl,hj⟩) (nth_setN_self hro) hrun
    ·cases ha
   ·cases ha
  ·-- of a member of a family
   rename_i id j
   split at ha
   ·rename_i fs sz' e' hgo
    split at ha
    ·rename_i hcnd
     simp only [Bool.and_eq_true] at hcnd
     obtain ⟨⟨q1,q2⟩,q3⟩:=hcnd
     have q1:=Nat.eq_of_beq_eq_true q1
     have q2:=Nat.eq_of_beq_eq_true q2
     have q3:=Nat.eq_of_beq_eq_true q3
     subst q1; subst q2; subst q3
     injection ha with ha; injection ha with hc ha; injection ha with p q
     subst p; subst q
     simp only [Bool.and_eq_true,decide_eq_true_eq] at hc
     exact exec_append_fam h hfin heb hz hzn f2 f3 f6 h0 (fun zc' hzc'=>hA' zc' hzc') y0 y1 y2 y3 hgo hc.1 hc.2
    ·cases ha
   ·cases ha
  ·cases ha
 ·-- a slice that grows, and nothing
  injection ha with ha; injection ha with _ ha; injection ha with p q
  subst p; subst q
  refine done_value (s:=s) h (c:=cx) (hfin ?_) h0
  cases h0 with
  | gnil=>exact hA.zero rfl _ _ _ (Nat.le_refl 0)
  | gsl _ _ hcap=>exact hA.zero rfl _ _ _ hcap
 ·-- a slice that grows
  rename_i id f' off sz len y ys hA
  split at ha
  ·rename_i es sz' e' hgo
   split at ha
   ·rename_i hcnd
    simp only [Bool.and_eq_true] at hcnd
    obtain ⟨⟨q1,q2⟩,q3⟩:=hcnd
    have q1:=Nat.eq_of_beq_eq_true q1
    have q2:=Nat.eq_of_beq_eq_true q2
    have q3:=Nat.eq_of_beq_eq_true q3
    subst q1; subst q2; subst q3
    injection ha with ha; injection ha with hc ha; injection ha with p q
    subst p; subst q
    simp only [Bool.and_eq_true,decide_eq_true_eq] at hc
    exact exec_append_gro h hfin heb hz hzn f2 f3 f6 h0 (fun zc' hzc'=>hA' zc' hzc') y0.g y1 y2 y3 hgo hc.1.1.1 hc.1.1.2 hc.1.2 hc.2
   ·cases ha
  ·cases ha
 ·cases ha
theorem exec_append (h:Rep E R w β s a) {args:Array Operand} {t:TypeId} (ho:o.op=.call { callee:=.builtin .append,args:=args,argTypes:=#[t,t] }) {x:AV} {k2:LK} {sz2:Nat} {ys:List AV}
  (hl:evL E s.slots args.toList=some [x,.list k2 sz2 ys]) {i:TI} (hi:E.ti t=some i) {elem esz eb:Nat} {ag:Bool} {z:AV} (hk:i.k=.sl elem esz ag eb (some z)) (hsz2:ys=[]∨sz2=esz) (_hes:1≤esz) (heb:1≤eb) (hz:z.cells.length=esz) (hzn:z.notTup=true)
  {v:AV} {G':List GO} (ha:appendA s.G elem esz eb x ys=some (true,v,G')) :
  Done E R w β s a o ((s.inG G').put o.dst (.v v)):=by
 have hr:=evL_rel h hl
 generalize hv:args.toList.map a.eval=vs at hr
 have hx:=exec_builtin (E:=E) (w:=w) ho vs hv
 cases hr with
 | @cons _ cx _ _ h0 h1=>
 cases h1 with
 | @cons _ cy _ _ h1 h2=>
 cases h2
 obtain ⟨info,u,e1,e2,e3,e4,e5,e6⟩:=ti_info E hi
 have hk0:=hk
 rw [hk] at e5
 obtain ⟨ie,ue,rfl,f1,f2,f3,f4,f5,f6⟩:=tkOf_sl e5
 have hargs:(⟨[cx,cy]⟩:Array Value)=#[cx,cy]:=rfl
 obtain ⟨y0,us,y1,y2,y3,y4⟩:=list_cells (esz:=esz) h1 hsz2
 refine exec_append_core h (cx:=cx) (cy:=cy) (t:=t) (u:=t) (fun hh=>?_) hk0 heb hz hzn f1 f2 f3 f6 h0 (fun zc hzc=>?_) y0 y1 y2 y3 ha
 ·rw [hx]
  simp only [builtin,hargs,Sem.run_bind,hh,Result.andThen_ok,Sem.run_pure]
 ·rcases y4 with ⟨rfl,rfl,ad,rfl,_⟩ | ⟨by',oy,capy,rfl,ycap,_,ycell,yE⟩
  ·refine ⟨fun _ base len cap hlc=>?_,fun hh=>absurd hh (by simp),fun hh=>absurd hh (by simp),fun hh=>absurd hh (by simp)⟩
   cases ad <;> simp [Builtin.append_,run_underlying e2,run_sizeOf w f1,Builtin.lenOf,Builtin.firstCells,hlc,storeCells,loadCells,loadCellsFrom] <;>
    cases base <;> simp [storeCells]
  ·refine ⟨fun hn base len cap hlc=>?_,fun hh h63 h48=>run_append_nil (P:=E.P) w t o.type elem ie zc e2 f1 hzc _ _ capy us (by rw [y3,f2]) ycell hh h63 h48,fun _ b sLen sCap olds hlo hol hg h63 h48=>run_append_grow (P:=E.P) w t o.type elem ie zc e2 f1 hzc b sLen sCap olds hlo hol _ _ capy us (by rw [y3,f2]) ycell hg h63 h48,fun _ g sLen sCap cur hg hroom hfit=>run_append_room (P:=E.P) w t o.type elem ie e2 f1 g sLen sCap cur hg _ _ capy us (by rw [y3,f2]) ycell y2 hroom hfit⟩
   rw [hn]
   simp [Builtin.append_,run_underlying e2,run_sizeOf w f1,Builtin.lenOf,Builtin.firstCells,hlc,storeCells,loadCells,loadCellsFrom]
   cases base <;> simp [storeCells]
theorem relL_bytes:∀ (bs:List UInt8),RelL R w (cellsL (bs.map byteA)) (Lib.strCells ⟨⟨bs⟩⟩)
 | []=>.nil
 | b :: bs=>.cons (Rel.int .u8 b.toNat) (relL_bytes bs)
theorem exec_append_str (h:Rep E R w β s a) {args:Array Operand} {t u:TypeId} (ho:o.op=.call { callee:=.builtin .append,args:=args,argTypes:=#[t,u] }) {x:AV} {bs:List UInt8}
  (hl:evL E s.slots args.toList=some [x,.str bs]) {i j:TI} (hi:E.ti t=some i) (hj:E.ti u=some j) {elem eb:Nat} {ag:Bool} {z:AV} (hk:i.k=.sl elem 1 ag eb (some z)) (hjk:j.k=.str) (heb:1≤eb) (hz:z.cells.length=1) (hzn:z.notTup=true)
  {v:AV} {G':List GO} (ha:appendA s.G elem 1 eb x (bs.map byteA)=some (true,v,G')) :
  Done E R w β s a o ((s.inG G').put o.dst (.v v)):=by
 have hr:=evL_rel h hl
 generalize hv:args.toList.map a.eval=vs at hr
 have hx:=exec_builtin (E:=E) (w:=w) ho vs hv
 cases hr with
 | @cons _ cx _ _ h0 h1=>
 cases h1 with
 | @cons _ cy _ _ h1 h2=>
 cases h2
 obtain ⟨info,ud,e1,e2,e3,e4,e5,e6⟩:=ti_info E hi
 obtain ⟨info',ud',g1,g2,g3,g4,g5,g6⟩:=ti_info E hj
 rw [hjk] at g5
 have:=tkOf_str g5
 subst this
 have hk0:=hk
 rw [hk] at e5
 obtain ⟨ie,ue,rfl,f1,f2,f3,f4,f5,f6⟩:=tkOf_sl e5
 cases h1
 have hsz:(⟨⟨bs⟩⟩:ByteArray).size=bs.length:=rfl
 have hlen:(bs.map byteA).length=bs.length:=List.length_map _
 have hargs:(⟨[cx,.string ⟨⟨bs⟩⟩]⟩:Array Value)=#[cx,.string ⟨⟨bs⟩⟩]:=rfl
 have hcl:(Lib.strCells ⟨⟨bs⟩⟩).length=bs.length:=Lib.strCells_length _
 refine exec_append_core h (cx:=cx) (cy:=.string ⟨⟨bs⟩⟩) (us:=Lib.strCells ⟨⟨bs⟩⟩) (t:=t) (u:=u) (fun hh=>?_) hk0 heb hz hzn f1 f2 f3 f6 h0 (fun zc hzc=>?_) ?_ (relL_bytes bs) (Lib.strCells_oneCell _) (by rw [hcl,hlen,Nat.mul_one]) ha
 ·rw [hx]
  simp only [builtin,hargs,Sem.run_bind,hh,Result.andThen_ok,Sem.run_pure]
 ·rw [hlen]
  refine ⟨fun hn base len cap hlc=>?_,fun hh h63 h48=>?_,fun _ b sLen sCap olds hlo hol hg h63 h48=>Lib.run_append_grow_string (P:=E.P) w t u o.type elem ie zc e2 g2 f1 hzc b sLen sCap olds hlo hol ⟨⟨bs⟩⟩ hg h63 h48,fun _ g sLen sCap cur hg hroom hfit=>?_⟩
  ·have hb:bs=[]:=List.eq_nil_of_length_eq_zero hn
   subst hb
   have hz0:(⟨⟨[]⟩⟩:ByteArray).size=0:=rfl
   simp [hz0,Builtin.append_,run_underlying e2,run_underlying g2,run_sizeOf w f1,Builtin.lenOf,Builtin.firstCells,hlc,storeCells]
   cases base <;> simp [storeCells]
  ·rw [run_append_nil_string (P:=E.P) w t u o.type elem ie zc e2 g2 f1 hzc ⟨⟨bs⟩⟩ hh h63 h48]
   simp [Lib.strCells,hsz]
  ·have:=Lib.run_append_room_string (P:=E.P) w t u o.type elem ie e2 g2 f1 f2 g sLen sCap cur hg ⟨⟨bs⟩⟩ hroom (by rw [f2,Nat.mul_one,hcl] at hfit; exact hfit)
   rw [this,f2,Nat.mul_one,hcl]
   rfl
 ·intro e he
  obtain ⟨b,_,rfl⟩:=List.mem_map.1 he
  exact ⟨rfl,rfl,rfl⟩
end ops
end Go.Am
