/- The abstract machine: what it does is what the model does: slices that grow and are written. -/
import Derived.Test.YtldcljfjjoidhaaGreatDoorAmKC
import Derived.Lib.AppendStr
set_option linter.all false
namespace Go.Am
open Go
section lists
theorem uF {α:Type} (c us:List α) (n p sz off:Nat) (hn:n≤c.length) (hp:p+sz≤n) (ho:off+us.length≤sz) :
  (c.take (p+off)++us++c.drop (p+off+us.length)).take n =
   (c.take n).take p++((((c.take n).drop p).take sz).take off++us++(((c.take n).drop p).take sz).drop (off+us.length))++(c.take n).drop (p+sz):=by
 apply List.ext_getElem?
 intro j
 simp only [List.getElem?_append,List.getElem?_take,List.getElem?_drop,List.length_append,List.length_take,List.length_drop]
 by_cases h1:j < p
 ·rw [if_pos (by omega),if_pos (by omega),if_pos (by omega),if_pos (by omega),if_pos (by omega),if_pos (by omega),if_pos (by omega),if_pos (by omega)]
 ·by_cases h2:j < p+off
  ·rw [if_pos (by omega),if_pos (by omega),if_pos (by omega),if_pos (by omega),if_pos (by omega),if_neg (by omega),if_pos (by omega),if_pos (by omega),if_pos (by omega),if_pos (by omega),if_pos (by omega)]
   congr 1; omega
  ·by_cases h3:j < p+off+us.length
   ·rw [if_pos (by omega),if_pos (by omega),if_neg (by omega),if_pos (by omega),if_neg (by omega),if_pos (by omega),if_neg (by omega)]
    congr 1; omega
   ·by_cases h4:j < p+sz
    ·rw [if_pos (by omega),if_neg (by omega),if_pos (by omega),if_neg (by omega),if_neg (by omega),if_pos (by omega),if_pos (by omega)]
     congr 1; omega
    ·by_cases h5:j < n
     ·rw [if_pos (by omega),if_neg (by omega),if_neg (by omega),if_pos (by omega)]
      congr 1; omega
     ·rw [if_neg (by omega),if_neg (by omega),if_neg (by omega)]
theorem pw {sz:Nat}:∀ {es:List AV} {i:Nat} {e:AV},de sz es→nth es i=some e→((ar es).drop (i * sz)).take sz=e.cells
 | [],_,_,_,h=>by simp [nth] at h
 | x :: es,0,e,h,hi=>by
  simp only [nth] at hi
  cases hi
  have h1:=(h x (by simp)).1
  rw [Nat.zero_mul,List.drop_zero]
  simp only [ar]
  rw [← h1,List.take_left]
 | x :: es,i+1,e,h,hi=>by
  have h1:=(h x (by simp)).1
  have ih:=pw (i:=i) (fun y hy=>h y (by simp [hy])) (show nth es i=some e from hi)
  simp only [ar]
  rw [show (i+1) * sz=x.cells.length+i * sz by rw [h1,Nat.succ_mul]; omega,List.drop_append,List.drop_of_length_le (by omega),List.nil_append,Nat.add_sub_cancel_left]
  exact ih
theorem qi {sz:Nat} {l r:List AV} (h:de sz l) (k:de sz r):de sz (l++r):=fun e he=>by
 rcases List.mem_append.1 he with he | he
 ·exact h e he
 ·exact k e he
theorem xR {sz:Nat} {l:List AV} (n:Nat) (h:de sz l):de sz (l.take n):=fun e he=>h e (List.mem_of_mem_take he)
theorem FN {sz:Nat} {l:List AV} (n:Nat) (h:de sz l):de sz (l.drop n):=fun e he=>h e (List.mem_of_mem_drop he)
theorem iz {sz:Nat}:∀ {es:List AV} (i:Nat),de sz es→ar (es.take i)=(ar es).take (i * sz)
 | [],i,_=>by simp [ar]
 | e :: es,0,_=>by simp [ar]
 | e :: es,i+1,h=>by
  have h1:=(h e (by simp)).1
  simp only [List.take_succ_cons,ar]
  rw [iz i (fun y hy=>h y (by simp [hy])),show (i+1) * sz=e.cells.length+i * sz by rw [h1,Nat.succ_mul]; omega,List.take_append,Nat.add_sub_cancel_left,List.take_of_length_le (by omega:e.cells.length≤e.cells.length+i * sz)]
theorem mU {sz:Nat}:∀ {es:List AV} (i:Nat),de sz es→ar (es.drop i)=(ar es).drop (i * sz)
 | [],i,_=>by simp [ar]
 | e :: es,0,_=>by simp [ar]
 | e :: es,i+1,h=>by
  have h1:=(h e (by simp)).1
  simp only [List.drop_succ_cons,ar]
  rw [mU i (fun y hy=>h y (by simp [hy])),show (i+1) * sz=e.cells.length+i * sz by rw [h1,Nat.succ_mul]; omega,List.drop_append,List.drop_of_length_le (by omega:e.cells.length≤e.cells.length+i * sz),List.nil_append,Nat.add_sub_cancel_left]
theorem cQ {sz:Nat} {es:List AV} (h:de sz es):(ar es).length=es.length * sz:=by
 induction es with
 | nil=>simp [ar]
 | cons e es ih=>
  have h1:=(h e (by simp)).1
  have:=ih (fun x hx=>h x (by simp [hx]))
  simp only [ar,List.length_append,this,h1,List.length_cons,Nat.add_mul]
  omega
theorem CG {sz:Nat} {es:List AV} {i:Nat} {v:AV} (h:de sz es) (h1:v.cells.length=sz) (h2:v.aR=true):de sz (ay es i v):=fun e he=>by
 rw [fm] at he
 rcases List.mem_or_eq_of_mem_set he with he | rfl
 ·exact h e he
 ·exact ⟨h1,h2⟩
theorem Az {sz:Nat} {es:List AV} {i:Nat} {v:AV} (h:de sz es) (hi:i < es.length) (hv:v.cells.length=sz):ar (ay es i v)=aZ (ar es) (i * sz) v.cells:=by
 have CH:i * sz+sz≤es.length * sz:=by
  rw [← Nat.succ_mul]
  exact Nat.mul_le_mul_right _ hi
 rw [fm,List.set_eq_take_append_cons_drop,if_pos hi,dQ _ _ _ (by rw [hv,cQ h]; exact CH),cD,iz i h,hv]
 simp only [ar]
 rw [mU (i+1) h,Nat.succ_mul,List.append_assoc]
end lists
section ops
variable {E:Env} {R:ak} {w:World} {β:Nat→Nat} {s:St} {a:Act} {o:Oper}
theorem lR {G:List GO} (h:cW E R w G) {id:Nat} {es:List AV} {sz:Nat} {el:TypeId} {ro:RO} (hid:nth G id=some (.cO es sz el)) (bL:nth R.obj id=some ro) (hn:ro≠.bA) :
  ∃ b c cur vs,ro=.tok es.length b c∧de sz es∧w.heap[b]?=some (.cells cur el (0,0))∧es.length≤c∧c≤maxLen∧cur.size=c * sz∧(∀ o,¬ R.I b o)∧aG R w (ar es) vs∧(∀ v∈vs,v.oneCell'=true)∧cur.toList.take (es.length * sz)=vs:=by
 have hr:=h.obj id _ _ hid bL
 cases ro with
 | none=>exact hr.elim
 | bA=>exact absurd rfl hn
 | bT b=>exact hr.elim
 | a7 _=>exact hr.elim
 | tok f b c=>
  obtain ⟨rfl,h1,cur,vs,h2,h3,h4,h5,h6,h7,h8,h9⟩:=hr
  exact ⟨b,c,cur,vs,rfl,h1,h2,h3,h4,h5,h6,h7,h8,h9⟩
theorem uG {id f i sz:Nat} {t:TypeId} {v:AV} (h:ui E s id f i sz t=some (true,v)) :
  ∃ es el e,nth s.G id=some (.cO es sz el)∧f=es.length∧nth es i=some e∧gV e v:=by
 unfold ui at h
 split at h
 ·rename_i es bG el hid
  split at h
  ·rename_i p hp
   split at h
   ·rename_i dO
    have dO:=Nat.eq_of_beq_eq_true dO
    subst dO
    injection h with h
    injection h with h1 h2
    simp only [Bool.and_eq_true,decide_eq_true_eq] at h1
    obtain ⟨⟨h3,h4⟩,h5⟩:=h1
    obtain ⟨e,he⟩:∃ e,nth es i=some e:=⟨es[i],by rw [aX]; exact List.getElem?_eq_getElem h4⟩
    have hd:ah es i=e:=by simp [ah,he]
    rw [hd] at h5 h2
    rw [← h2]
    exact ⟨es,el,e,hid,h3,he,p.cE h5⟩
   ·cases h
  ·split at h
   ·rename_i dO
    have dO:=Nat.eq_of_beq_eq_true dO
    subst dO
    injection h with h
    injection h with h1 h2
    simp only [Bool.and_eq_true,decide_eq_true_eq] at h1
    obtain ⟨h3,h4⟩:=h1
    obtain ⟨e,he⟩:∃ e,nth es i=some e:=⟨es[i],by rw [aX]; exact List.getElem?_eq_getElem h4⟩
    have hd:ah es i=e:=by simp [ah,he]
    rw [hd] at h2
    rw [← h2]
    exact ⟨es,el,e,hid,h3,he,gV.refl e⟩
   ·cases h
 ·cases h
theorem Ep {α:Type} {l:List α} {i:Nat} {x:α} (h:nth l i=some x):x∈l:=by
 rw [aX] at h
 exact List.mem_of_getElem? h
theorem CI {i n sz:Nat} (h:i < n):i * sz+sz≤n * sz:=by
 rw [← Nat.succ_mul]
 exact Nat.mul_le_mul_right _ h
theorem CJ (h:ba E R w β s a) (t:TypeId) (x:Operand) (ho:o.op=.load t x) {v:AV} (hl:xF E s t (bw E s.ae x)=some (true,v)) :
  bQ E R w β s a o (s.put o.dst (.v v)):=by
 have rx:=aO h x
 unfold xF at hl
 split at hl
 ·rename_i id f i off sz ty hx
  rw [hx] at rx
  split at hl
  ·rename_i ti c ve QJ hg
   split at hl
   ·rename_i l hs
    split at hl
    ·rename_i r hm
     injection hl with hl
     injection hl with h1 h2
     subst h1; subst h2
     obtain ⟨es,el,e,hid,QN,he,zb⟩:=uG hg
     have di:Rel R w (.gp id f i off sz ty) (a.eval x):=rx
     generalize eE:a.eval x=xv at di
     cases di with
     | @gp _ _ _ _ _ b o' _ ro bL dR=>
     obtain ⟨b',c',cur,vs,rfl,g1,g2,g3,g4,g5,g6,g7,g8,g9⟩:=lR h.g hid bL (fun k=>by subst k; exact dR)
     obtain ⟨rfl,rfl⟩:=dR.2 QN
     have YB:=g1 e (Ep he)
     have dM:aG R w e.cells ((vs.drop (i * sz)).take sz):=by
      rw [← pw g1 he]
      exact (g7.drop _).take _
     have hw:=(zb.cells YB.2).rel dM
     obtain ⟨k1,k2,k3,k4⟩:=nX hs hw (fun y hy=>g8 y (List.mem_of_mem_drop (List.mem_of_mem_take hy)))
     obtain ⟨c,hc,hrr⟩:=mN (E:=E) QJ (b:=b) (off:=i * sz+off) k1 k2 k3 (fun j y hy=>by
      have h1:=k4 j y hy
      rw [List.getElem?_take] at h1
      split at h1
      ·rw [List.getElem?_drop,← g9,List.getElem?_take] at h1
       split at h1
       ·rw [cell_of_row w b _ cur el (0,0) g2,Nat.add_assoc,← Array.getElem?_toList]
        exact h1
       ·cases h1
      ·cases h1) hm
     refine aq h (c:=c) ?_ hrr
     simp [execOp,ho,Instr.loadAt,eE,Instr.sureAddr,hc]
    ·cases hl
   ·cases hl
  ·cases hl
 ·split at hl
  ·rename_i v' hv
   injection hl with hl
   injection hl with h1 h2
   subst h2
   exact FH h t x ho hv
  ·cases hl
theorem ba.CK (h:ba E R w β s a) {id f b c:Nat} {es es':List AV} {sz:Nat} {el:TypeId} {cur Ay:Array Value} {vs':List Value} (hid:nth s.G id=some (.cO es sz el)) (bL:nth R.obj id=some (.tok f b c))
  (hb:w.heap[b]?=some (.cells cur el (0,0))) (hlen:es'.length=es.length) (oL:de sz es') (dO:Ay.size=cur.size) (hr:aG R w (ar es') vs') (h1:∀ v∈vs',v.oneCell'=true) (ht:Ay.toList.take (f * sz)=vs') :
  ba E R (w.setRow b Ay) β (s.bW (ay s.G id (.cO es' sz el))) a∧Step R w β s.boxes R (w.setRow b Ay) β s.boxes:=by
 obtain ⟨q0,q1,U4,vs0,p1,p2,p3,p4,p5,p6,p7,p8⟩:=h.g.obj id _ _ hid bL
 rw [hb] at p1
 cases p1
 have hex:=gX (R:=R) (w:=w) p5 Ay
 have CL:∀ k cs,dc s.boxes k=some cs→β k≠b:=fun k cs hk e=>(h.b.box k cs hk).2.2 ⟨id,_,bL,by rw [e]; rfl⟩
 refine ⟨⟨⟨by simp [St.bW,h.g.len],fun iN go ro hg kG=>?_,h.g.inj,fun b' o' ru=>by have:=h.g.wf b' o' ru; simp; omega,fun g cs' hg=>(h.g.bY g cs' hg).mono hex,h.g.lo⟩,?_,h.t.mono hex,h.n,h.d⟩,?_⟩
 ·rcases cR hg with ⟨rfl,rfl,_⟩ | ⟨cw,po⟩
  ·rw [bL] at kG
   cases kG
   exact ⟨by rw [hlen]; exact q0,oL,Ay,vs',setRow_heap w _ _ _ _ (0,0) hb,p2,p3,by rw [dO]; exact p4,p5,hr.mono hex,h1,ht⟩
  ·refine (h.g.obj iN go ro po kG).mono hex (fun b' jy=>setRow_other w _ b' _ (fun e=>cw ?_)) (fun _ _ _ hi=>hi)
   subst e
   exact h.g.inj id iN _ _ b' bL kG rfl jy
 ·exact h.b.bo hex (fun k cs' gS=>setRow_other w _ _ _ (CL k cs' gS)) (fun _ _ _ _ hi=>hi) (fun _ _ _ hl=>hl)
 ·have yT:Own R β s.boxes b:=.inl ⟨id,_,bL,rfl⟩
  exact ⟨hex,rfl,rfl,rfl,by simp,fun b' _ hn=>setRow_other w _ b' _ (fun e=>hn (e ▸ yT)),fun _ _ hb=>hb,fun b o hi _ _=>hi⟩
theorem ba.Er (h:ba E R w β s a) {id b c i off:Nat} {es:List AV} {sz:Nat} {el:TypeId} {cur:Array Value} {vs us:List Value} {e':AV} (hid:nth s.G id=some (.cO es sz el)) (bL:nth R.obj id=some (.tok es.length b c))
  (hb:w.heap[b]?=some (.cells cur el (0,0))) (oL:de sz es) (hle:es.length≤c) (nY:cur.size=c * sz) (hr:aG R w (ar es) vs) (h1:∀ v∈vs,v.oneCell'=true) (ht:cur.toList.take (es.length * sz)=vs) (hi:i < es.length)
  (h2:∀ v∈us,v.oneCell'=true) (zd:off+us.length≤sz) (tg:e'.cells.length=sz) (U5:e'.aR=true) (U6:aG R w e'.cells (((vs.drop (i * sz)).take sz).take off++us++((vs.drop (i * sz)).take sz).drop (off+us.length))) :
  ba E R (w.setRow b ⟨cur.toList.take (i * sz+off)++us++cur.toList.drop (i * sz+off+us.length)⟩) β (s.bW (ay s.G id (.cO (ay es i e') sz el))) a ∧
   Step R w β s.boxes R (w.setRow b ⟨cur.toList.take (i * sz+off)++us++cur.toList.drop (i * sz+off+us.length)⟩) β s.boxes:=by
 have CH:=CI (sz:=sz) hi
 have K4:es.length * sz≤cur.toList.length:=by
  rw [show cur.toList.length=cur.size from Array.length_toList,nY]
  exact Nat.mul_le_mul_right _ hle
 have PB:vs.length=es.length * sz:=by rw [← hr.length,cQ oL]
 refine h.CK hid bL hb (gr _ _ _) (CG oL tg U5) ?_ (vs':=vs.take (i * sz)++(((vs.drop (i * sz)).take sz).take off++us++((vs.drop (i * sz)).take sz).drop (off+us.length))++vs.drop (i * sz+sz)) ?_ ?_ ?_
 ·rw [List.size_toArray,← Array.length_toList]
  simp only [List.length_append,List.length_take,List.length_drop]
  omega
 ·rw [Az oL hi tg,dQ _ _ _ (by rw [tg,cQ oL]; exact CH),tg]
  exact ((hr.take _).append U6).append (hr.drop _)
 ·intro v hv
  simp only [List.mem_append] at hv
  rcases hv with (hv | ((hv | hv) | hv)) | hv
  ·exact h1 v (List.mem_of_mem_take hv)
  ·exact h1 v (List.mem_of_mem_drop (List.mem_of_mem_take (List.mem_of_mem_take hv)))
  ·exact h2 v hv
  ·exact h1 v (List.mem_of_mem_drop (List.mem_of_mem_take (List.mem_of_mem_drop hv)))
  ·exact h1 v (List.mem_of_mem_drop hv)
 ·rw [List.toList_toArray,uF _ _ _ _ _ _ K4 CH zd,ht]
theorem ba.Es (h:ba E R w β s a) {id b c off:Nat} {es ns:List AV} {sz:Nat} {el:TypeId} {cur:Array Value} {vs us:List Value} (hid:nth s.G id=some (.cO es sz el)) (bL:nth R.obj id=some (.tok es.length b c))
  (hb:w.heap[b]?=some (.cells cur el (0,0))) (oL:de sz es) (hle:es.length≤c) (nY:cur.size=c * sz) (hr:aG R w (ar es) vs) (h1:∀ v∈vs,v.oneCell'=true) (ht:cur.toList.take (es.length * sz)=vs)
  (zd:off+ns.length≤es.length) (hns:de sz ns) (hu:aG R w (ar ns) us) (h2:∀ v∈us,v.oneCell'=true) :
  ba E R (w.setRow b ⟨cur.toList.take (off * sz)++us++cur.toList.drop (off * sz+us.length)⟩) β (s.bW (ay s.G id (.cO (aZ es off ns) sz el))) a ∧
   Step R w β s.boxes R (w.setRow b ⟨cur.toList.take (off * sz)++us++cur.toList.drop (off * sz+us.length)⟩) β s.boxes:=by
 have QO:us.length=ns.length * sz:=by rw [← hu.length,cQ hns]
 have CH:off * sz+ns.length * sz≤es.length * sz:=by rw [← Nat.add_mul]; exact Nat.mul_le_mul_right _ zd
 have K4:es.length * sz≤cur.toList.length:=by
  rw [show cur.toList.length=cur.size from Array.length_toList,nY]
  exact Nat.mul_le_mul_right _ hle
 have PB:vs.length=es.length * sz:=by rw [← hr.length,cQ oL]
 have hm:=uF cur.toList us (es.length * sz) (off * sz) (ns.length * sz) 0 K4 CH (by omega)
 simp only [Nat.add_zero,List.take_zero,List.nil_append,Nat.zero_add] at hm
 rw [QO,ht,show List.drop (ns.length * sz) (List.take (ns.length * sz) (List.drop (off * sz) vs))=[] from List.drop_of_length_le (by rw [List.length_take]; exact Nat.min_le_left _ _),List.append_nil] at hm
 rw [dQ _ _ _ zd]
 refine h.CK hid bL hb (by simp; omega) (qi (qi (xR _ oL) hns) (FN _ oL)) ?_ (vs':=vs.take (off * sz)++us++vs.drop (off * sz+ns.length * sz)) ?_ ?_ ?_
 ·rw [List.size_toArray,← Array.length_toList]
  simp only [List.length_append,List.length_take,List.length_drop,QO]
  omega
 ·rw [cD,cD,iz _ oL,mU _ oL,Nat.add_mul]
  exact ((hr.take _).append hu).append (hr.drop _)
 ·intro v hv
  simp only [List.mem_append] at hv
  rcases hv with (hv | hv) | hv
  ·exact h1 v (List.mem_of_mem_take hv)
  ·exact h2 v hv
  ·exact h1 v (List.mem_of_mem_drop hv)
 ·rw [List.toList_toArray,QO]
  exact hm
theorem AA (h:ba E R w β s a) (t:TypeId) (p x:Operand) (ho:o.op=.store t p x) (hd:o.dst=none) {s':St} (hs:iQ E s t (bw E s.ae p) (bw E s.ae x)=some (true,s')) :
  bQ E R w β s a o s':=by
 have rp:=aO h p
 have rx:=aO h x
 unfold iQ at hs
 split at hs
 ·rename_i id f i off sz ty UN
  rw [UN] at rp
  have UP:Rel R w (.gp id f i off sz ty) (a.eval p):=rp
  generalize UQ:a.eval p=pv at UP
  split at hs
  ·rename_i ti v es bG el QJ hx hid
   rw [hx] at rx
   split at hs
   ·rename_i eL
    simp only [Bool.and_eq_true] at eL
    obtain ⟨⟨KY,hlen⟩,QP⟩:=eL
    have hlen:=Nat.eq_of_beq_eq_true hlen
    have QP:=Nat.eq_of_beq_eq_true QP
    subst QP
    have rxw:Rel R w v (a.eval x):=rx
    obtain ⟨c1,c2⟩:=Rel.cells rxw KY
    have Ae:v.cells.length=(a.eval x).cells.toList.length:=c1.length
    cases UP with
    | @gp _ _ _ _ _ b o' _ ro bL dR=>
    obtain ⟨b',c',cur,vs,rfl,g1,g2,g3,g4,g5,g6,g7,g8,g9⟩:=lR h.g hid bL (fun k=>by subst k; exact dR)
    have PB:vs.length=es.length * sz:=by rw [← g7.length,cQ g1]
    have K4:es.length * sz≤cur.toList.length:=by
     rw [show cur.toList.length=cur.size from Array.length_toList,g5]
     exact Nat.mul_le_mul_right _ g3
    split at hs
    ·rename_i hw
     rw [Bool.and_eq_true] at hw
     have zd:=Nat.eq_of_beq_eq_true hw.1
     have T9:=Nat.eq_of_beq_eq_true hw.2
     subst zd
     injection hs with hs
     injection hs with h1 h2
     rw [Bool.and_eq_true,decide_eq_true_eq,decide_eq_true_eq] at h1
     subst h2
     obtain ⟨rfl,rfl⟩:=dR.2 h1.1
     have CH:=CI (sz:=sz) h1.2
     have bt:=jd (E:=E) (w:=w) QJ (b:=b) (vs:=cur.toList) (off:=i * sz+0) (c:=a.eval x) g2 (by rw [← Ae]; exact hlen) (by rw [← Ae]; omega) c2
     obtain ⟨r1,r2⟩:=h.Er (us:=(a.eval x).cells.toList) (off:=0) (i:=i) (e':=v) hid bL g2 g1 g3 g5 g7 g8 g9 h1.2 c2 (by rw [← Ae]; omega) (by omega) KY (by
      rw [List.take_zero,List.nil_append,Nat.zero_add,List.drop_of_length_le (by rw [List.length_take,← Ae]; omega),List.append_nil]
      exact c1)
     simp only [Nat.add_zero] at UQ bt r1 r2
     refine ⟨.skip,undef,_,R,β,?_,.inr ⟨rfl,rfl⟩,by rw [hd]; exact r1,r2⟩
     simp [execOp,ho,Instr.storeAt,UQ,Instr.sureAddr,bt]
    ·split at hs
     ·rename_i cc cs hg
      split at hs
      ·rename_i hw
       simp only [Bool.and_eq_true] at hw
       obtain ⟨hle,QQ⟩:=hw
       have hle:=Nat.le_of_ble_eq_true hle
       have QQ:=Nat.eq_of_beq_eq_true QQ
       injection hs with hs
       injection hs with h1 h2
       subst h1; subst h2
       obtain ⟨es0,el0,e,HA,QN,he,zb⟩:=uG hg
       rw [hid] at HA
       cases HA
       obtain ⟨rfl,rfl⟩:=dR.2 QN
       have hi:i < es.length:=bH he
       have CH:=CI (sz:=sz) hi
       have YB:=g1 e (Ep he)
       have dM:aG R w e.cells ((vs.drop (i * sz)).take sz):=by
        rw [← pw g1 he]
        exact (g7.drop _).take _
       have hw:=(zb.cells YB.2).rel dM
       have hw':aG R w cs ((vs.drop (i * sz)).take sz):=hw
       have bt:=jd (E:=E) (w:=w) QJ (b:=b) (vs:=cur.toList) (off:=i * sz+off) (c:=a.eval x) g2 (by rw [← Ae]; exact hlen) (by rw [← Ae]; omega) c2
       have Ag:off+v.cells.length≤cs.length:=by omega
       obtain ⟨r1,r2⟩:=h.Er (us:=(a.eval x).cells.toList) (off:=off) (i:=i) (e':=.agg (aZ cs off v.cells)) hid bL g2 g1 g3 g5 g7 g8 g9 hi c2 (by rw [← Ae]; omega) (by show (aZ cs off v.cells).length=sz; rw [wX _ _ _ Ag]; exact QQ) rfl (by
        show aG R w (aZ cs off v.cells) _
        rw [dQ _ _ _ Ag,Ae]
        exact ((hw'.take _).append c1).append (hw'.drop _))
       refine ⟨.skip,undef,_,R,β,?_,.inr ⟨rfl,rfl⟩,by rw [hd]; exact r1,r2⟩
       simp [execOp,ho,Instr.storeAt,UQ,Instr.sureAddr,bt]
      ·cases hs
     ·cases hs
   ·cases hs
  ·cases hs
 ·split at hs
  ·rename_i AB hv
   injection hs with hs
   injection hs with h1 h2
   subst h2
   exact Cv h t p x ho hd hv
  ·cases hs
def ak.reset (R:ak) (id:Nat) (ro:RO):ak:=⟨R.I,ay R.obj id ro⟩
theorem uH {id g:Nat} {r0 ro:RO} (hid:nth R.obj id=some r0) (bL:∀ b,ro.has b→b=g) {b:Nat} (hl:Live (R.reset id ro) b):b=g∨Live R b:=by
 obtain ⟨i,r,h1,h2⟩:=hl
 rcases aC hid h1 with ⟨_,rfl⟩ | ⟨_,h1⟩
 ·exact .inl (bL b h2)
 ·exact .inr ⟨i,r,h1,h2⟩
theorem ba.QR (h:ba E R w β s a) {cur:Array Value} {vs:List Value} {es es':List AV} {elem:TypeId} {sz cap id:Nat} {r0:RO} (hg:nth s.G id=some (.cO es sz elem)) (hid:nth R.obj id=some r0) (hf:∀ b c,ca r0 (.tok es'.length b c))
  (hn:es'.length≤cap) (hm:cap≤maxLen) (hs:cur.size=cap * sz) (oL:de sz es') (hr:aG R w (ar es') vs) (h1:∀ v∈vs,v.oneCell'=true) (ht:cur.toList.take (es'.length * sz)=vs) :
  ba E (R.reset id (.tok es'.length w.heap.size cap)) (w.drew.alloc (.cells cur elem)) β (s.bW (ay s.G id (.cO es' sz elem))) a ∧
  Step R w β s.boxes (R.reset id (.tok es'.length w.heap.size cap)) (w.drew.alloc (.cells cur elem)) β s.boxes:=by
 have e:Ext R w (R.reset id (.tok es'.length w.heap.size cap)) (w.drew.alloc (.cells cur elem)):=
  ⟨fun _ _ h=>h,fun b o hi=>bU (heap_alloc_old w.drew _ b (h.g.wf b o hi)) o,fun i r hr=>by
   by_cases ei:id=i
   ·subst ei
    rw [hid] at hr
    cases hr
    exact ⟨_,aD hid,hf _ _⟩
   ·exact ⟨r,by rw [ak.reset,bE ei]; exact hr,ca.refl r⟩,.old fun b hb=>heap_alloc_old w.drew _ b hb⟩
 have old:∀ b,b < w.heap.size→(w.drew.alloc (.cells cur elem)).heap[b]?=w.heap[b]?:=fun b hb=>heap_alloc_old w.drew _ b hb
 have new:(w.drew.alloc (.cells cur elem)).heap[w.heap.size]?=some (.cells cur elem (0,0)):=heap_alloc_new w.drew _
 have live:∀ b,b < w.heap.size→Live (R.reset id (.tok es'.length w.heap.size cap)) b→Live R b:=fun b hb hl=>by
  rcases uH (g:=w.heap.size) (ro:=.tok es'.length w.heap.size cap) hid (fun _ h=>h) hl with rfl | hl
  ·omega
  ·exact hl
 refine ⟨⟨⟨by simp [St.bW,ak.reset,h.g.len],fun i gg r um h2=>?_,fun i j ri rj b um h2 b1 b2=>?_,fun b o hi=>?_,fun g cs hg=>(h.g.bY g cs hg).mono e,Nat.le_succ_of_le h.g.lo⟩,?_,h.t.mono e,h.n,h.d.mono e⟩,?_⟩
 ·rcases aC hid h2 with ⟨rfl,rfl⟩ | ⟨cw,h2⟩
  ·simp only [St.bW] at um
   rw [aD hg] at um
   cases um
   exact ⟨rfl,oL,cur,vs,new,hn,hm,hs,fun o hi=>by have:=h.g.wf _ _ hi; omega,hr.mono e,h1,ht⟩
  ·simp only [St.bW] at um
   rw [bE (Ne.symm cw)] at um
   exact (h.g.obj i gg r um h2).mono e (fun b hb=>old b (h.g.bS ⟨i,r,h2,hb⟩)) (fun b o _ hi=>hi)
 ·rcases aC hid um with ⟨g3,e1⟩ | ⟨g3,g1⟩
  ·rcases aC hid h2 with ⟨g4,e2⟩ | ⟨g4,g2⟩
   ·omega
   ·have:=h.g.bS ⟨j,rj,g2,b2⟩
    rw [e1] at b1
    simp [RO.has] at b1
    omega
  ·rcases aC hid h2 with ⟨g4,e2⟩ | ⟨g4,g2⟩
   ·have:=h.g.bS ⟨i,ri,g1,b1⟩
    rw [e2] at b2
    simp [RO.has] at b2
    omega
   ·exact h.g.inj i j ri rj b g1 g2 b1 b2
 ·have:=h.g.wf b o hi
  simp
  omega
 ·exact h.b.bo e (fun k cs hk=>old _ (h.dD (.inr ⟨k,cs,hk,rfl⟩))) (fun k cs o hk hi=>hi) (fun k cs hk hl=>live _ (h.dD (.inr ⟨k,cs,hk,rfl⟩)) hl)
 ·refine ⟨e,rfl,rfl,rfl,by simp,fun b hb _=>old b hb,fun b hb ho=>?_,fun b o hi hb _=>hi⟩
  rcases ho with ho | ho
  ·exact .inl (live b hb ho)
  ·exact .inr ho
theorem ba.Lr (h:ba E R w β s a) {cur cur2:Array Value} {vs:List Value} {es es':List AV} {elem:TypeId} {sz id g c:Nat} (hg:nth s.G id=some (.cO es sz elem)) (hid:nth R.obj id=some (.tok es.length g c)) (bP:es.length < es'.length) (hn:es'.length≤c)
  (gT:w.heap[g]?=some (.cells cur elem (0,0))) (hs:cur2.size=cur.size) (oL:de sz es') (hr:aG R w (ar es') vs) (h1:∀ v∈vs,v.oneCell'=true) (ht:cur2.toList.take (es'.length * sz)=vs) :
  ba E (R.reset id (.tok es'.length g c)) (w.setRow g cur2) β (s.bW (ay s.G id (.cO es' sz elem))) a ∧
  Step R w β s.boxes (R.reset id (.tok es'.length g c)) (w.setRow g cur2) β s.boxes:=by
 obtain ⟨q0,q1,U4,vs0,p1,p2,p3,p4,p5,p6,p7,p8⟩:=h.g.obj id _ _ hg hid
 rw [gT] at p1
 cases p1
 have pt:Live R g:=⟨id,_,hid,rfl⟩
 have old:∀ b,b≠g→(w.setRow g cur2).heap[b]?=w.heap[b]?:=fun b hb=>setRow_other w g b cur2 hb
 have new:(w.setRow g cur2).heap[g]?=some (.cells cur2 elem (0,0)):=setRow_heap w g cur cur2 elem (0,0) gT
 have e:Ext R w (R.reset id (.tok es'.length g c)) (w.setRow g cur2):=by
  have e0:=gX (R:=R) (w:=w) p5 cur2
  refine ⟨fun _ _ h=>h,e0.cell,fun i r hr=>?_,e0.lp⟩
  by_cases ei:id=i
  ·subst ei
   rw [hid] at hr
   cases hr
   exact ⟨_,aD hid,by omega,fun e=>by omega⟩
  ·exact ⟨r,by rw [ak.reset,bE ei]; exact hr,ca.refl r⟩
 have live:∀ b,Live (R.reset id (.tok es'.length g c)) b→Live R b:=fun b hl=>by
  rcases uH (g:=g) (ro:=.tok es'.length g c) hid (fun _ h=>h) hl with rfl | hl
  ·exact pt
  ·exact hl
 have pu:∀ k cs,dc s.boxes k=some cs→β k≠g:=fun k cs hk eq=>(h.b.box k cs hk).2.2 (eq ▸ pt)
 refine ⟨⟨⟨by simp [St.bW,ak.reset,h.g.len],fun i gg r um h2=>?_,fun i j ri rj b um h2 b1 b2=>?_,fun b o hi=>?_,fun g cs hg=>(h.g.bY g cs hg).mono e,h.g.lo⟩,?_,h.t.mono e,h.n,h.d.mono e⟩,?_⟩
 ·rcases aC hid h2 with ⟨rfl,rfl⟩ | ⟨cw,h2⟩
  ·simp only [St.bW] at um
   rw [aD hg] at um
   cases um
   exact ⟨rfl,oL,cur2,vs,new,hn,p3,by rw [hs]; exact p4,p5,hr.mono e,h1,ht⟩
  ·simp only [St.bW] at um
   rw [bE (Ne.symm cw)] at um
   have QL:∀ b,r.has b→b≠g:=fun b hb eq=>cw (h.g.inj i id _ _ b h2 hid hb (by rw [eq]; rfl))
   exact (h.g.obj i gg r um h2).mono e (fun b hb=>old b (QL b hb)) (fun b o hb hi=>hi)
 ·rcases aC hid um with ⟨g3,e1⟩ | ⟨g3,g1⟩
  ·rcases aC hid h2 with ⟨g4,e2⟩ | ⟨g4,g2⟩
   ·omega
   ·rw [e1] at b1
    exact g3.trans (h.g.inj id j _ _ b hid g2 b1 b2)
  ·rcases aC hid h2 with ⟨g4,e2⟩ | ⟨g4,g2⟩
   ·rw [e2] at b2
    exact (h.g.inj i id _ _ b g1 hid b1 b2).trans g4.symm
   ·exact h.g.inj i j ri rj b g1 g2 b1 b2
 ·have:=h.g.wf b o hi
  simpa using this
 ·exact h.b.bo e (fun k cs hk=>old _ (pu k cs hk)) (fun k cs o hk hi=>hi) (fun k cs hk hl=>live _ hl)
 ·refine ⟨e,rfl,rfl,rfl,by simp,fun b hb rH=>old b (fun eq=>rH (.inl (eq ▸ pt))),fun b hb ho=>?_,fun b o hi hb rH=>hi⟩
  rcases ho with ho | ho
  ·exact .inl (live b ho)
  ·exact .inr ho
theorem ba.HB (h:ba E R w β s a) {cur:Array Value} {vs:List Value} {es:List AV} {elem:TypeId} {sz cap:Nat} (hn:es.length≤cap) (hm:cap≤maxLen) (hs:cur.size=cap * sz) (oL:de sz es) (hr:aG R w (ar es) vs) (h1:∀ v∈vs,v.oneCell'=true) (ht:cur.toList.take (es.length * sz)=vs) :
  ba E (R.add (.tok es.length w.heap.size cap)) (w.alloc (.cells cur elem)) β (s.dw (.cO es sz elem)) a:=
 h.kF (.cells cur elem) (.cO es sz elem) (.tok es.length w.heap.size cap) (by exact fun _ h=>h)
  ⟨rfl,oL,cur,vs,heap_alloc_new w _,hn,hm,hs,fun o hi=>by have:=h.g.wf _ _ hi; omega,hr.mono (fX h.g.wf _ _),h1,ht⟩
theorem tn (h:ba E R w β s a) (t:TypeId) (x y:Operand) (ho:o.op=.makeSlice t x y) {i:TI} (hi:E.ti t=some i) {k k':IntKind} {n m:Int} (hx:bw E s.ae x=.v (.int k n)) (hy:bw E s.ae y=.v (.int k' m))
  {elem esz oD:Nat} {ag:Bool} {z:AV} (hk:i.k=.sl elem esz ag oD (some z)) (hz:z.cells.length=esz) (FM:1≤esz) (pV:z.aR=true) (pq:z.closed=true) (hc:0≤n∧n≤m∧m≤140737488355328∧m * oD≤140737488355328) :
  bQ E R w β s a o ((s.dw (.cO (List.replicate n.toNat z) esz elem)).put o.dst (.v (.du s.G.length n.toNat 0 esz n.toNat))):=by
 obtain ⟨us,z1,z2,bt⟩:=oO h t x y ho hi hx hy hk hz FM pV hc
 have Ua:n.toNat≤m.toNat:=by omega
 have oL:=(eX (n:=m.toNat) hz pV pq).g
 have QO:us.length=m.toNat * esz:=by rw [← z1.length,cQ oL,List.length_replicate]
 have K4:(List.replicate n.toNat z).length=n.toNat:=List.length_replicate
 have FO:(List.replicate m.toNat z).take n.toNat=List.replicate n.toNat z:=by rw [List.take_replicate,Nat.min_eq_left Ua]
 have hr:aG R w (ar (List.replicate n.toNat z)) (us.take (n.toNat * esz)):=by
  rw [← FO,iz _ oL]
  exact z1.take _
 have r1:=h.HB (cur:=⟨us⟩) (vs:=us.take (n.toNat * esz)) (es:=List.replicate n.toNat z) (elem:=elem) (cap:=m.toNat) (by rw [K4]; exact Ua) (by unfold maxLen; omega) (by simpa using QO) (eX hz pV pq).g hr (fun v hv=>z2 v (List.mem_of_mem_take hv)) (by rw [K4])
 rw [K4] at r1
 have e:=fX (R:=R) (w:=w) h.g.wf (.cells ⟨us⟩ elem) (.tok n.toNat w.heap.size m.toNat)
 exact ⟨_,.slice (some ⟨w.heap.size,0,none⟩) n.toNat m.toNat,_,R.add (.tok n.toNat w.heap.size m.toNat),β,bt,.inl rfl,r1.put o.dst (x:=.v (.du s.G.length n.toNat 0 esz n.toNat)) (Rel.du (fY h _) ⟨Nat.le_refl _,fun _=>⟨rfl,Nat.zero_add _,.inl (Nat.zero_mul _).symm⟩⟩ Ua),by rw [aW]; exact cT h _ _ (by exact fun _ h=>h)⟩
theorem rI (h:ba E R w β s a) (t:TypeId) (len:Nat) (parts:Array (Nat × Operand)) (ho:o.op=.buildSlice t len parts) {k:LK} {esz:Nat} {es:List AV} (hv:bX E s t len parts.toList=some (.list k esz es)) {i:TI} (hi:E.ti t=some i) {elem bG oD:Nat} {ag:Bool} {z:Option AV} (hk:i.k=.sl elem bG ag oD z) (hm:len≤65536) :
  bQ E R w β s a o ((s.dw (.cO es esz elem)).put o.dst (.v (.du s.G.length len 0 esz len))):=by
 obtain ⟨es',QF,us,U2,UZ,bt,g2,hlen,u2,u3,i',Yz,UY,z',ru,gS⟩:=gH h t len parts ho hv
 cases UZ
 rw [hi] at ru
 cases ru
 rw [hk] at gS
 cases gS
 have U3:us.length=len * esz:=by rw [← u2.length,dj g2,hlen]
 have r1:=h.HB (cur:=⟨us⟩) (vs:=us) (es:=es) (elem:=elem) (cap:=len) (by rw [hlen]; exact Nat.le_refl _) (by simp [maxLen]; omega) (by simpa using U3) g2.g u2 u3 (by rw [hlen,← U3]; exact List.take_length)
 rw [hlen] at r1
 exact ⟨_,.slice (some ⟨w.heap.size,0,none⟩) len len,_,R.add (.tok len w.heap.size len),β,bt,.inl rfl,r1.put o.dst (x:=.v (.du s.G.length len 0 esz len)) (Rel.du (fY h _) ⟨Nat.le_refl _,fun _=>⟨rfl,Nat.zero_add _,.inl (Nat.zero_mul _).symm⟩⟩ (Nat.le_refl _)),by rw [aW]; exact cT h _ _ (by exact fun _ h=>h)⟩
end ops
end Go.Am
namespace Go.Am
open Go
section fams
variable {E:Env} {R R':ak} {w w':World} {β β':Nat→Nat} {s s':St} {a a':Act} {o:Oper}
theorem rJ {α:Type} {l r:List α} {i:Nat} {x:α} (h:nth r i=some x):nth (l++r) (l.length+i)=some x:=by
 rw [aX] at *
 rw [List.getElem?_append_right (Nat.le_add_right _ _),Nat.add_sub_cancel_left]
 exact h
theorem to {α:Type} {l r:List α} {i:Nat} {x:α} (h:nth l i=some x):nth (l++r) i=some x:=by
 have:=bH h
 rw [aX] at *
 rw [List.getElem?_append_left this]
 exact h
theorem dq {α:Type} {l r:List α} {i:Nat} {x:α} (h:nth (l++r) i=some x):nth l i=some x∨∃ j,i=l.length+j∧nth r j=some x:=by
 rw [aX] at h
 rcases Nat.lt_or_ge i l.length with bP | lM
 ·rw [List.getElem?_append_left bP] at h
  exact .inl (by rw [aX]; exact h)
 ·rw [List.getElem?_append_right lM] at h
  exact .inr ⟨i - l.length,by omega,by rw [aX]; exact h⟩
theorem ba.CM (h:ba E R w β s a) {id sz:Nat} {e:TypeId} {fs:List Nat} (hid:nth s.G id=some (.a7 fs sz e)) {nfs:List Nat} {nts:List TR} (hl:nts.length=nfs.length)
  (dR:∀ j f t,nth nfs j=some f→nth nts j=some t→xI R w sz e f t) (rH:∀ j f b c,nth nts j≠some (.tok f b c)) {ro:RO} (bL:nth R.obj id=some ro) :
  ∃ ts,ro=.a7 ts∧ts.length=fs.length∧ba E (R.reset id (.a7 (ts++nts))) w β (s.bW (ay s.G id (.a7 (fs++nfs) sz e))) a∧Step R w β s.boxes (R.reset id (.a7 (ts++nts))) w β s.boxes:=by
 have cK:=h.g.obj id _ _ hid bL
 cases ro with
 | none=>exact cK.elim
 | bA=>exact cK.elim
 | bT _=>exact cK.elim
 | tok _ _ _=>exact cK.elim
 | a7 ts=>
 obtain ⟨q1,q2,q3⟩:=cK
 have uD:∀ b,RO.has (.a7 (ts++nts)) b→RO.has (.a7 ts) b:=fun b ⟨j,f,c,hj⟩=>by
  rcases dq hj with hj | ⟨i,_,hi⟩
  ·exact ⟨j,f,c,hj⟩
  ·exact absurd hi (rH i f b c)
 have ext:Ext R w (R.reset id (.a7 (ts++nts))) w:=⟨fun _ _ h=>h,fun _ _ _=>rfl,fun i r hr=>by
  by_cases e:id=i
  ·subst e
   rw [bL] at hr
   cases hr
   exact ⟨_,aD bL,fun j t hj=>⟨t,to hj,kE.refl t⟩⟩
  ·exact ⟨r,by rw [ak.reset,bE e]; exact hr,ca.refl r⟩,fG.refl w⟩
 have live:∀ b,Live (R.reset id (.a7 (ts++nts))) b→Live R b:=fun b ⟨i,r,h1,h2⟩=>by
  rcases aC bL h1 with ⟨_,rfl⟩ | ⟨_,h1⟩
  ·exact ⟨id,_,bL,uD b h2⟩
  ·exact ⟨i,r,h1,h2⟩
 refine ⟨ts,rfl,q1,⟨⟨by simp [St.bW,ak.reset,h.g.len],fun i g r h1 h2=>?_,fun i j ri rj b h1 h2 b1 b2=>?_,h.g.wf,fun g cs hg=>(h.g.bY g cs hg).mono ext,h.g.lo⟩,h.b.bo ext (fun _ _ _=>rfl) (fun _ _ _ _ h=>h) (fun _ _ _ hl=>live _ hl),h.t.mono ext,h.n,h.d.mono ext⟩,?_⟩
 ·rcases aC bL h2 with ⟨rfl,rfl⟩ | ⟨cw,h2⟩
  ·simp only [St.bW] at h1
   rw [aD hid] at h1
   cases h1
   refine ⟨by simp [q1,hl],fun i j f b c f' c' hi hj=>?_,fun j f t hf ht=>?_⟩
   ·rcases dq hi with hi | ⟨_,_,hi⟩
    ·rcases dq hj with hj | ⟨_,_,hj⟩
     ·exact q2 i j _ _ _ _ _ hi hj
     ·exact absurd hj (rH _ _ _ _)
    ·exact absurd hi (rH _ _ _ _)
   ·rcases dq hf with K5 | ⟨k,hk,K5⟩
    ·rcases dq ht with ht | ⟨k',gS,ht⟩
     ·exact q3 j f t K5 ht
     ·have:=bH K5
      omega
    ·rcases dq ht with ht | ⟨k',gS,ht⟩
     ·have:=bH ht
      omega
     ·have Hp:k=k':=by omega
      subst Hp
      exact dR k f t K5 ht
  ·simp only [St.bW] at h1
   rw [bE (Ne.symm cw)] at h1
   exact (h.g.obj i g r h1 h2).mono ext (fun _ _=>rfl) (fun _ _ _ h=>h)
 ·rcases aC bL h1 with ⟨g3,e1⟩ | ⟨g3,g1⟩
  ·rcases aC bL h2 with ⟨g4,e2⟩ | ⟨g4,g2⟩
   ·omega
   ·rw [e1] at b1
    exact g3.trans (h.g.inj id j _ _ b bL g2 (uD b b1) b2)
  ·rcases aC bL h2 with ⟨g4,e2⟩ | ⟨g4,g2⟩
   ·rw [e2] at b2
    exact (h.g.inj i id _ _ b g1 bL b1 (uD b b2)).trans g4.symm
   ·exact h.g.inj i j ri rj b g1 g2 b1 b2
 ·refine ⟨ext,rfl,rfl,rfl,Nat.le_refl _,fun _ _ _=>rfl,fun b _ ho=>?_,fun _ _ h _ _=>h⟩
  rcases ho with ho | ho
  ·exact .inl (live b ho)
  ·exact .inr ho
theorem bQ.step {s1:St} {s2:St} (e:s1.boxes=s.boxes) (st:Step R w β s.boxes R' w β s.boxes) (h:bQ E R' w β s1 a o s2):bQ E R w β s a o s2:=by
 obtain ⟨nx,x,w',R2,β',h1,h2,h3,h4⟩:=h
 rw [e] at h4
 exact ⟨nx,x,w',R2,β',h1,h2,h3,st.trans h4⟩
theorem U7 {c:Bool} {α:Type} {a b:α} (h:(bif c then some a else none)=some b):c=true∧a=b:=by
 cases c
 ·cases h
 ·exact ⟨rfl,Option.some.inj h⟩
theorem lS {sz:Nat} {e:TypeId}:∀ {G:List GO} {i j:Nat},ic G sz e i=some j→∃ fs,nth G (j - i)=some (.a7 fs sz e)∧i≤j
 | [],i,j,h=>by cases h
 | g :: G,i,j,h=>by
  have step:ic G sz e (i+1)=some j→∃ fs,nth (g :: G) (j - i)=some (.a7 fs sz e)∧i≤j:=fun h=>by
   obtain ⟨fs,h1,h2⟩:=lS h
   refine ⟨fs,?_,by omega⟩
   rw [show j - i=(j - (i+1))+1 by omega]
   exact h1
  unfold ic at h
  split at h
  ·rename_i iZ
   cases iZ
  ·rename_i iZ
   obtain ⟨rfl,rfl⟩:=List.cons.inj iZ
   split at h
   ·rename_i j' hj
    cases h
    exact step hj
   ·obtain ⟨hc,rfl⟩:=U7 h
    ·rw [Bool.and_eq_true] at hc
     have h1:=Nat.eq_of_beq_eq_true hc.1
     have h2:=Nat.eq_of_beq_eq_true hc.2
     subst h1 h2
     exact ⟨_,by rw [Nat.sub_self]; rfl,Nat.le_refl _⟩
  ·rename_i x G1 _ _ _ hn iZ
   obtain ⟨rfl,rfl⟩:=List.cons.inj iZ
   exact step h
theorem ba.Et {s0:St} {d:Option Tmp} {x y:AV} (h:ba E R w β (s0.put d (.v x)) a) (hw:∀ c,Rel R w x c→Rel R w y c):ba E R w β (s0.put d (.v y)) a:=by
 cases d with
 | none=>exact h
 | some d=>
  simp only [St.put] at h ⊢
  cases hb:Nat.blt d s0.n with
  | false=>rw [hb] at h; exact h
  | true=>
   rw [hb] at h
   refine ⟨h.g,h.b,fun i hi=>?_,h.n,h.d⟩
   by_cases e:d=i
   ·subst e
    rw [ax]
    obtain ⟨c,k1,k2⟩:=h.t d (by rw [ax]; simp)
    rw [ax] at k2
    exact ⟨c,k1,hw c k2⟩
   ·rw [aK e] at hi ⊢
    have:=h.t i (by rw [aK e]; exact hi)
    rw [aK e] at this
    exact this
theorem bQ.Et {s0:St} {x y:AV} (h:bQ E R w β s a o (s0.put o.dst (.v x))) (hw:∀ R' w',Ext R w R' w'→∀ c,Rel R' w' x c→Rel R' w' y c):bQ E R w β s a o (s0.put o.dst (.v y)):=by
 obtain ⟨nx,v,w',R',β',h1,h2,h3,h4⟩:=h
 refine ⟨nx,v,w',R',β',h1,h2,h3.Et (hw R' w' h4.ext),?_⟩
 rw [aW] at h4 ⊢
 exact h4
end fams
section ops
variable {E:Env} {R:ak} {w:World} {β:Nat→Nat} {s:St} {a:Act} {o:Oper}
theorem eY {k:LK} {sz esz:Nat} {es:List AV} {c:Value} (h:Rel R w (.list k sz es) c) (dO:es=[]∨sz=esz) :
  il esz es∧∃ vs,aG R w (ar es) vs∧(∀ v∈vs,v.oneCell'=true)∧vs.length=es.length * esz ∧
   ((es=[]∧vs=[]∧∃ ad,c=.slice ad 0 0∧(ad=none∨k=.ka))∨∃ b o' cap,c=.slice (some ⟨b,o',none⟩) es.length cap∧es.length≤cap∧yR R k b o' es.length cap∧(∀ j v,vs[j]?=some v→w.cell? ((⟨b,o',none⟩:Addr).add j)=some v)∧fk R w b o' esz es):=by
 cases h with
 | jc=>exact ⟨fun e he=>by simp at he,[],.nil,by simp,by simp,.inl ⟨rfl,rfl,_,rfl,.inl rfl⟩⟩
 | gW=>exact ⟨fun e he=>by simp at he,[],.nil,by simp,by simp,.inl ⟨rfl,rfl,_,rfl,.inl rfl⟩⟩
 | lL=>exact ⟨fun e he=>by simp at he,[],.nil,by simp,by simp,.inl ⟨rfl,rfl,_,rfl,.inr rfl⟩⟩
 | kY=>exact ⟨fun e he=>by simp at he,[],.nil,by simp,by simp,.inl ⟨rfl,rfl,_,rfl,.inl rfl⟩⟩
 | kD=>exact ⟨fun e he=>by simp at he,[],.nil,by simp,by simp,.inl ⟨rfl,rfl,_,rfl,.inl rfl⟩⟩
 | @list _ _ _ b o' len cap hr hlen gB Hp=>
  subst hlen
  have kG:fk R w b o' esz es:=by
   rcases dO with rfl | rfl
   ·exact .nil
   ·exact hr
  obtain ⟨g0,vs,g1,g2,g3,g4⟩:=uy kG
  refine ⟨g0,vs,g1,g2,by rw [← g1.length,dj g0],.inr ⟨b,o',cap,rfl,gB,Hp,fun j v hv=>?_,kG⟩⟩
  rw [cg]
  exact g3 j v hv
theorem qj {b esz:Nat} {es:List AV} {vs:List Value} {w:World} {R:ak} (h0:il esz es) (h:aG R w (ar es) vs) (h1:∀ v∈vs,v.oneCell'=true)
  (hc:∀ j v,vs[j]?=some v→w.cell? ⟨b,j,none⟩=some v) (hI:∀ j,j < vs.length→R.I b j):fk R w b 0 esz es:=
 lg h0 (dp.make h h1 (fun j v hv=>by rw [Nat.zero_add]; exact hc j v hv) (fun j hj=>by rw [Nat.zero_add]; exact hI j (by rw [← h.length]; exact hj)))
theorem kq {sz:Nat} {l r:List AV} (h:il sz l) (k:il sz r):il sz (l++r):=fun e he=>by
 rcases List.mem_append.1 he with he | he
 ·exact h e he
 ·exact k e he
theorem gZ {l r:List Value} (h:∀ v∈l,v.oneCell'=true) (k:∀ v∈r,v.oneCell'=true):∀ v∈l++r,v.oneCell'=true:=fun v hv=>by
 rcases List.mem_append.1 hv with hv | hv
 ·exact h v hv
 ·exact k v hv
structure Xu (P:Program) (w:World) (t u ty e:TypeId) (i:TypeInfo) (z:Value) (cy:Value) (n:Nat) (us:List Value):Prop where
 zero:n=0→∀ base len cap,len≤cap→(Builtin.append_ #[t,u] ty #[.slice base len cap,cy]).run P w=.ok (.slice base len cap) w
 nil:0 < n→(n:Int)≤9223372036854775807→n * i.bytes≤281474976710656→(Builtin.append_ #[t,u] ty #[.slice none 0 0,cy]).run P w =
   .ok (.slice (some ⟨w.heap.size,0,none⟩) n (grownCap w n 0 e)) (w.drew.alloc (.cells (us.toArray++Builtin.zeroCells z.cells (grownCap w n 0 e - n)) e))
 grow:0 < n→∀ (b:Addr) (sLen kI:Nat) (ze:List Value),ze.length=sLen * i.size→(∀ j v,ze[j]?=some v→w.cell? (b.add j)=some v)→kI < sLen+n→((sLen+n:Nat):Int)≤9223372036854775807→Builtin.nextslicecap (sLen+n) kI * i.bytes≤281474976710656 →
   (Builtin.append_ #[t,u] ty #[.slice (some b) sLen kI,cy]).run P w=.ok (.slice (some ⟨w.heap.size,0,none⟩) (sLen+n) (grownCap w (sLen+n) kI e))
    (w.drew.alloc (.cells (ze.toArray++us.toArray++Builtin.zeroCells z.cells (grownCap w (sLen+n) kI e - (sLen+n))) e))
 room:0 < n→∀ (g sLen kI:Nat) (cur:Array Value),w.heap[g]?=some (.cells cur e (0,0))→sLen+n≤kI→sLen * i.size+us.length≤cur.size →
   (Builtin.append_ #[t,u] ty #[.slice (some ⟨g,0,none⟩) sLen kI,cy]).run P w=.ok (.slice (some ⟨g,0,none⟩) (sLen+n) kI) (w.setRow g (cur.toList.take (sLen * i.size)++us++cur.toList.drop (sLen * i.size+us.length)).toArray)
theorem mA (h:ba E R w β s a) {t u:TypeId} {id f off sz len:Nat} {y:AV} {ys:List AV} {cx cy:Value} {us:List Value}
  (eO:∀ {c:Value} {w':World},(Builtin.append_ #[t,u] o.type #[cx,cy]).run E.P w=.ok c w'→(execOp a.eval o).run E.P w=.ok (.value c) w')
  {elem esz eb:Nat} {z:AV} (Eu:1≤eb) (hz:z.cells.length=esz) (pV:z.aR=true)
  {ie:TypeInfo} (f2:ie.size=esz) (f3:ie.bytes=eb) (f6:fg ie=some z)
  (h0:Rel R w (.du id f off sz len) cx) (hA:∀ zc:Value,ie.zero=some zc→Xu E.P w t u o.type elem ie zc cy (y :: ys).length us)
  (y0:de esz (y :: ys)) (y1:aG R w (ar (y :: ys)) us) (y2:∀ v∈us,v.oneCell'=true) (y3:us.length=(y :: ys).length * esz)
  {es:List AV} (hid:nth s.G id=some (.cO es esz elem)) (hf:f=es.length) (ho0:off=0) (rD:len=f) (hb:(es.length+(y :: ys).length) * eb≤140737488355328) :
  bQ E R w β s a o ((s.bW (ay s.G id (.cO (es++(y :: ys)) esz elem))).put o.dst (.v (.du id (es.length+(y :: ys).length) 0 esz (es.length+(y :: ys).length)))):=by
 obtain ⟨zc,pq,Ce⟩:=cP f6
 have hA:=hA zc pq
 obtain ⟨d1,d2⟩:=Rel.cells (Ce R w) pV
 have nY:zc.cells.size=esz:=by rw [← hz,d1.length]; simp
 have oE:0 < (y :: ys).length:=by simp
 have hm:es.length+(y :: ys).length≤140737488355328:=Nat.le_trans (Nat.le_mul_of_pos_right _ Eu) hb
 have AD:(es++(y :: ys)).length=es.length+(y :: ys).length:=List.length_append
 -- where a new block has been made
 have fresh:∀ {xs:List Value} {old:Nat} {r0:RO},nth R.obj id=some r0→(∀ b c,ca r0 (.tok (es.length+(y :: ys).length) b c))→de esz es→aG R w (ar es) xs→(∀ v∈xs,v.oneCell'=true)→xs.length=es.length * esz →
   (Builtin.append_ #[t,u] o.type #[cx,cy]).run E.P w=.ok (.slice (some ⟨w.heap.size,0,none⟩) (es.length+(y :: ys).length) (grownCap w (es.length+(y :: ys).length) old elem)) (w.drew.alloc (.cells (xs.toArray++us.toArray++Builtin.zeroCells zc.cells (grownCap w (es.length+(y :: ys).length) old elem - (es.length+(y :: ys).length))) elem)) →
   bQ E R w β s a o ((s.bW (ay s.G id (.cO (es++(y :: ys)) esz elem))).put o.dst (.v (.du id (es.length+(y :: ys).length) 0 esz (es.length+(y :: ys).length)))):=by
  intro xs old r0 bL hle G3 U8 th xS bt
  have lM:=grownCap_ge w (es.length+(y :: ys).length) old elem
  obtain ⟨r1,r2⟩:=h.QR (cur:=xs.toArray++us.toArray++Builtin.zeroCells zc.cells (grownCap w (es.length+(y :: ys).length) old elem - (es.length+(y :: ys).length))) (vs:=xs++us) (es':=es++(y :: ys)) hid bL (by rw [AD]; exact hle) (by rw [AD]; exact lM) (grownCap_le_maxLen w _ old elem (by unfold maxLen; omega)) (by
   simp only [Array.size_append,List.size_toArray,size_zeroCells,nY,xS,y3,← Nat.add_mul]
   congr 1
   omega) (qi G3 y0) (by rw [cD]; exact U8.append y1) (gZ th y2) (by
   rw [AD]
   simp only [Array.toList_append]
   exact List.take_left' (by rw [List.length_append,xS,y3,Nat.add_mul]))
  rw [AD] at r1 r2
  refine ⟨_,_,_,_,β,eO bt,.inl rfl,r1.put o.dst ?_,by rw [aW]; exact r2⟩
  exact Rel.du (aD bL) ⟨Nat.le_refl _,fun _=>⟨rfl,Nat.zero_add _,.inl (Nat.zero_mul _).symm⟩⟩ lM
 cases h0 with
 | @iq _ _ ro bL hon=>
  have cK:=h.g.obj id _ _ hid bL
  have he0:es=[]:=List.eq_nil_of_length_eq_zero hf.symm
  subst he0
  cases ro with
  | none=>exact cK.elim
  | bT _=>exact cK.elim
  | a7 _=>exact cK.elim
  | tok f' g c=>
   obtain ⟨rfl,_⟩:=cK
   simp [lK] at hon
  | bA=>
   simp only [List.length_nil] at hb
   have bt:=hA.nil oE (by omega) (by rw [f3]; rw [Nat.zero_add] at hb; omega)
   exact fresh (xs:=[]) (old:=0) bL (fun b c=>by simp only [ca]; omega) (fun e he=>by simp at he) .nil (by simp) (by simp) (by simpa using bt)
 | @du _ _ _ _ _ cap b o' ro bL dR gB=>
  subst hf; subst ho0; subst rD
  obtain ⟨b',c',cur,vs,rfl,g1,g2,g3,g4,g5,g6,g7,g8,g9⟩:=lR h.g hid bL (fun k=>by subst k; exact dR)
  obtain ⟨rfl,Cf,uI⟩:=dR.2 rfl
  rw [Nat.zero_add] at Cf
  subst Cf
  have PB:vs.length=es.length * esz:=by rw [← g7.length,cQ g1]
  have eZ:∀ j v,vs[j]?=some v→cur[j]?=some v:=fun j v hj=>by
   rw [← g9,List.getElem?_take] at hj
   split at hj
   ·rw [← Array.getElem?_toList]; exact hj
   ·cases hj
  by_cases fP:es.length+(y :: ys).length≤cap
  ·have nZ:o'=0:=by
    rcases uI with uI | uI
    ·rw [uI,Nat.zero_mul]
    ·rw [List.length_cons] at fP; omega
   subst nZ
   have hle:(es.length+(y :: ys).length) * esz≤cap * esz:=Nat.mul_le_mul_right _ fP
   have bt:=hA.room oE b es.length cap cur g2 fP (by rw [f2,y3,← Nat.add_mul,g5]; exact hle)
   rw [f2] at bt
   have iA:cur.toList.length=cap * esz:=by rw [show cur.toList.length=cur.size from Array.length_toList,g5]
   obtain ⟨r1,r2⟩:=h.Lr (cur2:=(cur.toList.take (es.length * esz)++us++cur.toList.drop (es.length * esz+us.length)).toArray) (vs:=vs++us) (es':=es++(y :: ys)) hid bL (by rw [AD]; omega) (by rw [AD]; exact fP) g2 (by
    rw [List.size_toArray,← Array.length_toList]
    simp only [List.length_append,List.length_take,List.length_drop,y3,iA]
    rw [Nat.add_mul] at hle
    omega) (qi g1 y0) (by rw [cD]; exact g7.append y1) (gZ g8 y2) (by
    rw [AD,List.toList_toArray,g9]
    exact List.take_left' (by rw [List.length_append,PB,y3,Nat.add_mul]))
   rw [AD] at r1 r2
   refine ⟨_,_,_,_,β,eO bt,.inl rfl,r1.put o.dst ?_,by rw [aW]; exact r2⟩
   exact Rel.du (aD bL) ⟨Nat.le_refl _,fun _=>⟨rfl,Nat.zero_add _,.inl (Nat.zero_mul _).symm⟩⟩ fP
  ·have bt:=hA.grow oE ⟨b,o',none⟩ es.length cap vs (by rw [PB,f2]) (fun j v hj=>by
    rw [cg]
    have K1:=(List.getElem?_eq_some_iff.1 hj).1
    have nZ:o'=0:=by
     rcases uI with uI | uI
     ·rw [uI,Nat.zero_mul]
     ·have:es.length=0:=by omega
      rw [PB,this] at K1
      omega
    subst nZ
    rw [Nat.zero_add,cell_of_row w b j cur elem (0,0) g2]
    exact eZ j v hj) (by omega) (by omega) (growslice_fits (by omega) (by rw [f3]; exact hb))
   exact fresh (xs:=vs) (old:=cap) bL (fun b c=>⟨by omega,fun e=>by omega⟩) g1 g7 g8 PB bt
theorem li (h:ba E R w β s a) {t u:TypeId} {id j:Nat} {es:List AV} {y:AV} {ys:List AV} {cx cy:Value} {us:List Value}
  (eO:∀ {c:Value} {w':World},(Builtin.append_ #[t,u] o.type #[cx,cy]).run E.P w=.ok c w'→(execOp a.eval o).run E.P w=.ok (.value c) w')
  {elem esz eb:Nat} {z:AV} (Eu:1≤eb) (hz:z.cells.length=esz) (pV:z.aR=true)
  {ie:TypeInfo} (f2:ie.size=esz) (f3:ie.bytes=eb) (f6:fg ie=some z)
  (h0:Rel R w (.list (.a7 id j) esz es) cx) (hA:∀ zc:Value,ie.zero=some zc→Xu E.P w t u o.type elem ie zc cy (y :: ys).length us)
  (y0:il esz (y :: ys)) (y1:aG R w (ar (y :: ys)) us) (y2:∀ v∈us,v.oneCell'=true) (y3:us.length=(y :: ys).length * esz)
  {fs:List Nat} (gC:nth s.G id=some (.a7 fs esz elem)) (sC:nth fs j=some es.length) (hb:(es.length+(y :: ys).length) * eb≤140737488355328) :
  bQ E R w β s a o ((s.bW (ay s.G id (.a7 (ay fs j (es.length+(y :: ys).length)) esz elem))).put o.dst (.v (.list (.a7 id j) esz (es++(y :: ys))))):=by
 obtain ⟨zc,pq,Ce⟩:=cP f6
 have hA:=hA zc pq
 obtain ⟨d1,d2⟩:=Rel.cells (Ce R w) pV
 have nY:zc.cells.size=esz:=by rw [← hz,d1.length]; simp
 have oE:0 < (y :: ys).length:=by simp
 have hm:es.length+(y :: ys).length≤140737488355328:=Nat.le_trans (Nat.le_mul_of_pos_right _ Eu) hb
 obtain ⟨x0,xs,x1,x2,x3,x4⟩:=eY (esz:=esz) h0 (.inr rfl)
 obtain ⟨ro,bL⟩:∃ ro,nth R.obj id=some ro:=by
  cases h0 with
  | kD q _=>exact ⟨_,q⟩
  | list _ _ _ hk=>obtain ⟨ro,q,_⟩:=hk; exact ⟨ro,q⟩
 have cK:=h.g.obj id _ _ gC bL
 cases ro with
 | none=>exact cK.elim
 | bA=>exact cK.elim
 | bT _=>exact cK.elim
 | tok _ _ _=>exact cK.elim
 | a7 ts=>
 have cK:uk R w esz elem fs ts:=cK
 have hjl:j < ts.length:=by rw [cK.1]; exact bH sC
 obtain ⟨tr,ht⟩:∃ tr,nth ts j=some tr:=⟨ts[j],by rw [aX]; exact List.getElem?_eq_getElem hjl⟩
 have lG:=cK.2.2 j _ _ sC ht
 have AE:∀ i f b c,nth ts i=some (.tok f b c)→b < w.heap.size:=fun i f b c hi=>h.g.bS ⟨id,_,bL,i,f,c,hi⟩
 -- where a new block has been made
 have fresh:∀ {old:Nat},(∀ b c,kE tr (.tok (es.length+(y :: ys).length) b c)) →
   (Builtin.append_ #[t,u] o.type #[cx,cy]).run E.P w=.ok (.slice (some ⟨w.heap.size,0,none⟩) (es.length+(y :: ys).length) (grownCap w (es.length+(y :: ys).length) old elem)) (w.drew.alloc (.cells (xs.toArray++us.toArray++Builtin.zeroCells zc.cells (grownCap w (es.length+(y :: ys).length) old elem - (es.length+(y :: ys).length))) elem)) →
   bQ E R w β s a o ((s.bW (ay s.G id (.a7 (ay fs j (es.length+(y :: ys).length)) esz elem))).put o.dst (.v (.list (.a7 id j) esz (es++(y :: ys))))):=by
  intro old hle bt
  have lM:=grownCap_ge w (es.length+(y :: ys).length) old elem
  have YC:=grownCap_le_maxLen w (es.length+(y :: ys).length) old elem (by unfold maxLen; omega)
  have PE:(xs.toArray++us.toArray++Builtin.zeroCells zc.cells (grownCap w (es.length+(y :: ys).length) old elem - (es.length+(y :: ys).length))).size=grownCap w (es.length+(y :: ys).length) old elem * esz:=by
   simp only [Array.size_append,List.size_toArray,size_zeroCells,nY,x3,y3,← Nat.add_mul]
   congr 1
   omega
  generalize gT:xs.toArray++us.toArray++Builtin.zeroCells zc.cells (grownCap w (es.length+(y :: ys).length) old elem - (es.length+(y :: ys).length))=cur at bt PE
  have o1:=One.drew w (.cells cur elem)
  obtain ⟨r1,r2⟩:=h.QM o1 (n:=(es.length+(y :: ys).length) * esz) (r1:=.a7 (ay ts j (.tok (es.length+(y :: ys).length) w.heap.size (grownCap w (es.length+(y :: ys).length) old elem)))) (go:=.a7 (ay fs j (es.length+(y :: ys).length)) esz elem) gC bL
   (rr.set ht (hle _ _)) (fun b hb=>Eo hb) (uk.set cK ⟨rfl,cur,o1.new,lM,YC,PE,fun o' nZ hi=>by
    rcases hi with hi | ⟨_,hi⟩
    ·have:=h.g.wf _ _ hi
     omega
    ·omega⟩ (fun i f c hi=>absurd (AE i f _ c hi) (Nat.lt_irrefl _)) (fun i f b c _ hi=>⟨o1.old b (AE i f b c hi),fun o' nZ=>by
     rcases nZ with nZ | ⟨nZ,_⟩
     ·exact nZ
     ·have:=AE i f b c hi
      omega⟩))
  have e:=r2.ext
  refine ⟨_,_,_,_,β,eO bt,.inl rfl,r1.put o.dst ?_,by rw [aW]; exact r2⟩
  refine Rel.list (qj (vs:=xs++us) (kq x0 y0) (by rw [cD]; exact (x1.mono e).append (y1.mono e)) (gZ x2 y2) (fun j v hj=>?_) (fun j hj=>.inr ⟨rfl,by rw [List.length_append,x3,y3,← Nat.add_mul] at hj; exact hj⟩)) (by simp) lM ⟨_,aD bL,_,aD ht,Nat.le_refl _,fun _=>⟨rfl,rfl,rfl⟩⟩
  rw [cell_of_row _ _ j _ _ _ o1.new,← gT]
  have bP:=(List.getElem?_eq_some_iff.1 hj).1
  rw [← Array.getElem?_toList]
  simp only [Array.toList_append,List.append_assoc]
  rw [← List.append_assoc,List.getElem?_append_left bP]
  exact hj
 rcases x4 with ⟨rfl,rfl,ad,rfl,hd⟩ | ⟨b,o',cap,rfl,U9,xk,sD,xE⟩
 ·obtain rfl:ad=none:=by
   rcases hd with hd | hd
   ·exact hd
   ·cases hd
  simp only [List.length_nil] at hb lG
  have bt:=hA.nil oE (by simp only [List.length_nil] at hm; omega) (by rw [f3]; rw [Nat.zero_add] at hb; omega)
  cases tr with
  | bA=>exact fresh (old:=0) (fun b c=>by simp only [kE,List.length_cons]; omega) (by simpa using bt)
  | full f'=>
   have lG:f'=0:=lG
   subst lG
   exact fresh (old:=0) (fun b c=>by simp only [kE,List.length_cons]; omega) (by simpa using bt)
  | tok f' g c=>
   obtain ⟨lG,_⟩:=lG
   subst lG
   exact fresh (old:=0) (fun b c=>by simp only [kE,List.length_cons,List.length_nil]; omega) (by simpa using bt)
 ·obtain ⟨kR,Va,sB⟩:=xk
  rw [bL] at Va
  cases Va
  obtain ⟨t',q3,sB⟩:=sB
  rw [ht] at q3
  cases q3
  cases tr with
  | bA=>exact sB.elim
  | full f'=>
   have hf:f'=es.length:=lG
   subst hf
   have gB:=sB.2 rfl
   subst gB
   have bt:=hA.grow oE ⟨b,o',none⟩ es.length es.length xs (by rw [x3,f2]) sD (by omega) (by omega) (growslice_fits (by omega) (by rw [f3]; exact hb))
   exact fresh (fun b c=>by simp only [kE]; omega) bt
  | tok f' g c=>
   obtain ⟨rfl,cur,gT,k1,k3,k4,k5⟩:=lG
   obtain ⟨rfl,rfl,rfl⟩:=sB.2 rfl
   by_cases fP:es.length+(y :: ys).length≤cap
   ·have hle:(es.length+(y :: ys).length) * esz≤cap * esz:=Nat.mul_le_mul_right _ fP
    have bt:=hA.room oE b es.length cap cur gT fP (by rw [f2,y3,← Nat.add_mul,k4]; exact hle)
    rw [f2] at bt
    generalize HC:(cur.toList.take (es.length * esz)++us++cur.toList.drop (es.length * esz+us.length)).toArray=cur2 at bt
    have iA:cur.toList.length=cap * esz:=by rw [show cur.toList.length=cur.size from Array.length_toList,k4]
    have hll:es.length * esz≤cap * esz:=Nat.mul_le_mul_right _ k1
    have FP:cur2.size=cap * esz:=by
     rw [← HC,List.size_toArray]
     simp only [List.length_append,List.length_take,List.length_drop,y3,iA]
     rw [Nat.add_mul] at hle
     omega
    have uE:∀ o',R.I b o'→cur2[o']?=cur[o']?:=fun o' hi=>by
     have ho:o' < es.length * esz:=Nat.lt_of_not_le fun hle=>k5 o' hle hi
     rw [← HC,List.append_assoc]
     simp only [List.getElem?_toArray]
     rw [List.getElem?_append_left (by rw [List.length_take]; omega),List.getElem?_take,if_pos ho,Array.getElem?_toList]
    have new:(w.setRow b cur2).heap[b]?=some (.cells cur2 elem (0,0)):=setRow_heap w b cur cur2 elem (0,0) gT
    obtain ⟨r0,r1,r2⟩:=h.Lq (cur2:=cur2) (n:=(es.length+(y :: ys).length) * esz) (r1:=.a7 (ay ts j (.tok (es.length+(y :: ys).length) b cap))) (go:=.a7 (ay fs j (es.length+(y :: ys).length)) esz elem) gC bL ⟨j,_,_,ht⟩
     (rr.set ht ⟨by omega,fun e=>by omega⟩) (fun b' jy=>(Eo jy).elim (fun e=>by rw [e]; exact ⟨j,_,_,ht⟩) (fun x=>x)) gT uE (fun _=>uk.set cK ⟨rfl,cur2,new,fP,k3,FP,fun o' nZ hi=>by
      rcases hi with hi | ⟨_,hi⟩
      ·exact k5 o' (Nat.le_trans (Nat.mul_le_mul_right _ (Nat.le_add_right _ _)) nZ) hi
      ·omega⟩ (fun i f c hi=>cK.2.1 i j _ _ _ _ _ hi ht) (fun i f b' c cw hi=>by
       have T3:b'≠b:=fun e=>by subst e; exact cw (cK.2.1 i j _ _ _ _ _ hi ht)
       refine ⟨setRow_other w b b' cur2 T3,fun o' nZ=>?_⟩
       rcases nZ with nZ | ⟨nZ,_⟩
       ·exact nZ
       ·exact absurd nZ T3))
    refine ⟨_,_,_,_,β,eO bt,.inl rfl,r1.put o.dst ?_,by rw [aW]; exact r2⟩
    have Ub:cur.toList.take (es.length * esz)=xs:=by
     have Cg:xs.length=es.length * esz:=x3
     apply List.ext_getElem?
     intro j
     rw [List.getElem?_take]
     split
     ·rename_i hj
      have K1:j < xs.length:=by omega
      have qf:=sD j xs[j] (List.getElem?_eq_getElem K1)
      rw [cg,Nat.zero_add,cell_of_row w b j cur elem (0,0) gT] at qf
      rw [Array.getElem?_toList,qf,List.getElem?_eq_getElem K1]
     ·rw [List.getElem?_eq_none (by omega)]
    refine Rel.list (qj (vs:=xs++us) (kq x0 y0) (by rw [cD]; exact (x1.mono r0).append (y1.mono r0)) (gZ x2 y2) (fun j v hj=>?_) (fun j hj=>.inr ⟨rfl,by rw [List.length_append,x3,y3,← Nat.add_mul] at hj; exact hj⟩)) (by simp) fP ⟨_,aD bL,_,aD ht,Nat.le_refl _,fun _=>⟨rfl,rfl,rfl⟩⟩
    rw [cell_of_row _ _ j _ _ _ new,← HC,Ub]
    simp only [List.getElem?_toArray]
    rw [List.getElem?_append_left (List.getElem?_eq_some_iff.1 hj).1]
    exact hj
   ·have bt:=hA.grow oE ⟨b,0,none⟩ es.length cap xs (by rw [x3,f2]) sD (by omega) (by omega) (growslice_fits (by omega) (by rw [f3]; exact hb))
    exact fresh (fun b c=>⟨by omega,fun e=>by omega⟩) bt
theorem tq (h:ba E R w β s a) {t u:TypeId} {id j:Nat} {es:List AV} {y:AV} {ys:List AV} {cx cy:Value} {us:List Value}
  (eO:∀ {c:Value} {w':World},(Builtin.append_ #[t,u] o.type #[cx,cy]).run E.P w=.ok c w'→(execOp a.eval o).run E.P w=.ok (.value c) w')
  {elem esz eb:Nat} {z:AV} (Eu:1≤eb) (hz:z.cells.length=esz) (pV:z.aR=true)
  {ie:TypeInfo} (f2:ie.size=esz) (f3:ie.bytes=eb) (f6:fg ie=some z)
  (h0:Rel R w (.list (.a7 id j) esz es) cx) (hA:∀ zc:Value,ie.zero=some zc→Xu E.P w t u o.type elem ie zc cy (y :: ys).length us)
  (y0:il esz (y :: ys)) (y1:aG R w (ar (y :: ys)) us) (y2:∀ v∈us,v.oneCell'=true) (y3:us.length=(y :: ys).length * esz)
  {fs:List Nat} (gC:nth s.G id=some (.a7 fs esz elem)) (sC:Lh fs j es.length=true) (hb:(es.length+(y :: ys).length) * eb≤140737488355328) :
  bQ E R w β s a o ((s.bW (ay s.G id (.a7 (Fx fs j (es.length+(y :: ys).length)) esz elem))).put o.dst (.v (.list (.a7 id j) esz (es++(y :: ys))))):=by
 unfold Lh at sC
 rw [Bool.or_eq_true,decide_eq_true_eq,Bool.and_eq_true] at sC
 rcases sC with sC | ⟨hj,hl⟩
 ·have cw:Nat.beq j fs.length=false:=by
   cases hb:Nat.beq j fs.length with
   | false=>rfl
   | true=>
    have:=Nat.eq_of_beq_eq_true hb
    have:=bH sC
    omega
  unfold Fx
  rw [cw]
  exact li h eO Eu hz pV f2 f3 f6 h0 hA y0 y1 y2 y3 gC sC hb
 ·have uJ:Fx fs j (es.length+(y :: ys).length)=fs++[es.length+(y :: ys).length]:=by
   unfold Fx
   rw [hj]
   rfl
  rw [uJ]
  have hj:=Nat.eq_of_beq_eq_true hj
  have hl:=Nat.eq_of_beq_eq_true hl
  subst hj
  have bP:=bH gC
  rw [← h.g.len] at bP
  obtain ⟨ro,bL⟩:∃ ro,nth R.obj id=some ro:=⟨R.obj[id],by rw [aX]; exact List.getElem?_eq_getElem bP⟩
  obtain ⟨ts,rfl,z1,z2,z3⟩:=h.CM gC (nfs:=[0]) (nts:=[.bA]) rfl (fun j f t h1 h2=>by
   cases j with
   | zero=>simp only [nth] at h1 h2; cases h1; cases h2; exact rfl
   | succ j=>simp [nth] at h1) (fun j f b c hj=>by
   cases j with
   | zero=>simp only [nth] at hj; cases hj
   | succ j=>simp [nth] at hj) bL
  have key:=li z2 eO Eu hz pV f2 f3 f6 (h0.mono z3.ext) hA y0 (y1.mono z3.ext) y2 y3 (fs:=fs++[0]) (aD gC) (by rw [hl]; exact eU _ _) hb
  have e1:ay (fs++[0]) fs.length (es.length+(y :: ys).length)=fs++[es.length+(y :: ys).length]:=by
   rw [fm,List.set_append_right _ _ (Nat.le_refl _),Nat.sub_self]
   rfl
  have e2:∀ x y:GO,ay (ay s.G id x) id y=ay s.G id y:=fun x y=>by rw [fm,fm,fm,List.set_set]
  rw [e1] at key
  refine bQ.step rfl z3 ?_
  have e3:((s.bW (ay s.G id (.a7 (fs++[0]) esz elem))).bW (ay (s.bW (ay s.G id (.a7 (fs++[0]) esz elem))).G id (.a7 (fs++[es.length+(y :: ys).length]) esz elem)))=s.bW (ay s.G id (.a7 (fs++[es.length+(y :: ys).length]) esz elem)):=by
   simp only [St.bW,e2]
  rw [e3] at key
  exact key
theorem lj (h:ba E R w β s a) {t u:TypeId} {x:AV} {ys:List AV} {cx cy:Value} {us:List Value}
  (eO:∀ {c:Value} {w':World},(Builtin.append_ #[t,u] o.type #[cx,cy]).run E.P w=.ok c w'→(execOp a.eval o).run E.P w=.ok (.value c) w')
  {i:TI} {elem esz eb:Nat} {ag:Bool} {z:AV} (hk:i.k=.sl elem esz ag eb (some z)) (Eu:1≤eb) (hz:z.cells.length=esz) (pV:z.aR=true)
  {ie:TypeInfo} (f1:E.P.info? elem=some ie) (f2:ie.size=esz) (f3:ie.bytes=eb) (f6:fg ie=some z)
  (h0:Rel R w x cx) (hA:∀ zc:Value,ie.zero=some zc→Xu E.P w t u o.type elem ie zc cy ys.length us)
  (y0:il esz ys) (y1:aG R w (ar ys) us) (y2:∀ v∈us,v.oneCell'=true) (y3:us.length=ys.length * esz)
  {v:AV} {G':List GO} (ha:fh s.G elem esz eb x ys=some (true,v,G')) :
  bQ E R w β s a o ((s.bW G').put o.dst (.v v)):=by
 obtain ⟨zc,pq,Ce⟩:=cP f6
 have hA':=hA
 have hA:=hA zc pq
 obtain ⟨d1,d2⟩:=Rel.cells (Ce R w) pV
 have nY:zc.cells.size=esz:=by rw [← hz,d1.length]; simp
 unfold fh at ha
 split at ha
 ·-- nothing is appended
  rename_i k sz es
  have U3:us=[]:=List.eq_nil_of_length_eq_zero (by simpa using y3)
  have hG:G'=s.G∧Rel R w v cx:=by
   split at ha
   ·injection ha with ha; injection ha with _ ha; injection ha with p q
    subst p; subst q
    exact ⟨rfl,h0⟩
   ·injection ha with ha; injection ha with _ ha; injection ha with p q
    subst p; subst q
    exact ⟨rfl,h0⟩
  obtain ⟨rfl,hvr⟩:=hG
  refine aq (s:=s) h (c:=cx) (eO ?_) hvr
  cases h0 with
  | jc=>exact hA.zero rfl _ _ _ (Nat.le_refl 0)
  | gW=>exact hA.zero rfl _ _ _ (Nat.le_refl 0)
  | lL=>exact hA.zero rfl _ _ _ (Nat.le_refl 0)
  | kY=>exact hA.zero rfl _ _ _ (Nat.le_refl 0)
  | kD=>exact hA.zero rfl _ _ _ (Nat.le_refl 0)
  | list hr hlen gB _=>exact hA.zero rfl _ _ _ gB
 ·-- something is appended
  rename_i k sz es y ys hA
  have oE:0 < (y :: ys).length:=by simp
  -- what is shown where a new block has been made
  have grown:∀ {n old:Nat} {xs:List Value} {es':List AV},(es'.length=n)→il esz es'→aG R w (ar es') xs→(∀ v∈xs,v.oneCell'=true)→xs.length=n * esz →
    (n+(y :: ys).length) * eb≤140737488355328→n+(y :: ys).length≤maxLen→∀ (R':ak) (G2:List GO) (id:Nat),
    ba E R' (w.drew.alloc (.cells (xs.toArray++us.toArray++Builtin.zeroCells zc.cells (grownCap w (n+(y :: ys).length) old elem - (n+(y :: ys).length))) elem)) β (s.bW G2) a →
    Step R w β s.boxes R' (w.drew.alloc (.cells (xs.toArray++us.toArray++Builtin.zeroCells zc.cells (grownCap w (n+(y :: ys).length) old elem - (n+(y :: ys).length))) elem)) β s.boxes →
    (∀ j,j < (n+(y :: ys).length) * esz→R'.I w.heap.size j)→nth R'.obj id=some (.tok (n+(y :: ys).length) w.heap.size (grownCap w (n+(y :: ys).length) old elem)) →
    (Builtin.append_ #[t,u] o.type #[cx,cy]).run E.P w=.ok (.slice (some ⟨w.heap.size,0,none⟩) (n+(y :: ys).length) (grownCap w (n+(y :: ys).length) old elem)) (w.drew.alloc (.cells (xs.toArray++us.toArray++Builtin.zeroCells zc.cells (grownCap w (n+(y :: ys).length) old elem - (n+(y :: ys).length))) elem)) →
    bQ E R w β s a o ((s.bW G2).put o.dst (.v (.list (.own id) esz (es'++(y :: ys))))):=by
   intro n old xs es' Af QS U8 th xS _ _ R' G2 id cK Ev hI hid bt
   refine ⟨_,_,_,R',β,eO bt,.inl rfl,cK.put o.dst ?_,by rw [aW]; exact Ev⟩
   have e:=Ev.ext
   refine Rel.list (qj (vs:=xs++us) (kq QS y0) (by rw [cD]; exact (U8.mono e).append (y1.mono e)) (gZ th y2) (fun j v hj=>?_) (fun j hj=>hI j (by rw [List.length_append,xS,y3,← Nat.add_mul] at hj; exact hj))) (by simp [Af]) (grownCap_ge w _ _ _) ⟨_,hid,Nat.le_refl _,fun _=>⟨rfl,rfl,rfl⟩⟩
   have mT:(w.drew.alloc (.cells (xs.toArray++us.toArray++Builtin.zeroCells zc.cells (grownCap w (n+(y :: ys).length) old elem - (n+(y :: ys).length))) elem)).heap[w.heap.size]?=some (.cells (xs.toArray++us.toArray++Builtin.zeroCells zc.cells (grownCap w (n+(y :: ys).length) old elem - (n+(y :: ys).length))) elem (0,0)):=heap_alloc_new w.drew _
   rw [cell_of_row _ _ j _ _ _ mT]
   have bP:=(List.getElem?_eq_some_iff.1 hj).1
   rw [← Array.getElem?_toList]
   simp only [Array.toList_append,List.append_assoc]
   rw [← List.append_assoc,List.getElem?_append_left bP]
   exact hj
  have HD:∀ {n old:Nat} {xs:List Value},xs.length=n * esz→n+(y :: ys).length≤maxLen→(xs.toArray++us.toArray++Builtin.zeroCells zc.cells (grownCap w (n+(y :: ys).length) old elem - (n+(y :: ys).length))).size=grownCap w (n+(y :: ys).length) old elem * esz:=by
   intro n old xs xS _
   have lM:=grownCap_ge w (n+(y :: ys).length) old elem
   simp only [Array.size_append,List.size_toArray,size_zeroCells,nY,xS,y3,← Nat.add_mul]
   congr 1
   omega
  have fresh:∀ {n old:Nat} {xs:List Value} {es':List AV},(es'.length=n)→il esz es'→aG R w (ar es') xs→(∀ v∈xs,v.oneCell'=true)→xs.length=n * esz →
    (n+(y :: ys).length) * eb≤140737488355328→n+(y :: ys).length≤maxLen →
    (Builtin.append_ #[t,u] o.type #[cx,cy]).run E.P w=.ok (.slice (some ⟨w.heap.size,0,none⟩) (n+(y :: ys).length) (grownCap w (n+(y :: ys).length) old elem)) (w.drew.alloc (.cells (xs.toArray++us.toArray++Builtin.zeroCells zc.cells (grownCap w (n+(y :: ys).length) old elem - (n+(y :: ys).length))) elem)) →
    bQ E R w β s a o ((s.bW (s.G++[.tok (n+(y :: ys).length) esz elem])).put o.dst (.v (.list (.own s.G.length) esz (es'++(y :: ys))))):=by
   intro n old xs es' Af QS U8 th xS hb hm bt
   obtain ⟨r1,r2⟩:=h.QK (cur:=xs.toArray++us.toArray++Builtin.zeroCells zc.cells (grownCap w (n+(y :: ys).length) old elem - (n+(y :: ys).length))) (elem:=elem) (grownCap_ge w (n+(y :: ys).length) old elem) (grownCap_le_maxLen w _ old elem hm) (HD xS hm)
   exact grown Af QS U8 th xS hb hm _ _ _ r1 r2 (fun j hj=>.inr ⟨rfl,hj⟩) (by rw [← h.g.len]; exact eU _ _) bt
  have Ls:∀ {n:Nat},(n+(y :: ys).length) * eb≤140737488355328→n+(y :: ys).length≤140737488355328:=fun {n} hb=>Nat.le_trans (Nat.le_mul_of_pos_right _ Eu) hb
  split at ha
  ·-- nil
   injection ha with ha; injection ha with hc ha; injection ha with p q
   subst p; subst q
   have hb:=of_decide_eq_true hc
   cases h0 with
   | list _ _ _ Hp=>exact Hp.elim
   | jc=>
    simp only [List.length_nil] at hb
    have hm:=Ls hb
    refine fresh (n:=0) (old:=0) (xs:=[]) (es':=[]) rfl (fun e he=>by simp at he) .nil (by simp) (by simp) hb (by unfold maxLen; omega) ?_
    have bt:=hA.nil oE (by omega) (by rw [f3]; rw [Nat.zero_add] at hb; omega)
    simpa using bt
  ·-- as long as its capacity
   split at ha
   ·rename_i dO
    have dO:=Nat.eq_of_beq_eq_true dO
    subst dO
    injection ha with ha; injection ha with hc ha; injection ha with p q
    subst p; subst q
    have hb:=of_decide_eq_true hc
    have hm:=Ls hb
    obtain ⟨x0,xs,x1,x2,x3,x4⟩:=eY (esz:=sz) h0 (.inr rfl)
    rcases x4 with ⟨rfl,rfl,ad,rfl,hd⟩ | ⟨b,o',cap,rfl,U9,xk,sD,_⟩
    ·rcases hd with rfl | hd
     ·cases h0
     ·cases hd
    ·have gB:cap=es.length:=xk
     subst gB
     refine fresh (n:=es.length) (old:=es.length) (xs:=xs) (es':=es) rfl x0 x1 x2 x3 hb (by unfold maxLen; omega) ?_
     exact hA.grow oE ⟨b,o',none⟩ es.length es.length xs (by rw [x3,f2]) sD (by omega) (by omega) (growslice_fits (by omega) (by rw [f3]; exact hb))
   ·cases ha
  ·-- of a token
   rename_i id
   split at ha
   ·rename_i f bG e' gC
    split at ha
    ·rename_i cB
     simp only [Bool.and_eq_true] at cB
     obtain ⟨⟨q1,q2⟩,q3⟩:=cB
     have q1:=Nat.eq_of_beq_eq_true q1
     have q2:=Nat.eq_of_beq_eq_true q2
     have q3:=Nat.eq_of_beq_eq_true q3
     subst q1; subst q2; subst q3
     injection ha with ha; injection ha with hc ha; injection ha with p q
     subst p; subst q
     simp only [Bool.and_eq_true] at hc
     have sC:=of_decide_eq_true hc.1
     have hb:=of_decide_eq_true hc.2
     subst sC
     have hm:=Ls hb
     obtain ⟨x0,xs,x1,x2,x3,x4⟩:=eY (esz:=sz) h0 (.inr rfl)
     rcases x4 with ⟨rfl,rfl,ad,rfl,hd⟩ | ⟨b,o',cap,rfl,U9,xk,sD,xE⟩
     ·obtain rfl:ad=none:=by
       rcases hd with hd | hd
       ·exact hd
       ·cases hd
      cases h0 with
      | @kY _ _ ro bL hon=>
      have cK:=h.g.obj id _ _ gC bL
      cases ro with
      | none=>exact cK.elim
      | bT _=>exact cK.elim
      | tok f' g c=>
       obtain ⟨rfl,_⟩:=cK
       simp [lK] at hon
      | a7 _=>exact cK.elim
      | bA=>
       simp only [List.length_nil] at hb
       have bt:=hA.nil oE (by omega) (by rw [f3]; rw [Nat.zero_add] at hb; omega)
       have dO:=HD (n:=0) (old:=0) (xs:=[]) (by simp) (by unfold maxLen; omega)
       obtain ⟨r1,r2⟩:=h.Hy (cur:=[].toArray++us.toArray++Builtin.zeroCells zc.cells (grownCap w (0+(y :: ys).length) 0 e' - (0+(y :: ys).length))) (elem:=e') (n:=0+(y :: ys).length) (cap:=grownCap w (0+(y :: ys).length) 0 e') gC bL (fun b c=>by simp only [ca]; omega) (grownCap_ge w _ _ _) (grownCap_le_maxLen w _ _ _ (by unfold maxLen; omega)) dO
       exact grown (n:=0) (es':=[]) rfl (fun e he=>by simp at he) .nil (by simp) (by simp) hb (by unfold maxLen; omega) _ _ _ r1 r2 (fun j hj=>.inr ⟨rfl,hj⟩) (aD bL) (by simpa using bt)
     ·obtain ⟨ro,bL,sB⟩:=xk
      have cK:=h.g.obj id _ _ gC bL
      cases ro with
      | none=>exact cK.elim
      | bA=>exact sB.elim
      | bT _=>exact cK.elim
      | a7 _=>exact cK.elim
      | tok f' g c=>
       obtain ⟨rfl,cur,gT,k1,k3,k4,k5⟩:=cK
       obtain ⟨rfl,rfl,rfl⟩:=sB.2 rfl
       by_cases fP:es.length+(y :: ys).length≤cap
       ·have hle:(es.length+(y :: ys).length) * sz≤cap * sz:=Nat.mul_le_mul_right _ fP
        have bt:=hA.room oE b es.length cap cur gT fP (by rw [f2,y3,← Nat.add_mul,k4]; exact hle)
        rw [f2] at bt
        obtain ⟨r0,r1,r2⟩:=h.Lo (news:=us) (n:=es.length+(y :: ys).length) gC bL (by omega) fP gT k4 k3 (by rw [y3,← Nat.add_mul])
        refine ⟨_,_,_,_,β,eO bt,.inl rfl,r1.put o.dst ?_,by rw [aW]; exact r2⟩
        have mT:=setRow_heap w b cur (cur.toList.take (es.length * sz)++us++cur.toList.drop (es.length * sz+us.length)).toArray e' (0,0) gT
        have Ub:cur.toList.take (es.length * sz)=xs:=by
         have Cg:xs.length=es.length * sz:=x3
         apply List.ext_getElem?
         intro j
         rw [List.getElem?_take]
         split
         ·rename_i hj
          have K1:j < xs.length:=by omega
          have qf:=sD j xs[j] (List.getElem?_eq_getElem K1)
          rw [cg,Nat.zero_add,cell_of_row w b j cur e' (0,0) gT] at qf
          rw [Array.getElem?_toList,qf,List.getElem?_eq_getElem K1]
         ·rw [List.getElem?_eq_none (by omega)]
        refine Rel.list (qj (vs:=xs++us) (kq x0 y0) (by rw [cD]; exact (x1.mono r0).append (y1.mono r0)) (gZ x2 y2) (fun j v hj=>?_) (fun j hj=>.inr ⟨rfl,by rw [List.length_append,x3,y3,← Nat.add_mul] at hj; exact hj⟩)) (by simp) fP ⟨_,aD bL,Nat.le_refl _,fun _=>⟨rfl,rfl,rfl⟩⟩
        rw [cell_of_row _ _ j _ _ _ mT,Ub]
        simp only [List.getElem?_toArray]
        rw [List.getElem?_append_left (List.getElem?_eq_some_iff.1 hj).1]
        exact hj
       ·have bt:=hA.grow oE ⟨b,0,none⟩ es.length cap xs (by rw [x3,f2]) sD (by omega) (by omega) (growslice_fits (by omega) (by rw [f3]; exact hb))
        obtain ⟨r1,r2⟩:=h.Hy (cur:=xs.toArray++us.toArray++Builtin.zeroCells zc.cells (grownCap w (es.length+(y :: ys).length) cap e' - (es.length+(y :: ys).length))) (elem:=e') (n:=es.length+(y :: ys).length) (cap:=grownCap w (es.length+(y :: ys).length) cap e') gC bL (fun b c=>⟨by omega,fun e=>by omega⟩) (grownCap_ge w _ _ _) (grownCap_le_maxLen w _ _ _ (by unfold maxLen; omega)) (HD x3 (by unfold maxLen; omega))
        exact grown rfl x0 x1 x2 x3 hb (by unfold maxLen; omega) _ _ _ r1 r2 (fun j hj=>.inr ⟨rfl,hj⟩) (aD bL) bt
    ·cases ha
   ·cases ha
  ·-- of a member of a family
   rename_i id j
   split at ha
   ·rename_i fs bG e' gC
    split at ha
    ·rename_i cB
     simp only [Bool.and_eq_true] at cB
     obtain ⟨⟨q1,q2⟩,q3⟩:=cB
     have q1:=Nat.eq_of_beq_eq_true q1
     have q2:=Nat.eq_of_beq_eq_true q2
     have q3:=Nat.eq_of_beq_eq_true q3
     subst q1; subst q2; subst q3
     injection ha with ha; injection ha with hc ha; injection ha with p q
     subst p; subst q
     simp only [Bool.and_eq_true,decide_eq_true_eq] at hc
     exact tq h eO Eu hz pV f2 f3 f6 h0 (fun YD QT=>hA' YD QT) y0 y1 y2 y3 gC hc.1 hc.2
    ·cases ha
   ·cases ha
  ·cases ha
 ·-- a slice that grows, and nothing
  injection ha with ha; injection ha with _ ha; injection ha with p q
  subst p; subst q
  refine aq (s:=s) h (c:=cx) (eO ?_) h0
  cases h0 with
  | iq=>exact hA.zero rfl _ _ _ (Nat.le_refl 0)
  | du _ _ gB=>exact hA.zero rfl _ _ _ gB
 ·-- a slice that grows
  rename_i id f' off sz len y ys hA
  split at ha
  ·rename_i es bG e' gC
   split at ha
   ·rename_i cB
    simp only [Bool.and_eq_true] at cB
    obtain ⟨⟨q1,q2⟩,q3⟩:=cB
    have q1:=Nat.eq_of_beq_eq_true q1
    have q2:=Nat.eq_of_beq_eq_true q2
    have q3:=Nat.eq_of_beq_eq_true q3
    subst q1; subst q2; subst q3
    injection ha with ha; injection ha with hc ha; injection ha with p q
    subst p; subst q
    simp only [Bool.and_eq_true,decide_eq_true_eq] at hc
    exact mA h eO Eu hz pV f2 f3 f6 h0 (fun YD QT=>hA' YD QT) y0.g y1 y2 y3 gC hc.1.1.1 hc.1.1.2 hc.1.2 hc.2
   ·cases ha
  ·cases ha
 ·cases ha
theorem AF (h:ba E R w β s a) {args:Array Operand} {t:TypeId} (ho:o.op=.call { callee:=.builtin .append,args:=args,argTypes:=#[t,t] }) {x:AV} {k2:LK} {mH:Nat} {ys:List AV}
  (hl:kQ E s.ae args.toList=some [x,.list k2 mH ys]) {i:TI} (hi:E.ti t=some i) {elem esz eb:Nat} {ag:Bool} {z:AV} (hk:i.k=.sl elem esz ag eb (some z)) (FP:ys=[]∨mH=esz) (acy:1≤esz) (Eu:1≤eb) (hz:z.cells.length=esz) (pV:z.aR=true)
  {v:AV} {G':List GO} (ha:fh s.G elem esz eb x ys=some (true,v,G')) :
  bQ E R w β s a o ((s.bW G').put o.dst (.v v)):=by
 have hr:=fq h hl
 generalize hv:args.toList.map a.eval=vs at hr
 have hx:=dI (E:=E) (w:=w) ho vs hv
 cases hr with
 | @cons _ cx _ _ h0 h1=>
 cases h1 with
 | @cons _ cy _ _ h1 h2=>
 cases h2
 obtain ⟨fN,u,e1,e2,e3,e4,e5,e6⟩:=bZ E hi
 have xP:=hk
 rw [hk] at e5
 obtain ⟨ie,ue,rfl,f1,f2,f3,f4,f5,f6⟩:=df e5
 have oP:(⟨[cx,cy]⟩:Array Value)=#[cx,cy]:=rfl
 obtain ⟨y0,us,y1,y2,y3,y4⟩:=eY (esz:=esz) h1 FP
 refine lj h (cx:=cx) (cy:=cy) (t:=t) (u:=t) (fun hh=>?_) xP Eu hz pV f1 f2 f3 f6 h0 (fun zc pq=>?_) y0 y1 y2 y3 ha
 ·rw [hx]
  simp only [builtin,oP,Sem.run_bind,hh,Result.andThen_ok,Sem.run_pure]
 ·rcases y4 with ⟨rfl,rfl,ad,rfl,_⟩ | ⟨UY,oy,CN,rfl,YE,_,uK,yE⟩
  ·refine ⟨fun _ base len cap El=>?_,fun hh=>absurd hh (by simp),fun hh=>absurd hh (by simp),fun hh=>absurd hh (by simp)⟩
   cases ad <;> simp [Builtin.append_,run_underlying e2,run_sizeOf w f1,Builtin.lenOf,Builtin.firstCells,El,storeCells,loadCells,loadCellsFrom] <;>
    cases base <;> simp [storeCells]
  ·refine ⟨fun hn base len cap El=>?_,fun hh HE HF=>run_append_nil (P:=E.P) w t o.type elem ie zc e2 f1 pq _ _ CN us (by rw [y3,f2]) uK hh HE HF,fun _ b sLen kI ze AG K6 hg HE HF=>run_append_grow (P:=E.P) w t o.type elem ie zc e2 f1 pq b sLen kI ze AG K6 _ _ CN us (by rw [y3,f2]) uK hg HE HF,fun _ g sLen kI cur hg fP tu=>run_append_room (P:=E.P) w t o.type elem ie e2 f1 g sLen kI cur hg _ _ CN us (by rw [y3,f2]) uK y2 fP tu⟩
   rw [hn]
   simp [Builtin.append_,run_underlying e2,run_sizeOf w f1,Builtin.lenOf,Builtin.firstCells,El,storeCells,loadCells,loadCellsFrom]
   cases base <;> simp [storeCells]
theorem uL:∀ (bs:List UInt8),aG R w (ar (bs.map p0)) (Lib.strCells ⟨⟨bs⟩⟩)
 | []=>.nil
 | b :: bs=>.cons (Rel.int .u8 b.toNat) (uL bs)
theorem tv (h:ba E R w β s a) {args:Array Operand} {t u:TypeId} (ho:o.op=.call { callee:=.builtin .append,args:=args,argTypes:=#[t,u] }) {x:AV} {bs:List UInt8}
  (hl:kQ E s.ae args.toList=some [x,.str bs]) {i j:TI} (hi:E.ti t=some i) (hj:E.ti u=some j) {elem eb:Nat} {ag:Bool} {z:AV} (hk:i.k=.sl elem 1 ag eb (some z)) (Uc:j.k=.str) (Eu:1≤eb) (hz:z.cells.length=1) (pV:z.aR=true)
  {v:AV} {G':List GO} (ha:fh s.G elem 1 eb x (bs.map p0)=some (true,v,G')) :
  bQ E R w β s a o ((s.bW G').put o.dst (.v v)):=by
 have hr:=fq h hl
 generalize hv:args.toList.map a.eval=vs at hr
 have hx:=dI (E:=E) (w:=w) ho vs hv
 cases hr with
 | @cons _ cx _ _ h0 h1=>
 cases h1 with
 | @cons _ cy _ _ h1 h2=>
 cases h2
 obtain ⟨fN,ud,e1,e2,e3,e4,e5,e6⟩:=bZ E hi
 obtain ⟨Vb,ud',g1,g2,g3,g4,g5,g6⟩:=bZ E hj
 rw [Uc] at g5
 have:=jz g5
 subst this
 have xP:=hk
 rw [hk] at e5
 obtain ⟨ie,ue,rfl,f1,f2,f3,f4,f5,f6⟩:=df e5
 cases h1
 have dO:(⟨⟨bs⟩⟩:ByteArray).size=bs.length:=rfl
 have hlen:(bs.map p0).length=bs.length:=List.length_map _
 have oP:(⟨[cx,.string ⟨⟨bs⟩⟩]⟩:Array Value)=#[cx,.string ⟨⟨bs⟩⟩]:=rfl
 have iA:(Lib.strCells ⟨⟨bs⟩⟩).length=bs.length:=Lib.strCells_length _
 refine lj h (cx:=cx) (cy:=.string ⟨⟨bs⟩⟩) (us:=Lib.strCells ⟨⟨bs⟩⟩) (t:=t) (u:=u) (fun hh=>?_) xP Eu hz pV f1 f2 f3 f6 h0 (fun zc pq=>?_) ?_ (uL bs) (Lib.strCells_oneCell _) (by rw [iA,hlen,Nat.mul_one]) ha
 ·rw [hx]
  simp only [builtin,oP,Sem.run_bind,hh,Result.andThen_ok,Sem.run_pure]
 ·rw [hlen]
  refine ⟨fun hn base len cap El=>?_,fun hh HE HF=>?_,fun _ b sLen kI ze AG K6 hg HE HF=>Lib.run_append_grow_string (P:=E.P) w t u o.type elem ie zc e2 g2 f1 pq b sLen kI ze AG K6 ⟨⟨bs⟩⟩ hg HE HF,fun _ g sLen kI cur hg fP tu=>?_⟩
  ·have hb:bs=[]:=List.eq_nil_of_length_eq_zero hn
   subst hb
   have hz0:(⟨⟨[]⟩⟩:ByteArray).size=0:=rfl
   simp [hz0,Builtin.append_,run_underlying e2,run_underlying g2,run_sizeOf w f1,Builtin.lenOf,Builtin.firstCells,El,storeCells]
   cases base <;> simp [storeCells]
  ·rw [run_append_nil_string (P:=E.P) w t u o.type elem ie zc e2 g2 f1 pq ⟨⟨bs⟩⟩ hh HE HF]
   simp [Lib.strCells,dO]
  ·have:=Lib.run_append_room_string (P:=E.P) w t u o.type elem ie e2 g2 f1 f2 g sLen kI cur hg ⟨⟨bs⟩⟩ fP (by rw [f2,Nat.mul_one,iA] at tu; exact tu)
   rw [this,f2,Nat.mul_one,iA]
   rfl
 ·intro e he
  obtain ⟨b,_,rfl⟩:=List.mem_map.1 he
  exact ⟨rfl,rfl,rfl⟩
end ops
end Go.Am
