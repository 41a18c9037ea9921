/- The abstract machine: what it does is what the model does: slices that grow and are written. -/
import Derived.Test.YtldcljfjjoidhaaGreatDoorAmKC
import Derived.Lib.AppendStr
set_option linter.all false
namespace Go.Am
open Go
section lists
theorem vL {α:Type} (c us:List α) (n p sz off:Nat) (hn:n≤c.length) (hp:p+sz≤n) (ho:off+us.length≤sz) :
  (c.take (p+off)++us++c.drop (p+off+us.length)).take n =
   (c.take n).take p++((((c.take n).drop p).take sz).take off++us++(((c.take n).drop p).take sz).drop (off+us.length))++(c.take n).drop (p+sz):=by
 apply List.ext_getElem?
 intro j
 simp only [List.getElem?_append,List.getElem?_take,List.getElem?_drop,List.length_append,List.length_take,List.length_drop]
 by_cases h1:j < p
 ·rw [if_pos (by omega),if_pos (by omega),if_pos (by omega),if_pos (by omega),if_pos (by omega),if_pos (by omega),if_pos (by omega),if_pos (by omega)]
 ·by_cases h2:j < p+off
  ·rw [if_pos (by omega),if_pos (by omega),if_pos (by omega),if_pos (by omega),if_pos (by omega),if_neg (by omega),if_pos (by omega),if_pos (by omega),if_pos (by omega),if_pos (by omega),if_pos (by omega)]
   congr 1; omega
  ·by_cases h3:j < p+off+us.length
   ·rw [if_pos (by omega),if_pos (by omega),if_neg (by omega),if_pos (by omega),if_neg (by omega),if_pos (by omega),if_neg (by omega)]
    congr 1; omega
   ·by_cases h4:j < p+sz
    ·rw [if_pos (by omega),if_neg (by omega),if_pos (by omega),if_neg (by omega),if_neg (by omega),if_pos (by omega),if_pos (by omega)]
     congr 1; omega
    ·by_cases h5:j < n
     ·rw [if_pos (by omega),if_neg (by omega),if_neg (by omega),if_pos (by omega)]
      congr 1; omega
     ·rw [if_neg (by omega),if_neg (by omega),if_neg (by omega)]
theorem qz {sz:Nat}:∀ {es:List AV} {i:Nat} {e:AV},dB sz es→nth es i=some e→((ay es).drop (i * sz)).take sz=e.cells
 | [],_,_,_,h=>by simp [nth] at h
 | x :: es,0,e,h,hi=>by
  simp only [nth] at hi
  cases hi
  have h1:=(h x (by simp)).1
  rw [Nat.zero_mul,List.drop_zero]
  simp only [ay]
  rw [← h1,List.take_left]
 | x :: es,i+1,e,h,hi=>by
  have h1:=(h x (by simp)).1
  have ih:=qz (i:=i) (fun y hy=>h y (by simp [hy])) (show nth es i=some e from hi)
  simp only [ay]
  rw [show (i+1) * sz=x.cells.length+i * sz by rw [h1,Nat.succ_mul]; omega,List.drop_append,List.drop_of_length_le (by omega),List.nil_append,Nat.add_sub_cancel_left]
  exact ih
theorem rD {sz:Nat} {l r:List AV} (h:dB sz l) (k:dB sz r):dB sz (l++r):=fun e he=>by
 rcases List.mem_append.1 he with he | he
 ·exact h e he
 ·exact k e he
theorem zq {sz:Nat} {l:List AV} (n:Nat) (h:dB sz l):dB sz (l.take n):=fun e he=>h e (List.mem_of_mem_take he)
theorem Hu {sz:Nat} {l:List AV} (n:Nat) (h:dB sz l):dB sz (l.drop n):=fun e he=>h e (List.mem_of_mem_drop he)
theorem jn {sz:Nat}:∀ {es:List AV} (i:Nat),dB sz es→ay (es.take i)=(ay es).take (i * sz)
 | [],i,_=>by simp [ay]
 | e :: es,0,_=>by simp [ay]
 | e :: es,i+1,h=>by
  have h1:=(h e (by simp)).1
  simp only [List.take_succ_cons,ay]
  rw [jn i (fun y hy=>h y (by simp [hy])),show (i+1) * sz=e.cells.length+i * sz by rw [h1,Nat.succ_mul]; omega,List.take_append,Nat.add_sub_cancel_left,List.take_of_length_le (by omega:e.cells.length≤e.cells.length+i * sz)]
theorem om {sz:Nat}:∀ {es:List AV} (i:Nat),dB sz es→ay (es.drop i)=(ay es).drop (i * sz)
 | [],i,_=>by simp [ay]
 | e :: es,0,_=>by simp [ay]
 | e :: es,i+1,h=>by
  have h1:=(h e (by simp)).1
  simp only [List.drop_succ_cons,ay]
  rw [om i (fun y hy=>h y (by simp [hy])),show (i+1) * sz=e.cells.length+i * sz by rw [h1,Nat.succ_mul]; omega,List.drop_append,List.drop_of_length_le (by omega:e.cells.length≤e.cells.length+i * sz),List.nil_append,Nat.add_sub_cancel_left]
theorem di {sz:Nat} {es:List AV} (h:dB sz es):(ay es).length=es.length * sz:=by
 induction es with
 | nil=>simp [ay]
 | cons e es ih=>
  have h1:=(h e (by simp)).1
  have:=ih (fun x hx=>h x (by simp [hx]))
  simp only [ay,List.length_append,this,h1,List.length_cons,Nat.add_mul]
  omega
theorem Ec {sz:Nat} {es:List AV} {i:Nat} {v:AV} (h:dB sz es) (h1:v.cells.length=sz) (h2:v.aX=true):dB sz (aB es i v):=fun e he=>by
 rw [fu] at he
 rcases List.mem_or_eq_of_mem_set he with he | rfl
 ·exact h e he
 ·exact ⟨h1,h2⟩
theorem B2 {sz:Nat} {es:List AV} {i:Nat} {v:AV} (h:dB sz es) (hi:i < es.length) (hv:v.cells.length=sz):ay (aB es i v)=bg (ay es) (i * sz) v.cells:=by
 have Ed:i * sz+sz≤es.length * sz:=by
  rw [← Nat.succ_mul]
  exact Nat.mul_le_mul_right _ hi
 rw [fu,List.set_eq_take_append_cons_drop,if_pos hi,ea _ _ _ (by rw [hv,di h]; exact Ed),cS,jn i h,hv]
 simp only [ay]
 rw [om (i+1) h,Nat.succ_mul,List.append_assoc]
end lists
section ops
variable {E:Env} {R:ao} {w:World} {β:Nat→Nat} {s:St} {a:Act} {o:Oper}
theorem k9 {G:List GO} (h:dz E R w G) {id:Nat} {es:List AV} {sz:Nat} {el:TypeId} {ro:RO} (hid:nth G id=some (.dc es sz el)) (bR:nth R.obj id=some ro) (hn:ro≠.bJ) :
  ∃ b c cur vs,ro=.tok es.length b c∧dB sz es∧w.heap[b]?=some (.cells cur el (0,0))∧es.length≤c∧c≤maxLen∧cur.size=c * sz∧(∀ o,¬ R.I b o)∧aM R w (ay es) vs∧(∀ v∈vs,v.oneCell'=true)∧cur.toList.take (es.length * sz)=vs:=by
 have hr:=h.obj id _ _ hid bR
 cases ro with
 | none=>exact hr.elim
 | bJ=>exact absurd rfl hn
 | b7 b=>exact hr.elim
 | bk _=>exact hr.elim
 | tok f b c=>
  obtain ⟨rfl,h1,cur,vs,h2,h3,h4,h5,h6,h7,h8,h9⟩:=hr
  exact ⟨b,c,cur,vs,rfl,h1,h2,h3,h4,h5,h6,h7,h8,h9⟩
theorem vM {id f i sz:Nat} {t:TypeId} {v:AV} (h:vr E s id f i sz t=some (true,v)) :
  ∃ es el e,nth s.G id=some (.dc es sz el)∧f=es.length∧nth es i=some e∧iQ e v:=by
 unfold vr at h
 split at h
 ·rename_i es bN el hid
  split at h
  ·rename_i p hp
   split at h
   ·rename_i eC
    have eC:=Nat.eq_of_beq_eq_true eC
    subst eC
    injection h with h
    injection h with h1 h2
    simp only [Bool.and_eq_true,decide_eq_true_eq] at h1
    obtain ⟨⟨h3,h4⟩,h5⟩:=h1
    obtain ⟨e,he⟩:∃ e,nth es i=some e:=⟨es[i],by rw [bc]; exact List.getElem?_eq_getElem h4⟩
    have hd:af es i=e:=by simp [af,he]
    rw [hd] at h5 h2
    rw [← h2]
    exact ⟨es,el,e,hid,h3,he,p.cT h5⟩
   ·cases h
  ·split at h
   ·rename_i eC
    have eC:=Nat.eq_of_beq_eq_true eC
    subst eC
    injection h with h
    injection h with h1 h2
    simp only [Bool.and_eq_true,decide_eq_true_eq] at h1
    obtain ⟨h3,h4⟩:=h1
    obtain ⟨e,he⟩:∃ e,nth es i=some e:=⟨es[i],by rw [bc]; exact List.getElem?_eq_getElem h4⟩
    have hd:af es i=e:=by simp [af,he]
    rw [hd] at h2
    rw [← h2]
    exact ⟨es,el,e,hid,h3,he,iQ.refl e⟩
   ·cases h
 ·cases h
theorem F2 {α:Type} {l:List α} {i:Nat} {x:α} (h:nth l i=some x):x∈l:=by
 rw [bc] at h
 exact List.mem_of_getElem? h
theorem Ee {i n sz:Nat} (h:i < n):i * sz+sz≤n * sz:=by
 rw [← Nat.succ_mul]
 exact Nat.mul_le_mul_right _ h
theorem Ef (h:bn E R w β s a) (t:TypeId) (x:Operand) (ho:o.op=.load t x) {v:AV} (hl:ze E s t (bI E s.ah x)=some (true,v)) :
  bW E R w β s a o (s.put o.dst (.v v)):=by
 have rx:=aU h x
 unfold ze at hl
 split at hl
 ·rename_i id f i off sz ty hx
  rw [hx] at rx
  split at hl
  ·rename_i ti c ve Tk hg
   split at hl
   ·rename_i l hs
    split at hl
    ·rename_i r hm
     injection hl with hl
     injection hl with h1 h2
     subst h1; subst h2
     obtain ⟨es,el,e,hid,To,he,uI⟩:=vM hg
     have dJ:Rel R w (.gp id f i off sz ty) (a.eval x):=rx
     generalize fj:a.eval x=xv at dJ
     cases dJ with
     | @gp _ _ _ _ _ b o' _ ro bR eB=>
     obtain ⟨b',c',cur,vs,rfl,g1,g2,g3,g4,g5,g6,g7,g8,g9⟩:=k9 h.g hid bR (fun k=>by subst k; exact eB)
     obtain ⟨rfl,rfl⟩:=eB.2 To
     have hem:=g1 e (F2 he)
     have dZ:aM R w e.cells ((vs.drop (i * sz)).take sz):=by
      rw [← qz g1 he]
      exact (g7.drop _).take _
     have hw:=(uI.cells hem.2).rel dZ
     obtain ⟨k1,k2,k3,k4⟩:=po hs hw (fun y hy=>g8 y (List.mem_of_mem_drop (List.mem_of_mem_take hy)))
     obtain ⟨c,hc,hrr⟩:=n5 (E:=E) Tk (b:=b) (off:=i * sz+off) k1 k2 k3 (fun j y hy=>by
      have h1:=k4 j y hy
      rw [List.getElem?_take] at h1
      split at h1
      ·rw [List.getElem?_drop,← g9,List.getElem?_take] at h1
       split at h1
       ·rw [cell_of_row w b _ cur el (0,0) g2,Nat.add_assoc,← Array.getElem?_toList]
        exact h1
       ·cases h1
      ·cases h1) hm
     refine ax h (c:=c) ?_ hrr
     simp [execOp,ho,Instr.loadAt,fj,Instr.sureAddr,hc]
    ·cases hl
   ·cases hl
  ·cases hl
 ·split at hl
  ·rename_i v' hv
   injection hl with hl
   injection hl with h1 h2
   subst h2
   exact Ho h t x ho hv
  ·cases hl
theorem bn.AF (h:bn E R w β s a) {id f b c:Nat} {es es':List AV} {sz:Nat} {el:TypeId} {cur B1:Array Value} {vs':List Value} (hid:nth s.G id=some (.dc es sz el)) (bR:nth R.obj id=some (.tok f b c))
  (hb:w.heap[b]?=some (.cells cur el (0,0))) (hlen:es'.length=es.length) (pn:dB sz es') (eC:B1.size=cur.size) (hr:aM R w (ay es') vs') (h1:∀ v∈vs',v.oneCell'=true) (ht:B1.toList.take (f * sz)=vs') :
  bn E R (w.setRow b B1) β (s.b9 (aB s.G id (.dc es' sz el))) a∧Step R w β s.boxes R (w.setRow b B1) β s.boxes:=by
 obtain ⟨q0,q1,XG,vs0,p1,p2,p3,p4,p5,p6,p7,p8⟩:=h.g.obj id _ _ hid bR
 rw [hb] at p1
 cases p1
 have hex:=iV (R:=R) (w:=w) p5 B1
 have Eg:∀ k cs,dv s.boxes k=some cs→β k≠b:=fun k cs hk e=>(h.b.box k cs hk).2.2 ⟨id,_,bR,by rw [e]; rfl⟩
 refine ⟨⟨⟨by simp [St.b9,h.g.len],fun jw go ro hg lD=>?_,h.g.inj,fun b' o' sQ=>by have:=h.g.wf b' o' sQ; simp; omega,fun g cs' hg=>(h.g.cb g cs' hg).mono hex,h.g.lo⟩,?_,h.t.mono hex,h.n,h.d⟩,?_⟩
 ·rcases dp hg with ⟨rfl,rfl,_⟩ | ⟨cP,qv⟩
  ·rw [bR] at lD
   cases lD
   exact ⟨by rw [hlen]; exact q0,pn,B1,vs',setRow_heap w _ _ _ _ (0,0) hb,p2,p3,by rw [eC]; exact p4,p5,hr.mono hex,h1,ht⟩
  ·refine (h.g.obj jw go ro qv lD).mono hex (fun b' kd=>setRow_other w _ b' _ (fun e=>cP ?_)) (fun _ _ _ hi=>hi)
   subst e
   exact h.g.inj id jw _ _ b' bR lD rfl kd
 ·exact h.b.bE hex (fun k cs' iR=>setRow_other w _ _ _ (Eg k cs' iR)) (fun _ _ _ _ hi=>hi) (fun _ _ _ hl=>hl)
 ·have Av:Own R β s.boxes b:=.inl ⟨id,_,bR,rfl⟩
  exact ⟨hex,rfl,rfl,rfl,by simp,fun b' _ hn=>setRow_other w _ b' _ (fun e=>hn (e ▸ Av)),fun _ _ hb=>hb,fun b o hi _ _=>hi⟩
theorem bn.F3 (h:bn E R w β s a) {id b c i off:Nat} {es:List AV} {sz:Nat} {el:TypeId} {cur:Array Value} {vs us:List Value} {e':AV} (hid:nth s.G id=some (.dc es sz el)) (bR:nth R.obj id=some (.tok es.length b c))
  (hb:w.heap[b]?=some (.cells cur el (0,0))) (pn:dB sz es) (hle:es.length≤c) (pq:cur.size=c * sz) (hr:aM R w (ay es) vs) (h1:∀ v∈vs,v.oneCell'=true) (ht:cur.toList.take (es.length * sz)=vs) (hi:i < es.length)
  (h2:∀ v∈us,v.oneCell'=true) (AG:off+us.length≤sz) (uE:e'.cells.length=sz) (XH:e'.aX=true) (XI:aM R w e'.cells (((vs.drop (i * sz)).take sz).take off++us++((vs.drop (i * sz)).take sz).drop (off+us.length))) :
  bn E R (w.setRow b ⟨cur.toList.take (i * sz+off)++us++cur.toList.drop (i * sz+off+us.length)⟩) β (s.b9 (aB s.G id (.dc (aB es i e') sz el))) a ∧
   Step R w β s.boxes R (w.setRow b ⟨cur.toList.take (i * sz+off)++us++cur.toList.drop (i * sz+off+us.length)⟩) β s.boxes:=by
 have Ed:=Ee (sz:=sz) hi
 have M5:es.length * sz≤cur.toList.length:=by
  rw [show cur.toList.length=cur.size from Array.length_toList,pq]
  exact Nat.mul_le_mul_right _ hle
 have RT:vs.length=es.length * sz:=by rw [← hr.length,di pn]
 refine h.AF hid bR hb (hY _ _ _) (Ec pn uE XH) ?_ (vs':=vs.take (i * sz)++(((vs.drop (i * sz)).take sz).take off++us++((vs.drop (i * sz)).take sz).drop (off+us.length))++vs.drop (i * sz+sz)) ?_ ?_ ?_
 ·rw [List.size_toArray,← Array.length_toList]
  simp only [List.length_append,List.length_take,List.length_drop]
  omega
 ·rw [B2 pn hi uE,ea _ _ _ (by rw [uE,di pn]; exact Ed),uE]
  exact ((hr.take _).append XI).append (hr.drop _)
 ·intro v hv
  simp only [List.mem_append] at hv
  rcases hv with (hv | ((hv | hv) | hv)) | hv
  ·exact h1 v (List.mem_of_mem_take hv)
  ·exact h1 v (List.mem_of_mem_drop (List.mem_of_mem_take (List.mem_of_mem_take hv)))
  ·exact h2 v hv
  ·exact h1 v (List.mem_of_mem_drop (List.mem_of_mem_take (List.mem_of_mem_drop hv)))
  ·exact h1 v (List.mem_of_mem_drop hv)
 ·rw [List.toList_toArray,vL _ _ _ _ _ _ M5 Ed AG,ht]
theorem bn.F4 (h:bn E R w β s a) {id b c off:Nat} {es ns:List AV} {sz:Nat} {el:TypeId} {cur:Array Value} {vs us:List Value} (hid:nth s.G id=some (.dc es sz el)) (bR:nth R.obj id=some (.tok es.length b c))
  (hb:w.heap[b]?=some (.cells cur el (0,0))) (pn:dB sz es) (hle:es.length≤c) (pq:cur.size=c * sz) (hr:aM R w (ay es) vs) (h1:∀ v∈vs,v.oneCell'=true) (ht:cur.toList.take (es.length * sz)=vs)
  (AG:off+ns.length≤es.length) (hns:dB sz ns) (hu:aM R w (ay ns) us) (h2:∀ v∈us,v.oneCell'=true) :
  bn E R (w.setRow b ⟨cur.toList.take (off * sz)++us++cur.toList.drop (off * sz+us.length)⟩) β (s.b9 (aB s.G id (.dc (bg es off ns) sz el))) a ∧
   Step R w β s.boxes R (w.setRow b ⟨cur.toList.take (off * sz)++us++cur.toList.drop (off * sz+us.length)⟩) β s.boxes:=by
 have Tp:us.length=ns.length * sz:=by rw [← hu.length,di hns]
 have Ed:off * sz+ns.length * sz≤es.length * sz:=by rw [← Nat.add_mul]; exact Nat.mul_le_mul_right _ AG
 have M5:es.length * sz≤cur.toList.length:=by
  rw [show cur.toList.length=cur.size from Array.length_toList,pq]
  exact Nat.mul_le_mul_right _ hle
 have RT:vs.length=es.length * sz:=by rw [← hr.length,di pn]
 have hm:=vL cur.toList us (es.length * sz) (off * sz) (ns.length * sz) 0 M5 Ed (by omega)
 simp only [Nat.add_zero,List.take_zero,List.nil_append,Nat.zero_add] at hm
 rw [Tp,ht,show List.drop (ns.length * sz) (List.take (ns.length * sz) (List.drop (off * sz) vs))=[] from List.drop_of_length_le (by rw [List.length_take]; exact Nat.min_le_left _ _),List.append_nil] at hm
 rw [ea _ _ _ AG]
 refine h.AF hid bR hb (by simp; omega) (rD (rD (zq _ pn) hns) (Hu _ pn)) ?_ (vs':=vs.take (off * sz)++us++vs.drop (off * sz+ns.length * sz)) ?_ ?_ ?_
 ·rw [List.size_toArray,← Array.length_toList]
  simp only [List.length_append,List.length_take,List.length_drop,Tp]
  omega
 ·rw [cS,cS,jn _ pn,om _ pn,Nat.add_mul]
  exact ((hr.take _).append hu).append (hr.drop _)
 ·intro v hv
  simp only [List.mem_append] at hv
  rcases hv with (hv | hv) | hv
  ·exact h1 v (List.mem_of_mem_take hv)
  ·exact h2 v hv
  ·exact h1 v (List.mem_of_mem_drop hv)
 ·rw [List.toList_toArray,Tp]
  exact hm
theorem B3 (h:bn E R w β s a) (t:TypeId) (p x:Operand) (ho:o.op=.store t p x) (hd:o.dst=none) {s':St} (hs:jz E s t (bI E s.ah p) (bI E s.ah x)=some (true,s')) :
  bW E R w β s a o s':=by
 have rp:=aU h p
 have rx:=aU h x
 unfold jz at hs
 split at hs
 ·rename_i id f i off sz ty Xn
  rw [Xn] at rp
  have Xp:Rel R w (.gp id f i off sz ty) (a.eval p):=rp
  generalize Xq:a.eval p=pv at Xp
  split at hs
  ·rename_i ti v es bN el Tk hx hid
   rw [hx] at rx
   split at hs
   ·rename_i fw
    simp only [Bool.and_eq_true] at fw
    obtain ⟨⟨MZ,hlen⟩,Tq⟩:=fw
    have hlen:=Nat.eq_of_beq_eq_true hlen
    have Tq:=Nat.eq_of_beq_eq_true Tq
    subst Tq
    have rxw:Rel R w v (a.eval x):=rx
    obtain ⟨c1,c2⟩:=Rel.cells rxw MZ
    have BH:v.cells.length=(a.eval x).cells.toList.length:=c1.length
    cases Xp with
    | @gp _ _ _ _ _ b o' _ ro bR eB=>
    obtain ⟨b',c',cur,vs,rfl,g1,g2,g3,g4,g5,g6,g7,g8,g9⟩:=k9 h.g hid bR (fun k=>by subst k; exact eB)
    have RT:vs.length=es.length * sz:=by rw [← g7.length,di g1]
    have M5:es.length * sz≤cur.toList.length:=by
     rw [show cur.toList.length=cur.size from Array.length_toList,g5]
     exact Nat.mul_le_mul_right _ g3
    split at hs
    ·rename_i hw
     rw [Bool.and_eq_true] at hw
     have AG:=Nat.eq_of_beq_eq_true hw.1
     have WL:=Nat.eq_of_beq_eq_true hw.2
     subst AG
     injection hs with hs
     injection hs with h1 h2
     rw [Bool.and_eq_true,decide_eq_true_eq,decide_eq_true_eq] at h1
     subst h2
     obtain ⟨rfl,rfl⟩:=eB.2 h1.1
     have Ed:=Ee (sz:=sz) h1.2
     have bG:=jQ (E:=E) (w:=w) Tk (b:=b) (vs:=cur.toList) (off:=i * sz+0) (c:=a.eval x) g2 (by rw [← BH]; exact hlen) (by rw [← BH]; omega) c2
     obtain ⟨r1,r2⟩:=h.F3 (us:=(a.eval x).cells.toList) (off:=0) (i:=i) (e':=v) hid bR g2 g1 g3 g5 g7 g8 g9 h1.2 c2 (by rw [← BH]; omega) (by omega) MZ (by
      rw [List.take_zero,List.nil_append,Nat.zero_add,List.drop_of_length_le (by rw [List.length_take,← BH]; omega),List.append_nil]
      exact c1)
     simp only [Nat.add_zero] at Xq bG r1 r2
     refine ⟨.skip,undef,_,R,β,?_,.inr ⟨rfl,rfl⟩,by rw [hd]; exact r1,r2⟩
     simp [execOp,ho,Instr.storeAt,Xq,Instr.sureAddr,bG]
    ·split at hs
     ·rename_i cc cs hg
      split at hs
      ·rename_i hw
       simp only [Bool.and_eq_true] at hw
       obtain ⟨hle,Tr⟩:=hw
       have hle:=Nat.le_of_ble_eq_true hle
       have Tr:=Nat.eq_of_beq_eq_true Tr
       injection hs with hs
       injection hs with h1 h2
       subst h1; subst h2
       obtain ⟨es0,el0,e,Jk,To,he,uI⟩:=vM hg
       rw [hid] at Jk
       cases Jk
       obtain ⟨rfl,rfl⟩:=eB.2 To
       have hi:i < es.length:=bP he
       have Ed:=Ee (sz:=sz) hi
       have hem:=g1 e (F2 he)
       have dZ:aM R w e.cells ((vs.drop (i * sz)).take sz):=by
        rw [← qz g1 he]
        exact (g7.drop _).take _
       have hw:=(uI.cells hem.2).rel dZ
       have hw':aM R w cs ((vs.drop (i * sz)).take sz):=hw
       have bG:=jQ (E:=E) (w:=w) Tk (b:=b) (vs:=cur.toList) (off:=i * sz+off) (c:=a.eval x) g2 (by rw [← BH]; exact hlen) (by rw [← BH]; omega) c2
       have BI:off+v.cells.length≤cs.length:=by omega
       obtain ⟨r1,r2⟩:=h.F3 (us:=(a.eval x).cells.toList) (off:=off) (i:=i) (e':=.agg (bg cs off v.cells)) hid bR g2 g1 g3 g5 g7 g8 g9 hi c2 (by rw [← BH]; omega) (by show (bg cs off v.cells).length=sz; rw [yz _ _ _ BI]; exact Tr) rfl (by
        show aM R w (bg cs off v.cells) _
        rw [ea _ _ _ BI,BH]
        exact ((hw'.take _).append c1).append (hw'.drop _))
       refine ⟨.skip,undef,_,R,β,?_,.inr ⟨rfl,rfl⟩,by rw [hd]; exact r1,r2⟩
       simp [execOp,ho,Instr.storeAt,Xq,Instr.sureAddr,bG]
      ·cases hs
     ·cases hs
   ·cases hs
  ·cases hs
 ·split at hs
  ·rename_i B4 hv
   injection hs with hs
   injection hs with h1 h2
   subst h2
   exact D1 h t p x ho hd hv
  ·cases hs
def ao.reset (R:ao) (id:Nat) (ro:RO):ao:=⟨R.I,aB R.obj id ro⟩
theorem vN {id g:Nat} {r0 ro:RO} (hid:nth R.obj id=some r0) (bR:∀ b,ro.has b→b=g) {b:Nat} (hl:Live (R.reset id ro) b):b=g∨Live R b:=by
 obtain ⟨i,r,h1,h2⟩:=hl
 rcases aJ hid h1 with ⟨_,rfl⟩ | ⟨_,h1⟩
 ·exact .inl (bR b h2)
 ·exact .inr ⟨i,r,h1,h2⟩
theorem bn.Ts (h:bn E R w β s a) {cur:Array Value} {vs:List Value} {es es':List AV} {elem:TypeId} {sz cap id:Nat} {r0:RO} (hg:nth s.G id=some (.dc es sz elem)) (hid:nth R.obj id=some r0) (hf:∀ b c,cD r0 (.tok es'.length b c))
  (hn:es'.length≤cap) (hm:cap≤maxLen) (hs:cur.size=cap * sz) (pn:dB sz es') (hr:aM R w (ay es') vs) (h1:∀ v∈vs,v.oneCell'=true) (ht:cur.toList.take (es'.length * sz)=vs) :
  bn E (R.reset id (.tok es'.length w.heap.size cap)) (w.drew.alloc (.cells cur elem)) β (s.b9 (aB s.G id (.dc es' sz elem))) a ∧
  Step R w β s.boxes (R.reset id (.tok es'.length w.heap.size cap)) (w.drew.alloc (.cells cur elem)) β s.boxes:=by
 have e:Ext R w (R.reset id (.tok es'.length w.heap.size cap)) (w.drew.alloc (.cells cur elem)):=
  ⟨fun _ _ h=>h,fun b o hi=>b8 (heap_alloc_old w.drew _ b (h.g.wf b o hi)) o,fun i r hr=>by
   by_cases ei:id=i
   ·subst ei
    rw [hid] at hr
    cases hr
    exact ⟨_,aL hid,hf _ _⟩
   ·exact ⟨r,by rw [ao.reset,bM ei]; exact hr,cD.refl r⟩,.old fun b hb=>heap_alloc_old w.drew _ b hb⟩
 have old:∀ b,b < w.heap.size→(w.drew.alloc (.cells cur elem)).heap[b]?=w.heap[b]?:=fun b hb=>heap_alloc_old w.drew _ b hb
 have new:(w.drew.alloc (.cells cur elem)).heap[w.heap.size]?=some (.cells cur elem (0,0)):=heap_alloc_new w.drew _
 have live:∀ b,b < w.heap.size→Live (R.reset id (.tok es'.length w.heap.size cap)) b→Live R b:=fun b hb hl=>by
  rcases vN (g:=w.heap.size) (ro:=.tok es'.length w.heap.size cap) hid (fun _ h=>h) hl with rfl | hl
  ·omega
  ·exact hl
 refine ⟨⟨⟨by simp [St.b9,ao.reset,h.g.len],fun i gg r vw h2=>?_,fun i j ri rj b vw h2 b1 b2=>?_,fun b o hi=>?_,fun g cs hg=>(h.g.cb g cs hg).mono e,Nat.le_succ_of_le h.g.lo⟩,?_,h.t.mono e,h.n,h.d.mono e⟩,?_⟩
 ·rcases aJ hid h2 with ⟨rfl,rfl⟩ | ⟨cP,h2⟩
  ·simp only [St.b9] at vw
   rw [aL hg] at vw
   cases vw
   exact ⟨rfl,pn,cur,vs,new,hn,hm,hs,fun o hi=>by have:=h.g.wf _ _ hi; omega,hr.mono e,h1,ht⟩
  ·simp only [St.b9] at vw
   rw [bM (Ne.symm cP)] at vw
   exact (h.g.obj i gg r vw h2).mono e (fun b hb=>old b (h.g.b6 ⟨i,r,h2,hb⟩)) (fun b o _ hi=>hi)
 ·rcases aJ hid vw with ⟨g3,e1⟩ | ⟨g3,g1⟩
  ·rcases aJ hid h2 with ⟨g4,e2⟩ | ⟨g4,g2⟩
   ·omega
   ·have:=h.g.b6 ⟨j,rj,g2,b2⟩
    rw [e1] at b1
    simp [RO.has] at b1
    omega
  ·rcases aJ hid h2 with ⟨g4,e2⟩ | ⟨g4,g2⟩
   ·have:=h.g.b6 ⟨i,ri,g1,b1⟩
    rw [e2] at b2
    simp [RO.has] at b2
    omega
   ·exact h.g.inj i j ri rj b g1 g2 b1 b2
 ·have:=h.g.wf b o hi
  simp
  omega
 ·exact h.b.bE e (fun k cs hk=>old _ (h.dY (.inr ⟨k,cs,hk,rfl⟩))) (fun k cs o hk hi=>hi) (fun k cs hk hl=>live _ (h.dY (.inr ⟨k,cs,hk,rfl⟩)) hl)
 ·refine ⟨e,rfl,rfl,rfl,by simp,fun b hb _=>old b hb,fun b hb ho=>?_,fun b o hi hb _=>hi⟩
  rcases ho with ho | ho
  ·exact .inl (live b hb ho)
  ·exact .inr ho
theorem bn.Nw (h:bn E R w β s a) {cur cur2:Array Value} {vs:List Value} {es es':List AV} {elem:TypeId} {sz id g c:Nat} (hg:nth s.G id=some (.dc es sz elem)) (hid:nth R.obj id=some (.tok es.length g c)) (bV:es.length < es'.length) (hn:es'.length≤c)
  (iO:w.heap[g]?=some (.cells cur elem (0,0))) (hs:cur2.size=cur.size) (pn:dB sz es') (hr:aM R w (ay es') vs) (h1:∀ v∈vs,v.oneCell'=true) (ht:cur2.toList.take (es'.length * sz)=vs) :
  bn E (R.reset id (.tok es'.length g c)) (w.setRow g cur2) β (s.b9 (aB s.G id (.dc es' sz elem))) a ∧
  Step R w β s.boxes (R.reset id (.tok es'.length g c)) (w.setRow g cur2) β s.boxes:=by
 obtain ⟨q0,q1,XG,vs0,p1,p2,p3,p4,p5,p6,p7,p8⟩:=h.g.obj id _ _ hg hid
 rw [iO] at p1
 cases p1
 have qx:Live R g:=⟨id,_,hid,rfl⟩
 have old:∀ b,b≠g→(w.setRow g cur2).heap[b]?=w.heap[b]?:=fun b hb=>setRow_other w g b cur2 hb
 have new:(w.setRow g cur2).heap[g]?=some (.cells cur2 elem (0,0)):=setRow_heap w g cur cur2 elem (0,0) iO
 have e:Ext R w (R.reset id (.tok es'.length g c)) (w.setRow g cur2):=by
  have e0:=iV (R:=R) (w:=w) p5 cur2
  refine ⟨fun _ _ h=>h,e0.cell,fun i r hr=>?_,e0.lp⟩
  by_cases ei:id=i
  ·subst ei
   rw [hid] at hr
   cases hr
   exact ⟨_,aL hid,by omega,fun e=>by omega⟩
  ·exact ⟨r,by rw [ao.reset,bM ei]; exact hr,cD.refl r⟩
 have live:∀ b,Live (R.reset id (.tok es'.length g c)) b→Live R b:=fun b hl=>by
  rcases vN (g:=g) (ro:=.tok es'.length g c) hid (fun _ h=>h) hl with rfl | hl
  ·exact qx
  ·exact hl
 have qy:∀ k cs,dv s.boxes k=some cs→β k≠g:=fun k cs hk eq=>(h.b.box k cs hk).2.2 (eq ▸ qx)
 refine ⟨⟨⟨by simp [St.b9,ao.reset,h.g.len],fun i gg r vw h2=>?_,fun i j ri rj b vw h2 b1 b2=>?_,fun b o hi=>?_,fun g cs hg=>(h.g.cb g cs hg).mono e,h.g.lo⟩,?_,h.t.mono e,h.n,h.d.mono e⟩,?_⟩
 ·rcases aJ hid h2 with ⟨rfl,rfl⟩ | ⟨cP,h2⟩
  ·simp only [St.b9] at vw
   rw [aL hg] at vw
   cases vw
   exact ⟨rfl,pn,cur2,vs,new,hn,p3,by rw [hs]; exact p4,p5,hr.mono e,h1,ht⟩
  ·simp only [St.b9] at vw
   rw [bM (Ne.symm cP)] at vw
   have Tm:∀ b,r.has b→b≠g:=fun b hb eq=>cP (h.g.inj i id _ _ b h2 hid hb (by rw [eq]; rfl))
   exact (h.g.obj i gg r vw h2).mono e (fun b hb=>old b (Tm b hb)) (fun b o hb hi=>hi)
 ·rcases aJ hid vw with ⟨g3,e1⟩ | ⟨g3,g1⟩
  ·rcases aJ hid h2 with ⟨g4,e2⟩ | ⟨g4,g2⟩
   ·omega
   ·rw [e1] at b1
    exact g3.trans (h.g.inj id j _ _ b hid g2 b1 b2)
  ·rcases aJ hid h2 with ⟨g4,e2⟩ | ⟨g4,g2⟩
   ·rw [e2] at b2
    exact (h.g.inj i id _ _ b g1 hid b1 b2).trans g4.symm
   ·exact h.g.inj i j ri rj b g1 g2 b1 b2
 ·have:=h.g.wf b o hi
  simpa using this
 ·exact h.b.bE e (fun k cs hk=>old _ (qy k cs hk)) (fun k cs o hk hi=>hi) (fun k cs hk hl=>live _ hl)
 ·refine ⟨e,rfl,rfl,rfl,by simp,fun b hb sZ=>old b (fun eq=>sZ (.inl (eq ▸ qx))),fun b hb ho=>?_,fun b o hi hb sZ=>hi⟩
  rcases ho with ho | ho
  ·exact .inl (live b ho)
  ·exact .inr ho
theorem bn.Eh (h:bn E R w β s a) {cur:Array Value} {vs:List Value} {es:List AV} {elem:TypeId} {sz cap:Nat} (hn:es.length≤cap) (hm:cap≤maxLen) (hs:cur.size=cap * sz) (pn:dB sz es) (hr:aM R w (ay es) vs) (h1:∀ v∈vs,v.oneCell'=true) (ht:cur.toList.take (es.length * sz)=vs) :
  bn E (R.add (.tok es.length w.heap.size cap)) (w.alloc (.cells cur elem)) β (s.dN (.dc es sz elem)) a:=
 h.lC (.cells cur elem) (.dc es sz elem) (.tok es.length w.heap.size cap) (by exact fun _ h=>h)
  ⟨rfl,pn,cur,vs,heap_alloc_new w _,hn,hm,hs,fun o hi=>by have:=h.g.wf _ _ hi; omega,hr.mono (gQ h.g.wf _ _),h1,ht⟩
theorem uJ (h:bn E R w β s a) (t:TypeId) (x y:Operand) (ho:o.op=.makeSlice t x y) {i:TI} (hi:E.ti t=some i) {k k':IntKind} {n m:Int} (hx:bI E s.ah x=.v (.int k n)) (hy:bI E s.ah y=.v (.int k' m))
  {elem esz oa:Nat} {ag:Bool} {z:AV} (hk:i.k=.sl elem esz ag oa (some z)) (hz:z.cells.length=esz) (Ht:1≤esz) (qZ:z.aX=true) (qw:z.closed=true) (hc:0≤n∧n≤m∧m≤140737488355328∧m * oa≤140737488355328) :
  bW E R w β s a o ((s.dN (.dc (List.replicate n.toNat z) esz elem)).put o.dst (.v (.dH s.G.length n.toNat 0 esz n.toNat))):=by
 obtain ⟨us,z1,z2,bG⟩:=p9 h t x y ho hi hx hy hk hz Ht qZ hc
 have WM:n.toNat≤m.toNat:=by omega
 have pn:=(fH (n:=m.toNat) hz qZ qw).g
 have Tp:us.length=m.toNat * esz:=by rw [← z1.length,di pn,List.length_replicate]
 have M5:(List.replicate n.toNat z).length=n.toNat:=List.length_replicate
 have BJ:(List.replicate m.toNat z).take n.toNat=List.replicate n.toNat z:=by rw [List.take_replicate,Nat.min_eq_left WM]
 have hr:aM R w (ay (List.replicate n.toNat z)) (us.take (n.toNat * esz)):=by
  rw [← BJ,jn _ pn]
  exact z1.take _
 have r1:=h.Eh (cur:=⟨us⟩) (vs:=us.take (n.toNat * esz)) (es:=List.replicate n.toNat z) (elem:=elem) (cap:=m.toNat) (by rw [M5]; exact WM) (by unfold maxLen; omega) (by simpa using Tp) (fH hz qZ qw).g hr (fun v hv=>z2 v (List.mem_of_mem_take hv)) (by rw [M5])
 rw [M5] at r1
 have e:=gQ (R:=R) (w:=w) h.g.wf (.cells ⟨us⟩ elem) (.tok n.toNat w.heap.size m.toNat)
 exact ⟨_,.slice (some ⟨w.heap.size,0,none⟩) n.toNat m.toNat,_,R.add (.tok n.toNat w.heap.size m.toNat),β,bG,.inl rfl,r1.put o.dst (x:=.v (.dH s.G.length n.toNat 0 esz n.toNat)) (Rel.dH (fZ h _) ⟨Nat.le_refl _,fun _=>⟨rfl,Nat.zero_add _,.inl (Nat.zero_mul _).symm⟩⟩ WM),by rw [a8]; exact cV h _ _ (by exact fun _ h=>h)⟩
theorem s5 (h:bn E R w β s a) (t:TypeId) (len:Nat) (parts:Array (Nat × Operand)) (ho:o.op=.buildSlice t len parts) {k:LK} {esz:Nat} {es:List AV} (hv:ca E s t len parts.toList=some (.list k esz es)) {i:TI} (hi:E.ti t=some i) {elem bN oa:Nat} {ag:Bool} {z:Option AV} (hk:i.k=.sl elem bN ag oa z) (hm:len≤65536) :
  bW E R w β s a o ((s.dN (.dc es esz elem)).put o.dst (.v (.dH s.G.length len 0 esz len))):=by
 obtain ⟨es',Tg,us,XE,Xy,bG,g2,hlen,u2,u3,i',ag',Xx,z',sQ,iR⟩:=iz h t len parts ho hv
 cases Xy
 rw [hi] at sQ
 cases sQ
 rw [hk] at iR
 cases iR
 have XF:us.length=len * esz:=by rw [← u2.length,dK g2,hlen]
 have r1:=h.Eh (cur:=⟨us⟩) (vs:=us) (es:=es) (elem:=elem) (cap:=len) (by rw [hlen]; exact Nat.le_refl _) (by simp [maxLen]; omega) (by simpa using XF) g2.g u2 u3 (by rw [hlen,← XF]; exact List.take_length)
 rw [hlen] at r1
 exact ⟨_,.slice (some ⟨w.heap.size,0,none⟩) len len,_,R.add (.tok len w.heap.size len),β,bG,.inl rfl,r1.put o.dst (x:=.v (.dH s.G.length len 0 esz len)) (Rel.dH (fZ h _) ⟨Nat.le_refl _,fun _=>⟨rfl,Nat.zero_add _,.inl (Nat.zero_mul _).symm⟩⟩ (Nat.le_refl _)),by rw [a8]; exact cV h _ _ (by exact fun _ h=>h)⟩
end ops
end Go.Am
namespace Go.Am
open Go
section fams
variable {E:Env} {R R':ao} {w w':World} {β β':Nat→Nat} {s s':St} {a a':Act} {o:Oper}
theorem s6 {α:Type} {l r:List α} {i:Nat} {x:α} (h:nth r i=some x):nth (l++r) (l.length+i)=some x:=by
 rw [bc] at *
 rw [List.getElem?_append_right (Nat.le_add_right _ _),Nat.add_sub_cancel_left]
 exact h
theorem uK {α:Type} {l r:List α} {i:Nat} {x:α} (h:nth l i=some x):nth (l++r) i=some x:=by
 have:=bP h
 rw [bc] at *
 rw [List.getElem?_append_left this]
 exact h
theorem dP {α:Type} {l r:List α} {i:Nat} {x:α} (h:nth (l++r) i=some x):nth l i=some x∨∃ j,i=l.length+j∧nth r j=some x:=by
 rw [bc] at h
 rcases Nat.lt_or_ge i l.length with bV | mF
 ·rw [List.getElem?_append_left bV] at h
  exact .inl (by rw [bc]; exact h)
 ·rw [List.getElem?_append_right mF] at h
  exact .inr ⟨i - l.length,by omega,by rw [bc]; exact h⟩
theorem bn.Ei (h:bn E R w β s a) {id sz:Nat} {e:TypeId} {fs:List Nat} (hid:nth s.G id=some (.bk fs sz e)) {nfs:List Nat} {nts:List TR} (hl:nts.length=nfs.length)
  (eB:∀ j f t,nth nfs j=some f→nth nts j=some t→zh R w sz e f t) (sZ:∀ j f b c,nth nts j≠some (.tok f b c)) {ro:RO} (bR:nth R.obj id=some ro) :
  ∃ ts,ro=.bk ts∧ts.length=fs.length∧bn E (R.reset id (.bk (ts++nts))) w β (s.b9 (aB s.G id (.bk (fs++nfs) sz e))) a∧Step R w β s.boxes (R.reset id (.bk (ts++nts))) w β s.boxes:=by
 have cL:=h.g.obj id _ _ hid bR
 cases ro with
 | none=>exact cL.elim
 | bJ=>exact cL.elim
 | b7 _=>exact cL.elim
 | tok _ _ _=>exact cL.elim
 | bk ts=>
 obtain ⟨q1,q2,q3⟩:=cL
 have vJ:∀ b,RO.has (.bk (ts++nts)) b→RO.has (.bk ts) b:=fun b ⟨j,f,c,hj⟩=>by
  rcases dP hj with hj | ⟨i,_,hi⟩
  ·exact ⟨j,f,c,hj⟩
  ·exact absurd hi (sZ i f b c)
 have ext:Ext R w (R.reset id (.bk (ts++nts))) w:=⟨fun _ _ h=>h,fun _ _ _=>rfl,fun i r hr=>by
  by_cases e:id=i
  ·subst e
   rw [bR] at hr
   cases hr
   exact ⟨_,aL bR,fun j t hj=>⟨t,uK hj,lB.refl t⟩⟩
  ·exact ⟨r,by rw [ao.reset,bM e]; exact hr,cD.refl r⟩,gy.refl w⟩
 have live:∀ b,Live (R.reset id (.bk (ts++nts))) b→Live R b:=fun b ⟨i,r,h1,h2⟩=>by
  rcases aJ bR h1 with ⟨_,rfl⟩ | ⟨_,h1⟩
  ·exact ⟨id,_,bR,vJ b h2⟩
  ·exact ⟨i,r,h1,h2⟩
 refine ⟨ts,rfl,q1,⟨⟨by simp [St.b9,ao.reset,h.g.len],fun i g r h1 h2=>?_,fun i j ri rj b h1 h2 b1 b2=>?_,h.g.wf,fun g cs hg=>(h.g.cb g cs hg).mono ext,h.g.lo⟩,h.b.bE ext (fun _ _ _=>rfl) (fun _ _ _ _ h=>h) (fun _ _ _ hl=>live _ hl),h.t.mono ext,h.n,h.d.mono ext⟩,?_⟩
 ·rcases aJ bR h2 with ⟨rfl,rfl⟩ | ⟨cP,h2⟩
  ·simp only [St.b9] at h1
   rw [aL hid] at h1
   cases h1
   refine ⟨by simp [q1,hl],fun i j f b c f' c' hi hj=>?_,fun j f t hf ht=>?_⟩
   ·rcases dP hi with hi | ⟨_,_,hi⟩
    ·rcases dP hj with hj | ⟨_,_,hj⟩
     ·exact q2 i j _ _ _ _ _ hi hj
     ·exact absurd hj (sZ _ _ _ _)
    ·exact absurd hi (sZ _ _ _ _)
   ·rcases dP hf with M6 | ⟨k,hk,M6⟩
    ·rcases dP ht with ht | ⟨k',iR,ht⟩
     ·exact q3 j f t M6 ht
     ·have:=bP M6
      omega
    ·rcases dP ht with ht | ⟨k',iR,ht⟩
     ·have:=bP ht
      omega
     ·have I9:k=k':=by omega
      subst I9
      exact eB k f t M6 ht
  ·simp only [St.b9] at h1
   rw [bM (Ne.symm cP)] at h1
   exact (h.g.obj i g r h1 h2).mono ext (fun _ _=>rfl) (fun _ _ _ h=>h)
 ·rcases aJ bR h1 with ⟨g3,e1⟩ | ⟨g3,g1⟩
  ·rcases aJ bR h2 with ⟨g4,e2⟩ | ⟨g4,g2⟩
   ·omega
   ·rw [e1] at b1
    exact g3.trans (h.g.inj id j _ _ b bR g2 (vJ b b1) b2)
  ·rcases aJ bR h2 with ⟨g4,e2⟩ | ⟨g4,g2⟩
   ·rw [e2] at b2
    exact (h.g.inj i id _ _ b g1 bR b1 (vJ b b2)).trans g4.symm
   ·exact h.g.inj i j ri rj b g1 g2 b1 b2
 ·refine ⟨ext,rfl,rfl,rfl,Nat.le_refl _,fun _ _ _=>rfl,fun b _ ho=>?_,fun _ _ h _ _=>h⟩
  rcases ho with ho | ho
  ·exact .inl (live b ho)
  ·exact .inr ho
theorem bW.step {s1:St} {s2:St} (e:s1.boxes=s.boxes) (st:Step R w β s.boxes R' w β s.boxes) (h:bW E R' w β s1 a o s2):bW E R w β s a o s2:=by
 obtain ⟨nx,x,w',R2,β',h1,h2,h3,h4⟩:=h
 rw [e] at h4
 exact ⟨nx,x,w',R2,β',h1,h2,h3,st.trans h4⟩
theorem XJ {c:Bool} {α:Type} {a b:α} (h:(bif c then some a else none)=some b):c=true∧a=b:=by
 cases c
 ·cases h
 ·exact ⟨rfl,Option.some.inj h⟩
theorem mS {sz:Nat} {e:TypeId}:∀ {G:List GO} {i j:Nat},jd G sz e i=some j→∃ fs,nth G (j - i)=some (.bk fs sz e)∧i≤j
 | [],i,j,h=>by cases h
 | g :: G,i,j,h=>by
  have step:jd G sz e (i+1)=some j→∃ fs,nth (g :: G) (j - i)=some (.bk fs sz e)∧i≤j:=fun h=>by
   obtain ⟨fs,h1,h2⟩:=mS h
   refine ⟨fs,?_,by omega⟩
   rw [show j - i=(j - (i+1))+1 by omega]
   exact h1
  unfold jd at h
  split at h
  ·rename_i jL
   cases jL
  ·rename_i jL
   obtain ⟨rfl,rfl⟩:=List.cons.inj jL
   split at h
   ·rename_i j' hj
    cases h
    exact step hj
   ·obtain ⟨hc,rfl⟩:=XJ h
    ·rw [Bool.and_eq_true] at hc
     have h1:=Nat.eq_of_beq_eq_true hc.1
     have h2:=Nat.eq_of_beq_eq_true hc.2
     subst h1 h2
     exact ⟨_,by rw [Nat.sub_self]; rfl,Nat.le_refl _⟩
  ·rename_i x G1 _ _ _ hn jL
   obtain ⟨rfl,rfl⟩:=List.cons.inj jL
   exact step h
theorem bn.F5 {s0:St} {d:Option Tmp} {x y:AV} (h:bn E R w β (s0.put d (.v x)) a) (hw:∀ c,Rel R w x c→Rel R w y c):bn E R w β (s0.put d (.v y)) a:=by
 cases d with
 | none=>exact h
 | some d=>
  simp only [St.put] at h ⊢
  cases hb:Nat.blt d s0.n with
  | false=>rw [hb] at h; exact h
  | true=>
   rw [hb] at h
   refine ⟨h.g,h.b,fun i hi=>?_,h.n,h.d⟩
   by_cases e:d=i
   ·subst e
    rw [aD]
    obtain ⟨c,k1,k2⟩:=h.t d (by rw [aD]; simp)
    rw [aD] at k2
    exact ⟨c,k1,hw c k2⟩
   ·rw [aR e] at hi ⊢
    have:=h.t i (by rw [aR e]; exact hi)
    rw [aR e] at this
    exact this
theorem bW.F5 {s0:St} {x y:AV} (h:bW E R w β s a o (s0.put o.dst (.v x))) (hw:∀ R' w',Ext R w R' w'→∀ c,Rel R' w' x c→Rel R' w' y c):bW E R w β s a o (s0.put o.dst (.v y)):=by
 obtain ⟨nx,v,w',R',β',h1,h2,h3,h4⟩:=h
 refine ⟨nx,v,w',R',β',h1,h2,h3.F5 (hw R' w' h4.ext),?_⟩
 rw [a8] at h4 ⊢
 exact h4
end fams
section ops
variable {E:Env} {R:ao} {w:World} {β:Nat→Nat} {s:St} {a:Act} {o:Oper}
theorem fI {k:LK} {sz esz:Nat} {es:List AV} {c:Value} (h:Rel R w (.list k sz es) c) (eC:es=[]∨sz=esz) :
  ji esz es∧∃ vs,aM R w (ay es) vs∧(∀ v∈vs,v.oneCell'=true)∧vs.length=es.length * esz ∧
   ((es=[]∧vs=[]∧∃ ad,c=.slice ad 0 0∧(ad=none∨k=.eU))∨∃ b o' cap,c=.slice (some ⟨b,o',none⟩) es.length cap∧es.length≤cap∧As R k b o' es.length cap∧(∀ j v,vs[j]?=some v→w.cell? ((⟨b,o',none⟩:Addr).add j)=some v)∧fY R w b o' esz es):=by
 cases h with
 | jA=>exact ⟨fun e he=>by simp at he,[],.nil,by simp,by simp,.inl ⟨rfl,rfl,_,rfl,.inl rfl⟩⟩
 | iU=>exact ⟨fun e he=>by simp at he,[],.nil,by simp,by simp,.inl ⟨rfl,rfl,_,rfl,.inl rfl⟩⟩
 | mN=>exact ⟨fun e he=>by simp at he,[],.nil,by simp,by simp,.inl ⟨rfl,rfl,_,rfl,.inr rfl⟩⟩
 | lZ=>exact ⟨fun e he=>by simp at he,[],.nil,by simp,by simp,.inl ⟨rfl,rfl,_,rfl,.inl rfl⟩⟩
 | lA=>exact ⟨fun e he=>by simp at he,[],.nil,by simp,by simp,.inl ⟨rfl,rfl,_,rfl,.inl rfl⟩⟩
 | @list _ _ _ b o' len cap hr hlen gW I9=>
  subst hlen
  have lD:fY R w b o' esz es:=by
   rcases eC with rfl | rfl
   ·exact .nil
   ·exact hr
  obtain ⟨g0,vs,g1,g2,g3,g4⟩:=vE lD
  refine ⟨g0,vs,g1,g2,by rw [← g1.length,dK g0],.inr ⟨b,o',cap,rfl,gW,I9,fun j v hv=>?_,lD⟩⟩
  rw [cF]
  exact g3 j v hv
theorem rE {b esz:Nat} {es:List AV} {vs:List Value} {w:World} {R:ao} (h0:ji esz es) (h:aM R w (ay es) vs) (h1:∀ v∈vs,v.oneCell'=true)
  (hc:∀ j v,vs[j]?=some v→w.cell? ⟨b,j,none⟩=some v) (hI:∀ j,j < vs.length→R.I b j):fY R w b 0 esz es:=
 me h0 (dO.make h h1 (fun j v hv=>by rw [Nat.zero_add]; exact hc j v hv) (fun j hj=>by rw [Nat.zero_add]; exact hI j (by rw [← h.length]; exact hj)))
theorem lf {sz:Nat} {l r:List AV} (h:ji sz l) (k:ji sz r):ji sz (l++r):=fun e he=>by
 rcases List.mem_append.1 he with he | he
 ·exact h e he
 ·exact k e he
theorem iX {l r:List Value} (h:∀ v∈l,v.oneCell'=true) (k:∀ v∈r,v.oneCell'=true):∀ v∈l++r,v.oneCell'=true:=fun v hv=>by
 rcases List.mem_append.1 hv with hv | hv
 ·exact h v hv
 ·exact k v hv
structure Apd (P:Program) (w:World) (t u ty e:TypeId) (i:TypeInfo) (z:Value) (cy:Value) (n:Nat) (us:List Value):Prop where
 zero:n=0→∀ base len cap,len≤cap→(Builtin.append_ #[t,u] ty #[.slice base len cap,cy]).run P w=.ok (.slice base len cap) w
 nil:0 < n→(n:Int)≤9223372036854775807→n * i.bytes≤281474976710656→(Builtin.append_ #[t,u] ty #[.slice none 0 0,cy]).run P w =
   .ok (.slice (some ⟨w.heap.size,0,none⟩) n (grownCap w n 0 e)) (w.drew.alloc (.cells (us.toArray++Builtin.zeroCells z.cells (grownCap w n 0 e - n)) e))
 grow:0 < n→∀ (b:Addr) (sLen lF:Nat) (AH:List Value),AH.length=sLen * i.size→(∀ j v,AH[j]?=some v→w.cell? (b.add j)=some v)→lF < sLen+n→((sLen+n:Nat):Int)≤9223372036854775807→Builtin.nextslicecap (sLen+n) lF * i.bytes≤281474976710656 →
   (Builtin.append_ #[t,u] ty #[.slice (some b) sLen lF,cy]).run P w=.ok (.slice (some ⟨w.heap.size,0,none⟩) (sLen+n) (grownCap w (sLen+n) lF e))
    (w.drew.alloc (.cells (AH.toArray++us.toArray++Builtin.zeroCells z.cells (grownCap w (sLen+n) lF e - (sLen+n))) e))
 room:0 < n→∀ (g sLen lF:Nat) (cur:Array Value),w.heap[g]?=some (.cells cur e (0,0))→sLen+n≤lF→sLen * i.size+us.length≤cur.size →
   (Builtin.append_ #[t,u] ty #[.slice (some ⟨g,0,none⟩) sLen lF,cy]).run P w=.ok (.slice (some ⟨g,0,none⟩) (sLen+n) lF) (w.setRow g (cur.toList.take (sLen * i.size)++us++cur.toList.drop (sLen * i.size+us.length)).toArray)
theorem nN (h:bn E R w β s a) {t u:TypeId} {id f off sz len:Nat} {y:AV} {ys:List AV} {cx cy:Value} {us:List Value}
  (fA:∀ {c:Value} {w':World},(Builtin.append_ #[t,u] o.type #[cx,cy]).run E.P w=.ok c w'→(execOp a.eval o).run E.P w=.ok (.value c) w')
  {elem esz eb:Nat} {z:AV} (F6:1≤eb) (hz:z.cells.length=esz) (qZ:z.aX=true)
  {ie:TypeInfo} (f2:ie.size=esz) (f3:ie.bytes=eb) (f6:fU ie=some z)
  (h0:Rel R w (.dH id f off sz len) cx) (hA:∀ zc:Value,ie.zero=some zc→Apd E.P w t u o.type elem ie zc cy (y :: ys).length us)
  (y0:dB esz (y :: ys)) (y1:aM R w (ay (y :: ys)) us) (y2:∀ v∈us,v.oneCell'=true) (y3:us.length=(y :: ys).length * esz)
  {es:List AV} (hid:nth s.G id=some (.dc es esz elem)) (hf:f=es.length) (ho0:off=0) (sV:len=f) (hb:(es.length+(y :: ys).length) * eb≤140737488355328) :
  bW E R w β s a o ((s.b9 (aB s.G id (.dc (es++(y :: ys)) esz elem))).put o.dst (.v (.dH id (es.length+(y :: ys).length) 0 esz (es.length+(y :: ys).length)))):=by
 obtain ⟨zc,qw,DL⟩:=dh f6
 have hA:=hA zc qw
 obtain ⟨d1,d2⟩:=Rel.cells (DL R w) qZ
 have pq:zc.cells.size=esz:=by rw [← hz,d1.length]; simp
 have oo:0 < (y :: ys).length:=by simp
 have hm:es.length+(y :: ys).length≤140737488355328:=Nat.le_trans (Nat.le_mul_of_pos_right _ F6) hb
 have B5:(es++(y :: ys)).length=es.length+(y :: ys).length:=List.length_append
 -- where a new block has been made
 have fresh:∀ {xs:List Value} {old:Nat} {r0:RO},nth R.obj id=some r0→(∀ b c,cD r0 (.tok (es.length+(y :: ys).length) b c))→dB esz es→aM R w (ay es) xs→(∀ v∈xs,v.oneCell'=true)→xs.length=es.length * esz →
   (Builtin.append_ #[t,u] o.type #[cx,cy]).run E.P w=.ok (.slice (some ⟨w.heap.size,0,none⟩) (es.length+(y :: ys).length) (grownCap w (es.length+(y :: ys).length) old elem)) (w.drew.alloc (.cells (xs.toArray++us.toArray++Builtin.zeroCells zc.cells (grownCap w (es.length+(y :: ys).length) old elem - (es.length+(y :: ys).length))) elem)) →
   bW E R w β s a o ((s.b9 (aB s.G id (.dc (es++(y :: ys)) esz elem))).put o.dst (.v (.dH id (es.length+(y :: ys).length) 0 esz (es.length+(y :: ys).length)))):=by
  intro xs old r0 bR hle IT XL uF zr bG
  have mF:=grownCap_ge w (es.length+(y :: ys).length) old elem
  obtain ⟨r1,r2⟩:=h.Ts (cur:=xs.toArray++us.toArray++Builtin.zeroCells zc.cells (grownCap w (es.length+(y :: ys).length) old elem - (es.length+(y :: ys).length))) (vs:=xs++us) (es':=es++(y :: ys)) hid bR (by rw [B5]; exact hle) (by rw [B5]; exact mF) (grownCap_le_maxLen w _ old elem (by unfold maxLen; omega)) (by
   simp only [Array.size_append,List.size_toArray,size_zeroCells,pq,zr,y3,← Nat.add_mul]
   congr 1
   omega) (rD IT y0) (by rw [cS]; exact XL.append y1) (iX uF y2) (by
   rw [B5]
   simp only [Array.toList_append]
   exact List.take_left' (by rw [List.length_append,zr,y3,Nat.add_mul]))
  rw [B5] at r1 r2
  refine ⟨_,_,_,_,β,fA bG,.inl rfl,r1.put o.dst ?_,by rw [a8]; exact r2⟩
  exact Rel.dH (aL bR) ⟨Nat.le_refl _,fun _=>⟨rfl,Nat.zero_add _,.inl (Nat.zero_mul _).symm⟩⟩ mF
 cases h0 with
 | @iN _ _ ro bR hon=>
  have cL:=h.g.obj id _ _ hid bR
  have he0:es=[]:=List.eq_nil_of_length_eq_zero hf.symm
  subst he0
  cases ro with
  | none=>exact cL.elim
  | b7 _=>exact cL.elim
  | bk _=>exact cL.elim
  | tok f' g c=>
   obtain ⟨rfl,_⟩:=cL
   simp [mM] at hon
  | bJ=>
   simp only [List.length_nil] at hb
   have bG:=hA.nil oo (by omega) (by rw [f3]; rw [Nat.zero_add] at hb; omega)
   exact fresh (xs:=[]) (old:=0) bR (fun b c=>by simp only [cD]; omega) (fun e he=>by simp at he) .nil (by simp) (by simp) (by simpa using bG)
 | @dH _ _ _ _ _ cap b o' ro bR eB gW=>
  subst hf; subst ho0; subst sV
  obtain ⟨b',c',cur,vs,rfl,g1,g2,g3,g4,g5,g6,g7,g8,g9⟩:=k9 h.g hid bR (fun k=>by subst k; exact eB)
  obtain ⟨rfl,B6,sF⟩:=eB.2 rfl
  rw [Nat.zero_add] at B6
  subst B6
  have RT:vs.length=es.length * esz:=by rw [← g7.length,di g1]
  have fJ:∀ j v,vs[j]?=some v→cur[j]?=some v:=fun j v hj=>by
   rw [← g9,List.getElem?_take] at hj
   split at hj
   ·rw [← Array.getElem?_toList]; exact hj
   ·cases hj
  by_cases gJ:es.length+(y :: ys).length≤cap
  ·have nW:o'=0:=by
    rcases sF with sF | sF
    ·rw [sF,Nat.zero_mul]
    ·rw [List.length_cons] at gJ; omega
   subst nW
   have hle:(es.length+(y :: ys).length) * esz≤cap * esz:=Nat.mul_le_mul_right _ gJ
   have bG:=hA.room oo b es.length cap cur g2 gJ (by rw [f2,y3,← Nat.add_mul,g5]; exact hle)
   rw [f2] at bG
   have je:cur.toList.length=cap * esz:=by rw [show cur.toList.length=cur.size from Array.length_toList,g5]
   obtain ⟨r1,r2⟩:=h.Nw (cur2:=(cur.toList.take (es.length * esz)++us++cur.toList.drop (es.length * esz+us.length)).toArray) (vs:=vs++us) (es':=es++(y :: ys)) hid bR (by rw [B5]; omega) (by rw [B5]; exact gJ) g2 (by
    rw [List.size_toArray,← Array.length_toList]
    simp only [List.length_append,List.length_take,List.length_drop,y3,je]
    rw [Nat.add_mul] at hle
    omega) (rD g1 y0) (by rw [cS]; exact g7.append y1) (iX g8 y2) (by
    rw [B5,List.toList_toArray,g9]
    exact List.take_left' (by rw [List.length_append,RT,y3,Nat.add_mul]))
   rw [B5] at r1 r2
   refine ⟨_,_,_,_,β,fA bG,.inl rfl,r1.put o.dst ?_,by rw [a8]; exact r2⟩
   exact Rel.dH (aL bR) ⟨Nat.le_refl _,fun _=>⟨rfl,Nat.zero_add _,.inl (Nat.zero_mul _).symm⟩⟩ gJ
  ·have bG:=hA.grow oo ⟨b,o',none⟩ es.length cap vs (by rw [RT,f2]) (fun j v hj=>by
    rw [cF]
    have M3:=(List.getElem?_eq_some_iff.1 hj).1
    have nW:o'=0:=by
     rcases sF with sF | sF
     ·rw [sF,Nat.zero_mul]
     ·have:es.length=0:=by omega
      rw [RT,this] at M3
      omega
    subst nW
    rw [Nat.zero_add,cell_of_row w b j cur elem (0,0) g2]
    exact fJ j v hj) (by omega) (by omega) (growslice_fits (by omega) (by rw [f3]; exact hb))
   exact fresh (xs:=vs) (old:=cap) bR (fun b c=>⟨by omega,fun e=>by omega⟩) g1 g7 g8 RT bG
theorem mg (h:bn E R w β s a) {t u:TypeId} {id j:Nat} {es:List AV} {y:AV} {ys:List AV} {cx cy:Value} {us:List Value}
  (fA:∀ {c:Value} {w':World},(Builtin.append_ #[t,u] o.type #[cx,cy]).run E.P w=.ok c w'→(execOp a.eval o).run E.P w=.ok (.value c) w')
  {elem esz eb:Nat} {z:AV} (F6:1≤eb) (hz:z.cells.length=esz) (qZ:z.aX=true)
  {ie:TypeInfo} (f2:ie.size=esz) (f3:ie.bytes=eb) (f6:fU ie=some z)
  (h0:Rel R w (.list (.bk id j) esz es) cx) (hA:∀ zc:Value,ie.zero=some zc→Apd E.P w t u o.type elem ie zc cy (y :: ys).length us)
  (y0:ji esz (y :: ys)) (y1:aM R w (ay (y :: ys)) us) (y2:∀ v∈us,v.oneCell'=true) (y3:us.length=(y :: ys).length * esz)
  {fs:List Nat} (iq:nth s.G id=some (.bk fs esz elem)) (tP:nth fs j=some es.length) (hb:(es.length+(y :: ys).length) * eb≤140737488355328) :
  bW E R w β s a o ((s.b9 (aB s.G id (.bk (aB fs j (es.length+(y :: ys).length)) esz elem))).put o.dst (.v (.list (.bk id j) esz (es++(y :: ys))))):=by
 obtain ⟨zc,qw,DL⟩:=dh f6
 have hA:=hA zc qw
 obtain ⟨d1,d2⟩:=Rel.cells (DL R w) qZ
 have pq:zc.cells.size=esz:=by rw [← hz,d1.length]; simp
 have oo:0 < (y :: ys).length:=by simp
 have hm:es.length+(y :: ys).length≤140737488355328:=Nat.le_trans (Nat.le_mul_of_pos_right _ F6) hb
 obtain ⟨x0,xs,x1,x2,x3,x4⟩:=fI (esz:=esz) h0 (.inr rfl)
 obtain ⟨ro,bR⟩:∃ ro,nth R.obj id=some ro:=by
  cases h0 with
  | lA q _=>exact ⟨_,q⟩
  | list _ _ _ hk=>obtain ⟨ro,q,_⟩:=hk; exact ⟨ro,q⟩
 have cL:=h.g.obj id _ _ iq bR
 cases ro with
 | none=>exact cL.elim
 | bJ=>exact cL.elim
 | b7 _=>exact cL.elim
 | tok _ _ _=>exact cL.elim
 | bk ts=>
 have cL:vu R w esz elem fs ts:=cL
 have hjl:j < ts.length:=by rw [cL.1]; exact bP tP
 obtain ⟨tr,ht⟩:∃ tr,nth ts j=some tr:=⟨ts[j],by rw [bc]; exact List.getElem?_eq_getElem hjl⟩
 have nO:=cL.2.2 j _ _ tP ht
 have B7:∀ i f b c,nth ts i=some (.tok f b c)→b < w.heap.size:=fun i f b c hi=>h.g.b6 ⟨id,_,bR,i,f,c,hi⟩
 -- where a new block has been made
 have fresh:∀ {old:Nat},(∀ b c,lB tr (.tok (es.length+(y :: ys).length) b c)) →
   (Builtin.append_ #[t,u] o.type #[cx,cy]).run E.P w=.ok (.slice (some ⟨w.heap.size,0,none⟩) (es.length+(y :: ys).length) (grownCap w (es.length+(y :: ys).length) old elem)) (w.drew.alloc (.cells (xs.toArray++us.toArray++Builtin.zeroCells zc.cells (grownCap w (es.length+(y :: ys).length) old elem - (es.length+(y :: ys).length))) elem)) →
   bW E R w β s a o ((s.b9 (aB s.G id (.bk (aB fs j (es.length+(y :: ys).length)) esz elem))).put o.dst (.v (.list (.bk id j) esz (es++(y :: ys))))):=by
  intro old hle bG
  have mF:=grownCap_ge w (es.length+(y :: ys).length) old elem
  have XM:=grownCap_le_maxLen w (es.length+(y :: ys).length) old elem (by unfold maxLen; omega)
  have RW:(xs.toArray++us.toArray++Builtin.zeroCells zc.cells (grownCap w (es.length+(y :: ys).length) old elem - (es.length+(y :: ys).length))).size=grownCap w (es.length+(y :: ys).length) old elem * esz:=by
   simp only [Array.size_append,List.size_toArray,size_zeroCells,pq,x3,y3,← Nat.add_mul]
   congr 1
   omega
  generalize iO:xs.toArray++us.toArray++Builtin.zeroCells zc.cells (grownCap w (es.length+(y :: ys).length) old elem - (es.length+(y :: ys).length))=cur at bG RW
  have o1:=One.drew w (.cells cur elem)
  obtain ⟨r1,r2⟩:=h.Tn o1 (n:=(es.length+(y :: ys).length) * esz) (r1:=.bk (aB ts j (.tok (es.length+(y :: ys).length) w.heap.size (grownCap w (es.length+(y :: ys).length) old elem)))) (go:=.bk (aB fs j (es.length+(y :: ys).length)) esz elem) iq bR
   (sP.set ht (hle _ _)) (fun b hb=>F1 hb) (vu.set cL ⟨rfl,cur,o1.new,mF,XM,RW,fun o' nW hi=>by
    rcases hi with hi | ⟨_,hi⟩
    ·have:=h.g.wf _ _ hi
     omega
    ·omega⟩ (fun i f c hi=>absurd (B7 i f _ c hi) (Nat.lt_irrefl _)) (fun i f b c _ hi=>⟨o1.old b (B7 i f b c hi),fun o' nW=>by
     rcases nW with nW | ⟨nW,_⟩
     ·exact nW
     ·have:=B7 i f b c hi
      omega⟩))
  have e:=r2.ext
  refine ⟨_,_,_,_,β,fA bG,.inl rfl,r1.put o.dst ?_,by rw [a8]; exact r2⟩
  refine Rel.list (rE (vs:=xs++us) (lf x0 y0) (by rw [cS]; exact (x1.mono e).append (y1.mono e)) (iX x2 y2) (fun j v hj=>?_) (fun j hj=>.inr ⟨rfl,by rw [List.length_append,x3,y3,← Nat.add_mul] at hj; exact hj⟩)) (by simp) mF ⟨_,aL bR,_,aL ht,Nat.le_refl _,fun _=>⟨rfl,rfl,rfl⟩⟩
  rw [cell_of_row _ _ j _ _ _ o1.new,← iO]
  have bV:=(List.getElem?_eq_some_iff.1 hj).1
  rw [← Array.getElem?_toList]
  simp only [Array.toList_append,List.append_assoc]
  rw [← List.append_assoc,List.getElem?_append_left bV]
  exact hj
 rcases x4 with ⟨rfl,rfl,ad,rfl,hd⟩ | ⟨b,o',cap,rfl,XN,xk,tQ,xE⟩
 ·obtain rfl:ad=none:=by
   rcases hd with hd | hd
   ·exact hd
   ·cases hd
  simp only [List.length_nil] at hb nO
  have bG:=hA.nil oo (by simp only [List.length_nil] at hm; omega) (by rw [f3]; rw [Nat.zero_add] at hb; omega)
  cases tr with
  | bJ=>exact fresh (old:=0) (fun b c=>by simp only [lB,List.length_cons]; omega) (by simpa using bG)
  | full f'=>
   have nO:f'=0:=nO
   subst nO
   exact fresh (old:=0) (fun b c=>by simp only [lB,List.length_cons]; omega) (by simpa using bG)
  | tok f' g c=>
   obtain ⟨nO,_⟩:=nO
   subst nO
   exact fresh (old:=0) (fun b c=>by simp only [lB,List.length_cons,List.length_nil]; omega) (by simpa using bG)
 ·obtain ⟨lT,XO,tO⟩:=xk
  rw [bR] at XO
  cases XO
  obtain ⟨t',q3,tO⟩:=tO
  rw [ht] at q3
  cases q3
  cases tr with
  | bJ=>exact tO.elim
  | full f'=>
   have hf:f'=es.length:=nO
   subst hf
   have gW:=tO.2 rfl
   subst gW
   have bG:=hA.grow oo ⟨b,o',none⟩ es.length es.length xs (by rw [x3,f2]) tQ (by omega) (by omega) (growslice_fits (by omega) (by rw [f3]; exact hb))
   exact fresh (fun b c=>by simp only [lB]; omega) bG
  | tok f' g c=>
   obtain ⟨rfl,cur,iO,k1,k3,k4,k5⟩:=nO
   obtain ⟨rfl,rfl,rfl⟩:=tO.2 rfl
   by_cases gJ:es.length+(y :: ys).length≤cap
   ·have hle:(es.length+(y :: ys).length) * esz≤cap * esz:=Nat.mul_le_mul_right _ gJ
    have bG:=hA.room oo b es.length cap cur iO gJ (by rw [f2,y3,← Nat.add_mul,k4]; exact hle)
    rw [f2] at bG
    generalize Jl:(cur.toList.take (es.length * esz)++us++cur.toList.drop (es.length * esz+us.length)).toArray=cur2 at bG
    have je:cur.toList.length=cap * esz:=by rw [show cur.toList.length=cur.size from Array.length_toList,k4]
    have hll:es.length * esz≤cap * esz:=Nat.mul_le_mul_right _ k1
    have Hv:cur2.size=cap * esz:=by
     rw [← Jl,List.size_toArray]
     simp only [List.length_append,List.length_take,List.length_drop,y3,je]
     rw [Nat.add_mul] at hle
     omega
    have vK:∀ o',R.I b o'→cur2[o']?=cur[o']?:=fun o' hi=>by
     have ho:o' < es.length * esz:=Nat.lt_of_not_le fun hle=>k5 o' hle hi
     rw [← Jl,List.append_assoc]
     simp only [List.getElem?_toArray]
     rw [List.getElem?_append_left (by rw [List.length_take]; omega),List.getElem?_take,if_pos ho,Array.getElem?_toList]
    have new:(w.setRow b cur2).heap[b]?=some (.cells cur2 elem (0,0)):=setRow_heap w b cur cur2 elem (0,0) iO
    obtain ⟨r0,r1,r2⟩:=h.Nv (cur2:=cur2) (n:=(es.length+(y :: ys).length) * esz) (r1:=.bk (aB ts j (.tok (es.length+(y :: ys).length) b cap))) (go:=.bk (aB fs j (es.length+(y :: ys).length)) esz elem) iq bR ⟨j,_,_,ht⟩
     (sP.set ht ⟨by omega,fun e=>by omega⟩) (fun b' kd=>(F1 kd).elim (fun e=>by rw [e]; exact ⟨j,_,_,ht⟩) (fun x=>x)) iO vK (fun _=>vu.set cL ⟨rfl,cur2,new,gJ,k3,Hv,fun o' nW hi=>by
      rcases hi with hi | ⟨_,hi⟩
      ·exact k5 o' (Nat.le_trans (Nat.mul_le_mul_right _ (Nat.le_add_right _ _)) nW) hi
      ·omega⟩ (fun i f c hi=>cL.2.1 i j _ _ _ _ _ hi ht) (fun i f b' c cP hi=>by
       have WG:b'≠b:=fun e=>by subst e; exact cP (cL.2.1 i j _ _ _ _ _ hi ht)
       refine ⟨setRow_other w b b' cur2 WG,fun o' nW=>?_⟩
       rcases nW with nW | ⟨nW,_⟩
       ·exact nW
       ·exact absurd nW WG))
    refine ⟨_,_,_,_,β,fA bG,.inl rfl,r1.put o.dst ?_,by rw [a8]; exact r2⟩
    have Nx:cur.toList.take (es.length * esz)=xs:=by
     have DM:xs.length=es.length * esz:=x3
     apply List.ext_getElem?
     intro j
     rw [List.getElem?_take]
     split
     ·rename_i hj
      have M3:j < xs.length:=by omega
      have rA:=tQ j xs[j] (List.getElem?_eq_getElem M3)
      rw [cF,Nat.zero_add,cell_of_row w b j cur elem (0,0) iO] at rA
      rw [Array.getElem?_toList,rA,List.getElem?_eq_getElem M3]
     ·rw [List.getElem?_eq_none (by omega)]
    refine Rel.list (rE (vs:=xs++us) (lf x0 y0) (by rw [cS]; exact (x1.mono r0).append (y1.mono r0)) (iX x2 y2) (fun j v hj=>?_) (fun j hj=>.inr ⟨rfl,by rw [List.length_append,x3,y3,← Nat.add_mul] at hj; exact hj⟩)) (by simp) gJ ⟨_,aL bR,_,aL ht,Nat.le_refl _,fun _=>⟨rfl,rfl,rfl⟩⟩
    rw [cell_of_row _ _ j _ _ _ new,← Jl,Nx]
    simp only [List.getElem?_toArray]
    rw [List.getElem?_append_left (List.getElem?_eq_some_iff.1 hj).1]
    exact hj
   ·have bG:=hA.grow oo ⟨b,0,none⟩ es.length cap xs (by rw [x3,f2]) tQ (by omega) (by omega) (growslice_fits (by omega) (by rw [f3]; exact hb))
    exact fresh (fun b c=>⟨by omega,fun e=>by omega⟩) bG
theorem uL (h:bn E R w β s a) {t u:TypeId} {id j:Nat} {es:List AV} {y:AV} {ys:List AV} {cx cy:Value} {us:List Value}
  (fA:∀ {c:Value} {w':World},(Builtin.append_ #[t,u] o.type #[cx,cy]).run E.P w=.ok c w'→(execOp a.eval o).run E.P w=.ok (.value c) w')
  {elem esz eb:Nat} {z:AV} (F6:1≤eb) (hz:z.cells.length=esz) (qZ:z.aX=true)
  {ie:TypeInfo} (f2:ie.size=esz) (f3:ie.bytes=eb) (f6:fU ie=some z)
  (h0:Rel R w (.list (.bk id j) esz es) cx) (hA:∀ zc:Value,ie.zero=some zc→Apd E.P w t u o.type elem ie zc cy (y :: ys).length us)
  (y0:ji esz (y :: ys)) (y1:aM R w (ay (y :: ys)) us) (y2:∀ v∈us,v.oneCell'=true) (y3:us.length=(y :: ys).length * esz)
  {fs:List Nat} (iq:nth s.G id=some (.bk fs esz elem)) (tP:Nl fs j es.length=true) (hb:(es.length+(y :: ys).length) * eb≤140737488355328) :
  bW E R w β s a o ((s.b9 (aB s.G id (.bk (Hf fs j (es.length+(y :: ys).length)) esz elem))).put o.dst (.v (.list (.bk id j) esz (es++(y :: ys))))):=by
 unfold Nl at tP
 rw [Bool.or_eq_true,decide_eq_true_eq,Bool.and_eq_true] at tP
 rcases tP with tP | ⟨hj,hl⟩
 ·have cP:Nat.beq j fs.length=false:=by
   cases hb:Nat.beq j fs.length with
   | false=>rfl
   | true=>
    have:=Nat.eq_of_beq_eq_true hb
    have:=bP tP
    omega
  unfold Hf
  rw [cP]
  exact mg h fA F6 hz qZ f2 f3 f6 h0 hA y0 y1 y2 y3 iq tP hb
 ·have vO:Hf fs j (es.length+(y :: ys).length)=fs++[es.length+(y :: ys).length]:=by
   unfold Hf
   rw [hj]
   rfl
  rw [vO]
  have hj:=Nat.eq_of_beq_eq_true hj
  have hl:=Nat.eq_of_beq_eq_true hl
  subst hj
  have bV:=bP iq
  rw [← h.g.len] at bV
  obtain ⟨ro,bR⟩:∃ ro,nth R.obj id=some ro:=⟨R.obj[id],by rw [bc]; exact List.getElem?_eq_getElem bV⟩
  obtain ⟨ts,rfl,z1,z2,z3⟩:=h.Ei iq (nfs:=[0]) (nts:=[.bJ]) rfl (fun j f t h1 h2=>by
   cases j with
   | zero=>simp only [nth] at h1 h2; cases h1; cases h2; exact rfl
   | succ j=>simp [nth] at h1) (fun j f b c hj=>by
   cases j with
   | zero=>simp only [nth] at hj; cases hj
   | succ j=>simp [nth] at hj) bR
  have key:=mg z2 fA F6 hz qZ f2 f3 f6 (h0.mono z3.ext) hA y0 (y1.mono z3.ext) y2 y3 (fs:=fs++[0]) (aL iq) (by rw [hl]; exact eH _ _) hb
  have e1:aB (fs++[0]) fs.length (es.length+(y :: ys).length)=fs++[es.length+(y :: ys).length]:=by
   rw [fu,List.set_append_right _ _ (Nat.le_refl _),Nat.sub_self]
   rfl
  have e2:∀ x y:GO,aB (aB s.G id x) id y=aB s.G id y:=fun x y=>by rw [fu,fu,fu,List.set_set]
  rw [e1] at key
  refine bW.step rfl z3 ?_
  have e3:((s.b9 (aB s.G id (.bk (fs++[0]) esz elem))).b9 (aB (s.b9 (aB s.G id (.bk (fs++[0]) esz elem))).G id (.bk (fs++[es.length+(y :: ys).length]) esz elem)))=s.b9 (aB s.G id (.bk (fs++[es.length+(y :: ys).length]) esz elem)):=by
   simp only [St.b9,e2]
  rw [e3] at key
  exact key
theorem mh (h:bn E R w β s a) {t u:TypeId} {x:AV} {ys:List AV} {cx cy:Value} {us:List Value}
  (fA:∀ {c:Value} {w':World},(Builtin.append_ #[t,u] o.type #[cx,cy]).run E.P w=.ok c w'→(execOp a.eval o).run E.P w=.ok (.value c) w')
  {i:TI} {elem esz eb:Nat} {ag:Bool} {z:AV} (hk:i.k=.sl elem esz ag eb (some z)) (F6:1≤eb) (hz:z.cells.length=esz) (qZ:z.aX=true)
  {ie:TypeInfo} (f1:E.P.info? elem=some ie) (f2:ie.size=esz) (f3:ie.bytes=eb) (f6:fU ie=some z)
  (h0:Rel R w x cx) (hA:∀ zc:Value,ie.zero=some zc→Apd E.P w t u o.type elem ie zc cy ys.length us)
  (y0:ji esz ys) (y1:aM R w (ay ys) us) (y2:∀ v∈us,v.oneCell'=true) (y3:us.length=ys.length * esz)
  {v:AV} {G':List GO} (ha:fV s.G elem esz eb x ys=some (true,v,G')) :
  bW E R w β s a o ((s.b9 G').put o.dst (.v v)):=by
 obtain ⟨zc,qw,DL⟩:=dh f6
 have hA':=hA
 have hA:=hA zc qw
 obtain ⟨d1,d2⟩:=Rel.cells (DL R w) qZ
 have pq:zc.cells.size=esz:=by rw [← hz,d1.length]; simp
 unfold fV at ha
 split at ha
 ·-- nothing is appended
  rename_i k sz es
  have XF:us=[]:=List.eq_nil_of_length_eq_zero (by simpa using y3)
  have hG:G'=s.G∧Rel R w v cx:=by
   split at ha
   ·injection ha with ha; injection ha with _ ha; injection ha with p q
    subst p; subst q
    exact ⟨rfl,h0⟩
   ·injection ha with ha; injection ha with _ ha; injection ha with p q
    subst p; subst q
    exact ⟨rfl,h0⟩
  obtain ⟨rfl,hvr⟩:=hG
  refine ax (s:=s) h (c:=cx) (fA ?_) hvr
  cases h0 with
  | jA=>exact hA.zero rfl _ _ _ (Nat.le_refl 0)
  | iU=>exact hA.zero rfl _ _ _ (Nat.le_refl 0)
  | mN=>exact hA.zero rfl _ _ _ (Nat.le_refl 0)
  | lZ=>exact hA.zero rfl _ _ _ (Nat.le_refl 0)
  | lA=>exact hA.zero rfl _ _ _ (Nat.le_refl 0)
  | list hr hlen gW _=>exact hA.zero rfl _ _ _ gW
 ·-- something is appended
  rename_i k sz es y ys hA
  have oo:0 < (y :: ys).length:=by simp
  -- what is shown where a new block has been made
  have grown:∀ {n old:Nat} {xs:List Value} {es':List AV},(es'.length=n)→ji esz es'→aM R w (ay es') xs→(∀ v∈xs,v.oneCell'=true)→xs.length=n * esz →
    (n+(y :: ys).length) * eb≤140737488355328→n+(y :: ys).length≤maxLen→∀ (R':ao) (G2:List GO) (id:Nat),
    bn E R' (w.drew.alloc (.cells (xs.toArray++us.toArray++Builtin.zeroCells zc.cells (grownCap w (n+(y :: ys).length) old elem - (n+(y :: ys).length))) elem)) β (s.b9 G2) a →
    Step R w β s.boxes R' (w.drew.alloc (.cells (xs.toArray++us.toArray++Builtin.zeroCells zc.cells (grownCap w (n+(y :: ys).length) old elem - (n+(y :: ys).length))) elem)) β s.boxes →
    (∀ j,j < (n+(y :: ys).length) * esz→R'.I w.heap.size j)→nth R'.obj id=some (.tok (n+(y :: ys).length) w.heap.size (grownCap w (n+(y :: ys).length) old elem)) →
    (Builtin.append_ #[t,u] o.type #[cx,cy]).run E.P w=.ok (.slice (some ⟨w.heap.size,0,none⟩) (n+(y :: ys).length) (grownCap w (n+(y :: ys).length) old elem)) (w.drew.alloc (.cells (xs.toArray++us.toArray++Builtin.zeroCells zc.cells (grownCap w (n+(y :: ys).length) old elem - (n+(y :: ys).length))) elem)) →
    bW E R w β s a o ((s.b9 G2).put o.dst (.v (.list (.own id) esz (es'++(y :: ys))))):=by
   intro n old xs es' Aw Tt XL uF zr _ _ R' G2 id cL F7 hI hid bG
   refine ⟨_,_,_,R',β,fA bG,.inl rfl,cL.put o.dst ?_,by rw [a8]; exact F7⟩
   have e:=F7.ext
   refine Rel.list (rE (vs:=xs++us) (lf Tt y0) (by rw [cS]; exact (XL.mono e).append (y1.mono e)) (iX uF y2) (fun j v hj=>?_) (fun j hj=>hI j (by rw [List.length_append,zr,y3,← Nat.add_mul] at hj; exact hj))) (by simp [Aw]) (grownCap_ge w _ _ _) ⟨_,hid,Nat.le_refl _,fun _=>⟨rfl,rfl,rfl⟩⟩
   have ol:(w.drew.alloc (.cells (xs.toArray++us.toArray++Builtin.zeroCells zc.cells (grownCap w (n+(y :: ys).length) old elem - (n+(y :: ys).length))) elem)).heap[w.heap.size]?=some (.cells (xs.toArray++us.toArray++Builtin.zeroCells zc.cells (grownCap w (n+(y :: ys).length) old elem - (n+(y :: ys).length))) elem (0,0)):=heap_alloc_new w.drew _
   rw [cell_of_row _ _ j _ _ _ ol]
   have bV:=(List.getElem?_eq_some_iff.1 hj).1
   rw [← Array.getElem?_toList]
   simp only [Array.toList_append,List.append_assoc]
   rw [← List.append_assoc,List.getElem?_append_left bV]
   exact hj
  have Jm:∀ {n old:Nat} {xs:List Value},xs.length=n * esz→n+(y :: ys).length≤maxLen→(xs.toArray++us.toArray++Builtin.zeroCells zc.cells (grownCap w (n+(y :: ys).length) old elem - (n+(y :: ys).length))).size=grownCap w (n+(y :: ys).length) old elem * esz:=by
   intro n old xs zr _
   have mF:=grownCap_ge w (n+(y :: ys).length) old elem
   simp only [Array.size_append,List.size_toArray,size_zeroCells,pq,zr,y3,← Nat.add_mul]
   congr 1
   omega
  have fresh:∀ {n old:Nat} {xs:List Value} {es':List AV},(es'.length=n)→ji esz es'→aM R w (ay es') xs→(∀ v∈xs,v.oneCell'=true)→xs.length=n * esz →
    (n+(y :: ys).length) * eb≤140737488355328→n+(y :: ys).length≤maxLen →
    (Builtin.append_ #[t,u] o.type #[cx,cy]).run E.P w=.ok (.slice (some ⟨w.heap.size,0,none⟩) (n+(y :: ys).length) (grownCap w (n+(y :: ys).length) old elem)) (w.drew.alloc (.cells (xs.toArray++us.toArray++Builtin.zeroCells zc.cells (grownCap w (n+(y :: ys).length) old elem - (n+(y :: ys).length))) elem)) →
    bW E R w β s a o ((s.b9 (s.G++[.tok (n+(y :: ys).length) esz elem])).put o.dst (.v (.list (.own s.G.length) esz (es'++(y :: ys))))):=by
   intro n old xs es' Aw Tt XL uF zr hb hm bG
   obtain ⟨r1,r2⟩:=h.Tl (cur:=xs.toArray++us.toArray++Builtin.zeroCells zc.cells (grownCap w (n+(y :: ys).length) old elem - (n+(y :: ys).length))) (elem:=elem) (grownCap_ge w (n+(y :: ys).length) old elem) (grownCap_le_maxLen w _ old elem hm) (Jm zr hm)
   exact grown Aw Tt XL uF zr hb hm _ _ _ r1 r2 (fun j hj=>.inr ⟨rfl,hj⟩) (by rw [← h.g.len]; exact eH _ _) bG
  have Ny:∀ {n:Nat},(n+(y :: ys).length) * eb≤140737488355328→n+(y :: ys).length≤140737488355328:=fun {n} hb=>Nat.le_trans (Nat.le_mul_of_pos_right _ F6) hb
  split at ha
  ·-- nil
   injection ha with ha; injection ha with hc ha; injection ha with p q
   subst p; subst q
   have hb:=of_decide_eq_true hc
   cases h0 with
   | list _ _ _ I9=>exact I9.elim
   | jA=>
    simp only [List.length_nil] at hb
    have hm:=Ny hb
    refine fresh (n:=0) (old:=0) (xs:=[]) (es':=[]) rfl (fun e he=>by simp at he) .nil (by simp) (by simp) hb (by unfold maxLen; omega) ?_
    have bG:=hA.nil oo (by omega) (by rw [f3]; rw [Nat.zero_add] at hb; omega)
    simpa using bG
  ·-- as long as its capacity
   split at ha
   ·rename_i eC
    have eC:=Nat.eq_of_beq_eq_true eC
    subst eC
    injection ha with ha; injection ha with hc ha; injection ha with p q
    subst p; subst q
    have hb:=of_decide_eq_true hc
    have hm:=Ny hb
    obtain ⟨x0,xs,x1,x2,x3,x4⟩:=fI (esz:=sz) h0 (.inr rfl)
    rcases x4 with ⟨rfl,rfl,ad,rfl,hd⟩ | ⟨b,o',cap,rfl,XN,xk,tQ,_⟩
    ·rcases hd with rfl | hd
     ·cases h0
     ·cases hd
    ·have gW:cap=es.length:=xk
     subst gW
     refine fresh (n:=es.length) (old:=es.length) (xs:=xs) (es':=es) rfl x0 x1 x2 x3 hb (by unfold maxLen; omega) ?_
     exact hA.grow oo ⟨b,o',none⟩ es.length es.length xs (by rw [x3,f2]) tQ (by omega) (by omega) (growslice_fits (by omega) (by rw [f3]; exact hb))
   ·cases ha
  ·-- of a token
   rename_i id
   split at ha
   ·rename_i f bN e' iq
    split at ha
    ·rename_i cH
     simp only [Bool.and_eq_true] at cH
     obtain ⟨⟨q1,q2⟩,q3⟩:=cH
     have q1:=Nat.eq_of_beq_eq_true q1
     have q2:=Nat.eq_of_beq_eq_true q2
     have q3:=Nat.eq_of_beq_eq_true q3
     subst q1; subst q2; subst q3
     injection ha with ha; injection ha with hc ha; injection ha with p q
     subst p; subst q
     simp only [Bool.and_eq_true] at hc
     have tP:=of_decide_eq_true hc.1
     have hb:=of_decide_eq_true hc.2
     subst tP
     have hm:=Ny hb
     obtain ⟨x0,xs,x1,x2,x3,x4⟩:=fI (esz:=sz) h0 (.inr rfl)
     rcases x4 with ⟨rfl,rfl,ad,rfl,hd⟩ | ⟨b,o',cap,rfl,XN,xk,tQ,xE⟩
     ·obtain rfl:ad=none:=by
       rcases hd with hd | hd
       ·exact hd
       ·cases hd
      cases h0 with
      | @lZ _ _ ro bR hon=>
      have cL:=h.g.obj id _ _ iq bR
      cases ro with
      | none=>exact cL.elim
      | b7 _=>exact cL.elim
      | tok f' g c=>
       obtain ⟨rfl,_⟩:=cL
       simp [mM] at hon
      | bk _=>exact cL.elim
      | bJ=>
       simp only [List.length_nil] at hb
       have bG:=hA.nil oo (by omega) (by rw [f3]; rw [Nat.zero_add] at hb; omega)
       have eC:=Jm (n:=0) (old:=0) (xs:=[]) (by simp) (by unfold maxLen; omega)
       obtain ⟨r1,r2⟩:=h.Ji (cur:=[].toArray++us.toArray++Builtin.zeroCells zc.cells (grownCap w (0+(y :: ys).length) 0 e' - (0+(y :: ys).length))) (elem:=e') (n:=0+(y :: ys).length) (cap:=grownCap w (0+(y :: ys).length) 0 e') iq bR (fun b c=>by simp only [cD]; omega) (grownCap_ge w _ _ _) (grownCap_le_maxLen w _ _ _ (by unfold maxLen; omega)) eC
       exact grown (n:=0) (es':=[]) rfl (fun e he=>by simp at he) .nil (by simp) (by simp) hb (by unfold maxLen; omega) _ _ _ r1 r2 (fun j hj=>.inr ⟨rfl,hj⟩) (aL bR) (by simpa using bG)
     ·obtain ⟨ro,bR,tO⟩:=xk
      have cL:=h.g.obj id _ _ iq bR
      cases ro with
      | none=>exact cL.elim
      | bJ=>exact tO.elim
      | b7 _=>exact cL.elim
      | bk _=>exact cL.elim
      | tok f' g c=>
       obtain ⟨rfl,cur,iO,k1,k3,k4,k5⟩:=cL
       obtain ⟨rfl,rfl,rfl⟩:=tO.2 rfl
       by_cases gJ:es.length+(y :: ys).length≤cap
       ·have hle:(es.length+(y :: ys).length) * sz≤cap * sz:=Nat.mul_le_mul_right _ gJ
        have bG:=hA.room oo b es.length cap cur iO gJ (by rw [f2,y3,← Nat.add_mul,k4]; exact hle)
        rw [f2] at bG
        obtain ⟨r0,r1,r2⟩:=h.Nt (news:=us) (n:=es.length+(y :: ys).length) iq bR (by omega) gJ iO k4 k3 (by rw [y3,← Nat.add_mul])
        refine ⟨_,_,_,_,β,fA bG,.inl rfl,r1.put o.dst ?_,by rw [a8]; exact r2⟩
        have ol:=setRow_heap w b cur (cur.toList.take (es.length * sz)++us++cur.toList.drop (es.length * sz+us.length)).toArray e' (0,0) iO
        have Nx:cur.toList.take (es.length * sz)=xs:=by
         have DM:xs.length=es.length * sz:=x3
         apply List.ext_getElem?
         intro j
         rw [List.getElem?_take]
         split
         ·rename_i hj
          have M3:j < xs.length:=by omega
          have rA:=tQ j xs[j] (List.getElem?_eq_getElem M3)
          rw [cF,Nat.zero_add,cell_of_row w b j cur e' (0,0) iO] at rA
          rw [Array.getElem?_toList,rA,List.getElem?_eq_getElem M3]
         ·rw [List.getElem?_eq_none (by omega)]
        refine Rel.list (rE (vs:=xs++us) (lf x0 y0) (by rw [cS]; exact (x1.mono r0).append (y1.mono r0)) (iX x2 y2) (fun j v hj=>?_) (fun j hj=>.inr ⟨rfl,by rw [List.length_append,x3,y3,← Nat.add_mul] at hj; exact hj⟩)) (by simp) gJ ⟨_,aL bR,Nat.le_refl _,fun _=>⟨rfl,rfl,rfl⟩⟩
        rw [cell_of_row _ _ j _ _ _ ol,Nx]
        simp only [List.getElem?_toArray]
        rw [List.getElem?_append_left (List.getElem?_eq_some_iff.1 hj).1]
        exact hj
       ·have bG:=hA.grow oo ⟨b,0,none⟩ es.length cap xs (by rw [x3,f2]) tQ (by omega) (by omega) (growslice_fits (by omega) (by rw [f3]; exact hb))
        obtain ⟨r1,r2⟩:=h.Ji (cur:=xs.toArray++us.toArray++Builtin.zeroCells zc.cells (grownCap w (es.length+(y :: ys).length) cap e' - (es.length+(y :: ys).length))) (elem:=e') (n:=es.length+(y :: ys).length) (cap:=grownCap w (es.length+(y :: ys).length) cap e') iq bR (fun b c=>⟨by omega,fun e=>by omega⟩) (grownCap_ge w _ _ _) (grownCap_le_maxLen w _ _ _ (by unfold maxLen; omega)) (Jm x3 (by unfold maxLen; omega))
        exact grown rfl x0 x1 x2 x3 hb (by unfold maxLen; omega) _ _ _ r1 r2 (fun j hj=>.inr ⟨rfl,hj⟩) (aL bR) bG
    ·cases ha
   ·cases ha
  ·-- of a member of a family
   rename_i id j
   split at ha
   ·rename_i fs bN e' iq
    split at ha
    ·rename_i cH
     simp only [Bool.and_eq_true] at cH
     obtain ⟨⟨q1,q2⟩,q3⟩:=cH
     have q1:=Nat.eq_of_beq_eq_true q1
     have q2:=Nat.eq_of_beq_eq_true q2
     have q3:=Nat.eq_of_beq_eq_true q3
     subst q1; subst q2; subst q3
     injection ha with ha; injection ha with hc ha; injection ha with p q
     subst p; subst q
     simp only [Bool.and_eq_true,decide_eq_true_eq] at hc
     exact uL h fA F6 hz qZ f2 f3 f6 h0 (fun zc' Tu=>hA' zc' Tu) y0 y1 y2 y3 iq hc.1 hc.2
    ·cases ha
   ·cases ha
  ·cases ha
 ·-- a slice that grows, and nothing
  injection ha with ha; injection ha with _ ha; injection ha with p q
  subst p; subst q
  refine ax (s:=s) h (c:=cx) (fA ?_) h0
  cases h0 with
  | iN=>exact hA.zero rfl _ _ _ (Nat.le_refl 0)
  | dH _ _ gW=>exact hA.zero rfl _ _ _ gW
 ·-- a slice that grows
  rename_i id f' off sz len y ys hA
  split at ha
  ·rename_i es bN e' iq
   split at ha
   ·rename_i cH
    simp only [Bool.and_eq_true] at cH
    obtain ⟨⟨q1,q2⟩,q3⟩:=cH
    have q1:=Nat.eq_of_beq_eq_true q1
    have q2:=Nat.eq_of_beq_eq_true q2
    have q3:=Nat.eq_of_beq_eq_true q3
    subst q1; subst q2; subst q3
    injection ha with ha; injection ha with hc ha; injection ha with p q
    subst p; subst q
    simp only [Bool.and_eq_true,decide_eq_true_eq] at hc
    exact nN h fA F6 hz qZ f2 f3 f6 h0 (fun zc' Tu=>hA' zc' Tu) y0.g y1 y2 y3 iq hc.1.1.1 hc.1.1.2 hc.1.2 hc.2
   ·cases ha
  ·cases ha
 ·cases ha
theorem B8 (h:bn E R w β s a) {args:Array Operand} {t:TypeId} (ho:o.op=.call { callee:=.builtin .append,args:=args,argTypes:=#[t,t] }) {x:AV} {k2:LK} {mL:Nat} {ys:List AV}
  (hl:lS E s.ah args.toList=some [x,.list k2 mL ys]) {i:TI} (hi:E.ti t=some i) {elem esz eb:Nat} {ag:Bool} {z:AV} (hk:i.k=.sl elem esz ag eb (some z)) (Hv:ys=[]∨mL=esz) (afS:1≤esz) (F6:1≤eb) (hz:z.cells.length=esz) (qZ:z.aX=true)
  {v:AV} {G':List GO} (ha:fV s.G elem esz eb x ys=some (true,v,G')) :
  bW E R w β s a o ((s.b9 G').put o.dst (.v v)):=by
 have hr:=gd h hl
 generalize hv:args.toList.map a.eval=vs at hr
 have hx:=eh (E:=E) (w:=w) ho vs hv
 cases hr with
 | @cons _ cx _ _ h0 h1=>
 cases h1 with
 | @cons _ cy _ _ h1 h2=>
 cases h2
 obtain ⟨gH,u,e1,e2,e3,e4,e5,e6⟩:=cj E hi
 have zo:=hk
 rw [hk] at e5
 obtain ⟨ie,ue,rfl,f1,f2,f3,f4,f5,f6⟩:=dI e5
 have qa:(⟨[cx,cy]⟩:Array Value)=#[cx,cy]:=rfl
 obtain ⟨y0,us,y1,y2,y3,y4⟩:=fI (esz:=esz) h1 Hv
 refine mh h (cx:=cx) (cy:=cy) (t:=t) (u:=t) (fun hh=>?_) zo F6 hz qZ f1 f2 f3 f6 h0 (fun zc qw=>?_) y0 y1 y2 y3 ha
 ·rw [hx]
  simp only [builtin,qa,Sem.run_bind,hh,Result.andThen_ok,Sem.run_pure]
 ·rcases y4 with ⟨rfl,rfl,ad,rfl,_⟩ | ⟨Xx,oy,Ej,rfl,abg,_,vP,yE⟩
  ·refine ⟨fun _ base len cap FY=>?_,fun hh=>absurd hh (by simp),fun hh=>absurd hh (by simp),fun hh=>absurd hh (by simp)⟩
   cases ad <;> simp [Builtin.append_,run_underlying e2,run_sizeOf w f1,Builtin.lenOf,Builtin.firstCells,FY,storeCells,loadCells,loadCellsFrom] <;>
    cases base <;> simp [storeCells]
  ·refine ⟨fun hn base len cap FY=>?_,fun hh Jn Jo=>run_append_nil (P:=E.P) w t o.type elem ie zc e2 f1 qw _ _ Ej us (by rw [y3,f2]) vP hh Jn Jo,fun _ b sLen lF AH B9 M7 hg Jn Jo=>run_append_grow (P:=E.P) w t o.type elem ie zc e2 f1 qw b sLen lF AH B9 M7 _ _ Ej us (by rw [y3,f2]) vP hg Jn Jo,fun _ g sLen lF cur hg gJ rF=>run_append_room (P:=E.P) w t o.type elem ie e2 f1 g sLen lF cur hg _ _ Ej us (by rw [y3,f2]) vP y2 gJ rF⟩
   rw [hn]
   simp [Builtin.append_,run_underlying e2,run_sizeOf w f1,Builtin.lenOf,Builtin.firstCells,FY,storeCells,loadCells,loadCellsFrom]
   cases base <;> simp [storeCells]
theorem vQ:∀ (bs:List UInt8),aM R w (ay (bs.map rk)) (Lib.strCells ⟨⟨bs⟩⟩)
 | []=>.nil
 | b :: bs=>.cons (Rel.int .u8 b.toNat) (vQ bs)
theorem uM (h:bn E R w β s a) {args:Array Operand} {t u:TypeId} (ho:o.op=.call { callee:=.builtin .append,args:=args,argTypes:=#[t,u] }) {x:AV} {bs:List UInt8}
  (hl:lS E s.ah args.toList=some [x,.str bs]) {i j:TI} (hi:E.ti t=some i) (hj:E.ti u=some j) {elem eb:Nat} {ag:Bool} {z:AV} (hk:i.k=.sl elem 1 ag eb (some z)) (WN:j.k=.str) (F6:1≤eb) (hz:z.cells.length=1) (qZ:z.aX=true)
  {v:AV} {G':List GO} (ha:fV s.G elem 1 eb x (bs.map rk)=some (true,v,G')) :
  bW E R w β s a o ((s.b9 G').put o.dst (.v v)):=by
 have hr:=gd h hl
 generalize hv:args.toList.map a.eval=vs at hr
 have hx:=eh (E:=E) (w:=w) ho vs hv
 cases hr with
 | @cons _ cx _ _ h0 h1=>
 cases h1 with
 | @cons _ cy _ _ h1 h2=>
 cases h2
 obtain ⟨gH,ud,e1,e2,e3,e4,e5,e6⟩:=cj E hi
 obtain ⟨XP,ud',g1,g2,g3,g4,g5,g6⟩:=cj E hj
 rw [WN] at g5
 have:=ke g5
 subst this
 have zo:=hk
 rw [hk] at e5
 obtain ⟨ie,ue,rfl,f1,f2,f3,f4,f5,f6⟩:=dI e5
 cases h1
 have eC:(⟨⟨bs⟩⟩:ByteArray).size=bs.length:=rfl
 have hlen:(bs.map rk).length=bs.length:=List.length_map _
 have qa:(⟨[cx,.string ⟨⟨bs⟩⟩]⟩:Array Value)=#[cx,.string ⟨⟨bs⟩⟩]:=rfl
 have je:(Lib.strCells ⟨⟨bs⟩⟩).length=bs.length:=Lib.strCells_length _
 refine mh h (cx:=cx) (cy:=.string ⟨⟨bs⟩⟩) (us:=Lib.strCells ⟨⟨bs⟩⟩) (t:=t) (u:=u) (fun hh=>?_) zo F6 hz qZ f1 f2 f3 f6 h0 (fun zc qw=>?_) ?_ (vQ bs) (Lib.strCells_oneCell _) (by rw [je,hlen,Nat.mul_one]) ha
 ·rw [hx]
  simp only [builtin,qa,Sem.run_bind,hh,Result.andThen_ok,Sem.run_pure]
 ·rw [hlen]
  refine ⟨fun hn base len cap FY=>?_,fun hh Jn Jo=>?_,fun _ b sLen lF AH B9 M7 hg Jn Jo=>Lib.run_append_grow_string (P:=E.P) w t u o.type elem ie zc e2 g2 f1 qw b sLen lF AH B9 M7 ⟨⟨bs⟩⟩ hg Jn Jo,fun _ g sLen lF cur hg gJ rF=>?_⟩
  ·have hb:bs=[]:=List.eq_nil_of_length_eq_zero hn
   subst hb
   have hz0:(⟨⟨[]⟩⟩:ByteArray).size=0:=rfl
   simp [hz0,Builtin.append_,run_underlying e2,run_underlying g2,run_sizeOf w f1,Builtin.lenOf,Builtin.firstCells,FY,storeCells]
   cases base <;> simp [storeCells]
  ·rw [run_append_nil_string (P:=E.P) w t u o.type elem ie zc e2 g2 f1 qw ⟨⟨bs⟩⟩ hh Jn Jo]
   simp [Lib.strCells,eC]
  ·have:=Lib.run_append_room_string (P:=E.P) w t u o.type elem ie e2 g2 f1 f2 g sLen lF cur hg ⟨⟨bs⟩⟩ gJ (by rw [f2,Nat.mul_one,je] at rF; exact rF)
   rw [this,f2,Nat.mul_one,je]
   rfl
 ·intro e he
  obtain ⟨b,_,rfl⟩:=List.mem_map.1 he
  exact ⟨rfl,rfl,rfl⟩
end ops
end Go.Am
