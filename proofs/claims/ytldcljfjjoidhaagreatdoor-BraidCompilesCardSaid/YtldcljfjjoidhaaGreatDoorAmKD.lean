/- The abstract machine: what it does is what the model does: slices that grow and are written. -/
import Derived.Test.YtldcljfjjoidhaaGreatDoorAmKC
import Derived.Lib.AppendStr
set_option linter.all false
namespace Go.Am
open Go
section lists
theorem xJ {α:Type} (c us:List α) (n p sz off:Nat) (hn:n≤c.length) (hp:p+sz≤n) (ho:off+us.length≤sz) :
  (c.take (p+off)++us++c.drop (p+off+us.length)).take n =
   (c.take n).take p++((((c.take n).drop p).take sz).take off++us++(((c.take n).drop p).take sz).drop (off+us.length))++(c.take n).drop (p+sz):=by
 apply List.ext_getElem?
 intro j
 simp only [List.getElem?_append,List.getElem?_take,List.getElem?_drop,List.length_append,List.length_take,List.length_drop]
 by_cases h1:j < p
 ·rw [if_pos (by omega),if_pos (by omega),if_pos (by omega),if_pos (by omega),if_pos (by omega),if_pos (by omega),if_pos (by omega),if_pos (by omega)]
 ·by_cases h2:j < p+off
  ·rw [if_pos (by omega),if_pos (by omega),if_pos (by omega),if_pos (by omega),if_pos (by omega),if_neg (by omega),if_pos (by omega),if_pos (by omega),if_pos (by omega),if_pos (by omega),if_pos (by omega)]
   congr 1; omega
  ·by_cases h3:j < p+off+us.length
   ·rw [if_pos (by omega),if_pos (by omega),if_neg (by omega),if_pos (by omega),if_neg (by omega),if_pos (by omega),if_neg (by omega)]
    congr 1; omega
   ·by_cases h4:j < p+sz
    ·rw [if_pos (by omega),if_neg (by omega),if_pos (by omega),if_neg (by omega),if_neg (by omega),if_pos (by omega),if_pos (by omega)]
     congr 1; omega
    ·by_cases h5:j < n
     ·rw [if_pos (by omega),if_neg (by omega),if_neg (by omega),if_pos (by omega)]
      congr 1; omega
     ·rw [if_neg (by omega),if_neg (by omega),if_neg (by omega)]
theorem rQ {sz:Nat}:∀ {es:List AV} {i:Nat} {e:AV},dU sz es→nth es i=some e→((av es).drop (i * sz)).take sz=e.cells
 | [],_,_,_,h=>by simp [nth] at h
 | x :: es,0,e,h,hi=>by
  simp only [nth] at hi
  cases hi
  have h1:=(h x (by simp)).1
  rw [Nat.zero_mul,List.drop_zero]
  simp only [av]
  rw [← h1,List.take_left]
 | x :: es,i+1,e,h,hi=>by
  have h1:=(h x (by simp)).1
  have ih:=rQ (i:=i) (fun y hy=>h y (by simp [hy])) (show nth es i=some e from hi)
  simp only [av]
  rw [show (i+1) * sz=x.cells.length+i * sz by rw [h1,Nat.succ_mul]; omega,List.drop_append,List.drop_of_length_le (by omega),List.nil_append,Nat.add_sub_cancel_left]
  exact ih
theorem sJ {sz:Nat} {l r:List AV} (h:dU sz l) (k:dU sz r):dU sz (l++r):=fun e he=>by
 rcases List.mem_append.1 he with he | he
 ·exact h e he
 ·exact k e he
theorem AH {sz:Nat} {l:List AV} (n:Nat) (h:dU sz l):dU sz (l.take n):=fun e he=>h e (List.mem_of_mem_take he)
theorem Io {sz:Nat} {l:List AV} (n:Nat) (h:dU sz l):dU sz (l.drop n):=fun e he=>h e (List.mem_of_mem_drop he)
theorem jY {sz:Nat}:∀ {es:List AV} (i:Nat),dU sz es→av (es.take i)=(av es).take (i * sz)
 | [],i,_=>by simp [av]
 | e :: es,0,_=>by simp [av]
 | e :: es,i+1,h=>by
  have h1:=(h e (by simp)).1
  simp only [List.take_succ_cons,av]
  rw [jY i (fun y hy=>h y (by simp [hy])),show (i+1) * sz=e.cells.length+i * sz by rw [h1,Nat.succ_mul]; omega,List.take_append,Nat.add_sub_cancel_left,List.take_of_length_le (by omega:e.cells.length≤e.cells.length+i * sz)]
theorem po {sz:Nat}:∀ {es:List AV} (i:Nat),dU sz es→av (es.drop i)=(av es).drop (i * sz)
 | [],i,_=>by simp [av]
 | e :: es,0,_=>by simp [av]
 | e :: es,i+1,h=>by
  have h1:=(h e (by simp)).1
  simp only [List.drop_succ_cons,av]
  rw [po i (fun y hy=>h y (by simp [hy])),show (i+1) * sz=e.cells.length+i * sz by rw [h1,Nat.succ_mul]; omega,List.drop_append,List.drop_of_length_le (by omega:e.cells.length≤e.cells.length+i * sz),List.nil_append,Nat.add_sub_cancel_left]
theorem dC {sz:Nat} {es:List AV} (h:dU sz es):(av es).length=es.length * sz:=by
 induction es with
 | nil=>simp [av]
 | cons e es ih=>
  have h1:=(h e (by simp)).1
  have:=ih (fun x hx=>h x (by simp [hx]))
  simp only [av,List.length_append,this,h1,List.length_cons,Nat.add_mul]
  omega
theorem Fb {sz:Nat} {es:List AV} {i:Nat} {v:AV} (h:dU sz es) (h1:v.cells.length=sz) (h2:v.a6=true):dU sz (aF es i v):=fun e he=>by
 rw [gR] at he
 rcases List.mem_or_eq_of_mem_set he with he | rfl
 ·exact h e he
 ·exact ⟨h1,h2⟩
theorem CQ {sz:Nat} {es:List AV} {i:Nat} {v:AV} (h:dU sz es) (hi:i < es.length) (hv:v.cells.length=sz):av (aF es i v)=ck (av es) (i * sz) v.cells:=by
 have AI:i * sz+sz≤es.length * sz:=by
  rw [← Nat.succ_mul]
  exact Nat.mul_le_mul_right _ hi
 rw [gR,List.set_eq_take_append_cons_drop,if_pos hi,fD _ _ _ (by rw [hv,dC h]; exact AI),da,jY i h,hv]
 simp only [av]
 rw [po (i+1) h,Nat.succ_mul,List.append_assoc]
end lists
section ops
variable {E:Env} {R:an} {w:World} {β:Nat→Nat} {s:St} {a:Act} {o:Oper}
theorem mf {G:List GO} (h:dQ E R w G) {id:Nat} {es:List AV} {sz:Nat} {el:TypeId} {ro:RO} (hid:nth G id=some (.dw es sz el)) (bU:nth R.obj id=some ro) (hn:ro≠.bN) :
  ∃ b c cur vs,ro=.tok es.length b c∧dU sz es∧w.heap[b]?=some (.cells cur el (0,0))∧es.length≤c∧c≤maxLen∧cur.size=c * sz∧(∀ o,¬ R.I b o)∧aQ R w (av es) vs∧(∀ v∈vs,v.oneCell'=true)∧cur.toList.take (es.length * sz)=vs:=by
 have hr:=h.obj id _ _ hid bU
 cases ro with
 | none=>exact hr.elim
 | bN=>exact absurd rfl hn
 | b9 b=>exact hr.elim
 | bk _=>exact hr.elim
 | tok f b c=>
  obtain ⟨rfl,h1,cur,vs,h2,h3,h4,h5,h6,h7,h8,h9⟩:=hr
  exact ⟨b,c,cur,vs,rfl,h1,h2,h3,h4,h5,h6,h7,h8,h9⟩
theorem xK {id f i sz:Nat} {t:TypeId} {v:AV} (h:xl E s id f i sz t=some (true,v)) :
  ∃ es el e,nth s.G id=some (.dw es sz el)∧f=es.length∧nth es i=some e∧jy e v:=by
 unfold xl at h
 split at h
 ·rename_i es bQ el hid
  split at h
  ·rename_i p hp
   split at h
   ·rename_i fu
    have fu:=Nat.eq_of_beq_eq_true fu
    subst fu
    injection h with h
    injection h with h1 h2
    simp only [Bool.and_eq_true,decide_eq_true_eq] at h1
    obtain ⟨⟨h3,h4⟩,h5⟩:=h1
    obtain ⟨e,he⟩:∃ e,nth es i=some e:=⟨es[i],by rw [bf]; exact List.getElem?_eq_getElem h4⟩
    have hd:ah es i=e:=by simp [ah,he]
    rw [hd] at h5 h2
    rw [← h2]
    exact ⟨es,el,e,hid,h3,he,p.dc h5⟩
   ·cases h
  ·split at h
   ·rename_i fu
    have fu:=Nat.eq_of_beq_eq_true fu
    subst fu
    injection h with h
    injection h with h1 h2
    simp only [Bool.and_eq_true,decide_eq_true_eq] at h1
    obtain ⟨h3,h4⟩:=h1
    obtain ⟨e,he⟩:∃ e,nth es i=some e:=⟨es[i],by rw [bf]; exact List.getElem?_eq_getElem h4⟩
    have hd:ah es i=e:=by simp [ah,he]
    rw [hd] at h2
    rw [← h2]
    exact ⟨es,el,e,hid,h3,he,jy.refl e⟩
   ·cases h
 ·cases h
theorem GS {α:Type} {l:List α} {i:Nat} {x:α} (h:nth l i=some x):x∈l:=by
 rw [bf] at h
 exact List.mem_of_getElem? h
theorem Fc {i n sz:Nat} (h:i < n):i * sz+sz≤n * sz:=by
 rw [← Nat.succ_mul]
 exact Nat.mul_le_mul_right _ h
theorem Fe (h:bo E R w β s a) (t:TypeId) (x:Operand) (ho:o.op=.load t x) {v:AV} (hl:Au E s t (bM E s.ae x)=some (true,v)) :
  b7 E R w β s a o (s.put o.dst (.v v)):=by
 have rx:=aX h x
 unfold Au at hl
 split at hl
 ·rename_i id f i off sz ty hx
  rw [hx] at rx
  split at hl
  ·rename_i ti c ve Us hg
   split at hl
   ·rename_i l hs
    split at hl
    ·rename_i r hm
     injection hl with hl
     injection hl with h1 h2
     subst h1; subst h2
     obtain ⟨es,el,e,hid,Uw,he,v8⟩:=xK hg
     have eI:Rel R w (.gp id f i off sz ty) (a.eval x):=rx
     generalize fY:a.eval x=xv at eI
     cases eI with
     | @gp _ _ _ _ _ b o' _ ro bU eD=>
     obtain ⟨b',c',cur,vs,rfl,g1,g2,g3,g4,g5,g6,g7,g8,g9⟩:=mf h.g hid bU (fun k=>by subst k; exact eD)
     obtain ⟨rfl,rfl⟩:=eD.2 Uw
     have hem:=g1 e (GS he)
     have fb:aQ R w e.cells ((vs.drop (i * sz)).take sz):=by
      rw [← rQ g1 he]
      exact (g7.drop _).take _
     have hw:=(v8.cells hem.2).rel fb
     obtain ⟨k1,k2,k3,k4⟩:=qk hs hw (fun y hy=>g8 y (List.mem_of_mem_drop (List.mem_of_mem_take hy)))
     obtain ⟨c,hc,hrr⟩:=oZ (E:=E) Us (b:=b) (off:=i * sz+off) k1 k2 k3 (fun j y hy=>by
      have h1:=k4 j y hy
      rw [List.getElem?_take] at h1
      split at h1
      ·rw [List.getElem?_drop,← g9,List.getElem?_take] at h1
       split at h1
       ·rw [cell_of_row w b _ cur el (0,0) g2,Nat.add_assoc,← Array.getElem?_toList]
        exact h1
       ·cases h1
      ·cases h1) hm
     refine au h (c:=c) ?_ hrr
     simp [execOp,ho,Instr.loadAt,fY,Instr.sureAddr,hc]
    ·cases hl
   ·cases hl
  ·cases hl
 ·split at hl
  ·rename_i v' hv
   injection hl with hl
   injection hl with h1 h2
   subst h2
   exact Ii h t x ho hv
  ·cases hl
theorem bo.BK (h:bo E R w β s a) {id f b c:Nat} {es es':List AV} {sz:Nat} {el:TypeId} {cur CP:Array Value} {vs':List Value} (hid:nth s.G id=some (.dw es sz el)) (bU:nth R.obj id=some (.tok f b c))
  (hb:w.heap[b]?=some (.cells cur el (0,0))) (hlen:es'.length=es.length) (qj:dU sz es') (fu:CP.size=cur.size) (hr:aQ R w (av es') vs') (h1:∀ v∈vs',v.oneCell'=true) (ht:CP.toList.take (f * sz)=vs') :
  bo E R (w.setRow b CP) β (s.cg (aF s.G id (.dw es' sz el))) a∧Step R w β s.boxes R (w.setRow b CP) β s.boxes:=by
 obtain ⟨q0,q1,YT,vs0,p1,p2,p3,p4,p5,p6,p7,p8⟩:=h.g.obj id _ _ hid bU
 rw [hb] at p1
 cases p1
 have hex:=jC (R:=R) (w:=w) p5 CP
 have Ff:∀ k cs,dO s.boxes k=some cs→β k≠b:=fun k cs hk e=>(h.b.box k cs hk).2.2 ⟨id,_,bU,by rw [e]; rfl⟩
 refine ⟨⟨⟨by simp [St.cg,h.g.len],fun kf go ro hg kQ=>?_,h.g.inj,fun b' o' ua=>by have:=h.g.wf b' o' ua; simp; omega,fun g cs' hg=>(h.g.cm g cs' hg).mono hex,h.g.lo⟩,?_,h.t.mono hex,h.n,h.d⟩,?_⟩
 ·rcases dE hg with ⟨rfl,rfl,_⟩ | ⟨cD,rL⟩
  ·rw [bU] at kQ
   cases kQ
   exact ⟨by rw [hlen]; exact q0,qj,CP,vs',setRow_heap w _ _ _ _ (0,0) hb,p2,p3,by rw [fu]; exact p4,p5,hr.mono hex,h1,ht⟩
  ·refine (h.g.obj kf go ro rL kQ).mono hex (fun b' jB=>setRow_other w _ b' _ (fun e=>cD ?_)) (fun _ _ _ hi=>hi)
   subst e
   exact h.g.inj id kf _ _ b' bU kQ rfl jB
 ·exact h.b.bJ hex (fun k cs' jg=>setRow_other w _ _ _ (Ff k cs' jg)) (fun _ _ _ _ hi=>hi) (fun _ _ _ hl=>hl)
 ·have BB:Own R β s.boxes b:=.inl ⟨id,_,bU,rfl⟩
  exact ⟨hex,rfl,rfl,rfl,by simp,fun b' _ hn=>setRow_other w _ b' _ (fun e=>hn (e ▸ BB)),fun _ _ hb=>hb,fun b o hi _ _=>hi⟩
theorem bo.GU (h:bo E R w β s a) {id b c i off:Nat} {es:List AV} {sz:Nat} {el:TypeId} {cur:Array Value} {vs us:List Value} {e':AV} (hid:nth s.G id=some (.dw es sz el)) (bU:nth R.obj id=some (.tok es.length b c))
  (hb:w.heap[b]?=some (.cells cur el (0,0))) (qj:dU sz es) (hle:es.length≤c) (ql:cur.size=c * sz) (hr:aQ R w (av es) vs) (h1:∀ v∈vs,v.oneCell'=true) (ht:cur.toList.take (es.length * sz)=vs) (hi:i < es.length)
  (h2:∀ v∈us,v.oneCell'=true) (BL:off+us.length≤sz) (vX:e'.cells.length=sz) (YU:e'.a6=true) (YV:aQ R w e'.cells (((vs.drop (i * sz)).take sz).take off++us++((vs.drop (i * sz)).take sz).drop (off+us.length))) :
  bo E R (w.setRow b ⟨cur.toList.take (i * sz+off)++us++cur.toList.drop (i * sz+off+us.length)⟩) β (s.cg (aF s.G id (.dw (aF es i e') sz el))) a ∧
   Step R w β s.boxes R (w.setRow b ⟨cur.toList.take (i * sz+off)++us++cur.toList.drop (i * sz+off+us.length)⟩) β s.boxes:=by
 have AI:=Fc (sz:=sz) hi
 have N8:es.length * sz≤cur.toList.length:=by
  rw [show cur.toList.length=cur.size from Array.length_toList,ql]
  exact Nat.mul_le_mul_right _ hle
 have Tb:vs.length=es.length * sz:=by rw [← hr.length,dC qj]
 refine h.BK hid bU hb (iP _ _ _) (Fb qj vX YU) ?_ (vs':=vs.take (i * sz)++(((vs.drop (i * sz)).take sz).take off++us++((vs.drop (i * sz)).take sz).drop (off+us.length))++vs.drop (i * sz+sz)) ?_ ?_ ?_
 ·rw [List.size_toArray,← Array.length_toList]
  simp only [List.length_append,List.length_take,List.length_drop]
  omega
 ·rw [CQ qj hi vX,fD _ _ _ (by rw [vX,dC qj]; exact AI),vX]
  exact ((hr.take _).append YV).append (hr.drop _)
 ·intro v hv
  simp only [List.mem_append] at hv
  rcases hv with (hv | ((hv | hv) | hv)) | hv
  ·exact h1 v (List.mem_of_mem_take hv)
  ·exact h1 v (List.mem_of_mem_drop (List.mem_of_mem_take (List.mem_of_mem_take hv)))
  ·exact h2 v hv
  ·exact h1 v (List.mem_of_mem_drop (List.mem_of_mem_take (List.mem_of_mem_drop hv)))
  ·exact h1 v (List.mem_of_mem_drop hv)
 ·rw [List.toList_toArray,xJ _ _ _ _ _ _ N8 AI BL,ht]
theorem bo.GV (h:bo E R w β s a) {id b c off:Nat} {es ns:List AV} {sz:Nat} {el:TypeId} {cur:Array Value} {vs us:List Value} (hid:nth s.G id=some (.dw es sz el)) (bU:nth R.obj id=some (.tok es.length b c))
  (hb:w.heap[b]?=some (.cells cur el (0,0))) (qj:dU sz es) (hle:es.length≤c) (ql:cur.size=c * sz) (hr:aQ R w (av es) vs) (h1:∀ v∈vs,v.oneCell'=true) (ht:cur.toList.take (es.length * sz)=vs)
  (BL:off+ns.length≤es.length) (hns:dU sz ns) (hu:aQ R w (av ns) us) (h2:∀ v∈us,v.oneCell'=true) :
  bo E R (w.setRow b ⟨cur.toList.take (off * sz)++us++cur.toList.drop (off * sz+us.length)⟩) β (s.cg (aF s.G id (.dw (ck es off ns) sz el))) a ∧
   Step R w β s.boxes R (w.setRow b ⟨cur.toList.take (off * sz)++us++cur.toList.drop (off * sz+us.length)⟩) β s.boxes:=by
 have Ux:us.length=ns.length * sz:=by rw [← hu.length,dC hns]
 have AI:off * sz+ns.length * sz≤es.length * sz:=by rw [← Nat.add_mul]; exact Nat.mul_le_mul_right _ BL
 have N8:es.length * sz≤cur.toList.length:=by
  rw [show cur.toList.length=cur.size from Array.length_toList,ql]
  exact Nat.mul_le_mul_right _ hle
 have Tb:vs.length=es.length * sz:=by rw [← hr.length,dC qj]
 have hm:=xJ cur.toList us (es.length * sz) (off * sz) (ns.length * sz) 0 N8 AI (by omega)
 simp only [Nat.add_zero,List.take_zero,List.nil_append,Nat.zero_add] at hm
 rw [Ux,ht,show List.drop (ns.length * sz) (List.take (ns.length * sz) (List.drop (off * sz) vs))=[] from List.drop_of_length_le (by rw [List.length_take]; exact Nat.min_le_left _ _),List.append_nil] at hm
 rw [fD _ _ _ BL]
 refine h.BK hid bU hb (by simp; omega) (sJ (sJ (AH _ qj) hns) (Io _ qj)) ?_ (vs':=vs.take (off * sz)++us++vs.drop (off * sz+ns.length * sz)) ?_ ?_ ?_
 ·rw [List.size_toArray,← Array.length_toList]
  simp only [List.length_append,List.length_take,List.length_drop,Ux]
  omega
 ·rw [da,da,jY _ qj,po _ qj,Nat.add_mul]
  exact ((hr.take _).append hu).append (hr.drop _)
 ·intro v hv
  simp only [List.mem_append] at hv
  rcases hv with (hv | hv) | hv
  ·exact h1 v (List.mem_of_mem_take hv)
  ·exact h2 v hv
  ·exact h1 v (List.mem_of_mem_drop hv)
 ·rw [List.toList_toArray,Ux]
  exact hm
theorem CR (h:bo E R w β s a) (t:TypeId) (p x:Operand) (ho:o.op=.store t p x) (hd:o.dst=none) {s':St} (hs:kj E s t (bM E s.ae p) (bM E s.ae x)=some (true,s')) :
  b7 E R w β s a o s':=by
 have rp:=aX h p
 have rx:=aX h x
 unfold kj at hs
 split at hs
 ·rename_i id f i off sz ty YD
  rw [YD] at rp
  have YF:Rel R w (.gp id f i off sz ty) (a.eval p):=rp
  generalize YG:a.eval p=pv at YF
  split at hs
  ·rename_i ti v es bQ el Us hx hid
   rw [hx] at rx
   split at hs
   ·rename_i gf
    simp only [Bool.and_eq_true] at gf
    obtain ⟨⟨N3,hlen⟩,Uy⟩:=gf
    have hlen:=Nat.eq_of_beq_eq_true hlen
    have Uy:=Nat.eq_of_beq_eq_true Uy
    subst Uy
    have rxw:Rel R w v (a.eval x):=rx
    obtain ⟨c1,c2⟩:=Rel.cells rxw N3
    have Cz:v.cells.length=(a.eval x).cells.toList.length:=c1.length
    cases YF with
    | @gp _ _ _ _ _ b o' _ ro bU eD=>
    obtain ⟨b',c',cur,vs,rfl,g1,g2,g3,g4,g5,g6,g7,g8,g9⟩:=mf h.g hid bU (fun k=>by subst k; exact eD)
    have Tb:vs.length=es.length * sz:=by rw [← g7.length,dC g1]
    have N8:es.length * sz≤cur.toList.length:=by
     rw [show cur.toList.length=cur.size from Array.length_toList,g5]
     exact Nat.mul_le_mul_right _ g3
    split at hs
    ·rename_i hw
     rw [Bool.and_eq_true] at hw
     have BL:=Nat.eq_of_beq_eq_true hw.1
     have X0:=Nat.eq_of_beq_eq_true hw.2
     subst BL
     injection hs with hs
     injection hs with h1 h2
     rw [Bool.and_eq_true,decide_eq_true_eq,decide_eq_true_eq] at h1
     subst h2
     obtain ⟨rfl,rfl⟩:=eD.2 h1.1
     have AI:=Fc (sz:=sz) h1.2
     have bK:=kD (E:=E) (w:=w) Us (b:=b) (vs:=cur.toList) (off:=i * sz+0) (c:=a.eval x) g2 (by rw [← Cz]; exact hlen) (by rw [← Cz]; omega) c2
     obtain ⟨r1,r2⟩:=h.GU (us:=(a.eval x).cells.toList) (off:=0) (i:=i) (e':=v) hid bU g2 g1 g3 g5 g7 g8 g9 h1.2 c2 (by rw [← Cz]; omega) (by omega) N3 (by
      rw [List.take_zero,List.nil_append,Nat.zero_add,List.drop_of_length_le (by rw [List.length_take,← Cz]; omega),List.append_nil]
      exact c1)
     simp only [Nat.add_zero] at YG bK r1 r2
     refine ⟨.skip,undef,_,R,β,?_,.inr ⟨rfl,rfl⟩,by rw [hd]; exact r1,r2⟩
     simp [execOp,ho,Instr.storeAt,YG,Instr.sureAddr,bK]
    ·split at hs
     ·rename_i cc cs hg
      split at hs
      ·rename_i hw
       simp only [Bool.and_eq_true] at hw
       obtain ⟨hle,Uz⟩:=hw
       have hle:=Nat.le_of_ble_eq_true hle
       have Uz:=Nat.eq_of_beq_eq_true Uz
       injection hs with hs
       injection hs with h1 h2
       subst h1; subst h2
       obtain ⟨es0,el0,e,Ke,Uw,he,v8⟩:=xK hg
       rw [hid] at Ke
       cases Ke
       obtain ⟨rfl,rfl⟩:=eD.2 Uw
       have hi:i < es.length:=bR he
       have AI:=Fc (sz:=sz) hi
       have hem:=g1 e (GS he)
       have fb:aQ R w e.cells ((vs.drop (i * sz)).take sz):=by
        rw [← rQ g1 he]
        exact (g7.drop _).take _
       have hw:=(v8.cells hem.2).rel fb
       have hw':aQ R w cs ((vs.drop (i * sz)).take sz):=hw
       have bK:=kD (E:=E) (w:=w) Us (b:=b) (vs:=cur.toList) (off:=i * sz+off) (c:=a.eval x) g2 (by rw [← Cz]; exact hlen) (by rw [← Cz]; omega) c2
       have AJ:off+v.cells.length≤cs.length:=by omega
       obtain ⟨r1,r2⟩:=h.GU (us:=(a.eval x).cells.toList) (off:=off) (i:=i) (e':=.agg (ck cs off v.cells)) hid bU g2 g1 g3 g5 g7 g8 g9 hi c2 (by rw [← Cz]; omega) (by show (ck cs off v.cells).length=sz; rw [zV _ _ _ AJ]; exact Uz) rfl (by
        show aQ R w (ck cs off v.cells) _
        rw [fD _ _ _ AJ,Cz]
        exact ((hw'.take _).append c1).append (hw'.drop _))
       refine ⟨.skip,undef,_,R,β,?_,.inr ⟨rfl,rfl⟩,by rw [hd]; exact r1,r2⟩
       simp [execOp,ho,Instr.storeAt,YG,Instr.sureAddr,bK]
      ·cases hs
     ·cases hs
   ·cases hs
  ·cases hs
 ·split at hs
  ·rename_i CS hv
   injection hs with hs
   injection hs with h1 h2
   subst h2
   exact EZ h t p x ho hd hv
  ·cases hs
def an.reset (R:an) (id:Nat) (ro:RO):an:=⟨R.I,aF R.obj id ro⟩
theorem xL {id g:Nat} {r0 ro:RO} (hid:nth R.obj id=some r0) (bU:∀ b,ro.has b→b=g) {b:Nat} (hl:Live (R.reset id ro) b):b=g∨Live R b:=by
 obtain ⟨i,r,h1,h2⟩:=hl
 rcases aN hid h1 with ⟨_,rfl⟩ | ⟨_,h1⟩
 ·exact .inl (bU b h2)
 ·exact .inr ⟨i,r,h1,h2⟩
theorem bo.UA (h:bo E R w β s a) {cur:Array Value} {vs:List Value} {es es':List AV} {elem:TypeId} {sz cap id:Nat} {r0:RO} (hg:nth s.G id=some (.dw es sz elem)) (hid:nth R.obj id=some r0) (hf:∀ b c,cJ r0 (.tok es'.length b c))
  (hn:es'.length≤cap) (hm:cap≤maxLen) (hs:cur.size=cap * sz) (qj:dU sz es') (hr:aQ R w (av es') vs) (h1:∀ v∈vs,v.oneCell'=true) (ht:cur.toList.take (es'.length * sz)=vs) :
  bo E (R.reset id (.tok es'.length w.heap.size cap)) (w.drew.alloc (.cells cur elem)) β (s.cg (aF s.G id (.dw es' sz elem))) a ∧
  Step R w β s.boxes (R.reset id (.tok es'.length w.heap.size cap)) (w.drew.alloc (.cells cur elem)) β s.boxes:=by
 have e:Ext R w (R.reset id (.tok es'.length w.heap.size cap)) (w.drew.alloc (.cells cur elem)):=
  ⟨fun _ _ h=>h,fun b o hi=>ca (heap_alloc_old w.drew _ b (h.g.wf b o hi)) o,fun i r hr=>by
   by_cases ei:id=i
   ·subst ei
    rw [hid] at hr
    cases hr
    exact ⟨_,aO hid,hf _ _⟩
   ·exact ⟨r,by rw [an.reset,bP ei]; exact hr,cJ.refl r⟩,.old fun b hb=>heap_alloc_old w.drew _ b hb⟩
 have old:∀ b,b < w.heap.size→(w.drew.alloc (.cells cur elem)).heap[b]?=w.heap[b]?:=fun b hb=>heap_alloc_old w.drew _ b hb
 have new:(w.drew.alloc (.cells cur elem)).heap[w.heap.size]?=some (.cells cur elem (0,0)):=heap_alloc_new w.drew _
 have live:∀ b,b < w.heap.size→Live (R.reset id (.tok es'.length w.heap.size cap)) b→Live R b:=fun b hb hl=>by
  rcases xL (g:=w.heap.size) (ro:=.tok es'.length w.heap.size cap) hid (fun _ h=>h) hl with rfl | hl
  ·omega
  ·exact hl
 refine ⟨⟨⟨by simp [St.cg,an.reset,h.g.len],fun i gg r xp h2=>?_,fun i j ri rj b xp h2 b1 b2=>?_,fun b o hi=>?_,fun g cs hg=>(h.g.cm g cs hg).mono e,Nat.le_succ_of_le h.g.lo⟩,?_,h.t.mono e,h.n,h.d.mono e⟩,?_⟩
 ·rcases aN hid h2 with ⟨rfl,rfl⟩ | ⟨cD,h2⟩
  ·simp only [St.cg] at xp
   rw [aO hg] at xp
   cases xp
   exact ⟨rfl,qj,cur,vs,new,hn,hm,hs,fun o hi=>by have:=h.g.wf _ _ hi; omega,hr.mono e,h1,ht⟩
  ·simp only [St.cg] at xp
   rw [bP (Ne.symm cD)] at xp
   exact (h.g.obj i gg r xp h2).mono e (fun b hb=>old b (h.g.b8 ⟨i,r,h2,hb⟩)) (fun b o _ hi=>hi)
 ·rcases aN hid xp with ⟨g3,e1⟩ | ⟨g3,g1⟩
  ·rcases aN hid h2 with ⟨g4,e2⟩ | ⟨g4,g2⟩
   ·omega
   ·have:=h.g.b8 ⟨j,rj,g2,b2⟩
    rw [e1] at b1
    simp [RO.has] at b1
    omega
  ·rcases aN hid h2 with ⟨g4,e2⟩ | ⟨g4,g2⟩
   ·have:=h.g.b8 ⟨i,ri,g1,b1⟩
    rw [e2] at b2
    simp [RO.has] at b2
    omega
   ·exact h.g.inj i j ri rj b g1 g2 b1 b2
 ·have:=h.g.wf b o hi
  simp
  omega
 ·exact h.b.bJ e (fun k cs hk=>old _ (h.fa (.inr ⟨k,cs,hk,rfl⟩))) (fun k cs o hk hi=>hi) (fun k cs hk hl=>live _ (h.fa (.inr ⟨k,cs,hk,rfl⟩)) hl)
 ·refine ⟨e,rfl,rfl,rfl,by simp,fun b hb _=>old b hb,fun b hb ho=>?_,fun b o hi hb _=>hi⟩
  rcases ho with ho | ho
  ·exact .inl (live b hb ho)
  ·exact .inr ho
theorem bo.OC (h:bo E R w β s a) {cur cur2:Array Value} {vs:List Value} {es es':List AV} {elem:TypeId} {sz id g c:Nat} (hg:nth s.G id=some (.dw es sz elem)) (hid:nth R.obj id=some (.tok es.length g c)) (cu:es.length < es'.length) (hn:es'.length≤c)
  (jt:w.heap[g]?=some (.cells cur elem (0,0))) (hs:cur2.size=cur.size) (qj:dU sz es') (hr:aQ R w (av es') vs) (h1:∀ v∈vs,v.oneCell'=true) (ht:cur2.toList.take (es'.length * sz)=vs) :
  bo E (R.reset id (.tok es'.length g c)) (w.setRow g cur2) β (s.cg (aF s.G id (.dw es' sz elem))) a ∧
  Step R w β s.boxes (R.reset id (.tok es'.length g c)) (w.setRow g cur2) β s.boxes:=by
 obtain ⟨q0,q1,YT,vs0,p1,p2,p3,p4,p5,p6,p7,p8⟩:=h.g.obj id _ _ hg hid
 rw [jt] at p1
 cases p1
 have rO:Live R g:=⟨id,_,hid,rfl⟩
 have old:∀ b,b≠g→(w.setRow g cur2).heap[b]?=w.heap[b]?:=fun b hb=>setRow_other w g b cur2 hb
 have new:(w.setRow g cur2).heap[g]?=some (.cells cur2 elem (0,0)):=setRow_heap w g cur cur2 elem (0,0) jt
 have e:Ext R w (R.reset id (.tok es'.length g c)) (w.setRow g cur2):=by
  have e0:=jC (R:=R) (w:=w) p5 cur2
  refine ⟨fun _ _ h=>h,e0.cell,fun i r hr=>?_,e0.lp⟩
  by_cases ei:id=i
  ·subst ei
   rw [hid] at hr
   cases hr
   exact ⟨_,aO hid,by omega,fun e=>by omega⟩
  ·exact ⟨r,by rw [an.reset,bP ei]; exact hr,cJ.refl r⟩
 have live:∀ b,Live (R.reset id (.tok es'.length g c)) b→Live R b:=fun b hl=>by
  rcases xL (g:=g) (ro:=.tok es'.length g c) hid (fun _ h=>h) hl with rfl | hl
  ·exact rO
  ·exact hl
 have rP:∀ k cs,dO s.boxes k=some cs→β k≠g:=fun k cs hk eq=>(h.b.box k cs hk).2.2 (eq ▸ rO)
 refine ⟨⟨⟨by simp [St.cg,an.reset,h.g.len],fun i gg r xp h2=>?_,fun i j ri rj b xp h2 b1 b2=>?_,fun b o hi=>?_,fun g cs hg=>(h.g.cm g cs hg).mono e,h.g.lo⟩,?_,h.t.mono e,h.n,h.d.mono e⟩,?_⟩
 ·rcases aN hid h2 with ⟨rfl,rfl⟩ | ⟨cD,h2⟩
  ·simp only [St.cg] at xp
   rw [aO hg] at xp
   cases xp
   exact ⟨rfl,qj,cur2,vs,new,hn,p3,by rw [hs]; exact p4,p5,hr.mono e,h1,ht⟩
  ·simp only [St.cg] at xp
   rw [bP (Ne.symm cD)] at xp
   have Uu:∀ b,r.has b→b≠g:=fun b hb eq=>cD (h.g.inj i id _ _ b h2 hid hb (by rw [eq]; rfl))
   exact (h.g.obj i gg r xp h2).mono e (fun b hb=>old b (Uu b hb)) (fun b o hb hi=>hi)
 ·rcases aN hid xp with ⟨g3,e1⟩ | ⟨g3,g1⟩
  ·rcases aN hid h2 with ⟨g4,e2⟩ | ⟨g4,g2⟩
   ·omega
   ·rw [e1] at b1
    exact g3.trans (h.g.inj id j _ _ b hid g2 b1 b2)
  ·rcases aN hid h2 with ⟨g4,e2⟩ | ⟨g4,g2⟩
   ·rw [e2] at b2
    exact (h.g.inj i id _ _ b g1 hid b1 b2).trans g4.symm
   ·exact h.g.inj i j ri rj b g1 g2 b1 b2
 ·have:=h.g.wf b o hi
  simpa using this
 ·exact h.b.bJ e (fun k cs hk=>old _ (rP k cs hk)) (fun k cs o hk hi=>hi) (fun k cs hk hl=>live _ hl)
 ·refine ⟨e,rfl,rfl,rfl,by simp,fun b hb ul=>old b (fun eq=>ul (.inl (eq ▸ rO))),fun b hb ho=>?_,fun b o hi hb ul=>hi⟩
  rcases ho with ho | ho
  ·exact .inl (live b ho)
  ·exact .inr ho
theorem bo.Fg (h:bo E R w β s a) {cur:Array Value} {vs:List Value} {es:List AV} {elem:TypeId} {sz cap:Nat} (hn:es.length≤cap) (hm:cap≤maxLen) (hs:cur.size=cap * sz) (qj:dU sz es) (hr:aQ R w (av es) vs) (h1:∀ v∈vs,v.oneCell'=true) (ht:cur.toList.take (es.length * sz)=vs) :
  bo E (R.add (.tok es.length w.heap.size cap)) (w.alloc (.cells cur elem)) β (s.eL (.dw es sz elem)) a:=
 h.mD (.cells cur elem) (.dw es sz elem) (.tok es.length w.heap.size cap) (by exact fun _ h=>h)
  ⟨rfl,qj,cur,vs,heap_alloc_new w _,hn,hm,hs,fun o hi=>by have:=h.g.wf _ _ hi; omega,hr.mono (iz h.g.wf _ _),h1,ht⟩
theorem we (h:bo E R w β s a) (t:TypeId) (x y:Operand) (ho:o.op=.makeSlice t x y) {i:TI} (hi:E.ti t=some i) {k k':IntKind} {n m:Int} (hx:bM E s.ae x=.v (.int k n)) (hy:bM E s.ae y=.v (.int k' m))
  {elem esz pd:Nat} {ag:Bool} {z:AV} (hk:i.k=.sl elem esz ag pd (some z)) (hz:z.cells.length=esz) (Im:1≤esz) (sr:z.a6=true) (rN:z.closed=true) (hc:0≤n∧n≤m∧m≤140737488355328∧m * pd≤140737488355328) :
  b7 E R w β s a o ((s.eL (.dw (List.replicate n.toNat z) esz elem)).put o.dst (.v (.dD s.G.length n.toNat 0 esz n.toNat))):=by
 obtain ⟨us,z1,z2,bK⟩:=rk h t x y ho hi hx hy hk hz Im sr hc
 have X1:n.toNat≤m.toNat:=by omega
 have qj:=(gB (n:=m.toNat) hz sr rN).g
 have Ux:us.length=m.toNat * esz:=by rw [← z1.length,dC qj,List.length_replicate]
 have N8:(List.replicate n.toNat z).length=n.toNat:=List.length_replicate
 have EG:(List.replicate m.toNat z).take n.toNat=List.replicate n.toNat z:=by rw [List.take_replicate,Nat.min_eq_left X1]
 have hr:aQ R w (av (List.replicate n.toNat z)) (us.take (n.toNat * esz)):=by
  rw [← EG,jY _ qj]
  exact z1.take _
 have r1:=h.Fg (cur:=⟨us⟩) (vs:=us.take (n.toNat * esz)) (es:=List.replicate n.toNat z) (elem:=elem) (cap:=m.toNat) (by rw [N8]; exact X1) (by unfold maxLen; omega) (by simpa using Ux) (gB hz sr rN).g hr (fun v hv=>z2 v (List.mem_of_mem_take hv)) (by rw [N8])
 rw [N8] at r1
 have e:=iz (R:=R) (w:=w) h.g.wf (.cells ⟨us⟩ elem) (.tok n.toNat w.heap.size m.toNat)
 exact ⟨_,.slice (some ⟨w.heap.size,0,none⟩) n.toNat m.toNat,_,R.add (.tok n.toNat w.heap.size m.toNat),β,bK,.inl rfl,r1.put o.dst (x:=.v (.dD s.G.length n.toNat 0 esz n.toNat)) (Rel.dD (gS h _) ⟨Nat.le_refl _,fun _=>⟨rfl,Nat.zero_add _,.inl (Nat.zero_mul _).symm⟩⟩ X1),by rw [bc]; exact dh h _ _ (by exact fun _ h=>h)⟩
theorem um (h:bo E R w β s a) (t:TypeId) (len:Nat) (parts:Array (Nat × Operand)) (ho:o.op=.buildSlice t len parts) {k:LK} {esz:Nat} {es:List AV} (hv:cj E s t len parts.toList=some (.list k esz es)) {i:TI} (hi:E.ti t=some i) {elem bQ pd:Nat} {ag:Bool} {z:Option AV} (hk:i.k=.sl elem bQ ag pd z) (hm:len≤65536) :
  b7 E R w β s a o ((s.eL (.dw es esz elem)).put o.dst (.v (.dD s.G.length len 0 esz len))):=by
 obtain ⟨es',Uo,us,YR,YO,bK,g2,hlen,u2,u3,i',ag',YN,z',ua,jg⟩:=jh h t len parts ho hv
 cases YO
 rw [hi] at ua
 cases ua
 rw [hk] at jg
 cases jg
 have YS:us.length=len * esz:=by rw [← u2.length,eJ g2,hlen]
 have r1:=h.Fg (cur:=⟨us⟩) (vs:=us) (es:=es) (elem:=elem) (cap:=len) (by rw [hlen]; exact Nat.le_refl _) (by simp [maxLen]; omega) (by simpa using YS) g2.g u2 u3 (by rw [hlen,← YS]; exact List.take_length)
 rw [hlen] at r1
 exact ⟨_,.slice (some ⟨w.heap.size,0,none⟩) len len,_,R.add (.tok len w.heap.size len),β,bK,.inl rfl,r1.put o.dst (x:=.v (.dD s.G.length len 0 esz len)) (Rel.dD (gS h _) ⟨Nat.le_refl _,fun _=>⟨rfl,Nat.zero_add _,.inl (Nat.zero_mul _).symm⟩⟩ (Nat.le_refl _)),by rw [bc]; exact dh h _ _ (by exact fun _ h=>h)⟩
end ops
end Go.Am
namespace Go.Am
open Go
section fams
variable {E:Env} {R R':an} {w w':World} {β β':Nat→Nat} {s s':St} {a a':Act} {o:Oper}
theorem uo {α:Type} {l r:List α} {i:Nat} {x:α} (h:nth r i=some x):nth (l++r) (l.length+i)=some x:=by
 rw [bf] at *
 rw [List.getElem?_append_right (Nat.le_add_right _ _),Nat.add_sub_cancel_left]
 exact h
theorem wg {α:Type} {l r:List α} {i:Nat} {x:α} (h:nth l i=some x):nth (l++r) i=some x:=by
 have:=bR h
 rw [bf] at *
 rw [List.getElem?_append_left this]
 exact h
theorem eO {α:Type} {l r:List α} {i:Nat} {x:α} (h:nth (l++r) i=some x):nth l i=some x∨∃ j,i=l.length+j∧nth r j=some x:=by
 rw [bf] at h
 rcases Nat.lt_or_ge i l.length with cu | qi
 ·rw [List.getElem?_append_left cu] at h
  exact .inl (by rw [bf]; exact h)
 ·rw [List.getElem?_append_right qi] at h
  exact .inr ⟨i - l.length,by omega,by rw [bf]; exact h⟩
theorem bo.Fh (h:bo E R w β s a) {id sz:Nat} {e:TypeId} {fs:List Nat} (hid:nth s.G id=some (.bk fs sz e)) {nfs:List Nat} {nts:List TR} (hl:nts.length=nfs.length)
  (eD:∀ j f t,nth nfs j=some f→nth nts j=some t→Ax R w sz e f t) (ul:∀ j f b c,nth nts j≠some (.tok f b c)) {ro:RO} (bU:nth R.obj id=some ro) :
  ∃ ts,ro=.bk ts∧ts.length=fs.length∧bo E (R.reset id (.bk (ts++nts))) w β (s.cg (aF s.G id (.bk (fs++nfs) sz e))) a∧Step R w β s.boxes (R.reset id (.bk (ts++nts))) w β s.boxes:=by
 have cR:=h.g.obj id _ _ hid bU
 cases ro with
 | none=>exact cR.elim
 | bN=>exact cR.elim
 | b9 _=>exact cR.elim
 | tok _ _ _=>exact cR.elim
 | bk ts=>
 obtain ⟨q1,q2,q3⟩:=cR
 have xH:∀ b,RO.has (.bk (ts++nts)) b→RO.has (.bk ts) b:=fun b ⟨j,f,c,hj⟩=>by
  rcases eO hj with hj | ⟨i,_,hi⟩
  ·exact ⟨j,f,c,hj⟩
  ·exact absurd hi (ul i f b c)
 have ext:Ext R w (R.reset id (.bk (ts++nts))) w:=⟨fun _ _ h=>h,fun _ _ _=>rfl,fun i r hr=>by
  by_cases e:id=i
  ·subst e
   rw [bU] at hr
   cases hr
   exact ⟨_,aO bU,fun j t hj=>⟨t,wg hj,mC.refl t⟩⟩
  ·exact ⟨r,by rw [an.reset,bP e]; exact hr,cJ.refl r⟩,hJ.refl w⟩
 have live:∀ b,Live (R.reset id (.bk (ts++nts))) b→Live R b:=fun b ⟨i,r,h1,h2⟩=>by
  rcases aN bU h1 with ⟨_,rfl⟩ | ⟨_,h1⟩
  ·exact ⟨id,_,bU,xH b h2⟩
  ·exact ⟨i,r,h1,h2⟩
 refine ⟨ts,rfl,q1,⟨⟨by simp [St.cg,an.reset,h.g.len],fun i g r h1 h2=>?_,fun i j ri rj b h1 h2 b1 b2=>?_,h.g.wf,fun g cs hg=>(h.g.cm g cs hg).mono ext,h.g.lo⟩,h.b.bJ ext (fun _ _ _=>rfl) (fun _ _ _ _ h=>h) (fun _ _ _ hl=>live _ hl),h.t.mono ext,h.n,h.d.mono ext⟩,?_⟩
 ·rcases aN bU h2 with ⟨rfl,rfl⟩ | ⟨cD,h2⟩
  ·simp only [St.cg] at h1
   rw [aO hid] at h1
   cases h1
   refine ⟨by simp [q1,hl],fun i j f b c f' c' hi hj=>?_,fun j f t hf ht=>?_⟩
   ·rcases eO hi with hi | ⟨_,_,hi⟩
    ·rcases eO hj with hj | ⟨_,_,hj⟩
     ·exact q2 i j _ _ _ _ _ hi hj
     ·exact absurd hj (ul _ _ _ _)
    ·exact absurd hi (ul _ _ _ _)
   ·rcases eO hf with N9 | ⟨k,hk,N9⟩
    ·rcases eO ht with ht | ⟨k',jg,ht⟩
     ·exact q3 j f t N9 ht
     ·have:=bR N9
      omega
    ·rcases eO ht with ht | ⟨k',jg,ht⟩
     ·have:=bR ht
      omega
     ·have J3:k=k':=by omega
      subst J3
      exact eD k f t N9 ht
  ·simp only [St.cg] at h1
   rw [bP (Ne.symm cD)] at h1
   exact (h.g.obj i g r h1 h2).mono ext (fun _ _=>rfl) (fun _ _ _ h=>h)
 ·rcases aN bU h1 with ⟨g3,e1⟩ | ⟨g3,g1⟩
  ·rcases aN bU h2 with ⟨g4,e2⟩ | ⟨g4,g2⟩
   ·omega
   ·rw [e1] at b1
    exact g3.trans (h.g.inj id j _ _ b bU g2 (xH b b1) b2)
  ·rcases aN bU h2 with ⟨g4,e2⟩ | ⟨g4,g2⟩
   ·rw [e2] at b2
    exact (h.g.inj i id _ _ b g1 bU b1 (xH b b2)).trans g4.symm
   ·exact h.g.inj i j ri rj b g1 g2 b1 b2
 ·refine ⟨ext,rfl,rfl,rfl,Nat.le_refl _,fun _ _ _=>rfl,fun b _ ho=>?_,fun _ _ h _ _=>h⟩
  rcases ho with ho | ho
  ·exact .inl (live b ho)
  ·exact .inr ho
theorem b7.step {s1:St} {s2:St} (e:s1.boxes=s.boxes) (st:Step R w β s.boxes R' w β s.boxes) (h:b7 E R' w β s1 a o s2):b7 E R w β s a o s2:=by
 obtain ⟨nx,x,w',R2,β',h1,h2,h3,h4⟩:=h
 rw [e] at h4
 exact ⟨nx,x,w',R2,β',h1,h2,h3,st.trans h4⟩
theorem YW {c:Bool} {α:Type} {a b:α} (h:(bif c then some a else none)=some b):c=true∧a=b:=by
 cases c
 ·cases h
 ·exact ⟨rfl,Option.some.inj h⟩
theorem nR {sz:Nat} {e:TypeId}:∀ {G:List GO} {i j:Nat},jO G sz e i=some j→∃ fs,nth G (j - i)=some (.bk fs sz e)∧i≤j
 | [],i,j,h=>by cases h
 | g :: G,i,j,h=>by
  have step:jO G sz e (i+1)=some j→∃ fs,nth (g :: G) (j - i)=some (.bk fs sz e)∧i≤j:=fun h=>by
   obtain ⟨fs,h1,h2⟩:=nR h
   refine ⟨fs,?_,by omega⟩
   rw [show j - i=(j - (i+1))+1 by omega]
   exact h1
  unfold jO at h
  split at h
  ·rename_i kR
   cases kR
  ·rename_i kR
   obtain ⟨rfl,rfl⟩:=List.cons.inj kR
   split at h
   ·rename_i j' hj
    cases h
    exact step hj
   ·obtain ⟨hc,rfl⟩:=YW h
    ·rw [Bool.and_eq_true] at hc
     have h1:=Nat.eq_of_beq_eq_true hc.1
     have h2:=Nat.eq_of_beq_eq_true hc.2
     subst h1 h2
     exact ⟨_,by rw [Nat.sub_self]; rfl,Nat.le_refl _⟩
  ·rename_i x G1 _ _ _ hn kR
   obtain ⟨rfl,rfl⟩:=List.cons.inj kR
   exact step h
theorem bo.GW {s0:St} {d:Option Tmp} {x y:AV} (h:bo E R w β (s0.put d (.v x)) a) (hw:∀ c,Rel R w x c→Rel R w y c):bo E R w β (s0.put d (.v y)) a:=by
 cases d with
 | none=>exact h
 | some d=>
  simp only [St.put] at h ⊢
  cases hb:Nat.blt d s0.n with
  | false=>rw [hb] at h; exact h
  | true=>
   rw [hb] at h
   refine ⟨h.g,h.b,fun i hi=>?_,h.n,h.d⟩
   by_cases e:d=i
   ·subst e
    rw [aG]
    obtain ⟨c,k1,k2⟩:=h.t d (by rw [aG]; simp)
    rw [aG] at k2
    exact ⟨c,k1,hw c k2⟩
   ·rw [aW e] at hi ⊢
    have:=h.t i (by rw [aW e]; exact hi)
    rw [aW e] at this
    exact this
theorem b7.GW {s0:St} {x y:AV} (h:b7 E R w β s a o (s0.put o.dst (.v x))) (hw:∀ R' w',Ext R w R' w'→∀ c,Rel R' w' x c→Rel R' w' y c):b7 E R w β s a o (s0.put o.dst (.v y)):=by
 obtain ⟨nx,v,w',R',β',h1,h2,h3,h4⟩:=h
 refine ⟨nx,v,w',R',β',h1,h2,h3.GW (hw R' w' h4.ext),?_⟩
 rw [bc] at h4 ⊢
 exact h4
end fams
section ops
variable {E:Env} {R:an} {w:World} {β:Nat→Nat} {s:St} {a:Act} {o:Oper}
theorem gC {k:LK} {sz esz:Nat} {es:List AV} {c:Value} (h:Rel R w (.list k sz es) c) (fu:es=[]∨sz=esz) :
  jT esz es∧∃ vs,aQ R w (av es) vs∧(∀ v∈vs,v.oneCell'=true)∧vs.length=es.length * esz ∧
   ((es=[]∧vs=[]∧∃ ad,c=.slice ad 0 0∧(ad=none∨k=.lQ))∨∃ b o' cap,c=.slice (some ⟨b,o',none⟩) es.length cap∧es.length≤cap∧Bz R k b o' es.length cap∧(∀ j v,vs[j]?=some v→w.cell? ((⟨b,o',none⟩:Addr).add j)=some v)∧gQ R w b o' esz es):=by
 cases h with
 | km=>exact ⟨fun e he=>by simp at he,[],.nil,by simp,by simp,.inl ⟨rfl,rfl,_,rfl,.inl rfl⟩⟩
 | jA=>exact ⟨fun e he=>by simp at he,[],.nil,by simp,by simp,.inl ⟨rfl,rfl,_,rfl,.inl rfl⟩⟩
 | nL=>exact ⟨fun e he=>by simp at he,[],.nil,by simp,by simp,.inl ⟨rfl,rfl,_,rfl,.inr rfl⟩⟩
 | mV=>exact ⟨fun e he=>by simp at he,[],.nil,by simp,by simp,.inl ⟨rfl,rfl,_,rfl,.inl rfl⟩⟩
 | mB=>exact ⟨fun e he=>by simp at he,[],.nil,by simp,by simp,.inl ⟨rfl,rfl,_,rfl,.inl rfl⟩⟩
 | @list _ _ _ b o' len cap hr hlen iG J3=>
  subst hlen
  have kQ:gQ R w b o' esz es:=by
   rcases fu with rfl | rfl
   ·exact .nil
   ·exact hr
  obtain ⟨g0,vs,g1,g2,g3,g4⟩:=xA kQ
  refine ⟨g0,vs,g1,g2,by rw [← g1.length,eJ g0],.inr ⟨b,o',cap,rfl,iG,J3,fun j v hv=>?_,kQ⟩⟩
  rw [cL]
  exact g3 j v hv
theorem sL {b esz:Nat} {es:List AV} {vs:List Value} {w:World} {R:an} (h0:jT esz es) (h:aQ R w (av es) vs) (h1:∀ v∈vs,v.oneCell'=true)
  (hc:∀ j v,vs[j]?=some v→w.cell? ⟨b,j,none⟩=some v) (hI:∀ j,j < vs.length→R.I b j):gQ R w b 0 esz es:=
 mZ h0 (eN.make h h1 (fun j v hv=>by rw [Nat.zero_add]; exact hc j v hv) (fun j hj=>by rw [Nat.zero_add]; exact hI j (by rw [← h.length]; exact hj)))
theorem mg {sz:Nat} {l r:List AV} (h:jT sz l) (k:jT sz r):jT sz (l++r):=fun e he=>by
 rcases List.mem_append.1 he with he | he
 ·exact h e he
 ·exact k e he
theorem jE {l r:List Value} (h:∀ v∈l,v.oneCell'=true) (k:∀ v∈r,v.oneCell'=true):∀ v∈l++r,v.oneCell'=true:=fun v hv=>by
 rcases List.mem_append.1 hv with hv | hv
 ·exact h v hv
 ·exact k v hv
structure Apd (P:Program) (w:World) (t u ty e:TypeId) (i:TypeInfo) (z:Value) (cy:Value) (n:Nat) (us:List Value):Prop where
 zero:n=0→∀ base len cap,len≤cap→(Builtin.append_ #[t,u] ty #[.slice base len cap,cy]).run P w=.ok (.slice base len cap) w
 nil:0 < n→(n:Int)≤9223372036854775807→n * i.bytes≤281474976710656→(Builtin.append_ #[t,u] ty #[.slice none 0 0,cy]).run P w =
   .ok (.slice (some ⟨w.heap.size,0,none⟩) n (grownCap w n 0 e)) (w.drew.alloc (.cells (us.toArray++Builtin.zeroCells z.cells (grownCap w n 0 e - n)) e))
 grow:0 < n→∀ (b:Addr) (sLen mF:Nat) (BM:List Value),BM.length=sLen * i.size→(∀ j v,BM[j]?=some v→w.cell? (b.add j)=some v)→mF < sLen+n→((sLen+n:Nat):Int)≤9223372036854775807→Builtin.nextslicecap (sLen+n) mF * i.bytes≤281474976710656 →
   (Builtin.append_ #[t,u] ty #[.slice (some b) sLen mF,cy]).run P w=.ok (.slice (some ⟨w.heap.size,0,none⟩) (sLen+n) (grownCap w (sLen+n) mF e))
    (w.drew.alloc (.cells (BM.toArray++us.toArray++Builtin.zeroCells z.cells (grownCap w (sLen+n) mF e - (sLen+n))) e))
 room:0 < n→∀ (g sLen mF:Nat) (cur:Array Value),w.heap[g]?=some (.cells cur e (0,0))→sLen+n≤mF→sLen * i.size+us.length≤cur.size →
   (Builtin.append_ #[t,u] ty #[.slice (some ⟨g,0,none⟩) sLen mF,cy]).run P w=.ok (.slice (some ⟨g,0,none⟩) (sLen+n) mF) (w.setRow g (cur.toList.take (sLen * i.size)++us++cur.toList.drop (sLen * i.size+us.length)).toArray)
theorem oI (h:bo E R w β s a) {t u:TypeId} {id f off sz len:Nat} {y:AV} {ys:List AV} {cx cy:Value} {us:List Value}
  (gr:∀ {c:Value} {w':World},(Builtin.append_ #[t,u] o.type #[cx,cy]).run E.P w=.ok c w'→(execOp a.eval o).run E.P w=.ok (.value c) w')
  {elem esz eb:Nat} {z:AV} (GX:1≤eb) (hz:z.cells.length=esz) (sr:z.a6=true)
  {ie:TypeInfo} (f2:ie.size=esz) (f3:ie.bytes=eb) (f6:gM ie=some z)
  (h0:Rel R w (.dD id f off sz len) cx) (hA:∀ zc:Value,ie.zero=some zc→Apd E.P w t u o.type elem ie zc cy (y :: ys).length us)
  (y0:dU esz (y :: ys)) (y1:aQ R w (av (y :: ys)) us) (y2:∀ v∈us,v.oneCell'=true) (y3:us.length=(y :: ys).length * esz)
  {es:List AV} (hid:nth s.G id=some (.dw es esz elem)) (hf:f=es.length) (ho0:off=0) (xD:len=f) (hb:(es.length+(y :: ys).length) * eb≤140737488355328) :
  b7 E R w β s a o ((s.cg (aF s.G id (.dw (es++(y :: ys)) esz elem))).put o.dst (.v (.dD id (es.length+(y :: ys).length) 0 esz (es.length+(y :: ys).length)))):=by
 obtain ⟨zc,rN,EF⟩:=dB f6
 have hA:=hA zc rN
 obtain ⟨d1,d2⟩:=Rel.cells (EF R w) sr
 have ql:zc.cells.size=esz:=by rw [← hz,d1.length]; simp
 have oO:0 < (y :: ys).length:=by simp
 have hm:es.length+(y :: ys).length≤140737488355328:=Nat.le_trans (Nat.le_mul_of_pos_right _ GX) hb
 have CT:(es++(y :: ys)).length=es.length+(y :: ys).length:=List.length_append
 -- where a new block has been made
 have fresh:∀ {xs:List Value} {old:Nat} {r0:RO},nth R.obj id=some r0→(∀ b c,cJ r0 (.tok (es.length+(y :: ys).length) b c))→dU esz es→aQ R w (av es) xs→(∀ v∈xs,v.oneCell'=true)→xs.length=es.length * esz →
   (Builtin.append_ #[t,u] o.type #[cx,cy]).run E.P w=.ok (.slice (some ⟨w.heap.size,0,none⟩) (es.length+(y :: ys).length) (grownCap w (es.length+(y :: ys).length) old elem)) (w.drew.alloc (.cells (xs.toArray++us.toArray++Builtin.zeroCells zc.cells (grownCap w (es.length+(y :: ys).length) old elem - (es.length+(y :: ys).length))) elem)) →
   b7 E R w β s a o ((s.cg (aF s.G id (.dw (es++(y :: ys)) esz elem))).put o.dst (.v (.dD id (es.length+(y :: ys).length) 0 esz (es.length+(y :: ys).length)))):=by
  intro xs old r0 bU hle JH YX vY AK bK
  have qi:=grownCap_ge w (es.length+(y :: ys).length) old elem
  obtain ⟨r1,r2⟩:=h.UA (cur:=xs.toArray++us.toArray++Builtin.zeroCells zc.cells (grownCap w (es.length+(y :: ys).length) old elem - (es.length+(y :: ys).length))) (vs:=xs++us) (es':=es++(y :: ys)) hid bU (by rw [CT]; exact hle) (by rw [CT]; exact qi) (grownCap_le_maxLen w _ old elem (by unfold maxLen; omega)) (by
   simp only [Array.size_append,List.size_toArray,size_zeroCells,ql,AK,y3,← Nat.add_mul]
   congr 1
   omega) (sJ JH y0) (by rw [da]; exact YX.append y1) (jE vY y2) (by
   rw [CT]
   simp only [Array.toList_append]
   exact List.take_left' (by rw [List.length_append,AK,y3,Nat.add_mul]))
  rw [CT] at r1 r2
  refine ⟨_,_,_,_,β,gr bK,.inl rfl,r1.put o.dst ?_,by rw [bc]; exact r2⟩
  exact Rel.dD (aO bU) ⟨Nat.le_refl _,fun _=>⟨rfl,Nat.zero_add _,.inl (Nat.zero_mul _).symm⟩⟩ qi
 cases h0 with
 | @js _ _ ro bU hon=>
  have cR:=h.g.obj id _ _ hid bU
  have he0:es=[]:=List.eq_nil_of_length_eq_zero hf.symm
  subst he0
  cases ro with
  | none=>exact cR.elim
  | b9 _=>exact cR.elim
  | bk _=>exact cR.elim
  | tok f' g c=>
   obtain ⟨rfl,_⟩:=cR
   simp [nK] at hon
  | bN=>
   simp only [List.length_nil] at hb
   have bK:=hA.nil oO (by omega) (by rw [f3]; rw [Nat.zero_add] at hb; omega)
   exact fresh (xs:=[]) (old:=0) bU (fun b c=>by simp only [cJ]; omega) (fun e he=>by simp at he) .nil (by simp) (by simp) (by simpa using bK)
 | @dD _ _ _ _ _ cap b o' ro bU eD iG=>
  subst hf; subst ho0; subst xD
  obtain ⟨b',c',cur,vs,rfl,g1,g2,g3,g4,g5,g6,g7,g8,g9⟩:=mf h.g hid bU (fun k=>by subst k; exact eD)
  obtain ⟨rfl,CA,tP⟩:=eD.2 rfl
  rw [Nat.zero_add] at CA
  subst CA
  have Tb:vs.length=es.length * esz:=by rw [← g7.length,dC g1]
  have gD:∀ j v,vs[j]?=some v→cur[j]?=some v:=fun j v hj=>by
   rw [← g9,List.getElem?_take] at hj
   split at hj
   ·rw [← Array.getElem?_toList]; exact hj
   ·cases hj
  by_cases ik:es.length+(y :: ys).length≤cap
  ·have oS:o'=0:=by
    rcases tP with tP | tP
    ·rw [tP,Nat.zero_mul]
    ·rw [List.length_cons] at ik; omega
   subst oS
   have hle:(es.length+(y :: ys).length) * esz≤cap * esz:=Nat.mul_le_mul_right _ ik
   have bK:=hA.room oO b es.length cap cur g2 ik (by rw [f2,y3,← Nat.add_mul,g5]; exact hle)
   rw [f2] at bK
   have jF:cur.toList.length=cap * esz:=by rw [show cur.toList.length=cur.size from Array.length_toList,g5]
   obtain ⟨r1,r2⟩:=h.OC (cur2:=(cur.toList.take (es.length * esz)++us++cur.toList.drop (es.length * esz+us.length)).toArray) (vs:=vs++us) (es':=es++(y :: ys)) hid bU (by rw [CT]; omega) (by rw [CT]; exact ik) g2 (by
    rw [List.size_toArray,← Array.length_toList]
    simp only [List.length_append,List.length_take,List.length_drop,y3,jF]
    rw [Nat.add_mul] at hle
    omega) (sJ g1 y0) (by rw [da]; exact g7.append y1) (jE g8 y2) (by
    rw [CT,List.toList_toArray,g9]
    exact List.take_left' (by rw [List.length_append,Tb,y3,Nat.add_mul]))
   rw [CT] at r1 r2
   refine ⟨_,_,_,_,β,gr bK,.inl rfl,r1.put o.dst ?_,by rw [bc]; exact r2⟩
   exact Rel.dD (aO bU) ⟨Nat.le_refl _,fun _=>⟨rfl,Nat.zero_add _,.inl (Nat.zero_mul _).symm⟩⟩ ik
  ·have bK:=hA.grow oO ⟨b,o',none⟩ es.length cap vs (by rw [Tb,f2]) (fun j v hj=>by
    rw [cL]
    have N6:=(List.getElem?_eq_some_iff.1 hj).1
    have oS:o'=0:=by
     rcases tP with tP | tP
     ·rw [tP,Nat.zero_mul]
     ·have:es.length=0:=by omega
      rw [Tb,this] at N6
      omega
    subst oS
    rw [Nat.zero_add,cell_of_row w b j cur elem (0,0) g2]
    exact gD j v hj) (by omega) (by omega) (growslice_fits (by omega) (by rw [f3]; exact hb))
   exact fresh (xs:=vs) (old:=cap) bU (fun b c=>⟨by omega,fun e=>by omega⟩) g1 g7 g8 Tb bK
theorem nb (h:bo E R w β s a) {t u:TypeId} {id j:Nat} {es:List AV} {y:AV} {ys:List AV} {cx cy:Value} {us:List Value}
  (gr:∀ {c:Value} {w':World},(Builtin.append_ #[t,u] o.type #[cx,cy]).run E.P w=.ok c w'→(execOp a.eval o).run E.P w=.ok (.value c) w')
  {elem esz eb:Nat} {z:AV} (GX:1≤eb) (hz:z.cells.length=esz) (sr:z.a6=true)
  {ie:TypeInfo} (f2:ie.size=esz) (f3:ie.bytes=eb) (f6:gM ie=some z)
  (h0:Rel R w (.list (.bk id j) esz es) cx) (hA:∀ zc:Value,ie.zero=some zc→Apd E.P w t u o.type elem ie zc cy (y :: ys).length us)
  (y0:jT esz (y :: ys)) (y1:aQ R w (av (y :: ys)) us) (y2:∀ v∈us,v.oneCell'=true) (y3:us.length=(y :: ys).length * esz)
  {fs:List Nat} (jc:nth s.G id=some (.bk fs esz elem)) (wJ:nth fs j=some es.length) (hb:(es.length+(y :: ys).length) * eb≤140737488355328) :
  b7 E R w β s a o ((s.cg (aF s.G id (.bk (aF fs j (es.length+(y :: ys).length)) esz elem))).put o.dst (.v (.list (.bk id j) esz (es++(y :: ys))))):=by
 obtain ⟨zc,rN,EF⟩:=dB f6
 have hA:=hA zc rN
 obtain ⟨d1,d2⟩:=Rel.cells (EF R w) sr
 have ql:zc.cells.size=esz:=by rw [← hz,d1.length]; simp
 have oO:0 < (y :: ys).length:=by simp
 have hm:es.length+(y :: ys).length≤140737488355328:=Nat.le_trans (Nat.le_mul_of_pos_right _ GX) hb
 obtain ⟨x0,xs,x1,x2,x3,x4⟩:=gC (esz:=esz) h0 (.inr rfl)
 obtain ⟨ro,bU⟩:∃ ro,nth R.obj id=some ro:=by
  cases h0 with
  | mB q _=>exact ⟨_,q⟩
  | list _ _ _ hk=>obtain ⟨ro,q,_⟩:=hk; exact ⟨ro,q⟩
 have cR:=h.g.obj id _ _ jc bU
 cases ro with
 | none=>exact cR.elim
 | bN=>exact cR.elim
 | b9 _=>exact cR.elim
 | tok _ _ _=>exact cR.elim
 | bk ts=>
 have cR:xn R w esz elem fs ts:=cR
 have hjl:j < ts.length:=by rw [cR.1]; exact bR wJ
 obtain ⟨tr,ht⟩:∃ tr,nth ts j=some tr:=⟨ts[j],by rw [bf]; exact List.getElem?_eq_getElem hjl⟩
 have oJ:=cR.2.2 j _ _ wJ ht
 have CU:∀ i f b c,nth ts i=some (.tok f b c)→b < w.heap.size:=fun i f b c hi=>h.g.b8 ⟨id,_,bU,i,f,c,hi⟩
 -- where a new block has been made
 have fresh:∀ {old:Nat},(∀ b c,mC tr (.tok (es.length+(y :: ys).length) b c)) →
   (Builtin.append_ #[t,u] o.type #[cx,cy]).run E.P w=.ok (.slice (some ⟨w.heap.size,0,none⟩) (es.length+(y :: ys).length) (grownCap w (es.length+(y :: ys).length) old elem)) (w.drew.alloc (.cells (xs.toArray++us.toArray++Builtin.zeroCells zc.cells (grownCap w (es.length+(y :: ys).length) old elem - (es.length+(y :: ys).length))) elem)) →
   b7 E R w β s a o ((s.cg (aF s.G id (.bk (aF fs j (es.length+(y :: ys).length)) esz elem))).put o.dst (.v (.list (.bk id j) esz (es++(y :: ys))))):=by
  intro old hle bK
  have qi:=grownCap_ge w (es.length+(y :: ys).length) old elem
  have YY:=grownCap_le_maxLen w (es.length+(y :: ys).length) old elem (by unfold maxLen; omega)
  have Te:(xs.toArray++us.toArray++Builtin.zeroCells zc.cells (grownCap w (es.length+(y :: ys).length) old elem - (es.length+(y :: ys).length))).size=grownCap w (es.length+(y :: ys).length) old elem * esz:=by
   simp only [Array.size_append,List.size_toArray,size_zeroCells,ql,x3,y3,← Nat.add_mul]
   congr 1
   omega
  generalize jt:xs.toArray++us.toArray++Builtin.zeroCells zc.cells (grownCap w (es.length+(y :: ys).length) old elem - (es.length+(y :: ys).length))=cur at bK Te
  have o1:=One.drew w (.cells cur elem)
  obtain ⟨r1,r2⟩:=h.Uv o1 (n:=(es.length+(y :: ys).length) * esz) (r1:=.bk (aF ts j (.tok (es.length+(y :: ys).length) w.heap.size (grownCap w (es.length+(y :: ys).length) old elem)))) (go:=.bk (aF fs j (es.length+(y :: ys).length)) esz elem) jc bU
   (tZ.set ht (hle _ _)) (fun b hb=>GR hb) (xn.set cR ⟨rfl,cur,o1.new,qi,YY,Te,fun o' oS hi=>by
    rcases hi with hi | ⟨_,hi⟩
    ·have:=h.g.wf _ _ hi
     omega
    ·omega⟩ (fun i f c hi=>absurd (CU i f _ c hi) (Nat.lt_irrefl _)) (fun i f b c _ hi=>⟨o1.old b (CU i f b c hi),fun o' oS=>by
     rcases oS with oS | ⟨oS,_⟩
     ·exact oS
     ·have:=CU i f b c hi
      omega⟩))
  have e:=r2.ext
  refine ⟨_,_,_,_,β,gr bK,.inl rfl,r1.put o.dst ?_,by rw [bc]; exact r2⟩
  refine Rel.list (sL (vs:=xs++us) (mg x0 y0) (by rw [da]; exact (x1.mono e).append (y1.mono e)) (jE x2 y2) (fun j v hj=>?_) (fun j hj=>.inr ⟨rfl,by rw [List.length_append,x3,y3,← Nat.add_mul] at hj; exact hj⟩)) (by simp) qi ⟨_,aO bU,_,aO ht,Nat.le_refl _,fun _=>⟨rfl,rfl,rfl⟩⟩
  rw [cell_of_row _ _ j _ _ _ o1.new,← jt]
  have cu:=(List.getElem?_eq_some_iff.1 hj).1
  rw [← Array.getElem?_toList]
  simp only [Array.toList_append,List.append_assoc]
  rw [← List.append_assoc,List.getElem?_append_left cu]
  exact hj
 rcases x4 with ⟨rfl,rfl,ad,rfl,hd⟩ | ⟨b,o',cap,rfl,YZ,xk,vp,xE⟩
 ·obtain rfl:ad=none:=by
   rcases hd with hd | hd
   ·exact hd
   ·cases hd
  simp only [List.length_nil] at hb oJ
  have bK:=hA.nil oO (by simp only [List.length_nil] at hm; omega) (by rw [f3]; rw [Nat.zero_add] at hb; omega)
  cases tr with
  | bN=>exact fresh (old:=0) (fun b c=>by simp only [mC,List.length_cons]; omega) (by simpa using bK)
  | full f'=>
   have oJ:f'=0:=oJ
   subst oJ
   exact fresh (old:=0) (fun b c=>by simp only [mC,List.length_cons]; omega) (by simpa using bK)
  | tok f' g c=>
   obtain ⟨oJ,_⟩:=oJ
   subst oJ
   exact fresh (old:=0) (fun b c=>by simp only [mC,List.length_cons,List.length_nil]; omega) (by simpa using bK)
 ·obtain ⟨mQ,Y0,vo⟩:=xk
  rw [bU] at Y0
  cases Y0
  obtain ⟨t',q3,vo⟩:=vo
  rw [ht] at q3
  cases q3
  cases tr with
  | bN=>exact vo.elim
  | full f'=>
   have hf:f'=es.length:=oJ
   subst hf
   have iG:=vo.2 rfl
   subst iG
   have bK:=hA.grow oO ⟨b,o',none⟩ es.length es.length xs (by rw [x3,f2]) vp (by omega) (by omega) (growslice_fits (by omega) (by rw [f3]; exact hb))
   exact fresh (fun b c=>by simp only [mC]; omega) bK
  | tok f' g c=>
   obtain ⟨rfl,cur,jt,k1,k3,k4,k5⟩:=oJ
   obtain ⟨rfl,rfl,rfl⟩:=vo.2 rfl
   by_cases ik:es.length+(y :: ys).length≤cap
   ·have hle:(es.length+(y :: ys).length) * esz≤cap * esz:=Nat.mul_le_mul_right _ ik
    have bK:=hA.room oO b es.length cap cur jt ik (by rw [f2,y3,← Nat.add_mul,k4]; exact hle)
    rw [f2] at bK
    generalize Kf:(cur.toList.take (es.length * esz)++us++cur.toList.drop (es.length * esz+us.length)).toArray=cur2 at bK
    have jF:cur.toList.length=cap * esz:=by rw [show cur.toList.length=cur.size from Array.length_toList,k4]
    have hll:es.length * esz≤cap * esz:=Nat.mul_le_mul_right _ k1
    have Ip:cur2.size=cap * esz:=by
     rw [← Kf,List.size_toArray]
     simp only [List.length_append,List.length_take,List.length_drop,y3,jF]
     rw [Nat.add_mul] at hle
     omega
    have xI:∀ o',R.I b o'→cur2[o']?=cur[o']?:=fun o' hi=>by
     have ho:o' < es.length * esz:=Nat.lt_of_not_le fun hle=>k5 o' hle hi
     rw [← Kf,List.append_assoc]
     simp only [List.getElem?_toArray]
     rw [List.getElem?_append_left (by rw [List.length_take]; omega),List.getElem?_take,if_pos ho,Array.getElem?_toList]
    have new:(w.setRow b cur2).heap[b]?=some (.cells cur2 elem (0,0)):=setRow_heap w b cur cur2 elem (0,0) jt
    obtain ⟨r0,r1,r2⟩:=h.OB (cur2:=cur2) (n:=(es.length+(y :: ys).length) * esz) (r1:=.bk (aF ts j (.tok (es.length+(y :: ys).length) b cap))) (go:=.bk (aF fs j (es.length+(y :: ys).length)) esz elem) jc bU ⟨j,_,_,ht⟩
     (tZ.set ht ⟨by omega,fun e=>by omega⟩) (fun b' jB=>(GR jB).elim (fun e=>by rw [e]; exact ⟨j,_,_,ht⟩) (fun x=>x)) jt xI (fun _=>xn.set cR ⟨rfl,cur2,new,ik,k3,Ip,fun o' oS hi=>by
      rcases hi with hi | ⟨_,hi⟩
      ·exact k5 o' (Nat.le_trans (Nat.mul_le_mul_right _ (Nat.le_add_right _ _)) oS) hi
      ·omega⟩ (fun i f c hi=>cR.2.1 i j _ _ _ _ _ hi ht) (fun i f b' c cD hi=>by
       have N2:b'≠b:=fun e=>by subst e; exact cD (cR.2.1 i j _ _ _ _ _ hi ht)
       refine ⟨setRow_other w b b' cur2 N2,fun o' oS=>?_⟩
       rcases oS with oS | ⟨oS,_⟩
       ·exact oS
       ·exact absurd oS N2))
    refine ⟨_,_,_,_,β,gr bK,.inl rfl,r1.put o.dst ?_,by rw [bc]; exact r2⟩
    have OD:cur.toList.take (es.length * esz)=xs:=by
     have OE:xs.length=es.length * esz:=x3
     apply List.ext_getElem?
     intro j
     rw [List.getElem?_take]
     split
     ·rename_i hj
      have N6:j < xs.length:=by omega
      have uc:=vp j xs[j] (List.getElem?_eq_getElem N6)
      rw [cL,Nat.zero_add,cell_of_row w b j cur elem (0,0) jt] at uc
      rw [Array.getElem?_toList,uc,List.getElem?_eq_getElem N6]
     ·rw [List.getElem?_eq_none (by omega)]
    refine Rel.list (sL (vs:=xs++us) (mg x0 y0) (by rw [da]; exact (x1.mono r0).append (y1.mono r0)) (jE x2 y2) (fun j v hj=>?_) (fun j hj=>.inr ⟨rfl,by rw [List.length_append,x3,y3,← Nat.add_mul] at hj; exact hj⟩)) (by simp) ik ⟨_,aO bU,_,aO ht,Nat.le_refl _,fun _=>⟨rfl,rfl,rfl⟩⟩
    rw [cell_of_row _ _ j _ _ _ new,← Kf,OD]
    simp only [List.getElem?_toArray]
    rw [List.getElem?_append_left (List.getElem?_eq_some_iff.1 hj).1]
    exact hj
   ·have bK:=hA.grow oO ⟨b,0,none⟩ es.length cap xs (by rw [x3,f2]) vp (by omega) (by omega) (growslice_fits (by omega) (by rw [f3]; exact hb))
    exact fresh (fun b c=>⟨by omega,fun e=>by omega⟩) bK
theorem wh (h:bo E R w β s a) {t u:TypeId} {id j:Nat} {es:List AV} {y:AV} {ys:List AV} {cx cy:Value} {us:List Value}
  (gr:∀ {c:Value} {w':World},(Builtin.append_ #[t,u] o.type #[cx,cy]).run E.P w=.ok c w'→(execOp a.eval o).run E.P w=.ok (.value c) w')
  {elem esz eb:Nat} {z:AV} (GX:1≤eb) (hz:z.cells.length=esz) (sr:z.a6=true)
  {ie:TypeInfo} (f2:ie.size=esz) (f3:ie.bytes=eb) (f6:gM ie=some z)
  (h0:Rel R w (.list (.bk id j) esz es) cx) (hA:∀ zc:Value,ie.zero=some zc→Apd E.P w t u o.type elem ie zc cy (y :: ys).length us)
  (y0:jT esz (y :: ys)) (y1:aQ R w (av (y :: ys)) us) (y2:∀ v∈us,v.oneCell'=true) (y3:us.length=(y :: ys).length * esz)
  {fs:List Nat} (jc:nth s.G id=some (.bk fs esz elem)) (wJ:Oq fs j es.length=true) (hb:(es.length+(y :: ys).length) * eb≤140737488355328) :
  b7 E R w β s a o ((s.cg (aF s.G id (.bk (H7 fs j (es.length+(y :: ys).length)) esz elem))).put o.dst (.v (.list (.bk id j) esz (es++(y :: ys))))):=by
 unfold Oq at wJ
 rw [Bool.or_eq_true,decide_eq_true_eq,Bool.and_eq_true] at wJ
 rcases wJ with wJ | ⟨hj,hl⟩
 ·have cD:Nat.beq j fs.length=false:=by
   cases hb:Nat.beq j fs.length with
   | false=>rfl
   | true=>
    have:=Nat.eq_of_beq_eq_true hb
    have:=bR wJ
    omega
  unfold H7
  rw [cD]
  exact nb h gr GX hz sr f2 f3 f6 h0 hA y0 y1 y2 y3 jc wJ hb
 ·have xM:H7 fs j (es.length+(y :: ys).length)=fs++[es.length+(y :: ys).length]:=by
   unfold H7
   rw [hj]
   rfl
  rw [xM]
  have hj:=Nat.eq_of_beq_eq_true hj
  have hl:=Nat.eq_of_beq_eq_true hl
  subst hj
  have cu:=bR jc
  rw [← h.g.len] at cu
  obtain ⟨ro,bU⟩:∃ ro,nth R.obj id=some ro:=⟨R.obj[id],by rw [bf]; exact List.getElem?_eq_getElem cu⟩
  obtain ⟨ts,rfl,z1,z2,z3⟩:=h.Fh jc (nfs:=[0]) (nts:=[.bN]) rfl (fun j f t h1 h2=>by
   cases j with
   | zero=>simp only [nth] at h1 h2; cases h1; cases h2; exact rfl
   | succ j=>simp [nth] at h1) (fun j f b c hj=>by
   cases j with
   | zero=>simp only [nth] at hj; cases hj
   | succ j=>simp [nth] at hj) bU
  have key:=nb z2 gr GX hz sr f2 f3 f6 (h0.mono z3.ext) hA y0 (y1.mono z3.ext) y2 y3 (fs:=fs++[0]) (aO jc) (by rw [hl]; exact fB _ _) hb
  have e1:aF (fs++[0]) fs.length (es.length+(y :: ys).length)=fs++[es.length+(y :: ys).length]:=by
   rw [gR,List.set_append_right _ _ (Nat.le_refl _),Nat.sub_self]
   rfl
  have e2:∀ x y:GO,aF (aF s.G id x) id y=aF s.G id y:=fun x y=>by rw [gR,gR,gR,List.set_set]
  rw [e1] at key
  refine b7.step rfl z3 ?_
  have e3:((s.cg (aF s.G id (.bk (fs++[0]) esz elem))).cg (aF (s.cg (aF s.G id (.bk (fs++[0]) esz elem))).G id (.bk (fs++[es.length+(y :: ys).length]) esz elem)))=s.cg (aF s.G id (.bk (fs++[es.length+(y :: ys).length]) esz elem)):=by
   simp only [St.cg,e2]
  rw [e3] at key
  exact key
theorem nf (h:bo E R w β s a) {t u:TypeId} {x:AV} {ys:List AV} {cx cy:Value} {us:List Value}
  (gr:∀ {c:Value} {w':World},(Builtin.append_ #[t,u] o.type #[cx,cy]).run E.P w=.ok c w'→(execOp a.eval o).run E.P w=.ok (.value c) w')
  {i:TI} {elem esz eb:Nat} {ag:Bool} {z:AV} (hk:i.k=.sl elem esz ag eb (some z)) (GX:1≤eb) (hz:z.cells.length=esz) (sr:z.a6=true)
  {ie:TypeInfo} (f1:E.P.info? elem=some ie) (f2:ie.size=esz) (f3:ie.bytes=eb) (f6:gM ie=some z)
  (h0:Rel R w x cx) (hA:∀ zc:Value,ie.zero=some zc→Apd E.P w t u o.type elem ie zc cy ys.length us)
  (y0:jT esz ys) (y1:aQ R w (av ys) us) (y2:∀ v∈us,v.oneCell'=true) (y3:us.length=ys.length * esz)
  {v:AV} {G':List GO} (ha:gN s.G elem esz eb x ys=some (true,v,G')) :
  b7 E R w β s a o ((s.cg G').put o.dst (.v v)):=by
 obtain ⟨zc,rN,EF⟩:=dB f6
 have hA':=hA
 have hA:=hA zc rN
 obtain ⟨d1,d2⟩:=Rel.cells (EF R w) sr
 have ql:zc.cells.size=esz:=by rw [← hz,d1.length]; simp
 unfold gN at ha
 split at ha
 ·-- nothing is appended
  rename_i k sz es
  have YS:us=[]:=List.eq_nil_of_length_eq_zero (by simpa using y3)
  have hG:G'=s.G∧Rel R w v cx:=by
   split at ha
   ·injection ha with ha; injection ha with _ ha; injection ha with p q
    subst p; subst q
    exact ⟨rfl,h0⟩
   ·injection ha with ha; injection ha with _ ha; injection ha with p q
    subst p; subst q
    exact ⟨rfl,h0⟩
  obtain ⟨rfl,hvr⟩:=hG
  refine au (s:=s) h (c:=cx) (gr ?_) hvr
  cases h0 with
  | km=>exact hA.zero rfl _ _ _ (Nat.le_refl 0)
  | jA=>exact hA.zero rfl _ _ _ (Nat.le_refl 0)
  | nL=>exact hA.zero rfl _ _ _ (Nat.le_refl 0)
  | mV=>exact hA.zero rfl _ _ _ (Nat.le_refl 0)
  | mB=>exact hA.zero rfl _ _ _ (Nat.le_refl 0)
  | list hr hlen iG _=>exact hA.zero rfl _ _ _ iG
 ·-- something is appended
  rename_i k sz es y ys hA
  have oO:0 < (y :: ys).length:=by simp
  -- what is shown where a new block has been made
  have grown:∀ {n old:Nat} {xs:List Value} {es':List AV},(es'.length=n)→jT esz es'→aQ R w (av es') xs→(∀ v∈xs,v.oneCell'=true)→xs.length=n * esz →
    (n+(y :: ys).length) * eb≤140737488355328→n+(y :: ys).length≤maxLen→∀ (R':an) (G2:List GO) (id:Nat),
    bo E R' (w.drew.alloc (.cells (xs.toArray++us.toArray++Builtin.zeroCells zc.cells (grownCap w (n+(y :: ys).length) old elem - (n+(y :: ys).length))) elem)) β (s.cg G2) a →
    Step R w β s.boxes R' (w.drew.alloc (.cells (xs.toArray++us.toArray++Builtin.zeroCells zc.cells (grownCap w (n+(y :: ys).length) old elem - (n+(y :: ys).length))) elem)) β s.boxes →
    (∀ j,j < (n+(y :: ys).length) * esz→R'.I w.heap.size j)→nth R'.obj id=some (.tok (n+(y :: ys).length) w.heap.size (grownCap w (n+(y :: ys).length) old elem)) →
    (Builtin.append_ #[t,u] o.type #[cx,cy]).run E.P w=.ok (.slice (some ⟨w.heap.size,0,none⟩) (n+(y :: ys).length) (grownCap w (n+(y :: ys).length) old elem)) (w.drew.alloc (.cells (xs.toArray++us.toArray++Builtin.zeroCells zc.cells (grownCap w (n+(y :: ys).length) old elem - (n+(y :: ys).length))) elem)) →
    b7 E R w β s a o ((s.cg G2).put o.dst (.v (.list (.own id) esz (es'++(y :: ys))))):=by
   intro n old xs es' BC UB YX vY AK _ _ R' G2 id cR GY hI hid bK
   refine ⟨_,_,_,R',β,gr bK,.inl rfl,cR.put o.dst ?_,by rw [bc]; exact GY⟩
   have e:=GY.ext
   refine Rel.list (sL (vs:=xs++us) (mg UB y0) (by rw [da]; exact (YX.mono e).append (y1.mono e)) (jE vY y2) (fun j v hj=>?_) (fun j hj=>hI j (by rw [List.length_append,AK,y3,← Nat.add_mul] at hj; exact hj))) (by simp [BC]) (grownCap_ge w _ _ _) ⟨_,hid,Nat.le_refl _,fun _=>⟨rfl,rfl,rfl⟩⟩
   have pn:(w.drew.alloc (.cells (xs.toArray++us.toArray++Builtin.zeroCells zc.cells (grownCap w (n+(y :: ys).length) old elem - (n+(y :: ys).length))) elem)).heap[w.heap.size]?=some (.cells (xs.toArray++us.toArray++Builtin.zeroCells zc.cells (grownCap w (n+(y :: ys).length) old elem - (n+(y :: ys).length))) elem (0,0)):=heap_alloc_new w.drew _
   rw [cell_of_row _ _ j _ _ _ pn]
   have cu:=(List.getElem?_eq_some_iff.1 hj).1
   rw [← Array.getElem?_toList]
   simp only [Array.toList_append,List.append_assoc]
   rw [← List.append_assoc,List.getElem?_append_left cu]
   exact hj
  have Kg:∀ {n old:Nat} {xs:List Value},xs.length=n * esz→n+(y :: ys).length≤maxLen→(xs.toArray++us.toArray++Builtin.zeroCells zc.cells (grownCap w (n+(y :: ys).length) old elem - (n+(y :: ys).length))).size=grownCap w (n+(y :: ys).length) old elem * esz:=by
   intro n old xs AK _
   have qi:=grownCap_ge w (n+(y :: ys).length) old elem
   simp only [Array.size_append,List.size_toArray,size_zeroCells,ql,AK,y3,← Nat.add_mul]
   congr 1
   omega
  have fresh:∀ {n old:Nat} {xs:List Value} {es':List AV},(es'.length=n)→jT esz es'→aQ R w (av es') xs→(∀ v∈xs,v.oneCell'=true)→xs.length=n * esz →
    (n+(y :: ys).length) * eb≤140737488355328→n+(y :: ys).length≤maxLen →
    (Builtin.append_ #[t,u] o.type #[cx,cy]).run E.P w=.ok (.slice (some ⟨w.heap.size,0,none⟩) (n+(y :: ys).length) (grownCap w (n+(y :: ys).length) old elem)) (w.drew.alloc (.cells (xs.toArray++us.toArray++Builtin.zeroCells zc.cells (grownCap w (n+(y :: ys).length) old elem - (n+(y :: ys).length))) elem)) →
    b7 E R w β s a o ((s.cg (s.G++[.tok (n+(y :: ys).length) esz elem])).put o.dst (.v (.list (.own s.G.length) esz (es'++(y :: ys))))):=by
   intro n old xs es' BC UB YX vY AK hb hm bK
   obtain ⟨r1,r2⟩:=h.Ut (cur:=xs.toArray++us.toArray++Builtin.zeroCells zc.cells (grownCap w (n+(y :: ys).length) old elem - (n+(y :: ys).length))) (elem:=elem) (grownCap_ge w (n+(y :: ys).length) old elem) (grownCap_le_maxLen w _ old elem hm) (Kg AK hm)
   exact grown BC UB YX vY AK hb hm _ _ _ r1 r2 (fun j hj=>.inr ⟨rfl,hj⟩) (by rw [← h.g.len]; exact fB _ _) bK
  have OF:∀ {n:Nat},(n+(y :: ys).length) * eb≤140737488355328→n+(y :: ys).length≤140737488355328:=fun {n} hb=>Nat.le_trans (Nat.le_mul_of_pos_right _ GX) hb
  split at ha
  ·-- nil
   injection ha with ha; injection ha with hc ha; injection ha with p q
   subst p; subst q
   have hb:=of_decide_eq_true hc
   cases h0 with
   | list _ _ _ J3=>exact J3.elim
   | km=>
    simp only [List.length_nil] at hb
    have hm:=OF hb
    refine fresh (n:=0) (old:=0) (xs:=[]) (es':=[]) rfl (fun e he=>by simp at he) .nil (by simp) (by simp) hb (by unfold maxLen; omega) ?_
    have bK:=hA.nil oO (by omega) (by rw [f3]; rw [Nat.zero_add] at hb; omega)
    simpa using bK
  ·-- as long as its capacity
   split at ha
   ·rename_i fu
    have fu:=Nat.eq_of_beq_eq_true fu
    subst fu
    injection ha with ha; injection ha with hc ha; injection ha with p q
    subst p; subst q
    have hb:=of_decide_eq_true hc
    have hm:=OF hb
    obtain ⟨x0,xs,x1,x2,x3,x4⟩:=gC (esz:=sz) h0 (.inr rfl)
    rcases x4 with ⟨rfl,rfl,ad,rfl,hd⟩ | ⟨b,o',cap,rfl,YZ,xk,vp,_⟩
    ·rcases hd with rfl | hd
     ·cases h0
     ·cases hd
    ·have iG:cap=es.length:=xk
     subst iG
     refine fresh (n:=es.length) (old:=es.length) (xs:=xs) (es':=es) rfl x0 x1 x2 x3 hb (by unfold maxLen; omega) ?_
     exact hA.grow oO ⟨b,o',none⟩ es.length es.length xs (by rw [x3,f2]) vp (by omega) (by omega) (growslice_fits (by omega) (by rw [f3]; exact hb))
   ·cases ha
  ·-- of a token
   rename_i id
   split at ha
   ·rename_i f bQ e' jc
    split at ha
    ·rename_i cN
     simp only [Bool.and_eq_true] at cN
     obtain ⟨⟨q1,q2⟩,q3⟩:=cN
     have q1:=Nat.eq_of_beq_eq_true q1
     have q2:=Nat.eq_of_beq_eq_true q2
     have q3:=Nat.eq_of_beq_eq_true q3
     subst q1; subst q2; subst q3
     injection ha with ha; injection ha with hc ha; injection ha with p q
     subst p; subst q
     simp only [Bool.and_eq_true] at hc
     have wJ:=of_decide_eq_true hc.1
     have hb:=of_decide_eq_true hc.2
     subst wJ
     have hm:=OF hb
     obtain ⟨x0,xs,x1,x2,x3,x4⟩:=gC (esz:=sz) h0 (.inr rfl)
     rcases x4 with ⟨rfl,rfl,ad,rfl,hd⟩ | ⟨b,o',cap,rfl,YZ,xk,vp,xE⟩
     ·obtain rfl:ad=none:=by
       rcases hd with hd | hd
       ·exact hd
       ·cases hd
      cases h0 with
      | @mV _ _ ro bU hon=>
      have cR:=h.g.obj id _ _ jc bU
      cases ro with
      | none=>exact cR.elim
      | b9 _=>exact cR.elim
      | tok f' g c=>
       obtain ⟨rfl,_⟩:=cR
       simp [nK] at hon
      | bk _=>exact cR.elim
      | bN=>
       simp only [List.length_nil] at hb
       have bK:=hA.nil oO (by omega) (by rw [f3]; rw [Nat.zero_add] at hb; omega)
       have fu:=Kg (n:=0) (old:=0) (xs:=[]) (by simp) (by unfold maxLen; omega)
       obtain ⟨r1,r2⟩:=h.Kc (cur:=[].toArray++us.toArray++Builtin.zeroCells zc.cells (grownCap w (0+(y :: ys).length) 0 e' - (0+(y :: ys).length))) (elem:=e') (n:=0+(y :: ys).length) (cap:=grownCap w (0+(y :: ys).length) 0 e') jc bU (fun b c=>by simp only [cJ]; omega) (grownCap_ge w _ _ _) (grownCap_le_maxLen w _ _ _ (by unfold maxLen; omega)) fu
       exact grown (n:=0) (es':=[]) rfl (fun e he=>by simp at he) .nil (by simp) (by simp) hb (by unfold maxLen; omega) _ _ _ r1 r2 (fun j hj=>.inr ⟨rfl,hj⟩) (aO bU) (by simpa using bK)
     ·obtain ⟨ro,bU,vo⟩:=xk
      have cR:=h.g.obj id _ _ jc bU
      cases ro with
      | none=>exact cR.elim
      | bN=>exact vo.elim
      | b9 _=>exact cR.elim
      | bk _=>exact cR.elim
      | tok f' g c=>
       obtain ⟨rfl,cur,jt,k1,k3,k4,k5⟩:=cR
       obtain ⟨rfl,rfl,rfl⟩:=vo.2 rfl
       by_cases ik:es.length+(y :: ys).length≤cap
       ·have hle:(es.length+(y :: ys).length) * sz≤cap * sz:=Nat.mul_le_mul_right _ ik
        have bK:=hA.room oO b es.length cap cur jt ik (by rw [f2,y3,← Nat.add_mul,k4]; exact hle)
        rw [f2] at bK
        obtain ⟨r0,r1,r2⟩:=h.Oz (news:=us) (n:=es.length+(y :: ys).length) jc bU (by omega) ik jt k4 k3 (by rw [y3,← Nat.add_mul])
        refine ⟨_,_,_,_,β,gr bK,.inl rfl,r1.put o.dst ?_,by rw [bc]; exact r2⟩
        have pn:=setRow_heap w b cur (cur.toList.take (es.length * sz)++us++cur.toList.drop (es.length * sz+us.length)).toArray e' (0,0) jt
        have OD:cur.toList.take (es.length * sz)=xs:=by
         have OE:xs.length=es.length * sz:=x3
         apply List.ext_getElem?
         intro j
         rw [List.getElem?_take]
         split
         ·rename_i hj
          have N6:j < xs.length:=by omega
          have uc:=vp j xs[j] (List.getElem?_eq_getElem N6)
          rw [cL,Nat.zero_add,cell_of_row w b j cur e' (0,0) jt] at uc
          rw [Array.getElem?_toList,uc,List.getElem?_eq_getElem N6]
         ·rw [List.getElem?_eq_none (by omega)]
        refine Rel.list (sL (vs:=xs++us) (mg x0 y0) (by rw [da]; exact (x1.mono r0).append (y1.mono r0)) (jE x2 y2) (fun j v hj=>?_) (fun j hj=>.inr ⟨rfl,by rw [List.length_append,x3,y3,← Nat.add_mul] at hj; exact hj⟩)) (by simp) ik ⟨_,aO bU,Nat.le_refl _,fun _=>⟨rfl,rfl,rfl⟩⟩
        rw [cell_of_row _ _ j _ _ _ pn,OD]
        simp only [List.getElem?_toArray]
        rw [List.getElem?_append_left (List.getElem?_eq_some_iff.1 hj).1]
        exact hj
       ·have bK:=hA.grow oO ⟨b,0,none⟩ es.length cap xs (by rw [x3,f2]) vp (by omega) (by omega) (growslice_fits (by omega) (by rw [f3]; exact hb))
        obtain ⟨r1,r2⟩:=h.Kc (cur:=xs.toArray++us.toArray++Builtin.zeroCells zc.cells (grownCap w (es.length+(y :: ys).length) cap e' - (es.length+(y :: ys).length))) (elem:=e') (n:=es.length+(y :: ys).length) (cap:=grownCap w (es.length+(y :: ys).length) cap e') jc bU (fun b c=>⟨by omega,fun e=>by omega⟩) (grownCap_ge w _ _ _) (grownCap_le_maxLen w _ _ _ (by unfold maxLen; omega)) (Kg x3 (by unfold maxLen; omega))
        exact grown rfl x0 x1 x2 x3 hb (by unfold maxLen; omega) _ _ _ r1 r2 (fun j hj=>.inr ⟨rfl,hj⟩) (aO bU) bK
    ·cases ha
   ·cases ha
  ·-- of a member of a family
   rename_i id j
   split at ha
   ·rename_i fs bQ e' jc
    split at ha
    ·rename_i cN
     simp only [Bool.and_eq_true] at cN
     obtain ⟨⟨q1,q2⟩,q3⟩:=cN
     have q1:=Nat.eq_of_beq_eq_true q1
     have q2:=Nat.eq_of_beq_eq_true q2
     have q3:=Nat.eq_of_beq_eq_true q3
     subst q1; subst q2; subst q3
     injection ha with ha; injection ha with hc ha; injection ha with p q
     subst p; subst q
     simp only [Bool.and_eq_true,decide_eq_true_eq] at hc
     exact wh h gr GX hz sr f2 f3 f6 h0 (fun zc' UC=>hA' zc' UC) y0 y1 y2 y3 jc hc.1 hc.2
    ·cases ha
   ·cases ha
  ·cases ha
 ·-- a slice that grows, and nothing
  injection ha with ha; injection ha with _ ha; injection ha with p q
  subst p; subst q
  refine au (s:=s) h (c:=cx) (gr ?_) h0
  cases h0 with
  | js=>exact hA.zero rfl _ _ _ (Nat.le_refl 0)
  | dD _ _ iG=>exact hA.zero rfl _ _ _ iG
 ·-- a slice that grows
  rename_i id f' off sz len y ys hA
  split at ha
  ·rename_i es bQ e' jc
   split at ha
   ·rename_i cN
    simp only [Bool.and_eq_true] at cN
    obtain ⟨⟨q1,q2⟩,q3⟩:=cN
    have q1:=Nat.eq_of_beq_eq_true q1
    have q2:=Nat.eq_of_beq_eq_true q2
    have q3:=Nat.eq_of_beq_eq_true q3
    subst q1; subst q2; subst q3
    injection ha with ha; injection ha with hc ha; injection ha with p q
    subst p; subst q
    simp only [Bool.and_eq_true,decide_eq_true_eq] at hc
    exact oI h gr GX hz sr f2 f3 f6 h0 (fun zc' UC=>hA' zc' UC) y0.g y1 y2 y3 jc hc.1.1.1 hc.1.1.2 hc.1.2 hc.2
   ·cases ha
  ·cases ha
 ·cases ha
theorem CV (h:bo E R w β s a) {args:Array Operand} {t:TypeId} (ho:o.op=.call { callee:=.builtin .append,args:=args,argTypes:=#[t,t] }) {x:AV} {k2:LK} {nJ:Nat} {ys:List AV}
  (hl:mP E s.ae args.toList=some [x,.list k2 nJ ys]) {i:TI} (hi:E.ti t=some i) {elem esz eb:Nat} {ag:Bool} {z:AV} (hk:i.k=.sl elem esz ag eb (some z)) (Ip:ys=[]∨nJ=esz) (ahi:1≤esz) (GX:1≤eb) (hz:z.cells.length=esz) (sr:z.a6=true)
  {v:AV} {G':List GO} (ha:gN s.G elem esz eb x ys=some (true,v,G')) :
  b7 E R w β s a o ((s.cg G').put o.dst (.v v)):=by
 have hr:=gT h hl
 generalize hv:args.toList.map a.eval=vs at hr
 have hx:=fg (E:=E) (w:=w) ho vs hv
 cases hr with
 | @cons _ cx _ _ h0 h1=>
 cases h1 with
 | @cons _ cy _ _ h1 h2=>
 cases h2
 obtain ⟨ig,u,e1,e2,e3,e4,e5,e6⟩:=cn E hi
 have AF:=hk
 rw [hk] at e5
 obtain ⟨ie,ue,rfl,f1,f2,f3,f4,f5,f6⟩:=eF e5
 have rm:(⟨[cx,cy]⟩:Array Value)=#[cx,cy]:=rfl
 obtain ⟨y0,us,y1,y2,y3,y4⟩:=gC (esz:=esz) h1 Ip
 refine nf h (cx:=cx) (cy:=cy) (t:=t) (u:=t) (fun hh=>?_) AF GX hz sr f1 f2 f3 f6 h0 (fun zc rN=>?_) y0 y1 y2 y3 ha
 ·rw [hx]
  simp only [builtin,rm,Sem.run_bind,hh,Result.andThen_ok,Sem.run_pure]
 ·rcases y4 with ⟨rfl,rfl,ad,rfl,_⟩ | ⟨YN,oy,Fi,rfl,acK,_,xN,yE⟩
  ·refine ⟨fun _ base len cap GN=>?_,fun hh=>absurd hh (by simp),fun hh=>absurd hh (by simp),fun hh=>absurd hh (by simp)⟩
   cases ad <;> simp [Builtin.append_,run_underlying e2,run_sizeOf w f1,Builtin.lenOf,Builtin.firstCells,GN,storeCells,loadCells,loadCellsFrom] <;>
    cases base <;> simp [storeCells]
  ·refine ⟨fun hn base len cap GN=>?_,fun hh Kh Ki=>run_append_nil (P:=E.P) w t o.type elem ie zc e2 f1 rN _ _ Fi us (by rw [y3,f2]) xN hh Kh Ki,fun _ b sLen mF BM CW Oa hg Kh Ki=>run_append_grow (P:=E.P) w t o.type elem ie zc e2 f1 rN b sLen mF BM CW Oa _ _ Fi us (by rw [y3,f2]) xN hg Kh Ki,fun _ g sLen mF cur hg ik sM=>run_append_room (P:=E.P) w t o.type elem ie e2 f1 g sLen mF cur hg _ _ Fi us (by rw [y3,f2]) xN y2 ik sM⟩
   rw [hn]
   simp [Builtin.append_,run_underlying e2,run_sizeOf w f1,Builtin.lenOf,Builtin.firstCells,GN,storeCells,loadCells,loadCellsFrom]
   cases base <;> simp [storeCells]
theorem xO:∀ (bs:List UInt8),aQ R w (av (bs.map sA)) (Lib.strCells ⟨⟨bs⟩⟩)
 | []=>.nil
 | b :: bs=>.cons (Rel.int .u8 b.toNat) (xO bs)
theorem wj (h:bo E R w β s a) {args:Array Operand} {t u:TypeId} (ho:o.op=.call { callee:=.builtin .append,args:=args,argTypes:=#[t,u] }) {x:AV} {bs:List UInt8}
  (hl:mP E s.ae args.toList=some [x,.str bs]) {i j:TI} (hi:E.ti t=some i) (hj:E.ti u=some j) {elem eb:Nat} {ag:Bool} {z:AV} (hk:i.k=.sl elem 1 ag eb (some z)) (X2:j.k=.str) (GX:1≤eb) (hz:z.cells.length=1) (sr:z.a6=true)
  {v:AV} {G':List GO} (ha:gN s.G elem 1 eb x (bs.map sA)=some (true,v,G')) :
  b7 E R w β s a o ((s.cg G').put o.dst (.v v)):=by
 have hr:=gT h hl
 generalize hv:args.toList.map a.eval=vs at hr
 have hx:=fg (E:=E) (w:=w) ho vs hv
 cases hr with
 | @cons _ cx _ _ h0 h1=>
 cases h1 with
 | @cons _ cy _ _ h1 h2=>
 cases h2
 obtain ⟨ig,ud,e1,e2,e3,e4,e5,e6⟩:=cn E hi
 obtain ⟨Y1,ud',g1,g2,g3,g4,g5,g6⟩:=cn E hj
 rw [X2] at g5
 have:=k9 g5
 subst this
 have AF:=hk
 rw [hk] at e5
 obtain ⟨ie,ue,rfl,f1,f2,f3,f4,f5,f6⟩:=eF e5
 cases h1
 have fu:(⟨⟨bs⟩⟩:ByteArray).size=bs.length:=rfl
 have hlen:(bs.map sA).length=bs.length:=List.length_map _
 have rm:(⟨[cx,.string ⟨⟨bs⟩⟩]⟩:Array Value)=#[cx,.string ⟨⟨bs⟩⟩]:=rfl
 have jF:(Lib.strCells ⟨⟨bs⟩⟩).length=bs.length:=Lib.strCells_length _
 refine nf h (cx:=cx) (cy:=.string ⟨⟨bs⟩⟩) (us:=Lib.strCells ⟨⟨bs⟩⟩) (t:=t) (u:=u) (fun hh=>?_) AF GX hz sr f1 f2 f3 f6 h0 (fun zc rN=>?_) ?_ (xO bs) (Lib.strCells_oneCell _) (by rw [jF,hlen,Nat.mul_one]) ha
 ·rw [hx]
  simp only [builtin,rm,Sem.run_bind,hh,Result.andThen_ok,Sem.run_pure]
 ·rw [hlen]
  refine ⟨fun hn base len cap GN=>?_,fun hh Kh Ki=>?_,fun _ b sLen mF BM CW Oa hg Kh Ki=>Lib.run_append_grow_string (P:=E.P) w t u o.type elem ie zc e2 g2 f1 rN b sLen mF BM CW Oa ⟨⟨bs⟩⟩ hg Kh Ki,fun _ g sLen mF cur hg ik sM=>?_⟩
  ·have hb:bs=[]:=List.eq_nil_of_length_eq_zero hn
   subst hb
   have hz0:(⟨⟨[]⟩⟩:ByteArray).size=0:=rfl
   simp [hz0,Builtin.append_,run_underlying e2,run_underlying g2,run_sizeOf w f1,Builtin.lenOf,Builtin.firstCells,GN,storeCells]
   cases base <;> simp [storeCells]
  ·rw [run_append_nil_string (P:=E.P) w t u o.type elem ie zc e2 g2 f1 rN ⟨⟨bs⟩⟩ hh Kh Ki]
   simp [Lib.strCells,fu]
  ·have:=Lib.run_append_room_string (P:=E.P) w t u o.type elem ie e2 g2 f1 f2 g sLen mF cur hg ⟨⟨bs⟩⟩ ik (by rw [f2,Nat.mul_one,jF] at sM; exact sM)
   rw [this,f2,Nat.mul_one,jF]
   rfl
 ·intro e he
  obtain ⟨b,_,rfl⟩:=List.mem_map.1 he
  exact ⟨rfl,rfl,rfl⟩
end ops
end Go.Am
