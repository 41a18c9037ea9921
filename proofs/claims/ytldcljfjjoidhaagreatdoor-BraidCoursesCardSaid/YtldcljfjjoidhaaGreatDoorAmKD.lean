/- The abstract machine: what it does is what the model does: slices that grow and are written. -/
import Derived.Test.YtldcljfjjoidhaaGreatDoorAmKC
import Derived.Lib.AppendStr
set_option linter.all false
namespace Go.Am
open Go
section lists
theorem rn {α:Type} (c us:List α) (n p sz off:Nat) (hn:n≤c.length) (hp:p+sz≤n) (ho:off+us.length≤sz) :
  (c.take (p+off)++us++c.drop (p+off+us.length)).take n =
   (c.take n).take p++((((c.take n).drop p).take sz).take off++us++(((c.take n).drop p).take sz).drop (off+us.length))++(c.take n).drop (p+sz):=by
 apply List.ext_getElem?
 intro j
 simp only [List.getElem?_append,List.getElem?_take,List.getElem?_drop,List.length_append,List.length_take,List.length_drop]
 by_cases h1:j < p
 ·rw [if_pos (by omega),if_pos (by omega),if_pos (by omega),if_pos (by omega),if_pos (by omega),if_pos (by omega),if_pos (by omega),if_pos (by omega)]
 ·by_cases h2:j < p+off
  ·rw [if_pos (by omega),if_pos (by omega),if_pos (by omega),if_pos (by omega),if_pos (by omega),if_neg (by omega),if_pos (by omega),if_pos (by omega),if_pos (by omega),if_pos (by omega),if_pos (by omega)]
   congr 1; omega
  ·by_cases h3:j < p+off+us.length
   ·rw [if_pos (by omega),if_pos (by omega),if_neg (by omega),if_pos (by omega),if_neg (by omega),if_pos (by omega),if_neg (by omega)]
    congr 1; omega
   ·by_cases h4:j < p+sz
    ·rw [if_pos (by omega),if_neg (by omega),if_pos (by omega),if_neg (by omega),if_neg (by omega),if_pos (by omega),if_pos (by omega)]
     congr 1; omega
    ·by_cases h5:j < n
     ·rw [if_pos (by omega),if_neg (by omega),if_neg (by omega),if_pos (by omega)]
      congr 1; omega
     ·rw [if_neg (by omega),if_neg (by omega),if_neg (by omega)]
theorem mm {sz:Nat}:∀ {es:List AV} {i:Nat} {e:AV},cC sz es→nth es i=some e→((an es).drop (i * sz)).take sz=e.cells
 | [],_,_,_,h=>by simp [nth] at h
 | x :: es,0,e,h,hi=>by
  simp only [nth] at hi
  cases hi
  have h1:=(h x (by simp)).1
  rw [Nat.zero_mul,List.drop_zero]
  simp only [an]
  rw [← h1,List.take_left]
 | x :: es,i+1,e,h,hi=>by
  have h1:=(h x (by simp)).1
  have ih:=mm (i:=i) (fun y hy=>h y (by simp [hy])) (show nth es i=some e from hi)
  simp only [an]
  rw [show (i+1) * sz=x.cells.length+i * sz by rw [h1,Nat.succ_mul]; omega,List.drop_append,List.drop_of_length_le (by omega),List.nil_append,Nat.add_sub_cancel_left]
  exact ih
theorem ni {sz:Nat} {l r:List AV} (h:cC sz l) (k:cC sz r):cC sz (l++r):=fun e he=>by
 rcases List.mem_append.1 he with he | he
 ·exact h e he
 ·exact k e he
theorem tT {sz:Nat} {l:List AV} (n:Nat) (h:cC sz l):cC sz (l.take n):=fun e he=>h e (List.mem_of_mem_take he)
theorem A8 {sz:Nat} {l:List AV} (n:Nat) (h:cC sz l):cC sz (l.drop n):=fun e he=>h e (List.mem_of_mem_drop he)
theorem fN {sz:Nat}:∀ {es:List AV} (i:Nat),cC sz es→an (es.take i)=(an es).take (i * sz)
 | [],i,_=>by simp [an]
 | e :: es,0,_=>by simp [an]
 | e :: es,i+1,h=>by
  have h1:=(h e (by simp)).1
  simp only [List.take_succ_cons,an]
  rw [fN i (fun y hy=>h y (by simp [hy])),show (i+1) * sz=e.cells.length+i * sz by rw [h1,Nat.succ_mul]; omega,List.take_append,Nat.add_sub_cancel_left,List.take_of_length_le (by omega:e.cells.length≤e.cells.length+i * sz)]
theorem kz {sz:Nat}:∀ {es:List AV} (i:Nat),cC sz es→an (es.drop i)=(an es).drop (i * sz)
 | [],i,_=>by simp [an]
 | e :: es,0,_=>by simp [an]
 | e :: es,i+1,h=>by
  have h1:=(h e (by simp)).1
  simp only [List.drop_succ_cons,an]
  rw [kz i (fun y hy=>h y (by simp [hy])),show (i+1) * sz=e.cells.length+i * sz by rw [h1,Nat.succ_mul]; omega,List.drop_append,List.drop_of_length_le (by omega:e.cells.length≤e.cells.length+i * sz),List.nil_append,Nat.add_sub_cancel_left]
theorem b9 {sz:Nat} {es:List AV} (h:cC sz es):(an es).length=es.length * sz:=by
 induction es with
 | nil=>simp [an]
 | cons e es ih=>
  have h1:=(h e (by simp)).1
  have:=ih (fun x hx=>h x (by simp [hx]))
  simp only [an,List.length_append,this,h1,List.length_cons,Nat.add_mul]
  omega
theorem yp {sz:Nat} {es:List AV} {i:Nat} {v:AV} (h:cC sz es) (h1:v.cells.length=sz) (h2:v.aG=true):cC sz (aw es i v):=fun e he=>by
 rw [eI] at he
 rcases List.mem_or_eq_of_mem_set he with he | rfl
 ·exact h e he
 ·exact ⟨h1,h2⟩
theorem vW {sz:Nat} {es:List AV} {i:Nat} {v:AV} (h:cC sz es) (hi:i < es.length) (hv:v.cells.length=sz):an (aw es i v)=bt (an es) (i * sz) v.cells:=by
 have yq:i * sz+sz≤es.length * sz:=by
  rw [← Nat.succ_mul]
  exact Nat.mul_le_mul_right _ hi
 rw [eI,List.set_eq_take_append_cons_drop,if_pos hi,cW _ _ _ (by rw [hv,b9 h]; exact yq),bP,fN i h,hv]
 simp only [an]
 rw [kz (i+1) h,Nat.succ_mul,List.append_assoc]
end lists
section ops
variable {E:Env} {R:ah} {w:World} {β:Nat→Nat} {s:St} {a:Act} {o:Oper}
theorem lj {G:List GO} (h:cu E R w G) {id:Nat} {es:List AV} {sz:Nat} {el:TypeId} {ro:RO} (hid:nth G id=some (.dw es sz el)) (bj:nth R.obj id=some ro) (hn:ro≠.aZ) :
  ∃ b c cur vs,ro=.tok es.length b c∧cC sz es∧w.heap[b]?=some (.cells cur el (0,0))∧es.length≤c∧c≤maxLen∧cur.size=c * sz∧(∀ o,¬ R.I b o)∧aA R w (an es) vs∧(∀ v∈vs,v.oneCell'=true)∧cur.toList.take (es.length * sz)=vs:=by
 have hr:=h.obj id _ _ hid bj
 cases ro with
 | none=>exact hr.elim
 | aZ=>exact absurd rfl hn
 | bn b=>exact hr.elim
 | aM _=>exact hr.elim
 | tok f b c=>
  obtain ⟨rfl,h1,cur,vs,h2,h3,h4,h5,h6,h7,h8,h9⟩:=hr
  exact ⟨b,c,cur,vs,rfl,h1,h2,h3,h4,h5,h6,h7,h8,h9⟩
theorem rq {id f i sz:Nat} {t:TypeId} {v:AV} (h:qM E s id f i sz t=some (true,v)) :
  ∃ es el e,nth s.G id=some (.dw es sz el)∧f=es.length∧nth es i=some e∧fw e v:=by
 unfold qM at h
 split at h
 ·rename_i es a8 el hid
  split at h
  ·rename_i p hp
   split at h
   ·rename_i cZ
    have cZ:=Nat.eq_of_beq_eq_true cZ
    subst cZ
    injection h with h
    injection h with h1 h2
    simp only [Bool.and_eq_true,decide_eq_true_eq] at h1
    obtain ⟨⟨h3,h4⟩,h5⟩:=h1
    obtain ⟨e,he⟩:∃ e,nth es i=some e:=⟨es[i],by rw [aJ]; exact List.getElem?_eq_getElem h4⟩
    have hd:bM es i=e:=by simp [bM,he]
    rw [hd] at h5 h2
    rw [← h2]
    exact ⟨es,el,e,hid,h3,he,p.bQ h5⟩
   ·cases h
  ·split at h
   ·rename_i cZ
    have cZ:=Nat.eq_of_beq_eq_true cZ
    subst cZ
    injection h with h
    injection h with h1 h2
    simp only [Bool.and_eq_true,decide_eq_true_eq] at h1
    obtain ⟨h3,h4⟩:=h1
    obtain ⟨e,he⟩:∃ e,nth es i=some e:=⟨es[i],by rw [aJ]; exact List.getElem?_eq_getElem h4⟩
    have hd:bM es i=e:=by simp [bM,he]
    rw [hd] at h2
    rw [← h2]
    exact ⟨es,el,e,hid,h3,he,fw.refl e⟩
   ·cases h
 ·cases h
theorem z8 {α:Type} {l:List α} {i:Nat} {x:α} (h:nth l i=some x):x∈l:=by
 rw [aJ] at h
 exact List.mem_of_getElem? h
theorem yt {i n sz:Nat} (h:i < n):i * sz+sz≤n * sz:=by
 rw [← Nat.succ_mul]
 exact Nat.mul_le_mul_right _ h
theorem yu (h:aP E R w β s a) (t:TypeId) (x:Operand) (ho:o.op=.load t x) {v:AV} (hl:tH E s t (aY E s.ae x)=some (true,v)) :
  bk E R w β s a o (s.put o.dst (.v v)):=by
 have rx:=aE h x
 unfold tH at hl
 split at hl
 ·rename_i id f i off sz ty hx
  rw [hx] at rx
  split at hl
  ·rename_i ti c ve JA hg
   split at hl
   ·rename_i l hs
    split at hl
    ·rename_i r hm
     injection hl with hl
     injection hl with h1 h2
     subst h1; subst h2
     obtain ⟨es,el,e,hid,JE,he,A9⟩:=rq hg
     have cD:Rel R w (.gp id f i off sz ty) (a.eval x):=rx
     generalize dx:a.eval x=xv at cD
     cases cD with
     | @gp _ _ _ _ _ b o' _ ro bj da=>
     obtain ⟨b',c',cur,vs,rfl,g1,g2,g3,g4,g5,g6,g7,g8,g9⟩:=lj h.g hid bj (fun k=>by subst k; exact da)
     obtain ⟨rfl,rfl⟩:=da.2 JE
     have Pg:=g1 e (z8 he)
     have dp:aA R w e.cells ((vs.drop (i * sz)).take sz):=by
      rw [← mm g1 he]
      exact (g7.drop _).take _
     have hw:=(A9.cells Pg.2).rel dp
     obtain ⟨k1,k2,k3,k4⟩:=li hs hw (fun y hy=>g8 y (List.mem_of_mem_drop (List.mem_of_mem_take hy)))
     obtain ⟨c,hc,Si⟩:=kr (E:=E) JA (b:=b) (off:=i * sz+off) k1 k2 k3 (fun j y hy=>by
      have h1:=k4 j y hy
      rw [List.getElem?_take] at h1
      split at h1
      ·rw [List.getElem?_drop,← g9,List.getElem?_take] at h1
       split at h1
       ·rw [cell_of_row w b _ cur el (0,0) g2,Nat.add_assoc,← Array.getElem?_toList]
        exact h1
       ·cases h1
      ·cases h1) hm
     refine ak h (c:=c) ?_ Si
     simp [execOp,ho,Instr.loadAt,dx,Instr.sureAddr,hc]
    ·cases hl
   ·cases hl
  ·cases hl
 ·split at hl
  ·rename_i v' hv
   injection hl with hl
   injection hl with h1 h2
   subst h2
   exact A3 h t x ho hv
  ·cases hl
theorem aP.Cs (h:aP E R w β s a) {id f b c:Nat} {es es':List AV} {sz:Nat} {el:TypeId} {cur vV:Array Value} {vs':List Value} (hid:nth s.G id=some (.dw es sz el)) (bj:nth R.obj id=some (.tok f b c))
  (hb:w.heap[b]?=some (.cells cur el (0,0))) (hlen:es'.length=es.length) (mO:cC sz es') (cZ:vV.size=cur.size) (hr:aA R w (an es') vs') (h1:∀ v∈vs',v.oneCell'=true) (ht:vV.toList.take (f * sz)=vs') :
  aP E R (w.setRow b vV) β (s.bp (aw s.G id (.dw es' sz el))) a∧Step R w β s.boxes R (w.setRow b vV) β s.boxes:=by
 obtain ⟨q0,q1,Mz,Sj,p1,p2,p3,p4,p5,p6,p7,p8⟩:=h.g.obj id _ _ hid bj
 rw [hb] at p1
 cases p1
 have hex:=gP (R:=R) (w:=w) p5 vV
 have yw:∀ k cs,cz s.boxes k=some cs→β k≠b:=fun k cs hk e=>(h.b.box k cs hk).2.2 ⟨id,_,bj,by rw [e]; rfl⟩
 refine ⟨⟨⟨by simp [St.bp,h.g.len],fun fU go ro hg iW=>?_,h.g.inj,fun b' o' oq=>by have:=h.g.wf b' o' oq; simp; omega,fun g cs' hg=>(h.g.bY g cs' hg).mono hex,h.g.lo⟩,?_,h.t.mono hex,h.n,h.d⟩,?_⟩
 ·rcases ca hg with ⟨rfl,rfl,_⟩ | ⟨bT,mi⟩
  ·rw [bj] at iW
   cases iW
   exact ⟨by rw [hlen]; exact q0,mO,vV,vs',setRow_heap w _ _ _ _ (0,0) hb,p2,p3,by rw [cZ]; exact p4,p5,hr.mono hex,h1,ht⟩
  ·refine (h.g.obj fU go ro mi iW).mono hex (fun b' iU=>setRow_other w _ b' _ (fun e=>bT ?_)) (fun _ _ _ hi=>hi)
   subst e
   exact h.g.inj id fU _ _ b' bj iW rfl iU
 ·exact h.b.bA hex (fun k cs' ga=>setRow_other w _ _ _ (yw k cs' ga)) (fun _ _ _ _ hi=>hi) (fun _ _ _ hl=>hl)
 ·have uF:Own R β s.boxes b:=.inl ⟨id,_,bj,rfl⟩
  exact ⟨hex,rfl,rfl,rfl,by simp,fun b' _ hn=>setRow_other w _ b' _ (fun e=>hn (e ▸ uF)),fun _ _ hb=>hb,fun b o hi _ _=>hi⟩
theorem aP.Aa (h:aP E R w β s a) {id b c i off:Nat} {es:List AV} {sz:Nat} {el:TypeId} {cur:Array Value} {vs us:List Value} {e':AV} (hid:nth s.G id=some (.dw es sz el)) (bj:nth R.obj id=some (.tok es.length b c))
  (hb:w.heap[b]?=some (.cells cur el (0,0))) (mO:cC sz es) (hle:es.length≤c) (mP:cur.size=c * sz) (hr:aA R w (an es) vs) (h1:∀ v∈vs,v.oneCell'=true) (ht:cur.toList.take (es.length * sz)=vs) (hi:i < es.length)
  (h2:∀ v∈us,v.oneCell'=true) (uN:off+us.length≤sz) (pV:e'.cells.length=sz) (MA:e'.aG=true) (MB:aA R w e'.cells (((vs.drop (i * sz)).take sz).take off++us++((vs.drop (i * sz)).take sz).drop (off+us.length))) :
  aP E R (w.setRow b ⟨cur.toList.take (i * sz+off)++us++cur.toList.drop (i * sz+off+us.length)⟩) β (s.bp (aw s.G id (.dw (aw es i e') sz el))) a ∧
   Step R w β s.boxes R (w.setRow b ⟨cur.toList.take (i * sz+off)++us++cur.toList.drop (i * sz+off+us.length)⟩) β s.boxes:=by
 have yq:=yt (sz:=sz) hi
 have E0:es.length * sz≤cur.toList.length:=by
  rw [show cur.toList.length=cur.size from Array.length_toList,mP]
  exact Nat.mul_le_mul_right _ hle
 have Ix:vs.length=es.length * sz:=by rw [← hr.length,b9 mO]
 refine h.Cs hid bj hb (eT _ _ _) (yp mO pV MA) ?_ (vs':=vs.take (i * sz)++(((vs.drop (i * sz)).take sz).take off++us++((vs.drop (i * sz)).take sz).drop (off+us.length))++vs.drop (i * sz+sz)) ?_ ?_ ?_
 ·rw [List.size_toArray,← Array.length_toList]
  simp only [List.length_append,List.length_take,List.length_drop]
  omega
 ·rw [vW mO hi pV,cW _ _ _ (by rw [pV,b9 mO]; exact yq),pV]
  exact ((hr.take _).append MB).append (hr.drop _)
 ·intro v hv
  simp only [List.mem_append] at hv
  rcases hv with (hv | ((hv | hv) | hv)) | hv
  ·exact h1 v (List.mem_of_mem_take hv)
  ·exact h1 v (List.mem_of_mem_drop (List.mem_of_mem_take (List.mem_of_mem_take hv)))
  ·exact h2 v hv
  ·exact h1 v (List.mem_of_mem_drop (List.mem_of_mem_take (List.mem_of_mem_drop hv)))
  ·exact h1 v (List.mem_of_mem_drop hv)
 ·rw [List.toList_toArray,rn _ _ _ _ _ _ E0 yq uN,ht]
theorem aP.Ab (h:aP E R w β s a) {id b c off:Nat} {es ns:List AV} {sz:Nat} {el:TypeId} {cur:Array Value} {vs us:List Value} (hid:nth s.G id=some (.dw es sz el)) (bj:nth R.obj id=some (.tok es.length b c))
  (hb:w.heap[b]?=some (.cells cur el (0,0))) (mO:cC sz es) (hle:es.length≤c) (mP:cur.size=c * sz) (hr:aA R w (an es) vs) (h1:∀ v∈vs,v.oneCell'=true) (ht:cur.toList.take (es.length * sz)=vs)
  (uN:off+ns.length≤es.length) (Rh:cC sz ns) (hu:aA R w (an ns) us) (h2:∀ v∈us,v.oneCell'=true) :
  aP E R (w.setRow b ⟨cur.toList.take (off * sz)++us++cur.toList.drop (off * sz+us.length)⟩) β (s.bp (aw s.G id (.dw (bt es off ns) sz el))) a ∧
   Step R w β s.boxes R (w.setRow b ⟨cur.toList.take (off * sz)++us++cur.toList.drop (off * sz+us.length)⟩) β s.boxes:=by
 have JF:us.length=ns.length * sz:=by rw [← hu.length,b9 Rh]
 have yq:off * sz+ns.length * sz≤es.length * sz:=by rw [← Nat.add_mul]; exact Nat.mul_le_mul_right _ uN
 have E0:es.length * sz≤cur.toList.length:=by
  rw [show cur.toList.length=cur.size from Array.length_toList,mP]
  exact Nat.mul_le_mul_right _ hle
 have Ix:vs.length=es.length * sz:=by rw [← hr.length,b9 mO]
 have hm:=rn cur.toList us (es.length * sz) (off * sz) (ns.length * sz) 0 E0 yq (by omega)
 simp only [Nat.add_zero,List.take_zero,List.nil_append,Nat.zero_add] at hm
 rw [JF,ht,show List.drop (ns.length * sz) (List.take (ns.length * sz) (List.drop (off * sz) vs))=[] from List.drop_of_length_le (by rw [List.length_take]; exact Nat.min_le_left _ _),List.append_nil] at hm
 rw [cW _ _ _ uN]
 refine h.Cs hid bj hb (by simp; omega) (ni (ni (tT _ mO) Rh) (A8 _ mO)) ?_ (vs':=vs.take (off * sz)++us++vs.drop (off * sz+ns.length * sz)) ?_ ?_ ?_
 ·rw [List.size_toArray,← Array.length_toList]
  simp only [List.length_append,List.length_take,List.length_drop,JF]
  omega
 ·rw [bP,bP,fN _ mO,kz _ mO,Nat.add_mul]
  exact ((hr.take _).append hu).append (hr.drop _)
 ·intro v hv
  simp only [List.mem_append] at hv
  rcases hv with (hv | hv) | hv
  ·exact h1 v (List.mem_of_mem_take hv)
  ·exact h2 v hv
  ·exact h1 v (List.mem_of_mem_drop hv)
 ·rw [List.toList_toArray,JF]
  exact hm
theorem vX (h:aP E R w β s a) (t:TypeId) (p x:Operand) (ho:o.op=.store t p x) (hd:o.dst=none) {s':St} (hs:fX E s t (aY E s.ae p) (aY E s.ae x)=some (true,s')) :
  bk E R w β s a o s':=by
 have rp:=aE h p
 have rx:=aE h x
 unfold fX at hs
 split at hs
 ·rename_i id f i off sz ty Mi
  rw [Mi] at rp
  have Mk:Rel R w (.gp id f i off sz ty) (a.eval p):=rp
  generalize Ml:a.eval p=pv at Mk
  split at hs
  ·rename_i ti v es a8 el JA hx hid
   rw [hx] at rx
   split at hs
   ·rename_i dD
    simp only [Bool.and_eq_true] at dD
    obtain ⟨⟨EV,hlen⟩,JG⟩:=dD
    have hlen:=Nat.eq_of_beq_eq_true hlen
    have JG:=Nat.eq_of_beq_eq_true JG
    subst JG
    have Sk:Rel R w v (a.eval x):=rx
    obtain ⟨c1,c2⟩:=Rel.cells Sk EV
    have vF:v.cells.length=(a.eval x).cells.toList.length:=c1.length
    cases Mk with
    | @gp _ _ _ _ _ b o' _ ro bj da=>
    obtain ⟨b',c',cur,vs,rfl,g1,g2,g3,g4,g5,g6,g7,g8,g9⟩:=lj h.g hid bj (fun k=>by subst k; exact da)
    have Ix:vs.length=es.length * sz:=by rw [← g7.length,b9 g1]
    have E0:es.length * sz≤cur.toList.length:=by
     rw [show cur.toList.length=cur.size from Array.length_toList,g5]
     exact Nat.mul_le_mul_right _ g3
    split at hs
    ·rename_i hw
     rw [Bool.and_eq_true] at hw
     have uN:=Nat.eq_of_beq_eq_true hw.1
     have LL:=Nat.eq_of_beq_eq_true hw.2
     subst uN
     injection hs with hs
     injection hs with h1 h2
     rw [Bool.and_eq_true,decide_eq_true_eq,decide_eq_true_eq] at h1
     subst h2
     obtain ⟨rfl,rfl⟩:=da.2 h1.1
     have yq:=yt (sz:=sz) h1.2
     have aU:=gv (E:=E) (w:=w) JA (b:=b) (vs:=cur.toList) (off:=i * sz+0) (c:=a.eval x) g2 (by rw [← vF]; exact hlen) (by rw [← vF]; omega) c2
     obtain ⟨r1,r2⟩:=h.Aa (us:=(a.eval x).cells.toList) (off:=0) (i:=i) (e':=v) hid bj g2 g1 g3 g5 g7 g8 g9 h1.2 c2 (by rw [← vF]; omega) (by omega) EV (by
      rw [List.take_zero,List.nil_append,Nat.zero_add,List.drop_of_length_le (by rw [List.length_take,← vF]; omega),List.append_nil]
      exact c1)
     simp only [Nat.add_zero] at Ml aU r1 r2
     refine ⟨.skip,undef,_,R,β,?_,.inr ⟨rfl,rfl⟩,by rw [hd]; exact r1,r2⟩
     simp [execOp,ho,Instr.storeAt,Ml,Instr.sureAddr,aU]
    ·split at hs
     ·rename_i cc cs hg
      split at hs
      ·rename_i hw
       simp only [Bool.and_eq_true] at hw
       obtain ⟨hle,JH⟩:=hw
       have hle:=Nat.le_of_ble_eq_true hle
       have JH:=Nat.eq_of_beq_eq_true JH
       injection hs with hs
       injection hs with h1 h2
       subst h1; subst h2
       obtain ⟨UB,UC,e,Ct,JE,he,A9⟩:=rq hg
       rw [hid] at Ct
       cases Ct
       obtain ⟨rfl,rfl⟩:=da.2 JE
       have hi:i < es.length:=ba he
       have yq:=yt (sz:=sz) hi
       have Pg:=g1 e (z8 he)
       have dp:aA R w e.cells ((vs.drop (i * sz)).take sz):=by
        rw [← mm g1 he]
        exact (g7.drop _).take _
       have hw:=(A9.cells Pg.2).rel dp
       have Ri:aA R w cs ((vs.drop (i * sz)).take sz):=hw
       have aU:=gv (E:=E) (w:=w) JA (b:=b) (vs:=cur.toList) (off:=i * sz+off) (c:=a.eval x) g2 (by rw [← vF]; exact hlen) (by rw [← vF]; omega) c2
       have vH:off+v.cells.length≤cs.length:=by omega
       obtain ⟨r1,r2⟩:=h.Aa (us:=(a.eval x).cells.toList) (off:=off) (i:=i) (e':=.agg (bt cs off v.cells)) hid bj g2 g1 g3 g5 g7 g8 g9 hi c2 (by rw [← vF]; omega) (by show (bt cs off v.cells).length=sz; rw [td _ _ _ vH]; exact JH) rfl (by
        show aA R w (bt cs off v.cells) _
        rw [cW _ _ _ vH,vF]
        exact ((Ri.take _).append c1).append (Ri.drop _))
       refine ⟨.skip,undef,_,R,β,?_,.inr ⟨rfl,rfl⟩,by rw [hd]; exact r1,r2⟩
       simp [execOp,ho,Instr.storeAt,Ml,Instr.sureAddr,aU]
      ·cases hs
     ·cases hs
   ·cases hs
  ·cases hs
 ·split at hs
  ·rename_i vY hv
   injection hs with hs
   injection hs with h1 h2
   subst h2
   exact ye h t p x ho hd hv
  ·cases hs
def ah.reset (R:ah) (id:Nat) (ro:RO):ah:=⟨R.I,aw R.obj id ro⟩
theorem rr {id g:Nat} {r0 ro:RO} (hid:nth R.obj id=some r0) (bj:∀ b,ro.has b→b=g) {b:Nat} (hl:Live (R.reset id ro) b):b=g∨Live R b:=by
 obtain ⟨i,r,h1,h2⟩:=hl
 rcases ay hid h1 with ⟨_,rfl⟩ | ⟨_,h1⟩
 ·exact .inl (bj b h2)
 ·exact .inr ⟨i,r,h1,h2⟩
theorem aP.JI (h:aP E R w β s a) {cur:Array Value} {vs:List Value} {es es':List AV} {elem:TypeId} {sz cap id:Nat} {r0:RO} (hg:nth s.G id=some (.dw es sz elem)) (hid:nth R.obj id=some r0) (hf:∀ b c,bF r0 (.tok es'.length b c))
  (hn:es'.length≤cap) (hm:cap≤maxLen) (hs:cur.size=cap * sz) (mO:cC sz es') (hr:aA R w (an es') vs) (h1:∀ v∈vs,v.oneCell'=true) (ht:cur.toList.take (es'.length * sz)=vs) :
  aP E (R.reset id (.tok es'.length w.heap.size cap)) (w.drew.alloc (.cells cur elem)) β (s.bp (aw s.G id (.dw es' sz elem))) a ∧
  Step R w β s.boxes (R.reset id (.tok es'.length w.heap.size cap)) (w.drew.alloc (.cells cur elem)) β s.boxes:=by
 have e:Ext R w (R.reset id (.tok es'.length w.heap.size cap)) (w.drew.alloc (.cells cur elem)):=
  ⟨fun _ _ h=>h,fun b o hi=>bo (heap_alloc_old w.drew _ b (h.g.wf b o hi)) o,fun i r hr=>by
   by_cases ei:id=i
   ·subst ei
    rw [hid] at hr
    cases hr
    exact ⟨_,az hid,hf _ _⟩
   ·exact ⟨r,by rw [ah.reset,a7 ei]; exact hr,bF.refl r⟩,.old fun b hb=>heap_alloc_old w.drew _ b hb⟩
 have old:∀ b,b < w.heap.size→(w.drew.alloc (.cells cur elem)).heap[b]?=w.heap[b]?:=fun b hb=>heap_alloc_old w.drew _ b hb
 have new:(w.drew.alloc (.cells cur elem)).heap[w.heap.size]?=some (.cells cur elem (0,0)):=heap_alloc_new w.drew _
 have live:∀ b,b < w.heap.size→Live (R.reset id (.tok es'.length w.heap.size cap)) b→Live R b:=fun b hb hl=>by
  rcases rr (g:=w.heap.size) (ro:=.tok es'.length w.heap.size cap) hid (fun _ h=>h) hl with rfl | hl
  ·omega
  ·exact hl
 refine ⟨⟨⟨by simp [St.bp,ah.reset,h.g.len],fun i gg r qR h2=>?_,fun i j ri rj b qR h2 b1 b2=>?_,fun b o hi=>?_,fun g cs hg=>(h.g.bY g cs hg).mono e,Nat.le_succ_of_le h.g.lo⟩,?_,h.t.mono e,h.n,h.d.mono e⟩,?_⟩
 ·rcases ay hid h2 with ⟨rfl,rfl⟩ | ⟨bT,h2⟩
  ·simp only [St.bp] at qR
   rw [az hg] at qR
   cases qR
   exact ⟨rfl,mO,cur,vs,new,hn,hm,hs,fun o hi=>by have:=h.g.wf _ _ hi; omega,hr.mono e,h1,ht⟩
  ·simp only [St.bp] at qR
   rw [a7 (Ne.symm bT)] at qR
   exact (h.g.obj i gg r qR h2).mono e (fun b hb=>old b (h.g.bl ⟨i,r,h2,hb⟩)) (fun b o _ hi=>hi)
 ·rcases ay hid qR with ⟨g3,e1⟩ | ⟨g3,g1⟩
  ·rcases ay hid h2 with ⟨g4,e2⟩ | ⟨g4,g2⟩
   ·omega
   ·have:=h.g.bl ⟨j,rj,g2,b2⟩
    rw [e1] at b1
    simp [RO.has] at b1
    omega
  ·rcases ay hid h2 with ⟨g4,e2⟩ | ⟨g4,g2⟩
   ·have:=h.g.bl ⟨i,ri,g1,b1⟩
    rw [e2] at b2
    simp [RO.has] at b2
    omega
   ·exact h.g.inj i j ri rj b g1 g2 b1 b2
 ·have:=h.g.wf b o hi
  simp
  omega
 ·exact h.b.bA e (fun k cs hk=>old _ (h.cN (.inr ⟨k,cs,hk,rfl⟩))) (fun k cs o hk hi=>hi) (fun k cs hk hl=>live _ (h.cN (.inr ⟨k,cs,hk,rfl⟩)) hl)
 ·refine ⟨e,rfl,rfl,rfl,by simp,fun b hb _=>old b hb,fun b hb ho=>?_,fun b o hi hb _=>hi⟩
  rcases ho with ho | ho
  ·exact .inl (live b hb ho)
  ·exact .inr ho
theorem aP.Fo (h:aP E R w β s a) {cur cur2:Array Value} {vs:List Value} {es es':List AV} {elem:TypeId} {sz id g c:Nat} (hg:nth s.G id=some (.dw es sz elem)) (hid:nth R.obj id=some (.tok es.length g c)) (bD:es.length < es'.length) (hn:es'.length≤c)
  (ft:w.heap[g]?=some (.cells cur elem (0,0))) (hs:cur2.size=cur.size) (mO:cC sz es') (hr:aA R w (an es') vs) (h1:∀ v∈vs,v.oneCell'=true) (ht:cur2.toList.take (es'.length * sz)=vs) :
  aP E (R.reset id (.tok es'.length g c)) (w.setRow g cur2) β (s.bp (aw s.G id (.dw es' sz elem))) a ∧
  Step R w β s.boxes (R.reset id (.tok es'.length g c)) (w.setRow g cur2) β s.boxes:=by
 obtain ⟨q0,q1,Mz,Sj,p1,p2,p3,p4,p5,p6,p7,p8⟩:=h.g.obj id _ _ hg hid
 rw [ft] at p1
 cases p1
 have n4:Live R g:=⟨id,_,hid,rfl⟩
 have old:∀ b,b≠g→(w.setRow g cur2).heap[b]?=w.heap[b]?:=fun b hb=>setRow_other w g b cur2 hb
 have new:(w.setRow g cur2).heap[g]?=some (.cells cur2 elem (0,0)):=setRow_heap w g cur cur2 elem (0,0) ft
 have e:Ext R w (R.reset id (.tok es'.length g c)) (w.setRow g cur2):=by
  have e0:=gP (R:=R) (w:=w) p5 cur2
  refine ⟨fun _ _ h=>h,e0.cell,fun i r hr=>?_,e0.lp⟩
  by_cases ei:id=i
  ·subst ei
   rw [hid] at hr
   cases hr
   exact ⟨_,az hid,by omega,fun e=>by omega⟩
  ·exact ⟨r,by rw [ah.reset,a7 ei]; exact hr,bF.refl r⟩
 have live:∀ b,Live (R.reset id (.tok es'.length g c)) b→Live R b:=fun b hl=>by
  rcases rr (g:=g) (ro:=.tok es'.length g c) hid (fun _ h=>h) hl with rfl | hl
  ·exact n4
  ·exact hl
 have ml:∀ k cs,cz s.boxes k=some cs→β k≠g:=fun k cs hk eq=>(h.b.box k cs hk).2.2 (eq ▸ n4)
 refine ⟨⟨⟨by simp [St.bp,ah.reset,h.g.len],fun i gg r qR h2=>?_,fun i j ri rj b qR h2 b1 b2=>?_,fun b o hi=>?_,fun g cs hg=>(h.g.bY g cs hg).mono e,h.g.lo⟩,?_,h.t.mono e,h.n,h.d.mono e⟩,?_⟩
 ·rcases ay hid h2 with ⟨rfl,rfl⟩ | ⟨bT,h2⟩
  ·simp only [St.bp] at qR
   rw [az hg] at qR
   cases qR
   exact ⟨rfl,mO,cur2,vs,new,hn,p3,by rw [hs]; exact p4,p5,hr.mono e,h1,ht⟩
  ·simp only [St.bp] at qR
   rw [a7 (Ne.symm bT)] at qR
   have JC:∀ b,r.has b→b≠g:=fun b hb eq=>bT (h.g.inj i id _ _ b h2 hid hb (by rw [eq]; rfl))
   exact (h.g.obj i gg r qR h2).mono e (fun b hb=>old b (JC b hb)) (fun b o hb hi=>hi)
 ·rcases ay hid qR with ⟨g3,e1⟩ | ⟨g3,g1⟩
  ·rcases ay hid h2 with ⟨g4,e2⟩ | ⟨g4,g2⟩
   ·omega
   ·rw [e1] at b1
    exact g3.trans (h.g.inj id j _ _ b hid g2 b1 b2)
  ·rcases ay hid h2 with ⟨g4,e2⟩ | ⟨g4,g2⟩
   ·rw [e2] at b2
    exact (h.g.inj i id _ _ b g1 hid b1 b2).trans g4.symm
   ·exact h.g.inj i j ri rj b g1 g2 b1 b2
 ·have:=h.g.wf b o hi
  simpa using this
 ·exact h.b.bA e (fun k cs hk=>old _ (ml k cs hk)) (fun k cs o hk hi=>hi) (fun k cs hk hl=>live _ hl)
 ·refine ⟨e,rfl,rfl,rfl,by simp,fun b hb oC=>old b (fun eq=>oC (.inl (eq ▸ n4))),fun b hb ho=>?_,fun b o hi hb oC=>hi⟩
  rcases ho with ho | ho
  ·exact .inl (live b ho)
  ·exact .inr ho
theorem aP.Cu (h:aP E R w β s a) {cur:Array Value} {vs:List Value} {es:List AV} {elem:TypeId} {sz cap:Nat} (hn:es.length≤cap) (hm:cap≤maxLen) (hs:cur.size=cap * sz) (mO:cC sz es) (hr:aA R w (an es) vs) (h1:∀ v∈vs,v.oneCell'=true) (ht:cur.toList.take (es.length * sz)=vs) :
  aP E (R.add (.tok es.length w.heap.size cap)) (w.alloc (.cells cur elem)) β (s.cJ (.dw es sz elem)) a:=
 h.iV (.cells cur elem) (.dw es sz elem) (.tok es.length w.heap.size cap) (by exact fun _ h=>h)
  ⟨rfl,mO,cur,vs,heap_alloc_new w _,hn,hm,hs,fun o hi=>by have:=h.g.wf _ _ hi; omega,hr.mono (eJ h.g.wf _ _),h1,ht⟩
theorem pZ (h:aP E R w β s a) (t:TypeId) (x y:Operand) (ho:o.op=.makeSlice t x y) {i:TI} (hi:E.ti t=some i) {k k':IntKind} {n m:Int} (hx:aY E s.ae x=.v (.int k n)) (hy:aY E s.ae y=.v (.int k' m))
  {elem esz lG:Nat} {ag:Bool} {z:AV} (hk:i.k=.sl elem esz ag lG (some z)) (hz:z.cells.length=esz) (A7:1≤esz) (mQ:z.aG=true) (mj:z.closed=true) (hc:0≤n∧n≤m∧m≤140737488355328∧m * lG≤140737488355328) :
  bk E R w β s a o ((s.cJ (.dw (List.replicate n.toNat z) esz elem)).put o.dst (.v (.dI s.G.length n.toNat 0 esz n.toNat))):=by
 obtain ⟨us,z1,z2,aU⟩:=lN h t x y ho hi hx hy hk hz A7 mQ hc
 have LM:n.toNat≤m.toNat:=by omega
 have mO:=(dP (n:=m.toNat) hz mQ mj).g
 have JF:us.length=m.toNat * esz:=by rw [← z1.length,b9 mO,List.length_replicate]
 have E0:(List.replicate n.toNat z).length=n.toNat:=List.length_replicate
 have E1:(List.replicate m.toNat z).take n.toNat=List.replicate n.toNat z:=by rw [List.take_replicate,Nat.min_eq_left LM]
 have hr:aA R w (an (List.replicate n.toNat z)) (us.take (n.toNat * esz)):=by
  rw [← E1,fN _ mO]
  exact z1.take _
 have r1:=h.Cu (cur:=⟨us⟩) (vs:=us.take (n.toNat * esz)) (es:=List.replicate n.toNat z) (elem:=elem) (cap:=m.toNat) (by rw [E0]; exact LM) (by unfold maxLen; omega) (by simpa using JF) (dP hz mQ mj).g hr (fun v hv=>z2 v (List.mem_of_mem_take hv)) (by rw [E0])
 rw [E0] at r1
 have e:=eJ (R:=R) (w:=w) h.g.wf (.cells ⟨us⟩ elem) (.tok n.toNat w.heap.size m.toNat)
 exact ⟨_,.slice (some ⟨w.heap.size,0,none⟩) n.toNat m.toNat,_,R.add (.tok n.toNat w.heap.size m.toNat),β,aU,.inl rfl,r1.put o.dst (x:=.v (.dI s.G.length n.toNat 0 esz n.toNat)) (Rel.dI (eK h _) ⟨Nat.le_refl _,fun _=>⟨rfl,Nat.zero_add _,.inl (Nat.zero_mul _).symm⟩⟩ LM),by rw [aI]; exact cg h _ _ (by exact fun _ h=>h)⟩
theorem oD (h:aP E R w β s a) (t:TypeId) (len:Nat) (parts:Array (Nat × Operand)) (ho:o.op=.buildSlice t len parts) {k:LK} {esz:Nat} {es:List AV} (hv:bq E s t len parts.toList=some (.list k esz es)) {i:TI} (hi:E.ti t=some i) {elem a8 lG:Nat} {ag:Bool} {z:Option AV} (hk:i.k=.sl elem a8 ag lG z) (hm:len≤65536) :
  bk E R w β s a o ((s.cJ (.dw es esz elem)).put o.dst (.v (.dI s.G.length len 0 esz len))):=by
 obtain ⟨es',Jw,us,Mx,Mt,aU,g2,hlen,u2,u3,i',Pe,Ms,z',oq,ga⟩:=fh h t len parts ho hv
 cases Mt
 rw [hi] at oq
 cases oq
 rw [hk] at ga
 cases ga
 have My:us.length=len * esz:=by rw [← u2.length,cE g2,hlen]
 have r1:=h.Cu (cur:=⟨us⟩) (vs:=us) (es:=es) (elem:=elem) (cap:=len) (by rw [hlen]; exact Nat.le_refl _) (by simp [maxLen]; omega) (by simpa using My) g2.g u2 u3 (by rw [hlen,← My]; exact List.take_length)
 rw [hlen] at r1
 exact ⟨_,.slice (some ⟨w.heap.size,0,none⟩) len len,_,R.add (.tok len w.heap.size len),β,aU,.inl rfl,r1.put o.dst (x:=.v (.dI s.G.length len 0 esz len)) (Rel.dI (eK h _) ⟨Nat.le_refl _,fun _=>⟨rfl,Nat.zero_add _,.inl (Nat.zero_mul _).symm⟩⟩ (Nat.le_refl _)),by rw [aI]; exact cg h _ _ (by exact fun _ h=>h)⟩
end ops
end Go.Am
namespace Go.Am
open Go
section fams
variable {E:Env} {R R':ah} {w w':World} {β β':Nat→Nat} {s s':St} {a a':Act} {o:Oper}
theorem oE {α:Type} {l r:List α} {i:Nat} {x:α} (h:nth r i=some x):nth (l++r) (l.length+i)=some x:=by
 rw [aJ] at *
 rw [List.getElem?_append_right (Nat.le_add_right _ _),Nat.add_sub_cancel_left]
 exact h
theorem p0 {α:Type} {l r:List α} {i:Nat} {x:α} (h:nth l i=some x):nth (l++r) i=some x:=by
 have:=ba h
 rw [aJ] at *
 rw [List.getElem?_append_left this]
 exact h
theorem cH {α:Type} {l r:List α} {i:Nat} {x:α} (h:nth (l++r) i=some x):nth l i=some x∨∃ j,i=l.length+j∧nth r j=some x:=by
 rw [aJ] at h
 rcases Nat.lt_or_ge i l.length with bD | qO
 ·rw [List.getElem?_append_left bD] at h
  exact .inl (by rw [aJ]; exact h)
 ·rw [List.getElem?_append_right qO] at h
  exact .inr ⟨i - l.length,by omega,by rw [aJ]; exact h⟩
theorem aP.yx (h:aP E R w β s a) {id sz:Nat} {e:TypeId} {fs:List Nat} (hid:nth s.G id=some (.aM fs sz e)) {nfs:List Nat} {nts:List TR} (hl:nts.length=nfs.length)
  (da:∀ j f t,nth nfs j=some f→nth nts j=some t→tL R w sz e f t) (oC:∀ j f b c,nth nts j≠some (.tok f b c)) {ro:RO} (bj:nth R.obj id=some ro) :
  ∃ ts,ro=.aM ts∧ts.length=fs.length∧aP E (R.reset id (.aM (ts++nts))) w β (s.bp (aw s.G id (.aM (fs++nfs) sz e))) a∧Step R w β s.boxes (R.reset id (.aM (ts++nts))) w β s.boxes:=by
 have b7:=h.g.obj id _ _ hid bj
 cases ro with
 | none=>exact b7.elim
 | aZ=>exact b7.elim
 | bn _=>exact b7.elim
 | tok _ _ _=>exact b7.elim
 | aM ts=>
 obtain ⟨q1,q2,q3⟩:=b7
 have rk:∀ b,RO.has (.aM (ts++nts)) b→RO.has (.aM ts) b:=fun b ⟨j,f,c,hj⟩=>by
  rcases cH hj with hj | ⟨i,_,hi⟩
  ·exact ⟨j,f,c,hj⟩
  ·exact absurd hi (oC i f b c)
 have ext:Ext R w (R.reset id (.aM (ts++nts))) w:=⟨fun _ _ h=>h,fun _ _ _=>rfl,fun i r hr=>by
  by_cases e:id=i
  ·subst e
   rw [bj] at hr
   cases hr
   exact ⟨_,az bj,fun j t hj=>⟨t,p0 hj,iT.refl t⟩⟩
  ·exact ⟨r,by rw [ah.reset,a7 e]; exact hr,bF.refl r⟩,er.refl w⟩
 have live:∀ b,Live (R.reset id (.aM (ts++nts))) b→Live R b:=fun b ⟨i,r,h1,h2⟩=>by
  rcases ay bj h1 with ⟨_,rfl⟩ | ⟨_,h1⟩
  ·exact ⟨id,_,bj,rk b h2⟩
  ·exact ⟨i,r,h1,h2⟩
 refine ⟨ts,rfl,q1,⟨⟨by simp [St.bp,ah.reset,h.g.len],fun i g r h1 h2=>?_,fun i j ri rj b h1 h2 b1 b2=>?_,h.g.wf,fun g cs hg=>(h.g.bY g cs hg).mono ext,h.g.lo⟩,h.b.bA ext (fun _ _ _=>rfl) (fun _ _ _ _ h=>h) (fun _ _ _ hl=>live _ hl),h.t.mono ext,h.n,h.d.mono ext⟩,?_⟩
 ·rcases ay bj h2 with ⟨rfl,rfl⟩ | ⟨bT,h2⟩
  ·simp only [St.bp] at h1
   rw [az hid] at h1
   cases h1
   refine ⟨by simp [q1,hl],fun i j f b c f' c' hi hj=>?_,fun j f t hf ht=>?_⟩
   ·rcases cH hi with hi | ⟨_,_,hi⟩
    ·rcases cH hj with hj | ⟨_,_,hj⟩
     ·exact q2 i j _ _ _ _ _ hi hj
     ·exact absurd hj (oC _ _ _ _)
    ·exact absurd hi (oC _ _ _ _)
   ·rcases cH hf with E2 | ⟨k,hk,E2⟩
    ·rcases cH ht with ht | ⟨k',ga,ht⟩
     ·exact q3 j f t E2 ht
     ·have:=ba E2
      omega
    ·rcases cH ht with ht | ⟨k',ga,ht⟩
     ·have:=ba ht
      omega
     ·have Ch:k=k':=by omega
      subst Ch
      exact da k f t E2 ht
  ·simp only [St.bp] at h1
   rw [a7 (Ne.symm bT)] at h1
   exact (h.g.obj i g r h1 h2).mono ext (fun _ _=>rfl) (fun _ _ _ h=>h)
 ·rcases ay bj h1 with ⟨g3,e1⟩ | ⟨g3,g1⟩
  ·rcases ay bj h2 with ⟨g4,e2⟩ | ⟨g4,g2⟩
   ·omega
   ·rw [e1] at b1
    exact g3.trans (h.g.inj id j _ _ b bj g2 (rk b b1) b2)
  ·rcases ay bj h2 with ⟨g4,e2⟩ | ⟨g4,g2⟩
   ·rw [e2] at b2
    exact (h.g.inj i id _ _ b g1 bj b1 (rk b b2)).trans g4.symm
   ·exact h.g.inj i j ri rj b g1 g2 b1 b2
 ·refine ⟨ext,rfl,rfl,rfl,Nat.le_refl _,fun _ _ _=>rfl,fun b _ ho=>?_,fun _ _ h _ _=>h⟩
  rcases ho with ho | ho
  ·exact .inl (live b ho)
  ·exact .inr ho
theorem bk.step {s1:St} {s2:St} (e:s1.boxes=s.boxes) (st:Step R w β s.boxes R' w β s.boxes) (h:bk E R' w β s1 a o s2):bk E R w β s a o s2:=by
 obtain ⟨nx,x,w',R2,β',h1,h2,h3,h4⟩:=h
 rw [e] at h4
 exact ⟨nx,x,w',R2,β',h1,h2,h3,st.trans h4⟩
theorem MC {c:Bool} {α:Type} {a b:α} (h:(bif c then some a else none)=some b):c=true∧a=b:=by
 cases c
 ·cases h
 ·exact ⟨rfl,Option.some.inj h⟩
theorem jP {sz:Nat} {e:TypeId}:∀ {G:List GO} {i j:Nat},fG G sz e i=some j→∃ fs,nth G (j - i)=some (.aM fs sz e)∧i≤j
 | [],i,j,h=>by cases h
 | g :: G,i,j,h=>by
  have step:fG G sz e (i+1)=some j→∃ fs,nth (g :: G) (j - i)=some (.aM fs sz e)∧i≤j:=fun h=>by
   obtain ⟨fs,h1,h2⟩:=jP h
   refine ⟨fs,?_,by omega⟩
   rw [show j - i=(j - (i+1))+1 by omega]
   exact h1
  unfold fG at h
  split at h
  ·rename_i gJ
   cases gJ
  ·rename_i gJ
   obtain ⟨rfl,rfl⟩:=List.cons.inj gJ
   split at h
   ·rename_i j' hj
    cases h
    exact step hj
   ·obtain ⟨hc,rfl⟩:=MC h
    ·rw [Bool.and_eq_true] at hc
     have h1:=Nat.eq_of_beq_eq_true hc.1
     have h2:=Nat.eq_of_beq_eq_true hc.2
     subst h1 h2
     exact ⟨_,by rw [Nat.sub_self]; rfl,Nat.le_refl _⟩
  ·rename_i x G1 _ _ _ hn gJ
   obtain ⟨rfl,rfl⟩:=List.cons.inj gJ
   exact step h
theorem aP.Ac {s0:St} {d:Option Tmp} {x y:AV} (h:aP E R w β (s0.put d (.v x)) a) (hw:∀ c,Rel R w x c→Rel R w y c):aP E R w β (s0.put d (.v y)) a:=by
 cases d with
 | none=>exact h
 | some d=>
  simp only [St.put] at h ⊢
  cases hb:Nat.blt d s0.n with
  | false=>rw [hb] at h; exact h
  | true=>
   rw [hb] at h
   refine ⟨h.g,h.b,fun i hi=>?_,h.n,h.d⟩
   by_cases e:d=i
   ·subst e
    rw [au]
    obtain ⟨c,k1,k2⟩:=h.t d (by rw [au]; simp)
    rw [au] at k2
    exact ⟨c,k1,hw c k2⟩
   ·rw [aC e] at hi ⊢
    have:=h.t i (by rw [aC e]; exact hi)
    rw [aC e] at this
    exact this
theorem bk.Ac {s0:St} {x y:AV} (h:bk E R w β s a o (s0.put o.dst (.v x))) (hw:∀ R' w',Ext R w R' w'→∀ c,Rel R' w' x c→Rel R' w' y c):bk E R w β s a o (s0.put o.dst (.v y)):=by
 obtain ⟨nx,v,w',R',β',h1,h2,h3,h4⟩:=h
 refine ⟨nx,v,w',R',β',h1,h2,h3.Ac (hw R' w' h4.ext),?_⟩
 rw [aI] at h4 ⊢
 exact h4
end fams
section ops
variable {E:Env} {R:ah} {w:World} {β:Nat→Nat} {s:St} {a:Act} {o:Oper}
theorem dQ {k:LK} {sz esz:Nat} {es:List AV} {c:Value} (h:Rel R w (.list k sz es) c) (cZ:es=[]∨sz=esz) :
  fK esz es∧∃ vs,aA R w (an es) vs∧(∀ v∈vs,v.oneCell'=true)∧vs.length=es.length * esz ∧
   ((es=[]∧vs=[]∧∃ ad,c=.slice ad 0 0∧(ad=none∨k=.iy))∨∃ b o' cap,c=.slice (some ⟨b,o',none⟩) es.length cap∧es.length≤cap∧uD R k b o' es.length cap∧(∀ j v,vs[j]?=some v→w.cell? ((⟨b,o',none⟩:Addr).add j)=some v)∧ee R w b o' esz es):=by
 cases h with
 | gr=>exact ⟨fun e he=>by simp at he,[],.nil,by simp,by simp,.inl ⟨rfl,rfl,_,rfl,.inl rfl⟩⟩
 | fy=>exact ⟨fun e he=>by simp at he,[],.nil,by simp,by simp,.inl ⟨rfl,rfl,_,rfl,.inl rfl⟩⟩
 | jK=>exact ⟨fun e he=>by simp at he,[],.nil,by simp,by simp,.inl ⟨rfl,rfl,_,rfl,.inr rfl⟩⟩
 | jl=>exact ⟨fun e he=>by simp at he,[],.nil,by simp,by simp,.inl ⟨rfl,rfl,_,rfl,.inl rfl⟩⟩
 | iS=>exact ⟨fun e he=>by simp at he,[],.nil,by simp,by simp,.inl ⟨rfl,rfl,_,rfl,.inl rfl⟩⟩
 | @list _ _ _ b o' len cap hr hlen fg Ch=>
  subst hlen
  have iW:ee R w b o' esz es:=by
   rcases cZ with rfl | rfl
   ·exact .nil
   ·exact hr
  obtain ⟨g0,vs,g1,g2,g3,g4⟩:=qZ iW
  refine ⟨g0,vs,g1,g2,by rw [← g1.length,cE g0],.inr ⟨b,o',cap,rfl,fg,Ch,fun j v hv=>?_,iW⟩⟩
  rw [bG]
  exact g3 j v hv
theorem nj {b esz:Nat} {es:List AV} {vs:List Value} {w:World} {R:ah} (h0:fK esz es) (h:aA R w (an es) vs) (h1:∀ v∈vs,v.oneCell'=true)
  (hc:∀ j v,vs[j]?=some v→w.cell? ⟨b,j,none⟩=some v) (hI:∀ j,j < vs.length→R.I b j):ee R w b 0 esz es:=
 jr h0 (cG.make h h1 (fun j v hv=>by rw [Nat.zero_add]; exact hc j v hv) (fun j hj=>by rw [Nat.zero_add]; exact hI j (by rw [← h.length]; exact hj)))
theorem iH {sz:Nat} {l r:List AV} (h:fK sz l) (k:fK sz r):fK sz (l++r):=fun e he=>by
 rcases List.mem_append.1 he with he | he
 ·exact h e he
 ·exact k e he
theorem fB {l r:List Value} (h:∀ v∈l,v.oneCell'=true) (k:∀ v∈r,v.oneCell'=true):∀ v∈l++r,v.oneCell'=true:=fun v hv=>by
 rcases List.mem_append.1 hv with hv | hv
 ·exact h v hv
 ·exact k v hv
structure OA (P:Program) (w:World) (t u ty e:TypeId) (i:TypeInfo) (z:Value) (cy:Value) (n:Nat) (us:List Value):Prop where
 zero:n=0→∀ base len cap,len≤cap→(Builtin.append_ #[t,u] ty #[.slice base len cap,cy]).run P w=.ok (.slice base len cap) w
 nil:0 < n→(n:Int)≤9223372036854775807→n * i.bytes≤281474976710656→(Builtin.append_ #[t,u] ty #[.slice none 0 0,cy]).run P w =
   .ok (.slice (some ⟨w.heap.size,0,none⟩) n (grownCap w n 0 e)) (w.drew.alloc (.cells (us.toArray++Builtin.zeroCells z.cells (grownCap w n 0 e - n)) e))
 grow:0 < n→∀ (b:Addr) (sLen iY:Nat) (uO:List Value),uO.length=sLen * i.size→(∀ j v,uO[j]?=some v→w.cell? (b.add j)=some v)→iY < sLen+n→((sLen+n:Nat):Int)≤9223372036854775807→Builtin.nextslicecap (sLen+n) iY * i.bytes≤281474976710656 →
   (Builtin.append_ #[t,u] ty #[.slice (some b) sLen iY,cy]).run P w=.ok (.slice (some ⟨w.heap.size,0,none⟩) (sLen+n) (grownCap w (sLen+n) iY e))
    (w.drew.alloc (.cells (uO.toArray++us.toArray++Builtin.zeroCells z.cells (grownCap w (sLen+n) iY e - (sLen+n))) e))
 room:0 < n→∀ (g sLen iY:Nat) (cur:Array Value),w.heap[g]?=some (.cells cur e (0,0))→sLen+n≤iY→sLen * i.size+us.length≤cur.size →
   (Builtin.append_ #[t,u] ty #[.slice (some ⟨g,0,none⟩) sLen iY,cy]).run P w=.ok (.slice (some ⟨g,0,none⟩) (sLen+n) iY) (w.setRow g (cur.toList.take (sLen * i.size)++us++cur.toList.drop (sLen * i.size+us.length)).toArray)
theorem kh (h:aP E R w β s a) {t u:TypeId} {id f off sz len:Nat} {y:AV} {ys:List AV} {cx cy:Value} {us:List Value}
  (dJ:∀ {c:Value} {w':World},(Builtin.append_ #[t,u] o.type #[cx,cy]).run E.P w=.ok c w'→(execOp a.eval o).run E.P w=.ok (.value c) w')
  {elem esz eb:Nat} {z:AV} (Ad:1≤eb) (hz:z.cells.length=esz) (mQ:z.aG=true)
  {ie:TypeInfo} (f2:ie.size=esz) (f3:ie.bytes=eb) (f6:dY ie=some z)
  (h0:Rel R w (.dI id f off sz len) cx) (hA:∀ zc:Value,ie.zero=some zc→OA E.P w t u o.type elem ie zc cy (y :: ys).length us)
  (y0:cC esz (y :: ys)) (y1:aA R w (an (y :: ys)) us) (y2:∀ v∈us,v.oneCell'=true) (y3:us.length=(y :: ys).length * esz)
  {es:List AV} (hid:nth s.G id=some (.dw es esz elem)) (hf:f=es.length) (Sl:off=0) (q9:len=f) (hb:(es.length+(y :: ys).length) * eb≤140737488355328) :
  bk E R w β s a o ((s.bp (aw s.G id (.dw (es++(y :: ys)) esz elem))).put o.dst (.v (.dI id (es.length+(y :: ys).length) 0 esz (es.length+(y :: ys).length)))):=by
 obtain ⟨zc,mj,xT⟩:=b8 f6
 have hA:=hA zc mj
 obtain ⟨d1,d2⟩:=Rel.cells (xT R w) mQ
 have mP:zc.cells.size=esz:=by rw [← hz,d1.length]; simp
 have mn:0 < (y :: ys).length:=by simp
 have hm:es.length+(y :: ys).length≤140737488355328:=Nat.le_trans (Nat.le_mul_of_pos_right _ Ad) hb
 have vZ:(es++(y :: ys)).length=es.length+(y :: ys).length:=List.length_append
 -- where a new block has been made
 have fresh:∀ {xs:List Value} {old:Nat} {r0:RO},nth R.obj id=some r0→(∀ b c,bF r0 (.tok (es.length+(y :: ys).length) b c))→cC esz es→aA R w (an es) xs→(∀ v∈xs,v.oneCell'=true)→xs.length=es.length * esz →
   (Builtin.append_ #[t,u] o.type #[cx,cy]).run E.P w=.ok (.slice (some ⟨w.heap.size,0,none⟩) (es.length+(y :: ys).length) (grownCap w (es.length+(y :: ys).length) old elem)) (w.drew.alloc (.cells (xs.toArray++us.toArray++Builtin.zeroCells zc.cells (grownCap w (es.length+(y :: ys).length) old elem - (es.length+(y :: ys).length))) elem)) →
   bk E R w β s a o ((s.bp (aw s.G id (.dw (es++(y :: ys)) esz elem))).put o.dst (.v (.dI id (es.length+(y :: ys).length) 0 esz (es.length+(y :: ys).length)))):=by
  intro xs old r0 bj hle BY MD pW tU aU
  have qO:=grownCap_ge w (es.length+(y :: ys).length) old elem
  obtain ⟨r1,r2⟩:=h.JI (cur:=xs.toArray++us.toArray++Builtin.zeroCells zc.cells (grownCap w (es.length+(y :: ys).length) old elem - (es.length+(y :: ys).length))) (vs:=xs++us) (es':=es++(y :: ys)) hid bj (by rw [vZ]; exact hle) (by rw [vZ]; exact qO) (grownCap_le_maxLen w _ old elem (by unfold maxLen; omega)) (by
   simp only [Array.size_append,List.size_toArray,size_zeroCells,mP,tU,y3,← Nat.add_mul]
   congr 1
   omega) (ni BY y0) (by rw [bP]; exact MD.append y1) (fB pW y2) (by
   rw [vZ]
   simp only [Array.toList_append]
   exact List.take_left' (by rw [List.length_append,tU,y3,Nat.add_mul]))
  rw [vZ] at r1 r2
  refine ⟨_,_,_,_,β,dJ aU,.inl rfl,r1.put o.dst ?_,by rw [aI]; exact r2⟩
  exact Rel.dI (az bj) ⟨Nat.le_refl _,fun _=>⟨rfl,Nat.zero_add _,.inl (Nat.zero_mul _).symm⟩⟩ qO
 cases h0 with
 | @gu _ _ ro bj hon=>
  have b7:=h.g.obj id _ _ hid bj
  have Sm:es=[]:=List.eq_nil_of_length_eq_zero hf.symm
  subst Sm
  cases ro with
  | none=>exact b7.elim
  | bn _=>exact b7.elim
  | aM _=>exact b7.elim
  | tok f' g c=>
   obtain ⟨rfl,_⟩:=b7
   simp [jJ] at hon
  | aZ=>
   simp only [List.length_nil] at hb
   have aU:=hA.nil mn (by omega) (by rw [f3]; rw [Nat.zero_add] at hb; omega)
   exact fresh (xs:=[]) (old:=0) bj (fun b c=>by simp only [bF]; omega) (fun e he=>by simp at he) .nil (by simp) (by simp) (by simpa using aU)
 | @dI _ _ _ _ _ cap b o' ro bj da fg=>
  subst hf; subst Sl; subst q9
  obtain ⟨b',c',cur,vs,rfl,g1,g2,g3,g4,g5,g6,g7,g8,g9⟩:=lj h.g hid bj (fun k=>by subst k; exact da)
  obtain ⟨rfl,yy,vI⟩:=da.2 rfl
  rw [Nat.zero_add] at yy
  subst yy
  have Ix:vs.length=es.length * esz:=by rw [← g7.length,b9 g1]
  have dR:∀ j v,vs[j]?=some v→cur[j]?=some v:=fun j v hj=>by
   rw [← g9,List.getElem?_take] at hj
   split at hj
   ·rw [← Array.getElem?_toList]; exact hj
   ·cases hj
  by_cases eE:es.length+(y :: ys).length≤cap
  ·have lO:o'=0:=by
    rcases vI with vI | vI
    ·rw [vI,Nat.zero_mul]
    ·rw [List.length_cons] at eE; omega
   subst lO
   have hle:(es.length+(y :: ys).length) * esz≤cap * esz:=Nat.mul_le_mul_right _ eE
   have aU:=hA.room mn b es.length cap cur g2 eE (by rw [f2,y3,← Nat.add_mul,g5]; exact hle)
   rw [f2] at aU
   have gl:cur.toList.length=cap * esz:=by rw [show cur.toList.length=cur.size from Array.length_toList,g5]
   obtain ⟨r1,r2⟩:=h.Fo (cur2:=(cur.toList.take (es.length * esz)++us++cur.toList.drop (es.length * esz+us.length)).toArray) (vs:=vs++us) (es':=es++(y :: ys)) hid bj (by rw [vZ]; omega) (by rw [vZ]; exact eE) g2 (by
    rw [List.size_toArray,← Array.length_toList]
    simp only [List.length_append,List.length_take,List.length_drop,y3,gl]
    rw [Nat.add_mul] at hle
    omega) (ni g1 y0) (by rw [bP]; exact g7.append y1) (fB g8 y2) (by
    rw [vZ,List.toList_toArray,g9]
    exact List.take_left' (by rw [List.length_append,Ix,y3,Nat.add_mul]))
   rw [vZ] at r1 r2
   refine ⟨_,_,_,_,β,dJ aU,.inl rfl,r1.put o.dst ?_,by rw [aI]; exact r2⟩
   exact Rel.dI (az bj) ⟨Nat.le_refl _,fun _=>⟨rfl,Nat.zero_add _,.inl (Nat.zero_mul _).symm⟩⟩ eE
  ·have aU:=hA.grow mn ⟨b,o',none⟩ es.length cap vs (by rw [Ix,f2]) (fun j v hj=>by
    rw [bG]
    have EZ:=(List.getElem?_eq_some_iff.1 hj).1
    have lO:o'=0:=by
     rcases vI with vI | vI
     ·rw [vI,Nat.zero_mul]
     ·have:es.length=0:=by omega
      rw [Ix,this] at EZ
      omega
    subst lO
    rw [Nat.zero_add,cell_of_row w b j cur elem (0,0) g2]
    exact dR j v hj) (by omega) (by omega) (growslice_fits (by omega) (by rw [f3]; exact hb))
   exact fresh (xs:=vs) (old:=cap) bj (fun b c=>⟨by omega,fun e=>by omega⟩) g1 g7 g8 Ix aU
theorem jt (h:aP E R w β s a) {t u:TypeId} {id j:Nat} {es:List AV} {y:AV} {ys:List AV} {cx cy:Value} {us:List Value}
  (dJ:∀ {c:Value} {w':World},(Builtin.append_ #[t,u] o.type #[cx,cy]).run E.P w=.ok c w'→(execOp a.eval o).run E.P w=.ok (.value c) w')
  {elem esz eb:Nat} {z:AV} (Ad:1≤eb) (hz:z.cells.length=esz) (mQ:z.aG=true)
  {ie:TypeInfo} (f2:ie.size=esz) (f3:ie.bytes=eb) (f6:dY ie=some z)
  (h0:Rel R w (.list (.aM id j) esz es) cx) (hA:∀ zc:Value,ie.zero=some zc→OA E.P w t u o.type elem ie zc cy (y :: ys).length us)
  (y0:fK esz (y :: ys)) (y1:aA R w (an (y :: ys)) us) (y2:∀ v∈us,v.oneCell'=true) (y3:us.length=(y :: ys).length * esz)
  {fs:List Nat} (e9:nth s.G id=some (.aM fs esz elem)) (qu:nth fs j=some es.length) (hb:(es.length+(y :: ys).length) * eb≤140737488355328) :
  bk E R w β s a o ((s.bp (aw s.G id (.aM (aw fs j (es.length+(y :: ys).length)) esz elem))).put o.dst (.v (.list (.aM id j) esz (es++(y :: ys))))):=by
 obtain ⟨zc,mj,xT⟩:=b8 f6
 have hA:=hA zc mj
 obtain ⟨d1,d2⟩:=Rel.cells (xT R w) mQ
 have mP:zc.cells.size=esz:=by rw [← hz,d1.length]; simp
 have mn:0 < (y :: ys).length:=by simp
 have hm:es.length+(y :: ys).length≤140737488355328:=Nat.le_trans (Nat.le_mul_of_pos_right _ Ad) hb
 obtain ⟨x0,xs,x1,x2,x3,x4⟩:=dQ (esz:=esz) h0 (.inr rfl)
 obtain ⟨ro,bj⟩:∃ ro,nth R.obj id=some ro:=by
  cases h0 with
  | iS q _=>exact ⟨_,q⟩
  | list _ _ _ hk=>obtain ⟨ro,q,_⟩:=hk; exact ⟨ro,q⟩
 have b7:=h.g.obj id _ _ e9 bj
 cases ro with
 | none=>exact b7.elim
 | aZ=>exact b7.elim
 | bn _=>exact b7.elim
 | tok _ _ _=>exact b7.elim
 | aM ts=>
 have b7:qP R w esz elem fs ts:=b7
 have Sn:j < ts.length:=by rw [b7.1]; exact ba qu
 obtain ⟨tr,ht⟩:∃ tr,nth ts j=some tr:=⟨ts[j],by rw [aJ]; exact List.getElem?_eq_getElem Sn⟩
 have km:=b7.2.2 j _ _ qu ht
 have v7:∀ i f b c,nth ts i=some (.tok f b c)→b < w.heap.size:=fun i f b c hi=>h.g.bl ⟨id,_,bj,i,f,c,hi⟩
 -- where a new block has been made
 have fresh:∀ {old:Nat},(∀ b c,iT tr (.tok (es.length+(y :: ys).length) b c)) →
   (Builtin.append_ #[t,u] o.type #[cx,cy]).run E.P w=.ok (.slice (some ⟨w.heap.size,0,none⟩) (es.length+(y :: ys).length) (grownCap w (es.length+(y :: ys).length) old elem)) (w.drew.alloc (.cells (xs.toArray++us.toArray++Builtin.zeroCells zc.cells (grownCap w (es.length+(y :: ys).length) old elem - (es.length+(y :: ys).length))) elem)) →
   bk E R w β s a o ((s.bp (aw s.G id (.aM (aw fs j (es.length+(y :: ys).length)) esz elem))).put o.dst (.v (.list (.aM id j) esz (es++(y :: ys))))):=by
  intro old hle aU
  have qO:=grownCap_ge w (es.length+(y :: ys).length) old elem
  have Ph:=grownCap_le_maxLen w (es.length+(y :: ys).length) old elem (by unfold maxLen; omega)
  have IB:(xs.toArray++us.toArray++Builtin.zeroCells zc.cells (grownCap w (es.length+(y :: ys).length) old elem - (es.length+(y :: ys).length))).size=grownCap w (es.length+(y :: ys).length) old elem * esz:=by
   simp only [Array.size_append,List.size_toArray,size_zeroCells,mP,x3,y3,← Nat.add_mul]
   congr 1
   omega
  generalize ft:xs.toArray++us.toArray++Builtin.zeroCells zc.cells (grownCap w (es.length+(y :: ys).length) old elem - (es.length+(y :: ys).length))=cur at aU IB
  have o1:=One.drew w (.cells cur elem)
  obtain ⟨r1,r2⟩:=h.JD o1 (n:=(es.length+(y :: ys).length) * esz) (r1:=.aM (aw ts j (.tok (es.length+(y :: ys).length) w.heap.size (grownCap w (es.length+(y :: ys).length) old elem)))) (go:=.aM (aw fs j (es.length+(y :: ys).length)) esz elem) e9 bj
   (oo.set ht (hle _ _)) (fun b hb=>z7 hb) (qP.set b7 ⟨rfl,cur,o1.new,qO,Ph,IB,fun o' lO hi=>by
    rcases hi with hi | ⟨_,hi⟩
    ·have:=h.g.wf _ _ hi
     omega
    ·omega⟩ (fun i f c hi=>absurd (v7 i f _ c hi) (Nat.lt_irrefl _)) (fun i f b c _ hi=>⟨o1.old b (v7 i f b c hi),fun o' lO=>by
     rcases lO with lO | ⟨lO,_⟩
     ·exact lO
     ·have:=v7 i f b c hi
      omega⟩))
  have e:=r2.ext
  refine ⟨_,_,_,_,β,dJ aU,.inl rfl,r1.put o.dst ?_,by rw [aI]; exact r2⟩
  refine Rel.list (nj (vs:=xs++us) (iH x0 y0) (by rw [bP]; exact (x1.mono e).append (y1.mono e)) (fB x2 y2) (fun j v hj=>?_) (fun j hj=>.inr ⟨rfl,by rw [List.length_append,x3,y3,← Nat.add_mul] at hj; exact hj⟩)) (by simp) qO ⟨_,az bj,_,az ht,Nat.le_refl _,fun _=>⟨rfl,rfl,rfl⟩⟩
  rw [cell_of_row _ _ j _ _ _ o1.new,← ft]
  have bD:=(List.getElem?_eq_some_iff.1 hj).1
  rw [← Array.getElem?_toList]
  simp only [Array.toList_append,List.append_assoc]
  rw [← List.append_assoc,List.getElem?_append_left bD]
  exact hj
 rcases x4 with ⟨rfl,rfl,ad,rfl,hd⟩ | ⟨b,o',cap,rfl,ME,xk,ph,xE⟩
 ·obtain rfl:ad=none:=by
   rcases hd with hd | hd
   ·exact hd
   ·cases hd
  simp only [List.length_nil] at hb km
  have aU:=hA.nil mn (by simp only [List.length_nil] at hm; omega) (by rw [f3]; rw [Nat.zero_add] at hb; omega)
  cases tr with
  | aZ=>exact fresh (old:=0) (fun b c=>by simp only [iT,List.length_cons]; omega) (by simpa using aU)
  | full f'=>
   have km:f'=0:=km
   subst km
   exact fresh (old:=0) (fun b c=>by simp only [iT,List.length_cons]; omega) (by simpa using aU)
  | tok f' g c=>
   obtain ⟨km,_⟩:=km
   subst km
   exact fresh (old:=0) (fun b c=>by simp only [iT,List.length_cons,List.length_nil]; omega) (by simpa using aU)
 ·obtain ⟨jg,MF,pg⟩:=xk
  rw [bj] at MF
  cases MF
  obtain ⟨t',q3,pg⟩:=pg
  rw [ht] at q3
  cases q3
  cases tr with
  | aZ=>exact pg.elim
  | full f'=>
   have hf:f'=es.length:=km
   subst hf
   have fg:=pg.2 rfl
   subst fg
   have aU:=hA.grow mn ⟨b,o',none⟩ es.length es.length xs (by rw [x3,f2]) ph (by omega) (by omega) (growslice_fits (by omega) (by rw [f3]; exact hb))
   exact fresh (fun b c=>by simp only [iT]; omega) aU
  | tok f' g c=>
   obtain ⟨rfl,cur,ft,k1,k3,k4,k5⟩:=km
   obtain ⟨rfl,rfl,rfl⟩:=pg.2 rfl
   by_cases eE:es.length+(y :: ys).length≤cap
   ·have hle:(es.length+(y :: ys).length) * esz≤cap * esz:=Nat.mul_le_mul_right _ eE
    have aU:=hA.room mn b es.length cap cur ft eE (by rw [f2,y3,← Nat.add_mul,k4]; exact hle)
    rw [f2] at aU
    generalize Cv:(cur.toList.take (es.length * esz)++us++cur.toList.drop (es.length * esz+us.length)).toArray=cur2 at aU
    have gl:cur.toList.length=cap * esz:=by rw [show cur.toList.length=cur.size from Array.length_toList,k4]
    have UD:es.length * esz≤cap * esz:=Nat.mul_le_mul_right _ k1
    have Ba:cur2.size=cap * esz:=by
     rw [← Cv,List.size_toArray]
     simp only [List.length_append,List.length_take,List.length_drop,y3,gl]
     rw [Nat.add_mul] at hle
     omega
    have rm:∀ o',R.I b o'→cur2[o']?=cur[o']?:=fun o' hi=>by
     have ho:o' < es.length * esz:=Nat.lt_of_not_le fun hle=>k5 o' hle hi
     rw [← Cv,List.append_assoc]
     simp only [List.getElem?_toArray]
     rw [List.getElem?_append_left (by rw [List.length_take]; omega),List.getElem?_take,if_pos ho,Array.getElem?_toList]
    have new:(w.setRow b cur2).heap[b]?=some (.cells cur2 elem (0,0)):=setRow_heap w b cur cur2 elem (0,0) ft
    obtain ⟨r0,r1,r2⟩:=h.Fm (cur2:=cur2) (n:=(es.length+(y :: ys).length) * esz) (r1:=.aM (aw ts j (.tok (es.length+(y :: ys).length) b cap))) (go:=.aM (aw fs j (es.length+(y :: ys).length)) esz elem) e9 bj ⟨j,_,_,ht⟩
     (oo.set ht ⟨by omega,fun e=>by omega⟩) (fun b' iU=>(z7 iU).elim (fun e=>by rw [e]; exact ⟨j,_,_,ht⟩) (fun x=>x)) ft rm (fun _=>qP.set b7 ⟨rfl,cur2,new,eE,k3,Ba,fun o' lO hi=>by
      rcases hi with hi | ⟨_,hi⟩
      ·exact k5 o' (Nat.le_trans (Nat.mul_le_mul_right _ (Nat.le_add_right _ _)) lO) hi
      ·omega⟩ (fun i f c hi=>b7.2.1 i j _ _ _ _ _ hi ht) (fun i f b' c bT hi=>by
       have LG:b'≠b:=fun e=>by subst e; exact bT (b7.2.1 i j _ _ _ _ _ hi ht)
       refine ⟨setRow_other w b b' cur2 LG,fun o' lO=>?_⟩
       rcases lO with lO | ⟨lO,_⟩
       ·exact lO
       ·exact absurd lO LG))
    refine ⟨_,_,_,_,β,dJ aU,.inl rfl,r1.put o.dst ?_,by rw [aI]; exact r2⟩
    have Pj:cur.toList.take (es.length * esz)=xs:=by
     have Fp:xs.length=es.length * esz:=x3
     apply List.ext_getElem?
     intro j
     rw [List.getElem?_take]
     split
     ·rename_i hj
      have EZ:j < xs.length:=by omega
      have ou:=ph j xs[j] (List.getElem?_eq_getElem EZ)
      rw [bG,Nat.zero_add,cell_of_row w b j cur elem (0,0) ft] at ou
      rw [Array.getElem?_toList,ou,List.getElem?_eq_getElem EZ]
     ·rw [List.getElem?_eq_none (by omega)]
    refine Rel.list (nj (vs:=xs++us) (iH x0 y0) (by rw [bP]; exact (x1.mono r0).append (y1.mono r0)) (fB x2 y2) (fun j v hj=>?_) (fun j hj=>.inr ⟨rfl,by rw [List.length_append,x3,y3,← Nat.add_mul] at hj; exact hj⟩)) (by simp) eE ⟨_,az bj,_,az ht,Nat.le_refl _,fun _=>⟨rfl,rfl,rfl⟩⟩
    rw [cell_of_row _ _ j _ _ _ new,← Cv,Pj]
    simp only [List.getElem?_toArray]
    rw [List.getElem?_append_left (List.getElem?_eq_some_iff.1 hj).1]
    exact hj
   ·have aU:=hA.grow mn ⟨b,0,none⟩ es.length cap xs (by rw [x3,f2]) ph (by omega) (by omega) (growslice_fits (by omega) (by rw [f3]; exact hb))
    exact fresh (fun b c=>⟨by omega,fun e=>by omega⟩) aU
theorem p9 (h:aP E R w β s a) {t u:TypeId} {id j:Nat} {es:List AV} {y:AV} {ys:List AV} {cx cy:Value} {us:List Value}
  (dJ:∀ {c:Value} {w':World},(Builtin.append_ #[t,u] o.type #[cx,cy]).run E.P w=.ok c w'→(execOp a.eval o).run E.P w=.ok (.value c) w')
  {elem esz eb:Nat} {z:AV} (Ad:1≤eb) (hz:z.cells.length=esz) (mQ:z.aG=true)
  {ie:TypeInfo} (f2:ie.size=esz) (f3:ie.bytes=eb) (f6:dY ie=some z)
  (h0:Rel R w (.list (.aM id j) esz es) cx) (hA:∀ zc:Value,ie.zero=some zc→OA E.P w t u o.type elem ie zc cy (y :: ys).length us)
  (y0:fK esz (y :: ys)) (y1:aA R w (an (y :: ys)) us) (y2:∀ v∈us,v.oneCell'=true) (y3:us.length=(y :: ys).length * esz)
  {fs:List Nat} (e9:nth s.G id=some (.aM fs esz elem)) (qu:Fb fs j es.length=true) (hb:(es.length+(y :: ys).length) * eb≤140737488355328) :
  bk E R w β s a o ((s.bp (aw s.G id (.aM (AT fs j (es.length+(y :: ys).length)) esz elem))).put o.dst (.v (.list (.aM id j) esz (es++(y :: ys))))):=by
 unfold Fb at qu
 rw [Bool.or_eq_true,decide_eq_true_eq,Bool.and_eq_true] at qu
 rcases qu with qu | ⟨hj,hl⟩
 ·have bT:Nat.beq j fs.length=false:=by
   cases hb:Nat.beq j fs.length with
   | false=>rfl
   | true=>
    have:=Nat.eq_of_beq_eq_true hb
    have:=ba qu
    omega
  unfold AT
  rw [bT]
  exact jt h dJ Ad hz mQ f2 f3 f6 h0 hA y0 y1 y2 y3 e9 qu hb
 ·have ru:AT fs j (es.length+(y :: ys).length)=fs++[es.length+(y :: ys).length]:=by
   unfold AT
   rw [hj]
   rfl
  rw [ru]
  have hj:=Nat.eq_of_beq_eq_true hj
  have hl:=Nat.eq_of_beq_eq_true hl
  subst hj
  have bD:=ba e9
  rw [← h.g.len] at bD
  obtain ⟨ro,bj⟩:∃ ro,nth R.obj id=some ro:=⟨R.obj[id],by rw [aJ]; exact List.getElem?_eq_getElem bD⟩
  obtain ⟨ts,rfl,z1,z2,z3⟩:=h.yx e9 (nfs:=[0]) (nts:=[.aZ]) rfl (fun j f t h1 h2=>by
   cases j with
   | zero=>simp only [nth] at h1 h2; cases h1; cases h2; exact rfl
   | succ j=>simp [nth] at h1) (fun j f b c hj=>by
   cases j with
   | zero=>simp only [nth] at hj; cases hj
   | succ j=>simp [nth] at hj) bj
  have key:=jt z2 dJ Ad hz mQ f2 f3 f6 (h0.mono z3.ext) hA y0 (y1.mono z3.ext) y2 y3 (fs:=fs++[0]) (az e9) (by rw [hl]; exact dN _ _) hb
  have e1:aw (fs++[0]) fs.length (es.length+(y :: ys).length)=fs++[es.length+(y :: ys).length]:=by
   rw [eI,List.set_append_right _ _ (Nat.le_refl _),Nat.sub_self]
   rfl
  have e2:∀ x y:GO,aw (aw s.G id x) id y=aw s.G id y:=fun x y=>by rw [eI,eI,eI,List.set_set]
  rw [e1] at key
  refine bk.step rfl z3 ?_
  have e3:((s.bp (aw s.G id (.aM (fs++[0]) esz elem))).bp (aw (s.bp (aw s.G id (.aM (fs++[0]) esz elem))).G id (.aM (fs++[es.length+(y :: ys).length]) esz elem)))=s.bp (aw s.G id (.aM (fs++[es.length+(y :: ys).length]) esz elem)):=by
   simp only [St.bp,e2]
  rw [e3] at key
  exact key
theorem ju (h:aP E R w β s a) {t u:TypeId} {x:AV} {ys:List AV} {cx cy:Value} {us:List Value}
  (dJ:∀ {c:Value} {w':World},(Builtin.append_ #[t,u] o.type #[cx,cy]).run E.P w=.ok c w'→(execOp a.eval o).run E.P w=.ok (.value c) w')
  {i:TI} {elem esz eb:Nat} {ag:Bool} {z:AV} (hk:i.k=.sl elem esz ag eb (some z)) (Ad:1≤eb) (hz:z.cells.length=esz) (mQ:z.aG=true)
  {ie:TypeInfo} (f1:E.P.info? elem=some ie) (f2:ie.size=esz) (f3:ie.bytes=eb) (f6:dY ie=some z)
  (h0:Rel R w x cx) (hA:∀ zc:Value,ie.zero=some zc→OA E.P w t u o.type elem ie zc cy ys.length us)
  (y0:fK esz ys) (y1:aA R w (an ys) us) (y2:∀ v∈us,v.oneCell'=true) (y3:us.length=ys.length * esz)
  {v:AV} {G':List GO} (ha:dZ s.G elem esz eb x ys=some (true,v,G')) :
  bk E R w β s a o ((s.bp G').put o.dst (.v v)):=by
 obtain ⟨zc,mj,xT⟩:=b8 f6
 have Rj:=hA
 have hA:=hA zc mj
 obtain ⟨d1,d2⟩:=Rel.cells (xT R w) mQ
 have mP:zc.cells.size=esz:=by rw [← hz,d1.length]; simp
 unfold dZ at ha
 split at ha
 ·-- nothing is appended
  rename_i k sz es
  have My:us=[]:=List.eq_nil_of_length_eq_zero (by simpa using y3)
  have hG:G'=s.G∧Rel R w v cx:=by
   split at ha
   ·injection ha with ha; injection ha with _ ha; injection ha with p q
    subst p; subst q
    exact ⟨rfl,h0⟩
   ·injection ha with ha; injection ha with _ ha; injection ha with p q
    subst p; subst q
    exact ⟨rfl,h0⟩
  obtain ⟨rfl,Sp⟩:=hG
  refine ak (s:=s) h (c:=cx) (dJ ?_) Sp
  cases h0 with
  | gr=>exact hA.zero rfl _ _ _ (Nat.le_refl 0)
  | fy=>exact hA.zero rfl _ _ _ (Nat.le_refl 0)
  | jK=>exact hA.zero rfl _ _ _ (Nat.le_refl 0)
  | jl=>exact hA.zero rfl _ _ _ (Nat.le_refl 0)
  | iS=>exact hA.zero rfl _ _ _ (Nat.le_refl 0)
  | list hr hlen fg _=>exact hA.zero rfl _ _ _ fg
 ·-- something is appended
  rename_i k sz es y ys hA
  have mn:0 < (y :: ys).length:=by simp
  -- what is shown where a new block has been made
  have grown:∀ {n old:Nat} {xs:List Value} {es':List AV},(es'.length=n)→fK esz es'→aA R w (an es') xs→(∀ v∈xs,v.oneCell'=true)→xs.length=n * esz →
    (n+(y :: ys).length) * eb≤140737488355328→n+(y :: ys).length≤maxLen→∀ (R':ah) (G2:List GO) (id:Nat),
    aP E R' (w.drew.alloc (.cells (xs.toArray++us.toArray++Builtin.zeroCells zc.cells (grownCap w (n+(y :: ys).length) old elem - (n+(y :: ys).length))) elem)) β (s.bp G2) a →
    Step R w β s.boxes R' (w.drew.alloc (.cells (xs.toArray++us.toArray++Builtin.zeroCells zc.cells (grownCap w (n+(y :: ys).length) old elem - (n+(y :: ys).length))) elem)) β s.boxes →
    (∀ j,j < (n+(y :: ys).length) * esz→R'.I w.heap.size j)→nth R'.obj id=some (.tok (n+(y :: ys).length) w.heap.size (grownCap w (n+(y :: ys).length) old elem)) →
    (Builtin.append_ #[t,u] o.type #[cx,cy]).run E.P w=.ok (.slice (some ⟨w.heap.size,0,none⟩) (n+(y :: ys).length) (grownCap w (n+(y :: ys).length) old elem)) (w.drew.alloc (.cells (xs.toArray++us.toArray++Builtin.zeroCells zc.cells (grownCap w (n+(y :: ys).length) old elem - (n+(y :: ys).length))) elem)) →
    bk E R w β s a o ((s.bp G2).put o.dst (.v (.list (.own id) esz (es'++(y :: ys))))):=by
   intro n old xs es' vG JJ MD pW tU _ _ R' G2 id b7 Ae hI hid aU
   refine ⟨_,_,_,R',β,dJ aU,.inl rfl,b7.put o.dst ?_,by rw [aI]; exact Ae⟩
   have e:=Ae.ext
   refine Rel.list (nj (vs:=xs++us) (iH JJ y0) (by rw [bP]; exact (MD.mono e).append (y1.mono e)) (fB pW y2) (fun j v hj=>?_) (fun j hj=>hI j (by rw [List.length_append,tU,y3,← Nat.add_mul] at hj; exact hj))) (by simp [vG]) (grownCap_ge w _ _ _) ⟨_,hid,Nat.le_refl _,fun _=>⟨rfl,rfl,rfl⟩⟩
   have nh:(w.drew.alloc (.cells (xs.toArray++us.toArray++Builtin.zeroCells zc.cells (grownCap w (n+(y :: ys).length) old elem - (n+(y :: ys).length))) elem)).heap[w.heap.size]?=some (.cells (xs.toArray++us.toArray++Builtin.zeroCells zc.cells (grownCap w (n+(y :: ys).length) old elem - (n+(y :: ys).length))) elem (0,0)):=heap_alloc_new w.drew _
   rw [cell_of_row _ _ j _ _ _ nh]
   have bD:=(List.getElem?_eq_some_iff.1 hj).1
   rw [← Array.getElem?_toList]
   simp only [Array.toList_append,List.append_assoc]
   rw [← List.append_assoc,List.getElem?_append_left bD]
   exact hj
  have Cw:∀ {n old:Nat} {xs:List Value},xs.length=n * esz→n+(y :: ys).length≤maxLen→(xs.toArray++us.toArray++Builtin.zeroCells zc.cells (grownCap w (n+(y :: ys).length) old elem - (n+(y :: ys).length))).size=grownCap w (n+(y :: ys).length) old elem * esz:=by
   intro n old xs tU _
   have qO:=grownCap_ge w (n+(y :: ys).length) old elem
   simp only [Array.size_append,List.size_toArray,size_zeroCells,mP,tU,y3,← Nat.add_mul]
   congr 1
   omega
  have fresh:∀ {n old:Nat} {xs:List Value} {es':List AV},(es'.length=n)→fK esz es'→aA R w (an es') xs→(∀ v∈xs,v.oneCell'=true)→xs.length=n * esz →
    (n+(y :: ys).length) * eb≤140737488355328→n+(y :: ys).length≤maxLen →
    (Builtin.append_ #[t,u] o.type #[cx,cy]).run E.P w=.ok (.slice (some ⟨w.heap.size,0,none⟩) (n+(y :: ys).length) (grownCap w (n+(y :: ys).length) old elem)) (w.drew.alloc (.cells (xs.toArray++us.toArray++Builtin.zeroCells zc.cells (grownCap w (n+(y :: ys).length) old elem - (n+(y :: ys).length))) elem)) →
    bk E R w β s a o ((s.bp (s.G++[.tok (n+(y :: ys).length) esz elem])).put o.dst (.v (.list (.own s.G.length) esz (es'++(y :: ys))))):=by
   intro n old xs es' vG JJ MD pW tU hb hm aU
   obtain ⟨r1,r2⟩:=h.JB (cur:=xs.toArray++us.toArray++Builtin.zeroCells zc.cells (grownCap w (n+(y :: ys).length) old elem - (n+(y :: ys).length))) (elem:=elem) (grownCap_ge w (n+(y :: ys).length) old elem) (grownCap_le_maxLen w _ old elem hm) (Cw tU hm)
   exact grown vG JJ MD pW tU hb hm _ _ _ r1 r2 (fun j hj=>.inr ⟨rfl,hj⟩) (by rw [← h.g.len]; exact dN _ _) aU
  have JK:∀ {n:Nat},(n+(y :: ys).length) * eb≤140737488355328→n+(y :: ys).length≤140737488355328:=fun {n} hb=>Nat.le_trans (Nat.le_mul_of_pos_right _ Ad) hb
  split at ha
  ·-- nil
   injection ha with ha; injection ha with hc ha; injection ha with p q
   subst p; subst q
   have hb:=of_decide_eq_true hc
   cases h0 with
   | list _ _ _ Ch=>exact Ch.elim
   | gr=>
    simp only [List.length_nil] at hb
    have hm:=JK hb
    refine fresh (n:=0) (old:=0) (xs:=[]) (es':=[]) rfl (fun e he=>by simp at he) .nil (by simp) (by simp) hb (by unfold maxLen; omega) ?_
    have aU:=hA.nil mn (by omega) (by rw [f3]; rw [Nat.zero_add] at hb; omega)
    simpa using aU
  ·-- as long as its capacity
   split at ha
   ·rename_i cZ
    have cZ:=Nat.eq_of_beq_eq_true cZ
    subst cZ
    injection ha with ha; injection ha with hc ha; injection ha with p q
    subst p; subst q
    have hb:=of_decide_eq_true hc
    have hm:=JK hb
    obtain ⟨x0,xs,x1,x2,x3,x4⟩:=dQ (esz:=sz) h0 (.inr rfl)
    rcases x4 with ⟨rfl,rfl,ad,rfl,hd⟩ | ⟨b,o',cap,rfl,ME,xk,ph,_⟩
    ·rcases hd with rfl | hd
     ·cases h0
     ·cases hd
    ·have fg:cap=es.length:=xk
     subst fg
     refine fresh (n:=es.length) (old:=es.length) (xs:=xs) (es':=es) rfl x0 x1 x2 x3 hb (by unfold maxLen; omega) ?_
     exact hA.grow mn ⟨b,o',none⟩ es.length es.length xs (by rw [x3,f2]) ph (by omega) (by omega) (growslice_fits (by omega) (by rw [f3]; exact hb))
   ·cases ha
  ·-- of a token
   rename_i id
   split at ha
   ·rename_i f a8 e' e9
    split at ha
    ·rename_i bU
     simp only [Bool.and_eq_true] at bU
     obtain ⟨⟨q1,q2⟩,q3⟩:=bU
     have q1:=Nat.eq_of_beq_eq_true q1
     have q2:=Nat.eq_of_beq_eq_true q2
     have q3:=Nat.eq_of_beq_eq_true q3
     subst q1; subst q2; subst q3
     injection ha with ha; injection ha with hc ha; injection ha with p q
     subst p; subst q
     simp only [Bool.and_eq_true] at hc
     have qu:=of_decide_eq_true hc.1
     have hb:=of_decide_eq_true hc.2
     subst qu
     have hm:=JK hb
     obtain ⟨x0,xs,x1,x2,x3,x4⟩:=dQ (esz:=sz) h0 (.inr rfl)
     rcases x4 with ⟨rfl,rfl,ad,rfl,hd⟩ | ⟨b,o',cap,rfl,ME,xk,ph,xE⟩
     ·obtain rfl:ad=none:=by
       rcases hd with hd | hd
       ·exact hd
       ·cases hd
      cases h0 with
      | @jl _ _ ro bj hon=>
      have b7:=h.g.obj id _ _ e9 bj
      cases ro with
      | none=>exact b7.elim
      | bn _=>exact b7.elim
      | tok f' g c=>
       obtain ⟨rfl,_⟩:=b7
       simp [jJ] at hon
      | aM _=>exact b7.elim
      | aZ=>
       simp only [List.length_nil] at hb
       have aU:=hA.nil mn (by omega) (by rw [f3]; rw [Nat.zero_add] at hb; omega)
       have cZ:=Cw (n:=0) (old:=0) (xs:=[]) (by simp) (by unfold maxLen; omega)
       obtain ⟨r1,r2⟩:=h.Cq (cur:=[].toArray++us.toArray++Builtin.zeroCells zc.cells (grownCap w (0+(y :: ys).length) 0 e' - (0+(y :: ys).length))) (elem:=e') (n:=0+(y :: ys).length) (cap:=grownCap w (0+(y :: ys).length) 0 e') e9 bj (fun b c=>by simp only [bF]; omega) (grownCap_ge w _ _ _) (grownCap_le_maxLen w _ _ _ (by unfold maxLen; omega)) cZ
       exact grown (n:=0) (es':=[]) rfl (fun e he=>by simp at he) .nil (by simp) (by simp) hb (by unfold maxLen; omega) _ _ _ r1 r2 (fun j hj=>.inr ⟨rfl,hj⟩) (az bj) (by simpa using aU)
     ·obtain ⟨ro,bj,pg⟩:=xk
      have b7:=h.g.obj id _ _ e9 bj
      cases ro with
      | none=>exact b7.elim
      | aZ=>exact pg.elim
      | bn _=>exact b7.elim
      | aM _=>exact b7.elim
      | tok f' g c=>
       obtain ⟨rfl,cur,ft,k1,k3,k4,k5⟩:=b7
       obtain ⟨rfl,rfl,rfl⟩:=pg.2 rfl
       by_cases eE:es.length+(y :: ys).length≤cap
       ·have hle:(es.length+(y :: ys).length) * sz≤cap * sz:=Nat.mul_le_mul_right _ eE
        have aU:=hA.room mn b es.length cap cur ft eE (by rw [f2,y3,← Nat.add_mul,k4]; exact hle)
        rw [f2] at aU
        obtain ⟨r0,r1,r2⟩:=h.Fk (news:=us) (n:=es.length+(y :: ys).length) e9 bj (by omega) eE ft k4 k3 (by rw [y3,← Nat.add_mul])
        refine ⟨_,_,_,_,β,dJ aU,.inl rfl,r1.put o.dst ?_,by rw [aI]; exact r2⟩
        have nh:=setRow_heap w b cur (cur.toList.take (es.length * sz)++us++cur.toList.drop (es.length * sz+us.length)).toArray e' (0,0) ft
        have Pj:cur.toList.take (es.length * sz)=xs:=by
         have Fp:xs.length=es.length * sz:=x3
         apply List.ext_getElem?
         intro j
         rw [List.getElem?_take]
         split
         ·rename_i hj
          have EZ:j < xs.length:=by omega
          have ou:=ph j xs[j] (List.getElem?_eq_getElem EZ)
          rw [bG,Nat.zero_add,cell_of_row w b j cur e' (0,0) ft] at ou
          rw [Array.getElem?_toList,ou,List.getElem?_eq_getElem EZ]
         ·rw [List.getElem?_eq_none (by omega)]
        refine Rel.list (nj (vs:=xs++us) (iH x0 y0) (by rw [bP]; exact (x1.mono r0).append (y1.mono r0)) (fB x2 y2) (fun j v hj=>?_) (fun j hj=>.inr ⟨rfl,by rw [List.length_append,x3,y3,← Nat.add_mul] at hj; exact hj⟩)) (by simp) eE ⟨_,az bj,Nat.le_refl _,fun _=>⟨rfl,rfl,rfl⟩⟩
        rw [cell_of_row _ _ j _ _ _ nh,Pj]
        simp only [List.getElem?_toArray]
        rw [List.getElem?_append_left (List.getElem?_eq_some_iff.1 hj).1]
        exact hj
       ·have aU:=hA.grow mn ⟨b,0,none⟩ es.length cap xs (by rw [x3,f2]) ph (by omega) (by omega) (growslice_fits (by omega) (by rw [f3]; exact hb))
        obtain ⟨r1,r2⟩:=h.Cq (cur:=xs.toArray++us.toArray++Builtin.zeroCells zc.cells (grownCap w (es.length+(y :: ys).length) cap e' - (es.length+(y :: ys).length))) (elem:=e') (n:=es.length+(y :: ys).length) (cap:=grownCap w (es.length+(y :: ys).length) cap e') e9 bj (fun b c=>⟨by omega,fun e=>by omega⟩) (grownCap_ge w _ _ _) (grownCap_le_maxLen w _ _ _ (by unfold maxLen; omega)) (Cw x3 (by unfold maxLen; omega))
        exact grown rfl x0 x1 x2 x3 hb (by unfold maxLen; omega) _ _ _ r1 r2 (fun j hj=>.inr ⟨rfl,hj⟩) (az bj) aU
    ·cases ha
   ·cases ha
  ·-- of a member of a family
   rename_i id j
   split at ha
   ·rename_i fs a8 e' e9
    split at ha
    ·rename_i bU
     simp only [Bool.and_eq_true] at bU
     obtain ⟨⟨q1,q2⟩,q3⟩:=bU
     have q1:=Nat.eq_of_beq_eq_true q1
     have q2:=Nat.eq_of_beq_eq_true q2
     have q3:=Nat.eq_of_beq_eq_true q3
     subst q1; subst q2; subst q3
     injection ha with ha; injection ha with hc ha; injection ha with p q
     subst p; subst q
     simp only [Bool.and_eq_true,decide_eq_true_eq] at hc
     exact p9 h dJ Ad hz mQ f2 f3 f6 h0 (fun Pk JL=>Rj Pk JL) y0 y1 y2 y3 e9 hc.1 hc.2
    ·cases ha
   ·cases ha
  ·cases ha
 ·-- a slice that grows, and nothing
  injection ha with ha; injection ha with _ ha; injection ha with p q
  subst p; subst q
  refine ak (s:=s) h (c:=cx) (dJ ?_) h0
  cases h0 with
  | gu=>exact hA.zero rfl _ _ _ (Nat.le_refl 0)
  | dI _ _ fg=>exact hA.zero rfl _ _ _ fg
 ·-- a slice that grows
  rename_i id f' off sz len y ys hA
  split at ha
  ·rename_i es a8 e' e9
   split at ha
   ·rename_i bU
    simp only [Bool.and_eq_true] at bU
    obtain ⟨⟨q1,q2⟩,q3⟩:=bU
    have q1:=Nat.eq_of_beq_eq_true q1
    have q2:=Nat.eq_of_beq_eq_true q2
    have q3:=Nat.eq_of_beq_eq_true q3
    subst q1; subst q2; subst q3
    injection ha with ha; injection ha with hc ha; injection ha with p q
    subst p; subst q
    simp only [Bool.and_eq_true,decide_eq_true_eq] at hc
    exact kh h dJ Ad hz mQ f2 f3 f6 h0 (fun Pk JL=>Rj Pk JL) y0.g y1 y2 y3 e9 hc.1.1.1 hc.1.1.2 hc.1.2 hc.2
   ·cases ha
  ·cases ha
 ·cases ha
theorem v8 (h:aP E R w β s a) {args:Array Operand} {t:TypeId} (ho:o.op=.call { callee:=.builtin .append,args:=args,argTypes:=#[t,t] }) {x:AV} {k2:LK} {Is:Nat} {ys:List AV}
  (hl:jf E s.ae args.toList=some [x,.list k2 Is ys]) {i:TI} (hi:E.ti t=some i) {elem esz eb:Nat} {ag:Bool} {z:AV} (hk:i.k=.sl elem esz ag eb (some z)) (Ba:ys=[]∨Is=esz) (Sq:1≤esz) (Ad:1≤eb) (hz:z.cells.length=esz) (mQ:z.aG=true)
  {v:AV} {G':List GO} (ha:dZ s.G elem esz eb x ys=some (true,v,G')) :
  bk E R w β s a o ((s.bp G').put o.dst (.v v)):=by
 have hr:=ef h hl
 generalize hv:args.toList.map a.eval=vs at hr
 have hx:=cR (E:=E) (w:=w) ho vs hv
 cases hr with
 | @cons _ cx _ _ h0 h1=>
 cases h1 with
 | @cons _ cy _ _ h1 h2=>
 cases h2
 obtain ⟨eC,u,e1,e2,e3,e4,e5,e6⟩:=bu E hi
 have Fi:=hk
 rw [hk] at e5
 obtain ⟨ie,ue,rfl,f1,f2,f3,f4,f5,f6⟩:=cA e5
 have lP:(⟨[cx,cy]⟩:Array Value)=#[cx,cy]:=rfl
 obtain ⟨y0,us,y1,y2,y3,y4⟩:=dQ (esz:=esz) h1 Ba
 refine ju h (cx:=cx) (cy:=cy) (t:=t) (u:=t) (fun hh=>?_) Fi Ad hz mQ f1 f2 f3 f6 h0 (fun zc mj=>?_) y0 y1 y2 y3 ha
 ·rw [hx]
  simp only [builtin,lP,Sem.run_bind,hh,Result.andThen_ok,Sem.run_pure]
 ·rcases y4 with ⟨rfl,rfl,ad,rfl,_⟩ | ⟨Ms,oy,yz,rfl,Pl,_,rv,yE⟩
  ·refine ⟨fun _ base len cap zY=>?_,fun hh=>absurd hh (by simp),fun hh=>absurd hh (by simp),fun hh=>absurd hh (by simp)⟩
   cases ad <;> simp [Builtin.append_,run_underlying e2,run_sizeOf w f1,Builtin.lenOf,Builtin.firstCells,zY,storeCells,loadCells,loadCellsFrom] <;>
    cases base <;> simp [storeCells]
  ·refine ⟨fun hn base len cap zY=>?_,fun hh Cx Cy=>run_append_nil (P:=E.P) w t o.type elem ie zc e2 f1 mj _ _ yz us (by rw [y3,f2]) rv hh Cx Cy,fun _ b sLen iY uO we Fq hg Cx Cy=>run_append_grow (P:=E.P) w t o.type elem ie zc e2 f1 mj b sLen iY uO we Fq _ _ yz us (by rw [y3,f2]) rv hg Cx Cy,fun _ g sLen iY cur hg eE tg=>run_append_room (P:=E.P) w t o.type elem ie e2 f1 g sLen iY cur hg _ _ yz us (by rw [y3,f2]) rv y2 eE tg⟩
   rw [hn]
   simp [Builtin.append_,run_underlying e2,run_sizeOf w f1,Builtin.lenOf,Builtin.firstCells,zY,storeCells,loadCells,loadCellsFrom]
   cases base <;> simp [storeCells]
theorem rA:∀ (bs:List UInt8),aA R w (an (bs.map mU)) (Lib.strCells ⟨⟨bs⟩⟩)
 | []=>.nil
 | b :: bs=>.cons (Rel.int .u8 b.toNat) (rA bs)
theorem qa (h:aP E R w β s a) {args:Array Operand} {t u:TypeId} (ho:o.op=.call { callee:=.builtin .append,args:=args,argTypes:=#[t,u] }) {x:AV} {bs:List UInt8}
  (hl:jf E s.ae args.toList=some [x,.str bs]) {i j:TI} (hi:E.ti t=some i) (hj:E.ti u=some j) {elem eb:Nat} {ag:Bool} {z:AV} (hk:i.k=.sl elem 1 ag eb (some z)) (LN:j.k=.str) (Ad:1≤eb) (hz:z.cells.length=1) (mQ:z.aG=true)
  {v:AV} {G':List GO} (ha:dZ s.G elem 1 eb x (bs.map mU)=some (true,v,G')) :
  bk E R w β s a o ((s.bp G').put o.dst (.v v)):=by
 have hr:=ef h hl
 generalize hv:args.toList.map a.eval=vs at hr
 have hx:=cR (E:=E) (w:=w) ho vs hv
 cases hr with
 | @cons _ cx _ _ h0 h1=>
 cases h1 with
 | @cons _ cy _ _ h1 h2=>
 cases h2
 obtain ⟨eC,ud,e1,e2,e3,e4,e5,e6⟩:=bu E hi
 obtain ⟨MG,Sr,g1,g2,g3,g4,g5,g6⟩:=bu E hj
 rw [LN] at g5
 have:=gQ g5
 subst this
 have Fi:=hk
 rw [hk] at e5
 obtain ⟨ie,ue,rfl,f1,f2,f3,f4,f5,f6⟩:=cA e5
 cases h1
 have cZ:(⟨⟨bs⟩⟩:ByteArray).size=bs.length:=rfl
 have hlen:(bs.map mU).length=bs.length:=List.length_map _
 have lP:(⟨[cx,.string ⟨⟨bs⟩⟩]⟩:Array Value)=#[cx,.string ⟨⟨bs⟩⟩]:=rfl
 have gl:(Lib.strCells ⟨⟨bs⟩⟩).length=bs.length:=Lib.strCells_length _
 refine ju h (cx:=cx) (cy:=.string ⟨⟨bs⟩⟩) (us:=Lib.strCells ⟨⟨bs⟩⟩) (t:=t) (u:=u) (fun hh=>?_) Fi Ad hz mQ f1 f2 f3 f6 h0 (fun zc mj=>?_) ?_ (rA bs) (Lib.strCells_oneCell _) (by rw [gl,hlen,Nat.mul_one]) ha
 ·rw [hx]
  simp only [builtin,lP,Sem.run_bind,hh,Result.andThen_ok,Sem.run_pure]
 ·rw [hlen]
  refine ⟨fun hn base len cap zY=>?_,fun hh Cx Cy=>?_,fun _ b sLen iY uO we Fq hg Cx Cy=>Lib.run_append_grow_string (P:=E.P) w t u o.type elem ie zc e2 g2 f1 mj b sLen iY uO we Fq ⟨⟨bs⟩⟩ hg Cx Cy,fun _ g sLen iY cur hg eE tg=>?_⟩
  ·have hb:bs=[]:=List.eq_nil_of_length_eq_zero hn
   subst hb
   have Ss:(⟨⟨[]⟩⟩:ByteArray).size=0:=rfl
   simp [Ss,Builtin.append_,run_underlying e2,run_underlying g2,run_sizeOf w f1,Builtin.lenOf,Builtin.firstCells,zY,storeCells]
   cases base <;> simp [storeCells]
  ·rw [run_append_nil_string (P:=E.P) w t u o.type elem ie zc e2 g2 f1 mj ⟨⟨bs⟩⟩ hh Cx Cy]
   simp [Lib.strCells,cZ]
  ·have:=Lib.run_append_room_string (P:=E.P) w t u o.type elem ie e2 g2 f1 f2 g sLen iY cur hg ⟨⟨bs⟩⟩ eE (by rw [f2,Nat.mul_one,gl] at tg; exact tg)
   rw [this,f2,Nat.mul_one,gl]
   rfl
 ·intro e he
  obtain ⟨b,_,rfl⟩:=List.mem_map.1 he
  exact ⟨rfl,rfl,rfl⟩
end ops
end Go.Am
