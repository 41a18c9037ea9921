/- The abstract machine: what it does is what the model does: slices that grow and are written. -/
import Derived.Test.YtegoimldbgdeiaaAmKC
import Derived.Lib.AppendStr
set_option linter.all false
namespace Go.Am
open Go
section lists
theorem ug {α:Type} (c us:List α) (n p sz off:Nat) (hn:n≤c.length) (hp:p+sz≤n) (ho:off+us.length≤sz) :
  (c.take (p+off)++us++c.drop (p+off+us.length)).take n =
   (c.take n).take p++((((c.take n).drop p).take sz).take off++us++(((c.take n).drop p).take sz).drop (off+us.length))++(c.take n).drop (p+sz):=by
 apply List.ext_getElem?
 intro j
 simp only [List.getElem?_append,List.getElem?_take,List.getElem?_drop,List.length_append,List.length_take,List.length_drop]
 by_cases h1:j < p
 ·rw [if_pos (by omega),if_pos (by omega),if_pos (by omega),if_pos (by omega),if_pos (by omega),if_pos (by omega),if_pos (by omega),if_pos (by omega)]
 ·by_cases h2:j < p+off
  ·rw [if_pos (by omega),if_pos (by omega),if_pos (by omega),if_pos (by omega),if_pos (by omega),if_neg (by omega),if_pos (by omega),if_pos (by omega),if_pos (by omega),if_pos (by omega),if_pos (by omega)]
   congr 1; omega
  ·by_cases h3:j < p+off+us.length
   ·rw [if_pos (by omega),if_pos (by omega),if_neg (by omega),if_pos (by omega),if_neg (by omega),if_pos (by omega),if_neg (by omega)]
    congr 1; omega
   ·by_cases h4:j < p+sz
    ·rw [if_pos (by omega),if_neg (by omega),if_pos (by omega),if_neg (by omega),if_neg (by omega),if_pos (by omega),if_pos (by omega)]
     congr 1; omega
    ·by_cases h5:j < n
     ·rw [if_pos (by omega),if_neg (by omega),if_neg (by omega),if_pos (by omega)]
      congr 1; omega
     ·rw [if_neg (by omega),if_neg (by omega),if_neg (by omega)]
theorem po {sz:Nat}:∀ {es:List AV} {i:Nat} {e:AV},dC sz es→nth es i=some e→((au es).drop (i * sz)).take sz=e.cells
 | [],_,_,_,h=>by simp [nth] at h
 | x :: es,0,e,h,hi=>by
  simp only [nth] at hi
  cases hi
  have h1:=(h x (by simp)).1
  rw [Nat.zero_mul,List.drop_zero]
  simp only [au]
  rw [← h1,List.take_left]
 | x :: es,i+1,e,h,hi=>by
  have h1:=(h x (by simp)).1
  have ih:=po (i:=i) (fun y hy=>h y (by simp [hy])) (show nth es i=some e from hi)
  simp only [au]
  rw [show (i+1) * sz=x.cells.length+i * sz by rw [h1,Nat.succ_mul]; omega,List.drop_append,List.drop_of_length_le (by omega),List.nil_append,Nat.add_sub_cancel_left]
  exact ih
theorem qb {sz:Nat} {l r:List AV} (h:dC sz l) (k:dC sz r):dC sz (l++r):=fun e he=>by
 rcases List.mem_append.1 he with he | he
 ·exact h e he
 ·exact k e he
theorem xu {sz:Nat} {l:List AV} (n:Nat) (h:dC sz l):dC sz (l.take n):=fun e he=>h e (List.mem_of_mem_take he)
theorem EN {sz:Nat} {l:List AV} (n:Nat) (h:dC sz l):dC sz (l.drop n):=fun e he=>h e (List.mem_of_mem_drop he)
theorem iI {sz:Nat}:∀ {es:List AV} (i:Nat),dC sz es→au (es.take i)=(au es).take (i * sz)
 | [],i,_=>by simp [au]
 | e :: es,0,_=>by simp [au]
 | e :: es,i+1,h=>by
  have h1:=(h e (by simp)).1
  simp only [List.take_succ_cons,au]
  rw [iI i (fun y hy=>h y (by simp [hy])),show (i+1) * sz=e.cells.length+i * sz by rw [h1,Nat.succ_mul]; omega,List.take_append,Nat.add_sub_cancel_left,List.take_of_length_le (by omega:e.cells.length≤e.cells.length+i * sz)]
theorem nj {sz:Nat}:∀ {es:List AV} (i:Nat),dC sz es→au (es.drop i)=(au es).drop (i * sz)
 | [],i,_=>by simp [au]
 | e :: es,0,_=>by simp [au]
 | e :: es,i+1,h=>by
  have h1:=(h e (by simp)).1
  simp only [List.drop_succ_cons,au]
  rw [nj i (fun y hy=>h y (by simp [hy])),show (i+1) * sz=e.cells.length+i * sz by rw [h1,Nat.succ_mul]; omega,List.drop_append,List.drop_of_length_le (by omega:e.cells.length≤e.cells.length+i * sz),List.nil_append,Nat.add_sub_cancel_left]
theorem cV {sz:Nat} {es:List AV} (h:dC sz es):(au es).length=es.length * sz:=by
 induction es with
 | nil=>simp [au]
 | cons e es ih=>
  have h1:=(h e (by simp)).1
  have:=ih (fun x hx=>h x (by simp [hx]))
  simp only [au,List.length_append,this,h1,List.length_cons,Nat.add_mul]
  omega
theorem BW {sz:Nat} {es:List AV} {i:Nat} {v:AV} (h:dC sz es) (h1:v.cells.length=sz) (h2:v.aP=true):dC sz (az es i v):=fun e he=>by
 rw [gw] at he
 rcases List.mem_or_eq_of_mem_set he with he | rfl
 ·exact h e he
 ·exact ⟨h1,h2⟩
theorem zW {sz:Nat} {es:List AV} {i:Nat} {v:AV} (h:dC sz es) (hi:i < es.length) (hv:v.cells.length=sz):au (az es i v)=bR (au es) (i * sz) v.cells:=by
 have BX:i * sz+sz≤es.length * sz:=by
  rw [← Nat.succ_mul]
  exact Nat.mul_le_mul_right _ hi
 rw [gw,List.set_eq_take_append_cons_drop,if_pos hi,eB _ _ _ (by rw [hv,cV h]; exact BX),cD,iI i h,hv]
 simp only [au]
 rw [nj (i+1) h,Nat.succ_mul,List.append_assoc]
end lists
section ops
variable {E:Env} {R:ak} {w:World} {β:Nat→Nat} {s:St} {a:Act} {o:Oper}
theorem mf {G:List GO} (h:dW E R w G) {id:Nat} {es:List AV} {sz:Nat} {el:TypeId} {ro:RO} (bM:nth G id=some (.dE es sz el)) (bI:nth R.obj id=some ro) (hn:ro≠.bn) :
  ∃ b c cur vs,ro=.tok es.length b c∧dC sz es∧w.heap[b]?=some (.cells cur el (0,0))∧es.length≤c∧c≤maxLen∧cur.size=c * sz∧(∀ o,¬ R.I b o)∧aI R w (au es) vs∧(∀ v∈vs,v.oneCell'=true)∧cur.toList.take (es.length * sz)=vs:=by
 have hr:=h.obj id _ _ bM bI
 cases ro with
 | none=>exact hr.elim
 | bn=>exact absurd rfl hn
 | bB b=>exact hr.elim
 | aX _=>exact hr.elim
 | tok f b c=>
  obtain ⟨rfl,h1,cur,vs,h2,h3,h4,h5,h6,h7,h8,h9⟩:=hr
  exact ⟨b,c,cur,vs,rfl,h1,h2,h3,h4,h5,h6,h7,h8,h9⟩
theorem uh {id f i sz:Nat} {t:TypeId} {v:AV} (h:tK E s id f i sz t=some (true,v)) :
  ∃ es el e,nth s.G id=some (.dE es sz el)∧f=es.length∧nth es i=some e∧hX e v:=by
 unfold tK at h
 split at h
 ·rename_i es bq el bM
  split at h
  ·rename_i p hp
   split at h
   ·rename_i eC
    have eC:=Nat.eq_of_beq_eq_true eC
    subst eC
    injection h with h
    injection h with h1 h2
    simp only [Bool.and_eq_true,decide_eq_true_eq] at h1
    obtain ⟨⟨h3,h4⟩,h5⟩:=h1
    obtain ⟨e,he⟩:∃ e,nth es i=some e:=⟨es[i],by rw [aU]; exact List.getElem?_eq_getElem h4⟩
    have hd:ai es i=e:=by simp [ai,he]
    rw [hd] at h5 h2
    rw [← h2]
    exact ⟨es,el,e,bM,h3,he,p.cG h5⟩
   ·cases h
  ·split at h
   ·rename_i eC
    have eC:=Nat.eq_of_beq_eq_true eC
    subst eC
    injection h with h
    injection h with h1 h2
    simp only [Bool.and_eq_true,decide_eq_true_eq] at h1
    obtain ⟨h3,h4⟩:=h1
    obtain ⟨e,he⟩:∃ e,nth es i=some e:=⟨es[i],by rw [aU]; exact List.getElem?_eq_getElem h4⟩
    have hd:ai es i=e:=by simp [ai,he]
    rw [hd] at h2
    rw [← h2]
    exact ⟨es,el,e,bM,h3,he,hX.refl e⟩
   ·cases h
 ·cases h
theorem Dx {α:Type} {l:List α} {i:Nat} {x:α} (h:nth l i=some x):x∈l:=by
 rw [aU] at h
 exact List.mem_of_getElem? h
theorem BY {i n sz:Nat} (h:i < n):i * sz+sz≤n * sz:=by
 rw [← Nat.succ_mul]
 exact Nat.mul_le_mul_right _ h
theorem BZ (h:aY E R w β s a) (t:TypeId) (x:Operand) (ho:o.op=.load t x) {v:AV} (hl:xf E s t (bi E s.ae x)=some (true,v)) :
  bH E R w β s a o (s.put o.dst (.v v)):=by
 have rx:=aN h x
 unfold xf at hl
 split at hl
 ·rename_i id f i off sz ty hx
  rw [hx] at rx
  split at hl
  ·rename_i ti c ve Mp hg
   split at hl
   ·rename_i l hs
    split at hl
    ·rename_i r hm
     injection hl with hl
     injection hl with h1 h2
     subst h1; subst h2
     obtain ⟨es,el,e,bM,Mt,he,EO⟩:=uh hg
     have dA:Rel R w (.gp id f i off sz ty) (a.eval x):=rx
     generalize e8:a.eval x=xv at dA
     cases dA with
     | @gp _ _ _ _ _ b o' _ ro bI eY=>
     obtain ⟨b',c',cur,vs,rfl,g1,g2,g3,g4,g5,g6,g7,g8,g9⟩:=mf h.g bM bI (fun k=>by subst k; exact eY)
     obtain ⟨rfl,rfl⟩:=eY.2 Mt
     have TQ:=g1 e (Dx he)
     have dF:aI R w e.cells ((vs.drop (i * sz)).take sz):=by
      rw [← po g1 he]
      exact (g7.drop _).take _
     have hw:=(EO.cells TQ.2).rel dF
     obtain ⟨k1,k2,k3,k4⟩:=n8 hs hw (fun y hy=>g8 y (List.mem_of_mem_drop (List.mem_of_mem_take hy)))
     obtain ⟨c,hc,X0⟩:=mY (E:=E) Mp (b:=b) (off:=i * sz+off) k1 k2 k3 (fun j y hy=>by
      have h1:=k4 j y hy
      rw [List.getElem?_take] at h1
      split at h1
      ·rw [List.getElem?_drop,← g9,List.getElem?_take] at h1
       split at h1
       ·rw [cell_of_row w b _ cur el (0,0) g2,Nat.add_assoc,← Array.getElem?_toList]
        exact h1
       ·cases h1
      ·cases h1) hm
     refine ap h (c:=c) ?_ X0
     simp [execOp,ho,Instr.loadAt,e8,Instr.sureAddr,hc]
    ·cases hl
   ·cases hl
  ·cases hl
 ·split at hl
  ·rename_i v' hv
   injection hl with hl
   injection hl with h1 h2
   subst h2
   exact EG h t x ho hv
  ·cases hl
theorem aY.Gn (h:aY E R w β s a) {id f b c:Nat} {es es':List AV} {sz:Nat} {el:TypeId} {cur zV:Array Value} {vs':List Value} (bM:nth s.G id=some (.dE es sz el)) (bI:nth R.obj id=some (.tok f b c))
  (hb:w.heap[b]?=some (.cells cur el (0,0))) (hlen:es'.length=es.length) (n7:dC sz es') (eC:zV.size=cur.size) (hr:aI R w (au es') vs') (h1:∀ v∈vs',v.oneCell'=true) (ht:zV.toList.take (f * sz)=vs') :
  aY E R (w.setRow b zV) β (s.bO (az s.G id (.dE es' sz el))) a∧Step R w β s.boxes R (w.setRow b zV) β s.boxes:=by
 obtain ⟨q0,q1,QP,X1,p1,p2,p3,p4,p5,p6,p7,p8⟩:=h.g.obj id _ _ bM bI
 rw [hb] at p1
 cases p1
 have hex:=jT (R:=R) (w:=w) p5 zV
 have B0:∀ k cs,dy s.boxes k=some cs→β k≠b:=fun k cs hk e=>(h.b.box k cs hk).2.2 ⟨id,_,bI,by rw [e]; rfl⟩
 refine ⟨⟨⟨by simp [St.bO,h.g.len],fun iS go ro hg kA=>?_,h.g.inj,fun b' o' oI=>by have:=h.g.wf b' o' oI; simp; omega,fun g eQ hg=>(h.g.dK g eQ hg).mono hex,h.g.lo⟩,?_,h.t.mono hex,h.n,h.d⟩,?_⟩
 ·rcases cY hg with ⟨rfl,rfl,_⟩ | ⟨cM,zD⟩
  ·rw [bI] at kA
   cases kA
   exact ⟨by rw [hlen]; exact q0,n7,zV,vs',setRow_heap w _ _ _ _ (0,0) hb,p2,p3,by rw [eC]; exact p4,p5,hr.mono hex,h1,ht⟩
  ·refine (h.g.obj iS go ro zD kA).mono hex (fun b' li=>setRow_other w _ b' _ (fun e=>cM ?_)) (fun _ _ _ hi=>hi)
   subst e
   exact h.g.inj id iS _ _ b' bI kA rfl li
 ·exact h.b.aZ hex (fun k eQ ja=>setRow_other w _ _ _ (B0 k eQ ja)) (fun _ _ _ _ hi=>hi) (fun _ _ _ hl=>hl)
 ·have yp:Own R β s.boxes b:=.inl ⟨id,_,bI,rfl⟩
  exact ⟨hex,rfl,rfl,rfl,by simp,fun b' _ hn=>setRow_other w _ b' _ (fun e=>hn (e ▸ yp)),fun _ _ hb=>hb,fun b o hi _ _=>hi⟩
theorem aY.Dy (h:aY E R w β s a) {id b c i off:Nat} {es:List AV} {sz:Nat} {el:TypeId} {cur:Array Value} {vs us:List Value} {e':AV} (bM:nth s.G id=some (.dE es sz el)) (bI:nth R.obj id=some (.tok es.length b c))
  (hb:w.heap[b]?=some (.cells cur el (0,0))) (n7:dC sz es) (hle:es.length≤c) (qa:cur.size=c * sz) (hr:aI R w (au es) vs) (h1:∀ v∈vs,v.oneCell'=true) (ht:cur.toList.take (es.length * sz)=vs) (hi:i < es.length)
  (h2:∀ v∈us,v.oneCell'=true) (yB:off+us.length≤sz) (pY:e'.cells.length=sz) (QQ:e'.aP=true) (QR:aI R w e'.cells (((vs.drop (i * sz)).take sz).take off++us++((vs.drop (i * sz)).take sz).drop (off+us.length))) :
  aY E R (w.setRow b ⟨cur.toList.take (i * sz+off)++us++cur.toList.drop (i * sz+off+us.length)⟩) β (s.bO (az s.G id (.dE (az es i e') sz el))) a ∧
   Step R w β s.boxes R (w.setRow b ⟨cur.toList.take (i * sz+off)++us++cur.toList.drop (i * sz+off+us.length)⟩) β s.boxes:=by
 have BX:=BY (sz:=sz) hi
 have II:es.length * sz≤cur.toList.length:=by
  rw [show cur.toList.length=cur.size from Array.length_toList,qa]
  exact Nat.mul_le_mul_right _ hle
 have KZ:vs.length=es.length * sz:=by rw [← hr.length,cV n7]
 refine h.Gn bM bI hb (gE _ _ _) (BW n7 pY QQ) ?_ (vs':=vs.take (i * sz)++(((vs.drop (i * sz)).take sz).take off++us++((vs.drop (i * sz)).take sz).drop (off+us.length))++vs.drop (i * sz+sz)) ?_ ?_ ?_
 ·rw [List.size_toArray,← Array.length_toList]
  simp only [List.length_append,List.length_take,List.length_drop]
  omega
 ·rw [zW n7 hi pY,eB _ _ _ (by rw [pY,cV n7]; exact BX),pY]
  exact ((hr.take _).append QR).append (hr.drop _)
 ·intro v hv
  simp only [List.mem_append] at hv
  rcases hv with (hv | ((hv | hv) | hv)) | hv
  ·exact h1 v (List.mem_of_mem_take hv)
  ·exact h1 v (List.mem_of_mem_drop (List.mem_of_mem_take (List.mem_of_mem_take hv)))
  ·exact h2 v hv
  ·exact h1 v (List.mem_of_mem_drop (List.mem_of_mem_take (List.mem_of_mem_drop hv)))
  ·exact h1 v (List.mem_of_mem_drop hv)
 ·rw [List.toList_toArray,ug _ _ _ _ _ _ II BX yB,ht]
theorem aY.Dz (h:aY E R w β s a) {id b c off:Nat} {es ns:List AV} {sz:Nat} {el:TypeId} {cur:Array Value} {vs us:List Value} (bM:nth s.G id=some (.dE es sz el)) (bI:nth R.obj id=some (.tok es.length b c))
  (hb:w.heap[b]?=some (.cells cur el (0,0))) (n7:dC sz es) (hle:es.length≤c) (qa:cur.size=c * sz) (hr:aI R w (au es) vs) (h1:∀ v∈vs,v.oneCell'=true) (ht:cur.toList.take (es.length * sz)=vs)
  (yB:off+ns.length≤es.length) (Wn:dC sz ns) (hu:aI R w (au ns) us) (h2:∀ v∈us,v.oneCell'=true) :
  aY E R (w.setRow b ⟨cur.toList.take (off * sz)++us++cur.toList.drop (off * sz+us.length)⟩) β (s.bO (az s.G id (.dE (bR es off ns) sz el))) a ∧
   Step R w β s.boxes R (w.setRow b ⟨cur.toList.take (off * sz)++us++cur.toList.drop (off * sz+us.length)⟩) β s.boxes:=by
 have Mu:us.length=ns.length * sz:=by rw [← hu.length,cV Wn]
 have BX:off * sz+ns.length * sz≤es.length * sz:=by rw [← Nat.add_mul]; exact Nat.mul_le_mul_right _ yB
 have II:es.length * sz≤cur.toList.length:=by
  rw [show cur.toList.length=cur.size from Array.length_toList,qa]
  exact Nat.mul_le_mul_right _ hle
 have KZ:vs.length=es.length * sz:=by rw [← hr.length,cV n7]
 have hm:=ug cur.toList us (es.length * sz) (off * sz) (ns.length * sz) 0 II BX (by omega)
 simp only [Nat.add_zero,List.take_zero,List.nil_append,Nat.zero_add] at hm
 rw [Mu,ht,show List.drop (ns.length * sz) (List.take (ns.length * sz) (List.drop (off * sz) vs))=[] from List.drop_of_length_le (by rw [List.length_take]; exact Nat.min_le_left _ _),List.append_nil] at hm
 rw [eB _ _ _ yB]
 refine h.Gn bM bI hb (by simp; omega) (qb (qb (xu _ n7) Wn) (EN _ n7)) ?_ (vs':=vs.take (off * sz)++us++vs.drop (off * sz+ns.length * sz)) ?_ ?_ ?_
 ·rw [List.size_toArray,← Array.length_toList]
  simp only [List.length_append,List.length_take,List.length_drop,Mu]
  omega
 ·rw [cD,cD,iI _ n7,nj _ n7,Nat.add_mul]
  exact ((hr.take _).append hu).append (hr.drop _)
 ·intro v hv
  simp only [List.mem_append] at hv
  rcases hv with (hv | hv) | hv
  ·exact h1 v (List.mem_of_mem_take hv)
  ·exact h2 v hv
  ·exact h1 v (List.mem_of_mem_drop hv)
 ·rw [List.toList_toArray,Mu]
  exact hm
theorem zX (h:aY E R w β s a) (t:TypeId) (p x:Operand) (ho:o.op=.store t p x) (hd:o.dst=none) {s':St} (hs:iX E s t (bi E s.ae p) (bi E s.ae x)=some (true,s')) :
  bH E R w β s a o s':=by
 have rp:=aN h p
 have rx:=aN h x
 unfold iX at hs
 split at hs
 ·rename_i id f i off sz ty QB
  rw [QB] at rp
  have QD:Rel R w (.gp id f i off sz ty) (a.eval p):=rp
  generalize QE:a.eval p=pv at QD
  split at hs
  ·rename_i ti v es bq el Mp hx bM
   rw [hx] at rx
   split at hs
   ·rename_i fq
    simp only [Bool.and_eq_true] at fq
    obtain ⟨⟨ID,hlen⟩,Mw⟩:=fq
    have hlen:=Nat.eq_of_beq_eq_true hlen
    have Mw:=Nat.eq_of_beq_eq_true Mw
    subst Mw
    have X2:Rel R w v (a.eval x):=rx
    obtain ⟨c1,c2⟩:=Rel.cells X2 ID
    have zC:v.cells.length=(a.eval x).cells.toList.length:=c1.length
    cases QD with
    | @gp _ _ _ _ _ b o' _ ro bI eY=>
    obtain ⟨b',c',cur,vs,rfl,g1,g2,g3,g4,g5,g6,g7,g8,g9⟩:=mf h.g bM bI (fun k=>by subst k; exact eY)
    have KZ:vs.length=es.length * sz:=by rw [← g7.length,cV g1]
    have II:es.length * sz≤cur.toList.length:=by
     rw [show cur.toList.length=cur.size from Array.length_toList,g5]
     exact Nat.mul_le_mul_right _ g3
    split at hs
    ·rename_i hw
     rw [Bool.and_eq_true] at hw
     have yB:=Nat.eq_of_beq_eq_true hw.1
     have PR:=Nat.eq_of_beq_eq_true hw.2
     subst yB
     injection hs with hs
     injection hs with h1 h2
     rw [Bool.and_eq_true,decide_eq_true_eq,decide_eq_true_eq] at h1
     subst h2
     obtain ⟨rfl,rfl⟩:=eY.2 h1.1
     have BX:=BY (sz:=sz) h1.2
     have bj:=jv (E:=E) (w:=w) Mp (b:=b) (vs:=cur.toList) (off:=i * sz+0) (c:=a.eval x) g2 (by rw [← zC]; exact hlen) (by rw [← zC]; omega) c2
     obtain ⟨r1,r2⟩:=h.Dy (us:=(a.eval x).cells.toList) (off:=0) (i:=i) (e':=v) bM bI g2 g1 g3 g5 g7 g8 g9 h1.2 c2 (by rw [← zC]; omega) (by omega) ID (by
      rw [List.take_zero,List.nil_append,Nat.zero_add,List.drop_of_length_le (by rw [List.length_take,← zC]; omega),List.append_nil]
      exact c1)
     simp only [Nat.add_zero] at QE bj r1 r2
     refine ⟨.skip,undef,_,R,β,?_,.inr ⟨rfl,rfl⟩,by rw [hd]; exact r1,r2⟩
     simp [execOp,ho,Instr.storeAt,QE,Instr.sureAddr,bj]
    ·split at hs
     ·rename_i cc cs hg
      split at hs
      ·rename_i hw
       simp only [Bool.and_eq_true] at hw
       obtain ⟨hle,Mx⟩:=hw
       have hle:=Nat.le_of_ble_eq_true hle
       have Mx:=Nat.eq_of_beq_eq_true Mx
       injection hs with hs
       injection hs with h1 h2
       subst h1; subst h2
       obtain ⟨es0,el0,e,Gp,Mt,he,EO⟩:=uh hg
       rw [bM] at Gp
       cases Gp
       obtain ⟨rfl,rfl⟩:=eY.2 Mt
       have hi:i < es.length:=bz he
       have BX:=BY (sz:=sz) hi
       have TQ:=g1 e (Dx he)
       have dF:aI R w e.cells ((vs.drop (i * sz)).take sz):=by
        rw [← po g1 he]
        exact (g7.drop _).take _
       have hw:=(EO.cells TQ.2).rel dF
       have Wo:aI R w cs ((vs.drop (i * sz)).take sz):=hw
       have bj:=jv (E:=E) (w:=w) Mp (b:=b) (vs:=cur.toList) (off:=i * sz+off) (c:=a.eval x) g2 (by rw [← zC]; exact hlen) (by rw [← zC]; omega) c2
       have zF:off+v.cells.length≤cs.length:=by omega
       obtain ⟨r1,r2⟩:=h.Dy (us:=(a.eval x).cells.toList) (off:=off) (i:=i) (e':=.agg (bR cs off v.cells)) bM bI g2 g1 g3 g5 g7 g8 g9 hi c2 (by rw [← zC]; omega) (by show (bR cs off v.cells).length=sz; rw [wH _ _ _ zF]; exact Mx) rfl (by
        show aI R w (bR cs off v.cells) _
        rw [eB _ _ _ zF,zC]
        exact ((Wo.take _).append c1).append (Wo.drop _))
       refine ⟨.skip,undef,_,R,β,?_,.inr ⟨rfl,rfl⟩,by rw [hd]; exact r1,r2⟩
       simp [execOp,ho,Instr.storeAt,QE,Instr.sureAddr,bj]
      ·cases hs
     ·cases hs
   ·cases hs
  ·cases hs
 ·split at hs
  ·rename_i yC hv
   injection hs with hs
   injection hs with h1 h2
   subst h2
   exact BL h t p x ho hd hv
  ·cases hs
def ak.reset (R:ak) (id:Nat) (ro:RO):ak:=⟨R.I,az R.obj id ro⟩
theorem ui {id g:Nat} {r0 ro:RO} (bM:nth R.obj id=some r0) (bI:∀ b,ro.has b→b=g) {b:Nat} (hl:Live (R.reset id ro) b):b=g∨Live R b:=by
 obtain ⟨i,r,h1,h2⟩:=hl
 rcases aC bM h1 with ⟨_,rfl⟩ | ⟨_,h1⟩
 ·exact .inl (bI b h2)
 ·exact .inr ⟨i,r,h1,h2⟩
theorem aY.My (h:aY E R w β s a) {cur:Array Value} {vs:List Value} {es es':List AV} {elem:TypeId} {sz cap id:Nat} {r0:RO} (hg:nth s.G id=some (.dE es sz elem)) (bM:nth R.obj id=some r0) (hf:∀ b c,cp r0 (.tok es'.length b c))
  (hn:es'.length≤cap) (hm:cap≤maxLen) (hs:cur.size=cap * sz) (n7:dC sz es') (hr:aI R w (au es') vs) (h1:∀ v∈vs,v.oneCell'=true) (ht:cur.toList.take (es'.length * sz)=vs) :
  aY E (R.reset id (.tok es'.length w.heap.size cap)) (w.drew.alloc (.cells cur elem)) β (s.bO (az s.G id (.dE es' sz elem))) a ∧
  Step R w β s.boxes (R.reset id (.tok es'.length w.heap.size cap)) (w.drew.alloc (.cells cur elem)) β s.boxes:=by
 have e:Ext R w (R.reset id (.tok es'.length w.heap.size cap)) (w.drew.alloc (.cells cur elem)):=
  ⟨fun _ _ h=>h,fun b o hi=>b8 (heap_alloc_old w.drew _ b (h.g.wf b o hi)) o,fun i r hr=>by
   by_cases ei:id=i
   ·subst ei
    rw [bM] at hr
    cases hr
    exact ⟨_,aG bM,hf _ _⟩
   ·exact ⟨r,by rw [ak.reset,bt ei]; exact hr,cp.refl r⟩,.old fun b hb=>heap_alloc_old w.drew _ b hb⟩
 have old:∀ b,b < w.heap.size→(w.drew.alloc (.cells cur elem)).heap[b]?=w.heap[b]?:=fun b hb=>heap_alloc_old w.drew _ b hb
 have new:(w.drew.alloc (.cells cur elem)).heap[w.heap.size]?=some (.cells cur elem (0,0)):=heap_alloc_new w.drew _
 have live:∀ b,b < w.heap.size→Live (R.reset id (.tok es'.length w.heap.size cap)) b→Live R b:=fun b hb hl=>by
  rcases ui (g:=w.heap.size) (ro:=.tok es'.length w.heap.size cap) bM (fun _ h=>h) hl with rfl | hl
  ·omega
  ·exact hl
 refine ⟨⟨⟨by simp [St.bO,ak.reset,h.g.len],fun i gg r sN h2=>?_,fun i j ri rj b sN h2 b1 b2=>?_,fun b o hi=>?_,fun g cs hg=>(h.g.dK g cs hg).mono e,Nat.le_succ_of_le h.g.lo⟩,?_,h.t.mono e,h.n,h.d.mono e⟩,?_⟩
 ·rcases aC bM h2 with ⟨rfl,rfl⟩ | ⟨cM,h2⟩
  ·simp only [St.bO] at sN
   rw [aG hg] at sN
   cases sN
   exact ⟨rfl,n7,cur,vs,new,hn,hm,hs,fun o hi=>by have:=h.g.wf _ _ hi; omega,hr.mono e,h1,ht⟩
  ·simp only [St.bO] at sN
   rw [bt (Ne.symm cM)] at sN
   exact (h.g.obj i gg r sN h2).mono e (fun b hb=>old b (h.g.cj ⟨i,r,h2,hb⟩)) (fun b o _ hi=>hi)
 ·rcases aC bM sN with ⟨g3,e1⟩ | ⟨g3,g1⟩
  ·rcases aC bM h2 with ⟨g4,e2⟩ | ⟨g4,g2⟩
   ·omega
   ·have:=h.g.cj ⟨j,rj,g2,b2⟩
    rw [e1] at b1
    simp [RO.has] at b1
    omega
  ·rcases aC bM h2 with ⟨g4,e2⟩ | ⟨g4,g2⟩
   ·have:=h.g.cj ⟨i,ri,g1,b1⟩
    rw [e2] at b2
    simp [RO.has] at b2
    omega
   ·exact h.g.inj i j ri rj b g1 g2 b1 b2
 ·have:=h.g.wf b o hi
  simp
  omega
 ·exact h.b.aZ e (fun k cs hk=>old _ (h.dS (.inr ⟨k,cs,hk,rfl⟩))) (fun k cs o hk hi=>hi) (fun k cs hk hl=>live _ (h.dS (.inr ⟨k,cs,hk,rfl⟩)) hl)
 ·refine ⟨e,rfl,rfl,rfl,by simp,fun b hb _=>old b hb,fun b hb ho=>?_,fun b o hi hb _=>hi⟩
  rcases ho with ho | ho
  ·exact .inl (live b hb ho)
  ·exact .inr ho
theorem aY.Jc (h:aY E R w β s a) {cur cur2:Array Value} {vs:List Value} {es es':List AV} {elem:TypeId} {sz id g c:Nat} (hg:nth s.G id=some (.dE es sz elem)) (bM:nth R.obj id=some (.tok es.length g c)) (bT:es.length < es'.length) (hn:es'.length≤c)
  (jb:w.heap[g]?=some (.cells cur elem (0,0))) (hs:cur2.size=cur.size) (n7:dC sz es') (hr:aI R w (au es') vs) (h1:∀ v∈vs,v.oneCell'=true) (ht:cur2.toList.take (es'.length * sz)=vs) :
  aY E (R.reset id (.tok es'.length g c)) (w.setRow g cur2) β (s.bO (az s.G id (.dE es' sz elem))) a ∧
  Step R w β s.boxes (R.reset id (.tok es'.length g c)) (w.setRow g cur2) β s.boxes:=by
 obtain ⟨q0,q1,QP,X1,p1,p2,p3,p4,p5,p6,p7,p8⟩:=h.g.obj id _ _ hg bM
 rw [jb] at p1
 cases p1
 have sU:Live R g:=⟨id,_,bM,rfl⟩
 have old:∀ b,b≠g→(w.setRow g cur2).heap[b]?=w.heap[b]?:=fun b hb=>setRow_other w g b cur2 hb
 have new:(w.setRow g cur2).heap[g]?=some (.cells cur2 elem (0,0)):=setRow_heap w g cur cur2 elem (0,0) jb
 have e:Ext R w (R.reset id (.tok es'.length g c)) (w.setRow g cur2):=by
  have e0:=jT (R:=R) (w:=w) p5 cur2
  refine ⟨fun _ _ h=>h,e0.cell,fun i r hr=>?_,e0.lp⟩
  by_cases ei:id=i
  ·subst ei
   rw [bM] at hr
   cases hr
   exact ⟨_,aG bM,by omega,fun e=>by omega⟩
  ·exact ⟨r,by rw [ak.reset,bt ei]; exact hr,cp.refl r⟩
 have live:∀ b,Live (R.reset id (.tok es'.length g c)) b→Live R b:=fun b hl=>by
  rcases ui (g:=g) (ro:=.tok es'.length g c) bM (fun _ h=>h) hl with rfl | hl
  ·exact sU
  ·exact hl
 have pn:∀ k cs,dy s.boxes k=some cs→β k≠g:=fun k cs hk eq=>(h.b.box k cs hk).2.2 (eq ▸ sU)
 refine ⟨⟨⟨by simp [St.bO,ak.reset,h.g.len],fun i gg r sN h2=>?_,fun i j ri rj b sN h2 b1 b2=>?_,fun b o hi=>?_,fun g cs hg=>(h.g.dK g cs hg).mono e,h.g.lo⟩,?_,h.t.mono e,h.n,h.d.mono e⟩,?_⟩
 ·rcases aC bM h2 with ⟨rfl,rfl⟩ | ⟨cM,h2⟩
  ·simp only [St.bO] at sN
   rw [aG hg] at sN
   cases sN
   exact ⟨rfl,n7,cur2,vs,new,hn,p3,by rw [hs]; exact p4,p5,hr.mono e,h1,ht⟩
  ·simp only [St.bO] at sN
   rw [bt (Ne.symm cM)] at sN
   have Mr:∀ b,r.has b→b≠g:=fun b hb eq=>cM (h.g.inj i id _ _ b h2 bM hb (by rw [eq]; rfl))
   exact (h.g.obj i gg r sN h2).mono e (fun b hb=>old b (Mr b hb)) (fun b o hb hi=>hi)
 ·rcases aC bM sN with ⟨g3,e1⟩ | ⟨g3,g1⟩
  ·rcases aC bM h2 with ⟨g4,e2⟩ | ⟨g4,g2⟩
   ·omega
   ·rw [e1] at b1
    exact g3.trans (h.g.inj id j _ _ b bM g2 b1 b2)
  ·rcases aC bM h2 with ⟨g4,e2⟩ | ⟨g4,g2⟩
   ·rw [e2] at b2
    exact (h.g.inj i id _ _ b g1 bM b1 b2).trans g4.symm
   ·exact h.g.inj i j ri rj b g1 g2 b1 b2
 ·have:=h.g.wf b o hi
  simpa using this
 ·exact h.b.aZ e (fun k cs hk=>old _ (pn k cs hk)) (fun k cs o hk hi=>hi) (fun k cs hk hl=>live _ hl)
 ·refine ⟨e,rfl,rfl,rfl,by simp,fun b hb rJ=>old b (fun eq=>rJ (.inl (eq ▸ sU))),fun b hb ho=>?_,fun b o hi hb rJ=>hi⟩
  rcases ho with ho | ho
  ·exact .inl (live b ho)
  ·exact .inr ho
theorem aY.B1 (h:aY E R w β s a) {cur:Array Value} {vs:List Value} {es:List AV} {elem:TypeId} {sz cap:Nat} (hn:es.length≤cap) (hm:cap≤maxLen) (hs:cur.size=cap * sz) (n7:dC sz es) (hr:aI R w (au es) vs) (h1:∀ v∈vs,v.oneCell'=true) (ht:cur.toList.take (es.length * sz)=vs) :
  aY E (R.add (.tok es.length w.heap.size cap)) (w.alloc (.cells cur elem)) β (s.dH (.dE es sz elem)) a:=
 h.jU (.cells cur elem) (.dE es sz elem) (.tok es.length w.heap.size cap) (by exact fun _ h=>h)
  ⟨rfl,n7,cur,vs,heap_alloc_new w _,hn,hm,hs,fun o hi=>by have:=h.g.wf _ _ hi; omega,hr.mono (fW h.g.wf _ _),h1,ht⟩
theorem sV (h:aY E R w β s a) (t:TypeId) (x y:Operand) (ho:o.op=.makeSlice t x y) {i:TI} (hi:E.ti t=some i) {k k':IntKind} {n m:Int} (hx:bi E s.ae x=.v (.int k n)) (hy:bi E s.ae y=.v (.int k' m))
  {elem esz na:Nat} {ag:Bool} {z:AV} (hk:i.k=.sl elem esz ag na (some z)) (hz:z.cells.length=esz) (EM:1≤esz) (oJ:z.aP=true) (n9:z.closed=true) (hc:0≤n∧n≤m∧m≤140737488355328∧m * na≤140737488355328) :
  bH E R w β s a o ((s.dH (.dE (List.replicate n.toNat z) esz elem)).put o.dst (.v (.dT s.G.length n.toNat 0 esz n.toNat))):=by
 obtain ⟨us,z1,z2,bj⟩:=oL h t x y ho hi hx hy hk hz EM oJ hc
 have PS:n.toNat≤m.toNat:=by omega
 have n7:=(fJ (n:=m.toNat) hz oJ n9).g
 have Mu:us.length=m.toNat * esz:=by rw [← z1.length,cV n7,List.length_replicate]
 have II:(List.replicate n.toNat z).length=n.toNat:=List.length_replicate
 have Bu:(List.replicate m.toNat z).take n.toNat=List.replicate n.toNat z:=by rw [List.take_replicate,Nat.min_eq_left PS]
 have hr:aI R w (au (List.replicate n.toNat z)) (us.take (n.toNat * esz)):=by
  rw [← Bu,iI _ n7]
  exact z1.take _
 have r1:=h.B1 (cur:=⟨us⟩) (vs:=us.take (n.toNat * esz)) (es:=List.replicate n.toNat z) (elem:=elem) (cap:=m.toNat) (by rw [II]; exact PS) (by unfold maxLen; omega) (by simpa using Mu) (fJ hz oJ n9).g hr (fun v hv=>z2 v (List.mem_of_mem_take hv)) (by rw [II])
 rw [II] at r1
 have e:=fW (R:=R) (w:=w) h.g.wf (.cells ⟨us⟩ elem) (.tok n.toNat w.heap.size m.toNat)
 exact ⟨_,.slice (some ⟨w.heap.size,0,none⟩) n.toNat m.toNat,_,R.add (.tok n.toNat w.heap.size m.toNat),β,bj,.inl rfl,r1.put o.dst (x:=.v (.dT s.G.length n.toNat 0 esz n.toNat)) (Rel.dT (ft h _) ⟨Nat.le_refl _,fun _=>⟨rfl,Nat.zero_add _,.inl (Nat.zero_mul _).symm⟩⟩ PS),by rw [aS]; exact cB h _ _ (by exact fun _ h=>h)⟩
theorem rK (h:aY E R w β s a) (t:TypeId) (len:Nat) (parts:Array (Nat × Operand)) (ho:o.op=.buildSlice t len parts) {k:LK} {esz:Nat} {es:List AV} (hv:bQ E s t len parts.toList=some (.list k esz es)) {i:TI} (hi:E.ti t=some i) {elem bq na:Nat} {ag:Bool} {z:Option AV} (hk:i.k=.sl elem bq ag na z) (hm:len≤65536) :
  bH E R w β s a o ((s.dH (.dE es esz elem)).put o.dst (.v (.dT s.G.length len 0 esz len))):=by
 obtain ⟨es',Mm,us,QN,QK,bj,g2,hlen,u2,u3,i',TP,PO,z',oI,ja⟩:=gV h t len parts ho hv
 cases QK
 rw [hi] at oI
 cases oI
 rw [hk] at ja
 cases ja
 have QO:us.length=len * esz:=by rw [← u2.length,cE g2,hlen]
 have r1:=h.B1 (cur:=⟨us⟩) (vs:=us) (es:=es) (elem:=elem) (cap:=len) (by rw [hlen]; exact Nat.le_refl _) (by simp [maxLen]; omega) (by simpa using QO) g2.g u2 u3 (by rw [hlen,← QO]; exact List.take_length)
 rw [hlen] at r1
 exact ⟨_,.slice (some ⟨w.heap.size,0,none⟩) len len,_,R.add (.tok len w.heap.size len),β,bj,.inl rfl,r1.put o.dst (x:=.v (.dT s.G.length len 0 esz len)) (Rel.dT (ft h _) ⟨Nat.le_refl _,fun _=>⟨rfl,Nat.zero_add _,.inl (Nat.zero_mul _).symm⟩⟩ (Nat.le_refl _)),by rw [aS]; exact cB h _ _ (by exact fun _ h=>h)⟩
end ops
end Go.Am
namespace Go.Am
open Go
section fams
variable {E:Env} {R R':ak} {w w':World} {β β':Nat→Nat} {s s':St} {a a':Act} {o:Oper}
theorem rL {α:Type} {l r:List α} {i:Nat} {x:α} (h:nth r i=some x):nth (l++r) (l.length+i)=some x:=by
 rw [aU] at *
 rw [List.getElem?_append_right (Nat.le_add_right _ _),Nat.add_sub_cancel_left]
 exact h
theorem sW {α:Type} {l r:List α} {i:Nat} {x:α} (h:nth l i=some x):nth (l++r) i=some x:=by
 have:=bz h
 rw [aU] at *
 rw [List.getElem?_append_left this]
 exact h
theorem dI {α:Type} {l r:List α} {i:Nat} {x:α} (h:nth (l++r) i=some x):nth l i=some x∨∃ j,i=l.length+j∧nth r j=some x:=by
 rw [aU] at h
 rcases Nat.lt_or_ge i l.length with bT | zB
 ·rw [List.getElem?_append_left bT] at h
  exact .inl (by rw [aU]; exact h)
 ·rw [List.getElem?_append_right zB] at h
  exact .inr ⟨i - l.length,by omega,by rw [aU]; exact h⟩
theorem aY.B2 (h:aY E R w β s a) {id sz:Nat} {e:TypeId} {fs:List Nat} (bM:nth s.G id=some (.aX fs sz e)) {nfs:List Nat} {nts:List TR} (hl:nts.length=nfs.length)
  (eY:∀ j f t,nth nfs j=some f→nth nts j=some t→xi R w sz e f t) (rJ:∀ j f b c,nth nts j≠some (.tok f b c)) {ro:RO} (bI:nth R.obj id=some ro) :
  ∃ ts,ro=.aX ts∧ts.length=fs.length∧aY E (R.reset id (.aX (ts++nts))) w β (s.bO (az s.G id (.aX (fs++nfs) sz e))) a∧Step R w β s.boxes (R.reset id (.aX (ts++nts))) w β s.boxes:=by
 have cT:=h.g.obj id _ _ bM bI
 cases ro with
 | none=>exact cT.elim
 | bn=>exact cT.elim
 | bB _=>exact cT.elim
 | tok _ _ _=>exact cT.elim
 | aX ts=>
 obtain ⟨q1,q2,q3⟩:=cT
 have uc:∀ b,RO.has (.aX (ts++nts)) b→RO.has (.aX ts) b:=fun b ⟨j,f,c,hj⟩=>by
  rcases dI hj with hj | ⟨i,_,hi⟩
  ·exact ⟨j,f,c,hj⟩
  ·exact absurd hi (rJ i f b c)
 have ext:Ext R w (R.reset id (.aX (ts++nts))) w:=⟨fun _ _ h=>h,fun _ _ _=>rfl,fun i r hr=>by
  by_cases e:id=i
  ·subst e
   rw [bI] at hr
   cases hr
   exact ⟨_,aG bI,fun j t hj=>⟨t,sW hj,kW.refl t⟩⟩
  ·exact ⟨r,by rw [ak.reset,bt e]; exact hr,cp.refl r⟩,gb.refl w⟩
 have live:∀ b,Live (R.reset id (.aX (ts++nts))) b→Live R b:=fun b ⟨i,r,h1,h2⟩=>by
  rcases aC bI h1 with ⟨_,rfl⟩ | ⟨_,h1⟩
  ·exact ⟨id,_,bI,uc b h2⟩
  ·exact ⟨i,r,h1,h2⟩
 refine ⟨ts,rfl,q1,⟨⟨by simp [St.bO,ak.reset,h.g.len],fun i g r h1 h2=>?_,fun i j ri rj b h1 h2 b1 b2=>?_,h.g.wf,fun g cs hg=>(h.g.dK g cs hg).mono ext,h.g.lo⟩,h.b.aZ ext (fun _ _ _=>rfl) (fun _ _ _ _ h=>h) (fun _ _ _ hl=>live _ hl),h.t.mono ext,h.n,h.d.mono ext⟩,?_⟩
 ·rcases aC bI h2 with ⟨rfl,rfl⟩ | ⟨cM,h2⟩
  ·simp only [St.bO] at h1
   rw [aG bM] at h1
   cases h1
   refine ⟨by simp [q1,hl],fun i j f b c f' c' hi hj=>?_,fun j f t hf ht=>?_⟩
   ·rcases dI hi with hi | ⟨_,_,hi⟩
    ·rcases dI hj with hj | ⟨_,_,hj⟩
     ·exact q2 i j _ _ _ _ _ hi hj
     ·exact absurd hj (rJ _ _ _ _)
    ·exact absurd hi (rJ _ _ _ _)
   ·rcases dI hf with FV | ⟨k,hk,FV⟩
    ·rcases dI ht with ht | ⟨k',ja,ht⟩
     ·exact q3 j f t FV ht
     ·have:=bz FV
      omega
    ·rcases dI ht with ht | ⟨k',ja,ht⟩
     ·have:=bz ht
      omega
     ·have Gc:k=k':=by omega
      subst Gc
      exact eY k f t FV ht
  ·simp only [St.bO] at h1
   rw [bt (Ne.symm cM)] at h1
   exact (h.g.obj i g r h1 h2).mono ext (fun _ _=>rfl) (fun _ _ _ h=>h)
 ·rcases aC bI h1 with ⟨g3,e1⟩ | ⟨g3,g1⟩
  ·rcases aC bI h2 with ⟨g4,e2⟩ | ⟨g4,g2⟩
   ·omega
   ·rw [e1] at b1
    exact g3.trans (h.g.inj id j _ _ b bI g2 (uc b b1) b2)
  ·rcases aC bI h2 with ⟨g4,e2⟩ | ⟨g4,g2⟩
   ·rw [e2] at b2
    exact (h.g.inj i id _ _ b g1 bI b1 (uc b b2)).trans g4.symm
   ·exact h.g.inj i j ri rj b g1 g2 b1 b2
 ·refine ⟨ext,rfl,rfl,rfl,Nat.le_refl _,fun _ _ _=>rfl,fun b _ ho=>?_,fun _ _ h _ _=>h⟩
  rcases ho with ho | ho
  ·exact .inl (live b ho)
  ·exact .inr ho
theorem bH.step {s1:St} {s2:St} (e:s1.boxes=s.boxes) (st:Step R w β s.boxes R' w β s.boxes) (h:bH E R' w β s1 a o s2):bH E R w β s a o s2:=by
 obtain ⟨nx,x,w',R2,β',h1,h2,h3,h4⟩:=h
 rw [e] at h4
 exact ⟨nx,x,w',R2,β',h1,h2,h3,st.trans h4⟩
theorem QS {c:Bool} {α:Type} {a b:α} (h:(bif c then some a else none)=some b):c=true∧a=b:=by
 cases c
 ·cases h
 ·exact ⟨rfl,Option.some.inj h⟩
theorem mg {sz:Nat} {e:TypeId}:∀ {G:List GO} {i j:Nat},iA G sz e i=some j→∃ fs,nth G (j - i)=some (.aX fs sz e)∧i≤j
 | [],i,j,h=>by cases h
 | g :: G,i,j,h=>by
  have step:iA G sz e (i+1)=some j→∃ fs,nth (g :: G) (j - i)=some (.aX fs sz e)∧i≤j:=fun h=>by
   obtain ⟨fs,h1,h2⟩:=mg h
   refine ⟨fs,?_,by omega⟩
   rw [show j - i=(j - (i+1))+1 by omega]
   exact h1
  unfold iA at h
  split at h
  ·rename_i jL
   cases jL
  ·rename_i jL
   obtain ⟨rfl,rfl⟩:=List.cons.inj jL
   split at h
   ·rename_i j' hj
    cases h
    exact step hj
   ·obtain ⟨hc,rfl⟩:=QS h
    ·rw [Bool.and_eq_true] at hc
     have h1:=Nat.eq_of_beq_eq_true hc.1
     have h2:=Nat.eq_of_beq_eq_true hc.2
     subst h1 h2
     exact ⟨_,by rw [Nat.sub_self]; rfl,Nat.le_refl _⟩
  ·rename_i x G1 _ _ _ hn jL
   obtain ⟨rfl,rfl⟩:=List.cons.inj jL
   exact step h
theorem aY.DA {s0:St} {d:Option Tmp} {x y:AV} (h:aY E R w β (s0.put d (.v x)) a) (hw:∀ c,Rel R w x c→Rel R w y c):aY E R w β (s0.put d (.v y)) a:=by
 cases d with
 | none=>exact h
 | some d=>
  simp only [St.put] at h ⊢
  cases hb:Nat.blt d s0.n with
  | false=>rw [hb] at h; exact h
  | true=>
   rw [hb] at h
   refine ⟨h.g,h.b,fun i hi=>?_,h.n,h.d⟩
   by_cases e:d=i
   ·subst e
    rw [ay]
    obtain ⟨c,k1,k2⟩:=h.t d (by rw [ay]; simp)
    rw [ay] at k2
    exact ⟨c,k1,hw c k2⟩
   ·rw [aL e] at hi ⊢
    have:=h.t i (by rw [aL e]; exact hi)
    rw [aL e] at this
    exact this
theorem bH.DA {s0:St} {x y:AV} (h:bH E R w β s a o (s0.put o.dst (.v x))) (hw:∀ R' w',Ext R w R' w'→∀ c,Rel R' w' x c→Rel R' w' y c):bH E R w β s a o (s0.put o.dst (.v y)):=by
 obtain ⟨nx,v,w',R',β',h1,h2,h3,h4⟩:=h
 refine ⟨nx,v,w',R',β',h1,h2,h3.DA (hw R' w' h4.ext),?_⟩
 rw [aS] at h4 ⊢
 exact h4
end fams
section ops
variable {E:Env} {R:ak} {w:World} {β:Nat→Nat} {s:St} {a:Act} {o:Oper}
theorem fK {k:LK} {sz esz:Nat} {es:List AV} {c:Value} (h:Rel R w (.list k sz es) c) (eC:es=[]∨sz=esz) :
  gU esz es∧∃ vs,aI R w (au es) vs∧(∀ v∈vs,v.oneCell'=true)∧vs.length=es.length * esz ∧
   ((es=[]∧vs=[]∧∃ ad,c=.slice ad 0 0∧(ad=none∨k=.iU))∨∃ b o' cap,c=.slice (some ⟨b,o',none⟩) es.length cap∧es.length≤cap∧yn R k b o' es.length cap∧(∀ j v,vs[j]?=some v→w.cell? ((⟨b,o',none⟩:Addr).add j)=some v)∧gl R w b o' esz es):=by
 cases h with
 | iF=>exact ⟨fun e he=>by simp at he,[],.nil,by simp,by simp,.inl ⟨rfl,rfl,_,rfl,.inl rfl⟩⟩
 | ia=>exact ⟨fun e he=>by simp at he,[],.nil,by simp,by simp,.inl ⟨rfl,rfl,_,rfl,.inl rfl⟩⟩
 | lY=>exact ⟨fun e he=>by simp at he,[],.nil,by simp,by simp,.inl ⟨rfl,rfl,_,rfl,.inr rfl⟩⟩
 | lZ=>exact ⟨fun e he=>by simp at he,[],.nil,by simp,by simp,.inl ⟨rfl,rfl,_,rfl,.inl rfl⟩⟩
 | kV=>exact ⟨fun e he=>by simp at he,[],.nil,by simp,by simp,.inl ⟨rfl,rfl,_,rfl,.inl rfl⟩⟩
 | @list _ _ _ b o' len cap hr hlen ic Gc=>
  subst hlen
  have kA:gl R w b o' esz es:=by
   rcases eC with rfl | rfl
   ·exact .nil
   ·exact hr
  obtain ⟨g0,vs,g1,g2,g3,g4⟩:=tW kA
  refine ⟨g0,vs,g1,g2,by rw [← g1.length,cE g0],.inr ⟨b,o',cap,rfl,ic,Gc,fun j v hv=>?_,kA⟩⟩
  rw [cn]
  exact g3 j v hv
theorem qc {b esz:Nat} {es:List AV} {vs:List Value} {w:World} {R:ak} (h0:gU esz es) (h:aI R w (au es) vs) (h1:∀ v∈vs,v.oneCell'=true)
  (hc:∀ j v,vs[j]?=some v→w.cell? ⟨b,j,none⟩=some v) (hI:∀ j,j < vs.length→R.I b j):gl R w b 0 esz es:=
 lu h0 (ew.make h h1 (fun j v hv=>by rw [Nat.zero_add]; exact hc j v hv) (fun j hj=>by rw [Nat.zero_add]; exact hI j (by rw [← h.length]; exact hj)))
theorem kH {sz:Nat} {l r:List AV} (h:gU sz l) (k:gU sz r):gU sz (l++r):=fun e he=>by
 rcases List.mem_append.1 he with he | he
 ·exact h e he
 ·exact k e he
theorem ig {l r:List Value} (h:∀ v∈l,v.oneCell'=true) (k:∀ v∈r,v.oneCell'=true):∀ v∈l++r,v.oneCell'=true:=fun v hv=>by
 rcases List.mem_append.1 hv with hv | hv
 ·exact h v hv
 ·exact k v hv
structure SZ (P:Program) (w:World) (t u ty e:TypeId) (i:TypeInfo) (z:Value) (cy:Value) (n:Nat) (us:List Value):Prop where
 zero:n=0→∀ base len cap,len≤cap→(Builtin.append_ #[t,u] ty #[.slice base len cap,cy]).run P w=.ok (.slice base len cap) w
 nil:0 < n→(n:Int)≤9223372036854775807→n * i.bytes≤281474976710656→(Builtin.append_ #[t,u] ty #[.slice none 0 0,cy]).run P w =
   .ok (.slice (some ⟨w.heap.size,0,none⟩) n (grownCap w n 0 e)) (w.drew.alloc (.cells (us.toArray++Builtin.zeroCells z.cells (grownCap w n 0 e - n)) e))
 grow:0 < n→∀ (b:Addr) (sLen jc:Nat) (uj:List Value),uj.length=sLen * i.size→(∀ j v,uj[j]?=some v→w.cell? (b.add j)=some v)→jc < sLen+n→((sLen+n:Nat):Int)≤9223372036854775807→Builtin.nextslicecap (sLen+n) jc * i.bytes≤281474976710656 →
   (Builtin.append_ #[t,u] ty #[.slice (some b) sLen jc,cy]).run P w=.ok (.slice (some ⟨w.heap.size,0,none⟩) (sLen+n) (grownCap w (sLen+n) jc e))
    (w.drew.alloc (.cells (uj.toArray++us.toArray++Builtin.zeroCells z.cells (grownCap w (sLen+n) jc e - (sLen+n))) e))
 room:0 < n→∀ (g sLen jc:Nat) (cur:Array Value),w.heap[g]?=some (.cells cur e (0,0))→sLen+n≤jc→sLen * i.size+us.length≤cur.size →
   (Builtin.append_ #[t,u] ty #[.slice (some ⟨g,0,none⟩) sLen jc,cy]).run P w=.ok (.slice (some ⟨g,0,none⟩) (sLen+n) jc) (w.setRow g (cur.toList.take (sLen * i.size)++us++cur.toList.drop (sLen * i.size+us.length)).toArray)
theorem mK (h:aY E R w β s a) {t u:TypeId} {id f off sz len:Nat} {y:AV} {ys:List AV} {cx cy:Value} {us:List Value}
  (fC:∀ {c:Value} {w':World},(Builtin.append_ #[t,u] o.type #[cx,cy]).run E.P w=.ok c w'→(execOp a.eval o).run E.P w=.ok (.value c) w')
  {elem esz eb:Nat} {z:AV} (Bv:1≤eb) (hz:z.cells.length=esz) (oJ:z.aP=true)
  {ie:TypeInfo} (f2:ie.size=esz) (f3:ie.bytes=eb) (f6:fU ie=some z)
  (h0:Rel R w (.dT id f off sz len) cx) (hA:∀ zc:Value,ie.zero=some zc→SZ E.P w t u o.type elem ie zc cy (y :: ys).length us)
  (y0:dC esz (y :: ys)) (y1:aI R w (au (y :: ys)) us) (y2:∀ v∈us,v.oneCell'=true) (y3:us.length=(y :: ys).length * esz)
  {es:List AV} (bM:nth s.G id=some (.dE es esz elem)) (hf:f=es.length) (X3:off=0) (sQ:len=f) (hb:(es.length+(y :: ys).length) * eb≤140737488355328) :
  bH E R w β s a o ((s.bO (az s.G id (.dE (es++(y :: ys)) esz elem))).put o.dst (.v (.dT id (es.length+(y :: ys).length) 0 esz (es.length+(y :: ys).length)))):=by
 obtain ⟨zc,n9,Bt⟩:=cU f6
 have hA:=hA zc n9
 obtain ⟨d1,d2⟩:=Rel.cells (Bt R w) oJ
 have qa:zc.cells.size=esz:=by rw [← hz,d1.length]; simp
 have mh:0 < (y :: ys).length:=by simp
 have hm:es.length+(y :: ys).length≤140737488355328:=Nat.le_trans (Nat.le_mul_of_pos_right _ Bv) hb
 have zY:(es++(y :: ys)).length=es.length+(y :: ys).length:=List.length_append
 -- where a new block has been made
 have fresh:∀ {xs:List Value} {old:Nat} {r0:RO},nth R.obj id=some r0→(∀ b c,cp r0 (.tok (es.length+(y :: ys).length) b c))→dC esz es→aI R w (au es) xs→(∀ v∈xs,v.oneCell'=true)→xs.length=es.length * esz →
   (Builtin.append_ #[t,u] o.type #[cx,cy]).run E.P w=.ok (.slice (some ⟨w.heap.size,0,none⟩) (es.length+(y :: ys).length) (grownCap w (es.length+(y :: ys).length) old elem)) (w.drew.alloc (.cells (xs.toArray++us.toArray++Builtin.zeroCells zc.cells (grownCap w (es.length+(y :: ys).length) old elem - (es.length+(y :: ys).length))) elem)) →
   bH E R w β s a o ((s.bO (az s.G id (.dE (es++(y :: ys)) esz elem))).put o.dst (.v (.dT id (es.length+(y :: ys).length) 0 esz (es.length+(y :: ys).length)))):=by
  intro xs old r0 bI hle FT QT sP xw bj
  have zB:=grownCap_ge w (es.length+(y :: ys).length) old elem
  obtain ⟨r1,r2⟩:=h.My (cur:=xs.toArray++us.toArray++Builtin.zeroCells zc.cells (grownCap w (es.length+(y :: ys).length) old elem - (es.length+(y :: ys).length))) (vs:=xs++us) (es':=es++(y :: ys)) bM bI (by rw [zY]; exact hle) (by rw [zY]; exact zB) (grownCap_le_maxLen w _ old elem (by unfold maxLen; omega)) (by
   simp only [Array.size_append,List.size_toArray,size_zeroCells,qa,xw,y3,← Nat.add_mul]
   congr 1
   omega) (qb FT y0) (by rw [cD]; exact QT.append y1) (ig sP y2) (by
   rw [zY]
   simp only [Array.toList_append]
   exact List.take_left' (by rw [List.length_append,xw,y3,Nat.add_mul]))
  rw [zY] at r1 r2
  refine ⟨_,_,_,_,β,fC bj,.inl rfl,r1.put o.dst ?_,by rw [aS]; exact r2⟩
  exact Rel.dT (aG bI) ⟨Nat.le_refl _,fun _=>⟨rfl,Nat.zero_add _,.inl (Nat.zero_mul _).symm⟩⟩ zB
 cases h0 with
 | @iY _ _ ro bI hon=>
  have cT:=h.g.obj id _ _ bM bI
  have X4:es=[]:=List.eq_nil_of_length_eq_zero hf.symm
  subst X4
  cases ro with
  | none=>exact cT.elim
  | bB _=>exact cT.elim
  | aX _=>exact cT.elim
  | tok f' g c=>
   obtain ⟨rfl,_⟩:=cT
   simp [lX] at hon
  | bn=>
   simp only [List.length_nil] at hb
   have bj:=hA.nil mh (by omega) (by rw [f3]; rw [Nat.zero_add] at hb; omega)
   exact fresh (xs:=[]) (old:=0) bI (fun b c=>by simp only [cp]; omega) (fun e he=>by simp at he) .nil (by simp) (by simp) (by simpa using bj)
 | @dT _ _ _ _ _ cap b o' ro bI eY ic=>
  subst hf; subst X3; subst sQ
  obtain ⟨b',c',cur,vs,rfl,g1,g2,g3,g4,g5,g6,g7,g8,g9⟩:=mf h.g bM bI (fun k=>by subst k; exact eY)
  obtain ⟨rfl,B3,zG⟩:=eY.2 rfl
  rw [Nat.zero_add] at B3
  subst B3
  have KZ:vs.length=es.length * esz:=by rw [← g7.length,cV g1]
  have jY:∀ j v,vs[j]?=some v→cur[j]?=some v:=fun j v hj=>by
   rw [← g9,List.getElem?_take] at hj
   split at hj
   ·rw [← Array.getElem?_toList]; exact hj
   ·cases hj
  by_cases fL:es.length+(y :: ys).length≤cap
  ·have pK:o'=0:=by
    rcases zG with zG | zG
    ·rw [zG,Nat.zero_mul]
    ·rw [List.length_cons] at fL; omega
   subst pK
   have hle:(es.length+(y :: ys).length) * esz≤cap * esz:=Nat.mul_le_mul_right _ fL
   have bj:=hA.room mh b es.length cap cur g2 fL (by rw [f2,y3,← Nat.add_mul,g5]; exact hle)
   rw [f2] at bj
   have jd:cur.toList.length=cap * esz:=by rw [show cur.toList.length=cur.size from Array.length_toList,g5]
   obtain ⟨r1,r2⟩:=h.Jc (cur2:=(cur.toList.take (es.length * esz)++us++cur.toList.drop (es.length * esz+us.length)).toArray) (vs:=vs++us) (es':=es++(y :: ys)) bM bI (by rw [zY]; omega) (by rw [zY]; exact fL) g2 (by
    rw [List.size_toArray,← Array.length_toList]
    simp only [List.length_append,List.length_take,List.length_drop,y3,jd]
    rw [Nat.add_mul] at hle
    omega) (qb g1 y0) (by rw [cD]; exact g7.append y1) (ig g8 y2) (by
    rw [zY,List.toList_toArray,g9]
    exact List.take_left' (by rw [List.length_append,KZ,y3,Nat.add_mul]))
   rw [zY] at r1 r2
   refine ⟨_,_,_,_,β,fC bj,.inl rfl,r1.put o.dst ?_,by rw [aS]; exact r2⟩
   exact Rel.dT (aG bI) ⟨Nat.le_refl _,fun _=>⟨rfl,Nat.zero_add _,.inl (Nat.zero_mul _).symm⟩⟩ fL
  ·have bj:=hA.grow mh ⟨b,o',none⟩ es.length cap vs (by rw [KZ,f2]) (fun j v hj=>by
    rw [cn]
    have IH:=(List.getElem?_eq_some_iff.1 hj).1
    have pK:o'=0:=by
     rcases zG with zG | zG
     ·rw [zG,Nat.zero_mul]
     ·have:es.length=0:=by omega
      rw [KZ,this] at IH
      omega
    subst pK
    rw [Nat.zero_add,cell_of_row w b j cur elem (0,0) g2]
    exact jY j v hj) (by omega) (by omega) (growslice_fits (by omega) (by rw [f3]; exact hb))
   exact fresh (xs:=vs) (old:=cap) bI (fun b c=>⟨by omega,fun e=>by omega⟩) g1 g7 g8 KZ bj
theorem ly (h:aY E R w β s a) {t u:TypeId} {id j:Nat} {es:List AV} {y:AV} {ys:List AV} {cx cy:Value} {us:List Value}
  (fC:∀ {c:Value} {w':World},(Builtin.append_ #[t,u] o.type #[cx,cy]).run E.P w=.ok c w'→(execOp a.eval o).run E.P w=.ok (.value c) w')
  {elem esz eb:Nat} {z:AV} (Bv:1≤eb) (hz:z.cells.length=esz) (oJ:z.aP=true)
  {ie:TypeInfo} (f2:ie.size=esz) (f3:ie.bytes=eb) (f6:fU ie=some z)
  (h0:Rel R w (.list (.aX id j) esz es) cx) (hA:∀ zc:Value,ie.zero=some zc→SZ E.P w t u o.type elem ie zc cy (y :: ys).length us)
  (y0:gU esz (y :: ys)) (y1:aI R w (au (y :: ys)) us) (y2:∀ v∈us,v.oneCell'=true) (y3:us.length=(y :: ys).length * esz)
  {fs:List Nat} (gS:nth s.G id=some (.aX fs esz elem)) (tn:nth fs j=some es.length) (hb:(es.length+(y :: ys).length) * eb≤140737488355328) :
  bH E R w β s a o ((s.bO (az s.G id (.aX (az fs j (es.length+(y :: ys).length)) esz elem))).put o.dst (.v (.list (.aX id j) esz (es++(y :: ys))))):=by
 obtain ⟨zc,n9,Bt⟩:=cU f6
 have hA:=hA zc n9
 obtain ⟨d1,d2⟩:=Rel.cells (Bt R w) oJ
 have qa:zc.cells.size=esz:=by rw [← hz,d1.length]; simp
 have mh:0 < (y :: ys).length:=by simp
 have hm:es.length+(y :: ys).length≤140737488355328:=Nat.le_trans (Nat.le_mul_of_pos_right _ Bv) hb
 obtain ⟨x0,xs,x1,x2,x3,x4⟩:=fK (esz:=esz) h0 (.inr rfl)
 obtain ⟨ro,bI⟩:∃ ro,nth R.obj id=some ro:=by
  cases h0 with
  | kV q _=>exact ⟨_,q⟩
  | list _ _ _ hk=>obtain ⟨ro,q,_⟩:=hk; exact ⟨ro,q⟩
 have cT:=h.g.obj id _ _ gS bI
 cases ro with
 | none=>exact cT.elim
 | bn=>exact cT.elim
 | bB _=>exact cT.elim
 | tok _ _ _=>exact cT.elim
 | aX ts=>
 have cT:tM R w esz elem fs ts:=cT
 have TS:j < ts.length:=by rw [cT.1]; exact bz tn
 obtain ⟨tr,ht⟩:∃ tr,nth ts j=some tr:=⟨ts[j],by rw [aU]; exact List.getElem?_eq_getElem TS⟩
 have mR:=cT.2.2 j _ _ tn ht
 have zZ:∀ i f b c,nth ts i=some (.tok f b c)→b < w.heap.size:=fun i f b c hi=>h.g.cj ⟨id,_,bI,i,f,c,hi⟩
 -- where a new block has been made
 have fresh:∀ {old:Nat},(∀ b c,kW tr (.tok (es.length+(y :: ys).length) b c)) →
   (Builtin.append_ #[t,u] o.type #[cx,cy]).run E.P w=.ok (.slice (some ⟨w.heap.size,0,none⟩) (es.length+(y :: ys).length) (grownCap w (es.length+(y :: ys).length) old elem)) (w.drew.alloc (.cells (xs.toArray++us.toArray++Builtin.zeroCells zc.cells (grownCap w (es.length+(y :: ys).length) old elem - (es.length+(y :: ys).length))) elem)) →
   bH E R w β s a o ((s.bO (az s.G id (.aX (az fs j (es.length+(y :: ys).length)) esz elem))).put o.dst (.v (.list (.aX id j) esz (es++(y :: ys))))):=by
  intro old hle bj
  have zB:=grownCap_ge w (es.length+(y :: ys).length) old elem
  have TT:=grownCap_le_maxLen w (es.length+(y :: ys).length) old elem (by unfold maxLen; omega)
  have K3:(xs.toArray++us.toArray++Builtin.zeroCells zc.cells (grownCap w (es.length+(y :: ys).length) old elem - (es.length+(y :: ys).length))).size=grownCap w (es.length+(y :: ys).length) old elem * esz:=by
   simp only [Array.size_append,List.size_toArray,size_zeroCells,qa,x3,y3,← Nat.add_mul]
   congr 1
   omega
  generalize jb:xs.toArray++us.toArray++Builtin.zeroCells zc.cells (grownCap w (es.length+(y :: ys).length) old elem - (es.length+(y :: ys).length))=cur at bj K3
  have o1:=One.drew w (.cells cur elem)
  obtain ⟨r1,r2⟩:=h.Ms o1 (n:=(es.length+(y :: ys).length) * esz) (r1:=.aX (az ts j (.tok (es.length+(y :: ys).length) w.heap.size (grownCap w (es.length+(y :: ys).length) old elem)))) (go:=.aX (az fs j (es.length+(y :: ys).length)) esz elem) gS bI
   (rC.set ht (hle _ _)) (fun b hb=>Dw hb) (tM.set cT ⟨rfl,cur,o1.new,zB,TT,K3,fun o' pK hi=>by
    rcases hi with hi | ⟨_,hi⟩
    ·have:=h.g.wf _ _ hi
     omega
    ·omega⟩ (fun i f c hi=>absurd (zZ i f _ c hi) (Nat.lt_irrefl _)) (fun i f b c _ hi=>⟨o1.old b (zZ i f b c hi),fun o' pK=>by
     rcases pK with pK | ⟨pK,_⟩
     ·exact pK
     ·have:=zZ i f b c hi
      omega⟩))
  have e:=r2.ext
  refine ⟨_,_,_,_,β,fC bj,.inl rfl,r1.put o.dst ?_,by rw [aS]; exact r2⟩
  refine Rel.list (qc (vs:=xs++us) (kH x0 y0) (by rw [cD]; exact (x1.mono e).append (y1.mono e)) (ig x2 y2) (fun j v hj=>?_) (fun j hj=>.inr ⟨rfl,by rw [List.length_append,x3,y3,← Nat.add_mul] at hj; exact hj⟩)) (by simp) zB ⟨_,aG bI,_,aG ht,Nat.le_refl _,fun _=>⟨rfl,rfl,rfl⟩⟩
  rw [cell_of_row _ _ j _ _ _ o1.new,← jb]
  have bT:=(List.getElem?_eq_some_iff.1 hj).1
  rw [← Array.getElem?_toList]
  simp only [Array.toList_append,List.append_assoc]
  rw [← List.append_assoc,List.getElem?_append_left bT]
  exact hj
 rcases x4 with ⟨rfl,rfl,ad,rfl,hd⟩ | ⟨b,o',cap,rfl,QU,xk,sh,xE⟩
 ·obtain rfl:ad=none:=by
   rcases hd with hd | hd
   ·exact hd
   ·cases hd
  simp only [List.length_nil] at hb mR
  have bj:=hA.nil mh (by simp only [List.length_nil] at hm; omega) (by rw [f3]; rw [Nat.zero_add] at hb; omega)
  cases tr with
  | bn=>exact fresh (old:=0) (fun b c=>by simp only [kW,List.length_cons]; omega) (by simpa using bj)
  | full f'=>
   have mR:f'=0:=mR
   subst mR
   exact fresh (old:=0) (fun b c=>by simp only [kW,List.length_cons]; omega) (by simpa using bj)
  | tok f' g c=>
   obtain ⟨mR,_⟩:=mR
   subst mR
   exact fresh (old:=0) (fun b c=>by simp only [kW,List.length_cons,List.length_nil]; omega) (by simpa using bj)
 ·obtain ⟨lh,QV,ua⟩:=xk
  rw [bI] at QV
  cases QV
  obtain ⟨t',q3,ua⟩:=ua
  rw [ht] at q3
  cases q3
  cases tr with
  | bn=>exact ua.elim
  | full f'=>
   have hf:f'=es.length:=mR
   subst hf
   have ic:=ua.2 rfl
   subst ic
   have bj:=hA.grow mh ⟨b,o',none⟩ es.length es.length xs (by rw [x3,f2]) sh (by omega) (by omega) (growslice_fits (by omega) (by rw [f3]; exact hb))
   exact fresh (fun b c=>by simp only [kW]; omega) bj
  | tok f' g c=>
   obtain ⟨rfl,cur,jb,k1,k3,k4,k5⟩:=mR
   obtain ⟨rfl,rfl,rfl⟩:=ua.2 rfl
   by_cases fL:es.length+(y :: ys).length≤cap
   ·have hle:(es.length+(y :: ys).length) * esz≤cap * esz:=Nat.mul_le_mul_right _ fL
    have bj:=hA.room mh b es.length cap cur jb fL (by rw [f2,y3,← Nat.add_mul,k4]; exact hle)
    rw [f2] at bj
    generalize Gq:(cur.toList.take (es.length * esz)++us++cur.toList.drop (es.length * esz+us.length)).toArray=cur2 at bj
    have jd:cur.toList.length=cap * esz:=by rw [show cur.toList.length=cur.size from Array.length_toList,k4]
    have hll:es.length * esz≤cap * esz:=Nat.mul_le_mul_right _ k1
    have z6:cur2.size=cap * esz:=by
     rw [← Gq,List.size_toArray]
     simp only [List.length_append,List.length_take,List.length_drop,y3,jd]
     rw [Nat.add_mul] at hle
     omega
    have uf:∀ o',R.I b o'→cur2[o']?=cur[o']?:=fun o' hi=>by
     have ho:o' < es.length * esz:=Nat.lt_of_not_le fun hle=>k5 o' hle hi
     rw [← Gq,List.append_assoc]
     simp only [List.getElem?_toArray]
     rw [List.getElem?_append_left (by rw [List.length_take]; omega),List.getElem?_take,if_pos ho,Array.getElem?_toList]
    have new:(w.setRow b cur2).heap[b]?=some (.cells cur2 elem (0,0)):=setRow_heap w b cur cur2 elem (0,0) jb
    obtain ⟨r0,r1,r2⟩:=h.Jb (cur2:=cur2) (n:=(es.length+(y :: ys).length) * esz) (r1:=.aX (az ts j (.tok (es.length+(y :: ys).length) b cap))) (go:=.aX (az fs j (es.length+(y :: ys).length)) esz elem) gS bI ⟨j,_,_,ht⟩
     (rC.set ht ⟨by omega,fun e=>by omega⟩) (fun b' li=>(Dw li).elim (fun e=>by rw [e]; exact ⟨j,_,_,ht⟩) (fun x=>x)) jb uf (fun _=>tM.set cT ⟨rfl,cur2,new,fL,k3,z6,fun o' pK hi=>by
      rcases hi with hi | ⟨_,hi⟩
      ·exact k5 o' (Nat.le_trans (Nat.mul_le_mul_right _ (Nat.le_add_right _ _)) pK) hi
      ·omega⟩ (fun i f c hi=>cT.2.1 i j _ _ _ _ _ hi ht) (fun i f b' c cM hi=>by
       have PL:b'≠b:=fun e=>by subst e; exact cM (cT.2.1 i j _ _ _ _ _ hi ht)
       refine ⟨setRow_other w b b' cur2 PL,fun o' pK=>?_⟩
       rcases pK with pK | ⟨pK,_⟩
       ·exact pK
       ·exact absurd pK PL))
    refine ⟨_,_,_,_,β,fC bj,.inl rfl,r1.put o.dst ?_,by rw [aS]; exact r2⟩
    have TU:cur.toList.take (es.length * esz)=xs:=by
     have Jd:xs.length=es.length * esz:=x3
     apply List.ext_getElem?
     intro j
     rw [List.getElem?_take]
     split
     ·rename_i hj
      have IH:j < xs.length:=by omega
      have sO:=sh j xs[j] (List.getElem?_eq_getElem IH)
      rw [cn,Nat.zero_add,cell_of_row w b j cur elem (0,0) jb] at sO
      rw [Array.getElem?_toList,sO,List.getElem?_eq_getElem IH]
     ·rw [List.getElem?_eq_none (by omega)]
    refine Rel.list (qc (vs:=xs++us) (kH x0 y0) (by rw [cD]; exact (x1.mono r0).append (y1.mono r0)) (ig x2 y2) (fun j v hj=>?_) (fun j hj=>.inr ⟨rfl,by rw [List.length_append,x3,y3,← Nat.add_mul] at hj; exact hj⟩)) (by simp) fL ⟨_,aG bI,_,aG ht,Nat.le_refl _,fun _=>⟨rfl,rfl,rfl⟩⟩
    rw [cell_of_row _ _ j _ _ _ new,← Gq,TU]
    simp only [List.getElem?_toArray]
    rw [List.getElem?_append_left (List.getElem?_eq_some_iff.1 hj).1]
    exact hj
   ·have bj:=hA.grow mh ⟨b,0,none⟩ es.length cap xs (by rw [x3,f2]) sh (by omega) (by omega) (growslice_fits (by omega) (by rw [f3]; exact hb))
    exact fresh (fun b c=>⟨by omega,fun e=>by omega⟩) bj
theorem sX (h:aY E R w β s a) {t u:TypeId} {id j:Nat} {es:List AV} {y:AV} {ys:List AV} {cx cy:Value} {us:List Value}
  (fC:∀ {c:Value} {w':World},(Builtin.append_ #[t,u] o.type #[cx,cy]).run E.P w=.ok c w'→(execOp a.eval o).run E.P w=.ok (.value c) w')
  {elem esz eb:Nat} {z:AV} (Bv:1≤eb) (hz:z.cells.length=esz) (oJ:z.aP=true)
  {ie:TypeInfo} (f2:ie.size=esz) (f3:ie.bytes=eb) (f6:fU ie=some z)
  (h0:Rel R w (.list (.aX id j) esz es) cx) (hA:∀ zc:Value,ie.zero=some zc→SZ E.P w t u o.type elem ie zc cy (y :: ys).length us)
  (y0:gU esz (y :: ys)) (y1:aI R w (au (y :: ys)) us) (y2:∀ v∈us,v.oneCell'=true) (y3:us.length=(y :: ys).length * esz)
  {fs:List Nat} (gS:nth s.G id=some (.aX fs esz elem)) (tn:IY fs j es.length=true) (hb:(es.length+(y :: ys).length) * eb≤140737488355328) :
  bH E R w β s a o ((s.bO (az s.G id (.aX (Ex fs j (es.length+(y :: ys).length)) esz elem))).put o.dst (.v (.list (.aX id j) esz (es++(y :: ys))))):=by
 unfold IY at tn
 rw [Bool.or_eq_true,decide_eq_true_eq,Bool.and_eq_true] at tn
 rcases tn with tn | ⟨hj,hl⟩
 ·have cM:Nat.beq j fs.length=false:=by
   cases hb:Nat.beq j fs.length with
   | false=>rfl
   | true=>
    have:=Nat.eq_of_beq_eq_true hb
    have:=bz tn
    omega
  unfold Ex
  rw [cM]
  exact ly h fC Bv hz oJ f2 f3 f6 h0 hA y0 y1 y2 y3 gS tn hb
 ·have uk:Ex fs j (es.length+(y :: ys).length)=fs++[es.length+(y :: ys).length]:=by
   unfold Ex
   rw [hj]
   rfl
  rw [uk]
  have hj:=Nat.eq_of_beq_eq_true hj
  have hl:=Nat.eq_of_beq_eq_true hl
  subst hj
  have bT:=bz gS
  rw [← h.g.len] at bT
  obtain ⟨ro,bI⟩:∃ ro,nth R.obj id=some ro:=⟨R.obj[id],by rw [aU]; exact List.getElem?_eq_getElem bT⟩
  obtain ⟨ts,rfl,z1,z2,z3⟩:=h.B2 gS (nfs:=[0]) (nts:=[.bn]) rfl (fun j f t h1 h2=>by
   cases j with
   | zero=>simp only [nth] at h1 h2; cases h1; cases h2; exact rfl
   | succ j=>simp [nth] at h1) (fun j f b c hj=>by
   cases j with
   | zero=>simp only [nth] at hj; cases hj
   | succ j=>simp [nth] at hj) bI
  have key:=ly z2 fC Bv hz oJ f2 f3 f6 (h0.mono z3.ext) hA y0 (y1.mono z3.ext) y2 y3 (fs:=fs++[0]) (aG gS) (by rw [hl]; exact ey _ _) hb
  have e1:az (fs++[0]) fs.length (es.length+(y :: ys).length)=fs++[es.length+(y :: ys).length]:=by
   rw [gw,List.set_append_right _ _ (Nat.le_refl _),Nat.sub_self]
   rfl
  have e2:∀ x y:GO,az (az s.G id x) id y=az s.G id y:=fun x y=>by rw [gw,gw,gw,List.set_set]
  rw [e1] at key
  refine bH.step rfl z3 ?_
  have e3:((s.bO (az s.G id (.aX (fs++[0]) esz elem))).bO (az (s.bO (az s.G id (.aX (fs++[0]) esz elem))).G id (.aX (fs++[es.length+(y :: ys).length]) esz elem)))=s.bO (az s.G id (.aX (fs++[es.length+(y :: ys).length]) esz elem)):=by
   simp only [St.bO,e2]
  rw [e3] at key
  exact key
theorem ij (h:aY E R w β s a) {t u:TypeId} {x:AV} {ys:List AV} {cx cy:Value} {us:List Value}
  (fC:∀ {c:Value} {w':World},(Builtin.append_ #[t,u] o.type #[cx,cy]).run E.P w=.ok c w'→(execOp a.eval o).run E.P w=.ok (.value c) w')
  {i:TI} {elem esz eb:Nat} {ag:Bool} {z:AV} (hk:i.k=.sl elem esz ag eb (some z)) (Bv:1≤eb) (hz:z.cells.length=esz) (oJ:z.aP=true)
  {ie:TypeInfo} (f1:E.P.info? elem=some ie) (f2:ie.size=esz) (f3:ie.bytes=eb) (f6:fU ie=some z)
  (h0:Rel R w x cx) (hA:∀ zc:Value,ie.zero=some zc→SZ E.P w t u o.type elem ie zc cy ys.length us)
  (y0:gU esz ys) (y1:aI R w (au ys) us) (y2:∀ v∈us,v.oneCell'=true) (y3:us.length=ys.length * esz)
  {v:AV} {G':List GO} (ha:eS s.G elem esz eb x ys=some (true,v,G')) :
  bH E R w β s a o ((s.bO G').put o.dst (.v v)):=by
 obtain ⟨zc,n9,Bt⟩:=cU f6
 have Wp:=hA
 have hA:=hA zc n9
 obtain ⟨d1,d2⟩:=Rel.cells (Bt R w) oJ
 have qa:zc.cells.size=esz:=by rw [← hz,d1.length]; simp
 unfold eS at ha
 split at ha
 ·-- nothing is appended
  rename_i k sz es
  have QO:us=[]:=List.eq_nil_of_length_eq_zero (by simpa using y3)
  have hG:G'=s.G∧Rel R w v cx:=by
   split at ha
   ·injection ha with ha; injection ha with _ ha; injection ha with p q
    subst p; subst q
    exact ⟨rfl,h0⟩
   ·injection ha with ha; injection ha with _ ha; injection ha with p q
    subst p; subst q
    exact ⟨rfl,h0⟩
  obtain ⟨rfl,X5⟩:=hG
  refine ap (s:=s) h (c:=cx) (fC ?_) X5
  cases h0 with
  | iF=>exact hA.zero rfl _ _ _ (Nat.le_refl 0)
  | ia=>exact hA.zero rfl _ _ _ (Nat.le_refl 0)
  | lY=>exact hA.zero rfl _ _ _ (Nat.le_refl 0)
  | lZ=>exact hA.zero rfl _ _ _ (Nat.le_refl 0)
  | kV=>exact hA.zero rfl _ _ _ (Nat.le_refl 0)
  | list hr hlen ic _=>exact hA.zero rfl _ _ _ ic
 ·-- something is appended
  rename_i k sz es y ys hA
  have mh:0 < (y :: ys).length:=by simp
  -- what is shown where a new block has been made
  have grown:∀ {n old:Nat} {xs:List Value} {es':List AV},(es'.length=n)→gU esz es'→aI R w (au es') xs→(∀ v∈xs,v.oneCell'=true)→xs.length=n * esz →
    (n+(y :: ys).length) * eb≤140737488355328→n+(y :: ys).length≤maxLen→∀ (R':ak) (G2:List GO) (id:Nat),
    aY E R' (w.drew.alloc (.cells (xs.toArray++us.toArray++Builtin.zeroCells zc.cells (grownCap w (n+(y :: ys).length) old elem - (n+(y :: ys).length))) elem)) β (s.bO G2) a →
    Step R w β s.boxes R' (w.drew.alloc (.cells (xs.toArray++us.toArray++Builtin.zeroCells zc.cells (grownCap w (n+(y :: ys).length) old elem - (n+(y :: ys).length))) elem)) β s.boxes →
    (∀ j,j < (n+(y :: ys).length) * esz→R'.I w.heap.size j)→nth R'.obj id=some (.tok (n+(y :: ys).length) w.heap.size (grownCap w (n+(y :: ys).length) old elem)) →
    (Builtin.append_ #[t,u] o.type #[cx,cy]).run E.P w=.ok (.slice (some ⟨w.heap.size,0,none⟩) (n+(y :: ys).length) (grownCap w (n+(y :: ys).length) old elem)) (w.drew.alloc (.cells (xs.toArray++us.toArray++Builtin.zeroCells zc.cells (grownCap w (n+(y :: ys).length) old elem - (n+(y :: ys).length))) elem)) →
    bH E R w β s a o ((s.bO G2).put o.dst (.v (.list (.own id) esz (es'++(y :: ys))))):=by
   intro n old xs es' yq Mz QT sP xw _ _ R' G2 id cT DB hI bM bj
   refine ⟨_,_,_,R',β,fC bj,.inl rfl,cT.put o.dst ?_,by rw [aS]; exact DB⟩
   have e:=DB.ext
   refine Rel.list (qc (vs:=xs++us) (kH Mz y0) (by rw [cD]; exact (QT.mono e).append (y1.mono e)) (ig sP y2) (fun j v hj=>?_) (fun j hj=>hI j (by rw [List.length_append,xw,y3,← Nat.add_mul] at hj; exact hj))) (by simp [yq]) (grownCap_ge w _ _ _) ⟨_,bM,Nat.le_refl _,fun _=>⟨rfl,rfl,rfl⟩⟩
   have sT:(w.drew.alloc (.cells (xs.toArray++us.toArray++Builtin.zeroCells zc.cells (grownCap w (n+(y :: ys).length) old elem - (n+(y :: ys).length))) elem)).heap[w.heap.size]?=some (.cells (xs.toArray++us.toArray++Builtin.zeroCells zc.cells (grownCap w (n+(y :: ys).length) old elem - (n+(y :: ys).length))) elem (0,0)):=heap_alloc_new w.drew _
   rw [cell_of_row _ _ j _ _ _ sT]
   have bT:=(List.getElem?_eq_some_iff.1 hj).1
   rw [← Array.getElem?_toList]
   simp only [Array.toList_append,List.append_assoc]
   rw [← List.append_assoc,List.getElem?_append_left bT]
   exact hj
  have Gr:∀ {n old:Nat} {xs:List Value},xs.length=n * esz→n+(y :: ys).length≤maxLen→(xs.toArray++us.toArray++Builtin.zeroCells zc.cells (grownCap w (n+(y :: ys).length) old elem - (n+(y :: ys).length))).size=grownCap w (n+(y :: ys).length) old elem * esz:=by
   intro n old xs xw _
   have zB:=grownCap_ge w (n+(y :: ys).length) old elem
   simp only [Array.size_append,List.size_toArray,size_zeroCells,qa,xw,y3,← Nat.add_mul]
   congr 1
   omega
  have fresh:∀ {n old:Nat} {xs:List Value} {es':List AV},(es'.length=n)→gU esz es'→aI R w (au es') xs→(∀ v∈xs,v.oneCell'=true)→xs.length=n * esz →
    (n+(y :: ys).length) * eb≤140737488355328→n+(y :: ys).length≤maxLen →
    (Builtin.append_ #[t,u] o.type #[cx,cy]).run E.P w=.ok (.slice (some ⟨w.heap.size,0,none⟩) (n+(y :: ys).length) (grownCap w (n+(y :: ys).length) old elem)) (w.drew.alloc (.cells (xs.toArray++us.toArray++Builtin.zeroCells zc.cells (grownCap w (n+(y :: ys).length) old elem - (n+(y :: ys).length))) elem)) →
    bH E R w β s a o ((s.bO (s.G++[.tok (n+(y :: ys).length) esz elem])).put o.dst (.v (.list (.own s.G.length) esz (es'++(y :: ys))))):=by
   intro n old xs es' yq Mz QT sP xw hb hm bj
   obtain ⟨r1,r2⟩:=h.Mq (cur:=xs.toArray++us.toArray++Builtin.zeroCells zc.cells (grownCap w (n+(y :: ys).length) old elem - (n+(y :: ys).length))) (elem:=elem) (grownCap_ge w (n+(y :: ys).length) old elem) (grownCap_le_maxLen w _ old elem hm) (Gr xw hm)
   exact grown yq Mz QT sP xw hb hm _ _ _ r1 r2 (fun j hj=>.inr ⟨rfl,hj⟩) (by rw [← h.g.len]; exact ey _ _) bj
  have MA:∀ {n:Nat},(n+(y :: ys).length) * eb≤140737488355328→n+(y :: ys).length≤140737488355328:=fun {n} hb=>Nat.le_trans (Nat.le_mul_of_pos_right _ Bv) hb
  split at ha
  ·-- nil
   injection ha with ha; injection ha with hc ha; injection ha with p q
   subst p; subst q
   have hb:=of_decide_eq_true hc
   cases h0 with
   | list _ _ _ Gc=>exact Gc.elim
   | iF=>
    simp only [List.length_nil] at hb
    have hm:=MA hb
    refine fresh (n:=0) (old:=0) (xs:=[]) (es':=[]) rfl (fun e he=>by simp at he) .nil (by simp) (by simp) hb (by unfold maxLen; omega) ?_
    have bj:=hA.nil mh (by omega) (by rw [f3]; rw [Nat.zero_add] at hb; omega)
    simpa using bj
  ·-- as long as its capacity
   split at ha
   ·rename_i eC
    have eC:=Nat.eq_of_beq_eq_true eC
    subst eC
    injection ha with ha; injection ha with hc ha; injection ha with p q
    subst p; subst q
    have hb:=of_decide_eq_true hc
    have hm:=MA hb
    obtain ⟨x0,xs,x1,x2,x3,x4⟩:=fK (esz:=sz) h0 (.inr rfl)
    rcases x4 with ⟨rfl,rfl,ad,rfl,hd⟩ | ⟨b,o',cap,rfl,QU,xk,sh,_⟩
    ·rcases hd with rfl | hd
     ·cases h0
     ·cases hd
    ·have ic:cap=es.length:=xk
     subst ic
     refine fresh (n:=es.length) (old:=es.length) (xs:=xs) (es':=es) rfl x0 x1 x2 x3 hb (by unfold maxLen; omega) ?_
     exact hA.grow mh ⟨b,o',none⟩ es.length es.length xs (by rw [x3,f2]) sh (by omega) (by omega) (growslice_fits (by omega) (by rw [f3]; exact hb))
   ·cases ha
  ·-- of a token
   rename_i id
   split at ha
   ·rename_i f bq e' gS
    split at ha
    ·rename_i cC
     simp only [Bool.and_eq_true] at cC
     obtain ⟨⟨q1,q2⟩,q3⟩:=cC
     have q1:=Nat.eq_of_beq_eq_true q1
     have q2:=Nat.eq_of_beq_eq_true q2
     have q3:=Nat.eq_of_beq_eq_true q3
     subst q1; subst q2; subst q3
     injection ha with ha; injection ha with hc ha; injection ha with p q
     subst p; subst q
     simp only [Bool.and_eq_true] at hc
     have tn:=of_decide_eq_true hc.1
     have hb:=of_decide_eq_true hc.2
     subst tn
     have hm:=MA hb
     obtain ⟨x0,xs,x1,x2,x3,x4⟩:=fK (esz:=sz) h0 (.inr rfl)
     rcases x4 with ⟨rfl,rfl,ad,rfl,hd⟩ | ⟨b,o',cap,rfl,QU,xk,sh,xE⟩
     ·obtain rfl:ad=none:=by
       rcases hd with hd | hd
       ·exact hd
       ·cases hd
      cases h0 with
      | @lZ _ _ ro bI hon=>
      have cT:=h.g.obj id _ _ gS bI
      cases ro with
      | none=>exact cT.elim
      | bB _=>exact cT.elim
      | tok f' g c=>
       obtain ⟨rfl,_⟩:=cT
       simp [lX] at hon
      | aX _=>exact cT.elim
      | bn=>
       simp only [List.length_nil] at hb
       have bj:=hA.nil mh (by omega) (by rw [f3]; rw [Nat.zero_add] at hb; omega)
       have eC:=Gr (n:=0) (old:=0) (xs:=[]) (by simp) (by unfold maxLen; omega)
       obtain ⟨r1,r2⟩:=h.Gl (cur:=[].toArray++us.toArray++Builtin.zeroCells zc.cells (grownCap w (0+(y :: ys).length) 0 e' - (0+(y :: ys).length))) (elem:=e') (n:=0+(y :: ys).length) (cap:=grownCap w (0+(y :: ys).length) 0 e') gS bI (fun b c=>by simp only [cp]; omega) (grownCap_ge w _ _ _) (grownCap_le_maxLen w _ _ _ (by unfold maxLen; omega)) eC
       exact grown (n:=0) (es':=[]) rfl (fun e he=>by simp at he) .nil (by simp) (by simp) hb (by unfold maxLen; omega) _ _ _ r1 r2 (fun j hj=>.inr ⟨rfl,hj⟩) (aG bI) (by simpa using bj)
     ·obtain ⟨ro,bI,ua⟩:=xk
      have cT:=h.g.obj id _ _ gS bI
      cases ro with
      | none=>exact cT.elim
      | bn=>exact ua.elim
      | bB _=>exact cT.elim
      | aX _=>exact cT.elim
      | tok f' g c=>
       obtain ⟨rfl,cur,jb,k1,k3,k4,k5⟩:=cT
       obtain ⟨rfl,rfl,rfl⟩:=ua.2 rfl
       by_cases fL:es.length+(y :: ys).length≤cap
       ·have hle:(es.length+(y :: ys).length) * sz≤cap * sz:=Nat.mul_le_mul_right _ fL
        have bj:=hA.room mh b es.length cap cur jb fL (by rw [f2,y3,← Nat.add_mul,k4]; exact hle)
        rw [f2] at bj
        obtain ⟨r0,r1,r2⟩:=h.I9 (news:=us) (n:=es.length+(y :: ys).length) gS bI (by omega) fL jb k4 k3 (by rw [y3,← Nat.add_mul])
        refine ⟨_,_,_,_,β,fC bj,.inl rfl,r1.put o.dst ?_,by rw [aS]; exact r2⟩
        have sT:=setRow_heap w b cur (cur.toList.take (es.length * sz)++us++cur.toList.drop (es.length * sz+us.length)).toArray e' (0,0) jb
        have TU:cur.toList.take (es.length * sz)=xs:=by
         have Jd:xs.length=es.length * sz:=x3
         apply List.ext_getElem?
         intro j
         rw [List.getElem?_take]
         split
         ·rename_i hj
          have IH:j < xs.length:=by omega
          have sO:=sh j xs[j] (List.getElem?_eq_getElem IH)
          rw [cn,Nat.zero_add,cell_of_row w b j cur e' (0,0) jb] at sO
          rw [Array.getElem?_toList,sO,List.getElem?_eq_getElem IH]
         ·rw [List.getElem?_eq_none (by omega)]
        refine Rel.list (qc (vs:=xs++us) (kH x0 y0) (by rw [cD]; exact (x1.mono r0).append (y1.mono r0)) (ig x2 y2) (fun j v hj=>?_) (fun j hj=>.inr ⟨rfl,by rw [List.length_append,x3,y3,← Nat.add_mul] at hj; exact hj⟩)) (by simp) fL ⟨_,aG bI,Nat.le_refl _,fun _=>⟨rfl,rfl,rfl⟩⟩
        rw [cell_of_row _ _ j _ _ _ sT,TU]
        simp only [List.getElem?_toArray]
        rw [List.getElem?_append_left (List.getElem?_eq_some_iff.1 hj).1]
        exact hj
       ·have bj:=hA.grow mh ⟨b,0,none⟩ es.length cap xs (by rw [x3,f2]) sh (by omega) (by omega) (growslice_fits (by omega) (by rw [f3]; exact hb))
        obtain ⟨r1,r2⟩:=h.Gl (cur:=xs.toArray++us.toArray++Builtin.zeroCells zc.cells (grownCap w (es.length+(y :: ys).length) cap e' - (es.length+(y :: ys).length))) (elem:=e') (n:=es.length+(y :: ys).length) (cap:=grownCap w (es.length+(y :: ys).length) cap e') gS bI (fun b c=>⟨by omega,fun e=>by omega⟩) (grownCap_ge w _ _ _) (grownCap_le_maxLen w _ _ _ (by unfold maxLen; omega)) (Gr x3 (by unfold maxLen; omega))
        exact grown rfl x0 x1 x2 x3 hb (by unfold maxLen; omega) _ _ _ r1 r2 (fun j hj=>.inr ⟨rfl,hj⟩) (aG bI) bj
    ·cases ha
   ·cases ha
  ·-- of a member of a family
   rename_i id j
   split at ha
   ·rename_i fs bq e' gS
    split at ha
    ·rename_i cC
     simp only [Bool.and_eq_true] at cC
     obtain ⟨⟨q1,q2⟩,q3⟩:=cC
     have q1:=Nat.eq_of_beq_eq_true q1
     have q2:=Nat.eq_of_beq_eq_true q2
     have q3:=Nat.eq_of_beq_eq_true q3
     subst q1; subst q2; subst q3
     injection ha with ha; injection ha with hc ha; injection ha with p q
     subst p; subst q
     simp only [Bool.and_eq_true,decide_eq_true_eq] at hc
     exact sX h fC Bv hz oJ f2 f3 f6 h0 (fun TV MB=>Wp TV MB) y0 y1 y2 y3 gS hc.1 hc.2
    ·cases ha
   ·cases ha
  ·cases ha
 ·-- a slice that grows, and nothing
  injection ha with ha; injection ha with _ ha; injection ha with p q
  subst p; subst q
  refine ap (s:=s) h (c:=cx) (fC ?_) h0
  cases h0 with
  | iY=>exact hA.zero rfl _ _ _ (Nat.le_refl 0)
  | dT _ _ ic=>exact hA.zero rfl _ _ _ ic
 ·-- a slice that grows
  rename_i id f' off sz len y ys hA
  split at ha
  ·rename_i es bq e' gS
   split at ha
   ·rename_i cC
    simp only [Bool.and_eq_true] at cC
    obtain ⟨⟨q1,q2⟩,q3⟩:=cC
    have q1:=Nat.eq_of_beq_eq_true q1
    have q2:=Nat.eq_of_beq_eq_true q2
    have q3:=Nat.eq_of_beq_eq_true q3
    subst q1; subst q2; subst q3
    injection ha with ha; injection ha with hc ha; injection ha with p q
    subst p; subst q
    simp only [Bool.and_eq_true,decide_eq_true_eq] at hc
    exact mK h fC Bv hz oJ f2 f3 f6 h0 (fun TV MB=>Wp TV MB) y0.g y1 y2 y3 gS hc.1.1.1 hc.1.1.2 hc.1.2 hc.2
   ·cases ha
  ·cases ha
 ·cases ha
theorem z7 (h:aY E R w β s a) {args:Array Operand} {t:TypeId} (ho:o.op=.call { callee:=.builtin .append,args:=args,argTypes:=#[t,t] }) {x:AV} {k2:LK} {KV:Nat} {ys:List AV}
  (hl:kS E s.ae args.toList=some [x,.list k2 KV ys]) {i:TI} (hi:E.ti t=some i) {elem esz eb:Nat} {ag:Bool} {z:AV} (hk:i.k=.sl elem esz ag eb (some z)) (z6:ys=[]∨KV=esz) (X6:1≤esz) (Bv:1≤eb) (hz:z.cells.length=esz) (oJ:z.aP=true)
  {v:AV} {G':List GO} (ha:eS s.G elem esz eb x ys=some (true,v,G')) :
  bH E R w β s a o ((s.bO G').put o.dst (.v v)):=by
 have hr:=fu h hl
 generalize hv:args.toList.map a.eval=vs at hr
 have hx:=dG (E:=E) (w:=w) ho vs hv
 cases hr with
 | @cons _ cx _ _ h0 h1=>
 cases h1 with
 | @cons _ cy _ _ h1 h2=>
 cases h2
 obtain ⟨gf,u,e1,e2,e3,e4,e5,e6⟩:=bP E hi
 have K0:=hk
 rw [hk] at e5
 obtain ⟨ie,ue,rfl,f1,f2,f3,f4,f5,f6⟩:=dm e5
 have oM:(⟨[cx,cy]⟩:Array Value)=#[cx,cy]:=rfl
 obtain ⟨y0,us,y1,y2,y3,y4⟩:=fK (esz:=esz) h1 z6
 refine ij h (cx:=cx) (cy:=cy) (t:=t) (u:=t) (fun hh=>?_) K0 Bv hz oJ f1 f2 f3 f6 h0 (fun zc n9=>?_) y0 y1 y2 y3 ha
 ·rw [hx]
  simp only [builtin,oM,Sem.run_bind,hh,Result.andThen_ok,Sem.run_pure]
 ·rcases y4 with ⟨rfl,rfl,ad,rfl,_⟩ | ⟨PO,oy,um,rfl,QW,_,np,yE⟩
  ·refine ⟨fun _ base len cap zE=>?_,fun hh=>absurd hh (by simp),fun hh=>absurd hh (by simp),fun hh=>absurd hh (by simp)⟩
   cases ad <;> simp [Builtin.append_,run_underlying e2,run_sizeOf w f1,Builtin.lenOf,Builtin.firstCells,zE,storeCells,loadCells,loadCellsFrom] <;>
    cases base <;> simp [storeCells]
  ·refine ⟨fun hn base len cap zE=>?_,fun hh B4 B5=>run_append_nil (P:=E.P) w t o.type elem ie zc e2 f1 n9 _ _ um us (by rw [y3,f2]) np hh B4 B5,fun _ b sLen jc uj uo Gs hg B4 B5=>run_append_grow (P:=E.P) w t o.type elem ie zc e2 f1 n9 b sLen jc uj uo Gs _ _ um us (by rw [y3,f2]) np hg B4 B5,fun _ g sLen jc cur hg fL sY=>run_append_room (P:=E.P) w t o.type elem ie e2 f1 g sLen jc cur hg _ _ um us (by rw [y3,f2]) np y2 fL sY⟩
   rw [hn]
   simp [Builtin.append_,run_underlying e2,run_sizeOf w f1,Builtin.lenOf,Builtin.firstCells,zE,storeCells,loadCells,loadCellsFrom]
   cases base <;> simp [storeCells]
theorem z8 {sz:Nat} {es:List AV} (h:dC sz es) (hc:aR es=true):gU sz es:=by
 induction es with
 | nil=>intro e he; cases he
 | cons x es ih=>
  have pY:(x.closed&&aR es)=true:=hc
  rw [Bool.and_eq_true] at pY
  intro e he
  rcases List.mem_cons.1 he with rfl | he
  ·exact ⟨(h e List.mem_cons_self).1,(h e List.mem_cons_self).2,pY.1⟩
  ·exact ih (fun e he=>h e (List.mem_cons_of_mem _ he)) pY.2 e he
theorem EP (h:aY E R w β s a) {id f sz len:Nat} {es:List AV} {el:TypeId} {c:Value} (bM:nth s.G id=some (.dE es sz el)) (hf:f=es.length) (hl:len=es.length) (jd:aR es=true) (hc:Rel R w (.dT id f 0 sz len) c) :
  gU sz es∧∃ vs,aI R w (au es) vs∧(∀ v∈vs,v.oneCell'=true)∧vs.length=es.length * sz ∧
   ((es=[]∧vs=[]∧∃ ad,c=.slice ad 0 0)∨∃ b o' cap,c=.slice (some ⟨b,o',none⟩) es.length cap∧es.length≤cap∧(∀ j v,vs[j]?=some v→w.cell? ((⟨b,o',none⟩:Addr).add j)=some v)):=by
 cases hc with
 | iY h1 h2=>
  have he:es=[]:=List.eq_nil_of_length_eq_zero hl.symm
  subst he
  exact ⟨(fun e he=>by cases he),[],.nil,by simp,by simp,.inl ⟨rfl,rfl,_,rfl⟩⟩
 | @dT _ _ _ _ _ cap b1 o1 ro h1 h2 h3=>
  have hn:ro≠.bn:=fun e=>by subst e; exact h2.elim
  obtain ⟨b,c',cur,vs,rfl,g0,g2,g3,g4,g5,g6,g7,g8,g9⟩:=mf h.g bM h1 hn
  have g1:gU sz es:=z8 g0 jd
  obtain ⟨rfl,k2,k3⟩:=h2.2 hf
  refine ⟨g1,vs,g7,g8,by rw [← g7.length,cE g1],.inr ⟨_,_,_,by rw [hl],by omega,fun j v hj=>?_⟩⟩
  rw [cn]
  have TS:j < vs.length:=(List.getElem?_eq_some_iff.1 hj).1
  have ho:o1=0:=by
   rcases k3 with k3 | k3
   ·rw [k3,Nat.zero_mul]
   ·have:es.length=0:=by omega
    rw [← g7.length,cE g1,this,Nat.zero_mul] at TS
    omega
  subst ho
  rw [Nat.zero_add,cell_of_row w b1 j cur el (0,0) g2]
  rw [← g9,List.getElem?_take] at hj
  split at hj
  ·rw [← Array.getElem?_toList]; exact hj
  ·cases hj
theorem sZ (h:aY E R w β s a) {args:Array Operand} {t:TypeId} (ho:o.op=.call { callee:=.builtin .append,args:=args,argTypes:=#[t,t] }) {x:AV} {id f sz len:Nat} {ys:List AV} {el:TypeId}
  (hl:kS E s.ae args.toList=some [x,.dT id f 0 sz len]) (bM:nth s.G id=some (.dE ys sz el)) (hf:f=ys.length) (hlen:len=ys.length) (jd:aR ys=true)
  {i:TI} (hi:E.ti t=some i) {elem esz eb:Nat} {ag:Bool} {z:AV} (hk:i.k=.sl elem esz ag eb (some z)) (z6:sz=esz) (Bv:1≤eb) (hz:z.cells.length=esz) (oJ:z.aP=true)
  {v:AV} {G':List GO} (ha:eS s.G elem esz eb x ys=some (true,v,G')) :
  bH E R w β s a o ((s.bO G').put o.dst (.v v)):=by
 have hr:=fu h hl
 generalize hv:args.toList.map a.eval=vs at hr
 have hx:=dG (E:=E) (w:=w) ho vs hv
 cases hr with
 | @cons _ cx _ _ h0 h1=>
 cases h1 with
 | @cons _ cy _ _ h1 h2=>
 cases h2
 obtain ⟨gf,u,e1,e2,e3,e4,e5,e6⟩:=bP E hi
 have K0:=hk
 rw [hk] at e5
 obtain ⟨ie,ue,rfl,f1,f2,f3,f4,f5,f6⟩:=dm e5
 have oM:(⟨[cx,cy]⟩:Array Value)=#[cx,cy]:=rfl
 subst z6
 obtain ⟨y0,us,y1,y2,y3,y4⟩:=EP h bM hf hlen jd h1
 refine ij h (cx:=cx) (cy:=cy) (t:=t) (u:=t) (fun hh=>?_) K0 Bv hz oJ f1 f2 f3 f6 h0 (fun zc n9=>?_) y0 y1 y2 y3 ha
 ·rw [hx]
  simp only [builtin,oM,Sem.run_bind,hh,Result.andThen_ok,Sem.run_pure]
 ·rcases y4 with ⟨rfl,rfl,ad,rfl⟩ | ⟨PO,oy,um,rfl,QW,np⟩
  ·refine ⟨fun _ base len cap zE=>?_,fun hh=>absurd hh (by simp),fun hh=>absurd hh (by simp),fun hh=>absurd hh (by simp)⟩
   cases ad <;> simp [Builtin.append_,run_underlying e2,run_sizeOf w f1,Builtin.lenOf,Builtin.firstCells,zE,storeCells,loadCells,loadCellsFrom] <;>
    cases base <;> simp [storeCells]
  ·refine ⟨fun hn base len cap zE=>?_,fun hh B4 B5=>run_append_nil (P:=E.P) w t o.type elem ie zc e2 f1 n9 _ _ um us (by rw [y3,f2]) np hh B4 B5,fun _ b sLen jc uj uo Gs hg B4 B5=>run_append_grow (P:=E.P) w t o.type elem ie zc e2 f1 n9 b sLen jc uj uo Gs _ _ um us (by rw [y3,f2]) np hg B4 B5,fun _ g sLen jc cur hg fL sY=>run_append_room (P:=E.P) w t o.type elem ie e2 f1 g sLen jc cur hg _ _ um us (by rw [y3,f2]) np y2 fL sY⟩
   rw [hn]
   simp [Builtin.append_,run_underlying e2,run_sizeOf w f1,Builtin.lenOf,Builtin.firstCells,zE,storeCells,loadCells,loadCellsFrom]
   cases base <;> simp [storeCells]
theorem uq:∀ (bs:List UInt8),aI R w (au (bs.map pR)) (Lib.strCells ⟨⟨bs⟩⟩)
 | []=>.nil
 | b :: bs=>.cons (Rel.int .u8 b.toNat) (uq bs)
theorem s5 (h:aY E R w β s a) {args:Array Operand} {t u:TypeId} (ho:o.op=.call { callee:=.builtin .append,args:=args,argTypes:=#[t,u] }) {x:AV} {bs:List UInt8}
  (hl:kS E s.ae args.toList=some [x,.str bs]) {i j:TI} (hi:E.ti t=some i) (hj:E.ti u=some j) {elem eb:Nat} {ag:Bool} {z:AV} (hk:i.k=.sl elem 1 ag eb (some z)) (PT:j.k=.str) (Bv:1≤eb) (hz:z.cells.length=1) (oJ:z.aP=true)
  {v:AV} {G':List GO} (ha:eS s.G elem 1 eb x (bs.map pR)=some (true,v,G')) :
  bH E R w β s a o ((s.bO G').put o.dst (.v v)):=by
 have hr:=fu h hl
 generalize hv:args.toList.map a.eval=vs at hr
 have hx:=dG (E:=E) (w:=w) ho vs hv
 cases hr with
 | @cons _ cx _ _ h0 h1=>
 cases h1 with
 | @cons _ cy _ _ h1 h2=>
 cases h2
 obtain ⟨gf,ud,e1,e2,e3,e4,e5,e6⟩:=bP E hi
 obtain ⟨QX,X7,g1,g2,g3,g4,g5,g6⟩:=bP E hj
 rw [PT] at g5
 have:=jV g5
 subst this
 have K0:=hk
 rw [hk] at e5
 obtain ⟨ie,ue,rfl,f1,f2,f3,f4,f5,f6⟩:=dm e5
 cases h1
 have eC:(⟨⟨bs⟩⟩:ByteArray).size=bs.length:=rfl
 have hlen:(bs.map pR).length=bs.length:=List.length_map _
 have oM:(⟨[cx,.string ⟨⟨bs⟩⟩]⟩:Array Value)=#[cx,.string ⟨⟨bs⟩⟩]:=rfl
 have jd:(Lib.strCells ⟨⟨bs⟩⟩).length=bs.length:=Lib.strCells_length _
 refine ij h (cx:=cx) (cy:=.string ⟨⟨bs⟩⟩) (us:=Lib.strCells ⟨⟨bs⟩⟩) (t:=t) (u:=u) (fun hh=>?_) K0 Bv hz oJ f1 f2 f3 f6 h0 (fun zc n9=>?_) ?_ (uq bs) (Lib.strCells_oneCell _) (by rw [jd,hlen,Nat.mul_one]) ha
 ·rw [hx]
  simp only [builtin,oM,Sem.run_bind,hh,Result.andThen_ok,Sem.run_pure]
 ·rw [hlen]
  refine ⟨fun hn base len cap zE=>?_,fun hh B4 B5=>?_,fun _ b sLen jc uj uo Gs hg B4 B5=>Lib.run_append_grow_string (P:=E.P) w t u o.type elem ie zc e2 g2 f1 n9 b sLen jc uj uo Gs ⟨⟨bs⟩⟩ hg B4 B5,fun _ g sLen jc cur hg fL sY=>?_⟩
  ·have hb:bs=[]:=List.eq_nil_of_length_eq_zero hn
   subst hb
   have TW:(⟨⟨[]⟩⟩:ByteArray).size=0:=rfl
   simp [TW,Builtin.append_,run_underlying e2,run_underlying g2,run_sizeOf w f1,Builtin.lenOf,Builtin.firstCells,zE,storeCells]
   cases base <;> simp [storeCells]
  ·rw [run_append_nil_string (P:=E.P) w t u o.type elem ie zc e2 g2 f1 n9 ⟨⟨bs⟩⟩ hh B4 B5]
   simp [Lib.strCells,eC]
  ·have:=Lib.run_append_room_string (P:=E.P) w t u o.type elem ie e2 g2 f1 f2 g sLen jc cur hg ⟨⟨bs⟩⟩ fL (by rw [f2,Nat.mul_one,jd] at sY; exact sY)
   rw [this,f2,Nat.mul_one,jd]
   rfl
 ·intro e he
  obtain ⟨b,_,rfl⟩:=List.mem_map.1 he
  exact ⟨rfl,rfl,rfl⟩
end ops
end Go.Am
