/- The abstract machine: what it does is what the model does: slices that grow and are written. -/
import Derived.Test.YtegoimldbgdeiaaAmKC
import Derived.Lib.AppendStr
set_option linter.all false
namespace Go.Am
open Go
section lists
theorem tO {α:Type} (c us:List α) (n p sz off:Nat) (hn:n≤c.length) (hp:p+sz≤n) (ho:off+us.length≤sz) :
  (c.take (p+off)++us++c.drop (p+off+us.length)).take n =
   (c.take n).take p++((((c.take n).drop p).take sz).take off++us++(((c.take n).drop p).take sz).drop (off+us.length))++(c.take n).drop (p+sz):=by
 apply List.ext_getElem?
 intro j
 simp only [List.getElem?_append,List.getElem?_take,List.getElem?_drop,List.length_append,List.length_take,List.length_drop]
 by_cases h1:j < p
 ·rw [if_pos (by omega),if_pos (by omega),if_pos (by omega),if_pos (by omega),if_pos (by omega),if_pos (by omega),if_pos (by omega),if_pos (by omega)]
 ·by_cases h2:j < p+off
  ·rw [if_pos (by omega),if_pos (by omega),if_pos (by omega),if_pos (by omega),if_pos (by omega),if_neg (by omega),if_pos (by omega),if_pos (by omega),if_pos (by omega),if_pos (by omega),if_pos (by omega)]
   congr 1; omega
  ·by_cases h3:j < p+off+us.length
   ·rw [if_pos (by omega),if_pos (by omega),if_neg (by omega),if_pos (by omega),if_neg (by omega),if_pos (by omega),if_neg (by omega)]
    congr 1; omega
   ·by_cases h4:j < p+sz
    ·rw [if_pos (by omega),if_neg (by omega),if_pos (by omega),if_neg (by omega),if_neg (by omega),if_pos (by omega),if_pos (by omega)]
     congr 1; omega
    ·by_cases h5:j < n
     ·rw [if_pos (by omega),if_neg (by omega),if_neg (by omega),if_pos (by omega)]
      congr 1; omega
     ·rw [if_neg (by omega),if_neg (by omega),if_neg (by omega)]
theorem oZ {sz:Nat}:∀ {es:List AV} {i:Nat} {e:AV},dg sz es→nth es i=some e→((ar es).drop (i * sz)).take sz=e.cells
 | [],_,_,_,h=>by simp [nth] at h
 | x :: es,0,e,h,hi=>by
  simp only [nth] at hi
  cases hi
  have h1:=(h x (by simp)).1
  rw [Nat.zero_mul,List.drop_zero]
  simp only [ar]
  rw [← h1,List.take_left]
 | x :: es,i+1,e,h,hi=>by
  have h1:=(h x (by simp)).1
  have ih:=oZ (i:=i) (fun y hy=>h y (by simp [hy])) (show nth es i=some e from hi)
  simp only [ar]
  rw [show (i+1) * sz=x.cells.length+i * sz by rw [h1,Nat.succ_mul]; omega,List.drop_append,List.drop_of_length_le (by omega),List.nil_append,Nat.add_sub_cancel_left]
  exact ih
theorem pQ {sz:Nat} {l r:List AV} (h:dg sz l) (k:dg sz r):dg sz (l++r):=fun e he=>by
 rcases List.mem_append.1 he with he | he
 ·exact h e he
 ·exact k e he
theorem wB {sz:Nat} {l:List AV} (n:Nat) (h:dg sz l):dg sz (l.take n):=fun e he=>h e (List.mem_of_mem_take he)
theorem DH {sz:Nat} {l:List AV} (n:Nat) (h:dg sz l):dg sz (l.drop n):=fun e he=>h e (List.mem_of_mem_drop he)
theorem iI {sz:Nat}:∀ {es:List AV} (i:Nat),dg sz es→ar (es.take i)=(ar es).take (i * sz)
 | [],i,_=>by simp [ar]
 | e :: es,0,_=>by simp [ar]
 | e :: es,i+1,h=>by
  have h1:=(h e (by simp)).1
  simp only [List.take_succ_cons,ar]
  rw [iI i (fun y hy=>h y (by simp [hy])),show (i+1) * sz=e.cells.length+i * sz by rw [h1,Nat.succ_mul]; omega,List.take_append,Nat.add_sub_cancel_left,List.take_of_length_le (by omega:e.cells.length≤e.cells.length+i * sz)]
theorem mZ {sz:Nat}:∀ {es:List AV} (i:Nat),dg sz es→ar (es.drop i)=(ar es).drop (i * sz)
 | [],i,_=>by simp [ar]
 | e :: es,0,_=>by simp [ar]
 | e :: es,i+1,h=>by
  have h1:=(h e (by simp)).1
  simp only [List.drop_succ_cons,ar]
  rw [mZ i (fun y hy=>h y (by simp [hy])),show (i+1) * sz=e.cells.length+i * sz by rw [h1,Nat.succ_mul]; omega,List.drop_append,List.drop_of_length_le (by omega:e.cells.length≤e.cells.length+i * sz),List.nil_append,Nat.add_sub_cancel_left]
theorem cN {sz:Nat} {es:List AV} (h:dg sz es):(ar es).length=es.length * sz:=by
 induction es with
 | nil=>simp [ar]
 | cons e es ih=>
  have h1:=(h e (by simp)).1
  have:=ih (fun x hx=>h x (by simp [hx]))
  simp only [ar,List.length_append,this,h1,List.length_cons,Nat.add_mul]
  omega
theorem Bb {sz:Nat} {es:List AV} {i:Nat} {v:AV} (h:dg sz es) (h1:v.cells.length=sz) (h2:v.aL=true):dg sz (ax es i v):=fun e he=>by
 rw [gw] at he
 rcases List.mem_or_eq_of_mem_set he with he | rfl
 ·exact h e he
 ·exact ⟨h1,h2⟩
theorem zh {sz:Nat} {es:List AV} {i:Nat} {v:AV} (h:dg sz es) (hi:i < es.length) (hv:v.cells.length=sz):ar (ax es i v)=bI (ar es) (i * sz) v.cells:=by
 have Bc:i * sz+sz≤es.length * sz:=by
  rw [← Nat.succ_mul]
  exact Nat.mul_le_mul_right _ hi
 rw [gw,List.set_eq_take_append_cons_drop,if_pos hi,eB _ _ _ (by rw [hv,cN h]; exact Bc),cr,iI i h,hv]
 simp only [ar]
 rw [mZ (i+1) h,Nat.succ_mul,List.append_assoc]
end lists
section ops
variable {E:Env} {R:aj} {w:World} {β:Nat→Nat} {s:St} {a:Act} {o:Oper}
theorem lZ {G:List GO} (h:dP E R w G) {id:Nat} {es:List AV} {sz:Nat} {el:TypeId} {ro:RO} (bE:nth G id=some (.du es sz el)) (bA:nth R.obj id=some ro) (hn:ro≠.bj) :
  ∃ b c cur vs,ro=.tok es.length b c∧dg sz es∧w.heap[b]?=some (.cells cur el (0,0))∧es.length≤c∧c≤maxLen∧cur.size=c * sz∧(∀ o,¬ R.I b o)∧aE R w (ar es) vs∧(∀ v∈vs,v.oneCell'=true)∧cur.toList.take (es.length * sz)=vs:=by
 have hr:=h.obj id _ _ bE bA
 cases ro with
 | none=>exact hr.elim
 | bj=>exact absurd rfl hn
 | bq b=>exact hr.elim
 | aU _=>exact hr.elim
 | tok f b c=>
  obtain ⟨rfl,h1,cur,vs,h2,h3,h4,h5,h6,h7,h8,h9⟩:=hr
  exact ⟨b,c,cur,vs,rfl,h1,h2,h3,h4,h5,h6,h7,h8,h9⟩
theorem tP {id f i sz:Nat} {t:TypeId} {v:AV} (h:to E s id f i sz t=some (true,v)) :
  ∃ es el e,nth s.G id=some (.du es sz el)∧f=es.length∧nth es i=some e∧hY e v:=by
 unfold to at h
 split at h
 ·rename_i es bl el bE
  split at h
  ·rename_i p hp
   split at h
   ·rename_i eC
    have eC:=Nat.eq_of_beq_eq_true eC
    subst eC
    injection h with h
    injection h with h1 h2
    simp only [Bool.and_eq_true,decide_eq_true_eq] at h1
    obtain ⟨⟨h3,h4⟩,h5⟩:=h1
    obtain ⟨e,he⟩:∃ e,nth es i=some e:=⟨es[i],by rw [aR]; exact List.getElem?_eq_getElem h4⟩
    have hd:ak es i=e:=by simp [ak,he]
    rw [hd] at h5 h2
    rw [← h2]
    exact ⟨es,el,e,bE,h3,he,p.cz h5⟩
   ·cases h
  ·split at h
   ·rename_i eC
    have eC:=Nat.eq_of_beq_eq_true eC
    subst eC
    injection h with h
    injection h with h1 h2
    simp only [Bool.and_eq_true,decide_eq_true_eq] at h1
    obtain ⟨h3,h4⟩:=h1
    obtain ⟨e,he⟩:∃ e,nth es i=some e:=⟨es[i],by rw [aR]; exact List.getElem?_eq_getElem h4⟩
    have hd:ak es i=e:=by simp [ak,he]
    rw [hd] at h2
    rw [← h2]
    exact ⟨es,el,e,bE,h3,he,hY.refl e⟩
   ·cases h
 ·cases h
theorem CC {α:Type} {l:List α} {i:Nat} {x:α} (h:nth l i=some x):x∈l:=by
 rw [aR] at h
 exact List.mem_of_getElem? h
theorem Bd {i n sz:Nat} (h:i < n):i * sz+sz≤n * sz:=by
 rw [← Nat.succ_mul]
 exact Nat.mul_le_mul_right _ h
theorem Be (h:aV E R w β s a) (t:TypeId) (x:Operand) (ho:o.op=.load t x) {v:AV} (hl:v7 E s t (bc E s.ae x)=some (true,v)) :
  bz E R w β s a o (s.put o.dst (.v v)):=by
 have rx:=aI h x
 unfold v7 at hl
 split at hl
 ·rename_i id f i off sz ty hx
  rw [hx] at rx
  split at hl
  ·rename_i ti c ve K3 hg
   split at hl
   ·rename_i l hs
    split at hl
    ·rename_i r hm
     injection hl with hl
     injection hl with h1 h2
     subst h1; subst h2
     obtain ⟨es,el,e,bE,K7,he,DI⟩:=tP hg
     have df:Rel R w (.gp id f i off sz ty) (a.eval x):=rx
     generalize eX:a.eval x=xv at df
     cases df with
     | @gp _ _ _ _ _ b o' _ ro bA eW=>
     obtain ⟨b',c',cur,vs,rfl,g1,g2,g3,g4,g5,g6,g7,g8,g9⟩:=lZ h.g bE bA (fun k=>by subst k; exact eW)
     obtain ⟨rfl,rfl⟩:=eW.2 K7
     have Rk:=g1 e (CC he)
     have dv:aE R w e.cells ((vs.drop (i * sz)).take sz):=by
      rw [← oZ g1 he]
      exact (g7.drop _).take _
     have hw:=(DI.cells Rk.2).rel dv
     obtain ⟨k1,k2,k3,k4⟩:=nW hs hw (fun y hy=>g8 y (List.mem_of_mem_drop (List.mem_of_mem_take hy)))
     obtain ⟨c,hc,Vb⟩:=mS (E:=E) K3 (b:=b) (off:=i * sz+off) k1 k2 k3 (fun j y hy=>by
      have h1:=k4 j y hy
      rw [List.getElem?_take] at h1
      split at h1
      ·rw [List.getElem?_drop,← g9,List.getElem?_take] at h1
       split at h1
       ·rw [cell_of_row w b _ cur el (0,0) g2,Nat.add_assoc,← Array.getElem?_toList]
        exact h1
       ·cases h1
      ·cases h1) hm
     refine ap h (c:=c) ?_ Vb
     simp [execOp,ho,Instr.loadAt,eX,Instr.sureAddr,hc]
    ·cases hl
   ·cases hl
  ·cases hl
 ·split at hl
  ·rename_i v' hv
   injection hl with hl
   injection hl with h1 h2
   subst h2
   exact DB h t x ho hv
  ·cases hl
theorem aV.Fe (h:aV E R w β s a) {id f b c:Nat} {es es':List AV} {sz:Nat} {el:TypeId} {cur zg:Array Value} {vs':List Value} (bE:nth s.G id=some (.du es sz el)) (bA:nth R.obj id=some (.tok f b c))
  (hb:w.heap[b]?=some (.cells cur el (0,0))) (hlen:es'.length=es.length) (nV:dg sz es') (eC:zg.size=cur.size) (hr:aE R w (ar es') vs') (h1:∀ v∈vs',v.oneCell'=true) (ht:zg.toList.take (f * sz)=vs') :
  aV E R (w.setRow b zg) β (s.bF (ax s.G id (.du es' sz el))) a∧Step R w β s.boxes R (w.setRow b zg) β s.boxes:=by
 obtain ⟨q0,q1,OH,Vc,p1,p2,p3,p4,p5,p6,p7,p8⟩:=h.g.obj id _ _ bE bA
 rw [hb] at p1
 cases p1
 have hex:=jN (R:=R) (w:=w) p5 zg
 have Bf:∀ k cs,de s.boxes k=some cs→β k≠b:=fun k cs hk e=>(h.b.box k cs hk).2.2 ⟨id,_,bA,by rw [e]; rfl⟩
 refine ⟨⟨⟨by simp [St.bF,h.g.len],fun iS go ro hg ky=>?_,h.g.inj,fun b' o' oB=>by have:=h.g.wf b' o' oB; simp; omega,fun g eO hg=>(h.g.dD g eO hg).mono hex,h.g.lo⟩,?_,h.t.mono hex,h.n,h.d⟩,?_⟩
 ·rcases cP hg with ⟨rfl,rfl,_⟩ | ⟨cq,yN⟩
  ·rw [bA] at ky
   cases ky
   exact ⟨by rw [hlen]; exact q0,nV,zg,vs',setRow_heap w _ _ _ _ (0,0) hb,p2,p3,by rw [eC]; exact p4,p5,hr.mono hex,h1,ht⟩
  ·refine (h.g.obj iS go ro yN ky).mono hex (fun b' kF=>setRow_other w _ b' _ (fun e=>cq ?_)) (fun _ _ _ hi=>hi)
   subst e
   exact h.g.inj id iS _ _ b' bA ky rfl kF
 ·exact h.b.aW hex (fun k eO iY=>setRow_other w _ _ _ (Bf k eO iY)) (fun _ _ _ _ hi=>hi) (fun _ _ _ hl=>hl)
 ·have xz:Own R β s.boxes b:=.inl ⟨id,_,bA,rfl⟩
  exact ⟨hex,rfl,rfl,rfl,by simp,fun b' _ hn=>setRow_other w _ b' _ (fun e=>hn (e ▸ xz)),fun _ _ hb=>hb,fun b o hi _ _=>hi⟩
theorem aV.CD (h:aV E R w β s a) {id b c i off:Nat} {es:List AV} {sz:Nat} {el:TypeId} {cur:Array Value} {vs us:List Value} {e':AV} (bE:nth s.G id=some (.du es sz el)) (bA:nth R.obj id=some (.tok es.length b c))
  (hb:w.heap[b]?=some (.cells cur el (0,0))) (nV:dg sz es) (hle:es.length≤c) (pP:cur.size=c * sz) (hr:aE R w (ar es) vs) (h1:∀ v∈vs,v.oneCell'=true) (ht:cur.toList.take (es.length * sz)=vs) (hi:i < es.length)
  (h2:∀ v∈us,v.oneCell'=true) (xI:off+us.length≤sz) (pM:e'.cells.length=sz) (OI:e'.aL=true) (OJ:aE R w e'.cells (((vs.drop (i * sz)).take sz).take off++us++((vs.drop (i * sz)).take sz).drop (off+us.length))) :
  aV E R (w.setRow b ⟨cur.toList.take (i * sz+off)++us++cur.toList.drop (i * sz+off+us.length)⟩) β (s.bF (ax s.G id (.du (ax es i e') sz el))) a ∧
   Step R w β s.boxes R (w.setRow b ⟨cur.toList.take (i * sz+off)++us++cur.toList.drop (i * sz+off+us.length)⟩) β s.boxes:=by
 have Bc:=Bd (sz:=sz) hi
 have Hr:es.length * sz≤cur.toList.length:=by
  rw [show cur.toList.length=cur.size from Array.length_toList,pP]
  exact Nat.mul_le_mul_right _ hle
 have JI:vs.length=es.length * sz:=by rw [← hr.length,cN nV]
 refine h.Fe bE bA hb (gD _ _ _) (Bb nV pM OI) ?_ (vs':=vs.take (i * sz)++(((vs.drop (i * sz)).take sz).take off++us++((vs.drop (i * sz)).take sz).drop (off+us.length))++vs.drop (i * sz+sz)) ?_ ?_ ?_
 ·rw [List.size_toArray,← Array.length_toList]
  simp only [List.length_append,List.length_take,List.length_drop]
  omega
 ·rw [zh nV hi pM,eB _ _ _ (by rw [pM,cN nV]; exact Bc),pM]
  exact ((hr.take _).append OJ).append (hr.drop _)
 ·intro v hv
  simp only [List.mem_append] at hv
  rcases hv with (hv | ((hv | hv) | hv)) | hv
  ·exact h1 v (List.mem_of_mem_take hv)
  ·exact h1 v (List.mem_of_mem_drop (List.mem_of_mem_take (List.mem_of_mem_take hv)))
  ·exact h2 v hv
  ·exact h1 v (List.mem_of_mem_drop (List.mem_of_mem_take (List.mem_of_mem_drop hv)))
  ·exact h1 v (List.mem_of_mem_drop hv)
 ·rw [List.toList_toArray,tO _ _ _ _ _ _ Hr Bc xI,ht]
theorem aV.CE (h:aV E R w β s a) {id b c off:Nat} {es ns:List AV} {sz:Nat} {el:TypeId} {cur:Array Value} {vs us:List Value} (bE:nth s.G id=some (.du es sz el)) (bA:nth R.obj id=some (.tok es.length b c))
  (hb:w.heap[b]?=some (.cells cur el (0,0))) (nV:dg sz es) (hle:es.length≤c) (pP:cur.size=c * sz) (hr:aE R w (ar es) vs) (h1:∀ v∈vs,v.oneCell'=true) (ht:cur.toList.take (es.length * sz)=vs)
  (xI:off+ns.length≤es.length) (TS:dg sz ns) (hu:aE R w (ar ns) us) (h2:∀ v∈us,v.oneCell'=true) :
  aV E R (w.setRow b ⟨cur.toList.take (off * sz)++us++cur.toList.drop (off * sz+us.length)⟩) β (s.bF (ax s.G id (.du (bI es off ns) sz el))) a ∧
   Step R w β s.boxes R (w.setRow b ⟨cur.toList.take (off * sz)++us++cur.toList.drop (off * sz+us.length)⟩) β s.boxes:=by
 have K8:us.length=ns.length * sz:=by rw [← hu.length,cN TS]
 have Bc:off * sz+ns.length * sz≤es.length * sz:=by rw [← Nat.add_mul]; exact Nat.mul_le_mul_right _ xI
 have Hr:es.length * sz≤cur.toList.length:=by
  rw [show cur.toList.length=cur.size from Array.length_toList,pP]
  exact Nat.mul_le_mul_right _ hle
 have JI:vs.length=es.length * sz:=by rw [← hr.length,cN nV]
 have hm:=tO cur.toList us (es.length * sz) (off * sz) (ns.length * sz) 0 Hr Bc (by omega)
 simp only [Nat.add_zero,List.take_zero,List.nil_append,Nat.zero_add] at hm
 rw [K8,ht,show List.drop (ns.length * sz) (List.take (ns.length * sz) (List.drop (off * sz) vs))=[] from List.drop_of_length_le (by rw [List.length_take]; exact Nat.min_le_left _ _),List.append_nil] at hm
 rw [eB _ _ _ xI]
 refine h.Fe bE bA hb (by simp; omega) (pQ (pQ (wB _ nV) TS) (DH _ nV)) ?_ (vs':=vs.take (off * sz)++us++vs.drop (off * sz+ns.length * sz)) ?_ ?_ ?_
 ·rw [List.size_toArray,← Array.length_toList]
  simp only [List.length_append,List.length_take,List.length_drop,K8]
  omega
 ·rw [cr,cr,iI _ nV,mZ _ nV,Nat.add_mul]
  exact ((hr.take _).append hu).append (hr.drop _)
 ·intro v hv
  simp only [List.mem_append] at hv
  rcases hv with (hv | hv) | hv
  ·exact h1 v (List.mem_of_mem_take hv)
  ·exact h2 v hv
  ·exact h1 v (List.mem_of_mem_drop hv)
 ·rw [List.toList_toArray,K8]
  exact hm
theorem zi (h:aV E R w β s a) (t:TypeId) (p x:Operand) (ho:o.op=.store t p x) (hd:o.dst=none) {s':St} (hs:iV E s t (bc E s.ae p) (bc E s.ae x)=some (true,s')) :
  bz E R w β s a o s':=by
 have rp:=aI h p
 have rx:=aI h x
 unfold iV at hs
 split at hs
 ·rename_i id f i off sz ty Ot
  rw [Ot] at rp
  have Ov:Rel R w (.gp id f i off sz ty) (a.eval p):=rp
  generalize Ow:a.eval p=pv at Ov
  split at hs
  ·rename_i ti v es bl el K3 hx bE
   rw [hx] at rx
   split at hs
   ·rename_i fm
    simp only [Bool.and_eq_true] at fm
    obtain ⟨⟨Hm,hlen⟩,K9⟩:=fm
    have hlen:=Nat.eq_of_beq_eq_true hlen
    have K9:=Nat.eq_of_beq_eq_true K9
    subst K9
    have Vd:Rel R w v (a.eval x):=rx
    obtain ⟨c1,c2⟩:=Rel.cells Vd Hm
    have yM:v.cells.length=(a.eval x).cells.toList.length:=c1.length
    cases Ov with
    | @gp _ _ _ _ _ b o' _ ro bA eW=>
    obtain ⟨b',c',cur,vs,rfl,g1,g2,g3,g4,g5,g6,g7,g8,g9⟩:=lZ h.g bE bA (fun k=>by subst k; exact eW)
    have JI:vs.length=es.length * sz:=by rw [← g7.length,cN g1]
    have Hr:es.length * sz≤cur.toList.length:=by
     rw [show cur.toList.length=cur.size from Array.length_toList,g5]
     exact Nat.mul_le_mul_right _ g3
    split at hs
    ·rename_i hw
     rw [Bool.and_eq_true] at hw
     have xI:=Nat.eq_of_beq_eq_true hw.1
     have NO:=Nat.eq_of_beq_eq_true hw.2
     subst xI
     injection hs with hs
     injection hs with h1 h2
     rw [Bool.and_eq_true,decide_eq_true_eq,decide_eq_true_eq] at h1
     subst h2
     obtain ⟨rfl,rfl⟩:=eW.2 h1.1
     have Bc:=Bd (sz:=sz) h1.2
     have bf:=js (E:=E) (w:=w) K3 (b:=b) (vs:=cur.toList) (off:=i * sz+0) (c:=a.eval x) g2 (by rw [← yM]; exact hlen) (by rw [← yM]; omega) c2
     obtain ⟨r1,r2⟩:=h.CD (us:=(a.eval x).cells.toList) (off:=0) (i:=i) (e':=v) bE bA g2 g1 g3 g5 g7 g8 g9 h1.2 c2 (by rw [← yM]; omega) (by omega) Hm (by
      rw [List.take_zero,List.nil_append,Nat.zero_add,List.drop_of_length_le (by rw [List.length_take,← yM]; omega),List.append_nil]
      exact c1)
     simp only [Nat.add_zero] at Ow bf r1 r2
     refine ⟨.skip,undef,_,R,β,?_,.inr ⟨rfl,rfl⟩,by rw [hd]; exact r1,r2⟩
     simp [execOp,ho,Instr.storeAt,Ow,Instr.sureAddr,bf]
    ·split at hs
     ·rename_i cc cs hg
      split at hs
      ·rename_i hw
       simp only [Bool.and_eq_true] at hw
       obtain ⟨hle,La⟩:=hw
       have hle:=Nat.le_of_ble_eq_true hle
       have La:=Nat.eq_of_beq_eq_true La
       injection hs with hs
       injection hs with h1 h2
       subst h1; subst h2
       obtain ⟨XB,XC,e,Ff,K7,he,DI⟩:=tP hg
       rw [bE] at Ff
       cases Ff
       obtain ⟨rfl,rfl⟩:=eW.2 K7
       have hi:i < es.length:=bp he
       have Bc:=Bd (sz:=sz) hi
       have Rk:=g1 e (CC he)
       have dv:aE R w e.cells ((vs.drop (i * sz)).take sz):=by
        rw [← oZ g1 he]
        exact (g7.drop _).take _
       have hw:=(DI.cells Rk.2).rel dv
       have TT:aE R w cs ((vs.drop (i * sz)).take sz):=hw
       have bf:=js (E:=E) (w:=w) K3 (b:=b) (vs:=cur.toList) (off:=i * sz+off) (c:=a.eval x) g2 (by rw [← yM]; exact hlen) (by rw [← yM]; omega) c2
       have yP:off+v.cells.length≤cs.length:=by omega
       obtain ⟨r1,r2⟩:=h.CD (us:=(a.eval x).cells.toList) (off:=off) (i:=i) (e':=.agg (bI cs off v.cells)) bE bA g2 g1 g3 g5 g7 g8 g9 hi c2 (by rw [← yM]; omega) (by show (bI cs off v.cells).length=sz; rw [vF _ _ _ yP]; exact La) rfl (by
        show aE R w (bI cs off v.cells) _
        rw [eB _ _ _ yP,yM]
        exact ((TT.take _).append c1).append (TT.drop _))
       refine ⟨.skip,undef,_,R,β,?_,.inr ⟨rfl,rfl⟩,by rw [hd]; exact r1,r2⟩
       simp [execOp,ho,Instr.storeAt,Ow,Instr.sureAddr,bf]
      ·cases hs
     ·cases hs
   ·cases hs
  ·cases hs
 ·split at hs
  ·rename_i xJ hv
   injection hs with hs
   injection hs with h1 h2
   subst h2
   exact A0 h t p x ho hd hv
  ·cases hs
def aj.reset (R:aj) (id:Nat) (ro:RO):aj:=⟨R.I,ax R.obj id ro⟩
theorem tQ {id g:Nat} {r0 ro:RO} (bE:nth R.obj id=some r0) (bA:∀ b,ro.has b→b=g) {b:Nat} (hl:Live (R.reset id ro) b):b=g∨Live R b:=by
 obtain ⟨i,r,h1,h2⟩:=hl
 rcases az bE h1 with ⟨_,rfl⟩ | ⟨_,h1⟩
 ·exact .inl (bA b h2)
 ·exact .inr ⟨i,r,h1,h2⟩
theorem aV.Lb (h:aV E R w β s a) {cur:Array Value} {vs:List Value} {es es':List AV} {elem:TypeId} {sz cap id:Nat} {r0:RO} (hg:nth s.G id=some (.du es sz elem)) (bE:nth R.obj id=some r0) (hf:∀ b c,bZ r0 (.tok es'.length b c))
  (hn:es'.length≤cap) (hm:cap≤maxLen) (hs:cur.size=cap * sz) (nV:dg sz es') (hr:aE R w (ar es') vs) (h1:∀ v∈vs,v.oneCell'=true) (ht:cur.toList.take (es'.length * sz)=vs) :
  aV E (R.reset id (.tok es'.length w.heap.size cap)) (w.drew.alloc (.cells cur elem)) β (s.bF (ax s.G id (.du es' sz elem))) a ∧
  Step R w β s.boxes (R.reset id (.tok es'.length w.heap.size cap)) (w.drew.alloc (.cells cur elem)) β s.boxes:=by
 have e:Ext R w (R.reset id (.tok es'.length w.heap.size cap)) (w.drew.alloc (.cells cur elem)):=
  ⟨fun _ _ h=>h,fun b o hi=>bQ (heap_alloc_old w.drew _ b (h.g.wf b o hi)) o,fun i r hr=>by
   by_cases ei:id=i
   ·subst ei
    rw [bE] at hr
    cases hr
    exact ⟨_,aB bE,hf _ _⟩
   ·exact ⟨r,by rw [aj.reset,bn ei]; exact hr,bZ.refl r⟩,.old fun b hb=>heap_alloc_old w.drew _ b hb⟩
 have old:∀ b,b < w.heap.size→(w.drew.alloc (.cells cur elem)).heap[b]?=w.heap[b]?:=fun b hb=>heap_alloc_old w.drew _ b hb
 have new:(w.drew.alloc (.cells cur elem)).heap[w.heap.size]?=some (.cells cur elem (0,0)):=heap_alloc_new w.drew _
 have live:∀ b,b < w.heap.size→Live (R.reset id (.tok es'.length w.heap.size cap)) b→Live R b:=fun b hb hl=>by
  rcases tQ (g:=w.heap.size) (ro:=.tok es'.length w.heap.size cap) bE (fun _ h=>h) hl with rfl | hl
  ·omega
  ·exact hl
 refine ⟨⟨⟨by simp [St.bF,aj.reset,h.g.len],fun i gg r qT h2=>?_,fun i j ri rj b qT h2 b1 b2=>?_,fun b o hi=>?_,fun g cs hg=>(h.g.dD g cs hg).mono e,Nat.le_succ_of_le h.g.lo⟩,?_,h.t.mono e,h.n,h.d.mono e⟩,?_⟩
 ·rcases az bE h2 with ⟨rfl,rfl⟩ | ⟨cq,h2⟩
  ·simp only [St.bF] at qT
   rw [aB hg] at qT
   cases qT
   exact ⟨rfl,nV,cur,vs,new,hn,hm,hs,fun o hi=>by have:=h.g.wf _ _ hi; omega,hr.mono e,h1,ht⟩
  ·simp only [St.bF] at qT
   rw [bn (Ne.symm cq)] at qT
   exact (h.g.obj i gg r qT h2).mono e (fun b hb=>old b (h.g.bU ⟨i,r,h2,hb⟩)) (fun b o _ hi=>hi)
 ·rcases az bE qT with ⟨g3,e1⟩ | ⟨g3,g1⟩
  ·rcases az bE h2 with ⟨g4,e2⟩ | ⟨g4,g2⟩
   ·omega
   ·have:=h.g.bU ⟨j,rj,g2,b2⟩
    rw [e1] at b1
    simp [RO.has] at b1
    omega
  ·rcases az bE h2 with ⟨g4,e2⟩ | ⟨g4,g2⟩
   ·have:=h.g.bU ⟨i,ri,g1,b1⟩
    rw [e2] at b2
    simp [RO.has] at b2
    omega
   ·exact h.g.inj i j ri rj b g1 g2 b1 b2
 ·have:=h.g.wf b o hi
  simp
  omega
 ·exact h.b.aW e (fun k cs hk=>old _ (h.dL (.inr ⟨k,cs,hk,rfl⟩))) (fun k cs o hk hi=>hi) (fun k cs hk hl=>live _ (h.dL (.inr ⟨k,cs,hk,rfl⟩)) hl)
 ·refine ⟨e,rfl,rfl,rfl,by simp,fun b hb _=>old b hb,fun b hb ho=>?_,fun b o hi hb _=>hi⟩
  rcases ho with ho | ho
  ·exact .inl (live b hb ho)
  ·exact .inr ho
theorem aV.HU (h:aV E R w β s a) {cur cur2:Array Value} {vs:List Value} {es es':List AV} {elem:TypeId} {sz id g c:Nat} (hg:nth s.G id=some (.du es sz elem)) (bE:nth R.obj id=some (.tok es.length g c)) (bK:es.length < es'.length) (hn:es'.length≤c)
  (iZ:w.heap[g]?=some (.cells cur elem (0,0))) (hs:cur2.size=cur.size) (nV:dg sz es') (hr:aE R w (ar es') vs) (h1:∀ v∈vs,v.oneCell'=true) (ht:cur2.toList.take (es'.length * sz)=vs) :
  aV E (R.reset id (.tok es'.length g c)) (w.setRow g cur2) β (s.bF (ax s.G id (.du es' sz elem))) a ∧
  Step R w β s.boxes (R.reset id (.tok es'.length g c)) (w.setRow g cur2) β s.boxes:=by
 obtain ⟨q0,q1,OH,Vc,p1,p2,p3,p4,p5,p6,p7,p8⟩:=h.g.obj id _ _ hg bE
 rw [iZ] at p1
 cases p1
 have sF:Live R g:=⟨id,_,bE,rfl⟩
 have old:∀ b,b≠g→(w.setRow g cur2).heap[b]?=w.heap[b]?:=fun b hb=>setRow_other w g b cur2 hb
 have new:(w.setRow g cur2).heap[g]?=some (.cells cur2 elem (0,0)):=setRow_heap w g cur cur2 elem (0,0) iZ
 have e:Ext R w (R.reset id (.tok es'.length g c)) (w.setRow g cur2):=by
  have e0:=jN (R:=R) (w:=w) p5 cur2
  refine ⟨fun _ _ h=>h,e0.cell,fun i r hr=>?_,e0.lp⟩
  by_cases ei:id=i
  ·subst ei
   rw [bE] at hr
   cases hr
   exact ⟨_,aB bE,by omega,fun e=>by omega⟩
  ·exact ⟨r,by rw [aj.reset,bn ei]; exact hr,bZ.refl r⟩
 have live:∀ b,Live (R.reset id (.tok es'.length g c)) b→Live R b:=fun b hl=>by
  rcases tQ (g:=g) (ro:=.tok es'.length g c) bE (fun _ h=>h) hl with rfl | hl
  ·exact sF
  ·exact hl
 have oY:∀ k cs,de s.boxes k=some cs→β k≠g:=fun k cs hk eq=>(h.b.box k cs hk).2.2 (eq ▸ sF)
 refine ⟨⟨⟨by simp [St.bF,aj.reset,h.g.len],fun i gg r qT h2=>?_,fun i j ri rj b qT h2 b1 b2=>?_,fun b o hi=>?_,fun g cs hg=>(h.g.dD g cs hg).mono e,h.g.lo⟩,?_,h.t.mono e,h.n,h.d.mono e⟩,?_⟩
 ·rcases az bE h2 with ⟨rfl,rfl⟩ | ⟨cq,h2⟩
  ·simp only [St.bF] at qT
   rw [aB hg] at qT
   cases qT
   exact ⟨rfl,nV,cur2,vs,new,hn,p3,by rw [hs]; exact p4,p5,hr.mono e,h1,ht⟩
  ·simp only [St.bF] at qT
   rw [bn (Ne.symm cq)] at qT
   have K5:∀ b,r.has b→b≠g:=fun b hb eq=>cq (h.g.inj i id _ _ b h2 bE hb (by rw [eq]; rfl))
   exact (h.g.obj i gg r qT h2).mono e (fun b hb=>old b (K5 b hb)) (fun b o hb hi=>hi)
 ·rcases az bE qT with ⟨g3,e1⟩ | ⟨g3,g1⟩
  ·rcases az bE h2 with ⟨g4,e2⟩ | ⟨g4,g2⟩
   ·omega
   ·rw [e1] at b1
    exact g3.trans (h.g.inj id j _ _ b bE g2 b1 b2)
  ·rcases az bE h2 with ⟨g4,e2⟩ | ⟨g4,g2⟩
   ·rw [e2] at b2
    exact (h.g.inj i id _ _ b g1 bE b1 b2).trans g4.symm
   ·exact h.g.inj i j ri rj b g1 g2 b1 b2
 ·have:=h.g.wf b o hi
  simpa using this
 ·exact h.b.aW e (fun k cs hk=>old _ (oY k cs hk)) (fun k cs o hk hi=>hi) (fun k cs hk hl=>live _ hl)
 ·refine ⟨e,rfl,rfl,rfl,by simp,fun b hb q8=>old b (fun eq=>q8 (.inl (eq ▸ sF))),fun b hb ho=>?_,fun b o hi hb q8=>hi⟩
  rcases ho with ho | ho
  ·exact .inl (live b ho)
  ·exact .inr ho
theorem aV.Bg (h:aV E R w β s a) {cur:Array Value} {vs:List Value} {es:List AV} {elem:TypeId} {sz cap:Nat} (hn:es.length≤cap) (hm:cap≤maxLen) (hs:cur.size=cap * sz) (nV:dg sz es) (hr:aE R w (ar es) vs) (h1:∀ v∈vs,v.oneCell'=true) (ht:cur.toList.take (es.length * sz)=vs) :
  aV E (R.add (.tok es.length w.heap.size cap)) (w.alloc (.cells cur elem)) β (s.dA (.du es sz elem)) a:=
 h.jO (.cells cur elem) (.du es sz elem) (.tok es.length w.heap.size cap) (by exact fun _ h=>h)
  ⟨rfl,nV,cur,vs,heap_alloc_new w _,hn,hm,hs,fun o hi=>by have:=h.g.wf _ _ hi; omega,hr.mono (fS h.g.wf _ _),h1,ht⟩
theorem sG (h:aV E R w β s a) (t:TypeId) (x y:Operand) (ho:o.op=.makeSlice t x y) {i:TI} (hi:E.ti t=some i) {k k':IntKind} {n m:Int} (hx:bc E s.ae x=.v (.int k n)) (hy:bc E s.ae y=.v (.int k' m))
  {elem esz mU:Nat} {ag:Bool} {z:AV} (hk:i.k=.sl elem esz ag mU (some z)) (hz:z.cells.length=esz) (DG:1≤esz) (oC:z.aL=true) (nX:z.closed=true) (hc:0≤n∧n≤m∧m≤140737488355328∧m * mU≤140737488355328) :
  bz E R w β s a o ((s.dA (.du (List.replicate n.toNat z) esz elem)).put o.dst (.v (.dM s.G.length n.toNat 0 esz n.toNat))):=by
 obtain ⟨us,z1,z2,bf⟩:=oE h t x y ho hi hx hy hk hz DG oC hc
 have NP:n.toNat≤m.toNat:=by omega
 have nV:=(fG (n:=m.toNat) hz oC nX).g
 have K8:us.length=m.toNat * esz:=by rw [← z1.length,cN nV,List.length_replicate]
 have Hr:(List.replicate n.toNat z).length=n.toNat:=List.length_replicate
 have Hs:(List.replicate m.toNat z).take n.toNat=List.replicate n.toNat z:=by rw [List.take_replicate,Nat.min_eq_left NP]
 have hr:aE R w (ar (List.replicate n.toNat z)) (us.take (n.toNat * esz)):=by
  rw [← Hs,iI _ nV]
  exact z1.take _
 have r1:=h.Bg (cur:=⟨us⟩) (vs:=us.take (n.toNat * esz)) (es:=List.replicate n.toNat z) (elem:=elem) (cap:=m.toNat) (by rw [Hr]; exact NP) (by unfold maxLen; omega) (by simpa using K8) (fG hz oC nX).g hr (fun v hv=>z2 v (List.mem_of_mem_take hv)) (by rw [Hr])
 rw [Hr] at r1
 have e:=fS (R:=R) (w:=w) h.g.wf (.cells ⟨us⟩ elem) (.tok n.toNat w.heap.size m.toNat)
 exact ⟨_,.slice (some ⟨w.heap.size,0,none⟩) n.toNat m.toNat,_,R.add (.tok n.toNat w.heap.size m.toNat),β,bf,.inl rfl,r1.put o.dst (x:=.v (.dM s.G.length n.toNat 0 esz n.toNat)) (Rel.dM (fq h _) ⟨Nat.le_refl _,fun _=>⟨rfl,Nat.zero_add _,.inl (Nat.zero_mul _).symm⟩⟩ NP),by rw [aP]; exact cm h _ _ (by exact fun _ h=>h)⟩
theorem q9 (h:aV E R w β s a) (t:TypeId) (len:Nat) (parts:Array (Nat × Operand)) (ho:o.op=.buildSlice t len parts) {k:LK} {esz:Nat} {es:List AV} (hv:bH E s t len parts.toList=some (.list k esz es)) {i:TI} (hi:E.ti t=some i) {elem bl mU:Nat} {ag:Bool} {z:Option AV} (hk:i.k=.sl elem bl ag mU z) (hm:len≤65536) :
  bz E R w β s a o ((s.dA (.du es esz elem)).put o.dst (.v (.dM s.G.length len 0 esz len))):=by
 obtain ⟨es',K0,us,OF,OC,bf,g2,hlen,u2,u3,i',Rj,NL,z',oB,iY⟩:=gU h t len parts ho hv
 cases OC
 rw [hi] at oB
 cases oB
 rw [hk] at iY
 cases iY
 have OG:us.length=len * esz:=by rw [← u2.length,cu g2,hlen]
 have r1:=h.Bg (cur:=⟨us⟩) (vs:=us) (es:=es) (elem:=elem) (cap:=len) (by rw [hlen]; exact Nat.le_refl _) (by simp [maxLen]; omega) (by simpa using OG) g2.g u2 u3 (by rw [hlen,← OG]; exact List.take_length)
 rw [hlen] at r1
 exact ⟨_,.slice (some ⟨w.heap.size,0,none⟩) len len,_,R.add (.tok len w.heap.size len),β,bf,.inl rfl,r1.put o.dst (x:=.v (.dM s.G.length len 0 esz len)) (Rel.dM (fq h _) ⟨Nat.le_refl _,fun _=>⟨rfl,Nat.zero_add _,.inl (Nat.zero_mul _).symm⟩⟩ (Nat.le_refl _)),by rw [aP]; exact cm h _ _ (by exact fun _ h=>h)⟩
end ops
end Go.Am
namespace Go.Am
open Go
section fams
variable {E:Env} {R R':aj} {w w':World} {β β':Nat→Nat} {s s':St} {a a':Act} {o:Oper}
theorem ra {α:Type} {l r:List α} {i:Nat} {x:α} (h:nth r i=some x):nth (l++r) (l.length+i)=some x:=by
 rw [aR] at *
 rw [List.getElem?_append_right (Nat.le_add_right _ _),Nat.add_sub_cancel_left]
 exact h
theorem sH {α:Type} {l r:List α} {i:Nat} {x:α} (h:nth l i=some x):nth (l++r) i=some x:=by
 have:=bp h
 rw [aR] at *
 rw [List.getElem?_append_left this]
 exact h
theorem dB {α:Type} {l r:List α} {i:Nat} {x:α} (h:nth (l++r) i=some x):nth l i=some x∨∃ j,i=l.length+j∧nth r j=some x:=by
 rw [aR] at h
 rcases Nat.lt_or_ge i l.length with bK | yL
 ·rw [List.getElem?_append_left bK] at h
  exact .inl (by rw [aR]; exact h)
 ·rw [List.getElem?_append_right yL] at h
  exact .inr ⟨i - l.length,by omega,by rw [aR]; exact h⟩
theorem aV.Bh (h:aV E R w β s a) {id sz:Nat} {e:TypeId} {fs:List Nat} (bE:nth s.G id=some (.aU fs sz e)) {nfs:List Nat} {nts:List TR} (hl:nts.length=nfs.length)
  (eW:∀ j f t,nth nfs j=some f→nth nts j=some t→wh R w sz e f t) (q8:∀ j f b c,nth nts j≠some (.tok f b c)) {ro:RO} (bA:nth R.obj id=some ro) :
  ∃ ts,ro=.aU ts∧ts.length=fs.length∧aV E (R.reset id (.aU (ts++nts))) w β (s.bF (ax s.G id (.aU (fs++nfs) sz e))) a∧Step R w β s.boxes (R.reset id (.aU (ts++nts))) w β s.boxes:=by
 have cL:=h.g.obj id _ _ bE bA
 cases ro with
 | none=>exact cL.elim
 | bj=>exact cL.elim
 | bq _=>exact cL.elim
 | tok _ _ _=>exact cL.elim
 | aU ts=>
 obtain ⟨q1,q2,q3⟩:=cL
 have tM:∀ b,RO.has (.aU (ts++nts)) b→RO.has (.aU ts) b:=fun b ⟨j,f,c,hj⟩=>by
  rcases dB hj with hj | ⟨i,_,hi⟩
  ·exact ⟨j,f,c,hj⟩
  ·exact absurd hi (q8 i f b c)
 have ext:Ext R w (R.reset id (.aU (ts++nts))) w:=⟨fun _ _ h=>h,fun _ _ _=>rfl,fun i r hr=>by
  by_cases e:id=i
  ·subst e
   rw [bA] at hr
   cases hr
   exact ⟨_,aB bA,fun j t hj=>⟨t,sH hj,kU.refl t⟩⟩
  ·exact ⟨r,by rw [aj.reset,bn e]; exact hr,bZ.refl r⟩,fY.refl w⟩
 have live:∀ b,Live (R.reset id (.aU (ts++nts))) b→Live R b:=fun b ⟨i,r,h1,h2⟩=>by
  rcases az bA h1 with ⟨_,rfl⟩ | ⟨_,h1⟩
  ·exact ⟨id,_,bA,tM b h2⟩
  ·exact ⟨i,r,h1,h2⟩
 refine ⟨ts,rfl,q1,⟨⟨by simp [St.bF,aj.reset,h.g.len],fun i g r h1 h2=>?_,fun i j ri rj b h1 h2 b1 b2=>?_,h.g.wf,fun g cs hg=>(h.g.dD g cs hg).mono ext,h.g.lo⟩,h.b.aW ext (fun _ _ _=>rfl) (fun _ _ _ _ h=>h) (fun _ _ _ hl=>live _ hl),h.t.mono ext,h.n,h.d.mono ext⟩,?_⟩
 ·rcases az bA h2 with ⟨rfl,rfl⟩ | ⟨cq,h2⟩
  ·simp only [St.bF] at h1
   rw [aB bE] at h1
   cases h1
   refine ⟨by simp [q1,hl],fun i j f b c f' c' hi hj=>?_,fun j f t hf ht=>?_⟩
   ·rcases dB hi with hi | ⟨_,_,hi⟩
    ·rcases dB hj with hj | ⟨_,_,hj⟩
     ·exact q2 i j _ _ _ _ _ hi hj
     ·exact absurd hj (q8 _ _ _ _)
    ·exact absurd hi (q8 _ _ _ _)
   ·rcases dB hf with EI | ⟨k,hk,EI⟩
    ·rcases dB ht with ht | ⟨k',iY,ht⟩
     ·exact q3 j f t EI ht
     ·have:=bp EI
      omega
    ·rcases dB ht with ht | ⟨k',iY,ht⟩
     ·have:=bp ht
      omega
     ·have E2:k=k':=by omega
      subst E2
      exact eW k f t EI ht
  ·simp only [St.bF] at h1
   rw [bn (Ne.symm cq)] at h1
   exact (h.g.obj i g r h1 h2).mono ext (fun _ _=>rfl) (fun _ _ _ h=>h)
 ·rcases az bA h1 with ⟨g3,e1⟩ | ⟨g3,g1⟩
  ·rcases az bA h2 with ⟨g4,e2⟩ | ⟨g4,g2⟩
   ·omega
   ·rw [e1] at b1
    exact g3.trans (h.g.inj id j _ _ b bA g2 (tM b b1) b2)
  ·rcases az bA h2 with ⟨g4,e2⟩ | ⟨g4,g2⟩
   ·rw [e2] at b2
    exact (h.g.inj i id _ _ b g1 bA b1 (tM b b2)).trans g4.symm
   ·exact h.g.inj i j ri rj b g1 g2 b1 b2
 ·refine ⟨ext,rfl,rfl,rfl,Nat.le_refl _,fun _ _ _=>rfl,fun b _ ho=>?_,fun _ _ h _ _=>h⟩
  rcases ho with ho | ho
  ·exact .inl (live b ho)
  ·exact .inr ho
theorem bz.step {s1:St} {s2:St} (e:s1.boxes=s.boxes) (st:Step R w β s.boxes R' w β s.boxes) (h:bz E R' w β s1 a o s2):bz E R w β s a o s2:=by
 obtain ⟨nx,x,w',R2,β',h1,h2,h3,h4⟩:=h
 rw [e] at h4
 exact ⟨nx,x,w',R2,β',h1,h2,h3,st.trans h4⟩
theorem OK {c:Bool} {α:Type} {a b:α} (h:(bif c then some a else none)=some b):c=true∧a=b:=by
 cases c
 ·cases h
 ·exact ⟨rfl,Option.some.inj h⟩
theorem ma {sz:Nat} {e:TypeId}:∀ {G:List GO} {i j:Nat},iA G sz e i=some j→∃ fs,nth G (j - i)=some (.aU fs sz e)∧i≤j
 | [],i,j,h=>by cases h
 | g :: G,i,j,h=>by
  have step:iA G sz e (i+1)=some j→∃ fs,nth (g :: G) (j - i)=some (.aU fs sz e)∧i≤j:=fun h=>by
   obtain ⟨fs,h1,h2⟩:=ma h
   refine ⟨fs,?_,by omega⟩
   rw [show j - i=(j - (i+1))+1 by omega]
   exact h1
  unfold iA at h
  split at h
  ·rename_i jH
   cases jH
  ·rename_i jH
   obtain ⟨rfl,rfl⟩:=List.cons.inj jH
   split at h
   ·rename_i j' hj
    cases h
    exact step hj
   ·obtain ⟨hc,rfl⟩:=OK h
    ·rw [Bool.and_eq_true] at hc
     have h1:=Nat.eq_of_beq_eq_true hc.1
     have h2:=Nat.eq_of_beq_eq_true hc.2
     subst h1 h2
     exact ⟨_,by rw [Nat.sub_self]; rfl,Nat.le_refl _⟩
  ·rename_i x G1 _ _ _ hn jH
   obtain ⟨rfl,rfl⟩:=List.cons.inj jH
   exact step h
theorem aV.CF {s0:St} {d:Option Tmp} {x y:AV} (h:aV E R w β (s0.put d (.v x)) a) (hw:∀ c,Rel R w x c→Rel R w y c):aV E R w β (s0.put d (.v y)) a:=by
 cases d with
 | none=>exact h
 | some d=>
  simp only [St.put] at h ⊢
  cases hb:Nat.blt d s0.n with
  | false=>rw [hb] at h; exact h
  | true=>
   rw [hb] at h
   refine ⟨h.g,h.b,fun i hi=>?_,h.n,h.d⟩
   by_cases e:d=i
   ·subst e
    rw [aw]
    obtain ⟨c,k1,k2⟩:=h.t d (by rw [aw]; simp)
    rw [aw] at k2
    exact ⟨c,k1,hw c k2⟩
   ·rw [aG e] at hi ⊢
    have:=h.t i (by rw [aG e]; exact hi)
    rw [aG e] at this
    exact this
theorem bz.CF {s0:St} {x y:AV} (h:bz E R w β s a o (s0.put o.dst (.v x))) (hw:∀ R' w',Ext R w R' w'→∀ c,Rel R' w' x c→Rel R' w' y c):bz E R w β s a o (s0.put o.dst (.v y)):=by
 obtain ⟨nx,v,w',R',β',h1,h2,h3,h4⟩:=h
 refine ⟨nx,v,w',R',β',h1,h2,h3.CF (hw R' w' h4.ext),?_⟩
 rw [aP] at h4 ⊢
 exact h4
end fams
section ops
variable {E:Env} {R:aj} {w:World} {β:Nat→Nat} {s:St} {a:Act} {o:Oper}
theorem fH {k:LK} {sz esz:Nat} {es:List AV} {c:Value} (h:Rel R w (.list k sz es) c) (eC:es=[]∨sz=esz) :
  gT esz es∧∃ vs,aE R w (ar es) vs∧(∀ v∈vs,v.oneCell'=true)∧vs.length=es.length * esz ∧
   ((es=[]∧vs=[]∧∃ ad,c=.slice ad 0 0∧(ad=none∨k=.kr))∨∃ b o' cap,c=.slice (some ⟨b,o',none⟩) es.length cap∧es.length≤cap∧xx R k b o' es.length cap∧(∀ j v,vs[j]?=some v→w.cell? ((⟨b,o',none⟩:Addr).add j)=some v)∧gj R w b o' esz es):=by
 cases h with
 | iF=>exact ⟨fun e he=>by simp at he,[],.nil,by simp,by simp,.inl ⟨rfl,rfl,_,rfl,.inl rfl⟩⟩
 | ib=>exact ⟨fun e he=>by simp at he,[],.nil,by simp,by simp,.inl ⟨rfl,rfl,_,rfl,.inl rfl⟩⟩
 | lT=>exact ⟨fun e he=>by simp at he,[],.nil,by simp,by simp,.inl ⟨rfl,rfl,_,rfl,.inr rfl⟩⟩
 | lU=>exact ⟨fun e he=>by simp at he,[],.nil,by simp,by simp,.inl ⟨rfl,rfl,_,rfl,.inl rfl⟩⟩
 | kT=>exact ⟨fun e he=>by simp at he,[],.nil,by simp,by simp,.inl ⟨rfl,rfl,_,rfl,.inl rfl⟩⟩
 | @list _ _ _ b o' len cap hr hlen ig E2=>
  subst hlen
  have ky:gj R w b o' esz es:=by
   rcases eC with rfl | rfl
   ·exact .nil
   ·exact hr
  obtain ⟨g0,vs,g1,g2,g3,g4⟩:=tF ky
  refine ⟨g0,vs,g1,g2,by rw [← g1.length,cu g0],.inr ⟨b,o',cap,rfl,ig,E2,fun j v hv=>?_,ky⟩⟩
  rw [bY]
  exact g3 j v hv
theorem pR {b esz:Nat} {es:List AV} {vs:List Value} {w:World} {R:aj} (h0:gT esz es) (h:aE R w (ar es) vs) (h1:∀ v∈vs,v.oneCell'=true)
  (hc:∀ j v,vs[j]?=some v→w.cell? ⟨b,j,none⟩=some v) (hI:∀ j,j < vs.length→R.I b j):gj R w b 0 esz es:=
 ls h0 (eu.make h h1 (fun j v hv=>by rw [Nat.zero_add]; exact hc j v hv) (fun j hj=>by rw [Nat.zero_add]; exact hI j (by rw [← h.length]; exact hj)))
theorem kG {sz:Nat} {l r:List AV} (h:gT sz l) (k:gT sz r):gT sz (l++r):=fun e he=>by
 rcases List.mem_append.1 he with he | he
 ·exact h e he
 ·exact k e he
theorem ij {l r:List Value} (h:∀ v∈l,v.oneCell'=true) (k:∀ v∈r,v.oneCell'=true):∀ v∈l++r,v.oneCell'=true:=fun v hv=>by
 rcases List.mem_append.1 hv with hv | hv
 ·exact h v hv
 ·exact k v hv
structure QB (P:Program) (w:World) (t u ty e:TypeId) (i:TypeInfo) (z:Value) (cy:Value) (n:Nat) (us:List Value):Prop where
 zero:n=0→∀ base len cap,len≤cap→(Builtin.append_ #[t,u] ty #[.slice base len cap,cy]).run P w=.ok (.slice base len cap) w
 nil:0 < n→(n:Int)≤9223372036854775807→n * i.bytes≤281474976710656→(Builtin.append_ #[t,u] ty #[.slice none 0 0,cy]).run P w =
   .ok (.slice (some ⟨w.heap.size,0,none⟩) n (grownCap w n 0 e)) (w.drew.alloc (.cells (us.toArray++Builtin.zeroCells z.cells (grownCap w n 0 e - n)) e))
 grow:0 < n→∀ (b:Addr) (sLen ja:Nat) (tR:List Value),tR.length=sLen * i.size→(∀ j v,tR[j]?=some v→w.cell? (b.add j)=some v)→ja < sLen+n→((sLen+n:Nat):Int)≤9223372036854775807→Builtin.nextslicecap (sLen+n) ja * i.bytes≤281474976710656 →
   (Builtin.append_ #[t,u] ty #[.slice (some b) sLen ja,cy]).run P w=.ok (.slice (some ⟨w.heap.size,0,none⟩) (sLen+n) (grownCap w (sLen+n) ja e))
    (w.drew.alloc (.cells (tR.toArray++us.toArray++Builtin.zeroCells z.cells (grownCap w (sLen+n) ja e - (sLen+n))) e))
 room:0 < n→∀ (g sLen ja:Nat) (cur:Array Value),w.heap[g]?=some (.cells cur e (0,0))→sLen+n≤ja→sLen * i.size+us.length≤cur.size →
   (Builtin.append_ #[t,u] ty #[.slice (some ⟨g,0,none⟩) sLen ja,cy]).run P w=.ok (.slice (some ⟨g,0,none⟩) (sLen+n) ja) (w.setRow g (cur.toList.take (sLen * i.size)++us++cur.toList.drop (sLen * i.size+us.length)).toArray)
theorem mF (h:aV E R w β s a) {t u:TypeId} {id f off sz len:Nat} {y:AV} {ys:List AV} {cx cy:Value} {us:List Value}
  (fA:∀ {c:Value} {w':World},(Builtin.append_ #[t,u] o.type #[cx,cy]).run E.P w=.ok c w'→(execOp a.eval o).run E.P w=.ok (.value c) w')
  {elem esz eb:Nat} {z:AV} (AJ:1≤eb) (hz:z.cells.length=esz) (oC:z.aL=true)
  {ie:TypeInfo} (f2:ie.size=esz) (f3:ie.bytes=eb) (f6:fQ ie=some z)
  (h0:Rel R w (.dM id f off sz len) cx) (hA:∀ zc:Value,ie.zero=some zc→QB E.P w t u o.type elem ie zc cy (y :: ys).length us)
  (y0:dg esz (y :: ys)) (y1:aE R w (ar (y :: ys)) us) (y2:∀ v∈us,v.oneCell'=true) (y3:us.length=(y :: ys).length * esz)
  {es:List AV} (bE:nth s.G id=some (.du es esz elem)) (hf:f=es.length) (Ve:off=0) (sB:len=f) (hb:(es.length+(y :: ys).length) * eb≤140737488355328) :
  bz E R w β s a o ((s.bF (ax s.G id (.du (es++(y :: ys)) esz elem))).put o.dst (.v (.dM id (es.length+(y :: ys).length) 0 esz (es.length+(y :: ys).length)))):=by
 obtain ⟨zc,nX,AI⟩:=cM f6
 have hA:=hA zc nX
 obtain ⟨d1,d2⟩:=Rel.cells (AI R w) oC
 have pP:zc.cells.size=esz:=by rw [← hz,d1.length]; simp
 have mb:0 < (y :: ys).length:=by simp
 have hm:es.length+(y :: ys).length≤140737488355328:=Nat.le_trans (Nat.le_mul_of_pos_right _ AJ) hb
 have zj:(es++(y :: ys)).length=es.length+(y :: ys).length:=List.length_append
 -- where a new block has been made
 have fresh:∀ {xs:List Value} {old:Nat} {r0:RO},nth R.obj id=some r0→(∀ b c,bZ r0 (.tok (es.length+(y :: ys).length) b c))→dg esz es→aE R w (ar es) xs→(∀ v∈xs,v.oneCell'=true)→xs.length=es.length * esz →
   (Builtin.append_ #[t,u] o.type #[cx,cy]).run E.P w=.ok (.slice (some ⟨w.heap.size,0,none⟩) (es.length+(y :: ys).length) (grownCap w (es.length+(y :: ys).length) old elem)) (w.drew.alloc (.cells (xs.toArray++us.toArray++Builtin.zeroCells zc.cells (grownCap w (es.length+(y :: ys).length) old elem - (es.length+(y :: ys).length))) elem)) →
   bz E R w β s a o ((s.bF (ax s.G id (.du (es++(y :: ys)) esz elem))).put o.dst (.v (.dM id (es.length+(y :: ys).length) 0 esz (es.length+(y :: ys).length)))):=by
  intro xs old r0 bA hle EG OL sA wC bf
  have yL:=grownCap_ge w (es.length+(y :: ys).length) old elem
  obtain ⟨r1,r2⟩:=h.Lb (cur:=xs.toArray++us.toArray++Builtin.zeroCells zc.cells (grownCap w (es.length+(y :: ys).length) old elem - (es.length+(y :: ys).length))) (vs:=xs++us) (es':=es++(y :: ys)) bE bA (by rw [zj]; exact hle) (by rw [zj]; exact yL) (grownCap_le_maxLen w _ old elem (by unfold maxLen; omega)) (by
   simp only [Array.size_append,List.size_toArray,size_zeroCells,pP,wC,y3,← Nat.add_mul]
   congr 1
   omega) (pQ EG y0) (by rw [cr]; exact OL.append y1) (ij sA y2) (by
   rw [zj]
   simp only [Array.toList_append]
   exact List.take_left' (by rw [List.length_append,wC,y3,Nat.add_mul]))
  rw [zj] at r1 r2
  refine ⟨_,_,_,_,β,fA bf,.inl rfl,r1.put o.dst ?_,by rw [aP]; exact r2⟩
  exact Rel.dM (aB bA) ⟨Nat.le_refl _,fun _=>⟨rfl,Nat.zero_add _,.inl (Nat.zero_mul _).symm⟩⟩ yL
 cases h0 with
 | @iW _ _ ro bA hon=>
  have cL:=h.g.obj id _ _ bE bA
  have Vf:es=[]:=List.eq_nil_of_length_eq_zero hf.symm
  subst Vf
  cases ro with
  | none=>exact cL.elim
  | bq _=>exact cL.elim
  | aU _=>exact cL.elim
  | tok f' g c=>
   obtain ⟨rfl,_⟩:=cL
   simp [lS] at hon
  | bj=>
   simp only [List.length_nil] at hb
   have bf:=hA.nil mb (by omega) (by rw [f3]; rw [Nat.zero_add] at hb; omega)
   exact fresh (xs:=[]) (old:=0) bA (fun b c=>by simp only [bZ]; omega) (fun e he=>by simp at he) .nil (by simp) (by simp) (by simpa using bf)
 | @dM _ _ _ _ _ cap b o' ro bA eW ig=>
  subst hf; subst Ve; subst sB
  obtain ⟨b',c',cur,vs,rfl,g1,g2,g3,g4,g5,g6,g7,g8,g9⟩:=lZ h.g bE bA (fun k=>by subst k; exact eW)
  obtain ⟨rfl,Bi,yQ⟩:=eW.2 rfl
  rw [Nat.zero_add] at Bi
  subst Bi
  have JI:vs.length=es.length * esz:=by rw [← g7.length,cN g1]
  have jS:∀ j v,vs[j]?=some v→cur[j]?=some v:=fun j v hj=>by
   rw [← g9,List.getElem?_take] at hj
   split at hj
   ·rw [← Array.getElem?_toList]; exact hj
   ·cases hj
  by_cases fI:es.length+(y :: ys).length≤cap
  ·have pz:o'=0:=by
    rcases yQ with yQ | yQ
    ·rw [yQ,Nat.zero_mul]
    ·rw [List.length_cons] at fI; omega
   subst pz
   have hle:(es.length+(y :: ys).length) * esz≤cap * esz:=Nat.mul_le_mul_right _ fI
   have bf:=hA.room mb b es.length cap cur g2 fI (by rw [f2,y3,← Nat.add_mul,g5]; exact hle)
   rw [f2] at bf
   have jb:cur.toList.length=cap * esz:=by rw [show cur.toList.length=cur.size from Array.length_toList,g5]
   obtain ⟨r1,r2⟩:=h.HU (cur2:=(cur.toList.take (es.length * esz)++us++cur.toList.drop (es.length * esz+us.length)).toArray) (vs:=vs++us) (es':=es++(y :: ys)) bE bA (by rw [zj]; omega) (by rw [zj]; exact fI) g2 (by
    rw [List.size_toArray,← Array.length_toList]
    simp only [List.length_append,List.length_take,List.length_drop,y3,jb]
    rw [Nat.add_mul] at hle
    omega) (pQ g1 y0) (by rw [cr]; exact g7.append y1) (ij g8 y2) (by
    rw [zj,List.toList_toArray,g9]
    exact List.take_left' (by rw [List.length_append,JI,y3,Nat.add_mul]))
   rw [zj] at r1 r2
   refine ⟨_,_,_,_,β,fA bf,.inl rfl,r1.put o.dst ?_,by rw [aP]; exact r2⟩
   exact Rel.dM (aB bA) ⟨Nat.le_refl _,fun _=>⟨rfl,Nat.zero_add _,.inl (Nat.zero_mul _).symm⟩⟩ fI
  ·have bf:=hA.grow mb ⟨b,o',none⟩ es.length cap vs (by rw [JI,f2]) (fun j v hj=>by
    rw [bY]
    have Hq:=(List.getElem?_eq_some_iff.1 hj).1
    have pz:o'=0:=by
     rcases yQ with yQ | yQ
     ·rw [yQ,Nat.zero_mul]
     ·have:es.length=0:=by omega
      rw [JI,this] at Hq
      omega
    subst pz
    rw [Nat.zero_add,cell_of_row w b j cur elem (0,0) g2]
    exact jS j v hj) (by omega) (by omega) (growslice_fits (by omega) (by rw [f3]; exact hb))
   exact fresh (xs:=vs) (old:=cap) bA (fun b c=>⟨by omega,fun e=>by omega⟩) g1 g7 g8 JI bf
theorem lx (h:aV E R w β s a) {t u:TypeId} {id j:Nat} {es:List AV} {y:AV} {ys:List AV} {cx cy:Value} {us:List Value}
  (fA:∀ {c:Value} {w':World},(Builtin.append_ #[t,u] o.type #[cx,cy]).run E.P w=.ok c w'→(execOp a.eval o).run E.P w=.ok (.value c) w')
  {elem esz eb:Nat} {z:AV} (AJ:1≤eb) (hz:z.cells.length=esz) (oC:z.aL=true)
  {ie:TypeInfo} (f2:ie.size=esz) (f3:ie.bytes=eb) (f6:fQ ie=some z)
  (h0:Rel R w (.list (.aU id j) esz es) cx) (hA:∀ zc:Value,ie.zero=some zc→QB E.P w t u o.type elem ie zc cy (y :: ys).length us)
  (y0:gT esz (y :: ys)) (y1:aE R w (ar (y :: ys)) us) (y2:∀ v∈us,v.oneCell'=true) (y3:us.length=(y :: ys).length * esz)
  {fs:List Nat} (gR:nth s.G id=some (.aU fs esz elem)) (sX:nth fs j=some es.length) (hb:(es.length+(y :: ys).length) * eb≤140737488355328) :
  bz E R w β s a o ((s.bF (ax s.G id (.aU (ax fs j (es.length+(y :: ys).length)) esz elem))).put o.dst (.v (.list (.aU id j) esz (es++(y :: ys))))):=by
 obtain ⟨zc,nX,AI⟩:=cM f6
 have hA:=hA zc nX
 obtain ⟨d1,d2⟩:=Rel.cells (AI R w) oC
 have pP:zc.cells.size=esz:=by rw [← hz,d1.length]; simp
 have mb:0 < (y :: ys).length:=by simp
 have hm:es.length+(y :: ys).length≤140737488355328:=Nat.le_trans (Nat.le_mul_of_pos_right _ AJ) hb
 obtain ⟨x0,xs,x1,x2,x3,x4⟩:=fH (esz:=esz) h0 (.inr rfl)
 obtain ⟨ro,bA⟩:∃ ro,nth R.obj id=some ro:=by
  cases h0 with
  | kT q _=>exact ⟨_,q⟩
  | list _ _ _ hk=>obtain ⟨ro,q,_⟩:=hk; exact ⟨ro,q⟩
 have cL:=h.g.obj id _ _ gR bA
 cases ro with
 | none=>exact cL.elim
 | bj=>exact cL.elim
 | bq _=>exact cL.elim
 | tok _ _ _=>exact cL.elim
 | aU ts=>
 have cL:tq R w esz elem fs ts:=cL
 have Rl:j < ts.length:=by rw [cL.1]; exact bp sX
 obtain ⟨tr,ht⟩:∃ tr,nth ts j=some tr:=⟨ts[j],by rw [aR]; exact List.getElem?_eq_getElem Rl⟩
 have mL:=cL.2.2 j _ _ sX ht
 have zk:∀ i f b c,nth ts i=some (.tok f b c)→b < w.heap.size:=fun i f b c hi=>h.g.bU ⟨id,_,bA,i,f,c,hi⟩
 -- where a new block has been made
 have fresh:∀ {old:Nat},(∀ b c,kU tr (.tok (es.length+(y :: ys).length) b c)) →
   (Builtin.append_ #[t,u] o.type #[cx,cy]).run E.P w=.ok (.slice (some ⟨w.heap.size,0,none⟩) (es.length+(y :: ys).length) (grownCap w (es.length+(y :: ys).length) old elem)) (w.drew.alloc (.cells (xs.toArray++us.toArray++Builtin.zeroCells zc.cells (grownCap w (es.length+(y :: ys).length) old elem - (es.length+(y :: ys).length))) elem)) →
   bz E R w β s a o ((s.bF (ax s.G id (.aU (ax fs j (es.length+(y :: ys).length)) esz elem))).put o.dst (.v (.list (.aU id j) esz (es++(y :: ys))))):=by
  intro old hle bf
  have yL:=grownCap_ge w (es.length+(y :: ys).length) old elem
  have Rm:=grownCap_le_maxLen w (es.length+(y :: ys).length) old elem (by unfold maxLen; omega)
  have JM:(xs.toArray++us.toArray++Builtin.zeroCells zc.cells (grownCap w (es.length+(y :: ys).length) old elem - (es.length+(y :: ys).length))).size=grownCap w (es.length+(y :: ys).length) old elem * esz:=by
   simp only [Array.size_append,List.size_toArray,size_zeroCells,pP,x3,y3,← Nat.add_mul]
   congr 1
   omega
  generalize iZ:xs.toArray++us.toArray++Builtin.zeroCells zc.cells (grownCap w (es.length+(y :: ys).length) old elem - (es.length+(y :: ys).length))=cur at bf JM
  have o1:=One.drew w (.cells cur elem)
  obtain ⟨r1,r2⟩:=h.K6 o1 (n:=(es.length+(y :: ys).length) * esz) (r1:=.aU (ax ts j (.tok (es.length+(y :: ys).length) w.heap.size (grownCap w (es.length+(y :: ys).length) old elem)))) (go:=.aU (ax fs j (es.length+(y :: ys).length)) esz elem) gR bA
   (qS.set ht (hle _ _)) (fun b hb=>CB hb) (tq.set cL ⟨rfl,cur,o1.new,yL,Rm,JM,fun o' pz hi=>by
    rcases hi with hi | ⟨_,hi⟩
    ·have:=h.g.wf _ _ hi
     omega
    ·omega⟩ (fun i f c hi=>absurd (zk i f _ c hi) (Nat.lt_irrefl _)) (fun i f b c _ hi=>⟨o1.old b (zk i f b c hi),fun o' pz=>by
     rcases pz with pz | ⟨pz,_⟩
     ·exact pz
     ·have:=zk i f b c hi
      omega⟩))
  have e:=r2.ext
  refine ⟨_,_,_,_,β,fA bf,.inl rfl,r1.put o.dst ?_,by rw [aP]; exact r2⟩
  refine Rel.list (pR (vs:=xs++us) (kG x0 y0) (by rw [cr]; exact (x1.mono e).append (y1.mono e)) (ij x2 y2) (fun j v hj=>?_) (fun j hj=>.inr ⟨rfl,by rw [List.length_append,x3,y3,← Nat.add_mul] at hj; exact hj⟩)) (by simp) yL ⟨_,aB bA,_,aB ht,Nat.le_refl _,fun _=>⟨rfl,rfl,rfl⟩⟩
  rw [cell_of_row _ _ j _ _ _ o1.new,← iZ]
  have bK:=(List.getElem?_eq_some_iff.1 hj).1
  rw [← Array.getElem?_toList]
  simp only [Array.toList_append,List.append_assoc]
  rw [← List.append_assoc,List.getElem?_append_left bK]
  exact hj
 rcases x4 with ⟨rfl,rfl,ad,rfl,hd⟩ | ⟨b,o',cap,rfl,OM,xk,rV,xE⟩
 ·obtain rfl:ad=none:=by
   rcases hd with hd | hd
   ·exact hd
   ·cases hd
  simp only [List.length_nil] at hb mL
  have bf:=hA.nil mb (by simp only [List.length_nil] at hm; omega) (by rw [f3]; rw [Nat.zero_add] at hb; omega)
  cases tr with
  | bj=>exact fresh (old:=0) (fun b c=>by simp only [kU,List.length_cons]; omega) (by simpa using bf)
  | full f'=>
   have mL:f'=0:=mL
   subst mL
   exact fresh (old:=0) (fun b c=>by simp only [kU,List.length_cons]; omega) (by simpa using bf)
  | tok f' g c=>
   obtain ⟨mL,_⟩:=mL
   subst mL
   exact fresh (old:=0) (fun b c=>by simp only [kU,List.length_cons,List.length_nil]; omega) (by simpa using bf)
 ·obtain ⟨lh,ON,tK⟩:=xk
  rw [bA] at ON
  cases ON
  obtain ⟨t',q3,tK⟩:=tK
  rw [ht] at q3
  cases q3
  cases tr with
  | bj=>exact tK.elim
  | full f'=>
   have hf:f'=es.length:=mL
   subst hf
   have ig:=tK.2 rfl
   subst ig
   have bf:=hA.grow mb ⟨b,o',none⟩ es.length es.length xs (by rw [x3,f2]) rV (by omega) (by omega) (growslice_fits (by omega) (by rw [f3]; exact hb))
   exact fresh (fun b c=>by simp only [kU]; omega) bf
  | tok f' g c=>
   obtain ⟨rfl,cur,iZ,k1,k3,k4,k5⟩:=mL
   obtain ⟨rfl,rfl,rfl⟩:=tK.2 rfl
   by_cases fI:es.length+(y :: ys).length≤cap
   ·have hle:(es.length+(y :: ys).length) * esz≤cap * esz:=Nat.mul_le_mul_right _ fI
    have bf:=hA.room mb b es.length cap cur iZ fI (by rw [f2,y3,← Nat.add_mul,k4]; exact hle)
    rw [f2] at bf
    generalize Fg:(cur.toList.take (es.length * esz)++us++cur.toList.drop (es.length * esz+us.length)).toArray=cur2 at bf
    have jb:cur.toList.length=cap * esz:=by rw [show cur.toList.length=cur.size from Array.length_toList,k4]
    have XD:es.length * esz≤cap * esz:=Nat.mul_le_mul_right _ k1
    have zl:cur2.size=cap * esz:=by
     rw [← Fg,List.size_toArray]
     simp only [List.length_append,List.length_take,List.length_drop,y3,jb]
     rw [Nat.add_mul] at hle
     omega
    have tN:∀ o',R.I b o'→cur2[o']?=cur[o']?:=fun o' hi=>by
     have ho:o' < es.length * esz:=Nat.lt_of_not_le fun hle=>k5 o' hle hi
     rw [← Fg,List.append_assoc]
     simp only [List.getElem?_toArray]
     rw [List.getElem?_append_left (by rw [List.length_take]; omega),List.getElem?_take,if_pos ho,Array.getElem?_toList]
    have new:(w.setRow b cur2).heap[b]?=some (.cells cur2 elem (0,0)):=setRow_heap w b cur cur2 elem (0,0) iZ
    obtain ⟨r0,r1,r2⟩:=h.HT (cur2:=cur2) (n:=(es.length+(y :: ys).length) * esz) (r1:=.aU (ax ts j (.tok (es.length+(y :: ys).length) b cap))) (go:=.aU (ax fs j (es.length+(y :: ys).length)) esz elem) gR bA ⟨j,_,_,ht⟩
     (qS.set ht ⟨by omega,fun e=>by omega⟩) (fun b' kF=>(CB kF).elim (fun e=>by rw [e]; exact ⟨j,_,_,ht⟩) (fun x=>x)) iZ tN (fun _=>tq.set cL ⟨rfl,cur2,new,fI,k3,zl,fun o' pz hi=>by
      rcases hi with hi | ⟨_,hi⟩
      ·exact k5 o' (Nat.le_trans (Nat.mul_le_mul_right _ (Nat.le_add_right _ _)) pz) hi
      ·omega⟩ (fun i f c hi=>cL.2.1 i j _ _ _ _ _ hi ht) (fun i f b' c cq hi=>by
       have NI:b'≠b:=fun e=>by subst e; exact cq (cL.2.1 i j _ _ _ _ _ hi ht)
       refine ⟨setRow_other w b b' cur2 NI,fun o' pz=>?_⟩
       rcases pz with pz | ⟨pz,_⟩
       ·exact pz
       ·exact absurd pz NI))
    refine ⟨_,_,_,_,β,fA bf,.inl rfl,r1.put o.dst ?_,by rw [aP]; exact r2⟩
    have Rn:cur.toList.take (es.length * esz)=xs:=by
     have HV:xs.length=es.length * esz:=x3
     apply List.ext_getElem?
     intro j
     rw [List.getElem?_take]
     split
     ·rename_i hj
      have Hq:j < xs.length:=by omega
      have sy:=rV j xs[j] (List.getElem?_eq_getElem Hq)
      rw [bY,Nat.zero_add,cell_of_row w b j cur elem (0,0) iZ] at sy
      rw [Array.getElem?_toList,sy,List.getElem?_eq_getElem Hq]
     ·rw [List.getElem?_eq_none (by omega)]
    refine Rel.list (pR (vs:=xs++us) (kG x0 y0) (by rw [cr]; exact (x1.mono r0).append (y1.mono r0)) (ij x2 y2) (fun j v hj=>?_) (fun j hj=>.inr ⟨rfl,by rw [List.length_append,x3,y3,← Nat.add_mul] at hj; exact hj⟩)) (by simp) fI ⟨_,aB bA,_,aB ht,Nat.le_refl _,fun _=>⟨rfl,rfl,rfl⟩⟩
    rw [cell_of_row _ _ j _ _ _ new,← Fg,Rn]
    simp only [List.getElem?_toArray]
    rw [List.getElem?_append_left (List.getElem?_eq_some_iff.1 hj).1]
    exact hj
   ·have bf:=hA.grow mb ⟨b,0,none⟩ es.length cap xs (by rw [x3,f2]) rV (by omega) (by omega) (growslice_fits (by omega) (by rw [f3]; exact hb))
    exact fresh (fun b c=>⟨by omega,fun e=>by omega⟩) bf
theorem sI (h:aV E R w β s a) {t u:TypeId} {id j:Nat} {es:List AV} {y:AV} {ys:List AV} {cx cy:Value} {us:List Value}
  (fA:∀ {c:Value} {w':World},(Builtin.append_ #[t,u] o.type #[cx,cy]).run E.P w=.ok c w'→(execOp a.eval o).run E.P w=.ok (.value c) w')
  {elem esz eb:Nat} {z:AV} (AJ:1≤eb) (hz:z.cells.length=esz) (oC:z.aL=true)
  {ie:TypeInfo} (f2:ie.size=esz) (f3:ie.bytes=eb) (f6:fQ ie=some z)
  (h0:Rel R w (.list (.aU id j) esz es) cx) (hA:∀ zc:Value,ie.zero=some zc→QB E.P w t u o.type elem ie zc cy (y :: ys).length us)
  (y0:gT esz (y :: ys)) (y1:aE R w (ar (y :: ys)) us) (y2:∀ v∈us,v.oneCell'=true) (y3:us.length=(y :: ys).length * esz)
  {fs:List Nat} (gR:nth s.G id=some (.aU fs esz elem)) (sX:HH fs j es.length=true) (hb:(es.length+(y :: ys).length) * eb≤140737488355328) :
  bz E R w β s a o ((s.bF (ax s.G id (.aU (Ds fs j (es.length+(y :: ys).length)) esz elem))).put o.dst (.v (.list (.aU id j) esz (es++(y :: ys))))):=by
 unfold HH at sX
 rw [Bool.or_eq_true,decide_eq_true_eq,Bool.and_eq_true] at sX
 rcases sX with sX | ⟨hj,hl⟩
 ·have cq:Nat.beq j fs.length=false:=by
   cases hb:Nat.beq j fs.length with
   | false=>rfl
   | true=>
    have:=Nat.eq_of_beq_eq_true hb
    have:=bp sX
    omega
  unfold Ds
  rw [cq]
  exact lx h fA AJ hz oC f2 f3 f6 h0 hA y0 y1 y2 y3 gR sX hb
 ·have tS:Ds fs j (es.length+(y :: ys).length)=fs++[es.length+(y :: ys).length]:=by
   unfold Ds
   rw [hj]
   rfl
  rw [tS]
  have hj:=Nat.eq_of_beq_eq_true hj
  have hl:=Nat.eq_of_beq_eq_true hl
  subst hj
  have bK:=bp gR
  rw [← h.g.len] at bK
  obtain ⟨ro,bA⟩:∃ ro,nth R.obj id=some ro:=⟨R.obj[id],by rw [aR]; exact List.getElem?_eq_getElem bK⟩
  obtain ⟨ts,rfl,z1,z2,z3⟩:=h.Bh gR (nfs:=[0]) (nts:=[.bj]) rfl (fun j f t h1 h2=>by
   cases j with
   | zero=>simp only [nth] at h1 h2; cases h1; cases h2; exact rfl
   | succ j=>simp [nth] at h1) (fun j f b c hj=>by
   cases j with
   | zero=>simp only [nth] at hj; cases hj
   | succ j=>simp [nth] at hj) bA
  have key:=lx z2 fA AJ hz oC f2 f3 f6 (h0.mono z3.ext) hA y0 (y1.mono z3.ext) y2 y3 (fs:=fs++[0]) (aB gR) (by rw [hl]; exact ey _ _) hb
  have e1:ax (fs++[0]) fs.length (es.length+(y :: ys).length)=fs++[es.length+(y :: ys).length]:=by
   rw [gw,List.set_append_right _ _ (Nat.le_refl _),Nat.sub_self]
   rfl
  have e2:∀ x y:GO,ax (ax s.G id x) id y=ax s.G id y:=fun x y=>by rw [gw,gw,gw,List.set_set]
  rw [e1] at key
  refine bz.step rfl z3 ?_
  have e3:((s.bF (ax s.G id (.aU (fs++[0]) esz elem))).bF (ax (s.bF (ax s.G id (.aU (fs++[0]) esz elem))).G id (.aU (fs++[es.length+(y :: ys).length]) esz elem)))=s.bF (ax s.G id (.aU (fs++[es.length+(y :: ys).length]) esz elem)):=by
   simp only [St.bF,e2]
  rw [e3] at key
  exact key
theorem ik (h:aV E R w β s a) {t u:TypeId} {x:AV} {ys:List AV} {cx cy:Value} {us:List Value}
  (fA:∀ {c:Value} {w':World},(Builtin.append_ #[t,u] o.type #[cx,cy]).run E.P w=.ok c w'→(execOp a.eval o).run E.P w=.ok (.value c) w')
  {i:TI} {elem esz eb:Nat} {ag:Bool} {z:AV} (hk:i.k=.sl elem esz ag eb (some z)) (AJ:1≤eb) (hz:z.cells.length=esz) (oC:z.aL=true)
  {ie:TypeInfo} (f1:E.P.info? elem=some ie) (f2:ie.size=esz) (f3:ie.bytes=eb) (f6:fQ ie=some z)
  (h0:Rel R w x cx) (hA:∀ zc:Value,ie.zero=some zc→QB E.P w t u o.type elem ie zc cy ys.length us)
  (y0:gT esz ys) (y1:aE R w (ar ys) us) (y2:∀ v∈us,v.oneCell'=true) (y3:us.length=ys.length * esz)
  {v:AV} {G':List GO} (ha:eQ s.G elem esz eb x ys=some (true,v,G')) :
  bz E R w β s a o ((s.bF G').put o.dst (.v v)):=by
 obtain ⟨zc,nX,AI⟩:=cM f6
 have TU:=hA
 have hA:=hA zc nX
 obtain ⟨d1,d2⟩:=Rel.cells (AI R w) oC
 have pP:zc.cells.size=esz:=by rw [← hz,d1.length]; simp
 unfold eQ at ha
 split at ha
 ·-- nothing is appended
  rename_i k sz es
  have OG:us=[]:=List.eq_nil_of_length_eq_zero (by simpa using y3)
  have hG:G'=s.G∧Rel R w v cx:=by
   split at ha
   ·injection ha with ha; injection ha with _ ha; injection ha with p q
    subst p; subst q
    exact ⟨rfl,h0⟩
   ·injection ha with ha; injection ha with _ ha; injection ha with p q
    subst p; subst q
    exact ⟨rfl,h0⟩
  obtain ⟨rfl,Vg⟩:=hG
  refine ap (s:=s) h (c:=cx) (fA ?_) Vg
  cases h0 with
  | iF=>exact hA.zero rfl _ _ _ (Nat.le_refl 0)
  | ib=>exact hA.zero rfl _ _ _ (Nat.le_refl 0)
  | lT=>exact hA.zero rfl _ _ _ (Nat.le_refl 0)
  | lU=>exact hA.zero rfl _ _ _ (Nat.le_refl 0)
  | kT=>exact hA.zero rfl _ _ _ (Nat.le_refl 0)
  | list hr hlen ig _=>exact hA.zero rfl _ _ _ ig
 ·-- something is appended
  rename_i k sz es y ys hA
  have mb:0 < (y :: ys).length:=by simp
  -- what is shown where a new block has been made
  have grown:∀ {n old:Nat} {xs:List Value} {es':List AV},(es'.length=n)→gT esz es'→aE R w (ar es') xs→(∀ v∈xs,v.oneCell'=true)→xs.length=n * esz →
    (n+(y :: ys).length) * eb≤140737488355328→n+(y :: ys).length≤maxLen→∀ (R':aj) (G2:List GO) (id:Nat),
    aV E R' (w.drew.alloc (.cells (xs.toArray++us.toArray++Builtin.zeroCells zc.cells (grownCap w (n+(y :: ys).length) old elem - (n+(y :: ys).length))) elem)) β (s.bF G2) a →
    Step R w β s.boxes R' (w.drew.alloc (.cells (xs.toArray++us.toArray++Builtin.zeroCells zc.cells (grownCap w (n+(y :: ys).length) old elem - (n+(y :: ys).length))) elem)) β s.boxes →
    (∀ j,j < (n+(y :: ys).length) * esz→R'.I w.heap.size j)→nth R'.obj id=some (.tok (n+(y :: ys).length) w.heap.size (grownCap w (n+(y :: ys).length) old elem)) →
    (Builtin.append_ #[t,u] o.type #[cx,cy]).run E.P w=.ok (.slice (some ⟨w.heap.size,0,none⟩) (n+(y :: ys).length) (grownCap w (n+(y :: ys).length) old elem)) (w.drew.alloc (.cells (xs.toArray++us.toArray++Builtin.zeroCells zc.cells (grownCap w (n+(y :: ys).length) old elem - (n+(y :: ys).length))) elem)) →
    bz E R w β s a o ((s.bF G2).put o.dst (.v (.list (.own id) esz (es'++(y :: ys))))):=by
   intro n old xs es' wu Lc OL sA wC _ _ R' G2 id cL CG hI bE bf
   refine ⟨_,_,_,R',β,fA bf,.inl rfl,cL.put o.dst ?_,by rw [aP]; exact CG⟩
   have e:=CG.ext
   refine Rel.list (pR (vs:=xs++us) (kG Lc y0) (by rw [cr]; exact (OL.mono e).append (y1.mono e)) (ij sA y2) (fun j v hj=>?_) (fun j hj=>hI j (by rw [List.length_append,wC,y3,← Nat.add_mul] at hj; exact hj))) (by simp [wu]) (grownCap_ge w _ _ _) ⟨_,bE,Nat.le_refl _,fun _=>⟨rfl,rfl,rfl⟩⟩
   have sE:(w.drew.alloc (.cells (xs.toArray++us.toArray++Builtin.zeroCells zc.cells (grownCap w (n+(y :: ys).length) old elem - (n+(y :: ys).length))) elem)).heap[w.heap.size]?=some (.cells (xs.toArray++us.toArray++Builtin.zeroCells zc.cells (grownCap w (n+(y :: ys).length) old elem - (n+(y :: ys).length))) elem (0,0)):=heap_alloc_new w.drew _
   rw [cell_of_row _ _ j _ _ _ sE]
   have bK:=(List.getElem?_eq_some_iff.1 hj).1
   rw [← Array.getElem?_toList]
   simp only [Array.toList_append,List.append_assoc]
   rw [← List.append_assoc,List.getElem?_append_left bK]
   exact hj
  have Fh:∀ {n old:Nat} {xs:List Value},xs.length=n * esz→n+(y :: ys).length≤maxLen→(xs.toArray++us.toArray++Builtin.zeroCells zc.cells (grownCap w (n+(y :: ys).length) old elem - (n+(y :: ys).length))).size=grownCap w (n+(y :: ys).length) old elem * esz:=by
   intro n old xs wC _
   have yL:=grownCap_ge w (n+(y :: ys).length) old elem
   simp only [Array.size_append,List.size_toArray,size_zeroCells,pP,wC,y3,← Nat.add_mul]
   congr 1
   omega
  have fresh:∀ {n old:Nat} {xs:List Value} {es':List AV},(es'.length=n)→gT esz es'→aE R w (ar es') xs→(∀ v∈xs,v.oneCell'=true)→xs.length=n * esz →
    (n+(y :: ys).length) * eb≤140737488355328→n+(y :: ys).length≤maxLen →
    (Builtin.append_ #[t,u] o.type #[cx,cy]).run E.P w=.ok (.slice (some ⟨w.heap.size,0,none⟩) (n+(y :: ys).length) (grownCap w (n+(y :: ys).length) old elem)) (w.drew.alloc (.cells (xs.toArray++us.toArray++Builtin.zeroCells zc.cells (grownCap w (n+(y :: ys).length) old elem - (n+(y :: ys).length))) elem)) →
    bz E R w β s a o ((s.bF (s.G++[.tok (n+(y :: ys).length) esz elem])).put o.dst (.v (.list (.own s.G.length) esz (es'++(y :: ys))))):=by
   intro n old xs es' wu Lc OL sA wC hb hm bf
   obtain ⟨r1,r2⟩:=h.K4 (cur:=xs.toArray++us.toArray++Builtin.zeroCells zc.cells (grownCap w (n+(y :: ys).length) old elem - (n+(y :: ys).length))) (elem:=elem) (grownCap_ge w (n+(y :: ys).length) old elem) (grownCap_le_maxLen w _ old elem hm) (Fh wC hm)
   exact grown wu Lc OL sA wC hb hm _ _ _ r1 r2 (fun j hj=>.inr ⟨rfl,hj⟩) (by rw [← h.g.len]; exact ey _ _) bf
  have Le:∀ {n:Nat},(n+(y :: ys).length) * eb≤140737488355328→n+(y :: ys).length≤140737488355328:=fun {n} hb=>Nat.le_trans (Nat.le_mul_of_pos_right _ AJ) hb
  split at ha
  ·-- nil
   injection ha with ha; injection ha with hc ha; injection ha with p q
   subst p; subst q
   have hb:=of_decide_eq_true hc
   cases h0 with
   | list _ _ _ E2=>exact E2.elim
   | iF=>
    simp only [List.length_nil] at hb
    have hm:=Le hb
    refine fresh (n:=0) (old:=0) (xs:=[]) (es':=[]) rfl (fun e he=>by simp at he) .nil (by simp) (by simp) hb (by unfold maxLen; omega) ?_
    have bf:=hA.nil mb (by omega) (by rw [f3]; rw [Nat.zero_add] at hb; omega)
    simpa using bf
  ·-- as long as its capacity
   split at ha
   ·rename_i eC
    have eC:=Nat.eq_of_beq_eq_true eC
    subst eC
    injection ha with ha; injection ha with hc ha; injection ha with p q
    subst p; subst q
    have hb:=of_decide_eq_true hc
    have hm:=Le hb
    obtain ⟨x0,xs,x1,x2,x3,x4⟩:=fH (esz:=sz) h0 (.inr rfl)
    rcases x4 with ⟨rfl,rfl,ad,rfl,hd⟩ | ⟨b,o',cap,rfl,OM,xk,rV,_⟩
    ·rcases hd with rfl | hd
     ·cases h0
     ·cases hd
    ·have ig:cap=es.length:=xk
     subst ig
     refine fresh (n:=es.length) (old:=es.length) (xs:=xs) (es':=es) rfl x0 x1 x2 x3 hb (by unfold maxLen; omega) ?_
     exact hA.grow mb ⟨b,o',none⟩ es.length es.length xs (by rw [x3,f2]) rV (by omega) (by omega) (growslice_fits (by omega) (by rw [f3]; exact hb))
   ·cases ha
  ·-- of a token
   rename_i id
   split at ha
   ·rename_i f bl e' gR
    split at ha
    ·rename_i cp
     simp only [Bool.and_eq_true] at cp
     obtain ⟨⟨q1,q2⟩,q3⟩:=cp
     have q1:=Nat.eq_of_beq_eq_true q1
     have q2:=Nat.eq_of_beq_eq_true q2
     have q3:=Nat.eq_of_beq_eq_true q3
     subst q1; subst q2; subst q3
     injection ha with ha; injection ha with hc ha; injection ha with p q
     subst p; subst q
     simp only [Bool.and_eq_true] at hc
     have sX:=of_decide_eq_true hc.1
     have hb:=of_decide_eq_true hc.2
     subst sX
     have hm:=Le hb
     obtain ⟨x0,xs,x1,x2,x3,x4⟩:=fH (esz:=sz) h0 (.inr rfl)
     rcases x4 with ⟨rfl,rfl,ad,rfl,hd⟩ | ⟨b,o',cap,rfl,OM,xk,rV,xE⟩
     ·obtain rfl:ad=none:=by
       rcases hd with hd | hd
       ·exact hd
       ·cases hd
      cases h0 with
      | @lU _ _ ro bA hon=>
      have cL:=h.g.obj id _ _ gR bA
      cases ro with
      | none=>exact cL.elim
      | bq _=>exact cL.elim
      | tok f' g c=>
       obtain ⟨rfl,_⟩:=cL
       simp [lS] at hon
      | aU _=>exact cL.elim
      | bj=>
       simp only [List.length_nil] at hb
       have bf:=hA.nil mb (by omega) (by rw [f3]; rw [Nat.zero_add] at hb; omega)
       have eC:=Fh (n:=0) (old:=0) (xs:=[]) (by simp) (by unfold maxLen; omega)
       obtain ⟨r1,r2⟩:=h.Fb (cur:=[].toArray++us.toArray++Builtin.zeroCells zc.cells (grownCap w (0+(y :: ys).length) 0 e' - (0+(y :: ys).length))) (elem:=e') (n:=0+(y :: ys).length) (cap:=grownCap w (0+(y :: ys).length) 0 e') gR bA (fun b c=>by simp only [bZ]; omega) (grownCap_ge w _ _ _) (grownCap_le_maxLen w _ _ _ (by unfold maxLen; omega)) eC
       exact grown (n:=0) (es':=[]) rfl (fun e he=>by simp at he) .nil (by simp) (by simp) hb (by unfold maxLen; omega) _ _ _ r1 r2 (fun j hj=>.inr ⟨rfl,hj⟩) (aB bA) (by simpa using bf)
     ·obtain ⟨ro,bA,tK⟩:=xk
      have cL:=h.g.obj id _ _ gR bA
      cases ro with
      | none=>exact cL.elim
      | bj=>exact tK.elim
      | bq _=>exact cL.elim
      | aU _=>exact cL.elim
      | tok f' g c=>
       obtain ⟨rfl,cur,iZ,k1,k3,k4,k5⟩:=cL
       obtain ⟨rfl,rfl,rfl⟩:=tK.2 rfl
       by_cases fI:es.length+(y :: ys).length≤cap
       ·have hle:(es.length+(y :: ys).length) * sz≤cap * sz:=Nat.mul_le_mul_right _ fI
        have bf:=hA.room mb b es.length cap cur iZ fI (by rw [f2,y3,← Nat.add_mul,k4]; exact hle)
        rw [f2] at bf
        obtain ⟨r0,r1,r2⟩:=h.HR (news:=us) (n:=es.length+(y :: ys).length) gR bA (by omega) fI iZ k4 k3 (by rw [y3,← Nat.add_mul])
        refine ⟨_,_,_,_,β,fA bf,.inl rfl,r1.put o.dst ?_,by rw [aP]; exact r2⟩
        have sE:=setRow_heap w b cur (cur.toList.take (es.length * sz)++us++cur.toList.drop (es.length * sz+us.length)).toArray e' (0,0) iZ
        have Rn:cur.toList.take (es.length * sz)=xs:=by
         have HV:xs.length=es.length * sz:=x3
         apply List.ext_getElem?
         intro j
         rw [List.getElem?_take]
         split
         ·rename_i hj
          have Hq:j < xs.length:=by omega
          have sy:=rV j xs[j] (List.getElem?_eq_getElem Hq)
          rw [bY,Nat.zero_add,cell_of_row w b j cur e' (0,0) iZ] at sy
          rw [Array.getElem?_toList,sy,List.getElem?_eq_getElem Hq]
         ·rw [List.getElem?_eq_none (by omega)]
        refine Rel.list (pR (vs:=xs++us) (kG x0 y0) (by rw [cr]; exact (x1.mono r0).append (y1.mono r0)) (ij x2 y2) (fun j v hj=>?_) (fun j hj=>.inr ⟨rfl,by rw [List.length_append,x3,y3,← Nat.add_mul] at hj; exact hj⟩)) (by simp) fI ⟨_,aB bA,Nat.le_refl _,fun _=>⟨rfl,rfl,rfl⟩⟩
        rw [cell_of_row _ _ j _ _ _ sE,Rn]
        simp only [List.getElem?_toArray]
        rw [List.getElem?_append_left (List.getElem?_eq_some_iff.1 hj).1]
        exact hj
       ·have bf:=hA.grow mb ⟨b,0,none⟩ es.length cap xs (by rw [x3,f2]) rV (by omega) (by omega) (growslice_fits (by omega) (by rw [f3]; exact hb))
        obtain ⟨r1,r2⟩:=h.Fb (cur:=xs.toArray++us.toArray++Builtin.zeroCells zc.cells (grownCap w (es.length+(y :: ys).length) cap e' - (es.length+(y :: ys).length))) (elem:=e') (n:=es.length+(y :: ys).length) (cap:=grownCap w (es.length+(y :: ys).length) cap e') gR bA (fun b c=>⟨by omega,fun e=>by omega⟩) (grownCap_ge w _ _ _) (grownCap_le_maxLen w _ _ _ (by unfold maxLen; omega)) (Fh x3 (by unfold maxLen; omega))
        exact grown rfl x0 x1 x2 x3 hb (by unfold maxLen; omega) _ _ _ r1 r2 (fun j hj=>.inr ⟨rfl,hj⟩) (aB bA) bf
    ·cases ha
   ·cases ha
  ·-- of a member of a family
   rename_i id j
   split at ha
   ·rename_i fs bl e' gR
    split at ha
    ·rename_i cp
     simp only [Bool.and_eq_true] at cp
     obtain ⟨⟨q1,q2⟩,q3⟩:=cp
     have q1:=Nat.eq_of_beq_eq_true q1
     have q2:=Nat.eq_of_beq_eq_true q2
     have q3:=Nat.eq_of_beq_eq_true q3
     subst q1; subst q2; subst q3
     injection ha with ha; injection ha with hc ha; injection ha with p q
     subst p; subst q
     simp only [Bool.and_eq_true,decide_eq_true_eq] at hc
     exact sI h fA AJ hz oC f2 f3 f6 h0 (fun Ro Lf=>TU Ro Lf) y0 y1 y2 y3 gR hc.1 hc.2
    ·cases ha
   ·cases ha
  ·cases ha
 ·-- a slice that grows, and nothing
  injection ha with ha; injection ha with _ ha; injection ha with p q
  subst p; subst q
  refine ap (s:=s) h (c:=cx) (fA ?_) h0
  cases h0 with
  | iW=>exact hA.zero rfl _ _ _ (Nat.le_refl 0)
  | dM _ _ ig=>exact hA.zero rfl _ _ _ ig
 ·-- a slice that grows
  rename_i id f' off sz len y ys hA
  split at ha
  ·rename_i es bl e' gR
   split at ha
   ·rename_i cp
    simp only [Bool.and_eq_true] at cp
    obtain ⟨⟨q1,q2⟩,q3⟩:=cp
    have q1:=Nat.eq_of_beq_eq_true q1
    have q2:=Nat.eq_of_beq_eq_true q2
    have q3:=Nat.eq_of_beq_eq_true q3
    subst q1; subst q2; subst q3
    injection ha with ha; injection ha with hc ha; injection ha with p q
    subst p; subst q
    simp only [Bool.and_eq_true,decide_eq_true_eq] at hc
    exact mF h fA AJ hz oC f2 f3 f6 h0 (fun Ro Lf=>TU Ro Lf) y0.g y1 y2 y3 gR hc.1.1.1 hc.1.1.2 hc.1.2 hc.2
   ·cases ha
  ·cases ha
 ·cases ha
theorem zm (h:aV E R w β s a) {args:Array Operand} {t:TypeId} (ho:o.op=.call { callee:=.builtin .append,args:=args,argTypes:=#[t,t] }) {x:AV} {k2:LK} {JE:Nat} {ys:List AV}
  (hl:kQ E s.ae args.toList=some [x,.list k2 JE ys]) {i:TI} (hi:E.ti t=some i) {elem esz eb:Nat} {ag:Bool} {z:AV} (hk:i.k=.sl elem esz ag eb (some z)) (zl:ys=[]∨JE=esz) (Vh:1≤esz) (AJ:1≤eb) (hz:z.cells.length=esz) (oC:z.aL=true)
  {v:AV} {G':List GO} (ha:eQ s.G elem esz eb x ys=some (true,v,G')) :
  bz E R w β s a o ((s.bF G').put o.dst (.v v)):=by
 have hr:=ft h hl
 generalize hv:args.toList.map a.eval=vs at hr
 have hx:=dw (E:=E) (w:=w) ho vs hv
 cases hr with
 | @cons _ cx _ _ h0 h1=>
 cases h1 with
 | @cons _ cy _ _ h1 h2=>
 cases h2
 obtain ⟨gb,u,e1,e2,e3,e4,e5,e6⟩:=bG E hi
 have JJ:=hk
 rw [hk] at e5
 obtain ⟨ie,ue,rfl,f1,f2,f3,f4,f5,f6⟩:=cW e5
 have oF:(⟨[cx,cy]⟩:Array Value)=#[cx,cy]:=rfl
 obtain ⟨y0,us,y1,y2,y3,y4⟩:=fH (esz:=esz) h1 zl
 refine ik h (cx:=cx) (cy:=cy) (t:=t) (u:=t) (fun hh=>?_) JJ AJ hz oC f1 f2 f3 f6 h0 (fun zc nX=>?_) y0 y1 y2 y3 ha
 ·rw [hx]
  simp only [builtin,oF,Sem.run_bind,hh,Result.andThen_ok,Sem.run_pure]
 ·rcases y4 with ⟨rfl,rfl,ad,rfl,_⟩ | ⟨NL,oy,tT,rfl,OO,_,nf,yE⟩
  ·refine ⟨fun _ base len cap yO=>?_,fun hh=>absurd hh (by simp),fun hh=>absurd hh (by simp),fun hh=>absurd hh (by simp)⟩
   cases ad <;> simp [Builtin.append_,run_underlying e2,run_sizeOf w f1,Builtin.lenOf,Builtin.firstCells,yO,storeCells,loadCells,loadCellsFrom] <;>
    cases base <;> simp [storeCells]
  ·refine ⟨fun hn base len cap yO=>?_,fun hh Bj Bk=>run_append_nil (P:=E.P) w t o.type elem ie zc e2 f1 nX _ _ tT us (by rw [y3,f2]) nf hh Bj Bk,fun _ b sLen ja tR tU Fi hg Bj Bk=>run_append_grow (P:=E.P) w t o.type elem ie zc e2 f1 nX b sLen ja tR tU Fi _ _ tT us (by rw [y3,f2]) nf hg Bj Bk,fun _ g sLen ja cur hg fI sJ=>run_append_room (P:=E.P) w t o.type elem ie e2 f1 g sLen ja cur hg _ _ tT us (by rw [y3,f2]) nf y2 fI sJ⟩
   rw [hn]
   simp [Builtin.append_,run_underlying e2,run_sizeOf w f1,Builtin.lenOf,Builtin.firstCells,yO,storeCells,loadCells,loadCellsFrom]
   cases base <;> simp [storeCells]
theorem zn {sz:Nat} {es:List AV} (h:dg sz es) (hc:aM es=true):gT sz es:=by
 induction es with
 | nil=>intro e he; cases he
 | cons x es ih=>
  have pM:(x.closed&&aM es)=true:=hc
  rw [Bool.and_eq_true] at pM
  intro e he
  rcases List.mem_cons.1 he with rfl | he
  ·exact ⟨(h e List.mem_cons_self).1,(h e List.mem_cons_self).2,pM.1⟩
  ·exact ih (fun e he=>h e (List.mem_cons_of_mem _ he)) pM.2 e he
theorem DJ (h:aV E R w β s a) {id f sz len:Nat} {es:List AV} {el:TypeId} {c:Value} (bE:nth s.G id=some (.du es sz el)) (hf:f=es.length) (hl:len=es.length) (jb:aM es=true) (hc:Rel R w (.dM id f 0 sz len) c) :
  gT sz es∧∃ vs,aE R w (ar es) vs∧(∀ v∈vs,v.oneCell'=true)∧vs.length=es.length * sz ∧
   ((es=[]∧vs=[]∧∃ ad,c=.slice ad 0 0)∨∃ b o' cap,c=.slice (some ⟨b,o',none⟩) es.length cap∧es.length≤cap∧(∀ j v,vs[j]?=some v→w.cell? ((⟨b,o',none⟩:Addr).add j)=some v)):=by
 cases hc with
 | iW h1 h2=>
  have he:es=[]:=List.eq_nil_of_length_eq_zero hl.symm
  subst he
  exact ⟨(fun e he=>by cases he),[],.nil,by simp,by simp,.inl ⟨rfl,rfl,_,rfl⟩⟩
 | @dM _ _ _ _ _ cap b1 o1 ro h1 h2 h3=>
  have hn:ro≠.bj:=fun e=>by subst e; exact h2.elim
  obtain ⟨b,c',cur,vs,rfl,g0,g2,g3,g4,g5,g6,g7,g8,g9⟩:=lZ h.g bE h1 hn
  have g1:gT sz es:=zn g0 jb
  obtain ⟨rfl,k2,k3⟩:=h2.2 hf
  refine ⟨g1,vs,g7,g8,by rw [← g7.length,cu g1],.inr ⟨_,_,_,by rw [hl],by omega,fun j v hj=>?_⟩⟩
  rw [bY]
  have Rl:j < vs.length:=(List.getElem?_eq_some_iff.1 hj).1
  have ho:o1=0:=by
   rcases k3 with k3 | k3
   ·rw [k3,Nat.zero_mul]
   ·have:es.length=0:=by omega
    rw [← g7.length,cu g1,this,Nat.zero_mul] at Rl
    omega
  subst ho
  rw [Nat.zero_add,cell_of_row w b1 j cur el (0,0) g2]
  rw [← g9,List.getElem?_take] at hj
  split at hj
  ·rw [← Array.getElem?_toList]; exact hj
  ·cases hj
theorem sK (h:aV E R w β s a) {args:Array Operand} {t:TypeId} (ho:o.op=.call { callee:=.builtin .append,args:=args,argTypes:=#[t,t] }) {x:AV} {id f sz len:Nat} {ys:List AV} {el:TypeId}
  (hl:kQ E s.ae args.toList=some [x,.dM id f 0 sz len]) (bE:nth s.G id=some (.du ys sz el)) (hf:f=ys.length) (hlen:len=ys.length) (jb:aM ys=true)
  {i:TI} (hi:E.ti t=some i) {elem esz eb:Nat} {ag:Bool} {z:AV} (hk:i.k=.sl elem esz ag eb (some z)) (zl:sz=esz) (AJ:1≤eb) (hz:z.cells.length=esz) (oC:z.aL=true)
  {v:AV} {G':List GO} (ha:eQ s.G elem esz eb x ys=some (true,v,G')) :
  bz E R w β s a o ((s.bF G').put o.dst (.v v)):=by
 have hr:=ft h hl
 generalize hv:args.toList.map a.eval=vs at hr
 have hx:=dw (E:=E) (w:=w) ho vs hv
 cases hr with
 | @cons _ cx _ _ h0 h1=>
 cases h1 with
 | @cons _ cy _ _ h1 h2=>
 cases h2
 obtain ⟨gb,u,e1,e2,e3,e4,e5,e6⟩:=bG E hi
 have JJ:=hk
 rw [hk] at e5
 obtain ⟨ie,ue,rfl,f1,f2,f3,f4,f5,f6⟩:=cW e5
 have oF:(⟨[cx,cy]⟩:Array Value)=#[cx,cy]:=rfl
 subst zl
 obtain ⟨y0,us,y1,y2,y3,y4⟩:=DJ h bE hf hlen jb h1
 refine ik h (cx:=cx) (cy:=cy) (t:=t) (u:=t) (fun hh=>?_) JJ AJ hz oC f1 f2 f3 f6 h0 (fun zc nX=>?_) y0 y1 y2 y3 ha
 ·rw [hx]
  simp only [builtin,oF,Sem.run_bind,hh,Result.andThen_ok,Sem.run_pure]
 ·rcases y4 with ⟨rfl,rfl,ad,rfl⟩ | ⟨NL,oy,tT,rfl,OO,nf⟩
  ·refine ⟨fun _ base len cap yO=>?_,fun hh=>absurd hh (by simp),fun hh=>absurd hh (by simp),fun hh=>absurd hh (by simp)⟩
   cases ad <;> simp [Builtin.append_,run_underlying e2,run_sizeOf w f1,Builtin.lenOf,Builtin.firstCells,yO,storeCells,loadCells,loadCellsFrom] <;>
    cases base <;> simp [storeCells]
  ·refine ⟨fun hn base len cap yO=>?_,fun hh Bj Bk=>run_append_nil (P:=E.P) w t o.type elem ie zc e2 f1 nX _ _ tT us (by rw [y3,f2]) nf hh Bj Bk,fun _ b sLen ja tR tU Fi hg Bj Bk=>run_append_grow (P:=E.P) w t o.type elem ie zc e2 f1 nX b sLen ja tR tU Fi _ _ tT us (by rw [y3,f2]) nf hg Bj Bk,fun _ g sLen ja cur hg fI sJ=>run_append_room (P:=E.P) w t o.type elem ie e2 f1 g sLen ja cur hg _ _ tT us (by rw [y3,f2]) nf y2 fI sJ⟩
   rw [hn]
   simp [Builtin.append_,run_underlying e2,run_sizeOf w f1,Builtin.lenOf,Builtin.firstCells,yO,storeCells,loadCells,loadCellsFrom]
   cases base <;> simp [storeCells]
theorem tV:∀ (bs:List UInt8),aE R w (ar (bs.map pF)) (Lib.strCells ⟨⟨bs⟩⟩)
 | []=>.nil
 | b :: bs=>.cons (Rel.int .u8 b.toNat) (tV bs)
theorem sL (h:aV E R w β s a) {args:Array Operand} {t u:TypeId} (ho:o.op=.call { callee:=.builtin .append,args:=args,argTypes:=#[t,u] }) {x:AV} {bs:List UInt8}
  (hl:kQ E s.ae args.toList=some [x,.str bs]) {i j:TI} (hi:E.ti t=some i) (hj:E.ti u=some j) {elem eb:Nat} {ag:Bool} {z:AV} (hk:i.k=.sl elem 1 ag eb (some z)) (NQ:j.k=.str) (AJ:1≤eb) (hz:z.cells.length=1) (oC:z.aL=true)
  {v:AV} {G':List GO} (ha:eQ s.G elem 1 eb x (bs.map pF)=some (true,v,G')) :
  bz E R w β s a o ((s.bF G').put o.dst (.v v)):=by
 have hr:=ft h hl
 generalize hv:args.toList.map a.eval=vs at hr
 have hx:=dw (E:=E) (w:=w) ho vs hv
 cases hr with
 | @cons _ cx _ _ h0 h1=>
 cases h1 with
 | @cons _ cy _ _ h1 h2=>
 cases h2
 obtain ⟨gb,ud,e1,e2,e3,e4,e5,e6⟩:=bG E hi
 obtain ⟨OP,Vi,g1,g2,g3,g4,g5,g6⟩:=bG E hj
 rw [NQ] at g5
 have:=jP g5
 subst this
 have JJ:=hk
 rw [hk] at e5
 obtain ⟨ie,ue,rfl,f1,f2,f3,f4,f5,f6⟩:=cW e5
 cases h1
 have eC:(⟨⟨bs⟩⟩:ByteArray).size=bs.length:=rfl
 have hlen:(bs.map pF).length=bs.length:=List.length_map _
 have oF:(⟨[cx,.string ⟨⟨bs⟩⟩]⟩:Array Value)=#[cx,.string ⟨⟨bs⟩⟩]:=rfl
 have jb:(Lib.strCells ⟨⟨bs⟩⟩).length=bs.length:=Lib.strCells_length _
 refine ik h (cx:=cx) (cy:=.string ⟨⟨bs⟩⟩) (us:=Lib.strCells ⟨⟨bs⟩⟩) (t:=t) (u:=u) (fun hh=>?_) JJ AJ hz oC f1 f2 f3 f6 h0 (fun zc nX=>?_) ?_ (tV bs) (Lib.strCells_oneCell _) (by rw [jb,hlen,Nat.mul_one]) ha
 ·rw [hx]
  simp only [builtin,oF,Sem.run_bind,hh,Result.andThen_ok,Sem.run_pure]
 ·rw [hlen]
  refine ⟨fun hn base len cap yO=>?_,fun hh Bj Bk=>?_,fun _ b sLen ja tR tU Fi hg Bj Bk=>Lib.run_append_grow_string (P:=E.P) w t u o.type elem ie zc e2 g2 f1 nX b sLen ja tR tU Fi ⟨⟨bs⟩⟩ hg Bj Bk,fun _ g sLen ja cur hg fI sJ=>?_⟩
  ·have hb:bs=[]:=List.eq_nil_of_length_eq_zero hn
   subst hb
   have Rp:(⟨⟨[]⟩⟩:ByteArray).size=0:=rfl
   simp [Rp,Builtin.append_,run_underlying e2,run_underlying g2,run_sizeOf w f1,Builtin.lenOf,Builtin.firstCells,yO,storeCells]
   cases base <;> simp [storeCells]
  ·rw [run_append_nil_string (P:=E.P) w t u o.type elem ie zc e2 g2 f1 nX ⟨⟨bs⟩⟩ hh Bj Bk]
   simp [Lib.strCells,eC]
  ·have:=Lib.run_append_room_string (P:=E.P) w t u o.type elem ie e2 g2 f1 f2 g sLen ja cur hg ⟨⟨bs⟩⟩ fI (by rw [f2,Nat.mul_one,jb] at sJ; exact sJ)
   rw [this,f2,Nat.mul_one,jb]
   rfl
 ·intro e he
  obtain ⟨b,_,rfl⟩:=List.mem_map.1 he
  exact ⟨rfl,rfl,rfl⟩
end ops
end Go.Am
