/- The abstract machine: what it does is what the model does: slices that grow and are written. -/
import Derived.Test.YtfiopgedfcaodaaGreatDoorAmKC
import Derived.Lib.AppendStr
set_option linter.all false
namespace Go.Am
open Go
section lists
theorem wG {α:Type} (c us:List α) (n p sz off:Nat) (hn:n≤c.length) (hp:p+sz≤n) (ho:off+us.length≤sz) :
  (c.take (p+off)++us++c.drop (p+off+us.length)).take n =
   (c.take n).take p++((((c.take n).drop p).take sz).take off++us++(((c.take n).drop p).take sz).drop (off+us.length))++(c.take n).drop (p+sz):=by
 apply List.ext_getElem?
 intro j
 simp only [List.getElem?_append,List.getElem?_take,List.getElem?_drop,List.length_append,List.length_take,List.length_drop]
 by_cases h1:j < p
 ·rw [if_pos (by omega),if_pos (by omega),if_pos (by omega),if_pos (by omega),if_pos (by omega),if_pos (by omega),if_pos (by omega),if_pos (by omega)]
 ·by_cases h2:j < p+off
  ·rw [if_pos (by omega),if_pos (by omega),if_pos (by omega),if_pos (by omega),if_pos (by omega),if_neg (by omega),if_pos (by omega),if_pos (by omega),if_pos (by omega),if_pos (by omega),if_pos (by omega)]
   congr 1; omega
  ·by_cases h3:j < p+off+us.length
   ·rw [if_pos (by omega),if_pos (by omega),if_neg (by omega),if_pos (by omega),if_neg (by omega),if_pos (by omega),if_neg (by omega)]
    congr 1; omega
   ·by_cases h4:j < p+sz
    ·rw [if_pos (by omega),if_neg (by omega),if_pos (by omega),if_neg (by omega),if_neg (by omega),if_pos (by omega),if_pos (by omega)]
     congr 1; omega
    ·by_cases h5:j < n
     ·rw [if_pos (by omega),if_neg (by omega),if_neg (by omega),if_pos (by omega)]
      congr 1; omega
     ·rw [if_neg (by omega),if_neg (by omega),if_neg (by omega)]
theorem qy {sz:Nat}:∀ {es:List AV} {i:Nat} {e:AV},dq sz es→nth es i=some e→((aq es).drop (i * sz)).take sz=e.cells
 | [],_,_,_,h=>by simp [nth] at h
 | x :: es,0,e,h,hi=>by
  simp only [nth] at hi
  cases hi
  have h1:=(h x (by simp)).1
  rw [Nat.zero_mul,List.drop_zero]
  simp only [aq]
  rw [← h1,List.take_left]
 | x :: es,i+1,e,h,hi=>by
  have h1:=(h x (by simp)).1
  have ih:=qy (i:=i) (fun y hy=>h y (by simp [hy])) (show nth es i=some e from hi)
  simp only [aq]
  rw [show (i+1) * sz=x.cells.length+i * sz by rw [h1,Nat.succ_mul]; omega,List.drop_append,List.drop_of_length_le (by omega),List.nil_append,Nat.add_sub_cancel_left]
  exact ih
theorem rM {sz:Nat} {l r:List AV} (h:dq sz l) (k:dq sz r):dq sz (l++r):=fun e he=>by
 rcases List.mem_append.1 he with he | he
 ·exact h e he
 ·exact k e he
theorem zU {sz:Nat} {l:List AV} (n:Nat) (h:dq sz l):dq sz (l.take n):=fun e he=>h e (List.mem_of_mem_take he)
theorem Ia {sz:Nat} {l:List AV} (n:Nat) (h:dq sz l):dq sz (l.drop n):=fun e he=>h e (List.mem_of_mem_drop he)
theorem jq {sz:Nat}:∀ {es:List AV} (i:Nat),dq sz es→aq (es.take i)=(aq es).take (i * sz)
 | [],i,_=>by simp [aq]
 | e :: es,0,_=>by simp [aq]
 | e :: es,i+1,h=>by
  have h1:=(h e (by simp)).1
  simp only [List.take_succ_cons,aq]
  rw [jq i (fun y hy=>h y (by simp [hy])),show (i+1) * sz=e.cells.length+i * sz by rw [h1,Nat.succ_mul]; omega,List.take_append,Nat.add_sub_cancel_left,List.take_of_length_le (by omega:e.cells.length≤e.cells.length+i * sz)]
theorem om {sz:Nat}:∀ {es:List AV} (i:Nat),dq sz es→aq (es.drop i)=(aq es).drop (i * sz)
 | [],i,_=>by simp [aq]
 | e :: es,0,_=>by simp [aq]
 | e :: es,i+1,h=>by
  have h1:=(h e (by simp)).1
  simp only [List.drop_succ_cons,aq]
  rw [om i (fun y hy=>h y (by simp [hy])),show (i+1) * sz=e.cells.length+i * sz by rw [h1,Nat.succ_mul]; omega,List.drop_append,List.drop_of_length_le (by omega:e.cells.length≤e.cells.length+i * sz),List.nil_append,Nat.add_sub_cancel_left]
theorem cS {sz:Nat} {es:List AV} (h:dq sz es):(aq es).length=es.length * sz:=by
 induction es with
 | nil=>simp [aq]
 | cons e es ih=>
  have h1:=(h e (by simp)).1
  have:=ih (fun x hx=>h x (by simp [hx]))
  simp only [aq,List.length_append,this,h1,List.length_cons,Nat.add_mul]
  omega
theorem EV {sz:Nat} {es:List AV} {i:Nat} {v:AV} (h:dq sz es) (h1:v.cells.length=sz) (h2:v.aV=true):dq sz (ap es i v):=fun e he=>by
 rw [eh] at he
 rcases List.mem_or_eq_of_mem_set he with he | rfl
 ·exact h e he
 ·exact ⟨h1,h2⟩
theorem Cs {sz:Nat} {es:List AV} {i:Nat} {v:AV} (h:dq sz es) (hi:i < es.length) (hv:v.cells.length=sz):aq (ap es i v)=bc (aq es) (i * sz) v.cells:=by
 have tj:i * sz+sz≤es.length * sz:=by
  rw [← Nat.succ_mul]
  exact Nat.mul_le_mul_right _ hi
 rw [eh,List.set_eq_take_append_cons_drop,if_pos hi,ey _ _ _ (by rw [hv,cS h]; exact tj),cE,jq i h,hv]
 simp only [aq]
 rw [om (i+1) h,Nat.succ_mul,List.append_assoc]
end lists
section ops
variable {E:Env} {R:aj} {w:World} {β:Nat→Nat} {s:St} {a:Act} {o:Oper}
theorem mS {G:List GO} (h:dE E R w G) {id:Nat} {es:List AV} {sz:Nat} {el:TypeId} {ro:RO} (hid:nth G id=some (.a7 es sz el)) (bR:nth R.obj id=some ro) (hn:ro≠.bF) :
  ∃ b c cur vs,ro=.tok es.length b c∧dq sz es∧w.heap[b]?=some (.cells cur el (0,0))∧es.length≤c∧c≤maxLen∧cur.size=c * sz∧(∀ o,¬ R.I b o)∧aK R w (aq es) vs∧(∀ v∈vs,v.oneCell'=true)∧cur.toList.take (es.length * sz)=vs:=by
 have hr:=h.obj id _ _ hid bR
 cases ro with
 | none=>exact hr.elim
 | bF=>exact absurd rfl hn
 | b0 b=>exact hr.elim
 | aP _=>exact hr.elim
 | tok f b c=>
  obtain ⟨rfl,h1,cur,vs,h2,h3,h4,h5,h6,h7,h8,h9⟩:=hr
  exact ⟨b,c,cur,vs,rfl,h1,h2,h3,h4,h5,h6,h7,h8,h9⟩
theorem wH {id f i sz:Nat} {t:TypeId} {v:AV} (h:vZ E s id f i sz t=some (true,v)) :
  ∃ es el e,nth s.G id=some (.a7 es sz el)∧f=es.length∧nth es i=some e∧iF e v:=by
 unfold vZ at h
 split at h
 ·rename_i es bK el hid
  split at h
  ·rename_i p hp
   split at h
   ·rename_i ej
    have ej:=Nat.eq_of_beq_eq_true ej
    subst ej
    injection h with h
    injection h with h1 h2
    simp only [Bool.and_eq_true,decide_eq_true_eq] at h1
    obtain ⟨⟨h3,h4⟩,h5⟩:=h1
    obtain ⟨e,he⟩:∃ e,nth es i=some e:=⟨es[i],by rw [aY]; exact List.getElem?_eq_getElem h4⟩
    have hd:ab es i=e:=by simp [ab,he]
    rw [hd] at h5 h2
    rw [← h2]
    exact ⟨es,el,e,hid,h3,he,p.cG h5⟩
   ·cases h
  ·split at h
   ·rename_i ej
    have ej:=Nat.eq_of_beq_eq_true ej
    subst ej
    injection h with h
    injection h with h1 h2
    simp only [Bool.and_eq_true,decide_eq_true_eq] at h1
    obtain ⟨h3,h4⟩:=h1
    obtain ⟨e,he⟩:∃ e,nth es i=some e:=⟨es[i],by rw [aY]; exact List.getElem?_eq_getElem h4⟩
    have hd:ab es i=e:=by simp [ab,he]
    rw [hd] at h2
    rw [← h2]
    exact ⟨es,el,e,hid,h3,he,iF.refl e⟩
   ·cases h
 ·cases h
theorem GB {α:Type} {l:List α} {i:Nat} {x:α} (h:nth l i=some x):x∈l:=by
 rw [aY] at h
 exact List.mem_of_getElem? h
theorem EW {i n sz:Nat} (h:i < n):i * sz+sz≤n * sz:=by
 rw [← Nat.succ_mul]
 exact Nat.mul_le_mul_right _ h
theorem EX (h:bi E R w β s a) (t:TypeId) (x:Operand) (ho:o.op=.load t x) {v:AV} (hl:zG E s t (bS E s.ae x)=some (true,v)) :
  bU E R w β s a o (s.put o.dst (.v v)):=by
 have rx:=aR h x
 unfold zG at hl
 split at hl
 ·rename_i id f i off sz ty hx
  rw [hx] at rx
  split at hl
  ·rename_i ti c ve SU hg
   split at hl
   ·rename_i l hs
    split at hl
    ·rename_i r hm
     injection hl with hl
     injection hl with h1 h2
     subst h1; subst h2
     obtain ⟨es,el,e,hid,S0,he,A6⟩:=wH hg
     have dB:Rel R w (.gp id f i off sz ty) (a.eval x):=rx
     generalize fe:a.eval x=xv at dB
     cases dB with
     | @gp _ _ _ _ _ b o' _ ro bR dY=>
     obtain ⟨b',c',cur,vs,rfl,g1,g2,g3,g4,g5,g6,g7,g8,g9⟩:=mS h.g hid bR (fun k=>by subst k; exact dY)
     obtain ⟨rfl,rfl⟩:=dY.2 S0
     have hem:=g1 e (GB he)
     have dZ:aK R w e.cells ((vs.drop (i * sz)).take sz):=by
      rw [← qy g1 he]
      exact (g7.drop _).take _
     have hw:=(A6.cells hem.2).rel dZ
     obtain ⟨k1,k2,k3,k4⟩:=pj hs hw (fun y hy=>g8 y (List.mem_of_mem_drop (List.mem_of_mem_take hy)))
     obtain ⟨c,hc,hrr⟩:=oe (E:=E) SU (b:=b) (off:=i * sz+off) k1 k2 k3 (fun j y hy=>by
      have h1:=k4 j y hy
      rw [List.getElem?_take] at h1
      split at h1
      ·rw [List.getElem?_drop,← g9,List.getElem?_take] at h1
       split at h1
       ·rw [cell_of_row w b _ cur el (0,0) g2,Nat.add_assoc,← Array.getElem?_toList]
        exact h1
       ·cases h1
      ·cases h1) hm
     refine ao h (c:=c) ?_ hrr
     simp [execOp,ho,Instr.loadAt,fe,Instr.sureAddr,hc]
    ·cases hl
   ·cases hl
  ·cases hl
 ·split at hl
  ·rename_i v' hv
   injection hl with hl
   injection hl with h1 h2
   subst h2
   exact H5 h t x ho hv
  ·cases hl
theorem bi.EY (h:bi E R w β s a) {id f b c:Nat} {es es':List AV} {sz:Nat} {el:TypeId} {cur Cr:Array Value} {vs':List Value} (hid:nth s.G id=some (.a7 es sz el)) (bR:nth R.obj id=some (.tok f b c))
  (hb:w.heap[b]?=some (.cells cur el (0,0))) (hlen:es'.length=es.length) (qt:dq sz es') (ej:Cr.size=cur.size) (hr:aK R w (aq es') vs') (h1:∀ v∈vs',v.oneCell'=true) (ht:Cr.toList.take (f * sz)=vs') :
  bi E R (w.setRow b Cr) β (s.bY (ap s.G id (.a7 es' sz el))) a∧Step R w β s.boxes R (w.setRow b Cr) β s.boxes:=by
 obtain ⟨q0,q1,WT,vs0,p1,p2,p3,p4,p5,p6,p7,p8⟩:=h.g.obj id _ _ hid bR
 rw [hb] at p1
 cases p1
 have hex:=iJ (R:=R) (w:=w) p5 Cr
 have JY:∀ k cs,dS s.boxes k=some cs→β k≠b:=fun k cs hk e=>(h.b.box k cs hk).2.2 ⟨id,_,bR,by rw [e]; rfl⟩
 refine ⟨⟨⟨by simp [St.bY,h.g.len],fun jF go ro hg lr=>?_,h.g.inj,fun b' o' rk=>by have:=h.g.wf b' o' rk; simp; omega,fun g eV hg=>(h.g.cw g eV hg).mono hex,h.g.lo⟩,?_,h.t.mono hex,h.n,h.d⟩,?_⟩
 ·rcases cV hg with ⟨rfl,rfl,_⟩ | ⟨cL,ze⟩
  ·rw [bR] at lr
   cases lr
   exact ⟨by rw [hlen]; exact q0,qt,Cr,vs',setRow_heap w _ _ _ _ (0,0) hb,p2,p3,by rw [ej]; exact p4,p5,hr.mono hex,h1,ht⟩
  ·refine (h.g.obj jF go ro ze lr).mono hex (fun b' kT=>setRow_other w _ b' _ (fun e=>cL ?_)) (fun _ _ _ hi=>hi)
   subst e
   exact h.g.inj id jF _ _ b' bR lr rfl kT
 ·exact h.b.bQ hex (fun k eV gl=>setRow_other w _ _ _ (JY k eV gl)) (fun _ _ _ _ hi=>hi) (fun _ _ _ hl=>hl)
 ·have AX:Own R β s.boxes b:=.inl ⟨id,_,bR,rfl⟩
  exact ⟨hex,rfl,rfl,rfl,by simp,fun b' _ hn=>setRow_other w _ b' _ (fun e=>hn (e ▸ AX)),fun _ _ hb=>hb,fun b o hi _ _=>hi⟩
theorem bi.GC (h:bi E R w β s a) {id b c i off:Nat} {es:List AV} {sz:Nat} {el:TypeId} {cur:Array Value} {vs us:List Value} {e':AV} (hid:nth s.G id=some (.a7 es sz el)) (bR:nth R.obj id=some (.tok es.length b c))
  (hb:w.heap[b]?=some (.cells cur el (0,0))) (qt:dq sz es) (hle:es.length≤c) (qv:cur.size=c * sz) (hr:aK R w (aq es) vs) (h1:∀ v∈vs,v.oneCell'=true) (ht:cur.toList.take (es.length * sz)=vs) (hi:i < es.length)
  (h2:∀ v∈us,v.oneCell'=true) (A7:off+us.length≤sz) (uQ:e'.cells.length=sz) (NG:e'.aV=true) (WU:aK R w e'.cells (((vs.drop (i * sz)).take sz).take off++us++((vs.drop (i * sz)).take sz).drop (off+us.length))) :
  bi E R (w.setRow b ⟨cur.toList.take (i * sz+off)++us++cur.toList.drop (i * sz+off+us.length)⟩) β (s.bY (ap s.G id (.a7 (ap es i e') sz el))) a ∧
   Step R w β s.boxes R (w.setRow b ⟨cur.toList.take (i * sz+off)++us++cur.toList.drop (i * sz+off+us.length)⟩) β s.boxes:=by
 have tj:=EW (sz:=sz) hi
 have Nc:es.length * sz≤cur.toList.length:=by
  rw [show cur.toList.length=cur.size from Array.length_toList,qv]
  exact Nat.mul_le_mul_right _ hle
 have RU:vs.length=es.length * sz:=by rw [← hr.length,cS qt]
 refine h.EY hid bR hb (gT _ _ _) (EV qt uQ NG) ?_ (vs':=vs.take (i * sz)++(((vs.drop (i * sz)).take sz).take off++us++((vs.drop (i * sz)).take sz).drop (off+us.length))++vs.drop (i * sz+sz)) ?_ ?_ ?_
 ·rw [List.size_toArray,← Array.length_toList]
  simp only [List.length_append,List.length_take,List.length_drop]
  omega
 ·rw [Cs qt hi uQ,ey _ _ _ (by rw [uQ,cS qt]; exact tj),uQ]
  exact ((hr.take _).append WU).append (hr.drop _)
 ·intro v hv
  simp only [List.mem_append] at hv
  rcases hv with (hv | ((hv | hv) | hv)) | hv
  ·exact h1 v (List.mem_of_mem_take hv)
  ·exact h1 v (List.mem_of_mem_drop (List.mem_of_mem_take (List.mem_of_mem_take hv)))
  ·exact h2 v hv
  ·exact h1 v (List.mem_of_mem_drop (List.mem_of_mem_take (List.mem_of_mem_drop hv)))
  ·exact h1 v (List.mem_of_mem_drop hv)
 ·rw [List.toList_toArray,wG _ _ _ _ _ _ Nc tj A7,ht]
theorem bi.GD (h:bi E R w β s a) {id b c off:Nat} {es ns:List AV} {sz:Nat} {el:TypeId} {cur:Array Value} {vs us:List Value} (hid:nth s.G id=some (.a7 es sz el)) (bR:nth R.obj id=some (.tok es.length b c))
  (hb:w.heap[b]?=some (.cells cur el (0,0))) (qt:dq sz es) (hle:es.length≤c) (qv:cur.size=c * sz) (hr:aK R w (aq es) vs) (h1:∀ v∈vs,v.oneCell'=true) (ht:cur.toList.take (es.length * sz)=vs)
  (A7:off+ns.length≤es.length) (hns:dq sz ns) (hu:aK R w (aq ns) us) (h2:∀ v∈us,v.oneCell'=true) :
  bi E R (w.setRow b ⟨cur.toList.take (off * sz)++us++cur.toList.drop (off * sz+us.length)⟩) β (s.bY (ap s.G id (.a7 (bc es off ns) sz el))) a ∧
   Step R w β s.boxes R (w.setRow b ⟨cur.toList.take (off * sz)++us++cur.toList.drop (off * sz+us.length)⟩) β s.boxes:=by
 have S1:us.length=ns.length * sz:=by rw [← hu.length,cS hns]
 have tj:off * sz+ns.length * sz≤es.length * sz:=by rw [← Nat.add_mul]; exact Nat.mul_le_mul_right _ A7
 have Nc:es.length * sz≤cur.toList.length:=by
  rw [show cur.toList.length=cur.size from Array.length_toList,qv]
  exact Nat.mul_le_mul_right _ hle
 have RU:vs.length=es.length * sz:=by rw [← hr.length,cS qt]
 have hm:=wG cur.toList us (es.length * sz) (off * sz) (ns.length * sz) 0 Nc tj (by omega)
 simp only [Nat.add_zero,List.take_zero,List.nil_append,Nat.zero_add] at hm
 rw [S1,ht,show List.drop (ns.length * sz) (List.take (ns.length * sz) (List.drop (off * sz) vs))=[] from List.drop_of_length_le (by rw [List.length_take]; exact Nat.min_le_left _ _),List.append_nil] at hm
 rw [ey _ _ _ A7]
 refine h.EY hid bR hb (by simp; omega) (rM (rM (zU _ qt) hns) (Ia _ qt)) ?_ (vs':=vs.take (off * sz)++us++vs.drop (off * sz+ns.length * sz)) ?_ ?_ ?_
 ·rw [List.size_toArray,← Array.length_toList]
  simp only [List.length_append,List.length_take,List.length_drop,S1]
  omega
 ·rw [cE,cE,jq _ qt,om _ qt,Nat.add_mul]
  exact ((hr.take _).append hu).append (hr.drop _)
 ·intro v hv
  simp only [List.mem_append] at hv
  rcases hv with (hv | hv) | hv
  ·exact h1 v (List.mem_of_mem_take hv)
  ·exact h2 v hv
  ·exact h1 v (List.mem_of_mem_drop hv)
 ·rw [List.toList_toArray,S1]
  exact hm
theorem Ct (h:bi E R w β s a) (t:TypeId) (p x:Operand) (ho:o.op=.store t p x) (hd:o.dst=none) {s':St} (hs:li E s t (bS E s.ae p) (bS E s.ae x)=some (true,s')) :
  bU E R w β s a o s':=by
 have rp:=aR h p
 have rx:=aR h x
 unfold li at hs
 split at hs
 ·rename_i id f i off sz ty WC
  rw [WC] at rp
  have WE:Rel R w (.gp id f i off sz ty) (a.eval p):=rp
  generalize WG:a.eval p=pv at WE
  split at hs
  ·rename_i ti v es bK el SU hx hid
   rw [hx] at rx
   split at hs
   ·rename_i fu
    simp only [Bool.and_eq_true] at fu
    obtain ⟨⟨JH,hlen⟩,S2⟩:=fu
    have hlen:=Nat.eq_of_beq_eq_true hlen
    have S2:=Nat.eq_of_beq_eq_true S2
    subst S2
    have rxw:Rel R w v (a.eval x):=rx
    obtain ⟨c1,c2⟩:=Rel.cells rxw JH
    have B8:v.cells.length=(a.eval x).cells.toList.length:=c1.length
    cases WE with
    | @gp _ _ _ _ _ b o' _ ro bR dY=>
    obtain ⟨b',c',cur,vs,rfl,g1,g2,g3,g4,g5,g6,g7,g8,g9⟩:=mS h.g hid bR (fun k=>by subst k; exact dY)
    have RU:vs.length=es.length * sz:=by rw [← g7.length,cS g1]
    have Nc:es.length * sz≤cur.toList.length:=by
     rw [show cur.toList.length=cur.size from Array.length_toList,g5]
     exact Nat.mul_le_mul_right _ g3
    split at hs
    ·rename_i hw
     rw [Bool.and_eq_true] at hw
     have A7:=Nat.eq_of_beq_eq_true hw.1
     have V5:=Nat.eq_of_beq_eq_true hw.2
     subst A7
     injection hs with hs
     injection hs with h1 h2
     rw [Bool.and_eq_true,decide_eq_true_eq,decide_eq_true_eq] at h1
     subst h2
     obtain ⟨rfl,rfl⟩:=dY.2 h1.1
     have tj:=EW (sz:=sz) h1.2
     have bG:=jT (E:=E) (w:=w) SU (b:=b) (vs:=cur.toList) (off:=i * sz+0) (c:=a.eval x) g2 (by rw [← B8]; exact hlen) (by rw [← B8]; omega) c2
     obtain ⟨r1,r2⟩:=h.GC (us:=(a.eval x).cells.toList) (off:=0) (i:=i) (e':=v) hid bR g2 g1 g3 g5 g7 g8 g9 h1.2 c2 (by rw [← B8]; omega) (by omega) JH (by
      rw [List.take_zero,List.nil_append,Nat.zero_add,List.drop_of_length_le (by rw [List.length_take,← B8]; omega),List.append_nil]
      exact c1)
     simp only [Nat.add_zero] at WG bG r1 r2
     refine ⟨.skip,undef,_,R,β,?_,.inr ⟨rfl,rfl⟩,by rw [hd]; exact r1,r2⟩
     simp [execOp,ho,Instr.storeAt,WG,Instr.sureAddr,bG]
    ·split at hs
     ·rename_i cc cs hg
      split at hs
      ·rename_i hw
       simp only [Bool.and_eq_true] at hw
       obtain ⟨hle,S3⟩:=hw
       have hle:=Nat.le_of_ble_eq_true hle
       have S3:=Nat.eq_of_beq_eq_true S3
       injection hs with hs
       injection hs with h1 h2
       subst h1; subst h2
       obtain ⟨es0,el0,e,JZ,S0,he,A6⟩:=wH hg
       rw [hid] at JZ
       cases JZ
       obtain ⟨rfl,rfl⟩:=dY.2 S0
       have hi:i < es.length:=bI he
       have tj:=EW (sz:=sz) hi
       have hem:=g1 e (GB he)
       have dZ:aK R w e.cells ((vs.drop (i * sz)).take sz):=by
        rw [← qy g1 he]
        exact (g7.drop _).take _
       have hw:=(A6.cells hem.2).rel dZ
       have hw':aK R w cs ((vs.drop (i * sz)).take sz):=hw
       have bG:=jT (E:=E) (w:=w) SU (b:=b) (vs:=cur.toList) (off:=i * sz+off) (c:=a.eval x) g2 (by rw [← B8]; exact hlen) (by rw [← B8]; omega) c2
       have Ca:off+v.cells.length≤cs.length:=by omega
       obtain ⟨r1,r2⟩:=h.GC (us:=(a.eval x).cells.toList) (off:=off) (i:=i) (e':=.agg (bc cs off v.cells)) hid bR g2 g1 g3 g5 g7 g8 g9 hi c2 (by rw [← B8]; omega) (by show (bc cs off v.cells).length=sz; rw [zd _ _ _ Ca]; exact S3) rfl (by
        show aK R w (bc cs off v.cells) _
        rw [ey _ _ _ Ca,B8]
        exact ((hw'.take _).append c1).append (hw'.drop _))
       refine ⟨.skip,undef,_,R,β,?_,.inr ⟨rfl,rfl⟩,by rw [hd]; exact r1,r2⟩
       simp [execOp,ho,Instr.storeAt,WG,Instr.sureAddr,bG]
      ·cases hs
     ·cases hs
   ·cases hs
  ·cases hs
 ·split at hs
  ·rename_i EZ hv
   injection hs with hs
   injection hs with h1 h2
   subst h2
   exact EI h t p x ho hd hv
  ·cases hs
def aj.reset (R:aj) (id:Nat) (ro:RO):aj:=⟨R.I,ap R.obj id ro⟩
theorem wI {id g:Nat} {r0 ro:RO} (hid:nth R.obj id=some r0) (bR:∀ b,ro.has b→b=g) {b:Nat} (hl:Live (R.reset id ro) b):b=g∨Live R b:=by
 obtain ⟨i,r,h1,h2⟩:=hl
 rcases aG hid h1 with ⟨_,rfl⟩ | ⟨_,h1⟩
 ·exact .inl (bR b h2)
 ·exact .inr ⟨i,r,h1,h2⟩
theorem bi.S4 (h:bi E R w β s a) {cur:Array Value} {vs:List Value} {es es':List AV} {elem:TypeId} {sz cap id:Nat} {r0:RO} (hg:nth s.G id=some (.a7 es sz elem)) (hid:nth R.obj id=some r0) (hf:∀ b c,cm r0 (.tok es'.length b c))
  (hn:es'.length≤cap) (hm:cap≤maxLen) (hs:cur.size=cap * sz) (qt:dq sz es') (hr:aK R w (aq es') vs) (h1:∀ v∈vs,v.oneCell'=true) (ht:cur.toList.take (es'.length * sz)=vs) :
  bi E (R.reset id (.tok es'.length w.heap.size cap)) (w.drew.alloc (.cells cur elem)) β (s.bY (ap s.G id (.a7 es' sz elem))) a ∧
  Step R w β s.boxes (R.reset id (.tok es'.length w.heap.size cap)) (w.drew.alloc (.cells cur elem)) β s.boxes:=by
 have e:Ext R w (R.reset id (.tok es'.length w.heap.size cap)) (w.drew.alloc (.cells cur elem)):=
  ⟨fun _ _ h=>h,fun b o hi=>bT (heap_alloc_old w.drew _ b (h.g.wf b o hi)) o,fun i r hr=>by
   by_cases ei:id=i
   ·subst ei
    rw [hid] at hr
    cases hr
    exact ⟨_,aI hid,hf _ _⟩
   ·exact ⟨r,by rw [aj.reset,bJ ei]; exact hr,cm.refl r⟩,.old fun b hb=>heap_alloc_old w.drew _ b hb⟩
 have old:∀ b,b < w.heap.size→(w.drew.alloc (.cells cur elem)).heap[b]?=w.heap[b]?:=fun b hb=>heap_alloc_old w.drew _ b hb
 have new:(w.drew.alloc (.cells cur elem)).heap[w.heap.size]?=some (.cells cur elem (0,0)):=heap_alloc_new w.drew _
 have live:∀ b,b < w.heap.size→Live (R.reset id (.tok es'.length w.heap.size cap)) b→Live R b:=fun b hb hl=>by
  rcases wI (g:=w.heap.size) (ro:=.tok es'.length w.heap.size cap) hid (fun _ h=>h) hl with rfl | hl
  ·omega
  ·exact hl
 refine ⟨⟨⟨by simp [St.bY,aj.reset,h.g.len],fun i gg r mO h2=>?_,fun i j ri rj b mO h2 b1 b2=>?_,fun b o hi=>?_,fun g cs hg=>(h.g.cw g cs hg).mono e,Nat.le_succ_of_le h.g.lo⟩,?_,h.t.mono e,h.n,h.d.mono e⟩,?_⟩
 ·rcases aG hid h2 with ⟨rfl,rfl⟩ | ⟨cL,h2⟩
  ·simp only [St.bY] at mO
   rw [aI hg] at mO
   cases mO
   exact ⟨rfl,qt,cur,vs,new,hn,hm,hs,fun o hi=>by have:=h.g.wf _ _ hi; omega,hr.mono e,h1,ht⟩
  ·simp only [St.bY] at mO
   rw [bJ (Ne.symm cL)] at mO
   exact (h.g.obj i gg r mO h2).mono e (fun b hb=>old b (h.g.b6 ⟨i,r,h2,hb⟩)) (fun b o _ hi=>hi)
 ·rcases aG hid mO with ⟨g3,e1⟩ | ⟨g3,g1⟩
  ·rcases aG hid h2 with ⟨g4,e2⟩ | ⟨g4,g2⟩
   ·omega
   ·have:=h.g.b6 ⟨j,rj,g2,b2⟩
    rw [e1] at b1
    simp [RO.has] at b1
    omega
  ·rcases aG hid h2 with ⟨g4,e2⟩ | ⟨g4,g2⟩
   ·have:=h.g.b6 ⟨i,ri,g1,b1⟩
    rw [e2] at b2
    simp [RO.has] at b2
    omega
   ·exact h.g.inj i j ri rj b g1 g2 b1 b2
 ·have:=h.g.wf b o hi
  simp
  omega
 ·exact h.b.bQ e (fun k cs hk=>old _ (h.dQ (.inr ⟨k,cs,hk,rfl⟩))) (fun k cs o hk hi=>hi) (fun k cs hk hl=>live _ (h.dQ (.inr ⟨k,cs,hk,rfl⟩)) hl)
 ·refine ⟨e,rfl,rfl,rfl,by simp,fun b hb _=>old b hb,fun b hb ho=>?_,fun b o hi hb _=>hi⟩
  rcases ho with ho | ho
  ·exact .inl (live b hb ho)
  ·exact .inr ho
theorem bi.NH (h:bi E R w β s a) {cur cur2:Array Value} {vs:List Value} {es es':List AV} {elem:TypeId} {sz id g c:Nat} (hg:nth s.G id=some (.a7 es sz elem)) (hid:nth R.obj id=some (.tok es.length g c)) (bP:es.length < es'.length) (hn:es'.length≤c)
  (jI:w.heap[g]?=some (.cells cur elem (0,0))) (hs:cur2.size=cur.size) (qt:dq sz es') (hr:aK R w (aq es') vs) (h1:∀ v∈vs,v.oneCell'=true) (ht:cur2.toList.take (es'.length * sz)=vs) :
  bi E (R.reset id (.tok es'.length g c)) (w.setRow g cur2) β (s.bY (ap s.G id (.a7 es' sz elem))) a ∧
  Step R w β s.boxes (R.reset id (.tok es'.length g c)) (w.setRow g cur2) β s.boxes:=by
 obtain ⟨q0,q1,WT,vs0,p1,p2,p3,p4,p5,p6,p7,p8⟩:=h.g.obj id _ _ hg hid
 rw [jI] at p1
 cases p1
 have qw:Live R g:=⟨id,_,hid,rfl⟩
 have old:∀ b,b≠g→(w.setRow g cur2).heap[b]?=w.heap[b]?:=fun b hb=>setRow_other w g b cur2 hb
 have new:(w.setRow g cur2).heap[g]?=some (.cells cur2 elem (0,0)):=setRow_heap w g cur cur2 elem (0,0) jI
 have e:Ext R w (R.reset id (.tok es'.length g c)) (w.setRow g cur2):=by
  have e0:=iJ (R:=R) (w:=w) p5 cur2
  refine ⟨fun _ _ h=>h,e0.cell,fun i r hr=>?_,e0.lp⟩
  by_cases ei:id=i
  ·subst ei
   rw [hid] at hr
   cases hr
   exact ⟨_,aI hid,by omega,fun e=>by omega⟩
  ·exact ⟨r,by rw [aj.reset,bJ ei]; exact hr,cm.refl r⟩
 have live:∀ b,Live (R.reset id (.tok es'.length g c)) b→Live R b:=fun b hl=>by
  rcases wI (g:=g) (ro:=.tok es'.length g c) hid (fun _ h=>h) hl with rfl | hl
  ·exact qw
  ·exact hl
 have qx:∀ k cs,dS s.boxes k=some cs→β k≠g:=fun k cs hk eq=>(h.b.box k cs hk).2.2 (eq ▸ qw)
 refine ⟨⟨⟨by simp [St.bY,aj.reset,h.g.len],fun i gg r mO h2=>?_,fun i j ri rj b mO h2 b1 b2=>?_,fun b o hi=>?_,fun g cs hg=>(h.g.cw g cs hg).mono e,h.g.lo⟩,?_,h.t.mono e,h.n,h.d.mono e⟩,?_⟩
 ·rcases aG hid h2 with ⟨rfl,rfl⟩ | ⟨cL,h2⟩
  ·simp only [St.bY] at mO
   rw [aI hg] at mO
   cases mO
   exact ⟨rfl,qt,cur2,vs,new,hn,p3,by rw [hs]; exact p4,p5,hr.mono e,h1,ht⟩
  ·simp only [St.bY] at mO
   rw [bJ (Ne.symm cL)] at mO
   have SY:∀ b,r.has b→b≠g:=fun b hb eq=>cL (h.g.inj i id _ _ b h2 hid hb (by rw [eq]; rfl))
   exact (h.g.obj i gg r mO h2).mono e (fun b hb=>old b (SY b hb)) (fun b o hb hi=>hi)
 ·rcases aG hid mO with ⟨g3,e1⟩ | ⟨g3,g1⟩
  ·rcases aG hid h2 with ⟨g4,e2⟩ | ⟨g4,g2⟩
   ·omega
   ·rw [e1] at b1
    exact g3.trans (h.g.inj id j _ _ b hid g2 b1 b2)
  ·rcases aG hid h2 with ⟨g4,e2⟩ | ⟨g4,g2⟩
   ·rw [e2] at b2
    exact (h.g.inj i id _ _ b g1 hid b1 b2).trans g4.symm
   ·exact h.g.inj i j ri rj b g1 g2 b1 b2
 ·have:=h.g.wf b o hi
  simpa using this
 ·exact h.b.bQ e (fun k cs hk=>old _ (qx k cs hk)) (fun k cs o hk hi=>hi) (fun k cs hk hl=>live _ hl)
 ·refine ⟨e,rfl,rfl,rfl,by simp,fun b hb vv=>old b (fun eq=>vv (.inl (eq ▸ qw))),fun b hb ho=>?_,fun b o hi hb vv=>hi⟩
  rcases ho with ho | ho
  ·exact .inl (live b ho)
  ·exact .inr ho
theorem bi.J0 (h:bi E R w β s a) {cur:Array Value} {vs:List Value} {es:List AV} {elem:TypeId} {sz cap:Nat} (hn:es.length≤cap) (hm:cap≤maxLen) (hs:cur.size=cap * sz) (qt:dq sz es) (hr:aK R w (aq es) vs) (h1:∀ v∈vs,v.oneCell'=true) (ht:cur.toList.take (es.length * sz)=vs) :
  bi E (R.add (.tok es.length w.heap.size cap)) (w.alloc (.cells cur elem)) β (s.dP (.a7 es sz elem)) a:=
 h.mQ (.cells cur elem) (.a7 es sz elem) (.tok es.length w.heap.size cap) (by exact fun _ h=>h)
  ⟨rfl,qt,cur,vs,heap_alloc_new w _,hn,hm,hs,fun o hi=>by have:=h.g.wf _ _ hi; omega,hr.mono (ij h.g.wf _ _),h1,ht⟩
theorem uU (h:bi E R w β s a) (t:TypeId) (x y:Operand) (ho:o.op=.makeSlice t x y) {i:TI} (hi:E.ti t=some i) {k k':IntKind} {n m:Int} (hx:bS E s.ae x=.v (.int k n)) (hy:bS E s.ae y=.v (.int k' m))
  {elem esz sY:Nat} {ag:Bool} {z:AV} (hk:i.k=.sl elem esz ag sY (some z)) (hz:z.cells.length=esz) (NA:1≤esz) (rm:z.aV=true) (rK:z.closed=true) (hc:0≤n∧n≤m∧m≤140737488355328∧m * sY≤140737488355328) :
  bU E R w β s a o ((s.dP (.a7 (List.replicate n.toNat z) esz elem)).put o.dst (.v (.cR s.G.length n.toNat 0 esz n.toNat))):=by
 obtain ⟨us,z1,z2,bG⟩:=pX h t x y ho hi hx hy hk hz NA rm hc
 have V6:n.toNat≤m.toNat:=by omega
 have qt:=(fD (n:=m.toNat) hz rm rK).g
 have S1:us.length=m.toNat * esz:=by rw [← z1.length,cS qt,List.length_replicate]
 have Nc:(List.replicate n.toNat z).length=n.toNat:=List.length_replicate
 have Ib:(List.replicate m.toNat z).take n.toNat=List.replicate n.toNat z:=by rw [List.take_replicate,Nat.min_eq_left V6]
 have hr:aK R w (aq (List.replicate n.toNat z)) (us.take (n.toNat * esz)):=by
  rw [← Ib,jq _ qt]
  exact z1.take _
 have r1:=h.J0 (cur:=⟨us⟩) (vs:=us.take (n.toNat * esz)) (es:=List.replicate n.toNat z) (elem:=elem) (cap:=m.toNat) (by rw [Nc]; exact V6) (by unfold maxLen; omega) (by simpa using S1) (fD hz rm rK).g hr (fun v hv=>z2 v (List.mem_of_mem_take hv)) (by rw [Nc])
 rw [Nc] at r1
 have e:=ij (R:=R) (w:=w) h.g.wf (.cells ⟨us⟩ elem) (.tok n.toNat w.heap.size m.toNat)
 exact ⟨_,.slice (some ⟨w.heap.size,0,none⟩) n.toNat m.toNat,_,R.add (.tok n.toNat w.heap.size m.toNat),β,bG,.inl rfl,r1.put o.dst (x:=.v (.cR s.G.length n.toNat 0 esz n.toNat)) (Rel.cR (ik h _) ⟨Nat.le_refl _,fun _=>⟨rfl,Nat.zero_add _,.inl (Nat.zero_mul _).symm⟩⟩ V6),by rw [aZ]; exact dA h _ _ (by exact fun _ h=>h)⟩
theorem tk (h:bi E R w β s a) (t:TypeId) (len:Nat) (parts:Array (Nat × Operand)) (ho:o.op=.buildSlice t len parts) {k:LK} {esz:Nat} {es:List AV} (hv:bV E s t len parts.toList=some (.list k esz es)) {i:TI} (hi:E.ti t=some i) {elem bK sY:Nat} {ag:Bool} {z:Option AV} (hk:i.k=.sl elem bK ag sY z) (hm:len≤65536) :
  bU E R w β s a o ((s.dP (.a7 es esz elem)).put o.dst (.v (.cR s.G.length len 0 esz len))):=by
 obtain ⟨es',WM,us,WR,WN,bG,g2,hlen,u2,u3,i',ag',Zy,z',rk,gl⟩:=il h t len parts ho hv
 cases WN
 rw [hi] at rk
 cases rk
 rw [hk] at gl
 cases gl
 have WS:us.length=len * esz:=by rw [← u2.length,dC g2,hlen]
 have r1:=h.J0 (cur:=⟨us⟩) (vs:=us) (es:=es) (elem:=elem) (cap:=len) (by rw [hlen]; exact Nat.le_refl _) (by simp [maxLen]; omega) (by simpa using WS) g2.g u2 u3 (by rw [hlen,← WS]; exact List.take_length)
 rw [hlen] at r1
 exact ⟨_,.slice (some ⟨w.heap.size,0,none⟩) len len,_,R.add (.tok len w.heap.size len),β,bG,.inl rfl,r1.put o.dst (x:=.v (.cR s.G.length len 0 esz len)) (Rel.cR (ik h _) ⟨Nat.le_refl _,fun _=>⟨rfl,Nat.zero_add _,.inl (Nat.zero_mul _).symm⟩⟩ (Nat.le_refl _)),by rw [aZ]; exact dA h _ _ (by exact fun _ h=>h)⟩
end ops
end Go.Am
namespace Go.Am
open Go
section fams
variable {E:Env} {R R':aj} {w w':World} {β β':Nat→Nat} {s s':St} {a a':Act} {o:Oper}
theorem tn {α:Type} {l r:List α} {i:Nat} {x:α} (h:nth r i=some x):nth (l++r) (l.length+i)=some x:=by
 rw [aY] at *
 rw [List.getElem?_append_right (Nat.le_add_right _ _),Nat.add_sub_cancel_left]
 exact h
theorem uV {α:Type} {l r:List α} {i:Nat} {x:α} (h:nth l i=some x):nth (l++r) i=some x:=by
 have:=bI h
 rw [aY] at *
 rw [List.getElem?_append_left this]
 exact h
theorem dF {α:Type} {l r:List α} {i:Nat} {x:α} (h:nth (l++r) i=some x):nth l i=some x∨∃ j,i=l.length+j∧nth r j=some x:=by
 rw [aY] at h
 rcases Nat.lt_or_ge i l.length with bP | we
 ·rw [List.getElem?_append_left bP] at h
  exact .inl (by rw [aY]; exact h)
 ·rw [List.getElem?_append_right we] at h
  exact .inr ⟨i - l.length,by omega,by rw [aY]; exact h⟩
theorem bi.E0 (h:bi E R w β s a) {id sz:Nat} {e:TypeId} {fs:List Nat} (hid:nth s.G id=some (.aP fs sz e)) {nfs:List Nat} {nts:List TR} (hl:nts.length=nfs.length)
  (dY:∀ j f t,nth nfs j=some f→nth nts j=some t→zJ R w sz e f t) (vv:∀ j f b c,nth nts j≠some (.tok f b c)) {ro:RO} (bR:nth R.obj id=some ro) :
  ∃ ts,ro=.aP ts∧ts.length=fs.length∧bi E (R.reset id (.aP (ts++nts))) w β (s.bY (ap s.G id (.aP (fs++nfs) sz e))) a∧Step R w β s.boxes (R.reset id (.aP (ts++nts))) w β s.boxes:=by
 have da:=h.g.obj id _ _ hid bR
 cases ro with
 | none=>exact da.elim
 | bF=>exact da.elim
 | b0 _=>exact da.elim
 | tok _ _ _=>exact da.elim
 | aP ts=>
 obtain ⟨q1,q2,q3⟩:=da
 have wE:∀ b,RO.has (.aP (ts++nts)) b→RO.has (.aP ts) b:=fun b ⟨j,f,c,hj⟩=>by
  rcases dF hj with hj | ⟨i,_,hi⟩
  ·exact ⟨j,f,c,hj⟩
  ·exact absurd hi (vv i f b c)
 have ext:Ext R w (R.reset id (.aP (ts++nts))) w:=⟨fun _ _ h=>h,fun _ _ _=>rfl,fun i r hr=>by
  by_cases e:id=i
  ·subst e
   rw [bR] at hr
   cases hr
   exact ⟨_,aI bR,fun j t hj=>⟨t,uV hj,ln.refl t⟩⟩
  ·exact ⟨r,by rw [aj.reset,bJ e]; exact hr,cm.refl r⟩,gk.refl w⟩
 have live:∀ b,Live (R.reset id (.aP (ts++nts))) b→Live R b:=fun b ⟨i,r,h1,h2⟩=>by
  rcases aG bR h1 with ⟨_,rfl⟩ | ⟨_,h1⟩
  ·exact ⟨id,_,bR,wE b h2⟩
  ·exact ⟨i,r,h1,h2⟩
 refine ⟨ts,rfl,q1,⟨⟨by simp [St.bY,aj.reset,h.g.len],fun i g r h1 h2=>?_,fun i j ri rj b h1 h2 b1 b2=>?_,h.g.wf,fun g cs hg=>(h.g.cw g cs hg).mono ext,h.g.lo⟩,h.b.bQ ext (fun _ _ _=>rfl) (fun _ _ _ _ h=>h) (fun _ _ _ hl=>live _ hl),h.t.mono ext,h.n,h.d.mono ext⟩,?_⟩
 ·rcases aG bR h2 with ⟨rfl,rfl⟩ | ⟨cL,h2⟩
  ·simp only [St.bY] at h1
   rw [aI hid] at h1
   cases h1
   refine ⟨by simp [q1,hl],fun i j f b c f' c' hi hj=>?_,fun j f t hf ht=>?_⟩
   ·rcases dF hi with hi | ⟨_,_,hi⟩
    ·rcases dF hj with hj | ⟨_,_,hj⟩
     ·exact q2 i j _ _ _ _ _ hi hj
     ·exact absurd hj (vv _ _ _ _)
    ·exact absurd hi (vv _ _ _ _)
   ·rcases dF hf with Nd | ⟨k,hk,Nd⟩
    ·rcases dF ht with ht | ⟨k',gl,ht⟩
     ·exact q3 j f t Nd ht
     ·have:=bI Nd
      omega
    ·rcases dF ht with ht | ⟨k',gl,ht⟩
     ·have:=bI ht
      omega
     ·have JJ:k=k':=by omega
      subst JJ
      exact dY k f t Nd ht
  ·simp only [St.bY] at h1
   rw [bJ (Ne.symm cL)] at h1
   exact (h.g.obj i g r h1 h2).mono ext (fun _ _=>rfl) (fun _ _ _ h=>h)
 ·rcases aG bR h1 with ⟨g3,e1⟩ | ⟨g3,g1⟩
  ·rcases aG bR h2 with ⟨g4,e2⟩ | ⟨g4,g2⟩
   ·omega
   ·rw [e1] at b1
    exact g3.trans (h.g.inj id j _ _ b bR g2 (wE b b1) b2)
  ·rcases aG bR h2 with ⟨g4,e2⟩ | ⟨g4,g2⟩
   ·rw [e2] at b2
    exact (h.g.inj i id _ _ b g1 bR b1 (wE b b2)).trans g4.symm
   ·exact h.g.inj i j ri rj b g1 g2 b1 b2
 ·refine ⟨ext,rfl,rfl,rfl,Nat.le_refl _,fun _ _ _=>rfl,fun b _ ho=>?_,fun _ _ h _ _=>h⟩
  rcases ho with ho | ho
  ·exact .inl (live b ho)
  ·exact .inr ho
theorem bU.step {s1:St} {s2:St} (e:s1.boxes=s.boxes) (st:Step R w β s.boxes R' w β s.boxes) (h:bU E R' w β s1 a o s2):bU E R w β s a o s2:=by
 obtain ⟨nx,x,w',R2,β',h1,h2,h3,h4⟩:=h
 rw [e] at h4
 exact ⟨nx,x,w',R2,β',h1,h2,h3,st.trans h4⟩
theorem WV {c:Bool} {α:Type} {a b:α} (h:(bif c then some a else none)=some b):c=true∧a=b:=by
 cases c
 ·cases h
 ·exact ⟨rfl,Option.some.inj h⟩
theorem mU {sz:Nat} {e:TypeId}:∀ {G:List GO} {i j:Nat},jf G sz e i=some j→∃ fs,nth G (j - i)=some (.aP fs sz e)∧i≤j
 | [],i,j,h=>by cases h
 | g :: G,i,j,h=>by
  have step:jf G sz e (i+1)=some j→∃ fs,nth (g :: G) (j - i)=some (.aP fs sz e)∧i≤j:=fun h=>by
   obtain ⟨fs,h1,h2⟩:=mU h
   refine ⟨fs,?_,by omega⟩
   rw [show j - i=(j - (i+1))+1 by omega]
   exact h1
  unfold jf at h
  split at h
  ·rename_i jP
   cases jP
  ·rename_i jP
   obtain ⟨rfl,rfl⟩:=List.cons.inj jP
   split at h
   ·rename_i j' hj
    cases h
    exact step hj
   ·obtain ⟨hc,rfl⟩:=WV h
    ·rw [Bool.and_eq_true] at hc
     have h1:=Nat.eq_of_beq_eq_true hc.1
     have h2:=Nat.eq_of_beq_eq_true hc.2
     subst h1 h2
     exact ⟨_,by rw [Nat.sub_self]; rfl,Nat.le_refl _⟩
  ·rename_i x G1 _ _ _ hn jP
   obtain ⟨rfl,rfl⟩:=List.cons.inj jP
   exact step h
theorem bi.GF {s0:St} {d:Option Tmp} {x y:AV} (h:bi E R w β (s0.put d (.v x)) a) (hw:∀ c,Rel R w x c→Rel R w y c):bi E R w β (s0.put d (.v y)) a:=by
 cases d with
 | none=>exact h
 | some d=>
  simp only [St.put] at h ⊢
  cases hb:Nat.blt d s0.n with
  | false=>rw [hb] at h; exact h
  | true=>
   rw [hb] at h
   refine ⟨h.g,h.b,fun i hi=>?_,h.n,h.d⟩
   by_cases e:d=i
   ·subst e
    rw [ba]
    obtain ⟨c,k1,k2⟩:=h.t d (by rw [ba]; simp)
    rw [ba] at k2
    exact ⟨c,k1,hw c k2⟩
   ·rw [bA e] at hi ⊢
    have:=h.t i (by rw [bA e]; exact hi)
    rw [bA e] at this
    exact this
theorem bU.GF {s0:St} {x y:AV} (h:bU E R w β s a o (s0.put o.dst (.v x))) (hw:∀ R' w',Ext R w R' w'→∀ c,Rel R' w' x c→Rel R' w' y c):bU E R w β s a o (s0.put o.dst (.v y)):=by
 obtain ⟨nx,v,w',R',β',h1,h2,h3,h4⟩:=h
 refine ⟨nx,v,w',R',β',h1,h2,h3.GF (hw R' w' h4.ext),?_⟩
 rw [aZ] at h4 ⊢
 exact h4
end fams
section ops
variable {E:Env} {R:aj} {w:World} {β:Nat→Nat} {s:St} {a:Act} {o:Oper}
theorem fE {k:LK} {sz esz:Nat} {es:List AV} {c:Value} (h:Rel R w (.list k sz es) c) (ej:es=[]∨sz=esz) :
  jl esz es∧∃ vs,aK R w (aq es) vs∧(∀ v∈vs,v.oneCell'=true)∧vs.length=es.length * esz ∧
   ((es=[]∧vs=[]∧∃ ad,c=.slice ad 0 0∧(ad=none∨k=.gr))∨∃ b o' cap,c=.slice (some ⟨b,o',none⟩) es.length cap∧es.length≤cap∧AU R k b o' es.length cap∧(∀ j v,vs[j]?=some v→w.cell? ((⟨b,o',none⟩:Addr).add j)=some v)∧fS R w b o' esz es):=by
 cases h with
 | ke=>exact ⟨fun e he=>by simp at he,[],.nil,by simp,by simp,.inl ⟨rfl,rfl,_,rfl,.inl rfl⟩⟩
 | iA=>exact ⟨fun e he=>by simp at he,[],.nil,by simp,by simp,.inl ⟨rfl,rfl,_,rfl,.inl rfl⟩⟩
 | lS=>exact ⟨fun e he=>by simp at he,[],.nil,by simp,by simp,.inl ⟨rfl,rfl,_,rfl,.inr rfl⟩⟩
 | mL=>exact ⟨fun e he=>by simp at he,[],.nil,by simp,by simp,.inl ⟨rfl,rfl,_,rfl,.inl rfl⟩⟩
 | lm=>exact ⟨fun e he=>by simp at he,[],.nil,by simp,by simp,.inl ⟨rfl,rfl,_,rfl,.inl rfl⟩⟩
 | @list _ _ _ b o' len cap hr hlen iB JJ=>
  subst hlen
  have lr:fS R w b o' esz es:=by
   rcases ej with rfl | rfl
   ·exact .nil
   ·exact hr
  obtain ⟨g0,vs,g1,g2,g3,g4⟩:=wA lr
  refine ⟨g0,vs,g1,g2,by rw [← g1.length,dC g0],.inr ⟨b,o',cap,rfl,iB,JJ,fun j v hv=>?_,lr⟩⟩
  rw [cz]
  exact g3 j v hv
theorem rN {b esz:Nat} {es:List AV} {vs:List Value} {w:World} {R:aj} (h0:jl esz es) (h:aK R w (aq es) vs) (h1:∀ v∈vs,v.oneCell'=true)
  (hc:∀ j v,vs[j]?=some v→w.cell? ⟨b,j,none⟩=some v) (hI:∀ j,j < vs.length→R.I b j):fS R w b 0 esz es:=
 lX h0 (dU.make h h1 (fun j v hv=>by rw [Nat.zero_add]; exact hc j v hv) (fun j hj=>by rw [Nat.zero_add]; exact hI j (by rw [← h.length]; exact hj)))
theorem kV {sz:Nat} {l r:List AV} (h:jl sz l) (k:jl sz r):jl sz (l++r):=fun e he=>by
 rcases List.mem_append.1 he with he | he
 ·exact h e he
 ·exact k e he
theorem iL {l r:List Value} (h:∀ v∈l,v.oneCell'=true) (k:∀ v∈r,v.oneCell'=true):∀ v∈l++r,v.oneCell'=true:=fun v hv=>by
 rcases List.mem_append.1 hv with hv | hv
 ·exact h v hv
 ·exact k v hv
structure ZB (P:Program) (w:World) (t u ty e:TypeId) (i:TypeInfo) (z:Value) (cy:Value) (n:Nat) (us:List Value):Prop where
 zero:n=0→∀ base len cap,len≤cap→(Builtin.append_ #[t,u] ty #[.slice base len cap,cy]).run P w=.ok (.slice base len cap) w
 nil:0 < n→(n:Int)≤9223372036854775807→n * i.bytes≤281474976710656→(Builtin.append_ #[t,u] ty #[.slice none 0 0,cy]).run P w =
   .ok (.slice (some ⟨w.heap.size,0,none⟩) n (grownCap w n 0 e)) (w.drew.alloc (.cells (us.toArray++Builtin.zeroCells z.cells (grownCap w n 0 e - n)) e))
 grow:0 < n→∀ (b:Addr) (sLen lu:Nat) (A8:List Value),A8.length=sLen * i.size→(∀ j v,A8[j]?=some v→w.cell? (b.add j)=some v)→lu < sLen+n→((sLen+n:Nat):Int)≤9223372036854775807→Builtin.nextslicecap (sLen+n) lu * i.bytes≤281474976710656 →
   (Builtin.append_ #[t,u] ty #[.slice (some b) sLen lu,cy]).run P w=.ok (.slice (some ⟨w.heap.size,0,none⟩) (sLen+n) (grownCap w (sLen+n) lu e))
    (w.drew.alloc (.cells (A8.toArray++us.toArray++Builtin.zeroCells z.cells (grownCap w (sLen+n) lu e - (sLen+n))) e))
 room:0 < n→∀ (g sLen lu:Nat) (cur:Array Value),w.heap[g]?=some (.cells cur e (0,0))→sLen+n≤lu→sLen * i.size+us.length≤cur.size →
   (Builtin.append_ #[t,u] ty #[.slice (some ⟨g,0,none⟩) sLen lu,cy]).run P w=.ok (.slice (some ⟨g,0,none⟩) (sLen+n) lu) (w.setRow g (cur.toList.take (sLen * i.size)++us++cur.toList.drop (sLen * i.size+us.length)).toArray)
theorem nI (h:bi E R w β s a) {t u:TypeId} {id f off sz len:Nat} {y:AV} {ys:List AV} {cx cy:Value} {us:List Value}
  (gm:∀ {c:Value} {w':World},(Builtin.append_ #[t,u] o.type #[cx,cy]).run E.P w=.ok c w'→(execOp a.eval o).run E.P w=.ok (.value c) w')
  {elem esz eb:Nat} {z:AV} (GG:1≤eb) (hz:z.cells.length=esz) (rm:z.aV=true)
  {ie:TypeInfo} (f2:ie.size=esz) (f3:ie.bytes=eb) (f6:fP ie=some z)
  (h0:Rel R w (.cR id f off sz len) cx) (hA:∀ zc:Value,ie.zero=some zc→ZB E.P w t u o.type elem ie zc cy (y :: ys).length us)
  (y0:dq esz (y :: ys)) (y1:aK R w (aq (y :: ys)) us) (y2:∀ v∈us,v.oneCell'=true) (y3:us.length=(y :: ys).length * esz)
  {es:List AV} (hid:nth s.G id=some (.a7 es esz elem)) (hf:f=es.length) (ho0:off=0) (vu:len=f) (hb:(es.length+(y :: ys).length) * eb≤140737488355328) :
  bU E R w β s a o ((s.bY (ap s.G id (.a7 (es++(y :: ys)) esz elem))).put o.dst (.v (.cR id (es.length+(y :: ys).length) 0 esz (es.length+(y :: ys).length)))):=by
 obtain ⟨zc,rK,Gx⟩:=dy f6
 have hA:=hA zc rK
 obtain ⟨d1,d2⟩:=Rel.cells (Gx R w) rm
 have qv:zc.cells.size=esz:=by rw [← hz,d1.length]; simp
 have pQ:0 < (y :: ys).length:=by simp
 have hm:es.length+(y :: ys).length≤140737488355328:=Nat.le_trans (Nat.le_mul_of_pos_right _ GG) hb
 have Cu:(es++(y :: ys)).length=es.length+(y :: ys).length:=List.length_append
 -- where a new block has been made
 have fresh:∀ {xs:List Value} {old:Nat} {r0:RO},nth R.obj id=some r0→(∀ b c,cm r0 (.tok (es.length+(y :: ys).length) b c))→dq esz es→aK R w (aq es) xs→(∀ v∈xs,v.oneCell'=true)→xs.length=es.length * esz →
   (Builtin.append_ #[t,u] o.type #[cx,cy]).run E.P w=.ok (.slice (some ⟨w.heap.size,0,none⟩) (es.length+(y :: ys).length) (grownCap w (es.length+(y :: ys).length) old elem)) (w.drew.alloc (.cells (xs.toArray++us.toArray++Builtin.zeroCells zc.cells (grownCap w (es.length+(y :: ys).length) old elem - (es.length+(y :: ys).length))) elem)) →
   bU E R w β s a o ((s.bY (ap s.G id (.a7 (es++(y :: ys)) esz elem))).put o.dst (.v (.cR id (es.length+(y :: ys).length) 0 esz (es.length+(y :: ys).length)))):=by
  intro xs old r0 bR hle Jm WW uR wJ bG
  have we:=grownCap_ge w (es.length+(y :: ys).length) old elem
  obtain ⟨r1,r2⟩:=h.S4 (cur:=xs.toArray++us.toArray++Builtin.zeroCells zc.cells (grownCap w (es.length+(y :: ys).length) old elem - (es.length+(y :: ys).length))) (vs:=xs++us) (es':=es++(y :: ys)) hid bR (by rw [Cu]; exact hle) (by rw [Cu]; exact we) (grownCap_le_maxLen w _ old elem (by unfold maxLen; omega)) (by
   simp only [Array.size_append,List.size_toArray,size_zeroCells,qv,wJ,y3,← Nat.add_mul]
   congr 1
   omega) (rM Jm y0) (by rw [cE]; exact WW.append y1) (iL uR y2) (by
   rw [Cu]
   simp only [Array.toList_append]
   exact List.take_left' (by rw [List.length_append,wJ,y3,Nat.add_mul]))
  rw [Cu] at r1 r2
  refine ⟨_,_,_,_,β,gm bG,.inl rfl,r1.put o.dst ?_,by rw [aZ]; exact r2⟩
  exact Rel.cR (aI bR) ⟨Nat.le_refl _,fun _=>⟨rfl,Nat.zero_add _,.inl (Nat.zero_mul _).symm⟩⟩ we
 cases h0 with
 | @jm _ _ ro bR hon=>
  have da:=h.g.obj id _ _ hid bR
  have he0:es=[]:=List.eq_nil_of_length_eq_zero hf.symm
  subst he0
  cases ro with
  | none=>exact da.elim
  | b0 _=>exact da.elim
  | aP _=>exact da.elim
  | tok f' g c=>
   obtain ⟨rfl,_⟩:=da
   simp [mK] at hon
  | bF=>
   simp only [List.length_nil] at hb
   have bG:=hA.nil pQ (by omega) (by rw [f3]; rw [Nat.zero_add] at hb; omega)
   exact fresh (xs:=[]) (old:=0) bR (fun b c=>by simp only [cm]; omega) (fun e he=>by simp at he) .nil (by simp) (by simp) (by simpa using bG)
 | @cR _ _ _ _ _ cap b o' ro bR dY iB=>
  subst hf; subst ho0; subst vu
  obtain ⟨b',c',cur,vs,rfl,g1,g2,g3,g4,g5,g6,g7,g8,g9⟩:=mS h.g hid bR (fun k=>by subst k; exact dY)
  obtain ⟨rfl,Em,wK⟩:=dY.2 rfl
  rw [Nat.zero_add] at Em
  subst Em
  have RU:vs.length=es.length * esz:=by rw [← g7.length,cS g1]
  have jr:∀ j v,vs[j]?=some v→cur[j]?=some v:=fun j v hj=>by
   rw [← g9,List.getElem?_take] at hj
   split at hj
   ·rw [← Array.getElem?_toList]; exact hj
   ·cases hj
  by_cases gu:es.length+(y :: ys).length≤cap
  ·have pY:o'=0:=by
    rcases wK with wK | wK
    ·rw [wK,Nat.zero_mul]
    ·rw [List.length_cons] at gu; omega
   subst pY
   have hle:(es.length+(y :: ys).length) * esz≤cap * esz:=Nat.mul_le_mul_right _ gu
   have bG:=hA.room pQ b es.length cap cur g2 gu (by rw [f2,y3,← Nat.add_mul,g5]; exact hle)
   rw [f2] at bG
   have jh:cur.toList.length=cap * esz:=by rw [show cur.toList.length=cur.size from Array.length_toList,g5]
   obtain ⟨r1,r2⟩:=h.NH (cur2:=(cur.toList.take (es.length * esz)++us++cur.toList.drop (es.length * esz+us.length)).toArray) (vs:=vs++us) (es':=es++(y :: ys)) hid bR (by rw [Cu]; omega) (by rw [Cu]; exact gu) g2 (by
    rw [List.size_toArray,← Array.length_toList]
    simp only [List.length_append,List.length_take,List.length_drop,y3,jh]
    rw [Nat.add_mul] at hle
    omega) (rM g1 y0) (by rw [cE]; exact g7.append y1) (iL g8 y2) (by
    rw [Cu,List.toList_toArray,g9]
    exact List.take_left' (by rw [List.length_append,RU,y3,Nat.add_mul]))
   rw [Cu] at r1 r2
   refine ⟨_,_,_,_,β,gm bG,.inl rfl,r1.put o.dst ?_,by rw [aZ]; exact r2⟩
   exact Rel.cR (aI bR) ⟨Nat.le_refl _,fun _=>⟨rfl,Nat.zero_add _,.inl (Nat.zero_mul _).symm⟩⟩ gu
  ·have bG:=hA.grow pQ ⟨b,o',none⟩ es.length cap vs (by rw [RU,f2]) (fun j v hj=>by
    rw [cz]
    have Nb:=(List.getElem?_eq_some_iff.1 hj).1
    have pY:o'=0:=by
     rcases wK with wK | wK
     ·rw [wK,Nat.zero_mul]
     ·have:es.length=0:=by omega
      rw [RU,this] at Nb
      omega
    subst pY
    rw [Nat.zero_add,cell_of_row w b j cur elem (0,0) g2]
    exact jr j v hj) (by omega) (by omega) (growslice_fits (by omega) (by rw [f3]; exact hb))
   exact fresh (xs:=vs) (old:=cap) bR (fun b c=>⟨by omega,fun e=>by omega⟩) g1 g7 g8 RU bG
theorem lY (h:bi E R w β s a) {t u:TypeId} {id j:Nat} {es:List AV} {y:AV} {ys:List AV} {cx cy:Value} {us:List Value}
  (gm:∀ {c:Value} {w':World},(Builtin.append_ #[t,u] o.type #[cx,cy]).run E.P w=.ok c w'→(execOp a.eval o).run E.P w=.ok (.value c) w')
  {elem esz eb:Nat} {z:AV} (GG:1≤eb) (hz:z.cells.length=esz) (rm:z.aV=true)
  {ie:TypeInfo} (f2:ie.size=esz) (f3:ie.bytes=eb) (f6:fP ie=some z)
  (h0:Rel R w (.list (.aP id j) esz es) cx) (hA:∀ zc:Value,ie.zero=some zc→ZB E.P w t u o.type elem ie zc cy (y :: ys).length us)
  (y0:jl esz (y :: ys)) (y1:aK R w (aq (y :: ys)) us) (y2:∀ v∈us,v.oneCell'=true) (y3:us.length=(y :: ys).length * esz)
  {fs:List Nat} (hY:nth s.G id=some (.aP fs esz elem)) (ub:nth fs j=some es.length) (hb:(es.length+(y :: ys).length) * eb≤140737488355328) :
  bU E R w β s a o ((s.bY (ap s.G id (.aP (ap fs j (es.length+(y :: ys).length)) esz elem))).put o.dst (.v (.list (.aP id j) esz (es++(y :: ys))))):=by
 obtain ⟨zc,rK,Gx⟩:=dy f6
 have hA:=hA zc rK
 obtain ⟨d1,d2⟩:=Rel.cells (Gx R w) rm
 have qv:zc.cells.size=esz:=by rw [← hz,d1.length]; simp
 have pQ:0 < (y :: ys).length:=by simp
 have hm:es.length+(y :: ys).length≤140737488355328:=Nat.le_trans (Nat.le_mul_of_pos_right _ GG) hb
 obtain ⟨x0,xs,x1,x2,x3,x4⟩:=fE (esz:=esz) h0 (.inr rfl)
 obtain ⟨ro,bR⟩:∃ ro,nth R.obj id=some ro:=by
  cases h0 with
  | lm q _=>exact ⟨_,q⟩
  | list _ _ _ hk=>obtain ⟨ro,q,_⟩:=hk; exact ⟨ro,q⟩
 have da:=h.g.obj id _ _ hY bR
 cases ro with
 | none=>exact da.elim
 | bF=>exact da.elim
 | b0 _=>exact da.elim
 | tok _ _ _=>exact da.elim
 | aP ts=>
 have da:wg R w esz elem fs ts:=da
 have hjl:j < ts.length:=by rw [da.1]; exact bI ub
 obtain ⟨tr,ht⟩:∃ tr,nth ts j=some tr:=⟨ts[j],by rw [aY]; exact List.getElem?_eq_getElem hjl⟩
 have mD:=da.2.2 j _ _ ub ht
 have Cv:∀ i f b c,nth ts i=some (.tok f b c)→b < w.heap.size:=fun i f b c hi=>h.g.b6 ⟨id,_,bR,i,f,c,hi⟩
 -- where a new block has been made
 have fresh:∀ {old:Nat},(∀ b c,ln tr (.tok (es.length+(y :: ys).length) b c)) →
   (Builtin.append_ #[t,u] o.type #[cx,cy]).run E.P w=.ok (.slice (some ⟨w.heap.size,0,none⟩) (es.length+(y :: ys).length) (grownCap w (es.length+(y :: ys).length) old elem)) (w.drew.alloc (.cells (xs.toArray++us.toArray++Builtin.zeroCells zc.cells (grownCap w (es.length+(y :: ys).length) old elem - (es.length+(y :: ys).length))) elem)) →
   bU E R w β s a o ((s.bY (ap s.G id (.aP (ap fs j (es.length+(y :: ys).length)) esz elem))).put o.dst (.v (.list (.aP id j) esz (es++(y :: ys))))):=by
  intro old hle bG
  have we:=grownCap_ge w (es.length+(y :: ys).length) old elem
  have hcm:=grownCap_le_maxLen w (es.length+(y :: ys).length) old elem (by unfold maxLen; omega)
  have RX:(xs.toArray++us.toArray++Builtin.zeroCells zc.cells (grownCap w (es.length+(y :: ys).length) old elem - (es.length+(y :: ys).length))).size=grownCap w (es.length+(y :: ys).length) old elem * esz:=by
   simp only [Array.size_append,List.size_toArray,size_zeroCells,qv,x3,y3,← Nat.add_mul]
   congr 1
   omega
  generalize jI:xs.toArray++us.toArray++Builtin.zeroCells zc.cells (grownCap w (es.length+(y :: ys).length) old elem - (es.length+(y :: ys).length))=cur at bG RX
  have o1:=One.drew w (.cells cur elem)
  obtain ⟨r1,r2⟩:=h.SZ o1 (n:=(es.length+(y :: ys).length) * esz) (r1:=.aP (ap ts j (.tok (es.length+(y :: ys).length) w.heap.size (grownCap w (es.length+(y :: ys).length) old elem)))) (go:=.aP (ap fs j (es.length+(y :: ys).length)) esz elem) hY bR
   (te.set ht (hle _ _)) (fun b hb=>GA hb) (wg.set da ⟨rfl,cur,o1.new,we,hcm,RX,fun o' pY hi=>by
    rcases hi with hi | ⟨_,hi⟩
    ·have:=h.g.wf _ _ hi
     omega
    ·omega⟩ (fun i f c hi=>absurd (Cv i f _ c hi) (Nat.lt_irrefl _)) (fun i f b c _ hi=>⟨o1.old b (Cv i f b c hi),fun o' pY=>by
     rcases pY with pY | ⟨pY,_⟩
     ·exact pY
     ·have:=Cv i f b c hi
      omega⟩))
  have e:=r2.ext
  refine ⟨_,_,_,_,β,gm bG,.inl rfl,r1.put o.dst ?_,by rw [aZ]; exact r2⟩
  refine Rel.list (rN (vs:=xs++us) (kV x0 y0) (by rw [cE]; exact (x1.mono e).append (y1.mono e)) (iL x2 y2) (fun j v hj=>?_) (fun j hj=>.inr ⟨rfl,by rw [List.length_append,x3,y3,← Nat.add_mul] at hj; exact hj⟩)) (by simp) we ⟨_,aI bR,_,aI ht,Nat.le_refl _,fun _=>⟨rfl,rfl,rfl⟩⟩
  rw [cell_of_row _ _ j _ _ _ o1.new,← jI]
  have bP:=(List.getElem?_eq_some_iff.1 hj).1
  rw [← Array.getElem?_toList]
  simp only [Array.toList_append,List.append_assoc]
  rw [← List.append_assoc,List.getElem?_append_left bP]
  exact hj
 rcases x4 with ⟨rfl,rfl,ad,rfl,hd⟩ | ⟨b,o',cap,rfl,WX,xk,uc,xE⟩
 ·obtain rfl:ad=none:=by
   rcases hd with hd | hd
   ·exact hd
   ·cases hd
  simp only [List.length_nil] at hb mD
  have bG:=hA.nil pQ (by simp only [List.length_nil] at hm; omega) (by rw [f3]; rw [Nat.zero_add] at hb; omega)
  cases tr with
  | bF=>exact fresh (old:=0) (fun b c=>by simp only [ln,List.length_cons]; omega) (by simpa using bG)
  | full f'=>
   have mD:f'=0:=mD
   subst mD
   exact fresh (old:=0) (fun b c=>by simp only [ln,List.length_cons]; omega) (by simpa using bG)
  | tok f' g c=>
   obtain ⟨mD,_⟩:=mD
   subst mD
   exact fresh (old:=0) (fun b c=>by simp only [ln,List.length_cons,List.length_nil]; omega) (by simpa using bG)
 ·obtain ⟨lM,WY,yU⟩:=xk
  rw [bR] at WY
  cases WY
  obtain ⟨t',q3,yU⟩:=yU
  rw [ht] at q3
  cases q3
  cases tr with
  | bF=>exact yU.elim
  | full f'=>
   have hf:f'=es.length:=mD
   subst hf
   have iB:=yU.2 rfl
   subst iB
   have bG:=hA.grow pQ ⟨b,o',none⟩ es.length es.length xs (by rw [x3,f2]) uc (by omega) (by omega) (growslice_fits (by omega) (by rw [f3]; exact hb))
   exact fresh (fun b c=>by simp only [ln]; omega) bG
  | tok f' g c=>
   obtain ⟨rfl,cur,jI,k1,k3,k4,k5⟩:=mD
   obtain ⟨rfl,rfl,rfl⟩:=yU.2 rfl
   by_cases gu:es.length+(y :: ys).length≤cap
   ·have hle:(es.length+(y :: ys).length) * esz≤cap * esz:=Nat.mul_le_mul_right _ gu
    have bG:=hA.room pQ b es.length cap cur jI gu (by rw [f2,y3,← Nat.add_mul,k4]; exact hle)
    rw [f2] at bG
    generalize J1:(cur.toList.take (es.length * esz)++us++cur.toList.drop (es.length * esz+us.length)).toArray=cur2 at bG
    have jh:cur.toList.length=cap * esz:=by rw [show cur.toList.length=cur.size from Array.length_toList,k4]
    have hll:es.length * esz≤cap * esz:=Nat.mul_le_mul_right _ k1
    have Ic:cur2.size=cap * esz:=by
     rw [← J1,List.size_toArray]
     simp only [List.length_append,List.length_take,List.length_drop,y3,jh]
     rw [Nat.add_mul] at hle
     omega
    have wF:∀ o',R.I b o'→cur2[o']?=cur[o']?:=fun o' hi=>by
     have ho:o' < es.length * esz:=Nat.lt_of_not_le fun hle=>k5 o' hle hi
     rw [← J1,List.append_assoc]
     simp only [List.getElem?_toArray]
     rw [List.getElem?_append_left (by rw [List.length_take]; omega),List.getElem?_take,if_pos ho,Array.getElem?_toList]
    have new:(w.setRow b cur2).heap[b]?=some (.cells cur2 elem (0,0)):=setRow_heap w b cur cur2 elem (0,0) jI
    obtain ⟨r0,r1,r2⟩:=h.NF (cur2:=cur2) (n:=(es.length+(y :: ys).length) * esz) (r1:=.aP (ap ts j (.tok (es.length+(y :: ys).length) b cap))) (go:=.aP (ap fs j (es.length+(y :: ys).length)) esz elem) hY bR ⟨j,_,_,ht⟩
     (te.set ht ⟨by omega,fun e=>by omega⟩) (fun b' kT=>(GA kT).elim (fun e=>by rw [e]; exact ⟨j,_,_,ht⟩) (fun x=>x)) jI wF (fun _=>wg.set da ⟨rfl,cur2,new,gu,k3,Ic,fun o' pY hi=>by
      rcases hi with hi | ⟨_,hi⟩
      ·exact k5 o' (Nat.le_trans (Nat.mul_le_mul_right _ (Nat.le_add_right _ _)) pY) hi
      ·omega⟩ (fun i f c hi=>da.2.1 i j _ _ _ _ _ hi ht) (fun i f b' c cL hi=>by
       have VZ:b'≠b:=fun e=>by subst e; exact cL (da.2.1 i j _ _ _ _ _ hi ht)
       refine ⟨setRow_other w b b' cur2 VZ,fun o' pY=>?_⟩
       rcases pY with pY | ⟨pY,_⟩
       ·exact pY
       ·exact absurd pY VZ))
    refine ⟨_,_,_,_,β,gm bG,.inl rfl,r1.put o.dst ?_,by rw [aZ]; exact r2⟩
    have V7:cur.toList.take (es.length * esz)=xs:=by
     have En:xs.length=es.length * esz:=x3
     apply List.ext_getElem?
     intro j
     rw [List.getElem?_take]
     split
     ·rename_i hj
      have Nb:j < xs.length:=by omega
      have wq:=uc j xs[j] (List.getElem?_eq_getElem Nb)
      rw [cz,Nat.zero_add,cell_of_row w b j cur elem (0,0) jI] at wq
      rw [Array.getElem?_toList,wq,List.getElem?_eq_getElem Nb]
     ·rw [List.getElem?_eq_none (by omega)]
    refine Rel.list (rN (vs:=xs++us) (kV x0 y0) (by rw [cE]; exact (x1.mono r0).append (y1.mono r0)) (iL x2 y2) (fun j v hj=>?_) (fun j hj=>.inr ⟨rfl,by rw [List.length_append,x3,y3,← Nat.add_mul] at hj; exact hj⟩)) (by simp) gu ⟨_,aI bR,_,aI ht,Nat.le_refl _,fun _=>⟨rfl,rfl,rfl⟩⟩
    rw [cell_of_row _ _ j _ _ _ new,← J1,V7]
    simp only [List.getElem?_toArray]
    rw [List.getElem?_append_left (List.getElem?_eq_some_iff.1 hj).1]
    exact hj
   ·have bG:=hA.grow pQ ⟨b,0,none⟩ es.length cap xs (by rw [x3,f2]) uc (by omega) (by omega) (growslice_fits (by omega) (by rw [f3]; exact hb))
    exact fresh (fun b c=>⟨by omega,fun e=>by omega⟩) bG
theorem Cw {fs:List Nat} {j n m:Nat} (h:nth fs j=some m):za fs j n=ap fs j n:=by
 unfold za
 cases hb:Nat.beq j fs.length with
 | false=>rfl
 | true=>
  have:=Nat.eq_of_beq_eq_true hb
  have:=bI h
  omega
theorem uW (h:bi E R w β s a) {t u:TypeId} {id j:Nat} {es:List AV} {y:AV} {ys:List AV} {cx cy:Value} {us:List Value}
  (gm:∀ {c:Value} {w':World},(Builtin.append_ #[t,u] o.type #[cx,cy]).run E.P w=.ok c w'→(execOp a.eval o).run E.P w=.ok (.value c) w')
  {elem esz eb:Nat} {z:AV} (GG:1≤eb) (hz:z.cells.length=esz) (rm:z.aV=true)
  {ie:TypeInfo} (f2:ie.size=esz) (f3:ie.bytes=eb) (f6:fP ie=some z)
  (h0:Rel R w (.list (.aP id j) esz es) cx) (hA:∀ zc:Value,ie.zero=some zc→ZB E.P w t u o.type elem ie zc cy (y :: ys).length us)
  (y0:jl esz (y :: ys)) (y1:aK R w (aq (y :: ys)) us) (y2:∀ v∈us,v.oneCell'=true) (y3:us.length=(y :: ys).length * esz)
  {fs:List Nat} (hY:nth s.G id=some (.aP fs esz elem)) (ub:EB fs j es.length=true) (hb:(es.length+(y :: ys).length) * eb≤140737488355328) :
  bU E R w β s a o ((s.bY (ap s.G id (.aP (za fs j (es.length+(y :: ys).length)) esz elem))).put o.dst (.v (.list (.aP id j) esz (es++(y :: ys))))):=by
 unfold EB at ub
 rw [Bool.or_eq_true,decide_eq_true_eq,Bool.and_eq_true] at ub
 rcases ub with ub | ⟨hj,hl⟩
 ·have cL:Nat.beq j fs.length=false:=by
   cases hb:Nat.beq j fs.length with
   | false=>rfl
   | true=>
    have:=Nat.eq_of_beq_eq_true hb
    have:=bI ub
    omega
  unfold za
  rw [cL]
  exact lY h gm GG hz rm f2 f3 f6 h0 hA y0 y1 y2 y3 hY ub hb
 ·have wL:za fs j (es.length+(y :: ys).length)=fs++[es.length+(y :: ys).length]:=by
   unfold za
   rw [hj]
   rfl
  rw [wL]
  have hj:=Nat.eq_of_beq_eq_true hj
  have hl:=Nat.eq_of_beq_eq_true hl
  subst hj
  have bP:=bI hY
  rw [← h.g.len] at bP
  obtain ⟨ro,bR⟩:∃ ro,nth R.obj id=some ro:=⟨R.obj[id],by rw [aY]; exact List.getElem?_eq_getElem bP⟩
  obtain ⟨ts,rfl,z1,z2,z3⟩:=h.E0 hY (nfs:=[0]) (nts:=[.bF]) rfl (fun j f t h1 h2=>by
   cases j with
   | zero=>simp only [nth] at h1 h2; cases h1; cases h2; exact rfl
   | succ j=>simp [nth] at h1) (fun j f b c hj=>by
   cases j with
   | zero=>simp only [nth] at hj; cases hj
   | succ j=>simp [nth] at hj) bR
  have key:=lY z2 gm GG hz rm f2 f3 f6 (h0.mono z3.ext) hA y0 (y1.mono z3.ext) y2 y3 (fs:=fs++[0]) (aI hY) (by rw [hl]; exact fB _ _) hb
  have e1:ap (fs++[0]) fs.length (es.length+(y :: ys).length)=fs++[es.length+(y :: ys).length]:=by
   rw [eh,List.set_append_right _ _ (Nat.le_refl _),Nat.sub_self]
   rfl
  have e2:∀ x y:GO,ap (ap s.G id x) id y=ap s.G id y:=fun x y=>by rw [eh,eh,eh,List.set_set]
  rw [e1] at key
  refine bU.step rfl z3 ?_
  have e3:((s.bY (ap s.G id (.aP (fs++[0]) esz elem))).bY (ap (s.bY (ap s.G id (.aP (fs++[0]) esz elem))).G id (.aP (fs++[es.length+(y :: ys).length]) esz elem)))=s.bY (ap s.G id (.aP (fs++[es.length+(y :: ys).length]) esz elem)):=by
   simp only [St.bY,e2]
  rw [e3] at key
  exact key
theorem lZ (h:bi E R w β s a) {t u:TypeId} {x:AV} {ys:List AV} {cx cy:Value} {us:List Value}
  (gm:∀ {c:Value} {w':World},(Builtin.append_ #[t,u] o.type #[cx,cy]).run E.P w=.ok c w'→(execOp a.eval o).run E.P w=.ok (.value c) w')
  {i:TI} {elem esz eb:Nat} {ag:Bool} {z:AV} (hk:i.k=.sl elem esz ag eb (some z)) (GG:1≤eb) (hz:z.cells.length=esz) (rm:z.aV=true)
  {ie:TypeInfo} (f1:E.P.info? elem=some ie) (f2:ie.size=esz) (f3:ie.bytes=eb) (f6:fP ie=some z)
  (h0:Rel R w x cx) (hA:∀ zc:Value,ie.zero=some zc→ZB E.P w t u o.type elem ie zc cy ys.length us)
  (y0:jl esz ys) (y1:aK R w (aq ys) us) (y2:∀ v∈us,v.oneCell'=true) (y3:us.length=ys.length * esz)
  {v:AV} {G':List GO} (ha:fQ s.G elem esz eb x ys=some (true,v,G')) :
  bU E R w β s a o ((s.bY G').put o.dst (.v v)):=by
 obtain ⟨zc,rK,Gx⟩:=dy f6
 have hA':=hA
 have hA:=hA zc rK
 obtain ⟨d1,d2⟩:=Rel.cells (Gx R w) rm
 have qv:zc.cells.size=esz:=by rw [← hz,d1.length]; simp
 unfold fQ at ha
 split at ha
 ·-- nothing is appended
  rename_i k sz es
  have WS:us=[]:=List.eq_nil_of_length_eq_zero (by simpa using y3)
  have hG:G'=s.G∧Rel R w v cx:=by
   split at ha
   ·injection ha with ha; injection ha with _ ha; injection ha with p q
    subst p; subst q
    exact ⟨rfl,h0⟩
   ·injection ha with ha; injection ha with _ ha; injection ha with p q
    subst p; subst q
    exact ⟨rfl,h0⟩
  obtain ⟨rfl,hvr⟩:=hG
  refine ao (s:=s) h (c:=cx) (gm ?_) hvr
  cases h0 with
  | ke=>exact hA.zero rfl _ _ _ (Nat.le_refl 0)
  | iA=>exact hA.zero rfl _ _ _ (Nat.le_refl 0)
  | lS=>exact hA.zero rfl _ _ _ (Nat.le_refl 0)
  | mL=>exact hA.zero rfl _ _ _ (Nat.le_refl 0)
  | lm=>exact hA.zero rfl _ _ _ (Nat.le_refl 0)
  | list hr hlen iB _=>exact hA.zero rfl _ _ _ iB
 ·-- something is appended
  rename_i k sz es y ys hA
  have pQ:0 < (y :: ys).length:=by simp
  -- what is shown where a new block has been made
  have grown:∀ {n old:Nat} {xs:List Value} {es':List AV},(es'.length=n)→jl esz es'→aK R w (aq es') xs→(∀ v∈xs,v.oneCell'=true)→xs.length=n * esz →
    (n+(y :: ys).length) * eb≤140737488355328→n+(y :: ys).length≤maxLen→∀ (R':aj) (G2:List GO) (id:Nat),
    bi E R' (w.drew.alloc (.cells (xs.toArray++us.toArray++Builtin.zeroCells zc.cells (grownCap w (n+(y :: ys).length) old elem - (n+(y :: ys).length))) elem)) β (s.bY G2) a →
    Step R w β s.boxes R' (w.drew.alloc (.cells (xs.toArray++us.toArray++Builtin.zeroCells zc.cells (grownCap w (n+(y :: ys).length) old elem - (n+(y :: ys).length))) elem)) β s.boxes →
    (∀ j,j < (n+(y :: ys).length) * esz→R'.I w.heap.size j)→nth R'.obj id=some (.tok (n+(y :: ys).length) w.heap.size (grownCap w (n+(y :: ys).length) old elem)) →
    (Builtin.append_ #[t,u] o.type #[cx,cy]).run E.P w=.ok (.slice (some ⟨w.heap.size,0,none⟩) (n+(y :: ys).length) (grownCap w (n+(y :: ys).length) old elem)) (w.drew.alloc (.cells (xs.toArray++us.toArray++Builtin.zeroCells zc.cells (grownCap w (n+(y :: ys).length) old elem - (n+(y :: ys).length))) elem)) →
    bU E R w β s a o ((s.bY G2).put o.dst (.v (.list (.own id) esz (es'++(y :: ys))))):=by
   intro n old xs es' B9 S5 WW uR wJ _ _ R' G2 id da kW hI hid bG
   refine ⟨_,_,_,R',β,gm bG,.inl rfl,da.put o.dst ?_,by rw [aZ]; exact kW⟩
   have e:=kW.ext
   refine Rel.list (rN (vs:=xs++us) (kV S5 y0) (by rw [cE]; exact (WW.mono e).append (y1.mono e)) (iL uR y2) (fun j v hj=>?_) (fun j hj=>hI j (by rw [List.length_append,wJ,y3,← Nat.add_mul] at hj; exact hj))) (by simp [B9]) (grownCap_ge w _ _ _) ⟨_,hid,Nat.le_refl _,fun _=>⟨rfl,rfl,rfl⟩⟩
   have uT:(w.drew.alloc (.cells (xs.toArray++us.toArray++Builtin.zeroCells zc.cells (grownCap w (n+(y :: ys).length) old elem - (n+(y :: ys).length))) elem)).heap[w.heap.size]?=some (.cells (xs.toArray++us.toArray++Builtin.zeroCells zc.cells (grownCap w (n+(y :: ys).length) old elem - (n+(y :: ys).length))) elem (0,0)):=heap_alloc_new w.drew _
   rw [cell_of_row _ _ j _ _ _ uT]
   have bP:=(List.getElem?_eq_some_iff.1 hj).1
   rw [← Array.getElem?_toList]
   simp only [Array.toList_append,List.append_assoc]
   rw [← List.append_assoc,List.getElem?_append_left bP]
   exact hj
  have J2:∀ {n old:Nat} {xs:List Value},xs.length=n * esz→n+(y :: ys).length≤maxLen→(xs.toArray++us.toArray++Builtin.zeroCells zc.cells (grownCap w (n+(y :: ys).length) old elem - (n+(y :: ys).length))).size=grownCap w (n+(y :: ys).length) old elem * esz:=by
   intro n old xs wJ _
   have we:=grownCap_ge w (n+(y :: ys).length) old elem
   simp only [Array.size_append,List.size_toArray,size_zeroCells,qv,wJ,y3,← Nat.add_mul]
   congr 1
   omega
  have fresh:∀ {n old:Nat} {xs:List Value} {es':List AV},(es'.length=n)→jl esz es'→aK R w (aq es') xs→(∀ v∈xs,v.oneCell'=true)→xs.length=n * esz →
    (n+(y :: ys).length) * eb≤140737488355328→n+(y :: ys).length≤maxLen →
    (Builtin.append_ #[t,u] o.type #[cx,cy]).run E.P w=.ok (.slice (some ⟨w.heap.size,0,none⟩) (n+(y :: ys).length) (grownCap w (n+(y :: ys).length) old elem)) (w.drew.alloc (.cells (xs.toArray++us.toArray++Builtin.zeroCells zc.cells (grownCap w (n+(y :: ys).length) old elem - (n+(y :: ys).length))) elem)) →
    bU E R w β s a o ((s.bY (s.G++[.tok (n+(y :: ys).length) esz elem])).put o.dst (.v (.list (.own s.G.length) esz (es'++(y :: ys))))):=by
   intro n old xs es' B9 S5 WW uR wJ hb hm bG
   obtain ⟨r1,r2⟩:=h.SX (cur:=xs.toArray++us.toArray++Builtin.zeroCells zc.cells (grownCap w (n+(y :: ys).length) old elem - (n+(y :: ys).length))) (elem:=elem) (grownCap_ge w (n+(y :: ys).length) old elem) (grownCap_le_maxLen w _ old elem hm) (J2 wJ hm)
   exact grown B9 S5 WW uR wJ hb hm _ _ _ r1 r2 (fun j hj=>.inr ⟨rfl,hj⟩) (by rw [← h.g.len]; exact fB _ _) bG
  have GH:∀ {n:Nat},(n+(y :: ys).length) * eb≤140737488355328→n+(y :: ys).length≤140737488355328:=fun {n} hb=>Nat.le_trans (Nat.le_mul_of_pos_right _ GG) hb
  split at ha
  ·-- nil
   injection ha with ha; injection ha with hc ha; injection ha with p q
   subst p; subst q
   have hb:=of_decide_eq_true hc
   cases h0 with
   | list _ _ _ JJ=>exact JJ.elim
   | ke=>
    simp only [List.length_nil] at hb
    have hm:=GH hb
    refine fresh (n:=0) (old:=0) (xs:=[]) (es':=[]) rfl (fun e he=>by simp at he) .nil (by simp) (by simp) hb (by unfold maxLen; omega) ?_
    have bG:=hA.nil pQ (by omega) (by rw [f3]; rw [Nat.zero_add] at hb; omega)
    simpa using bG
  ·-- as long as its capacity
   split at ha
   ·rename_i ej
    have ej:=Nat.eq_of_beq_eq_true ej
    subst ej
    injection ha with ha; injection ha with hc ha; injection ha with p q
    subst p; subst q
    have hb:=of_decide_eq_true hc
    have hm:=GH hb
    obtain ⟨x0,xs,x1,x2,x3,x4⟩:=fE (esz:=sz) h0 (.inr rfl)
    rcases x4 with ⟨rfl,rfl,ad,rfl,hd⟩ | ⟨b,o',cap,rfl,WX,xk,uc,_⟩
    ·rcases hd with rfl | hd
     ·cases h0
     ·cases hd
    ·have iB:cap=es.length:=xk
     subst iB
     refine fresh (n:=es.length) (old:=es.length) (xs:=xs) (es':=es) rfl x0 x1 x2 x3 hb (by unfold maxLen; omega) ?_
     exact hA.grow pQ ⟨b,o',none⟩ es.length es.length xs (by rw [x3,f2]) uc (by omega) (by omega) (growslice_fits (by omega) (by rw [f3]; exact hb))
   ·cases ha
  ·-- of a token
   rename_i id
   split at ha
   ·rename_i f bK e' hY
    split at ha
    ·rename_i cC
     simp only [Bool.and_eq_true] at cC
     obtain ⟨⟨q1,q2⟩,q3⟩:=cC
     have q1:=Nat.eq_of_beq_eq_true q1
     have q2:=Nat.eq_of_beq_eq_true q2
     have q3:=Nat.eq_of_beq_eq_true q3
     subst q1; subst q2; subst q3
     injection ha with ha; injection ha with hc ha; injection ha with p q
     subst p; subst q
     simp only [Bool.and_eq_true] at hc
     have ub:=of_decide_eq_true hc.1
     have hb:=of_decide_eq_true hc.2
     subst ub
     have hm:=GH hb
     obtain ⟨x0,xs,x1,x2,x3,x4⟩:=fE (esz:=sz) h0 (.inr rfl)
     rcases x4 with ⟨rfl,rfl,ad,rfl,hd⟩ | ⟨b,o',cap,rfl,WX,xk,uc,xE⟩
     ·obtain rfl:ad=none:=by
       rcases hd with hd | hd
       ·exact hd
       ·cases hd
      cases h0 with
      | @mL _ _ ro bR hon=>
      have da:=h.g.obj id _ _ hY bR
      cases ro with
      | none=>exact da.elim
      | b0 _=>exact da.elim
      | tok f' g c=>
       obtain ⟨rfl,_⟩:=da
       simp [mK] at hon
      | aP _=>exact da.elim
      | bF=>
       simp only [List.length_nil] at hb
       have bG:=hA.nil pQ (by omega) (by rw [f3]; rw [Nat.zero_add] at hb; omega)
       have ej:=J2 (n:=0) (old:=0) (xs:=[]) (by simp) (by unfold maxLen; omega)
       obtain ⟨r1,r2⟩:=h.JW (cur:=[].toArray++us.toArray++Builtin.zeroCells zc.cells (grownCap w (0+(y :: ys).length) 0 e' - (0+(y :: ys).length))) (elem:=e') (n:=0+(y :: ys).length) (cap:=grownCap w (0+(y :: ys).length) 0 e') hY bR (fun b c=>by simp only [cm]; omega) (grownCap_ge w _ _ _) (grownCap_le_maxLen w _ _ _ (by unfold maxLen; omega)) ej
       exact grown (n:=0) (es':=[]) rfl (fun e he=>by simp at he) .nil (by simp) (by simp) hb (by unfold maxLen; omega) _ _ _ r1 r2 (fun j hj=>.inr ⟨rfl,hj⟩) (aI bR) (by simpa using bG)
     ·obtain ⟨ro,bR,yU⟩:=xk
      have da:=h.g.obj id _ _ hY bR
      cases ro with
      | none=>exact da.elim
      | bF=>exact yU.elim
      | b0 _=>exact da.elim
      | aP _=>exact da.elim
      | tok f' g c=>
       obtain ⟨rfl,cur,jI,k1,k3,k4,k5⟩:=da
       obtain ⟨rfl,rfl,rfl⟩:=yU.2 rfl
       by_cases gu:es.length+(y :: ys).length≤cap
       ·have hle:(es.length+(y :: ys).length) * sz≤cap * sz:=Nat.mul_le_mul_right _ gu
        have bG:=hA.room pQ b es.length cap cur jI gu (by rw [f2,y3,← Nat.add_mul,k4]; exact hle)
        rw [f2] at bG
        obtain ⟨r0,r1,r2⟩:=h.ND (news:=us) (n:=es.length+(y :: ys).length) hY bR (by omega) gu jI k4 k3 (by rw [y3,← Nat.add_mul])
        refine ⟨_,_,_,_,β,gm bG,.inl rfl,r1.put o.dst ?_,by rw [aZ]; exact r2⟩
        have uT:=setRow_heap w b cur (cur.toList.take (es.length * sz)++us++cur.toList.drop (es.length * sz+us.length)).toArray e' (0,0) jI
        have V7:cur.toList.take (es.length * sz)=xs:=by
         have En:xs.length=es.length * sz:=x3
         apply List.ext_getElem?
         intro j
         rw [List.getElem?_take]
         split
         ·rename_i hj
          have Nb:j < xs.length:=by omega
          have wq:=uc j xs[j] (List.getElem?_eq_getElem Nb)
          rw [cz,Nat.zero_add,cell_of_row w b j cur e' (0,0) jI] at wq
          rw [Array.getElem?_toList,wq,List.getElem?_eq_getElem Nb]
         ·rw [List.getElem?_eq_none (by omega)]
        refine Rel.list (rN (vs:=xs++us) (kV x0 y0) (by rw [cE]; exact (x1.mono r0).append (y1.mono r0)) (iL x2 y2) (fun j v hj=>?_) (fun j hj=>.inr ⟨rfl,by rw [List.length_append,x3,y3,← Nat.add_mul] at hj; exact hj⟩)) (by simp) gu ⟨_,aI bR,Nat.le_refl _,fun _=>⟨rfl,rfl,rfl⟩⟩
        rw [cell_of_row _ _ j _ _ _ uT,V7]
        simp only [List.getElem?_toArray]
        rw [List.getElem?_append_left (List.getElem?_eq_some_iff.1 hj).1]
        exact hj
       ·have bG:=hA.grow pQ ⟨b,0,none⟩ es.length cap xs (by rw [x3,f2]) uc (by omega) (by omega) (growslice_fits (by omega) (by rw [f3]; exact hb))
        obtain ⟨r1,r2⟩:=h.JW (cur:=xs.toArray++us.toArray++Builtin.zeroCells zc.cells (grownCap w (es.length+(y :: ys).length) cap e' - (es.length+(y :: ys).length))) (elem:=e') (n:=es.length+(y :: ys).length) (cap:=grownCap w (es.length+(y :: ys).length) cap e') hY bR (fun b c=>⟨by omega,fun e=>by omega⟩) (grownCap_ge w _ _ _) (grownCap_le_maxLen w _ _ _ (by unfold maxLen; omega)) (J2 x3 (by unfold maxLen; omega))
        exact grown rfl x0 x1 x2 x3 hb (by unfold maxLen; omega) _ _ _ r1 r2 (fun j hj=>.inr ⟨rfl,hj⟩) (aI bR) bG
    ·cases ha
   ·cases ha
  ·-- of a member of a family
   rename_i id j
   split at ha
   ·rename_i fs bK e' hY
    split at ha
    ·rename_i cC
     simp only [Bool.and_eq_true] at cC
     obtain ⟨⟨q1,q2⟩,q3⟩:=cC
     have q1:=Nat.eq_of_beq_eq_true q1
     have q2:=Nat.eq_of_beq_eq_true q2
     have q3:=Nat.eq_of_beq_eq_true q3
     subst q1; subst q2; subst q3
     injection ha with ha; injection ha with hc ha; injection ha with p q
     subst p; subst q
     simp only [Bool.and_eq_true,decide_eq_true_eq] at hc
     exact uW h gm GG hz rm f2 f3 f6 h0 (fun zc' S6=>hA' zc' S6) y0 y1 y2 y3 hY hc.1 hc.2
    ·cases ha
   ·cases ha
  ·cases ha
 ·-- a slice that grows, and nothing
  injection ha with ha; injection ha with _ ha; injection ha with p q
  subst p; subst q
  refine ao (s:=s) h (c:=cx) (gm ?_) h0
  cases h0 with
  | jm=>exact hA.zero rfl _ _ _ (Nat.le_refl 0)
  | cR _ _ iB=>exact hA.zero rfl _ _ _ iB
 ·-- a slice that grows
  rename_i id f' off sz len y ys hA
  split at ha
  ·rename_i es bK e' hY
   split at ha
   ·rename_i cC
    simp only [Bool.and_eq_true] at cC
    obtain ⟨⟨q1,q2⟩,q3⟩:=cC
    have q1:=Nat.eq_of_beq_eq_true q1
    have q2:=Nat.eq_of_beq_eq_true q2
    have q3:=Nat.eq_of_beq_eq_true q3
    subst q1; subst q2; subst q3
    injection ha with ha; injection ha with hc ha; injection ha with p q
    subst p; subst q
    simp only [Bool.and_eq_true,decide_eq_true_eq] at hc
    exact nI h gm GG hz rm f2 f3 f6 h0 (fun zc' S6=>hA' zc' S6) y0.g y1 y2 y3 hY hc.1.1.1 hc.1.1.2 hc.1.2 hc.2
   ·cases ha
  ·cases ha
 ·cases ha
theorem Cx (h:bi E R w β s a) {args:Array Operand} {t:TypeId} (ho:o.op=.call { callee:=.builtin .append,args:=args,argTypes:=#[t,t] }) {x:AV} {k2:LK} {n5:Nat} {ys:List AV}
  (hl:mC E s.ae args.toList=some [x,.list k2 n5 ys]) {i:TI} (hi:E.ti t=some i) {elem esz eb:Nat} {ag:Bool} {z:AV} (hk:i.k=.sl elem esz ag eb (some z)) (Ic:ys=[]∨n5=esz) (af0:1≤esz) (GG:1≤eb) (hz:z.cells.length=esz) (rm:z.aV=true)
  {v:AV} {G':List GO} (ha:fQ s.G elem esz eb x ys=some (true,v,G')) :
  bU E R w β s a o ((s.bY G').put o.dst (.v v)):=by
 have hr:=fT h hl
 generalize hv:args.toList.map a.eval=vs at hr
 have hx:=dV (E:=E) (w:=w) ho vs hv
 cases hr with
 | @cons _ cx _ _ h0 h1=>
 cases h1 with
 | @cons _ cy _ _ h1 h2=>
 cases h2
 obtain ⟨gM,u,e1,e2,e3,e4,e5,e6⟩:=b7 E hi
 have H9:=hk
 rw [hk] at e5
 obtain ⟨ie,ue,rfl,f1,f2,f3,f4,f5,f6⟩:=dN e5
 have uf:(⟨[cx,cy]⟩:Array Value)=#[cx,cy]:=rfl
 obtain ⟨y0,us,y1,y2,y3,y4⟩:=fE (esz:=esz) h1 Ic
 refine lZ h (cx:=cx) (cy:=cy) (t:=t) (u:=t) (fun hh=>?_) H9 GG hz rm f1 f2 f3 f6 h0 (fun zc rK=>?_) y0 y1 y2 y3 ha
 ·rw [hx]
  simp only [builtin,uf,Sem.run_bind,hh,Result.andThen_ok,Sem.run_pure]
 ·rcases y4 with ⟨rfl,rfl,ad,rfl,_⟩ | ⟨Zy,oy,E1,rfl,aaN,_,wM,yE⟩
  ·refine ⟨fun _ base len cap Gw=>?_,fun hh=>absurd hh (by simp),fun hh=>absurd hh (by simp),fun hh=>absurd hh (by simp)⟩
   cases ad <;> simp [Builtin.append_,run_underlying e2,run_sizeOf w f1,Builtin.lenOf,Builtin.firstCells,Gw,storeCells,loadCells,loadCellsFrom] <;>
    cases base <;> simp [storeCells]
  ·refine ⟨fun hn base len cap Gw=>?_,fun hh J3 J4=>run_append_nil (P:=E.P) w t o.type elem ie zc e2 f1 rK _ _ E1 us (by rw [y3,f2]) wM hh J3 J4,fun _ b sLen lu A8 E2 NI hg J3 J4=>run_append_grow (P:=E.P) w t o.type elem ie zc e2 f1 rK b sLen lu A8 E2 NI _ _ E1 us (by rw [y3,f2]) wM hg J3 J4,fun _ g sLen lu cur hg gu uX=>run_append_room (P:=E.P) w t o.type elem ie e2 f1 g sLen lu cur hg _ _ E1 us (by rw [y3,f2]) wM y2 gu uX⟩
   rw [hn]
   simp [Builtin.append_,run_underlying e2,run_sizeOf w f1,Builtin.lenOf,Builtin.firstCells,Gw,storeCells,loadCells,loadCellsFrom]
   cases base <;> simp [storeCells]
theorem wN:∀ (bs:List UInt8),aK R w (aq (bs.map rA)) (Lib.strCells ⟨⟨bs⟩⟩)
 | []=>.nil
 | b :: bs=>.cons (Rel.int .u8 b.toNat) (wN bs)
theorem uY (h:bi E R w β s a) {args:Array Operand} {t u:TypeId} (ho:o.op=.call { callee:=.builtin .append,args:=args,argTypes:=#[t,u] }) {x:AV} {bs:List UInt8}
  (hl:mC E s.ae args.toList=some [x,.str bs]) {i j:TI} (hi:E.ti t=some i) (hj:E.ti u=some j) {elem eb:Nat} {ag:Bool} {z:AV} (hk:i.k=.sl elem 1 ag eb (some z)) (RY:j.k=.str) (GG:1≤eb) (hz:z.cells.length=1) (rm:z.aV=true)
  {v:AV} {G':List GO} (ha:fQ s.G elem 1 eb x (bs.map rA)=some (true,v,G')) :
  bU E R w β s a o ((s.bY G').put o.dst (.v v)):=by
 have hr:=fT h hl
 generalize hv:args.toList.map a.eval=vs at hr
 have hx:=dV (E:=E) (w:=w) ho vs hv
 cases hr with
 | @cons _ cx _ _ h0 h1=>
 cases h1 with
 | @cons _ cy _ _ h1 h2=>
 cases h2
 obtain ⟨gM,ud,e1,e2,e3,e4,e5,e6⟩:=b7 E hi
 obtain ⟨WZ,ud',g1,g2,g3,g4,g5,g6⟩:=b7 E hj
 rw [RY] at g5
 have:=kg g5
 subst this
 have H9:=hk
 rw [hk] at e5
 obtain ⟨ie,ue,rfl,f1,f2,f3,f4,f5,f6⟩:=dN e5
 cases h1
 have ej:(⟨⟨bs⟩⟩:ByteArray).size=bs.length:=rfl
 have hlen:(bs.map rA).length=bs.length:=List.length_map _
 have uf:(⟨[cx,.string ⟨⟨bs⟩⟩]⟩:Array Value)=#[cx,.string ⟨⟨bs⟩⟩]:=rfl
 have jh:(Lib.strCells ⟨⟨bs⟩⟩).length=bs.length:=Lib.strCells_length _
 refine lZ h (cx:=cx) (cy:=.string ⟨⟨bs⟩⟩) (us:=Lib.strCells ⟨⟨bs⟩⟩) (t:=t) (u:=u) (fun hh=>?_) H9 GG hz rm f1 f2 f3 f6 h0 (fun zc rK=>?_) ?_ (wN bs) (Lib.strCells_oneCell _) (by rw [jh,hlen,Nat.mul_one]) ha
 ·rw [hx]
  simp only [builtin,uf,Sem.run_bind,hh,Result.andThen_ok,Sem.run_pure]
 ·rw [hlen]
  refine ⟨fun hn base len cap Gw=>?_,fun hh J3 J4=>?_,fun _ b sLen lu A8 E2 NI hg J3 J4=>Lib.run_append_grow_string (P:=E.P) w t u o.type elem ie zc e2 g2 f1 rK b sLen lu A8 E2 NI ⟨⟨bs⟩⟩ hg J3 J4,fun _ g sLen lu cur hg gu uX=>?_⟩
  ·have hb:bs=[]:=List.eq_nil_of_length_eq_zero hn
   subst hb
   have hz0:(⟨⟨[]⟩⟩:ByteArray).size=0:=rfl
   simp [hz0,Builtin.append_,run_underlying e2,run_underlying g2,run_sizeOf w f1,Builtin.lenOf,Builtin.firstCells,Gw,storeCells]
   cases base <;> simp [storeCells]
  ·rw [run_append_nil_string (P:=E.P) w t u o.type elem ie zc e2 g2 f1 rK ⟨⟨bs⟩⟩ hh J3 J4]
   simp [Lib.strCells,ej]
  ·have:=Lib.run_append_room_string (P:=E.P) w t u o.type elem ie e2 g2 f1 f2 g sLen lu cur hg ⟨⟨bs⟩⟩ gu (by rw [f2,Nat.mul_one,jh] at uX; exact uX)
   rw [this,f2,Nat.mul_one,jh]
   rfl
 ·intro e he
  obtain ⟨b,_,rfl⟩:=List.mem_map.1 he
  exact ⟨rfl,rfl,rfl⟩
end ops
end Go.Am
