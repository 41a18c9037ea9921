/- The abstract machine: what it does is what the model does: slices that grow and are written. -/
import Derived.Test.YtldcljfjjoidhaaGreatDoorAmKC
import Derived.Lib.AppendStr
set_option linter.all false
namespace Go.Am
open Go
section lists
theorem vS {α:Type} (c us:List α) (n p sz off:Nat) (hn:n≤c.length) (hp:p+sz≤n) (ho:off+us.length≤sz) :
  (c.take (p+off)++us++c.drop (p+off+us.length)).take n =
   (c.take n).take p++((((c.take n).drop p).take sz).take off++us++(((c.take n).drop p).take sz).drop (off+us.length))++(c.take n).drop (p+sz):=by
 apply List.ext_getElem?
 intro j
 simp only [List.getElem?_append,List.getElem?_take,List.getElem?_drop,List.length_append,List.length_take,List.length_drop]
 by_cases h1:j < p
 ·rw [if_pos (by omega),if_pos (by omega),if_pos (by omega),if_pos (by omega),if_pos (by omega),if_pos (by omega),if_pos (by omega),if_pos (by omega)]
 ·by_cases h2:j < p+off
  ·rw [if_pos (by omega),if_pos (by omega),if_pos (by omega),if_pos (by omega),if_pos (by omega),if_neg (by omega),if_pos (by omega),if_pos (by omega),if_pos (by omega),if_pos (by omega),if_pos (by omega)]
   congr 1; omega
  ·by_cases h3:j < p+off+us.length
   ·rw [if_pos (by omega),if_pos (by omega),if_neg (by omega),if_pos (by omega),if_neg (by omega),if_pos (by omega),if_neg (by omega)]
    congr 1; omega
   ·by_cases h4:j < p+sz
    ·rw [if_pos (by omega),if_neg (by omega),if_pos (by omega),if_neg (by omega),if_neg (by omega),if_pos (by omega),if_pos (by omega)]
     congr 1; omega
    ·by_cases h5:j < n
     ·rw [if_pos (by omega),if_neg (by omega),if_neg (by omega),if_pos (by omega)]
      congr 1; omega
     ·rw [if_neg (by omega),if_neg (by omega),if_neg (by omega)]
theorem qh {sz:Nat}:∀ {es:List AV} {i:Nat} {e:AV},dw sz es→nth es i=some e→((av es).drop (i * sz)).take sz=e.cells
 | [],_,_,_,h=>by simp [nth] at h
 | x :: es,0,e,h,hi=>by
  simp only [nth] at hi
  cases hi
  have h1:=(h x (by simp)).1
  rw [Nat.zero_mul,List.drop_zero]
  simp only [av]
  rw [← h1,List.take_left]
 | x :: es,i+1,e,h,hi=>by
  have h1:=(h x (by simp)).1
  have ih:=qh (i:=i) (fun y hy=>h y (by simp [hy])) (show nth es i=some e from hi)
  simp only [av]
  rw [show (i+1) * sz=x.cells.length+i * sz by rw [h1,Nat.succ_mul]; omega,List.drop_append,List.drop_of_length_le (by omega),List.nil_append,Nat.add_sub_cancel_left]
  exact ih
theorem rm {sz:Nat} {l r:List AV} (h:dw sz l) (k:dw sz r):dw sz (l++r):=fun e he=>by
 rcases List.mem_append.1 he with he | he
 ·exact h e he
 ·exact k e he
theorem zq {sz:Nat} {l:List AV} (n:Nat) (h:dw sz l):dw sz (l.take n):=fun e he=>h e (List.mem_of_mem_take he)
theorem G8 {sz:Nat} {l:List AV} (n:Nat) (h:dw sz l):dw sz (l.drop n):=fun e he=>h e (List.mem_of_mem_drop he)
theorem jn {sz:Nat}:∀ {es:List AV} (i:Nat),dw sz es→av (es.take i)=(av es).take (i * sz)
 | [],i,_=>by simp [av]
 | e :: es,0,_=>by simp [av]
 | e :: es,i+1,h=>by
  have h1:=(h e (by simp)).1
  simp only [List.take_succ_cons,av]
  rw [jn i (fun y hy=>h y (by simp [hy])),show (i+1) * sz=e.cells.length+i * sz by rw [h1,Nat.succ_mul]; omega,List.take_append,Nat.add_sub_cancel_left,List.take_of_length_le (by omega:e.cells.length≤e.cells.length+i * sz)]
theorem nY {sz:Nat}:∀ {es:List AV} (i:Nat),dw sz es→av (es.drop i)=(av es).drop (i * sz)
 | [],i,_=>by simp [av]
 | e :: es,0,_=>by simp [av]
 | e :: es,i+1,h=>by
  have h1:=(h e (by simp)).1
  simp only [List.drop_succ_cons,av]
  rw [nY i (fun y hy=>h y (by simp [hy])),show (i+1) * sz=e.cells.length+i * sz by rw [h1,Nat.succ_mul]; omega,List.drop_append,List.drop_of_length_le (by omega:e.cells.length≤e.cells.length+i * sz),List.nil_append,Nat.add_sub_cancel_left]
theorem cZ {sz:Nat} {es:List AV} (h:dw sz es):(av es).length=es.length * sz:=by
 induction es with
 | nil=>simp [av]
 | cons e es ih=>
  have h1:=(h e (by simp)).1
  have:=ih (fun x hx=>h x (by simp [hx]))
  simp only [av,List.length_append,this,h1,List.length_cons,Nat.add_mul]
  omega
theorem D2 {sz:Nat} {es:List AV} {i:Nat} {v:AV} (h:dw sz es) (h1:v.cells.length=sz) (h2:v.aV=true):dw sz (aD es i v):=fun e he=>by
 rw [gP] at he
 rcases List.mem_or_eq_of_mem_set he with he | rfl
 ·exact h e he
 ·exact ⟨h1,h2⟩
theorem BX {sz:Nat} {es:List AV} {i:Nat} {v:AV} (h:dw sz es) (hi:i < es.length) (hv:v.cells.length=sz):av (aD es i v)=bZ (av es) (i * sz) v.cells:=by
 have zr:i * sz+sz≤es.length * sz:=by
  rw [← Nat.succ_mul]
  exact Nat.mul_le_mul_right _ hi
 rw [gP,List.set_eq_take_append_cons_drop,if_pos hi,eU _ _ _ (by rw [hv,cZ h]; exact zr),cK,jn i h,hv]
 simp only [av]
 rw [nY (i+1) h,Nat.succ_mul,List.append_assoc]
end lists
section ops
variable {E:Env} {R:ai} {w:World} {β:Nat→Nat} {s:St} {a:Act} {o:Oper}
theorem lr {G:List GO} (h:dq E R w G) {id:Nat} {es:List AV} {sz:Nat} {el:TypeId} {ro:RO} (hid:nth G id=some (.dG es sz el)) (bH:nth R.obj id=some ro) (hn:ro≠.bz) :
  ∃ b c cur vs,ro=.tok es.length b c∧dw sz es∧w.heap[b]?=some (.cells cur el (0,0))∧es.length≤c∧c≤maxLen∧cur.size=c * sz∧(∀ o,¬ R.I b o)∧aM R w (av es) vs∧(∀ v∈vs,v.oneCell'=true)∧cur.toList.take (es.length * sz)=vs:=by
 have hr:=h.obj id _ _ hid bH
 cases ro with
 | none=>exact hr.elim
 | bz=>exact absurd rfl hn
 | bU b=>exact hr.elim
 | bf _=>exact hr.elim
 | tok f b c=>
  obtain ⟨rfl,h1,cur,vs,h2,h3,h4,h5,h6,h7,h8,h9⟩:=hr
  exact ⟨b,c,cur,vs,rfl,h1,h2,h3,h4,h5,h6,h7,h8,h9⟩
theorem vT {id f i sz:Nat} {t:TypeId} {v:AV} (h:vz E s id f i sz t=some (true,v)) :
  ∃ es el e,nth s.G id=some (.dG es sz el)∧f=es.length∧nth es i=some e∧iQ e v:=by
 unfold vz at h
 split at h
 ·rename_i es bE el hid
  split at h
  ·rename_i p hp
   split at h
   ·rename_i eO
    have eO:=Nat.eq_of_beq_eq_true eO
    subst eO
    injection h with h
    injection h with h1 h2
    simp only [Bool.and_eq_true,decide_eq_true_eq] at h1
    obtain ⟨⟨h3,h4⟩,h5⟩:=h1
    obtain ⟨e,he⟩:∃ e,nth es i=some e:=⟨es[i],by rw [a8]; exact List.getElem?_eq_getElem h4⟩
    have hd:aj es i=e:=by simp [aj,he]
    rw [hd] at h5 h2
    rw [← h2]
    exact ⟨es,el,e,hid,h3,he,p.cL h5⟩
   ·cases h
  ·split at h
   ·rename_i eO
    have eO:=Nat.eq_of_beq_eq_true eO
    subst eO
    injection h with h
    injection h with h1 h2
    simp only [Bool.and_eq_true,decide_eq_true_eq] at h1
    obtain ⟨h3,h4⟩:=h1
    obtain ⟨e,he⟩:∃ e,nth es i=some e:=⟨es[i],by rw [a8]; exact List.getElem?_eq_getElem h4⟩
    have hd:aj es i=e:=by simp [aj,he]
    rw [hd] at h2
    rw [← h2]
    exact ⟨es,el,e,hid,h3,he,iQ.refl e⟩
   ·cases h
 ·cases h
theorem FE {α:Type} {l:List α} {i:Nat} {x:α} (h:nth l i=some x):x∈l:=by
 rw [a8] at h
 exact List.mem_of_getElem? h
theorem D3 {i n sz:Nat} (h:i < n):i * sz+sz≤n * sz:=by
 rw [← Nat.succ_mul]
 exact Nat.mul_le_mul_right _ h
theorem D4 (h:bi E R w β s a) (t:TypeId) (x:Operand) (ho:o.op=.load t x) {v:AV} (hl:ze E s t (bw E s.af x)=some (true,v)) :
  bQ E R w β s a o (s.put o.dst (.v v)):=by
 have rx:=aT h x
 unfold ze at hl
 split at hl
 ·rename_i id f i off sz ty hx
  rw [hx] at rx
  split at hl
  ·rename_i ti c ve Sh hg
   split at hl
   ·rename_i l hs
    split at hl
    ·rename_i r hm
     injection hl with hl
     injection hl with h1 h2
     subst h1; subst h2
     obtain ⟨es,el,e,hid,Sl,he,uD⟩:=vT hg
     have dK:Rel R w (.gp id f i off sz ty) (a.eval x):=rx
     generalize fy:a.eval x=xv at dK
     cases dK with
     | @gp _ _ _ _ _ b o' _ ro bH dE=>
     obtain ⟨b',c',cur,vs,rfl,g1,g2,g3,g4,g5,g6,g7,g8,g9⟩:=lr h.g hid bH (fun k=>by subst k; exact dE)
     obtain ⟨rfl,rfl⟩:=dE.2 Sl
     have ZG:=g1 e (FE he)
     have eh:aM R w e.cells ((vs.drop (i * sz)).take sz):=by
      rw [← qh g1 he]
      exact (g7.drop _).take _
     have hw:=(uD.cells ZG.2).rel eh
     obtain ⟨k1,k2,k3,k4⟩:=oU hs hw (fun y hy=>g8 y (List.mem_of_mem_drop (List.mem_of_mem_take hy)))
     obtain ⟨c,hc,hrr⟩:=nR (E:=E) Sh (b:=b) (off:=i * sz+off) k1 k2 k3 (fun j y hy=>by
      have h1:=k4 j y hy
      rw [List.getElem?_take] at h1
      split at h1
      ·rw [List.getElem?_drop,← g9,List.getElem?_take] at h1
       split at h1
       ·rw [cell_of_row w b _ cur el (0,0) g2,Nat.add_assoc,← Array.getElem?_toList]
        exact h1
       ·cases h1
      ·cases h1) hm
     refine ar h (c:=c) ?_ hrr
     simp [execOp,ho,Instr.loadAt,fy,Instr.sureAddr,hc]
    ·cases hl
   ·cases hl
  ·cases hl
 ·split at hl
  ·rename_i v' hv
   injection hl with hl
   injection hl with h1 h2
   subst h2
   exact GZ h t x ho hv
  ·cases hl
theorem bi.AD (h:bi E R w β s a) {id f b c:Nat} {es es':List AV} {sz:Nat} {el:TypeId} {cur BW:Array Value} {vs':List Value} (hid:nth s.G id=some (.dG es sz el)) (bH:nth R.obj id=some (.tok f b c))
  (hb:w.heap[b]?=some (.cells cur el (0,0))) (hlen:es'.length=es.length) (oS:dw sz es') (eO:BW.size=cur.size) (hr:aM R w (av es') vs') (h1:∀ v∈vs',v.oneCell'=true) (ht:BW.toList.take (f * sz)=vs') :
  bi E R (w.setRow b BW) β (s.bW (aD s.G id (.dG es' sz el))) a∧Step R w β s.boxes R (w.setRow b BW) β s.boxes:=by
 obtain ⟨q0,q1,Wd,vs0,p1,p2,p3,p4,p5,p6,p7,p8⟩:=h.g.obj id _ _ hid bH
 rw [hb] at p1
 cases p1
 have hex:=iT (R:=R) (w:=w) p5 BW
 have D5:∀ k cs,dm s.boxes k=some cs→β k≠b:=fun k cs hk e=>(h.b.box k cs hk).2.2 ⟨id,_,bH,by rw [e]; rfl⟩
 refine ⟨⟨⟨by simp [St.bW,h.g.len],fun jz go ro hg lH=>?_,h.g.inj,fun b' o' qM=>by have:=h.g.wf b' o' qM; simp; omega,fun g cs' hg=>(h.g.b6 g cs' hg).mono hex,h.g.lo⟩,?_,h.t.mono hex,h.n,h.d⟩,?_⟩
 ·rcases da hg with ⟨rfl,rfl,_⟩ | ⟨cm,qd⟩
  ·rw [bH] at lH
   cases lH
   exact ⟨by rw [hlen]; exact q0,oS,BW,vs',setRow_heap w _ _ _ _ (0,0) hb,p2,p3,by rw [eO]; exact p4,p5,hr.mono hex,h1,ht⟩
  ·refine (h.g.obj jz go ro qd lH).mono hex (fun b' iS=>setRow_other w _ b' _ (fun e=>cm ?_)) (fun _ _ _ hi=>hi)
   subst e
   exact h.g.inj id jz _ _ b' bH lH rfl iS
 ·exact h.b.cq hex (fun k cs' iK=>setRow_other w _ _ _ (D5 k cs' iK)) (fun _ _ _ _ hi=>hi) (fun _ _ _ hl=>hl)
 ·have As:Own R β s.boxes b:=.inl ⟨id,_,bH,rfl⟩
  exact ⟨hex,rfl,rfl,rfl,by simp,fun b' _ hn=>setRow_other w _ b' _ (fun e=>hn (e ▸ As)),fun _ _ hb=>hb,fun b o hi _ _=>hi⟩
theorem bi.FF (h:bi E R w β s a) {id b c i off:Nat} {es:List AV} {sz:Nat} {el:TypeId} {cur:Array Value} {vs us:List Value} {e':AV} (hid:nth s.G id=some (.dG es sz el)) (bH:nth R.obj id=some (.tok es.length b c))
  (hb:w.heap[b]?=some (.cells cur el (0,0))) (oS:dw sz es) (hle:es.length≤c) (oV:cur.size=c * sz) (hr:aM R w (av es) vs) (h1:∀ v∈vs,v.oneCell'=true) (ht:cur.toList.take (es.length * sz)=vs) (hi:i < es.length)
  (h2:∀ v∈us,v.oneCell'=true) (AE:off+us.length≤sz) (q9:e'.cells.length=sz) (We:e'.aV=true) (Wf:aM R w e'.cells (((vs.drop (i * sz)).take sz).take off++us++((vs.drop (i * sz)).take sz).drop (off+us.length))) :
  bi E R (w.setRow b ⟨cur.toList.take (i * sz+off)++us++cur.toList.drop (i * sz+off+us.length)⟩) β (s.bW (aD s.G id (.dG (aD es i e') sz el))) a ∧
   Step R w β s.boxes R (w.setRow b ⟨cur.toList.take (i * sz+off)++us++cur.toList.drop (i * sz+off+us.length)⟩) β s.boxes:=by
 have zr:=D3 (sz:=sz) hi
 have MI:es.length * sz≤cur.toList.length:=by
  rw [show cur.toList.length=cur.size from Array.length_toList,oV]
  exact Nat.mul_le_mul_right _ hle
 have QV:vs.length=es.length * sz:=by rw [← hr.length,cZ oS]
 refine h.AD hid bH hb (hZ _ _ _) (D2 oS q9 We) ?_ (vs':=vs.take (i * sz)++(((vs.drop (i * sz)).take sz).take off++us++((vs.drop (i * sz)).take sz).drop (off+us.length))++vs.drop (i * sz+sz)) ?_ ?_ ?_
 ·rw [List.size_toArray,← Array.length_toList]
  simp only [List.length_append,List.length_take,List.length_drop]
  omega
 ·rw [BX oS hi q9,eU _ _ _ (by rw [q9,cZ oS]; exact zr),q9]
  exact ((hr.take _).append Wf).append (hr.drop _)
 ·intro v hv
  simp only [List.mem_append] at hv
  rcases hv with (hv | ((hv | hv) | hv)) | hv
  ·exact h1 v (List.mem_of_mem_take hv)
  ·exact h1 v (List.mem_of_mem_drop (List.mem_of_mem_take (List.mem_of_mem_take hv)))
  ·exact h2 v hv
  ·exact h1 v (List.mem_of_mem_drop (List.mem_of_mem_take (List.mem_of_mem_drop hv)))
  ·exact h1 v (List.mem_of_mem_drop hv)
 ·rw [List.toList_toArray,vS _ _ _ _ _ _ MI zr AE,ht]
theorem bi.FG (h:bi E R w β s a) {id b c off:Nat} {es ns:List AV} {sz:Nat} {el:TypeId} {cur:Array Value} {vs us:List Value} (hid:nth s.G id=some (.dG es sz el)) (bH:nth R.obj id=some (.tok es.length b c))
  (hb:w.heap[b]?=some (.cells cur el (0,0))) (oS:dw sz es) (hle:es.length≤c) (oV:cur.size=c * sz) (hr:aM R w (av es) vs) (h1:∀ v∈vs,v.oneCell'=true) (ht:cur.toList.take (es.length * sz)=vs)
  (AE:off+ns.length≤es.length) (hns:dw sz ns) (hu:aM R w (av ns) us) (h2:∀ v∈us,v.oneCell'=true) :
  bi E R (w.setRow b ⟨cur.toList.take (off * sz)++us++cur.toList.drop (off * sz+us.length)⟩) β (s.bW (aD s.G id (.dG (bZ es off ns) sz el))) a ∧
   Step R w β s.boxes R (w.setRow b ⟨cur.toList.take (off * sz)++us++cur.toList.drop (off * sz+us.length)⟩) β s.boxes:=by
 have Sm:us.length=ns.length * sz:=by rw [← hu.length,cZ hns]
 have zr:off * sz+ns.length * sz≤es.length * sz:=by rw [← Nat.add_mul]; exact Nat.mul_le_mul_right _ AE
 have MI:es.length * sz≤cur.toList.length:=by
  rw [show cur.toList.length=cur.size from Array.length_toList,oV]
  exact Nat.mul_le_mul_right _ hle
 have QV:vs.length=es.length * sz:=by rw [← hr.length,cZ oS]
 have hm:=vS cur.toList us (es.length * sz) (off * sz) (ns.length * sz) 0 MI zr (by omega)
 simp only [Nat.add_zero,List.take_zero,List.nil_append,Nat.zero_add] at hm
 rw [Sm,ht,show List.drop (ns.length * sz) (List.take (ns.length * sz) (List.drop (off * sz) vs))=[] from List.drop_of_length_le (by rw [List.length_take]; exact Nat.min_le_left _ _),List.append_nil] at hm
 rw [eU _ _ _ AE]
 refine h.AD hid bH hb (by simp; omega) (rm (rm (zq _ oS) hns) (G8 _ oS)) ?_ (vs':=vs.take (off * sz)++us++vs.drop (off * sz+ns.length * sz)) ?_ ?_ ?_
 ·rw [List.size_toArray,← Array.length_toList]
  simp only [List.length_append,List.length_take,List.length_drop,Sm]
  omega
 ·rw [cK,cK,jn _ oS,nY _ oS,Nat.add_mul]
  exact ((hr.take _).append hu).append (hr.drop _)
 ·intro v hv
  simp only [List.mem_append] at hv
  rcases hv with (hv | hv) | hv
  ·exact h1 v (List.mem_of_mem_take hv)
  ·exact h2 v hv
  ·exact h1 v (List.mem_of_mem_drop hv)
 ·rw [List.toList_toArray,Sm]
  exact hm
theorem BY (h:bi E R w β s a) (t:TypeId) (p x:Operand) (ho:o.op=.store t p x) (hd:o.dst=none) {s':St} (hs:jC E s t (bw E s.af p) (bw E s.af x)=some (true,s')) :
  bQ E R w β s a o s':=by
 have rp:=aT h p
 have rx:=aT h x
 unfold jC at hs
 split at hs
 ·rename_i id f i off sz ty VY
  rw [VY] at rp
  have V0:Rel R w (.gp id f i off sz ty) (a.eval p):=rp
  generalize V1:a.eval p=pv at V0
  split at hs
  ·rename_i ti v es bE el Sh hx hid
   rw [hx] at rx
   split at hs
   ·rename_i fF
    simp only [Bool.and_eq_true] at fF
    obtain ⟨⟨MD,hlen⟩,Sn⟩:=fF
    have hlen:=Nat.eq_of_beq_eq_true hlen
    have Sn:=Nat.eq_of_beq_eq_true Sn
    subst Sn
    have rxw:Rel R w v (a.eval x):=rx
    obtain ⟨c1,c2⟩:=Rel.cells rxw MD
    have BD:v.cells.length=(a.eval x).cells.toList.length:=c1.length
    cases V0 with
    | @gp _ _ _ _ _ b o' _ ro bH dE=>
    obtain ⟨b',c',cur,vs,rfl,g1,g2,g3,g4,g5,g6,g7,g8,g9⟩:=lr h.g hid bH (fun k=>by subst k; exact dE)
    have QV:vs.length=es.length * sz:=by rw [← g7.length,cZ g1]
    have MI:es.length * sz≤cur.toList.length:=by
     rw [show cur.toList.length=cur.size from Array.length_toList,g5]
     exact Nat.mul_le_mul_right _ g3
    split at hs
    ·rename_i hw
     rw [Bool.and_eq_true] at hw
     have AE:=Nat.eq_of_beq_eq_true hw.1
     have Vl:=Nat.eq_of_beq_eq_true hw.2
     subst AE
     injection hs with hs
     injection hs with h1 h2
     rw [Bool.and_eq_true,decide_eq_true_eq,decide_eq_true_eq] at h1
     subst h2
     obtain ⟨rfl,rfl⟩:=dE.2 h1.1
     have zr:=D3 (sz:=sz) h1.2
     have bt:=jU (E:=E) (w:=w) Sh (b:=b) (vs:=cur.toList) (off:=i * sz+0) (c:=a.eval x) g2 (by rw [← BD]; exact hlen) (by rw [← BD]; omega) c2
     obtain ⟨r1,r2⟩:=h.FF (us:=(a.eval x).cells.toList) (off:=0) (i:=i) (e':=v) hid bH g2 g1 g3 g5 g7 g8 g9 h1.2 c2 (by rw [← BD]; omega) (by omega) MD (by
      rw [List.take_zero,List.nil_append,Nat.zero_add,List.drop_of_length_le (by rw [List.length_take,← BD]; omega),List.append_nil]
      exact c1)
     simp only [Nat.add_zero] at V1 bt r1 r2
     refine ⟨.skip,undef,_,R,β,?_,.inr ⟨rfl,rfl⟩,by rw [hd]; exact r1,r2⟩
     simp [execOp,ho,Instr.storeAt,V1,Instr.sureAddr,bt]
    ·split at hs
     ·rename_i cc cs hg
      split at hs
      ·rename_i hw
       simp only [Bool.and_eq_true] at hw
       obtain ⟨hle,Sp⟩:=hw
       have hle:=Nat.le_of_ble_eq_true hle
       have Sp:=Nat.eq_of_beq_eq_true Sp
       injection hs with hs
       injection hs with h1 h2
       subst h1; subst h2
       obtain ⟨es0,el0,e,I0,Sl,he,uD⟩:=vT hg
       rw [hid] at I0
       cases I0
       obtain ⟨rfl,rfl⟩:=dE.2 Sl
       have hi:i < es.length:=bF he
       have zr:=D3 (sz:=sz) hi
       have ZG:=g1 e (FE he)
       have eh:aM R w e.cells ((vs.drop (i * sz)).take sz):=by
        rw [← qh g1 he]
        exact (g7.drop _).take _
       have hw:=(uD.cells ZG.2).rel eh
       have hw':aM R w cs ((vs.drop (i * sz)).take sz):=hw
       have bt:=jU (E:=E) (w:=w) Sh (b:=b) (vs:=cur.toList) (off:=i * sz+off) (c:=a.eval x) g2 (by rw [← BD]; exact hlen) (by rw [← BD]; omega) c2
       have zt:off+v.cells.length≤cs.length:=by omega
       obtain ⟨r1,r2⟩:=h.FF (us:=(a.eval x).cells.toList) (off:=off) (i:=i) (e':=.agg (bZ cs off v.cells)) hid bH g2 g1 g3 g5 g7 g8 g9 hi c2 (by rw [← BD]; omega) (by show (bZ cs off v.cells).length=sz; rw [yC _ _ _ zt]; exact Sp) rfl (by
        show aM R w (bZ cs off v.cells) _
        rw [eU _ _ _ zt,BD]
        exact ((hw'.take _).append c1).append (hw'.drop _))
       refine ⟨.skip,undef,_,R,β,?_,.inr ⟨rfl,rfl⟩,by rw [hd]; exact r1,r2⟩
       simp [execOp,ho,Instr.storeAt,V1,Instr.sureAddr,bt]
      ·cases hs
     ·cases hs
   ·cases hs
  ·cases hs
 ·split at hs
  ·rename_i BZ hv
   injection hs with hs
   injection hs with h1 h2
   subst h2
   exact DP h t p x ho hd hv
  ·cases hs
def ai.reset (R:ai) (id:Nat) (ro:RO):ai:=⟨R.I,aD R.obj id ro⟩
theorem vU {id g:Nat} {r0 ro:RO} (hid:nth R.obj id=some r0) (bH:∀ b,ro.has b→b=g) {b:Nat} (hl:Live (R.reset id ro) b):b=g∨Live R b:=by
 obtain ⟨i,r,h1,h2⟩:=hl
 rcases aI hid h1 with ⟨_,rfl⟩ | ⟨_,h1⟩
 ·exact .inl (bH b h2)
 ·exact .inr ⟨i,r,h1,h2⟩
theorem bi.Sq (h:bi E R w β s a) {cur:Array Value} {vs:List Value} {es es':List AV} {elem:TypeId} {sz cap id:Nat} {r0:RO} (hg:nth s.G id=some (.dG es sz elem)) (hid:nth R.obj id=some r0) (hf:∀ b c,cw r0 (.tok es'.length b c))
  (hn:es'.length≤cap) (hm:cap≤maxLen) (hs:cur.size=cap * sz) (oS:dw sz es') (hr:aM R w (av es') vs) (h1:∀ v∈vs,v.oneCell'=true) (ht:cur.toList.take (es'.length * sz)=vs) :
  bi E (R.reset id (.tok es'.length w.heap.size cap)) (w.drew.alloc (.cells cur elem)) β (s.bW (aD s.G id (.dG es' sz elem))) a ∧
  Step R w β s.boxes (R.reset id (.tok es'.length w.heap.size cap)) (w.drew.alloc (.cells cur elem)) β s.boxes:=by
 have e:Ext R w (R.reset id (.tok es'.length w.heap.size cap)) (w.drew.alloc (.cells cur elem)):=
  ⟨fun _ _ h=>h,fun b o hi=>bV (heap_alloc_old w.drew _ b (h.g.wf b o hi)) o,fun i r hr=>by
   by_cases ei:id=i
   ·subst ei
    rw [hid] at hr
    cases hr
    exact ⟨_,aJ hid,hf _ _⟩
   ·exact ⟨r,by rw [ai.reset,bD ei]; exact hr,cw.refl r⟩,.old fun b hb=>heap_alloc_old w.drew _ b hb⟩
 have old:∀ b,b < w.heap.size→(w.drew.alloc (.cells cur elem)).heap[b]?=w.heap[b]?:=fun b hb=>heap_alloc_old w.drew _ b hb
 have new:(w.drew.alloc (.cells cur elem)).heap[w.heap.size]?=some (.cells cur elem (0,0)):=heap_alloc_new w.drew _
 have live:∀ b,b < w.heap.size→Live (R.reset id (.tok es'.length w.heap.size cap)) b→Live R b:=fun b hb hl=>by
  rcases vU (g:=w.heap.size) (ro:=.tok es'.length w.heap.size cap) hid (fun _ h=>h) hl with rfl | hl
  ·omega
  ·exact hl
 refine ⟨⟨⟨by simp [St.bW,ai.reset,h.g.len],fun i gg r sO h2=>?_,fun i j ri rj b sO h2 b1 b2=>?_,fun b o hi=>?_,fun g cs hg=>(h.g.b6 g cs hg).mono e,Nat.le_succ_of_le h.g.lo⟩,?_,h.t.mono e,h.n,h.d.mono e⟩,?_⟩
 ·rcases aI hid h2 with ⟨rfl,rfl⟩ | ⟨cm,h2⟩
  ·simp only [St.bW] at sO
   rw [aJ hg] at sO
   cases sO
   exact ⟨rfl,oS,cur,vs,new,hn,hm,hs,fun o hi=>by have:=h.g.wf _ _ hi; omega,hr.mono e,h1,ht⟩
  ·simp only [St.bW] at sO
   rw [bD (Ne.symm cm)] at sO
   exact (h.g.obj i gg r sO h2).mono e (fun b hb=>old b (h.g.bS ⟨i,r,h2,hb⟩)) (fun b o _ hi=>hi)
 ·rcases aI hid sO with ⟨g3,e1⟩ | ⟨g3,g1⟩
  ·rcases aI hid h2 with ⟨g4,e2⟩ | ⟨g4,g2⟩
   ·omega
   ·have:=h.g.bS ⟨j,rj,g2,b2⟩
    rw [e1] at b1
    simp [RO.has] at b1
    omega
  ·rcases aI hid h2 with ⟨g4,e2⟩ | ⟨g4,g2⟩
   ·have:=h.g.bS ⟨i,ri,g1,b1⟩
    rw [e2] at b2
    simp [RO.has] at b2
    omega
   ·exact h.g.inj i j ri rj b g1 g2 b1 b2
 ·have:=h.g.wf b o hi
  simp
  omega
 ·exact h.b.cq e (fun k cs hk=>old _ (h.ee (.inr ⟨k,cs,hk,rfl⟩))) (fun k cs o hk hi=>hi) (fun k cs hk hl=>live _ (h.ee (.inr ⟨k,cs,hk,rfl⟩)) hl)
 ·refine ⟨e,rfl,rfl,rfl,by simp,fun b hb _=>old b hb,fun b hb ho=>?_,fun b o hi hb _=>hi⟩
  rcases ho with ho | ho
  ·exact .inl (live b hb ho)
  ·exact .inr ho
theorem bi.M5 (h:bi E R w β s a) {cur cur2:Array Value} {vs:List Value} {es es':List AV} {elem:TypeId} {sz id g c:Nat} (hg:nth s.G id=some (.dG es sz elem)) (hid:nth R.obj id=some (.tok es.length g c)) (cg:es.length < es'.length) (hn:es'.length≤c)
  (iN:w.heap[g]?=some (.cells cur elem (0,0))) (hs:cur2.size=cur.size) (oS:dw sz es') (hr:aM R w (av es') vs) (h1:∀ v∈vs,v.oneCell'=true) (ht:cur2.toList.take (es'.length * sz)=vs) :
  bi E (R.reset id (.tok es'.length g c)) (w.setRow g cur2) β (s.bW (aD s.G id (.dG es' sz elem))) a ∧
  Step R w β s.boxes (R.reset id (.tok es'.length g c)) (w.setRow g cur2) β s.boxes:=by
 obtain ⟨q0,q1,Wd,vs0,p1,p2,p3,p4,p5,p6,p7,p8⟩:=h.g.obj id _ _ hg hid
 rw [iN] at p1
 cases p1
 have qf:Live R g:=⟨id,_,hid,rfl⟩
 have old:∀ b,b≠g→(w.setRow g cur2).heap[b]?=w.heap[b]?:=fun b hb=>setRow_other w g b cur2 hb
 have new:(w.setRow g cur2).heap[g]?=some (.cells cur2 elem (0,0)):=setRow_heap w g cur cur2 elem (0,0) iN
 have e:Ext R w (R.reset id (.tok es'.length g c)) (w.setRow g cur2):=by
  have e0:=iT (R:=R) (w:=w) p5 cur2
  refine ⟨fun _ _ h=>h,e0.cell,fun i r hr=>?_,e0.lp⟩
  by_cases ei:id=i
  ·subst ei
   rw [hid] at hr
   cases hr
   exact ⟨_,aJ hid,by omega,fun e=>by omega⟩
  ·exact ⟨r,by rw [ai.reset,bD ei]; exact hr,cw.refl r⟩
 have live:∀ b,Live (R.reset id (.tok es'.length g c)) b→Live R b:=fun b hl=>by
  rcases vU (g:=g) (ro:=.tok es'.length g c) hid (fun _ h=>h) hl with rfl | hl
  ·exact qf
  ·exact hl
 have qg:∀ k cs,dm s.boxes k=some cs→β k≠g:=fun k cs hk eq=>(h.b.box k cs hk).2.2 (eq ▸ qf)
 refine ⟨⟨⟨by simp [St.bW,ai.reset,h.g.len],fun i gg r sO h2=>?_,fun i j ri rj b sO h2 b1 b2=>?_,fun b o hi=>?_,fun g cs hg=>(h.g.b6 g cs hg).mono e,h.g.lo⟩,?_,h.t.mono e,h.n,h.d.mono e⟩,?_⟩
 ·rcases aI hid h2 with ⟨rfl,rfl⟩ | ⟨cm,h2⟩
  ·simp only [St.bW] at sO
   rw [aJ hg] at sO
   cases sO
   exact ⟨rfl,oS,cur2,vs,new,hn,p3,by rw [hs]; exact p4,p5,hr.mono e,h1,ht⟩
  ·simp only [St.bW] at sO
   rw [bD (Ne.symm cm)] at sO
   have Sj:∀ b,r.has b→b≠g:=fun b hb eq=>cm (h.g.inj i id _ _ b h2 hid hb (by rw [eq]; rfl))
   exact (h.g.obj i gg r sO h2).mono e (fun b hb=>old b (Sj b hb)) (fun b o hb hi=>hi)
 ·rcases aI hid sO with ⟨g3,e1⟩ | ⟨g3,g1⟩
  ·rcases aI hid h2 with ⟨g4,e2⟩ | ⟨g4,g2⟩
   ·omega
   ·rw [e1] at b1
    exact g3.trans (h.g.inj id j _ _ b hid g2 b1 b2)
  ·rcases aI hid h2 with ⟨g4,e2⟩ | ⟨g4,g2⟩
   ·rw [e2] at b2
    exact (h.g.inj i id _ _ b g1 hid b1 b2).trans g4.symm
   ·exact h.g.inj i j ri rj b g1 g2 b1 b2
 ·have:=h.g.wf b o hi
  simpa using this
 ·exact h.b.cq e (fun k cs hk=>old _ (qg k cs hk)) (fun k cs o hk hi=>hi) (fun k cs hk hl=>live _ hl)
 ·refine ⟨e,rfl,rfl,rfl,by simp,fun b hb sV=>old b (fun eq=>sV (.inl (eq ▸ qf))),fun b hb ho=>?_,fun b o hi hb sV=>hi⟩
  rcases ho with ho | ho
  ·exact .inl (live b ho)
  ·exact .inr ho
theorem bi.D6 (h:bi E R w β s a) {cur:Array Value} {vs:List Value} {es:List AV} {elem:TypeId} {sz cap:Nat} (hn:es.length≤cap) (hm:cap≤maxLen) (hs:cur.size=cap * sz) (oS:dw sz es) (hr:aM R w (av es) vs) (h1:∀ v∈vs,v.oneCell'=true) (ht:cur.toList.take (es.length * sz)=vs) :
  bi E (R.add (.tok es.length w.heap.size cap)) (w.alloc (.cells cur elem)) β (s.dO (.dG es sz elem)) a:=
 h.lG (.cells cur elem) (.dG es sz elem) (.tok es.length w.heap.size cap) (by exact fun _ h=>h)
  ⟨rfl,oS,cur,vs,heap_alloc_new w _,hn,hm,hs,fun o hi=>by have:=h.g.wf _ _ hi; omega,hr.mono (gQ h.g.wf _ _),h1,ht⟩
theorem uE (h:bi E R w β s a) (t:TypeId) (x y:Operand) (ho:o.op=.makeSlice t x y) {i:TI} (hi:E.ti t=some i) {k k':IntKind} {n m:Int} (hx:bw E s.af x=.v (.int k n)) (hy:bw E s.af y=.v (.int k' m))
  {elem esz nT:Nat} {ag:Bool} {z:AV} (hk:i.k=.sl elem esz ag nT (some z)) (hz:z.cells.length=esz) (G7:1≤esz) (qN:z.aV=true) (qe:z.closed=true) (hc:0≤n∧n≤m∧m≤140737488355328∧m * nT≤140737488355328) :
  bQ E R w β s a o ((s.dO (.dG (List.replicate n.toNat z) esz elem)).put o.dst (.v (.dX s.G.length n.toNat 0 esz n.toNat))):=by
 obtain ⟨us,z1,z2,bt⟩:=pM h t x y ho hi hx hy hk hz G7 qN hc
 have Vm:n.toNat≤m.toNat:=by omega
 have oS:=(fP (n:=m.toNat) hz qN qe).g
 have Sm:us.length=m.toNat * esz:=by rw [← z1.length,cZ oS,List.length_replicate]
 have MI:(List.replicate n.toNat z).length=n.toNat:=List.length_replicate
 have DC:(List.replicate m.toNat z).take n.toNat=List.replicate n.toNat z:=by rw [List.take_replicate,Nat.min_eq_left Vm]
 have hr:aM R w (av (List.replicate n.toNat z)) (us.take (n.toNat * esz)):=by
  rw [← DC,jn _ oS]
  exact z1.take _
 have r1:=h.D6 (cur:=⟨us⟩) (vs:=us.take (n.toNat * esz)) (es:=List.replicate n.toNat z) (elem:=elem) (cap:=m.toNat) (by rw [MI]; exact Vm) (by unfold maxLen; omega) (by simpa using Sm) (fP hz qN qe).g hr (fun v hv=>z2 v (List.mem_of_mem_take hv)) (by rw [MI])
 rw [MI] at r1
 have e:=gQ (R:=R) (w:=w) h.g.wf (.cells ⟨us⟩ elem) (.tok n.toNat w.heap.size m.toNat)
 exact ⟨_,.slice (some ⟨w.heap.size,0,none⟩) n.toNat m.toNat,_,R.add (.tok n.toNat w.heap.size m.toNat),β,bt,.inl rfl,r1.put o.dst (x:=.v (.dX s.G.length n.toNat 0 esz n.toNat)) (Rel.dX (gn h _) ⟨Nat.le_refl _,fun _=>⟨rfl,Nat.zero_add _,.inl (Nat.zero_mul _).symm⟩⟩ Vm),by rw [a7]; exact cN h _ _ (by exact fun _ h=>h)⟩
theorem sW (h:bi E R w β s a) (t:TypeId) (len:Nat) (parts:Array (Nat × Operand)) (ho:o.op=.buildSlice t len parts) {k:LK} {esz:Nat} {es:List AV} (hv:bX E s t len parts.toList=some (.list k esz es)) {i:TI} (hi:E.ti t=some i) {elem bE nT:Nat} {ag:Bool} {z:Option AV} (hk:i.k=.sl elem bE ag nT z) (hm:len≤65536) :
  bQ E R w β s a o ((s.dO (.dG es esz elem)).put o.dst (.v (.dX s.G.length len 0 esz len))):=by
 obtain ⟨es',Sd,us,Wb,V8,bt,g2,hlen,u2,u3,i',ZE,V7,z',qM,iK⟩:=iD h t len parts ho hv
 cases V8
 rw [hi] at qM
 cases qM
 rw [hk] at iK
 cases iK
 have Wc:us.length=len * esz:=by rw [← u2.length,dL g2,hlen]
 have r1:=h.D6 (cur:=⟨us⟩) (vs:=us) (es:=es) (elem:=elem) (cap:=len) (by rw [hlen]; exact Nat.le_refl _) (by simp [maxLen]; omega) (by simpa using Wc) g2.g u2 u3 (by rw [hlen,← Wc]; exact List.take_length)
 rw [hlen] at r1
 exact ⟨_,.slice (some ⟨w.heap.size,0,none⟩) len len,_,R.add (.tok len w.heap.size len),β,bt,.inl rfl,r1.put o.dst (x:=.v (.dX s.G.length len 0 esz len)) (Rel.dX (gn h _) ⟨Nat.le_refl _,fun _=>⟨rfl,Nat.zero_add _,.inl (Nat.zero_mul _).symm⟩⟩ (Nat.le_refl _)),by rw [a7]; exact cN h _ _ (by exact fun _ h=>h)⟩
end ops
end Go.Am
namespace Go.Am
open Go
section fams
variable {E:Env} {R R':ai} {w w':World} {β β':Nat→Nat} {s s':St} {a a':Act} {o:Oper}
theorem sX {α:Type} {l r:List α} {i:Nat} {x:α} (h:nth r i=some x):nth (l++r) (l.length+i)=some x:=by
 rw [a8] at *
 rw [List.getElem?_append_right (Nat.le_add_right _ _),Nat.add_sub_cancel_left]
 exact h
theorem uF {α:Type} {l r:List α} {i:Nat} {x:α} (h:nth l i=some x):nth (l++r) i=some x:=by
 have:=bF h
 rw [a8] at *
 rw [List.getElem?_append_left this]
 exact h
theorem dQ {α:Type} {l r:List α} {i:Nat} {x:α} (h:nth (l++r) i=some x):nth l i=some x∨∃ j,i=l.length+j∧nth r j=some x:=by
 rw [a8] at h
 rcases Nat.lt_or_ge i l.length with cg | sA
 ·rw [List.getElem?_append_left cg] at h
  exact .inl (by rw [a8]; exact h)
 ·rw [List.getElem?_append_right sA] at h
  exact .inr ⟨i - l.length,by omega,by rw [a8]; exact h⟩
theorem bi.D7 (h:bi E R w β s a) {id sz:Nat} {e:TypeId} {fs:List Nat} (hid:nth s.G id=some (.bf fs sz e)) {nfs:List Nat} {nts:List TR} (hl:nts.length=nfs.length)
  (dE:∀ j f t,nth nfs j=some f→nth nts j=some t→zh R w sz e f t) (sV:∀ j f b c,nth nts j≠some (.tok f b c)) {ro:RO} (bH:nth R.obj id=some ro) :
  ∃ ts,ro=.bf ts∧ts.length=fs.length∧bi E (R.reset id (.bf (ts++nts))) w β (s.bW (aD s.G id (.bf (fs++nfs) sz e))) a∧Step R w β s.boxes (R.reset id (.bf (ts++nts))) w β s.boxes:=by
 have cH:=h.g.obj id _ _ hid bH
 cases ro with
 | none=>exact cH.elim
 | bz=>exact cH.elim
 | bU _=>exact cH.elim
 | tok _ _ _=>exact cH.elim
 | bf ts=>
 obtain ⟨q1,q2,q3⟩:=cH
 have vQ:∀ b,RO.has (.bf (ts++nts)) b→RO.has (.bf ts) b:=fun b ⟨j,f,c,hj⟩=>by
  rcases dQ hj with hj | ⟨i,_,hi⟩
  ·exact ⟨j,f,c,hj⟩
  ·exact absurd hi (sV i f b c)
 have ext:Ext R w (R.reset id (.bf (ts++nts))) w:=⟨fun _ _ h=>h,fun _ _ _=>rfl,fun i r hr=>by
  by_cases e:id=i
  ·subst e
   rw [bH] at hr
   cases hr
   exact ⟨_,aJ bH,fun j t hj=>⟨t,uF hj,lF.refl t⟩⟩
  ·exact ⟨r,by rw [ai.reset,bD e]; exact hr,cw.refl r⟩,gC.refl w⟩
 have live:∀ b,Live (R.reset id (.bf (ts++nts))) b→Live R b:=fun b ⟨i,r,h1,h2⟩=>by
  rcases aI bH h1 with ⟨_,rfl⟩ | ⟨_,h1⟩
  ·exact ⟨id,_,bH,vQ b h2⟩
  ·exact ⟨i,r,h1,h2⟩
 refine ⟨ts,rfl,q1,⟨⟨by simp [St.bW,ai.reset,h.g.len],fun i g r h1 h2=>?_,fun i j ri rj b h1 h2 b1 b2=>?_,h.g.wf,fun g cs hg=>(h.g.b6 g cs hg).mono ext,h.g.lo⟩,h.b.cq ext (fun _ _ _=>rfl) (fun _ _ _ _ h=>h) (fun _ _ _ hl=>live _ hl),h.t.mono ext,h.n,h.d.mono ext⟩,?_⟩
 ·rcases aI bH h2 with ⟨rfl,rfl⟩ | ⟨cm,h2⟩
  ·simp only [St.bW] at h1
   rw [aJ hid] at h1
   cases h1
   refine ⟨by simp [q1,hl],fun i j f b c f' c' hi hj=>?_,fun j f t hf ht=>?_⟩
   ·rcases dQ hi with hi | ⟨_,_,hi⟩
    ·rcases dQ hj with hj | ⟨_,_,hj⟩
     ·exact q2 i j _ _ _ _ _ hi hj
     ·exact absurd hj (sV _ _ _ _)
    ·exact absurd hi (sV _ _ _ _)
   ·rcases dQ hf with MJ | ⟨k,hk,MJ⟩
    ·rcases dQ ht with ht | ⟨k',iK,ht⟩
     ·exact q3 j f t MJ ht
     ·have:=bF MJ
      omega
    ·rcases dQ ht with ht | ⟨k',iK,ht⟩
     ·have:=bF ht
      omega
     ·have IP:k=k':=by omega
      subst IP
      exact dE k f t MJ ht
  ·simp only [St.bW] at h1
   rw [bD (Ne.symm cm)] at h1
   exact (h.g.obj i g r h1 h2).mono ext (fun _ _=>rfl) (fun _ _ _ h=>h)
 ·rcases aI bH h1 with ⟨g3,e1⟩ | ⟨g3,g1⟩
  ·rcases aI bH h2 with ⟨g4,e2⟩ | ⟨g4,g2⟩
   ·omega
   ·rw [e1] at b1
    exact g3.trans (h.g.inj id j _ _ b bH g2 (vQ b b1) b2)
  ·rcases aI bH h2 with ⟨g4,e2⟩ | ⟨g4,g2⟩
   ·rw [e2] at b2
    exact (h.g.inj i id _ _ b g1 bH b1 (vQ b b2)).trans g4.symm
   ·exact h.g.inj i j ri rj b g1 g2 b1 b2
 ·refine ⟨ext,rfl,rfl,rfl,Nat.le_refl _,fun _ _ _=>rfl,fun b _ ho=>?_,fun _ _ h _ _=>h⟩
  rcases ho with ho | ho
  ·exact .inl (live b ho)
  ·exact .inr ho
theorem bQ.step {s1:St} {s2:St} (e:s1.boxes=s.boxes) (st:Step R w β s.boxes R' w β s.boxes) (h:bQ E R' w β s1 a o s2):bQ E R w β s a o s2:=by
 obtain ⟨nx,x,w',R2,β',h1,h2,h3,h4⟩:=h
 rw [e] at h4
 exact ⟨nx,x,w',R2,β',h1,h2,h3,st.trans h4⟩
theorem Wg {c:Bool} {α:Type} {a b:α} (h:(bif c then some a else none)=some b):c=true∧a=b:=by
 cases c
 ·cases h
 ·exact ⟨rfl,Option.some.inj h⟩
theorem mQ {sz:Nat} {e:TypeId}:∀ {G:List GO} {i j:Nat},jd G sz e i=some j→∃ fs,nth G (j - i)=some (.bf fs sz e)∧i≤j
 | [],i,j,h=>by cases h
 | g :: G,i,j,h=>by
  have step:jd G sz e (i+1)=some j→∃ fs,nth (g :: G) (j - i)=some (.bf fs sz e)∧i≤j:=fun h=>by
   obtain ⟨fs,h1,h2⟩:=mQ h
   refine ⟨fs,?_,by omega⟩
   rw [show j - i=(j - (i+1))+1 by omega]
   exact h1
  unfold jd at h
  split at h
  ·rename_i ke
   cases ke
  ·rename_i ke
   obtain ⟨rfl,rfl⟩:=List.cons.inj ke
   split at h
   ·rename_i j' hj
    cases h
    exact step hj
   ·obtain ⟨hc,rfl⟩:=Wg h
    ·rw [Bool.and_eq_true] at hc
     have h1:=Nat.eq_of_beq_eq_true hc.1
     have h2:=Nat.eq_of_beq_eq_true hc.2
     subst h1 h2
     exact ⟨_,by rw [Nat.sub_self]; rfl,Nat.le_refl _⟩
  ·rename_i x G1 _ _ _ hn ke
   obtain ⟨rfl,rfl⟩:=List.cons.inj ke
   exact step h
theorem bi.FH {s0:St} {d:Option Tmp} {x y:AV} (h:bi E R w β (s0.put d (.v x)) a) (hw:∀ c,Rel R w x c→Rel R w y c):bi E R w β (s0.put d (.v y)) a:=by
 cases d with
 | none=>exact h
 | some d=>
  simp only [St.put] at h ⊢
  cases hb:Nat.blt d s0.n with
  | false=>rw [hb] at h; exact h
  | true=>
   rw [hb] at h
   refine ⟨h.g,h.b,fun i hi=>?_,h.n,h.d⟩
   by_cases e:d=i
   ·subst e
    rw [aA]
    obtain ⟨c,k1,k2⟩:=h.t d (by rw [aA]; simp)
    rw [aA] at k2
    exact ⟨c,k1,hw c k2⟩
   ·rw [aR e] at hi ⊢
    have:=h.t i (by rw [aR e]; exact hi)
    rw [aR e] at this
    exact this
theorem bQ.FH {s0:St} {x y:AV} (h:bQ E R w β s a o (s0.put o.dst (.v x))) (hw:∀ R' w',Ext R w R' w'→∀ c,Rel R' w' x c→Rel R' w' y c):bQ E R w β s a o (s0.put o.dst (.v y)):=by
 obtain ⟨nx,v,w',R',β',h1,h2,h3,h4⟩:=h
 refine ⟨nx,v,w',R',β',h1,h2,h3.FH (hw R' w' h4.ext),?_⟩
 rw [a7] at h4 ⊢
 exact h4
end fams
section ops
variable {E:Env} {R:ai} {w:World} {β:Nat→Nat} {s:St} {a:Act} {o:Oper}
theorem fQ {k:LK} {sz esz:Nat} {es:List AV} {c:Value} (h:Rel R w (.list k sz es) c) (eO:es=[]∨sz=esz) :
  ji esz es∧∃ vs,aM R w (av es) vs∧(∀ v∈vs,v.oneCell'=true)∧vs.length=es.length * esz ∧
   ((es=[]∧vs=[]∧∃ ad,c=.slice ad 0 0∧(ad=none∨k=.jP))∨∃ b o' cap,c=.slice (some ⟨b,o',none⟩) es.length cap∧es.length≤cap∧Aq R k b o' es.length cap∧(∀ j v,vs[j]?=some v→w.cell? ((⟨b,o',none⟩:Addr).add j)=some v)∧gk R w b o' esz es):=by
 cases h with
 | jE=>exact ⟨fun e he=>by simp at he,[],.nil,by simp,by simp,.inl ⟨rfl,rfl,_,rfl,.inl rfl⟩⟩
 | iR=>exact ⟨fun e he=>by simp at he,[],.nil,by simp,by simp,.inl ⟨rfl,rfl,_,rfl,.inl rfl⟩⟩
 | mL=>exact ⟨fun e he=>by simp at he,[],.nil,by simp,by simp,.inl ⟨rfl,rfl,_,rfl,.inr rfl⟩⟩
 | lZ=>exact ⟨fun e he=>by simp at he,[],.nil,by simp,by simp,.inl ⟨rfl,rfl,_,rfl,.inl rfl⟩⟩
 | lE=>exact ⟨fun e he=>by simp at he,[],.nil,by simp,by simp,.inl ⟨rfl,rfl,_,rfl,.inl rfl⟩⟩
 | @list _ _ _ b o' len cap hr hlen gX IP=>
  subst hlen
  have lH:gk R w b o' esz es:=by
   rcases eO with rfl | rfl
   ·exact .nil
   ·exact hr
  obtain ⟨g0,vs,g1,g2,g3,g4⟩:=vK lH
  refine ⟨g0,vs,g1,g2,by rw [← g1.length,dL g0],.inr ⟨b,o',cap,rfl,gX,IP,fun j v hv=>?_,lH⟩⟩
  rw [cA]
  exact g3 j v hv
theorem rn {b esz:Nat} {es:List AV} {vs:List Value} {w:World} {R:ai} (h0:ji esz es) (h:aM R w (av es) vs) (h1:∀ v∈vs,v.oneCell'=true)
  (hc:∀ j v,vs[j]?=some v→w.cell? ⟨b,j,none⟩=some v) (hI:∀ j,j < vs.length→R.I b j):gk R w b 0 esz es:=
 me h0 (dP.make h h1 (fun j v hv=>by rw [Nat.zero_add]; exact hc j v hv) (fun j hj=>by rw [Nat.zero_add]; exact hI j (by rw [← h.length]; exact hj)))
theorem ls {sz:Nat} {l r:List AV} (h:ji sz l) (k:ji sz r):ji sz (l++r):=fun e he=>by
 rcases List.mem_append.1 he with he | he
 ·exact h e he
 ·exact k e he
theorem iV {l r:List Value} (h:∀ v∈l,v.oneCell'=true) (k:∀ v∈r,v.oneCell'=true):∀ v∈l++r,v.oneCell'=true:=fun v hv=>by
 rcases List.mem_append.1 hv with hv | hv
 ·exact h v hv
 ·exact k v hv
structure YC (P:Program) (w:World) (t u ty e:TypeId) (i:TypeInfo) (z:Value) (cy:Value) (n:Nat) (us:List Value):Prop where
 zero:n=0→∀ base len cap,len≤cap→(Builtin.append_ #[t,u] ty #[.slice base len cap,cy]).run P w=.ok (.slice base len cap) w
 nil:0 < n→(n:Int)≤9223372036854775807→n * i.bytes≤281474976710656→(Builtin.append_ #[t,u] ty #[.slice none 0 0,cy]).run P w =
   .ok (.slice (some ⟨w.heap.size,0,none⟩) n (grownCap w n 0 e)) (w.drew.alloc (.cells (us.toArray++Builtin.zeroCells z.cells (grownCap w n 0 e - n)) e))
 grow:0 < n→∀ (b:Addr) (sLen lJ:Nat) (AF:List Value),AF.length=sLen * i.size→(∀ j v,AF[j]?=some v→w.cell? (b.add j)=some v)→lJ < sLen+n→((sLen+n:Nat):Int)≤9223372036854775807→Builtin.nextslicecap (sLen+n) lJ * i.bytes≤281474976710656 →
   (Builtin.append_ #[t,u] ty #[.slice (some b) sLen lJ,cy]).run P w=.ok (.slice (some ⟨w.heap.size,0,none⟩) (sLen+n) (grownCap w (sLen+n) lJ e))
    (w.drew.alloc (.cells (AF.toArray++us.toArray++Builtin.zeroCells z.cells (grownCap w (sLen+n) lJ e - (sLen+n))) e))
 room:0 < n→∀ (g sLen lJ:Nat) (cur:Array Value),w.heap[g]?=some (.cells cur e (0,0))→sLen+n≤lJ→sLen * i.size+us.length≤cur.size →
   (Builtin.append_ #[t,u] ty #[.slice (some ⟨g,0,none⟩) sLen lJ,cy]).run P w=.ok (.slice (some ⟨g,0,none⟩) (sLen+n) lJ) (w.setRow g (cur.toList.take (sLen * i.size)++us++cur.toList.drop (sLen * i.size+us.length)).toArray)
theorem nD (h:bi E R w β s a) {t u:TypeId} {id f off sz len:Nat} {y:AV} {ys:List AV} {cx cy:Value} {us:List Value}
  (fJ:∀ {c:Value} {w':World},(Builtin.append_ #[t,u] o.type #[cx,cy]).run E.P w=.ok c w'→(execOp a.eval o).run E.P w=.ok (.value c) w')
  {elem esz eb:Nat} {z:AV} (FI:1≤eb) (hz:z.cells.length=esz) (qN:z.aV=true)
  {ie:TypeInfo} (f2:ie.size=esz) (f3:ie.bytes=eb) (f6:gd ie=some z)
  (h0:Rel R w (.dX id f off sz len) cx) (hA:∀ zc:Value,ie.zero=some zc→YC E.P w t u o.type elem ie zc cy (y :: ys).length us)
  (y0:dw esz (y :: ys)) (y1:aM R w (av (y :: ys)) us) (y2:∀ v∈us,v.oneCell'=true) (y3:us.length=(y :: ys).length * esz)
  {es:List AV} (hid:nth s.G id=some (.dG es esz elem)) (hf:f=es.length) (ho0:off=0) (vN:len=f) (hb:(es.length+(y :: ys).length) * eb≤140737488355328) :
  bQ E R w β s a o ((s.bW (aD s.G id (.dG (es++(y :: ys)) esz elem))).put o.dst (.v (.dX id (es.length+(y :: ys).length) 0 esz (es.length+(y :: ys).length)))):=by
 obtain ⟨zc,qe,DB⟩:=cY f6
 have hA:=hA zc qe
 obtain ⟨d1,d2⟩:=Rel.cells (DB R w) qN
 have oV:zc.cells.size=esz:=by rw [← hz,d1.length]; simp
 have mR:0 < (y :: ys).length:=by simp
 have hm:es.length+(y :: ys).length≤140737488355328:=Nat.le_trans (Nat.le_mul_of_pos_right _ FI) hb
 have B0:(es++(y :: ys)).length=es.length+(y :: ys).length:=List.length_append
 -- where a new block has been made
 have fresh:∀ {xs:List Value} {old:Nat} {r0:RO},nth R.obj id=some r0→(∀ b c,cw r0 (.tok (es.length+(y :: ys).length) b c))→dw esz es→aM R w (av es) xs→(∀ v∈xs,v.oneCell'=true)→xs.length=es.length * esz →
   (Builtin.append_ #[t,u] o.type #[cx,cy]).run E.P w=.ok (.slice (some ⟨w.heap.size,0,none⟩) (es.length+(y :: ys).length) (grownCap w (es.length+(y :: ys).length) old elem)) (w.drew.alloc (.cells (xs.toArray++us.toArray++Builtin.zeroCells zc.cells (grownCap w (es.length+(y :: ys).length) old elem - (es.length+(y :: ys).length))) elem)) →
   bQ E R w β s a o ((s.bW (aD s.G id (.dG (es++(y :: ys)) esz elem))).put o.dst (.v (.dX id (es.length+(y :: ys).length) 0 esz (es.length+(y :: ys).length)))):=by
  intro xs old r0 bH hle Ir Wh uA zu bt
  have sA:=grownCap_ge w (es.length+(y :: ys).length) old elem
  obtain ⟨r1,r2⟩:=h.Sq (cur:=xs.toArray++us.toArray++Builtin.zeroCells zc.cells (grownCap w (es.length+(y :: ys).length) old elem - (es.length+(y :: ys).length))) (vs:=xs++us) (es':=es++(y :: ys)) hid bH (by rw [B0]; exact hle) (by rw [B0]; exact sA) (grownCap_le_maxLen w _ old elem (by unfold maxLen; omega)) (by
   simp only [Array.size_append,List.size_toArray,size_zeroCells,oV,zu,y3,← Nat.add_mul]
   congr 1
   omega) (rm Ir y0) (by rw [cK]; exact Wh.append y1) (iV uA y2) (by
   rw [B0]
   simp only [Array.toList_append]
   exact List.take_left' (by rw [List.length_append,zu,y3,Nat.add_mul]))
  rw [B0] at r1 r2
  refine ⟨_,_,_,_,β,fJ bt,.inl rfl,r1.put o.dst ?_,by rw [a7]; exact r2⟩
  exact Rel.dX (aJ bH) ⟨Nat.le_refl _,fun _=>⟨rfl,Nat.zero_add _,.inl (Nat.zero_mul _).symm⟩⟩ sA
 cases h0 with
 | @iM _ _ ro bH hon=>
  have cH:=h.g.obj id _ _ hid bH
  have he0:es=[]:=List.eq_nil_of_length_eq_zero hf.symm
  subst he0
  cases ro with
  | none=>exact cH.elim
  | bU _=>exact cH.elim
  | bf _=>exact cH.elim
  | tok f' g c=>
   obtain ⟨rfl,_⟩:=cH
   simp [mK] at hon
  | bz=>
   simp only [List.length_nil] at hb
   have bt:=hA.nil mR (by omega) (by rw [f3]; rw [Nat.zero_add] at hb; omega)
   exact fresh (xs:=[]) (old:=0) bH (fun b c=>by simp only [cw]; omega) (fun e he=>by simp at he) .nil (by simp) (by simp) (by simpa using bt)
 | @dX _ _ _ _ _ cap b o' ro bH dE gX=>
  subst hf; subst ho0; subst vN
  obtain ⟨b',c',cur,vs,rfl,g1,g2,g3,g4,g5,g6,g7,g8,g9⟩:=lr h.g hid bH (fun k=>by subst k; exact dE)
  obtain ⟨rfl,BE,sB⟩:=dE.2 rfl
  rw [Nat.zero_add] at BE
  subst BE
  have QV:vs.length=es.length * esz:=by rw [← g7.length,cZ g1]
  have fR:∀ j v,vs[j]?=some v→cur[j]?=some v:=fun j v hj=>by
   rw [← g9,List.getElem?_take] at hj
   split at hj
   ·rw [← Array.getElem?_toList]; exact hj
   ·cases hj
  by_cases gI:es.length+(y :: ys).length≤cap
  ·have nL:o'=0:=by
    rcases sB with sB | sB
    ·rw [sB,Nat.zero_mul]
    ·rw [List.length_cons] at gI; omega
   subst nL
   have hle:(es.length+(y :: ys).length) * esz≤cap * esz:=Nat.mul_le_mul_right _ gI
   have bt:=hA.room mR b es.length cap cur g2 gI (by rw [f2,y3,← Nat.add_mul,g5]; exact hle)
   rw [f2] at bt
   have iz:cur.toList.length=cap * esz:=by rw [show cur.toList.length=cur.size from Array.length_toList,g5]
   obtain ⟨r1,r2⟩:=h.M5 (cur2:=(cur.toList.take (es.length * esz)++us++cur.toList.drop (es.length * esz+us.length)).toArray) (vs:=vs++us) (es':=es++(y :: ys)) hid bH (by rw [B0]; omega) (by rw [B0]; exact gI) g2 (by
    rw [List.size_toArray,← Array.length_toList]
    simp only [List.length_append,List.length_take,List.length_drop,y3,iz]
    rw [Nat.add_mul] at hle
    omega) (rm g1 y0) (by rw [cK]; exact g7.append y1) (iV g8 y2) (by
    rw [B0,List.toList_toArray,g9]
    exact List.take_left' (by rw [List.length_append,QV,y3,Nat.add_mul]))
   rw [B0] at r1 r2
   refine ⟨_,_,_,_,β,fJ bt,.inl rfl,r1.put o.dst ?_,by rw [a7]; exact r2⟩
   exact Rel.dX (aJ bH) ⟨Nat.le_refl _,fun _=>⟨rfl,Nat.zero_add _,.inl (Nat.zero_mul _).symm⟩⟩ gI
  ·have bt:=hA.grow mR ⟨b,o',none⟩ es.length cap vs (by rw [QV,f2]) (fun j v hj=>by
    rw [cA]
    have MG:=(List.getElem?_eq_some_iff.1 hj).1
    have nL:o'=0:=by
     rcases sB with sB | sB
     ·rw [sB,Nat.zero_mul]
     ·have:es.length=0:=by omega
      rw [QV,this] at MG
      omega
    subst nL
    rw [Nat.zero_add,cell_of_row w b j cur elem (0,0) g2]
    exact fR j v hj) (by omega) (by omega) (growslice_fits (by omega) (by rw [f3]; exact hb))
   exact fresh (xs:=vs) (old:=cap) bH (fun b c=>⟨by omega,fun e=>by omega⟩) g1 g7 g8 QV bt
theorem mg (h:bi E R w β s a) {t u:TypeId} {id j:Nat} {es:List AV} {y:AV} {ys:List AV} {cx cy:Value} {us:List Value}
  (fJ:∀ {c:Value} {w':World},(Builtin.append_ #[t,u] o.type #[cx,cy]).run E.P w=.ok c w'→(execOp a.eval o).run E.P w=.ok (.value c) w')
  {elem esz eb:Nat} {z:AV} (FI:1≤eb) (hz:z.cells.length=esz) (qN:z.aV=true)
  {ie:TypeInfo} (f2:ie.size=esz) (f3:ie.bytes=eb) (f6:gd ie=some z)
  (h0:Rel R w (.list (.bf id j) esz es) cx) (hA:∀ zc:Value,ie.zero=some zc→YC E.P w t u o.type elem ie zc cy (y :: ys).length us)
  (y0:ji esz (y :: ys)) (y1:aM R w (av (y :: ys)) us) (y2:∀ v∈us,v.oneCell'=true) (y3:us.length=(y :: ys).length * esz)
  {fs:List Nat} (iy:nth s.G id=some (.bf fs esz elem)) (u4:nth fs j=some es.length) (hb:(es.length+(y :: ys).length) * eb≤140737488355328) :
  bQ E R w β s a o ((s.bW (aD s.G id (.bf (aD fs j (es.length+(y :: ys).length)) esz elem))).put o.dst (.v (.list (.bf id j) esz (es++(y :: ys))))):=by
 obtain ⟨zc,qe,DB⟩:=cY f6
 have hA:=hA zc qe
 obtain ⟨d1,d2⟩:=Rel.cells (DB R w) qN
 have oV:zc.cells.size=esz:=by rw [← hz,d1.length]; simp
 have mR:0 < (y :: ys).length:=by simp
 have hm:es.length+(y :: ys).length≤140737488355328:=Nat.le_trans (Nat.le_mul_of_pos_right _ FI) hb
 obtain ⟨x0,xs,x1,x2,x3,x4⟩:=fQ (esz:=esz) h0 (.inr rfl)
 obtain ⟨ro,bH⟩:∃ ro,nth R.obj id=some ro:=by
  cases h0 with
  | lE q _=>exact ⟨_,q⟩
  | list _ _ _ hk=>obtain ⟨ro,q,_⟩:=hk; exact ⟨ro,q⟩
 have cH:=h.g.obj id _ _ iy bH
 cases ro with
 | none=>exact cH.elim
 | bz=>exact cH.elim
 | bU _=>exact cH.elim
 | tok _ _ _=>exact cH.elim
 | bf ts=>
 have cH:vB R w esz elem fs ts:=cH
 have YD:j < ts.length:=by rw [cH.1]; exact bF u4
 obtain ⟨tr,ht⟩:∃ tr,nth ts j=some tr:=⟨ts[j],by rw [a8]; exact List.getElem?_eq_getElem YD⟩
 have mE:=cH.2.2 j _ _ u4 ht
 have B1:∀ i f b c,nth ts i=some (.tok f b c)→b < w.heap.size:=fun i f b c hi=>h.g.bS ⟨id,_,bH,i,f,c,hi⟩
 -- where a new block has been made
 have fresh:∀ {old:Nat},(∀ b c,lF tr (.tok (es.length+(y :: ys).length) b c)) →
   (Builtin.append_ #[t,u] o.type #[cx,cy]).run E.P w=.ok (.slice (some ⟨w.heap.size,0,none⟩) (es.length+(y :: ys).length) (grownCap w (es.length+(y :: ys).length) old elem)) (w.drew.alloc (.cells (xs.toArray++us.toArray++Builtin.zeroCells zc.cells (grownCap w (es.length+(y :: ys).length) old elem - (es.length+(y :: ys).length))) elem)) →
   bQ E R w β s a o ((s.bW (aD s.G id (.bf (aD fs j (es.length+(y :: ys).length)) esz elem))).put o.dst (.v (.list (.bf id j) esz (es++(y :: ys))))):=by
  intro old hle bt
  have sA:=grownCap_ge w (es.length+(y :: ys).length) old elem
  have Wi:=grownCap_le_maxLen w (es.length+(y :: ys).length) old elem (by unfold maxLen; omega)
  have QY:(xs.toArray++us.toArray++Builtin.zeroCells zc.cells (grownCap w (es.length+(y :: ys).length) old elem - (es.length+(y :: ys).length))).size=grownCap w (es.length+(y :: ys).length) old elem * esz:=by
   simp only [Array.size_append,List.size_toArray,size_zeroCells,oV,x3,y3,← Nat.add_mul]
   congr 1
   omega
  generalize iN:xs.toArray++us.toArray++Builtin.zeroCells zc.cells (grownCap w (es.length+(y :: ys).length) old elem - (es.length+(y :: ys).length))=cur at bt QY
  have o1:=One.drew w (.cells cur elem)
  obtain ⟨r1,r2⟩:=h.Sk o1 (n:=(es.length+(y :: ys).length) * esz) (r1:=.bf (aD ts j (.tok (es.length+(y :: ys).length) w.heap.size (grownCap w (es.length+(y :: ys).length) old elem)))) (go:=.bf (aD fs j (es.length+(y :: ys).length)) esz elem) iy bH
   (sM.set ht (hle _ _)) (fun b hb=>FD hb) (vB.set cH ⟨rfl,cur,o1.new,sA,Wi,QY,fun o' nL hi=>by
    rcases hi with hi | ⟨_,hi⟩
    ·have:=h.g.wf _ _ hi
     omega
    ·omega⟩ (fun i f c hi=>absurd (B1 i f _ c hi) (Nat.lt_irrefl _)) (fun i f b c _ hi=>⟨o1.old b (B1 i f b c hi),fun o' nL=>by
     rcases nL with nL | ⟨nL,_⟩
     ·exact nL
     ·have:=B1 i f b c hi
      omega⟩))
  have e:=r2.ext
  refine ⟨_,_,_,_,β,fJ bt,.inl rfl,r1.put o.dst ?_,by rw [a7]; exact r2⟩
  refine Rel.list (rn (vs:=xs++us) (ls x0 y0) (by rw [cK]; exact (x1.mono e).append (y1.mono e)) (iV x2 y2) (fun j v hj=>?_) (fun j hj=>.inr ⟨rfl,by rw [List.length_append,x3,y3,← Nat.add_mul] at hj; exact hj⟩)) (by simp) sA ⟨_,aJ bH,_,aJ ht,Nat.le_refl _,fun _=>⟨rfl,rfl,rfl⟩⟩
  rw [cell_of_row _ _ j _ _ _ o1.new,← iN]
  have cg:=(List.getElem?_eq_some_iff.1 hj).1
  rw [← Array.getElem?_toList]
  simp only [Array.toList_append,List.append_assoc]
  rw [← List.append_assoc,List.getElem?_append_left cg]
  exact hj
 rcases x4 with ⟨rfl,rfl,ad,rfl,hd⟩ | ⟨b,o',cap,rfl,Wj,xk,tO,xE⟩
 ·obtain rfl:ad=none:=by
   rcases hd with hd | hd
   ·exact hd
   ·cases hd
  simp only [List.length_nil] at hb mE
  have bt:=hA.nil mR (by simp only [List.length_nil] at hm; omega) (by rw [f3]; rw [Nat.zero_add] at hb; omega)
  cases tr with
  | bz=>exact fresh (old:=0) (fun b c=>by simp only [lF,List.length_cons]; omega) (by simpa using bt)
  | full f'=>
   have mE:f'=0:=mE
   subst mE
   exact fresh (old:=0) (fun b c=>by simp only [lF,List.length_cons]; omega) (by simpa using bt)
  | tok f' g c=>
   obtain ⟨mE,_⟩:=mE
   subst mE
   exact fresh (old:=0) (fun b c=>by simp only [lF,List.length_cons,List.length_nil]; omega) (by simpa using bt)
 ·obtain ⟨lT,Wk,tN⟩:=xk
  rw [bH] at Wk
  cases Wk
  obtain ⟨t',q3,tN⟩:=tN
  rw [ht] at q3
  cases q3
  cases tr with
  | bz=>exact tN.elim
  | full f'=>
   have hf:f'=es.length:=mE
   subst hf
   have gX:=tN.2 rfl
   subst gX
   have bt:=hA.grow mR ⟨b,o',none⟩ es.length es.length xs (by rw [x3,f2]) tO (by omega) (by omega) (growslice_fits (by omega) (by rw [f3]; exact hb))
   exact fresh (fun b c=>by simp only [lF]; omega) bt
  | tok f' g c=>
   obtain ⟨rfl,cur,iN,k1,k3,k4,k5⟩:=mE
   obtain ⟨rfl,rfl,rfl⟩:=tN.2 rfl
   by_cases gI:es.length+(y :: ys).length≤cap
   ·have hle:(es.length+(y :: ys).length) * esz≤cap * esz:=Nat.mul_le_mul_right _ gI
    have bt:=hA.room mR b es.length cap cur iN gI (by rw [f2,y3,← Nat.add_mul,k4]; exact hle)
    rw [f2] at bt
    generalize I1:(cur.toList.take (es.length * esz)++us++cur.toList.drop (es.length * esz+us.length)).toArray=cur2 at bt
    have iz:cur.toList.length=cap * esz:=by rw [show cur.toList.length=cur.size from Array.length_toList,k4]
    have hll:es.length * esz≤cap * esz:=Nat.mul_le_mul_right _ k1
    have G9:cur2.size=cap * esz:=by
     rw [← I1,List.size_toArray]
     simp only [List.length_append,List.length_take,List.length_drop,y3,iz]
     rw [Nat.add_mul] at hle
     omega
    have vR:∀ o',R.I b o'→cur2[o']?=cur[o']?:=fun o' hi=>by
     have ho:o' < es.length * esz:=Nat.lt_of_not_le fun hle=>k5 o' hle hi
     rw [← I1,List.append_assoc]
     simp only [List.getElem?_toArray]
     rw [List.getElem?_append_left (by rw [List.length_take]; omega),List.getElem?_take,if_pos ho,Array.getElem?_toList]
    have new:(w.setRow b cur2).heap[b]?=some (.cells cur2 elem (0,0)):=setRow_heap w b cur cur2 elem (0,0) iN
    obtain ⟨r0,r1,r2⟩:=h.M4 (cur2:=cur2) (n:=(es.length+(y :: ys).length) * esz) (r1:=.bf (aD ts j (.tok (es.length+(y :: ys).length) b cap))) (go:=.bf (aD fs j (es.length+(y :: ys).length)) esz elem) iy bH ⟨j,_,_,ht⟩
     (sM.set ht ⟨by omega,fun e=>by omega⟩) (fun b' iS=>(FD iS).elim (fun e=>by rw [e]; exact ⟨j,_,_,ht⟩) (fun x=>x)) iN vR (fun _=>vB.set cH ⟨rfl,cur2,new,gI,k3,G9,fun o' nL hi=>by
      rcases hi with hi | ⟨_,hi⟩
      ·exact k5 o' (Nat.le_trans (Nat.mul_le_mul_right _ (Nat.le_add_right _ _)) nL) hi
      ·omega⟩ (fun i f c hi=>cH.2.1 i j _ _ _ _ _ hi ht) (fun i f b' c cm hi=>by
       have MC:b'≠b:=fun e=>by subst e; exact cm (cH.2.1 i j _ _ _ _ _ hi ht)
       refine ⟨setRow_other w b b' cur2 MC,fun o' nL=>?_⟩
       rcases nL with nL | ⟨nL,_⟩
       ·exact nL
       ·exact absurd nL MC))
    refine ⟨_,_,_,_,β,fJ bt,.inl rfl,r1.put o.dst ?_,by rw [a7]; exact r2⟩
    have M6:cur.toList.take (es.length * esz)=xs:=by
     have I2:xs.length=es.length * esz:=x3
     apply List.ext_getElem?
     intro j
     rw [List.getElem?_take]
     split
     ·rename_i hj
      have MG:j < xs.length:=by omega
      have pE:=tO j xs[j] (List.getElem?_eq_getElem MG)
      rw [cA,Nat.zero_add,cell_of_row w b j cur elem (0,0) iN] at pE
      rw [Array.getElem?_toList,pE,List.getElem?_eq_getElem MG]
     ·rw [List.getElem?_eq_none (by omega)]
    refine Rel.list (rn (vs:=xs++us) (ls x0 y0) (by rw [cK]; exact (x1.mono r0).append (y1.mono r0)) (iV x2 y2) (fun j v hj=>?_) (fun j hj=>.inr ⟨rfl,by rw [List.length_append,x3,y3,← Nat.add_mul] at hj; exact hj⟩)) (by simp) gI ⟨_,aJ bH,_,aJ ht,Nat.le_refl _,fun _=>⟨rfl,rfl,rfl⟩⟩
    rw [cell_of_row _ _ j _ _ _ new,← I1,M6]
    simp only [List.getElem?_toArray]
    rw [List.getElem?_append_left (List.getElem?_eq_some_iff.1 hj).1]
    exact hj
   ·have bt:=hA.grow mR ⟨b,0,none⟩ es.length cap xs (by rw [x3,f2]) tO (by omega) (by omega) (growslice_fits (by omega) (by rw [f3]; exact hb))
    exact fresh (fun b c=>⟨by omega,fun e=>by omega⟩) bt
theorem uG (h:bi E R w β s a) {t u:TypeId} {id j:Nat} {es:List AV} {y:AV} {ys:List AV} {cx cy:Value} {us:List Value}
  (fJ:∀ {c:Value} {w':World},(Builtin.append_ #[t,u] o.type #[cx,cy]).run E.P w=.ok c w'→(execOp a.eval o).run E.P w=.ok (.value c) w')
  {elem esz eb:Nat} {z:AV} (FI:1≤eb) (hz:z.cells.length=esz) (qN:z.aV=true)
  {ie:TypeInfo} (f2:ie.size=esz) (f3:ie.bytes=eb) (f6:gd ie=some z)
  (h0:Rel R w (.list (.bf id j) esz es) cx) (hA:∀ zc:Value,ie.zero=some zc→YC E.P w t u o.type elem ie zc cy (y :: ys).length us)
  (y0:ji esz (y :: ys)) (y1:aM R w (av (y :: ys)) us) (y2:∀ v∈us,v.oneCell'=true) (y3:us.length=(y :: ys).length * esz)
  {fs:List Nat} (iy:nth s.G id=some (.bf fs esz elem)) (u4:MV fs j es.length=true) (hb:(es.length+(y :: ys).length) * eb≤140737488355328) :
  bQ E R w β s a o ((s.bW (aD s.G id (.bf (GP fs j (es.length+(y :: ys).length)) esz elem))).put o.dst (.v (.list (.bf id j) esz (es++(y :: ys))))):=by
 unfold MV at u4
 rw [Bool.or_eq_true,decide_eq_true_eq,Bool.and_eq_true] at u4
 rcases u4 with u4 | ⟨hj,hl⟩
 ·have cm:Nat.beq j fs.length=false:=by
   cases hb:Nat.beq j fs.length with
   | false=>rfl
   | true=>
    have:=Nat.eq_of_beq_eq_true hb
    have:=bF u4
    omega
  unfold GP
  rw [cm]
  exact mg h fJ FI hz qN f2 f3 f6 h0 hA y0 y1 y2 y3 iy u4 hb
 ·have vV:GP fs j (es.length+(y :: ys).length)=fs++[es.length+(y :: ys).length]:=by
   unfold GP
   rw [hj]
   rfl
  rw [vV]
  have hj:=Nat.eq_of_beq_eq_true hj
  have hl:=Nat.eq_of_beq_eq_true hl
  subst hj
  have cg:=bF iy
  rw [← h.g.len] at cg
  obtain ⟨ro,bH⟩:∃ ro,nth R.obj id=some ro:=⟨R.obj[id],by rw [a8]; exact List.getElem?_eq_getElem cg⟩
  obtain ⟨ts,rfl,z1,z2,z3⟩:=h.D7 iy (nfs:=[0]) (nts:=[.bz]) rfl (fun j f t h1 h2=>by
   cases j with
   | zero=>simp only [nth] at h1 h2; cases h1; cases h2; exact rfl
   | succ j=>simp [nth] at h1) (fun j f b c hj=>by
   cases j with
   | zero=>simp only [nth] at hj; cases hj
   | succ j=>simp [nth] at hj) bH
  have key:=mg z2 fJ FI hz qN f2 f3 f6 (h0.mono z3.ext) hA y0 (y1.mono z3.ext) y2 y3 (fs:=fs++[0]) (aJ iy) (by rw [hl]; exact eR _ _) hb
  have e1:aD (fs++[0]) fs.length (es.length+(y :: ys).length)=fs++[es.length+(y :: ys).length]:=by
   rw [gP,List.set_append_right _ _ (Nat.le_refl _),Nat.sub_self]
   rfl
  have e2:∀ x y:GO,aD (aD s.G id x) id y=aD s.G id y:=fun x y=>by rw [gP,gP,gP,List.set_set]
  rw [e1] at key
  refine bQ.step rfl z3 ?_
  have e3:((s.bW (aD s.G id (.bf (fs++[0]) esz elem))).bW (aD (s.bW (aD s.G id (.bf (fs++[0]) esz elem))).G id (.bf (fs++[es.length+(y :: ys).length]) esz elem)))=s.bW (aD s.G id (.bf (fs++[es.length+(y :: ys).length]) esz elem)):=by
   simp only [St.bW,e2]
  rw [e3] at key
  exact key
theorem mh (h:bi E R w β s a) {t u:TypeId} {x:AV} {ys:List AV} {cx cy:Value} {us:List Value}
  (fJ:∀ {c:Value} {w':World},(Builtin.append_ #[t,u] o.type #[cx,cy]).run E.P w=.ok c w'→(execOp a.eval o).run E.P w=.ok (.value c) w')
  {i:TI} {elem esz eb:Nat} {ag:Bool} {z:AV} (hk:i.k=.sl elem esz ag eb (some z)) (FI:1≤eb) (hz:z.cells.length=esz) (qN:z.aV=true)
  {ie:TypeInfo} (f1:E.P.info? elem=some ie) (f2:ie.size=esz) (f3:ie.bytes=eb) (f6:gd ie=some z)
  (h0:Rel R w x cx) (hA:∀ zc:Value,ie.zero=some zc→YC E.P w t u o.type elem ie zc cy ys.length us)
  (y0:ji esz ys) (y1:aM R w (av ys) us) (y2:∀ v∈us,v.oneCell'=true) (y3:us.length=ys.length * esz)
  {v:AV} {G':List GO} (ha:gf s.G elem esz eb x ys=some (true,v,G')) :
  bQ E R w β s a o ((s.bW G').put o.dst (.v v)):=by
 obtain ⟨zc,qe,DB⟩:=cY f6
 have hA':=hA
 have hA:=hA zc qe
 obtain ⟨d1,d2⟩:=Rel.cells (DB R w) qN
 have oV:zc.cells.size=esz:=by rw [← hz,d1.length]; simp
 unfold gf at ha
 split at ha
 ·-- nothing is appended
  rename_i k sz es
  have Wc:us=[]:=List.eq_nil_of_length_eq_zero (by simpa using y3)
  have hG:G'=s.G∧Rel R w v cx:=by
   split at ha
   ·injection ha with ha; injection ha with _ ha; injection ha with p q
    subst p; subst q
    exact ⟨rfl,h0⟩
   ·injection ha with ha; injection ha with _ ha; injection ha with p q
    subst p; subst q
    exact ⟨rfl,h0⟩
  obtain ⟨rfl,hvr⟩:=hG
  refine ar (s:=s) h (c:=cx) (fJ ?_) hvr
  cases h0 with
  | jE=>exact hA.zero rfl _ _ _ (Nat.le_refl 0)
  | iR=>exact hA.zero rfl _ _ _ (Nat.le_refl 0)
  | mL=>exact hA.zero rfl _ _ _ (Nat.le_refl 0)
  | lZ=>exact hA.zero rfl _ _ _ (Nat.le_refl 0)
  | lE=>exact hA.zero rfl _ _ _ (Nat.le_refl 0)
  | list hr hlen gX _=>exact hA.zero rfl _ _ _ gX
 ·-- something is appended
  rename_i k sz es y ys hA
  have mR:0 < (y :: ys).length:=by simp
  -- what is shown where a new block has been made
  have grown:∀ {n old:Nat} {xs:List Value} {es':List AV},(es'.length=n)→ji esz es'→aM R w (av es') xs→(∀ v∈xs,v.oneCell'=true)→xs.length=n * esz →
    (n+(y :: ys).length) * eb≤140737488355328→n+(y :: ys).length≤maxLen→∀ (R':ai) (G2:List GO) (id:Nat),
    bi E R' (w.drew.alloc (.cells (xs.toArray++us.toArray++Builtin.zeroCells zc.cells (grownCap w (n+(y :: ys).length) old elem - (n+(y :: ys).length))) elem)) β (s.bW G2) a →
    Step R w β s.boxes R' (w.drew.alloc (.cells (xs.toArray++us.toArray++Builtin.zeroCells zc.cells (grownCap w (n+(y :: ys).length) old elem - (n+(y :: ys).length))) elem)) β s.boxes →
    (∀ j,j < (n+(y :: ys).length) * esz→R'.I w.heap.size j)→nth R'.obj id=some (.tok (n+(y :: ys).length) w.heap.size (grownCap w (n+(y :: ys).length) old elem)) →
    (Builtin.append_ #[t,u] o.type #[cx,cy]).run E.P w=.ok (.slice (some ⟨w.heap.size,0,none⟩) (n+(y :: ys).length) (grownCap w (n+(y :: ys).length) old elem)) (w.drew.alloc (.cells (xs.toArray++us.toArray++Builtin.zeroCells zc.cells (grownCap w (n+(y :: ys).length) old elem - (n+(y :: ys).length))) elem)) →
    bQ E R w β s a o ((s.bW G2).put o.dst (.v (.list (.own id) esz (es'++(y :: ys))))):=by
   intro n old xs es' Au Sr Wh uA zu _ _ R' G2 id cH FJ hI hid bt
   refine ⟨_,_,_,R',β,fJ bt,.inl rfl,cH.put o.dst ?_,by rw [a7]; exact FJ⟩
   have e:=FJ.ext
   refine Rel.list (rn (vs:=xs++us) (ls Sr y0) (by rw [cK]; exact (Wh.mono e).append (y1.mono e)) (iV uA y2) (fun j v hj=>?_) (fun j hj=>hI j (by rw [List.length_append,zu,y3,← Nat.add_mul] at hj; exact hj))) (by simp [Au]) (grownCap_ge w _ _ _) ⟨_,hid,Nat.le_refl _,fun _=>⟨rfl,rfl,rfl⟩⟩
   have rk:(w.drew.alloc (.cells (xs.toArray++us.toArray++Builtin.zeroCells zc.cells (grownCap w (n+(y :: ys).length) old elem - (n+(y :: ys).length))) elem)).heap[w.heap.size]?=some (.cells (xs.toArray++us.toArray++Builtin.zeroCells zc.cells (grownCap w (n+(y :: ys).length) old elem - (n+(y :: ys).length))) elem (0,0)):=heap_alloc_new w.drew _
   rw [cell_of_row _ _ j _ _ _ rk]
   have cg:=(List.getElem?_eq_some_iff.1 hj).1
   rw [← Array.getElem?_toList]
   simp only [Array.toList_append,List.append_assoc]
   rw [← List.append_assoc,List.getElem?_append_left cg]
   exact hj
  have I3:∀ {n old:Nat} {xs:List Value},xs.length=n * esz→n+(y :: ys).length≤maxLen→(xs.toArray++us.toArray++Builtin.zeroCells zc.cells (grownCap w (n+(y :: ys).length) old elem - (n+(y :: ys).length))).size=grownCap w (n+(y :: ys).length) old elem * esz:=by
   intro n old xs zu _
   have sA:=grownCap_ge w (n+(y :: ys).length) old elem
   simp only [Array.size_append,List.size_toArray,size_zeroCells,oV,zu,y3,← Nat.add_mul]
   congr 1
   omega
  have fresh:∀ {n old:Nat} {xs:List Value} {es':List AV},(es'.length=n)→ji esz es'→aM R w (av es') xs→(∀ v∈xs,v.oneCell'=true)→xs.length=n * esz →
    (n+(y :: ys).length) * eb≤140737488355328→n+(y :: ys).length≤maxLen →
    (Builtin.append_ #[t,u] o.type #[cx,cy]).run E.P w=.ok (.slice (some ⟨w.heap.size,0,none⟩) (n+(y :: ys).length) (grownCap w (n+(y :: ys).length) old elem)) (w.drew.alloc (.cells (xs.toArray++us.toArray++Builtin.zeroCells zc.cells (grownCap w (n+(y :: ys).length) old elem - (n+(y :: ys).length))) elem)) →
    bQ E R w β s a o ((s.bW (s.G++[.tok (n+(y :: ys).length) esz elem])).put o.dst (.v (.list (.own s.G.length) esz (es'++(y :: ys))))):=by
   intro n old xs es' Au Sr Wh uA zu hb hm bt
   obtain ⟨r1,r2⟩:=h.Si (cur:=xs.toArray++us.toArray++Builtin.zeroCells zc.cells (grownCap w (n+(y :: ys).length) old elem - (n+(y :: ys).length))) (elem:=elem) (grownCap_ge w (n+(y :: ys).length) old elem) (grownCap_le_maxLen w _ old elem hm) (I3 zu hm)
   exact grown Au Sr Wh uA zu hb hm _ _ _ r1 r2 (fun j hj=>.inr ⟨rfl,hj⟩) (by rw [← h.g.len]; exact eR _ _) bt
  have Ss:∀ {n:Nat},(n+(y :: ys).length) * eb≤140737488355328→n+(y :: ys).length≤140737488355328:=fun {n} hb=>Nat.le_trans (Nat.le_mul_of_pos_right _ FI) hb
  split at ha
  ·-- nil
   injection ha with ha; injection ha with hc ha; injection ha with p q
   subst p; subst q
   have hb:=of_decide_eq_true hc
   cases h0 with
   | list _ _ _ IP=>exact IP.elim
   | jE=>
    simp only [List.length_nil] at hb
    have hm:=Ss hb
    refine fresh (n:=0) (old:=0) (xs:=[]) (es':=[]) rfl (fun e he=>by simp at he) .nil (by simp) (by simp) hb (by unfold maxLen; omega) ?_
    have bt:=hA.nil mR (by omega) (by rw [f3]; rw [Nat.zero_add] at hb; omega)
    simpa using bt
  ·-- as long as its capacity
   split at ha
   ·rename_i eO
    have eO:=Nat.eq_of_beq_eq_true eO
    subst eO
    injection ha with ha; injection ha with hc ha; injection ha with p q
    subst p; subst q
    have hb:=of_decide_eq_true hc
    have hm:=Ss hb
    obtain ⟨x0,xs,x1,x2,x3,x4⟩:=fQ (esz:=sz) h0 (.inr rfl)
    rcases x4 with ⟨rfl,rfl,ad,rfl,hd⟩ | ⟨b,o',cap,rfl,Wj,xk,tO,_⟩
    ·rcases hd with rfl | hd
     ·cases h0
     ·cases hd
    ·have gX:cap=es.length:=xk
     subst gX
     refine fresh (n:=es.length) (old:=es.length) (xs:=xs) (es':=es) rfl x0 x1 x2 x3 hb (by unfold maxLen; omega) ?_
     exact hA.grow mR ⟨b,o',none⟩ es.length es.length xs (by rw [x3,f2]) tO (by omega) (by omega) (growslice_fits (by omega) (by rw [f3]; exact hb))
   ·cases ha
  ·-- of a token
   rename_i id
   split at ha
   ·rename_i f bE e' iy
    split at ha
    ·rename_i cC
     simp only [Bool.and_eq_true] at cC
     obtain ⟨⟨q1,q2⟩,q3⟩:=cC
     have q1:=Nat.eq_of_beq_eq_true q1
     have q2:=Nat.eq_of_beq_eq_true q2
     have q3:=Nat.eq_of_beq_eq_true q3
     subst q1; subst q2; subst q3
     injection ha with ha; injection ha with hc ha; injection ha with p q
     subst p; subst q
     simp only [Bool.and_eq_true] at hc
     have u4:=of_decide_eq_true hc.1
     have hb:=of_decide_eq_true hc.2
     subst u4
     have hm:=Ss hb
     obtain ⟨x0,xs,x1,x2,x3,x4⟩:=fQ (esz:=sz) h0 (.inr rfl)
     rcases x4 with ⟨rfl,rfl,ad,rfl,hd⟩ | ⟨b,o',cap,rfl,Wj,xk,tO,xE⟩
     ·obtain rfl:ad=none:=by
       rcases hd with hd | hd
       ·exact hd
       ·cases hd
      cases h0 with
      | @lZ _ _ ro bH hon=>
      have cH:=h.g.obj id _ _ iy bH
      cases ro with
      | none=>exact cH.elim
      | bU _=>exact cH.elim
      | tok f' g c=>
       obtain ⟨rfl,_⟩:=cH
       simp [mK] at hon
      | bf _=>exact cH.elim
      | bz=>
       simp only [List.length_nil] at hb
       have bt:=hA.nil mR (by omega) (by rw [f3]; rw [Nat.zero_add] at hb; omega)
       have eO:=I3 (n:=0) (old:=0) (xs:=[]) (by simp) (by unfold maxLen; omega)
       obtain ⟨r1,r2⟩:=h.IY (cur:=[].toArray++us.toArray++Builtin.zeroCells zc.cells (grownCap w (0+(y :: ys).length) 0 e' - (0+(y :: ys).length))) (elem:=e') (n:=0+(y :: ys).length) (cap:=grownCap w (0+(y :: ys).length) 0 e') iy bH (fun b c=>by simp only [cw]; omega) (grownCap_ge w _ _ _) (grownCap_le_maxLen w _ _ _ (by unfold maxLen; omega)) eO
       exact grown (n:=0) (es':=[]) rfl (fun e he=>by simp at he) .nil (by simp) (by simp) hb (by unfold maxLen; omega) _ _ _ r1 r2 (fun j hj=>.inr ⟨rfl,hj⟩) (aJ bH) (by simpa using bt)
     ·obtain ⟨ro,bH,tN⟩:=xk
      have cH:=h.g.obj id _ _ iy bH
      cases ro with
      | none=>exact cH.elim
      | bz=>exact tN.elim
      | bU _=>exact cH.elim
      | bf _=>exact cH.elim
      | tok f' g c=>
       obtain ⟨rfl,cur,iN,k1,k3,k4,k5⟩:=cH
       obtain ⟨rfl,rfl,rfl⟩:=tN.2 rfl
       by_cases gI:es.length+(y :: ys).length≤cap
       ·have hle:(es.length+(y :: ys).length) * sz≤cap * sz:=Nat.mul_le_mul_right _ gI
        have bt:=hA.room mR b es.length cap cur iN gI (by rw [f2,y3,← Nat.add_mul,k4]; exact hle)
        rw [f2] at bt
        obtain ⟨r0,r1,r2⟩:=h.M2 (news:=us) (n:=es.length+(y :: ys).length) iy bH (by omega) gI iN k4 k3 (by rw [y3,← Nat.add_mul])
        refine ⟨_,_,_,_,β,fJ bt,.inl rfl,r1.put o.dst ?_,by rw [a7]; exact r2⟩
        have rk:=setRow_heap w b cur (cur.toList.take (es.length * sz)++us++cur.toList.drop (es.length * sz+us.length)).toArray e' (0,0) iN
        have M6:cur.toList.take (es.length * sz)=xs:=by
         have I2:xs.length=es.length * sz:=x3
         apply List.ext_getElem?
         intro j
         rw [List.getElem?_take]
         split
         ·rename_i hj
          have MG:j < xs.length:=by omega
          have pE:=tO j xs[j] (List.getElem?_eq_getElem MG)
          rw [cA,Nat.zero_add,cell_of_row w b j cur e' (0,0) iN] at pE
          rw [Array.getElem?_toList,pE,List.getElem?_eq_getElem MG]
         ·rw [List.getElem?_eq_none (by omega)]
        refine Rel.list (rn (vs:=xs++us) (ls x0 y0) (by rw [cK]; exact (x1.mono r0).append (y1.mono r0)) (iV x2 y2) (fun j v hj=>?_) (fun j hj=>.inr ⟨rfl,by rw [List.length_append,x3,y3,← Nat.add_mul] at hj; exact hj⟩)) (by simp) gI ⟨_,aJ bH,Nat.le_refl _,fun _=>⟨rfl,rfl,rfl⟩⟩
        rw [cell_of_row _ _ j _ _ _ rk,M6]
        simp only [List.getElem?_toArray]
        rw [List.getElem?_append_left (List.getElem?_eq_some_iff.1 hj).1]
        exact hj
       ·have bt:=hA.grow mR ⟨b,0,none⟩ es.length cap xs (by rw [x3,f2]) tO (by omega) (by omega) (growslice_fits (by omega) (by rw [f3]; exact hb))
        obtain ⟨r1,r2⟩:=h.IY (cur:=xs.toArray++us.toArray++Builtin.zeroCells zc.cells (grownCap w (es.length+(y :: ys).length) cap e' - (es.length+(y :: ys).length))) (elem:=e') (n:=es.length+(y :: ys).length) (cap:=grownCap w (es.length+(y :: ys).length) cap e') iy bH (fun b c=>⟨by omega,fun e=>by omega⟩) (grownCap_ge w _ _ _) (grownCap_le_maxLen w _ _ _ (by unfold maxLen; omega)) (I3 x3 (by unfold maxLen; omega))
        exact grown rfl x0 x1 x2 x3 hb (by unfold maxLen; omega) _ _ _ r1 r2 (fun j hj=>.inr ⟨rfl,hj⟩) (aJ bH) bt
    ·cases ha
   ·cases ha
  ·-- of a member of a family
   rename_i id j
   split at ha
   ·rename_i fs bE e' iy
    split at ha
    ·rename_i cC
     simp only [Bool.and_eq_true] at cC
     obtain ⟨⟨q1,q2⟩,q3⟩:=cC
     have q1:=Nat.eq_of_beq_eq_true q1
     have q2:=Nat.eq_of_beq_eq_true q2
     have q3:=Nat.eq_of_beq_eq_true q3
     subst q1; subst q2; subst q3
     injection ha with ha; injection ha with hc ha; injection ha with p q
     subst p; subst q
     simp only [Bool.and_eq_true,decide_eq_true_eq] at hc
     exact uG h fJ FI hz qN f2 f3 f6 h0 (fun ZH Su=>hA' ZH Su) y0 y1 y2 y3 iy hc.1 hc.2
    ·cases ha
   ·cases ha
  ·cases ha
 ·-- a slice that grows, and nothing
  injection ha with ha; injection ha with _ ha; injection ha with p q
  subst p; subst q
  refine ar (s:=s) h (c:=cx) (fJ ?_) h0
  cases h0 with
  | iM=>exact hA.zero rfl _ _ _ (Nat.le_refl 0)
  | dX _ _ gX=>exact hA.zero rfl _ _ _ gX
 ·-- a slice that grows
  rename_i id f' off sz len y ys hA
  split at ha
  ·rename_i es bE e' iy
   split at ha
   ·rename_i cC
    simp only [Bool.and_eq_true] at cC
    obtain ⟨⟨q1,q2⟩,q3⟩:=cC
    have q1:=Nat.eq_of_beq_eq_true q1
    have q2:=Nat.eq_of_beq_eq_true q2
    have q3:=Nat.eq_of_beq_eq_true q3
    subst q1; subst q2; subst q3
    injection ha with ha; injection ha with hc ha; injection ha with p q
    subst p; subst q
    simp only [Bool.and_eq_true,decide_eq_true_eq] at hc
    exact nD h fJ FI hz qN f2 f3 f6 h0 (fun ZH Su=>hA' ZH Su) y0.g y1 y2 y3 iy hc.1.1.1 hc.1.1.2 hc.1.2 hc.2
   ·cases ha
  ·cases ha
 ·cases ha
theorem B2 (h:bi E R w β s a) {args:Array Operand} {t:TypeId} (ho:o.op=.call { callee:=.builtin .append,args:=args,argTypes:=#[t,t] }) {x:AV} {k2:LK} {mJ:Nat} {ys:List AV}
  (hl:lS E s.af args.toList=some [x,.list k2 mJ ys]) {i:TI} (hi:E.ti t=some i) {elem esz eb:Nat} {ag:Bool} {z:AV} (hk:i.k=.sl elem esz ag eb (some z)) (G9:ys=[]∨mJ=esz) (adz:1≤esz) (FI:1≤eb) (hz:z.cells.length=esz) (qN:z.aV=true)
  {v:AV} {G':List GO} (ha:gf s.G elem esz eb x ys=some (true,v,G')) :
  bQ E R w β s a o ((s.bW G').put o.dst (.v v)):=by
 have hr:=gq h hl
 generalize hv:args.toList.map a.eval=vs at hr
 have hx:=eC (E:=E) (w:=w) ho vs hv
 cases hr with
 | @cons _ cx _ _ h0 h1=>
 cases h1 with
 | @cons _ cy _ _ h1 h2=>
 cases h2
 obtain ⟨gG,u,e1,e2,e3,e4,e5,e6⟩:=b7 E hi
 have G6:=hk
 rw [hk] at e5
 obtain ⟨ie,ue,rfl,f1,f2,f3,f4,f5,f6⟩:=dI e5
 have pN:(⟨[cx,cy]⟩:Array Value)=#[cx,cy]:=rfl
 obtain ⟨y0,us,y1,y2,y3,y4⟩:=fQ (esz:=esz) h1 G9
 refine mh h (cx:=cx) (cy:=cy) (t:=t) (u:=t) (fun hh=>?_) G6 FI hz qN f1 f2 f3 f6 h0 (fun zc qe=>?_) y0 y1 y2 y3 ha
 ·rw [hx]
  simp only [builtin,pN,Sem.run_bind,hh,Result.andThen_ok,Sem.run_pure]
 ·rcases y4 with ⟨rfl,rfl,ad,rfl,_⟩ | ⟨V7,oy,D8,rfl,ZI,_,vW,yE⟩
  ·refine ⟨fun _ base len cap FA=>?_,fun hh=>absurd hh (by simp),fun hh=>absurd hh (by simp),fun hh=>absurd hh (by simp)⟩
   cases ad <;> simp [Builtin.append_,run_underlying e2,run_sizeOf w f1,Builtin.lenOf,Builtin.firstCells,FA,storeCells,loadCells,loadCellsFrom] <;>
    cases base <;> simp [storeCells]
  ·refine ⟨fun hn base len cap FA=>?_,fun hh I4 I5=>run_append_nil (P:=E.P) w t o.type elem ie zc e2 f1 qe _ _ D8 us (by rw [y3,f2]) vW hh I4 I5,fun _ b sLen lJ AF B3 M7 hg I4 I5=>run_append_grow (P:=E.P) w t o.type elem ie zc e2 f1 qe b sLen lJ AF B3 M7 _ _ D8 us (by rw [y3,f2]) vW hg I4 I5,fun _ g sLen lJ cur hg gI rq=>run_append_room (P:=E.P) w t o.type elem ie e2 f1 g sLen lJ cur hg _ _ D8 us (by rw [y3,f2]) vW y2 gI rq⟩
   rw [hn]
   simp [Builtin.append_,run_underlying e2,run_sizeOf w f1,Builtin.lenOf,Builtin.firstCells,FA,storeCells,loadCells,loadCellsFrom]
   cases base <;> simp [storeCells]
theorem vX:∀ (bs:List UInt8),aM R w (av (bs.map qU)) (Lib.strCells ⟨⟨bs⟩⟩)
 | []=>.nil
 | b :: bs=>.cons (Rel.int .u8 b.toNat) (vX bs)
theorem uH (h:bi E R w β s a) {args:Array Operand} {t u:TypeId} (ho:o.op=.call { callee:=.builtin .append,args:=args,argTypes:=#[t,u] }) {x:AV} {bs:List UInt8}
  (hl:lS E s.af args.toList=some [x,.str bs]) {i j:TI} (hi:E.ti t=some i) (hj:E.ti u=some j) {elem eb:Nat} {ag:Bool} {z:AV} (hk:i.k=.sl elem 1 ag eb (some z)) (Vn:j.k=.str) (FI:1≤eb) (hz:z.cells.length=1) (qN:z.aV=true)
  {v:AV} {G':List GO} (ha:gf s.G elem 1 eb x (bs.map qU)=some (true,v,G')) :
  bQ E R w β s a o ((s.bW G').put o.dst (.v v)):=by
 have hr:=gq h hl
 generalize hv:args.toList.map a.eval=vs at hr
 have hx:=eC (E:=E) (w:=w) ho vs hv
 cases hr with
 | @cons _ cx _ _ h0 h1=>
 cases h1 with
 | @cons _ cy _ _ h1 h2=>
 cases h2
 obtain ⟨gG,ud,e1,e2,e3,e4,e5,e6⟩:=b7 E hi
 obtain ⟨Wl,ud',g1,g2,g3,g4,g5,g6⟩:=b7 E hj
 rw [Vn] at g5
 have:=kw g5
 subst this
 have G6:=hk
 rw [hk] at e5
 obtain ⟨ie,ue,rfl,f1,f2,f3,f4,f5,f6⟩:=dI e5
 cases h1
 have eO:(⟨⟨bs⟩⟩:ByteArray).size=bs.length:=rfl
 have hlen:(bs.map qU).length=bs.length:=List.length_map _
 have pN:(⟨[cx,.string ⟨⟨bs⟩⟩]⟩:Array Value)=#[cx,.string ⟨⟨bs⟩⟩]:=rfl
 have iz:(Lib.strCells ⟨⟨bs⟩⟩).length=bs.length:=Lib.strCells_length _
 refine mh h (cx:=cx) (cy:=.string ⟨⟨bs⟩⟩) (us:=Lib.strCells ⟨⟨bs⟩⟩) (t:=t) (u:=u) (fun hh=>?_) G6 FI hz qN f1 f2 f3 f6 h0 (fun zc qe=>?_) ?_ (vX bs) (Lib.strCells_oneCell _) (by rw [iz,hlen,Nat.mul_one]) ha
 ·rw [hx]
  simp only [builtin,pN,Sem.run_bind,hh,Result.andThen_ok,Sem.run_pure]
 ·rw [hlen]
  refine ⟨fun hn base len cap FA=>?_,fun hh I4 I5=>?_,fun _ b sLen lJ AF B3 M7 hg I4 I5=>Lib.run_append_grow_string (P:=E.P) w t u o.type elem ie zc e2 g2 f1 qe b sLen lJ AF B3 M7 ⟨⟨bs⟩⟩ hg I4 I5,fun _ g sLen lJ cur hg gI rq=>?_⟩
  ·have hb:bs=[]:=List.eq_nil_of_length_eq_zero hn
   subst hb
   have ZJ:(⟨⟨[]⟩⟩:ByteArray).size=0:=rfl
   simp [ZJ,Builtin.append_,run_underlying e2,run_underlying g2,run_sizeOf w f1,Builtin.lenOf,Builtin.firstCells,FA,storeCells]
   cases base <;> simp [storeCells]
  ·rw [run_append_nil_string (P:=E.P) w t u o.type elem ie zc e2 g2 f1 qe ⟨⟨bs⟩⟩ hh I4 I5]
   simp [Lib.strCells,eO]
  ·have:=Lib.run_append_room_string (P:=E.P) w t u o.type elem ie e2 g2 f1 f2 g sLen lJ cur hg ⟨⟨bs⟩⟩ gI (by rw [f2,Nat.mul_one,iz] at rq; exact rq)
   rw [this,f2,Nat.mul_one,iz]
   rfl
 ·intro e he
  obtain ⟨b,_,rfl⟩:=List.mem_map.1 he
  exact ⟨rfl,rfl,rfl⟩
end ops
end Go.Am
