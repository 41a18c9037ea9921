/- The abstract machine: what it does is what the model does: slices that grow and are written. -/
import Derived.Test.YtldcljfjjoidhaaGreatDoorAmKC
import Derived.Lib.AppendStr
set_option linter.all false
namespace Go.Am
open Go
section lists
theorem tG {α:Type} (c us:List α) (n p sz off:Nat) (hn:n≤c.length) (hp:p+sz≤n) (ho:off+us.length≤sz) :
  (c.take (p+off)++us++c.drop (p+off+us.length)).take n =
   (c.take n).take p++((((c.take n).drop p).take sz).take off++us++(((c.take n).drop p).take sz).drop (off+us.length))++(c.take n).drop (p+sz):=by
 apply List.ext_getElem?
 intro j
 simp only [List.getElem?_append,List.getElem?_take,List.getElem?_drop,List.length_append,List.length_take,List.length_drop]
 by_cases h1:j < p
 ·rw [if_pos (by omega),if_pos (by omega),if_pos (by omega),if_pos (by omega),if_pos (by omega),if_pos (by omega),if_pos (by omega),if_pos (by omega)]
 ·by_cases h2:j < p+off
  ·rw [if_pos (by omega),if_pos (by omega),if_pos (by omega),if_pos (by omega),if_pos (by omega),if_neg (by omega),if_pos (by omega),if_pos (by omega),if_pos (by omega),if_pos (by omega),if_pos (by omega)]
   congr 1; omega
  ·by_cases h3:j < p+off+us.length
   ·rw [if_pos (by omega),if_pos (by omega),if_neg (by omega),if_pos (by omega),if_neg (by omega),if_pos (by omega),if_neg (by omega)]
    congr 1; omega
   ·by_cases h4:j < p+sz
    ·rw [if_pos (by omega),if_neg (by omega),if_pos (by omega),if_neg (by omega),if_neg (by omega),if_pos (by omega),if_pos (by omega)]
     congr 1; omega
    ·by_cases h5:j < n
     ·rw [if_pos (by omega),if_neg (by omega),if_neg (by omega),if_pos (by omega)]
      congr 1; omega
     ·rw [if_neg (by omega),if_neg (by omega),if_neg (by omega)]
theorem oA {sz:Nat}:∀ {es:List AV} {i:Nat} {e:AV},cK sz es→nth es i=some e→((ar es).drop (i * sz)).take sz=e.cells
 | [],_,_,_,h=>by simp [nth] at h
 | x :: es,0,e,h,hi=>by
  simp only [nth] at hi
  cases hi
  have h1:=(h x (by simp)).1
  rw [Nat.zero_mul,List.drop_zero]
  simp only [ar]
  rw [← h1,List.take_left]
 | x :: es,i+1,e,h,hi=>by
  have h1:=(h x (by simp)).1
  have ih:=oA (i:=i) (fun y hy=>h y (by simp [hy])) (show nth es i=some e from hi)
  simp only [ar]
  rw [show (i+1) * sz=x.cells.length+i * sz by rw [h1,Nat.succ_mul]; omega,List.drop_append,List.drop_of_length_le (by omega),List.nil_append,Nat.add_sub_cancel_left]
  exact ih
theorem pC {sz:Nat} {l r:List AV} (h:cK sz l) (k:cK sz r):cK sz (l++r):=fun e he=>by
 rcases List.mem_append.1 he with he | he
 ·exact h e he
 ·exact k e he
theorem wE {sz:Nat} {l:List AV} (n:Nat) (h:cK sz l):cK sz (l.take n):=fun e he=>h e (List.mem_of_mem_take he)
theorem Ek {sz:Nat} {l:List AV} (n:Nat) (h:cK sz l):cK sz (l.drop n):=fun e he=>h e (List.mem_of_mem_drop he)
theorem gZ {sz:Nat}:∀ {es:List AV} (i:Nat),cK sz es→ar (es.take i)=(ar es).take (i * sz)
 | [],i,_=>by simp [ar]
 | e :: es,0,_=>by simp [ar]
 | e :: es,i+1,h=>by
  have h1:=(h e (by simp)).1
  simp only [List.take_succ_cons,ar]
  rw [gZ i (fun y hy=>h y (by simp [hy])),show (i+1) * sz=e.cells.length+i * sz by rw [h1,Nat.succ_mul]; omega,List.take_append,Nat.add_sub_cancel_left,List.take_of_length_le (by omega:e.cells.length≤e.cells.length+i * sz)]
theorem mu {sz:Nat}:∀ {es:List AV} (i:Nat),cK sz es→ar (es.drop i)=(ar es).drop (i * sz)
 | [],i,_=>by simp [ar]
 | e :: es,0,_=>by simp [ar]
 | e :: es,i+1,h=>by
  have h1:=(h e (by simp)).1
  simp only [List.drop_succ_cons,ar]
  rw [mu i (fun y hy=>h y (by simp [hy])),show (i+1) * sz=e.cells.length+i * sz by rw [h1,Nat.succ_mul]; omega,List.drop_append,List.drop_of_length_le (by omega:e.cells.length≤e.cells.length+i * sz),List.nil_append,Nat.add_sub_cancel_left]
theorem cB {sz:Nat} {es:List AV} (h:cK sz es):(ar es).length=es.length * sz:=by
 induction es with
 | nil=>simp [ar]
 | cons e es ih=>
  have h1:=(h e (by simp)).1
  have:=ih (fun x hx=>h x (by simp [hx]))
  simp only [ar,List.length_append,this,h1,List.length_cons,Nat.add_mul]
  omega
theorem BG {sz:Nat} {es:List AV} {i:Nat} {v:AV} (h:cK sz es) (h1:v.cells.length=sz) (h2:v.aL=true):cK sz (aw es i v):=fun e he=>by
 rw [e9] at he
 rcases List.mem_or_eq_of_mem_set he with he | rfl
 ·exact h e he
 ·exact ⟨h1,h2⟩
theorem zz {sz:Nat} {es:List AV} {i:Nat} {v:AV} (h:cK sz es) (hi:i < es.length) (hv:v.cells.length=sz):ar (aw es i v)=bz (ar es) (i * sz) v.cells:=by
 have BH:i * sz+sz≤es.length * sz:=by
  rw [← Nat.succ_mul]
  exact Nat.mul_le_mul_right _ hi
 rw [e9,List.set_eq_take_append_cons_drop,if_pos hi,dj _ _ _ (by rw [hv,cB h]; exact BH),ck,gZ i h,hv]
 simp only [ar]
 rw [mu (i+1) h,Nat.succ_mul,List.append_assoc]
end lists
section ops
variable {E:Env} {R:ai} {w:World} {β:Nat→Nat} {s:St} {a:Act} {o:Oper}
theorem jU {G:List GO} (h:cI E R w G) {id:Nat} {es:List AV} {sz:Nat} {el:TypeId} {ro:RO} (hid:nth G id=some (.dm es sz el)) (bA:nth R.obj id=some ro) (hn:ro≠.bl) :
  ∃ b c cur vs,ro=.tok es.length b c∧cK sz es∧w.heap[b]?=some (.cells cur el (0,0))∧es.length≤c∧c≤maxLen∧cur.size=c * sz∧(∀ o,¬ R.I b o)∧aD R w (ar es) vs∧(∀ v∈vs,v.oneCell'=true)∧cur.toList.take (es.length * sz)=vs:=by
 have hr:=h.obj id _ _ hid bA
 cases ro with
 | none=>exact hr.elim
 | bl=>exact absurd rfl hn
 | bJ b=>exact hr.elim
 | aU _=>exact hr.elim
 | tok f b c=>
  obtain ⟨rfl,h1,cur,vs,h2,h3,h4,h5,h6,h7,h8,h9⟩:=hr
  exact ⟨b,c,cur,vs,rfl,h1,h2,h3,h4,h5,h6,h7,h8,h9⟩
theorem tH {id f i sz:Nat} {t:TypeId} {v:AV} (h:te E s id f i sz t=some (true,v)) :
  ∃ es el e,nth s.G id=some (.dm es sz el)∧f=es.length∧nth es i=some e∧gE e v:=by
 unfold te at h
 split at h
 ·rename_i es bp el hid
  split at h
  ·rename_i p hp
   split at h
   ·rename_i dG
    have dG:=Nat.eq_of_beq_eq_true dG
    subst dG
    injection h with h
    injection h with h1 h2
    simp only [Bool.and_eq_true,decide_eq_true_eq] at h1
    obtain ⟨⟨h3,h4⟩,h5⟩:=h1
    obtain ⟨e,he⟩:∃ e,nth es i=some e:=⟨es[i],by rw [aR]; exact List.getElem?_eq_getElem h4⟩
    have hd:ah es i=e:=by simp [ah,he]
    rw [hd] at h5 h2
    rw [← h2]
    exact ⟨es,el,e,hid,h3,he,p.cm h5⟩
   ·cases h
  ·split at h
   ·rename_i dG
    have dG:=Nat.eq_of_beq_eq_true dG
    subst dG
    injection h with h
    injection h with h1 h2
    simp only [Bool.and_eq_true,decide_eq_true_eq] at h1
    obtain ⟨h3,h4⟩:=h1
    obtain ⟨e,he⟩:∃ e,nth es i=some e:=⟨es[i],by rw [aR]; exact List.getElem?_eq_getElem h4⟩
    have hd:ah es i=e:=by simp [ah,he]
    rw [hd] at h2
    rw [← h2]
    exact ⟨es,el,e,hid,h3,he,gE.refl e⟩
   ·cases h
 ·cases h
theorem Db {α:Type} {l:List α} {i:Nat} {x:α} (h:nth l i=some x):x∈l:=by
 rw [aR] at h
 exact List.mem_of_getElem? h
theorem BI {i n sz:Nat} (h:i < n):i * sz+sz≤n * sz:=by
 rw [← Nat.succ_mul]
 exact Nat.mul_le_mul_right _ h
theorem BJ (h:aY E R w β s a) (t:TypeId) (x:Operand) (ho:o.op=.load t x) {v:AV} (hl:wo E s t (bk E s.ae x)=some (true,v)) :
  bH E R w β s a o (s.put o.dst (.v v)):=by
 have rx:=aI h x
 unfold wo at hl
 split at hl
 ·rename_i id f i off sz ty hx
  rw [hx] at rx
  split at hl
  ·rename_i ti c ve On hg
   split at hl
   ·rename_i l hs
    split at hl
    ·rename_i r hm
     injection hl with hl
     injection hl with h1 h2
     subst h1; subst h2
     obtain ⟨es,el,e,hid,Ou,he,sk⟩:=tH hg
     have cS:Rel R w (.gp id f i off sz ty) (a.eval x):=rx
     generalize ea:a.eval x=xv at cS
     cases cS with
     | @gp _ _ _ _ _ b o' _ ro bA dE=>
     obtain ⟨b',c',cur,vs,rfl,g1,g2,g3,g4,g5,g6,g7,g8,g9⟩:=jU h.g hid bA (fun k=>by subst k; exact dE)
     obtain ⟨rfl,rfl⟩:=dE.2 Ou
     have Vp:=g1 e (Db he)
     have di:aD R w e.cells ((vs.drop (i * sz)).take sz):=by
      rw [← oA g1 he]
      exact (g7.drop _).take _
     have hw:=(sk.cells Vp.2).rel di
     obtain ⟨k1,k2,k3,k4⟩:=nl hs hw (fun y hy=>g8 y (List.mem_of_mem_drop (List.mem_of_mem_take hy)))
     obtain ⟨c,hc,Zo⟩:=mi (E:=E) On (b:=b) (off:=i * sz+off) k1 k2 k3 (fun j y hy=>by
      have h1:=k4 j y hy
      rw [List.getElem?_take] at h1
      split at h1
      ·rw [List.getElem?_drop,← g9,List.getElem?_take] at h1
       split at h1
       ·rw [cell_of_row w b _ cur el (0,0) g2,Nat.add_assoc,← Array.getElem?_toList]
        exact h1
       ·cases h1
      ·cases h1) hm
     refine aq h (c:=c) ?_ Zo
     simp [execOp,ho,Instr.loadAt,ea,Instr.sureAddr,hc]
    ·cases hl
   ·cases hl
  ·cases hl
 ·split at hl
  ·rename_i v' hv
   injection hl with hl
   injection hl with h1 h2
   subst h2
   exact Ef h t x ho hv
  ·cases hl
theorem aY.xR (h:aY E R w β s a) {id f b c:Nat} {es es':List AV} {sz:Nat} {el:TypeId} {cur zy:Array Value} {vs':List Value} (hid:nth s.G id=some (.dm es sz el)) (bA:nth R.obj id=some (.tok f b c))
  (hb:w.heap[b]?=some (.cells cur el (0,0))) (hlen:es'.length=es.length) (nj:cK sz es') (dG:zy.size=cur.size) (hr:aD R w (ar es') vs') (h1:∀ v∈vs',v.oneCell'=true) (ht:zy.toList.take (f * sz)=vs') :
  aY E R (w.setRow b zy) β (s.bL (aw s.G id (.dm es' sz el))) a∧Step R w β s.boxes R (w.setRow b zy) β s.boxes:=by
 obtain ⟨q0,q1,Sd,Zp,p1,p2,p3,p4,p5,p6,p7,p8⟩:=h.g.obj id _ _ hid bA
 rw [hb] at p1
 cases p1
 have hex:=gG (R:=R) (w:=w) p5 zy
 have BK:∀ k cs,cG s.boxes k=some cs→β k≠b:=fun k cs hk e=>(h.b.box k cs hk).2.2 ⟨id,_,bA,by rw [e]; rfl⟩
 refine ⟨⟨⟨by simp [St.bL,h.g.len],fun iu go ro hg kf=>?_,h.g.inj,fun b' o' qz=>by have:=h.g.wf b' o' qz; simp; omega,fun g cs' hg=>(h.g.bN g cs' hg).mono hex,h.g.lo⟩,?_,h.t.mono hex,h.n,h.d⟩,?_⟩
 ·rcases cD hg with ⟨rfl,rfl,_⟩ | ⟨cj,ov⟩
  ·rw [bA] at kf
   cases kf
   exact ⟨by rw [hlen]; exact q0,nj,zy,vs',setRow_heap w _ _ _ _ (0,0) hb,p2,p3,by rw [dG]; exact p4,p5,hr.mono hex,h1,ht⟩
  ·refine (h.g.obj iu go ro ov kf).mono hex (fun b' kd=>setRow_other w _ b' _ (fun e=>cj ?_)) (fun _ _ _ hi=>hi)
   subst e
   exact h.g.inj id iu _ _ b' bA kf rfl kd
 ·exact h.b.bq hex (fun k cs' iE=>setRow_other w _ _ _ (BK k cs' iE)) (fun _ _ _ _ hi=>hi) (fun _ _ _ hl=>hl)
 ·have xI:Own R β s.boxes b:=.inl ⟨id,_,bA,rfl⟩
  exact ⟨hex,rfl,rfl,rfl,by simp,fun b' _ hn=>setRow_other w _ b' _ (fun e=>hn (e ▸ xI)),fun _ _ hb=>hb,fun b o hi _ _=>hi⟩
theorem aY.Dc (h:aY E R w β s a) {id b c i off:Nat} {es:List AV} {sz:Nat} {el:TypeId} {cur:Array Value} {vs us:List Value} {e':AV} (hid:nth s.G id=some (.dm es sz el)) (bA:nth R.obj id=some (.tok es.length b c))
  (hb:w.heap[b]?=some (.cells cur el (0,0))) (nj:cK sz es) (hle:es.length≤c) (np:cur.size=c * sz) (hr:aD R w (ar es) vs) (h1:∀ v∈vs,v.oneCell'=true) (ht:cur.toList.take (es.length * sz)=vs) (hi:i < es.length)
  (h2:∀ v∈us,v.oneCell'=true) (xS:off+us.length≤sz) (sf:e'.cells.length=sz) (Se:e'.aL=true) (Sf:aD R w e'.cells (((vs.drop (i * sz)).take sz).take off++us++((vs.drop (i * sz)).take sz).drop (off+us.length))) :
  aY E R (w.setRow b ⟨cur.toList.take (i * sz+off)++us++cur.toList.drop (i * sz+off+us.length)⟩) β (s.bL (aw s.G id (.dm (aw es i e') sz el))) a ∧
   Step R w β s.boxes R (w.setRow b ⟨cur.toList.take (i * sz+off)++us++cur.toList.drop (i * sz+off+us.length)⟩) β s.boxes:=by
 have BH:=BI (sz:=sz) hi
 have Jf:es.length * sz≤cur.toList.length:=by
  rw [show cur.toList.length=cur.size from Array.length_toList,np]
  exact Nat.mul_le_mul_right _ hle
 have Nb:vs.length=es.length * sz:=by rw [← hr.length,cB nj]
 refine h.xR hid bA hb (fU _ _ _) (BG nj sf Se) ?_ (vs':=vs.take (i * sz)++(((vs.drop (i * sz)).take sz).take off++us++((vs.drop (i * sz)).take sz).drop (off+us.length))++vs.drop (i * sz+sz)) ?_ ?_ ?_
 ·rw [List.size_toArray,← Array.length_toList]
  simp only [List.length_append,List.length_take,List.length_drop]
  omega
 ·rw [zz nj hi sf,dj _ _ _ (by rw [sf,cB nj]; exact BH),sf]
  exact ((hr.take _).append Sf).append (hr.drop _)
 ·intro v hv
  simp only [List.mem_append] at hv
  rcases hv with (hv | ((hv | hv) | hv)) | hv
  ·exact h1 v (List.mem_of_mem_take hv)
  ·exact h1 v (List.mem_of_mem_drop (List.mem_of_mem_take (List.mem_of_mem_take hv)))
  ·exact h2 v hv
  ·exact h1 v (List.mem_of_mem_drop (List.mem_of_mem_take (List.mem_of_mem_drop hv)))
  ·exact h1 v (List.mem_of_mem_drop hv)
 ·rw [List.toList_toArray,tG _ _ _ _ _ _ Jf BH xS,ht]
theorem aY.Dd (h:aY E R w β s a) {id b c off:Nat} {es ns:List AV} {sz:Nat} {el:TypeId} {cur:Array Value} {vs us:List Value} (hid:nth s.G id=some (.dm es sz el)) (bA:nth R.obj id=some (.tok es.length b c))
  (hb:w.heap[b]?=some (.cells cur el (0,0))) (nj:cK sz es) (hle:es.length≤c) (np:cur.size=c * sz) (hr:aD R w (ar es) vs) (h1:∀ v∈vs,v.oneCell'=true) (ht:cur.toList.take (es.length * sz)=vs)
  (xS:off+ns.length≤es.length) (Yc:cK sz ns) (hu:aD R w (ar ns) us) (h2:∀ v∈us,v.oneCell'=true) :
  aY E R (w.setRow b ⟨cur.toList.take (off * sz)++us++cur.toList.drop (off * sz+us.length)⟩) β (s.bL (aw s.G id (.dm (bz es off ns) sz el))) a ∧
   Step R w β s.boxes R (w.setRow b ⟨cur.toList.take (off * sz)++us++cur.toList.drop (off * sz+us.length)⟩) β s.boxes:=by
 have Ov:us.length=ns.length * sz:=by rw [← hu.length,cB Yc]
 have BH:off * sz+ns.length * sz≤es.length * sz:=by rw [← Nat.add_mul]; exact Nat.mul_le_mul_right _ xS
 have Jf:es.length * sz≤cur.toList.length:=by
  rw [show cur.toList.length=cur.size from Array.length_toList,np]
  exact Nat.mul_le_mul_right _ hle
 have Nb:vs.length=es.length * sz:=by rw [← hr.length,cB nj]
 have hm:=tG cur.toList us (es.length * sz) (off * sz) (ns.length * sz) 0 Jf BH (by omega)
 simp only [Nat.add_zero,List.take_zero,List.nil_append,Nat.zero_add] at hm
 rw [Ov,ht,show List.drop (ns.length * sz) (List.take (ns.length * sz) (List.drop (off * sz) vs))=[] from List.drop_of_length_le (by rw [List.length_take]; exact Nat.min_le_left _ _),List.append_nil] at hm
 rw [dj _ _ _ xS]
 refine h.xR hid bA hb (by simp; omega) (pC (pC (wE _ nj) Yc) (Ek _ nj)) ?_ (vs':=vs.take (off * sz)++us++vs.drop (off * sz+ns.length * sz)) ?_ ?_ ?_
 ·rw [List.size_toArray,← Array.length_toList]
  simp only [List.length_append,List.length_take,List.length_drop,Ov]
  omega
 ·rw [ck,ck,gZ _ nj,mu _ nj,Nat.add_mul]
  exact ((hr.take _).append hu).append (hr.drop _)
 ·intro v hv
  simp only [List.mem_append] at hv
  rcases hv with (hv | hv) | hv
  ·exact h1 v (List.mem_of_mem_take hv)
  ·exact h2 v hv
  ·exact h1 v (List.mem_of_mem_drop hv)
 ·rw [List.toList_toArray,Ov]
  exact hm
theorem zA (h:aY E R w β s a) (t:TypeId) (p x:Operand) (ho:o.op=.store t p x) (hd:o.dst=none) {s':St} (hs:iA E s t (bk E s.ae p) (bk E s.ae x)=some (true,s')) :
  bH E R w β s a o s':=by
 have rp:=aI h p
 have rx:=aI h x
 unfold iA at hs
 split at hs
 ·rename_i id f i off sz ty RT
  rw [RT] at rp
  have RV:Rel R w (.gp id f i off sz ty) (a.eval p):=rp
  generalize RW:a.eval p=pv at RV
  split at hs
  ·rename_i ti v es bp el On hx hid
   rw [hx] at rx
   split at hs
   ·rename_i eu
    simp only [Bool.and_eq_true] at eu
    obtain ⟨⟨I8,hlen⟩,Ow⟩:=eu
    have hlen:=Nat.eq_of_beq_eq_true hlen
    have Ow:=Nat.eq_of_beq_eq_true Ow
    subst Ow
    have Zq:Rel R w v (a.eval x):=rx
    obtain ⟨c1,c2⟩:=Rel.cells Zq I8
    have zg:v.cells.length=(a.eval x).cells.toList.length:=c1.length
    cases RV with
    | @gp _ _ _ _ _ b o' _ ro bA dE=>
    obtain ⟨b',c',cur,vs,rfl,g1,g2,g3,g4,g5,g6,g7,g8,g9⟩:=jU h.g hid bA (fun k=>by subst k; exact dE)
    have Nb:vs.length=es.length * sz:=by rw [← g7.length,cB g1]
    have Jf:es.length * sz≤cur.toList.length:=by
     rw [show cur.toList.length=cur.size from Array.length_toList,g5]
     exact Nat.mul_le_mul_right _ g3
    split at hs
    ·rename_i hw
     rw [Bool.and_eq_true] at hw
     have xS:=Nat.eq_of_beq_eq_true hw.1
     have Rh:=Nat.eq_of_beq_eq_true hw.2
     subst xS
     injection hs with hs
     injection hs with h1 h2
     rw [Bool.and_eq_true,decide_eq_true_eq,decide_eq_true_eq] at h1
     subst h2
     obtain ⟨rfl,rfl⟩:=dE.2 h1.1
     have BH:=BI (sz:=sz) h1.2
     have bi:=iN (E:=E) (w:=w) On (b:=b) (vs:=cur.toList) (off:=i * sz+0) (c:=a.eval x) g2 (by rw [← zg]; exact hlen) (by rw [← zg]; omega) c2
     obtain ⟨r1,r2⟩:=h.Dc (us:=(a.eval x).cells.toList) (off:=0) (i:=i) (e':=v) hid bA g2 g1 g3 g5 g7 g8 g9 h1.2 c2 (by rw [← zg]; omega) (by omega) I8 (by
      rw [List.take_zero,List.nil_append,Nat.zero_add,List.drop_of_length_le (by rw [List.length_take,← zg]; omega),List.append_nil]
      exact c1)
     simp only [Nat.add_zero] at RW bi r1 r2
     refine ⟨.skip,undef,_,R,β,?_,.inr ⟨rfl,rfl⟩,by rw [hd]; exact r1,r2⟩
     simp [execOp,ho,Instr.storeAt,RW,Instr.sureAddr,bi]
    ·split at hs
     ·rename_i cc cs hg
      split at hs
      ·rename_i hw
       simp only [Bool.and_eq_true] at hw
       obtain ⟨hle,Ox⟩:=hw
       have hle:=Nat.le_of_ble_eq_true hle
       have Ox:=Nat.eq_of_beq_eq_true Ox
       injection hs with hs
       injection hs with h1 h2
       subst h1; subst h2
       obtain ⟨es0,el0,e,FQ,Ou,he,sk⟩:=tH hg
       rw [hid] at FQ
       cases FQ
       obtain ⟨rfl,rfl⟩:=dE.2 Ou
       have hi:i < es.length:=bu he
       have BH:=BI (sz:=sz) hi
       have Vp:=g1 e (Db he)
       have di:aD R w e.cells ((vs.drop (i * sz)).take sz):=by
        rw [← oA g1 he]
        exact (g7.drop _).take _
       have hw:=(sk.cells Vp.2).rel di
       have Yd:aD R w cs ((vs.drop (i * sz)).take sz):=hw
       have bi:=iN (E:=E) (w:=w) On (b:=b) (vs:=cur.toList) (off:=i * sz+off) (c:=a.eval x) g2 (by rw [← zg]; exact hlen) (by rw [← zg]; omega) c2
       have zh:off+v.cells.length≤cs.length:=by omega
       obtain ⟨r1,r2⟩:=h.Dc (us:=(a.eval x).cells.toList) (off:=off) (i:=i) (e':=.agg (bz cs off v.cells)) hid bA g2 g1 g3 g5 g7 g8 g9 hi c2 (by rw [← zg]; omega) (by show (bz cs off v.cells).length=sz; rw [vJ _ _ _ zh]; exact Ox) rfl (by
        show aD R w (bz cs off v.cells) _
        rw [dj _ _ _ zh,zg]
        exact ((Yd.take _).append c1).append (Yd.drop _))
       refine ⟨.skip,undef,_,R,β,?_,.inr ⟨rfl,rfl⟩,by rw [hd]; exact r1,r2⟩
       simp [execOp,ho,Instr.storeAt,RW,Instr.sureAddr,bi]
      ·cases hs
     ·cases hs
   ·cases hs
  ·cases hs
 ·split at hs
  ·rename_i zB hv
   injection hs with hs
   injection hs with h1 h2
   subst h2
   exact Bv h t p x ho hd hv
  ·cases hs
def ai.reset (R:ai) (id:Nat) (ro:RO):ai:=⟨R.I,aw R.obj id ro⟩
theorem tJ {id g:Nat} {r0 ro:RO} (hid:nth R.obj id=some r0) (bA:∀ b,ro.has b→b=g) {b:Nat} (hl:Live (R.reset id ro) b):b=g∨Live R b:=by
 obtain ⟨i,r,h1,h2⟩:=hl
 rcases aB hid h1 with ⟨_,rfl⟩ | ⟨_,h1⟩
 ·exact .inl (bA b h2)
 ·exact .inr ⟨i,r,h1,h2⟩
theorem aY.Oy (h:aY E R w β s a) {cur:Array Value} {vs:List Value} {es es':List AV} {elem:TypeId} {sz cap id:Nat} {r0:RO} (hg:nth s.G id=some (.dm es sz elem)) (hid:nth R.obj id=some r0) (hf:∀ b c,bW r0 (.tok es'.length b c))
  (hn:es'.length≤cap) (hm:cap≤maxLen) (hs:cur.size=cap * sz) (nj:cK sz es') (hr:aD R w (ar es') vs) (h1:∀ v∈vs,v.oneCell'=true) (ht:cur.toList.take (es'.length * sz)=vs) :
  aY E (R.reset id (.tok es'.length w.heap.size cap)) (w.drew.alloc (.cells cur elem)) β (s.bL (aw s.G id (.dm es' sz elem))) a ∧
  Step R w β s.boxes (R.reset id (.tok es'.length w.heap.size cap)) (w.drew.alloc (.cells cur elem)) β s.boxes:=by
 have e:Ext R w (R.reset id (.tok es'.length w.heap.size cap)) (w.drew.alloc (.cells cur elem)):=
  ⟨fun _ _ h=>h,fun b o hi=>bK (heap_alloc_old w.drew _ b (h.g.wf b o hi)) o,fun i r hr=>by
   by_cases ei:id=i
   ·subst ei
    rw [hid] at hr
    cases hr
    exact ⟨_,aC hid,hf _ _⟩
   ·exact ⟨r,by rw [ai.reset,bo ei]; exact hr,bW.refl r⟩,.old fun b hb=>heap_alloc_old w.drew _ b hb⟩
 have old:∀ b,b < w.heap.size→(w.drew.alloc (.cells cur elem)).heap[b]?=w.heap[b]?:=fun b hb=>heap_alloc_old w.drew _ b hb
 have new:(w.drew.alloc (.cells cur elem)).heap[w.heap.size]?=some (.cells cur elem (0,0)):=heap_alloc_new w.drew _
 have live:∀ b,b < w.heap.size→Live (R.reset id (.tok es'.length w.heap.size cap)) b→Live R b:=fun b hb hl=>by
  rcases tJ (g:=w.heap.size) (ro:=.tok es'.length w.heap.size cap) hid (fun _ h=>h) hl with rfl | hl
  ·omega
  ·exact hl
 refine ⟨⟨⟨by simp [St.bL,ai.reset,h.g.len],fun i gg r tj h2=>?_,fun i j ri rj b tj h2 b1 b2=>?_,fun b o hi=>?_,fun g cs hg=>(h.g.bN g cs hg).mono e,Nat.le_succ_of_le h.g.lo⟩,?_,h.t.mono e,h.n,h.d.mono e⟩,?_⟩
 ·rcases aB hid h2 with ⟨rfl,rfl⟩ | ⟨cj,h2⟩
  ·simp only [St.bL] at tj
   rw [aC hg] at tj
   cases tj
   exact ⟨rfl,nj,cur,vs,new,hn,hm,hs,fun o hi=>by have:=h.g.wf _ _ hi; omega,hr.mono e,h1,ht⟩
  ·simp only [St.bL] at tj
   rw [bo (Ne.symm cj)] at tj
   exact (h.g.obj i gg r tj h2).mono e (fun b hb=>old b (h.g.bI ⟨i,r,h2,hb⟩)) (fun b o _ hi=>hi)
 ·rcases aB hid tj with ⟨g3,e1⟩ | ⟨g3,g1⟩
  ·rcases aB hid h2 with ⟨g4,e2⟩ | ⟨g4,g2⟩
   ·omega
   ·have:=h.g.bI ⟨j,rj,g2,b2⟩
    rw [e1] at b1
    simp [RO.has] at b1
    omega
  ·rcases aB hid h2 with ⟨g4,e2⟩ | ⟨g4,g2⟩
   ·have:=h.g.bI ⟨i,ri,g1,b1⟩
    rw [e2] at b2
    simp [RO.has] at b2
    omega
   ·exact h.g.inj i j ri rj b g1 g2 b1 b2
 ·have:=h.g.wf b o hi
  simp
  omega
 ·exact h.b.bq e (fun k cs hk=>old _ (h.dh (.inr ⟨k,cs,hk,rfl⟩))) (fun k cs o hk hi=>hi) (fun k cs hk hl=>live _ (h.dh (.inr ⟨k,cs,hk,rfl⟩)) hl)
 ·refine ⟨e,rfl,rfl,rfl,by simp,fun b hb _=>old b hb,fun b hb ho=>?_,fun b o hi hb _=>hi⟩
  rcases ho with ho | ho
  ·exact .inl (live b hb ho)
  ·exact .inr ho
theorem aY.JB (h:aY E R w β s a) {cur cur2:Array Value} {vs:List Value} {es es':List AV} {elem:TypeId} {sz id g c:Nat} (hg:nth s.G id=some (.dm es sz elem)) (hid:nth R.obj id=some (.tok es.length g c)) (bT:es.length < es'.length) (hn:es'.length≤c)
  (gB:w.heap[g]?=some (.cells cur elem (0,0))) (hs:cur2.size=cur.size) (nj:cK sz es') (hr:aD R w (ar es') vs) (h1:∀ v∈vs,v.oneCell'=true) (ht:cur2.toList.take (es'.length * sz)=vs) :
  aY E (R.reset id (.tok es'.length g c)) (w.setRow g cur2) β (s.bL (aw s.G id (.dm es' sz elem))) a ∧
  Step R w β s.boxes (R.reset id (.tok es'.length g c)) (w.setRow g cur2) β s.boxes:=by
 obtain ⟨q0,q1,Sd,Zp,p1,p2,p3,p4,p5,p6,p7,p8⟩:=h.g.obj id _ _ hg hid
 rw [gB] at p1
 cases p1
 have ox:Live R g:=⟨id,_,hid,rfl⟩
 have old:∀ b,b≠g→(w.setRow g cur2).heap[b]?=w.heap[b]?:=fun b hb=>setRow_other w g b cur2 hb
 have new:(w.setRow g cur2).heap[g]?=some (.cells cur2 elem (0,0)):=setRow_heap w g cur cur2 elem (0,0) gB
 have e:Ext R w (R.reset id (.tok es'.length g c)) (w.setRow g cur2):=by
  have e0:=gG (R:=R) (w:=w) p5 cur2
  refine ⟨fun _ _ h=>h,e0.cell,fun i r hr=>?_,e0.lp⟩
  by_cases ei:id=i
  ·subst ei
   rw [hid] at hr
   cases hr
   exact ⟨_,aC hid,by omega,fun e=>by omega⟩
  ·exact ⟨r,by rw [ai.reset,bo ei]; exact hr,bW.refl r⟩
 have live:∀ b,Live (R.reset id (.tok es'.length g c)) b→Live R b:=fun b hl=>by
  rcases tJ (g:=g) (ro:=.tok es'.length g c) hid (fun _ h=>h) hl with rfl | hl
  ·exact ox
  ·exact hl
 have oz:∀ k cs,cG s.boxes k=some cs→β k≠g:=fun k cs hk eq=>(h.b.box k cs hk).2.2 (eq ▸ ox)
 refine ⟨⟨⟨by simp [St.bL,ai.reset,h.g.len],fun i gg r tj h2=>?_,fun i j ri rj b tj h2 b1 b2=>?_,fun b o hi=>?_,fun g cs hg=>(h.g.bN g cs hg).mono e,h.g.lo⟩,?_,h.t.mono e,h.n,h.d.mono e⟩,?_⟩
 ·rcases aB hid h2 with ⟨rfl,rfl⟩ | ⟨cj,h2⟩
  ·simp only [St.bL] at tj
   rw [aC hg] at tj
   cases tj
   exact ⟨rfl,nj,cur2,vs,new,hn,p3,by rw [hs]; exact p4,p5,hr.mono e,h1,ht⟩
  ·simp only [St.bL] at tj
   rw [bo (Ne.symm cj)] at tj
   have Oq:∀ b,r.has b→b≠g:=fun b hb eq=>cj (h.g.inj i id _ _ b h2 hid hb (by rw [eq]; rfl))
   exact (h.g.obj i gg r tj h2).mono e (fun b hb=>old b (Oq b hb)) (fun b o hb hi=>hi)
 ·rcases aB hid tj with ⟨g3,e1⟩ | ⟨g3,g1⟩
  ·rcases aB hid h2 with ⟨g4,e2⟩ | ⟨g4,g2⟩
   ·omega
   ·rw [e1] at b1
    exact g3.trans (h.g.inj id j _ _ b hid g2 b1 b2)
  ·rcases aB hid h2 with ⟨g4,e2⟩ | ⟨g4,g2⟩
   ·rw [e2] at b2
    exact (h.g.inj i id _ _ b g1 hid b1 b2).trans g4.symm
   ·exact h.g.inj i j ri rj b g1 g2 b1 b2
 ·have:=h.g.wf b o hi
  simpa using this
 ·exact h.b.bq e (fun k cs hk=>old _ (oz k cs hk)) (fun k cs o hk hi=>hi) (fun k cs hk hl=>live _ hl)
 ·refine ⟨e,rfl,rfl,rfl,by simp,fun b hb qI=>old b (fun eq=>qI (.inl (eq ▸ ox))),fun b hb ho=>?_,fun b o hi hb qI=>hi⟩
  rcases ho with ho | ho
  ·exact .inl (live b ho)
  ·exact .inr ho
theorem aY.BL (h:aY E R w β s a) {cur:Array Value} {vs:List Value} {es:List AV} {elem:TypeId} {sz cap:Nat} (hn:es.length≤cap) (hm:cap≤maxLen) (hs:cur.size=cap * sz) (nj:cK sz es) (hr:aD R w (ar es) vs) (h1:∀ v∈vs,v.oneCell'=true) (ht:cur.toList.take (es.length * sz)=vs) :
  aY E (R.add (.tok es.length w.heap.size cap)) (w.alloc (.cells cur elem)) β (s.cV (.dm es sz elem)) a:=
 h.ke (.cells cur elem) (.dm es sz elem) (.tok es.length w.heap.size cap) (by exact fun _ h=>h)
  ⟨rfl,nj,cur,vs,heap_alloc_new w _,hn,hm,hs,fun o hi=>by have:=h.g.wf _ _ hi; omega,hr.mono (fH h.g.wf _ _),h1,ht⟩
theorem so (h:aY E R w β s a) (t:TypeId) (x y:Operand) (ho:o.op=.makeSlice t x y) {i:TI} (hi:E.ti t=some i) {k k':IntKind} {n m:Int} (hx:bk E s.ae x=.v (.int k n)) (hy:bk E s.ae y=.v (.int k' m))
  {elem esz mm:Nat} {ag:Bool} {z:AV} (hk:i.k=.sl elem esz ag mm (some z)) (hz:z.cells.length=esz) (Ej:1≤esz) (pf:z.aL=true) (ow:z.closed=true) (hc:0≤n∧n≤m∧m≤140737488355328∧m * mm≤140737488355328) :
  bH E R w β s a o ((s.cV (.dm (List.replicate n.toNat z) esz elem)).put o.dst (.v (.dC s.G.length n.toNat 0 esz n.toNat))):=by
 obtain ⟨us,z1,z2,bi⟩:=nW h t x y ho hi hx hy hk hz Ej pf hc
 have Ri:n.toNat≤m.toNat:=by omega
 have nj:=(eJ (n:=m.toNat) hz pf ow).g
 have Ov:us.length=m.toNat * esz:=by rw [← z1.length,cB nj,List.length_replicate]
 have Jf:(List.replicate n.toNat z).length=n.toNat:=List.length_replicate
 have zi:(List.replicate m.toNat z).take n.toNat=List.replicate n.toNat z:=by rw [List.take_replicate,Nat.min_eq_left Ri]
 have hr:aD R w (ar (List.replicate n.toNat z)) (us.take (n.toNat * esz)):=by
  rw [← zi,gZ _ nj]
  exact z1.take _
 have r1:=h.BL (cur:=⟨us⟩) (vs:=us.take (n.toNat * esz)) (es:=List.replicate n.toNat z) (elem:=elem) (cap:=m.toNat) (by rw [Jf]; exact Ri) (by unfold maxLen; omega) (by simpa using Ov) (eJ hz pf ow).g hr (fun v hv=>z2 v (List.mem_of_mem_take hv)) (by rw [Jf])
 rw [Jf] at r1
 have e:=fH (R:=R) (w:=w) h.g.wf (.cells ⟨us⟩ elem) (.tok n.toNat w.heap.size m.toNat)
 exact ⟨_,.slice (some ⟨w.heap.size,0,none⟩) n.toNat m.toNat,_,R.add (.tok n.toNat w.heap.size m.toNat),β,bi,.inl rfl,r1.put o.dst (x:=.v (.dC s.G.length n.toNat 0 esz n.toNat)) (Rel.dC (fa h _) ⟨Nat.le_refl _,fun _=>⟨rfl,Nat.zero_add _,.inl (Nat.zero_mul _).symm⟩⟩ Ri),by rw [aP]; exact cp h _ _ (by exact fun _ h=>h)⟩
theorem qJ (h:aY E R w β s a) (t:TypeId) (len:Nat) (parts:Array (Nat × Operand)) (ho:o.op=.buildSlice t len parts) {k:LK} {esz:Nat} {es:List AV} (hv:bM E s t len parts.toList=some (.list k esz es)) {i:TI} (hi:E.ti t=some i) {elem bp mm:Nat} {ag:Bool} {z:Option AV} (hk:i.k=.sl elem bp ag mm z) (hm:len≤65536) :
  bH E R w β s a o ((s.cV (.dm es esz elem)).put o.dst (.v (.dC s.G.length len 0 esz len))):=by
 obtain ⟨es',Oi,us,Sb,R8,bi,g2,hlen,u2,u3,i',Vn,R7,z',qz,iE⟩:=gn h t len parts ho hv
 cases R8
 rw [hi] at qz
 cases qz
 rw [hk] at iE
 cases iE
 have Sc:us.length=len * esz:=by rw [← u2.length,cT g2,hlen]
 have r1:=h.BL (cur:=⟨us⟩) (vs:=us) (es:=es) (elem:=elem) (cap:=len) (by rw [hlen]; exact Nat.le_refl _) (by simp [maxLen]; omega) (by simpa using Sc) g2.g u2 u3 (by rw [hlen,← Sc]; exact List.take_length)
 rw [hlen] at r1
 exact ⟨_,.slice (some ⟨w.heap.size,0,none⟩) len len,_,R.add (.tok len w.heap.size len),β,bi,.inl rfl,r1.put o.dst (x:=.v (.dC s.G.length len 0 esz len)) (Rel.dC (fa h _) ⟨Nat.le_refl _,fun _=>⟨rfl,Nat.zero_add _,.inl (Nat.zero_mul _).symm⟩⟩ (Nat.le_refl _)),by rw [aP]; exact cp h _ _ (by exact fun _ h=>h)⟩
end ops
end Go.Am
namespace Go.Am
open Go
section fams
variable {E:Env} {R R':ai} {w w':World} {β β':Nat→Nat} {s s':St} {a a':Act} {o:Oper}
theorem qK {α:Type} {l r:List α} {i:Nat} {x:α} (h:nth r i=some x):nth (l++r) (l.length+i)=some x:=by
 rw [aR] at *
 rw [List.getElem?_append_right (Nat.le_add_right _ _),Nat.add_sub_cancel_left]
 exact h
theorem sq {α:Type} {l r:List α} {i:Nat} {x:α} (h:nth l i=some x):nth (l++r) i=some x:=by
 have:=bu h
 rw [aR] at *
 rw [List.getElem?_append_left this]
 exact h
theorem cX {α:Type} {l r:List α} {i:Nat} {x:α} (h:nth (l++r) i=some x):nth l i=some x∨∃ j,i=l.length+j∧nth r j=some x:=by
 rw [aR] at h
 rcases Nat.lt_or_ge i l.length with bT | pd
 ·rw [List.getElem?_append_left bT] at h
  exact .inl (by rw [aR]; exact h)
 ·rw [List.getElem?_append_right pd] at h
  exact .inr ⟨i - l.length,by omega,by rw [aR]; exact h⟩
theorem aY.BM (h:aY E R w β s a) {id sz:Nat} {e:TypeId} {fs:List Nat} (hid:nth s.G id=some (.aU fs sz e)) {nfs:List Nat} {nts:List TR} (hl:nts.length=nfs.length)
  (dE:∀ j f t,nth nfs j=some f→nth nts j=some t→wv R w sz e f t) (qI:∀ j f b c,nth nts j≠some (.tok f b c)) {ro:RO} (bA:nth R.obj id=some ro) :
  ∃ ts,ro=.aU ts∧ts.length=fs.length∧aY E (R.reset id (.aU (ts++nts))) w β (s.bL (aw s.G id (.aU (fs++nfs) sz e))) a∧Step R w β s.boxes (R.reset id (.aU (ts++nts))) w β s.boxes:=by
 have cb:=h.g.obj id _ _ hid bA
 cases ro with
 | none=>exact cb.elim
 | bl=>exact cb.elim
 | bJ _=>exact cb.elim
 | tok _ _ _=>exact cb.elim
 | aU ts=>
 obtain ⟨q1,q2,q3⟩:=cb
 have tE:∀ b,RO.has (.aU (ts++nts)) b→RO.has (.aU ts) b:=fun b ⟨j,f,c,hj⟩=>by
  rcases cX hj with hj | ⟨i,_,hi⟩
  ·exact ⟨j,f,c,hj⟩
  ·exact absurd hi (qI i f b c)
 have ext:Ext R w (R.reset id (.aU (ts++nts))) w:=⟨fun _ _ h=>h,fun _ _ _=>rfl,fun i r hr=>by
  by_cases e:id=i
  ·subst e
   rw [bA] at hr
   cases hr
   exact ⟨_,aC bA,fun j t hj=>⟨t,sq hj,kb.refl t⟩⟩
  ·exact ⟨r,by rw [ai.reset,bo e]; exact hr,bW.refl r⟩,fm.refl w⟩
 have live:∀ b,Live (R.reset id (.aU (ts++nts))) b→Live R b:=fun b ⟨i,r,h1,h2⟩=>by
  rcases aB bA h1 with ⟨_,rfl⟩ | ⟨_,h1⟩
  ·exact ⟨id,_,bA,tE b h2⟩
  ·exact ⟨i,r,h1,h2⟩
 refine ⟨ts,rfl,q1,⟨⟨by simp [St.bL,ai.reset,h.g.len],fun i g r h1 h2=>?_,fun i j ri rj b h1 h2 b1 b2=>?_,h.g.wf,fun g cs hg=>(h.g.bN g cs hg).mono ext,h.g.lo⟩,h.b.bq ext (fun _ _ _=>rfl) (fun _ _ _ _ h=>h) (fun _ _ _ hl=>live _ hl),h.t.mono ext,h.n,h.d.mono ext⟩,?_⟩
 ·rcases aB bA h2 with ⟨rfl,rfl⟩ | ⟨cj,h2⟩
  ·simp only [St.bL] at h1
   rw [aC hid] at h1
   cases h1
   refine ⟨by simp [q1,hl],fun i j f b c f' c' hi hj=>?_,fun j f t hf ht=>?_⟩
   ·rcases cX hi with hi | ⟨_,_,hi⟩
    ·rcases cX hj with hj | ⟨_,_,hj⟩
     ·exact q2 i j _ _ _ _ _ hi hj
     ·exact absurd hj (qI _ _ _ _)
    ·exact absurd hi (qI _ _ _ _)
   ·rcases cX hf with Jg | ⟨k,hk,Jg⟩
    ·rcases cX ht with ht | ⟨k',iE,ht⟩
     ·exact q3 j f t Jg ht
     ·have:=bu Jg
      omega
    ·rcases cX ht with ht | ⟨k',iE,ht⟩
     ·have:=bu ht
      omega
     ·have FF:k=k':=by omega
      subst FF
      exact dE k f t Jg ht
  ·simp only [St.bL] at h1
   rw [bo (Ne.symm cj)] at h1
   exact (h.g.obj i g r h1 h2).mono ext (fun _ _=>rfl) (fun _ _ _ h=>h)
 ·rcases aB bA h1 with ⟨g3,e1⟩ | ⟨g3,g1⟩
  ·rcases aB bA h2 with ⟨g4,e2⟩ | ⟨g4,g2⟩
   ·omega
   ·rw [e1] at b1
    exact g3.trans (h.g.inj id j _ _ b bA g2 (tE b b1) b2)
  ·rcases aB bA h2 with ⟨g4,e2⟩ | ⟨g4,g2⟩
   ·rw [e2] at b2
    exact (h.g.inj i id _ _ b g1 bA b1 (tE b b2)).trans g4.symm
   ·exact h.g.inj i j ri rj b g1 g2 b1 b2
 ·refine ⟨ext,rfl,rfl,rfl,Nat.le_refl _,fun _ _ _=>rfl,fun b _ ho=>?_,fun _ _ h _ _=>h⟩
  rcases ho with ho | ho
  ·exact .inl (live b ho)
  ·exact .inr ho
theorem bH.step {s1:St} {s2:St} (e:s1.boxes=s.boxes) (st:Step R w β s.boxes R' w β s.boxes) (h:bH E R' w β s1 a o s2):bH E R w β s a o s2:=by
 obtain ⟨nx,x,w',R2,β',h1,h2,h3,h4⟩:=h
 rw [e] at h4
 exact ⟨nx,x,w',R2,β',h1,h2,h3,st.trans h4⟩
theorem Sg {c:Bool} {α:Type} {a b:α} (h:(bif c then some a else none)=some b):c=true∧a=b:=by
 cases c
 ·cases h
 ·exact ⟨rfl,Option.some.inj h⟩
theorem lg {sz:Nat} {e:TypeId}:∀ {G:List GO} {i j:Nat},gQ G sz e i=some j→∃ fs,nth G (j - i)=some (.aU fs sz e)∧i≤j
 | [],i,j,h=>by cases h
 | g :: G,i,j,h=>by
  have step:gQ G sz e (i+1)=some j→∃ fs,nth (g :: G) (j - i)=some (.aU fs sz e)∧i≤j:=fun h=>by
   obtain ⟨fs,h1,h2⟩:=lg h
   refine ⟨fs,?_,by omega⟩
   rw [show j - i=(j - (i+1))+1 by omega]
   exact h1
  unfold gQ at h
  split at h
  ·rename_i iZ
   cases iZ
  ·rename_i iZ
   obtain ⟨rfl,rfl⟩:=List.cons.inj iZ
   split at h
   ·rename_i j' hj
    cases h
    exact step hj
   ·obtain ⟨hc,rfl⟩:=Sg h
    ·rw [Bool.and_eq_true] at hc
     have h1:=Nat.eq_of_beq_eq_true hc.1
     have h2:=Nat.eq_of_beq_eq_true hc.2
     subst h1 h2
     exact ⟨_,by rw [Nat.sub_self]; rfl,Nat.le_refl _⟩
  ·rename_i x G1 _ _ _ hn iZ
   obtain ⟨rfl,rfl⟩:=List.cons.inj iZ
   exact step h
theorem aY.De {s0:St} {d:Option Tmp} {x y:AV} (h:aY E R w β (s0.put d (.v x)) a) (hw:∀ c,Rel R w x c→Rel R w y c):aY E R w β (s0.put d (.v y)) a:=by
 cases d with
 | none=>exact h
 | some d=>
  simp only [St.put] at h ⊢
  cases hb:Nat.blt d s0.n with
  | false=>rw [hb] at h; exact h
  | true=>
   rw [hb] at h
   refine ⟨h.g,h.b,fun i hi=>?_,h.n,h.d⟩
   by_cases e:d=i
   ·subst e
    rw [ay]
    obtain ⟨c,k1,k2⟩:=h.t d (by rw [ay]; simp)
    rw [ay] at k2
    exact ⟨c,k1,hw c k2⟩
   ·rw [aH e] at hi ⊢
    have:=h.t i (by rw [aH e]; exact hi)
    rw [aH e] at this
    exact this
theorem bH.De {s0:St} {x y:AV} (h:bH E R w β s a o (s0.put o.dst (.v x))) (hw:∀ R' w',Ext R w R' w'→∀ c,Rel R' w' x c→Rel R' w' y c):bH E R w β s a o (s0.put o.dst (.v y)):=by
 obtain ⟨nx,v,w',R',β',h1,h2,h3,h4⟩:=h
 refine ⟨nx,v,w',R',β',h1,h2,h3.De (hw R' w' h4.ext),?_⟩
 rw [aP] at h4 ⊢
 exact h4
end fams
section ops
variable {E:Env} {R:ai} {w:World} {β:Nat→Nat} {s:St} {a:Act} {o:Oper}
theorem eK {k:LK} {sz esz:Nat} {es:List AV} {c:Value} (h:Rel R w (.list k sz es) c) (dG:es=[]∨sz=esz) :
  gU esz es∧∃ vs,aD R w (ar es) vs∧(∀ v∈vs,v.oneCell'=true)∧vs.length=es.length * esz ∧
   ((es=[]∧vs=[]∧∃ ad,c=.slice ad 0 0∧(ad=none∨k=.dP))∨∃ b o' cap,c=.slice (some ⟨b,o',none⟩) es.length cap∧es.length≤cap∧xG R k b o' es.length cap∧(∀ j v,vs[j]?=some v→w.cell? ((⟨b,o',none⟩:Addr).add j)=some v)∧e7 R w b o' esz es):=by
 cases h with
 | iB=>exact ⟨fun e he=>by simp at he,[],.nil,by simp,by simp,.inl ⟨rfl,rfl,_,rfl,.inl rfl⟩⟩
 | gF=>exact ⟨fun e he=>by simp at he,[],.nil,by simp,by simp,.inl ⟨rfl,rfl,_,rfl,.inl rfl⟩⟩
 | kX=>exact ⟨fun e he=>by simp at he,[],.nil,by simp,by simp,.inl ⟨rfl,rfl,_,rfl,.inr rfl⟩⟩
 | kA=>exact ⟨fun e he=>by simp at he,[],.nil,by simp,by simp,.inl ⟨rfl,rfl,_,rfl,.inl rfl⟩⟩
 | ka=>exact ⟨fun e he=>by simp at he,[],.nil,by simp,by simp,.inl ⟨rfl,rfl,_,rfl,.inl rfl⟩⟩
 | @list _ _ _ b o' len cap hr hlen fN FF=>
  subst hlen
  have kf:e7 R w b o' esz es:=by
   rcases dG with rfl | rfl
   ·exact .nil
   ·exact hr
  obtain ⟨g0,vs,g1,g2,g3,g4⟩:=tx kf
  refine ⟨g0,vs,g1,g2,by rw [← g1.length,cT g0],.inr ⟨b,o',cap,rfl,fN,FF,fun j v hv=>?_,kf⟩⟩
  rw [bY]
  exact g3 j v hv
theorem pD {b esz:Nat} {es:List AV} {vs:List Value} {w:World} {R:ai} (h0:gU esz es) (h:aD R w (ar es) vs) (h1:∀ v∈vs,v.oneCell'=true)
  (hc:∀ j v,vs[j]?=some v→w.cell? ⟨b,j,none⟩=some v) (hI:∀ j,j < vs.length→R.I b j):e7 R w b 0 esz es:=
 kE h0 (cW.make h h1 (fun j v hv=>by rw [Nat.zero_add]; exact hc j v hv) (fun j hj=>by rw [Nat.zero_add]; exact hI j (by rw [← h.length]; exact hj)))
theorem jV {sz:Nat} {l r:List AV} (h:gU sz l) (k:gU sz r):gU sz (l++r):=fun e he=>by
 rcases List.mem_append.1 he with he | he
 ·exact h e he
 ·exact k e he
theorem gI {l r:List Value} (h:∀ v∈l,v.oneCell'=true) (k:∀ v∈r,v.oneCell'=true):∀ v∈l++r,v.oneCell'=true:=fun v hv=>by
 rcases List.mem_append.1 hv with hv | hv
 ·exact h v hv
 ·exact k v hv
structure UD (P:Program) (w:World) (t u ty e:TypeId) (i:TypeInfo) (z:Value) (cy:Value) (n:Nat) (us:List Value):Prop where
 zero:n=0→∀ base len cap,len≤cap→(Builtin.append_ #[t,u] ty #[.slice base len cap,cy]).run P w=.ok (.slice base len cap) w
 nil:0 < n→(n:Int)≤9223372036854775807→n * i.bytes≤281474976710656→(Builtin.append_ #[t,u] ty #[.slice none 0 0,cy]).run P w =
   .ok (.slice (some ⟨w.heap.size,0,none⟩) n (grownCap w n 0 e)) (w.drew.alloc (.cells (us.toArray++Builtin.zeroCells z.cells (grownCap w n 0 e - n)) e))
 grow:0 < n→∀ (b:Addr) (sLen ki:Nat) (xT:List Value),xT.length=sLen * i.size→(∀ j v,xT[j]?=some v→w.cell? (b.add j)=some v)→ki < sLen+n→((sLen+n:Nat):Int)≤9223372036854775807→Builtin.nextslicecap (sLen+n) ki * i.bytes≤281474976710656 →
   (Builtin.append_ #[t,u] ty #[.slice (some b) sLen ki,cy]).run P w=.ok (.slice (some ⟨w.heap.size,0,none⟩) (sLen+n) (grownCap w (sLen+n) ki e))
    (w.drew.alloc (.cells (xT.toArray++us.toArray++Builtin.zeroCells z.cells (grownCap w (sLen+n) ki e - (sLen+n))) e))
 room:0 < n→∀ (g sLen ki:Nat) (cur:Array Value),w.heap[g]?=some (.cells cur e (0,0))→sLen+n≤ki→sLen * i.size+us.length≤cur.size →
   (Builtin.append_ #[t,u] ty #[.slice (some ⟨g,0,none⟩) sLen ki,cy]).run P w=.ok (.slice (some ⟨g,0,none⟩) (sLen+n) ki) (w.setRow g (cur.toList.take (sLen * i.size)++us++cur.toList.drop (sLen * i.size+us.length)).toArray)
theorem lU (h:aY E R w β s a) {t u:TypeId} {id f off sz len:Nat} {y:AV} {ys:List AV} {cx cy:Value} {us:List Value}
  (eB:∀ {c:Value} {w':World},(Builtin.append_ #[t,u] o.type #[cx,cy]).run E.P w=.ok c w'→(execOp a.eval o).run E.P w=.ok (.value c) w')
  {elem esz eb:Nat} {z:AV} (Df:1≤eb) (hz:z.cells.length=esz) (pf:z.aL=true)
  {ie:TypeInfo} (f2:ie.size=esz) (f3:ie.bytes=eb) (f6:eV ie=some z)
  (h0:Rel R w (.dC id f off sz len) cx) (hA:∀ zc:Value,ie.zero=some zc→UD E.P w t u o.type elem ie zc cy (y :: ys).length us)
  (y0:cK esz (y :: ys)) (y1:aD R w (ar (y :: ys)) us) (y2:∀ v∈us,v.oneCell'=true) (y3:us.length=(y :: ys).length * esz)
  {es:List AV} (hid:nth s.G id=some (.dm es esz elem)) (hf:f=es.length) (Zr:off=0) (tB:len=f) (hb:(es.length+(y :: ys).length) * eb≤140737488355328) :
  bH E R w β s a o ((s.bL (aw s.G id (.dm (es++(y :: ys)) esz elem))).put o.dst (.v (.dC id (es.length+(y :: ys).length) 0 esz (es.length+(y :: ys).length)))):=by
 obtain ⟨zc,ow,Bc⟩:=cA f6
 have hA:=hA zc ow
 obtain ⟨d1,d2⟩:=Rel.cells (Bc R w) pf
 have np:zc.cells.size=esz:=by rw [← hz,d1.length]; simp
 have mw:0 < (y :: ys).length:=by simp
 have hm:es.length+(y :: ys).length≤140737488355328:=Nat.le_trans (Nat.le_mul_of_pos_right _ Df) hb
 have zC:(es++(y :: ys)).length=es.length+(y :: ys).length:=List.length_append
 -- where a new block has been made
 have fresh:∀ {xs:List Value} {old:Nat} {r0:RO},nth R.obj id=some r0→(∀ b c,bW r0 (.tok (es.length+(y :: ys).length) b c))→cK esz es→aD R w (ar es) xs→(∀ v∈xs,v.oneCell'=true)→xs.length=es.length * esz →
   (Builtin.append_ #[t,u] o.type #[cx,cy]).run E.P w=.ok (.slice (some ⟨w.heap.size,0,none⟩) (es.length+(y :: ys).length) (grownCap w (es.length+(y :: ys).length) old elem)) (w.drew.alloc (.cells (xs.toArray++us.toArray++Builtin.zeroCells zc.cells (grownCap w (es.length+(y :: ys).length) old elem - (es.length+(y :: ys).length))) elem)) →
   bH E R w β s a o ((s.bL (aw s.G id (.dm (es++(y :: ys)) esz elem))).put o.dst (.v (.dC id (es.length+(y :: ys).length) 0 esz (es.length+(y :: ys).length)))):=by
  intro xs old r0 bA hle Fo Sh sh wF bi
  have pd:=grownCap_ge w (es.length+(y :: ys).length) old elem
  obtain ⟨r1,r2⟩:=h.Oy (cur:=xs.toArray++us.toArray++Builtin.zeroCells zc.cells (grownCap w (es.length+(y :: ys).length) old elem - (es.length+(y :: ys).length))) (vs:=xs++us) (es':=es++(y :: ys)) hid bA (by rw [zC]; exact hle) (by rw [zC]; exact pd) (grownCap_le_maxLen w _ old elem (by unfold maxLen; omega)) (by
   simp only [Array.size_append,List.size_toArray,size_zeroCells,np,wF,y3,← Nat.add_mul]
   congr 1
   omega) (pC Fo y0) (by rw [ck]; exact Sh.append y1) (gI sh y2) (by
   rw [zC]
   simp only [Array.toList_append]
   exact List.take_left' (by rw [List.length_append,wF,y3,Nat.add_mul]))
  rw [zC] at r1 r2
  refine ⟨_,_,_,_,β,eB bi,.inl rfl,r1.put o.dst ?_,by rw [aP]; exact r2⟩
  exact Rel.dC (aC bA) ⟨Nat.le_refl _,fun _=>⟨rfl,Nat.zero_add _,.inl (Nat.zero_mul _).symm⟩⟩ pd
 cases h0 with
 | @gA _ _ ro bA hon=>
  have cb:=h.g.obj id _ _ hid bA
  have Zs:es=[]:=List.eq_nil_of_length_eq_zero hf.symm
  subst Zs
  cases ro with
  | none=>exact cb.elim
  | bJ _=>exact cb.elim
  | aU _=>exact cb.elim
  | tok f' g c=>
   obtain ⟨rfl,_⟩:=cb
   simp [kW] at hon
  | bl=>
   simp only [List.length_nil] at hb
   have bi:=hA.nil mw (by omega) (by rw [f3]; rw [Nat.zero_add] at hb; omega)
   exact fresh (xs:=[]) (old:=0) bA (fun b c=>by simp only [bW]; omega) (fun e he=>by simp at he) .nil (by simp) (by simp) (by simpa using bi)
 | @dC _ _ _ _ _ cap b o' ro bA dE fN=>
  subst hf; subst Zr; subst tB
  obtain ⟨b',c',cur,vs,rfl,g1,g2,g3,g4,g5,g6,g7,g8,g9⟩:=jU h.g hid bA (fun k=>by subst k; exact dE)
  obtain ⟨rfl,zD,ql⟩:=dE.2 rfl
  rw [Nat.zero_add] at zD
  subst zD
  have Nb:vs.length=es.length * esz:=by rw [← g7.length,cB g1]
  have eL:∀ j v,vs[j]?=some v→cur[j]?=some v:=fun j v hj=>by
   rw [← g9,List.getElem?_take] at hj
   split at hj
   ·rw [← Array.getElem?_toList]; exact hj
   ·cases hj
  by_cases fB:es.length+(y :: ys).length≤cap
  ·have mb:o'=0:=by
    rcases ql with ql | ql
    ·rw [ql,Nat.zero_mul]
    ·rw [List.length_cons] at fB; omega
   subst mb
   have hle:(es.length+(y :: ys).length) * esz≤cap * esz:=Nat.mul_le_mul_right _ fB
   have bi:=hA.room mw b es.length cap cur g2 fB (by rw [f2,y3,← Nat.add_mul,g5]; exact hle)
   rw [f2] at bi
   have iw:cur.toList.length=cap * esz:=by rw [show cur.toList.length=cur.size from Array.length_toList,g5]
   obtain ⟨r1,r2⟩:=h.JB (cur2:=(cur.toList.take (es.length * esz)++us++cur.toList.drop (es.length * esz+us.length)).toArray) (vs:=vs++us) (es':=es++(y :: ys)) hid bA (by rw [zC]; omega) (by rw [zC]; exact fB) g2 (by
    rw [List.size_toArray,← Array.length_toList]
    simp only [List.length_append,List.length_take,List.length_drop,y3,iw]
    rw [Nat.add_mul] at hle
    omega) (pC g1 y0) (by rw [ck]; exact g7.append y1) (gI g8 y2) (by
    rw [zC,List.toList_toArray,g9]
    exact List.take_left' (by rw [List.length_append,Nb,y3,Nat.add_mul]))
   rw [zC] at r1 r2
   refine ⟨_,_,_,_,β,eB bi,.inl rfl,r1.put o.dst ?_,by rw [aP]; exact r2⟩
   exact Rel.dC (aC bA) ⟨Nat.le_refl _,fun _=>⟨rfl,Nat.zero_add _,.inl (Nat.zero_mul _).symm⟩⟩ fB
  ·have bi:=hA.grow mw ⟨b,o',none⟩ es.length cap vs (by rw [Nb,f2]) (fun j v hj=>by
    rw [bY]
    have Jd:=(List.getElem?_eq_some_iff.1 hj).1
    have mb:o'=0:=by
     rcases ql with ql | ql
     ·rw [ql,Nat.zero_mul]
     ·have:es.length=0:=by omega
      rw [Nb,this] at Jd
      omega
    subst mb
    rw [Nat.zero_add,cell_of_row w b j cur elem (0,0) g2]
    exact eL j v hj) (by omega) (by omega) (growslice_fits (by omega) (by rw [f3]; exact hb))
   exact fresh (xs:=vs) (old:=cap) bA (fun b c=>⟨by omega,fun e=>by omega⟩) g1 g7 g8 Nb bi
theorem kG (h:aY E R w β s a) {t u:TypeId} {id j:Nat} {es:List AV} {y:AV} {ys:List AV} {cx cy:Value} {us:List Value}
  (eB:∀ {c:Value} {w':World},(Builtin.append_ #[t,u] o.type #[cx,cy]).run E.P w=.ok c w'→(execOp a.eval o).run E.P w=.ok (.value c) w')
  {elem esz eb:Nat} {z:AV} (Df:1≤eb) (hz:z.cells.length=esz) (pf:z.aL=true)
  {ie:TypeInfo} (f2:ie.size=esz) (f3:ie.bytes=eb) (f6:eV ie=some z)
  (h0:Rel R w (.list (.aU id j) esz es) cx) (hA:∀ zc:Value,ie.zero=some zc→UD E.P w t u o.type elem ie zc cy (y :: ys).length us)
  (y0:gU esz (y :: ys)) (y1:aD R w (ar (y :: ys)) us) (y2:∀ v∈us,v.oneCell'=true) (y3:us.length=(y :: ys).length * esz)
  {fs:List Nat} (gf:nth s.G id=some (.aU fs esz elem)) (sM:nth fs j=some es.length) (hb:(es.length+(y :: ys).length) * eb≤140737488355328) :
  bH E R w β s a o ((s.bL (aw s.G id (.aU (aw fs j (es.length+(y :: ys).length)) esz elem))).put o.dst (.v (.list (.aU id j) esz (es++(y :: ys))))):=by
 obtain ⟨zc,ow,Bc⟩:=cA f6
 have hA:=hA zc ow
 obtain ⟨d1,d2⟩:=Rel.cells (Bc R w) pf
 have np:zc.cells.size=esz:=by rw [← hz,d1.length]; simp
 have mw:0 < (y :: ys).length:=by simp
 have hm:es.length+(y :: ys).length≤140737488355328:=Nat.le_trans (Nat.le_mul_of_pos_right _ Df) hb
 obtain ⟨x0,xs,x1,x2,x3,x4⟩:=eK (esz:=esz) h0 (.inr rfl)
 obtain ⟨ro,bA⟩:∃ ro,nth R.obj id=some ro:=by
  cases h0 with
  | ka q _=>exact ⟨_,q⟩
  | list _ _ _ hk=>obtain ⟨ro,q,_⟩:=hk; exact ⟨ro,q⟩
 have cb:=h.g.obj id _ _ gf bA
 cases ro with
 | none=>exact cb.elim
 | bl=>exact cb.elim
 | bJ _=>exact cb.elim
 | tok _ _ _=>exact cb.elim
 | aU ts=>
 have cb:tg R w esz elem fs ts:=cb
 have Zt:j < ts.length:=by rw [cb.1]; exact bu sM
 obtain ⟨tr,ht⟩:∃ tr,nth ts j=some tr:=⟨ts[j],by rw [aR]; exact List.getElem?_eq_getElem Zt⟩
 have mc:=cb.2.2 j _ _ sM ht
 have zF:∀ i f b c,nth ts i=some (.tok f b c)→b < w.heap.size:=fun i f b c hi=>h.g.bI ⟨id,_,bA,i,f,c,hi⟩
 -- where a new block has been made
 have fresh:∀ {old:Nat},(∀ b c,kb tr (.tok (es.length+(y :: ys).length) b c)) →
   (Builtin.append_ #[t,u] o.type #[cx,cy]).run E.P w=.ok (.slice (some ⟨w.heap.size,0,none⟩) (es.length+(y :: ys).length) (grownCap w (es.length+(y :: ys).length) old elem)) (w.drew.alloc (.cells (xs.toArray++us.toArray++Builtin.zeroCells zc.cells (grownCap w (es.length+(y :: ys).length) old elem - (es.length+(y :: ys).length))) elem)) →
   bH E R w β s a o ((s.bL (aw s.G id (.aU (aw fs j (es.length+(y :: ys).length)) esz elem))).put o.dst (.v (.list (.aU id j) esz (es++(y :: ys))))):=by
  intro old hle bi
  have pd:=grownCap_ge w (es.length+(y :: ys).length) old elem
  have Si:=grownCap_le_maxLen w (es.length+(y :: ys).length) old elem (by unfold maxLen; omega)
  have Nf:(xs.toArray++us.toArray++Builtin.zeroCells zc.cells (grownCap w (es.length+(y :: ys).length) old elem - (es.length+(y :: ys).length))).size=grownCap w (es.length+(y :: ys).length) old elem * esz:=by
   simp only [Array.size_append,List.size_toArray,size_zeroCells,np,x3,y3,← Nat.add_mul]
   congr 1
   omega
  generalize gB:xs.toArray++us.toArray++Builtin.zeroCells zc.cells (grownCap w (es.length+(y :: ys).length) old elem - (es.length+(y :: ys).length))=cur at bi Nf
  have o1:=One.drew w (.cells cur elem)
  obtain ⟨r1,r2⟩:=h.Ot o1 (n:=(es.length+(y :: ys).length) * esz) (r1:=.aU (aw ts j (.tok (es.length+(y :: ys).length) w.heap.size (grownCap w (es.length+(y :: ys).length) old elem)))) (go:=.aU (aw fs j (es.length+(y :: ys).length)) esz elem) gf bA
   (qy.set ht (hle _ _)) (fun b hb=>Da hb) (tg.set cb ⟨rfl,cur,o1.new,pd,Si,Nf,fun o' mb hi=>by
    rcases hi with hi | ⟨_,hi⟩
    ·have:=h.g.wf _ _ hi
     omega
    ·omega⟩ (fun i f c hi=>absurd (zF i f _ c hi) (Nat.lt_irrefl _)) (fun i f b c _ hi=>⟨o1.old b (zF i f b c hi),fun o' mb=>by
     rcases mb with mb | ⟨mb,_⟩
     ·exact mb
     ·have:=zF i f b c hi
      omega⟩))
  have e:=r2.ext
  refine ⟨_,_,_,_,β,eB bi,.inl rfl,r1.put o.dst ?_,by rw [aP]; exact r2⟩
  refine Rel.list (pD (vs:=xs++us) (jV x0 y0) (by rw [ck]; exact (x1.mono e).append (y1.mono e)) (gI x2 y2) (fun j v hj=>?_) (fun j hj=>.inr ⟨rfl,by rw [List.length_append,x3,y3,← Nat.add_mul] at hj; exact hj⟩)) (by simp) pd ⟨_,aC bA,_,aC ht,Nat.le_refl _,fun _=>⟨rfl,rfl,rfl⟩⟩
  rw [cell_of_row _ _ j _ _ _ o1.new,← gB]
  have bT:=(List.getElem?_eq_some_iff.1 hj).1
  rw [← Array.getElem?_toList]
  simp only [Array.toList_append,List.append_assoc]
  rw [← List.append_assoc,List.getElem?_append_left bT]
  exact hj
 rcases x4 with ⟨rfl,rfl,ad,rfl,hd⟩ | ⟨b,o',cap,rfl,Sj,xk,rB,xE⟩
 ·obtain rfl:ad=none:=by
   rcases hd with hd | hd
   ·exact hd
   ·cases hd
  simp only [List.length_nil] at hb mc
  have bi:=hA.nil mw (by simp only [List.length_nil] at hm; omega) (by rw [f3]; rw [Nat.zero_add] at hb; omega)
  cases tr with
  | bl=>exact fresh (old:=0) (fun b c=>by simp only [kb,List.length_cons]; omega) (by simpa using bi)
  | full f'=>
   have mc:f'=0:=mc
   subst mc
   exact fresh (old:=0) (fun b c=>by simp only [kb,List.length_cons]; omega) (by simpa using bi)
  | tok f' g c=>
   obtain ⟨mc,_⟩:=mc
   subst mc
   exact fresh (old:=0) (fun b c=>by simp only [kb,List.length_cons,List.length_nil]; omega) (by simpa using bi)
 ·obtain ⟨ks,Sk,rA⟩:=xk
  rw [bA] at Sk
  cases Sk
  obtain ⟨t',q3,rA⟩:=rA
  rw [ht] at q3
  cases q3
  cases tr with
  | bl=>exact rA.elim
  | full f'=>
   have hf:f'=es.length:=mc
   subst hf
   have fN:=rA.2 rfl
   subst fN
   have bi:=hA.grow mw ⟨b,o',none⟩ es.length es.length xs (by rw [x3,f2]) rB (by omega) (by omega) (growslice_fits (by omega) (by rw [f3]; exact hb))
   exact fresh (fun b c=>by simp only [kb]; omega) bi
  | tok f' g c=>
   obtain ⟨rfl,cur,gB,k1,k3,k4,k5⟩:=mc
   obtain ⟨rfl,rfl,rfl⟩:=rA.2 rfl
   by_cases fB:es.length+(y :: ys).length≤cap
   ·have hle:(es.length+(y :: ys).length) * esz≤cap * esz:=Nat.mul_le_mul_right _ fB
    have bi:=hA.room mw b es.length cap cur gB fB (by rw [f2,y3,← Nat.add_mul,k4]; exact hle)
    rw [f2] at bi
    generalize FR:(cur.toList.take (es.length * esz)++us++cur.toList.drop (es.length * esz+us.length)).toArray=cur2 at bi
    have iw:cur.toList.length=cap * esz:=by rw [show cur.toList.length=cur.size from Array.length_toList,k4]
    have hll:es.length * esz≤cap * esz:=Nat.mul_le_mul_right _ k1
    have El:cur2.size=cap * esz:=by
     rw [← FR,List.size_toArray]
     simp only [List.length_append,List.length_take,List.length_drop,y3,iw]
     rw [Nat.add_mul] at hle
     omega
    have tF:∀ o',R.I b o'→cur2[o']?=cur[o']?:=fun o' hi=>by
     have ho:o' < es.length * esz:=Nat.lt_of_not_le fun hle=>k5 o' hle hi
     rw [← FR,List.append_assoc]
     simp only [List.getElem?_toArray]
     rw [List.getElem?_append_left (by rw [List.length_take]; omega),List.getElem?_take,if_pos ho,Array.getElem?_toList]
    have new:(w.setRow b cur2).heap[b]?=some (.cells cur2 elem (0,0)):=setRow_heap w b cur cur2 elem (0,0) gB
    obtain ⟨r0,r1,r2⟩:=h.JA (cur2:=cur2) (n:=(es.length+(y :: ys).length) * esz) (r1:=.aU (aw ts j (.tok (es.length+(y :: ys).length) b cap))) (go:=.aU (aw fs j (es.length+(y :: ys).length)) esz elem) gf bA ⟨j,_,_,ht⟩
     (qy.set ht ⟨by omega,fun e=>by omega⟩) (fun b' kd=>(Da kd).elim (fun e=>by rw [e]; exact ⟨j,_,_,ht⟩) (fun x=>x)) gB tF (fun _=>tg.set cb ⟨rfl,cur2,new,fB,k3,El,fun o' mb hi=>by
      rcases hi with hi | ⟨_,hi⟩
      ·exact k5 o' (Nat.le_trans (Nat.mul_le_mul_right _ (Nat.le_add_right _ _)) mb) hi
      ·omega⟩ (fun i f c hi=>cb.2.1 i j _ _ _ _ _ hi ht) (fun i f b' c cj hi=>by
       have Rb:b'≠b:=fun e=>by subst e; exact cj (cb.2.1 i j _ _ _ _ _ hi ht)
       refine ⟨setRow_other w b b' cur2 Rb,fun o' mb=>?_⟩
       rcases mb with mb | ⟨mb,_⟩
       ·exact mb
       ·exact absurd mb Rb))
    refine ⟨_,_,_,_,β,eB bi,.inl rfl,r1.put o.dst ?_,by rw [aP]; exact r2⟩
    have JC:cur.toList.take (es.length * esz)=xs:=by
     have JD:xs.length=es.length * esz:=x3
     apply List.ext_getElem?
     intro j
     rw [List.getElem?_take]
     split
     ·rename_i hj
      have Jd:j < xs.length:=by omega
      have qB:=rB j xs[j] (List.getElem?_eq_getElem Jd)
      rw [bY,Nat.zero_add,cell_of_row w b j cur elem (0,0) gB] at qB
      rw [Array.getElem?_toList,qB,List.getElem?_eq_getElem Jd]
     ·rw [List.getElem?_eq_none (by omega)]
    refine Rel.list (pD (vs:=xs++us) (jV x0 y0) (by rw [ck]; exact (x1.mono r0).append (y1.mono r0)) (gI x2 y2) (fun j v hj=>?_) (fun j hj=>.inr ⟨rfl,by rw [List.length_append,x3,y3,← Nat.add_mul] at hj; exact hj⟩)) (by simp) fB ⟨_,aC bA,_,aC ht,Nat.le_refl _,fun _=>⟨rfl,rfl,rfl⟩⟩
    rw [cell_of_row _ _ j _ _ _ new,← FR,JC]
    simp only [List.getElem?_toArray]
    rw [List.getElem?_append_left (List.getElem?_eq_some_iff.1 hj).1]
    exact hj
   ·have bi:=hA.grow mw ⟨b,0,none⟩ es.length cap xs (by rw [x3,f2]) rB (by omega) (by omega) (growslice_fits (by omega) (by rw [f3]; exact hb))
    exact fresh (fun b c=>⟨by omega,fun e=>by omega⟩) bi
theorem sr (h:aY E R w β s a) {t u:TypeId} {id j:Nat} {es:List AV} {y:AV} {ys:List AV} {cx cy:Value} {us:List Value}
  (eB:∀ {c:Value} {w':World},(Builtin.append_ #[t,u] o.type #[cx,cy]).run E.P w=.ok c w'→(execOp a.eval o).run E.P w=.ok (.value c) w')
  {elem esz eb:Nat} {z:AV} (Df:1≤eb) (hz:z.cells.length=esz) (pf:z.aL=true)
  {ie:TypeInfo} (f2:ie.size=esz) (f3:ie.bytes=eb) (f6:eV ie=some z)
  (h0:Rel R w (.list (.aU id j) esz es) cx) (hA:∀ zc:Value,ie.zero=some zc→UD E.P w t u o.type elem ie zc cy (y :: ys).length us)
  (y0:gU esz (y :: ys)) (y1:aD R w (ar (y :: ys)) us) (y2:∀ v∈us,v.oneCell'=true) (y3:us.length=(y :: ys).length * esz)
  {fs:List Nat} (gf:nth s.G id=some (.aU fs esz elem)) (sM:Jr fs j es.length=true) (hb:(es.length+(y :: ys).length) * eb≤140737488355328) :
  bH E R w β s a o ((s.bL (aw s.G id (.aU (D6 fs j (es.length+(y :: ys).length)) esz elem))).put o.dst (.v (.list (.aU id j) esz (es++(y :: ys))))):=by
 unfold Jr at sM
 rw [Bool.or_eq_true,decide_eq_true_eq,Bool.and_eq_true] at sM
 rcases sM with sM | ⟨hj,hl⟩
 ·have cj:Nat.beq j fs.length=false:=by
   cases hb:Nat.beq j fs.length with
   | false=>rfl
   | true=>
    have:=Nat.eq_of_beq_eq_true hb
    have:=bu sM
    omega
  unfold D6
  rw [cj]
  exact kG h eB Df hz pf f2 f3 f6 h0 hA y0 y1 y2 y3 gf sM hb
 ·have tK:D6 fs j (es.length+(y :: ys).length)=fs++[es.length+(y :: ys).length]:=by
   unfold D6
   rw [hj]
   rfl
  rw [tK]
  have hj:=Nat.eq_of_beq_eq_true hj
  have hl:=Nat.eq_of_beq_eq_true hl
  subst hj
  have bT:=bu gf
  rw [← h.g.len] at bT
  obtain ⟨ro,bA⟩:∃ ro,nth R.obj id=some ro:=⟨R.obj[id],by rw [aR]; exact List.getElem?_eq_getElem bT⟩
  obtain ⟨ts,rfl,z1,z2,z3⟩:=h.BM gf (nfs:=[0]) (nts:=[.bl]) rfl (fun j f t h1 h2=>by
   cases j with
   | zero=>simp only [nth] at h1 h2; cases h1; cases h2; exact rfl
   | succ j=>simp [nth] at h1) (fun j f b c hj=>by
   cases j with
   | zero=>simp only [nth] at hj; cases hj
   | succ j=>simp [nth] at hj) bA
  have key:=kG z2 eB Df hz pf f2 f3 f6 (h0.mono z3.ext) hA y0 (y1.mono z3.ext) y2 y3 (fs:=fs++[0]) (aC gf) (by rw [hl]; exact dH _ _) hb
  have e1:aw (fs++[0]) fs.length (es.length+(y :: ys).length)=fs++[es.length+(y :: ys).length]:=by
   rw [e9,List.set_append_right _ _ (Nat.le_refl _),Nat.sub_self]
   rfl
  have e2:∀ x y:GO,aw (aw s.G id x) id y=aw s.G id y:=fun x y=>by rw [e9,e9,e9,List.set_set]
  rw [e1] at key
  refine bH.step rfl z3 ?_
  have e3:((s.bL (aw s.G id (.aU (fs++[0]) esz elem))).bL (aw (s.bL (aw s.G id (.aU (fs++[0]) esz elem))).G id (.aU (fs++[es.length+(y :: ys).length]) esz elem)))=s.bL (aw s.G id (.aU (fs++[es.length+(y :: ys).length]) esz elem)):=by
   simp only [St.bL,e2]
  rw [e3] at key
  exact key
theorem kH (h:aY E R w β s a) {t u:TypeId} {x:AV} {ys:List AV} {cx cy:Value} {us:List Value}
  (eB:∀ {c:Value} {w':World},(Builtin.append_ #[t,u] o.type #[cx,cy]).run E.P w=.ok c w'→(execOp a.eval o).run E.P w=.ok (.value c) w')
  {i:TI} {elem esz eb:Nat} {ag:Bool} {z:AV} (hk:i.k=.sl elem esz ag eb (some z)) (Df:1≤eb) (hz:z.cells.length=esz) (pf:z.aL=true)
  {ie:TypeInfo} (f1:E.P.info? elem=some ie) (f2:ie.size=esz) (f3:ie.bytes=eb) (f6:eV ie=some z)
  (h0:Rel R w x cx) (hA:∀ zc:Value,ie.zero=some zc→UD E.P w t u o.type elem ie zc cy ys.length us)
  (y0:gU esz ys) (y1:aD R w (ar ys) us) (y2:∀ v∈us,v.oneCell'=true) (y3:us.length=ys.length * esz)
  {v:AV} {G':List GO} (ha:eX s.G elem esz eb x ys=some (true,v,G')) :
  bH E R w β s a o ((s.bL G').put o.dst (.v v)):=by
 obtain ⟨zc,ow,Bc⟩:=cA f6
 have Ye:=hA
 have hA:=hA zc ow
 obtain ⟨d1,d2⟩:=Rel.cells (Bc R w) pf
 have np:zc.cells.size=esz:=by rw [← hz,d1.length]; simp
 unfold eX at ha
 split at ha
 ·-- nothing is appended
  rename_i k sz es
  have Sc:us=[]:=List.eq_nil_of_length_eq_zero (by simpa using y3)
  have hG:G'=s.G∧Rel R w v cx:=by
   split at ha
   ·injection ha with ha; injection ha with _ ha; injection ha with p q
    subst p; subst q
    exact ⟨rfl,h0⟩
   ·injection ha with ha; injection ha with _ ha; injection ha with p q
    subst p; subst q
    exact ⟨rfl,h0⟩
  obtain ⟨rfl,Zu⟩:=hG
  refine aq (s:=s) h (c:=cx) (eB ?_) Zu
  cases h0 with
  | iB=>exact hA.zero rfl _ _ _ (Nat.le_refl 0)
  | gF=>exact hA.zero rfl _ _ _ (Nat.le_refl 0)
  | kX=>exact hA.zero rfl _ _ _ (Nat.le_refl 0)
  | kA=>exact hA.zero rfl _ _ _ (Nat.le_refl 0)
  | ka=>exact hA.zero rfl _ _ _ (Nat.le_refl 0)
  | list hr hlen fN _=>exact hA.zero rfl _ _ _ fN
 ·-- something is appended
  rename_i k sz es y ys hA
  have mw:0 < (y :: ys).length:=by simp
  -- what is shown where a new block has been made
  have grown:∀ {n old:Nat} {xs:List Value} {es':List AV},(es'.length=n)→gU esz es'→aD R w (ar es') xs→(∀ v∈xs,v.oneCell'=true)→xs.length=n * esz →
    (n+(y :: ys).length) * eb≤140737488355328→n+(y :: ys).length≤maxLen→∀ (R':ai) (G2:List GO) (id:Nat),
    aY E R' (w.drew.alloc (.cells (xs.toArray++us.toArray++Builtin.zeroCells zc.cells (grownCap w (n+(y :: ys).length) old elem - (n+(y :: ys).length))) elem)) β (s.bL G2) a →
    Step R w β s.boxes R' (w.drew.alloc (.cells (xs.toArray++us.toArray++Builtin.zeroCells zc.cells (grownCap w (n+(y :: ys).length) old elem - (n+(y :: ys).length))) elem)) β s.boxes →
    (∀ j,j < (n+(y :: ys).length) * esz→R'.I w.heap.size j)→nth R'.obj id=some (.tok (n+(y :: ys).length) w.heap.size (grownCap w (n+(y :: ys).length) old elem)) →
    (Builtin.append_ #[t,u] o.type #[cx,cy]).run E.P w=.ok (.slice (some ⟨w.heap.size,0,none⟩) (n+(y :: ys).length) (grownCap w (n+(y :: ys).length) old elem)) (w.drew.alloc (.cells (xs.toArray++us.toArray++Builtin.zeroCells zc.cells (grownCap w (n+(y :: ys).length) old elem - (n+(y :: ys).length))) elem)) →
    bH E R w β s a o ((s.bL G2).put o.dst (.v (.list (.own id) esz (es'++(y :: ys))))):=by
   intro n old xs es' xJ Oz Sh sh wF _ _ R' G2 id cb Dg hI hid bi
   refine ⟨_,_,_,R',β,eB bi,.inl rfl,cb.put o.dst ?_,by rw [aP]; exact Dg⟩
   have e:=Dg.ext
   refine Rel.list (pD (vs:=xs++us) (jV Oz y0) (by rw [ck]; exact (Sh.mono e).append (y1.mono e)) (gI sh y2) (fun j v hj=>?_) (fun j hj=>hI j (by rw [List.length_append,wF,y3,← Nat.add_mul] at hj; exact hj))) (by simp [xJ]) (grownCap_ge w _ _ _) ⟨_,hid,Nat.le_refl _,fun _=>⟨rfl,rfl,rfl⟩⟩
   have ms:(w.drew.alloc (.cells (xs.toArray++us.toArray++Builtin.zeroCells zc.cells (grownCap w (n+(y :: ys).length) old elem - (n+(y :: ys).length))) elem)).heap[w.heap.size]?=some (.cells (xs.toArray++us.toArray++Builtin.zeroCells zc.cells (grownCap w (n+(y :: ys).length) old elem - (n+(y :: ys).length))) elem (0,0)):=heap_alloc_new w.drew _
   rw [cell_of_row _ _ j _ _ _ ms]
   have bT:=(List.getElem?_eq_some_iff.1 hj).1
   rw [← Array.getElem?_toList]
   simp only [Array.toList_append,List.append_assoc]
   rw [← List.append_assoc,List.getElem?_append_left bT]
   exact hj
  have FT:∀ {n old:Nat} {xs:List Value},xs.length=n * esz→n+(y :: ys).length≤maxLen→(xs.toArray++us.toArray++Builtin.zeroCells zc.cells (grownCap w (n+(y :: ys).length) old elem - (n+(y :: ys).length))).size=grownCap w (n+(y :: ys).length) old elem * esz:=by
   intro n old xs wF _
   have pd:=grownCap_ge w (n+(y :: ys).length) old elem
   simp only [Array.size_append,List.size_toArray,size_zeroCells,np,wF,y3,← Nat.add_mul]
   congr 1
   omega
  have fresh:∀ {n old:Nat} {xs:List Value} {es':List AV},(es'.length=n)→gU esz es'→aD R w (ar es') xs→(∀ v∈xs,v.oneCell'=true)→xs.length=n * esz →
    (n+(y :: ys).length) * eb≤140737488355328→n+(y :: ys).length≤maxLen →
    (Builtin.append_ #[t,u] o.type #[cx,cy]).run E.P w=.ok (.slice (some ⟨w.heap.size,0,none⟩) (n+(y :: ys).length) (grownCap w (n+(y :: ys).length) old elem)) (w.drew.alloc (.cells (xs.toArray++us.toArray++Builtin.zeroCells zc.cells (grownCap w (n+(y :: ys).length) old elem - (n+(y :: ys).length))) elem)) →
    bH E R w β s a o ((s.bL (s.G++[.tok (n+(y :: ys).length) esz elem])).put o.dst (.v (.list (.own s.G.length) esz (es'++(y :: ys))))):=by
   intro n old xs es' xJ Oz Sh sh wF hb hm bi
   obtain ⟨r1,r2⟩:=h.Oo (cur:=xs.toArray++us.toArray++Builtin.zeroCells zc.cells (grownCap w (n+(y :: ys).length) old elem - (n+(y :: ys).length))) (elem:=elem) (grownCap_ge w (n+(y :: ys).length) old elem) (grownCap_le_maxLen w _ old elem hm) (FT wF hm)
   exact grown xJ Oz Sh sh wF hb hm _ _ _ r1 r2 (fun j hj=>.inr ⟨rfl,hj⟩) (by rw [← h.g.len]; exact dH _ _) bi
  have JE:∀ {n:Nat},(n+(y :: ys).length) * eb≤140737488355328→n+(y :: ys).length≤140737488355328:=fun {n} hb=>Nat.le_trans (Nat.le_mul_of_pos_right _ Df) hb
  split at ha
  ·-- nil
   injection ha with ha; injection ha with hc ha; injection ha with p q
   subst p; subst q
   have hb:=of_decide_eq_true hc
   cases h0 with
   | list _ _ _ FF=>exact FF.elim
   | iB=>
    simp only [List.length_nil] at hb
    have hm:=JE hb
    refine fresh (n:=0) (old:=0) (xs:=[]) (es':=[]) rfl (fun e he=>by simp at he) .nil (by simp) (by simp) hb (by unfold maxLen; omega) ?_
    have bi:=hA.nil mw (by omega) (by rw [f3]; rw [Nat.zero_add] at hb; omega)
    simpa using bi
  ·-- as long as its capacity
   split at ha
   ·rename_i dG
    have dG:=Nat.eq_of_beq_eq_true dG
    subst dG
    injection ha with ha; injection ha with hc ha; injection ha with p q
    subst p; subst q
    have hb:=of_decide_eq_true hc
    have hm:=JE hb
    obtain ⟨x0,xs,x1,x2,x3,x4⟩:=eK (esz:=sz) h0 (.inr rfl)
    rcases x4 with ⟨rfl,rfl,ad,rfl,hd⟩ | ⟨b,o',cap,rfl,Sj,xk,rB,_⟩
    ·rcases hd with rfl | hd
     ·cases h0
     ·cases hd
    ·have fN:cap=es.length:=xk
     subst fN
     refine fresh (n:=es.length) (old:=es.length) (xs:=xs) (es':=es) rfl x0 x1 x2 x3 hb (by unfold maxLen; omega) ?_
     exact hA.grow mw ⟨b,o',none⟩ es.length es.length xs (by rw [x3,f2]) rB (by omega) (by omega) (growslice_fits (by omega) (by rw [f3]; exact hb))
   ·cases ha
  ·-- of a token
   rename_i id
   split at ha
   ·rename_i f bp e' gf
    split at ha
    ·rename_i b6
     simp only [Bool.and_eq_true] at b6
     obtain ⟨⟨q1,q2⟩,q3⟩:=b6
     have q1:=Nat.eq_of_beq_eq_true q1
     have q2:=Nat.eq_of_beq_eq_true q2
     have q3:=Nat.eq_of_beq_eq_true q3
     subst q1; subst q2; subst q3
     injection ha with ha; injection ha with hc ha; injection ha with p q
     subst p; subst q
     simp only [Bool.and_eq_true] at hc
     have sM:=of_decide_eq_true hc.1
     have hb:=of_decide_eq_true hc.2
     subst sM
     have hm:=JE hb
     obtain ⟨x0,xs,x1,x2,x3,x4⟩:=eK (esz:=sz) h0 (.inr rfl)
     rcases x4 with ⟨rfl,rfl,ad,rfl,hd⟩ | ⟨b,o',cap,rfl,Sj,xk,rB,xE⟩
     ·obtain rfl:ad=none:=by
       rcases hd with hd | hd
       ·exact hd
       ·cases hd
      cases h0 with
      | @kA _ _ ro bA hon=>
      have cb:=h.g.obj id _ _ gf bA
      cases ro with
      | none=>exact cb.elim
      | bJ _=>exact cb.elim
      | tok f' g c=>
       obtain ⟨rfl,_⟩:=cb
       simp [kW] at hon
      | aU _=>exact cb.elim
      | bl=>
       simp only [List.length_nil] at hb
       have bi:=hA.nil mw (by omega) (by rw [f3]; rw [Nat.zero_add] at hb; omega)
       have dG:=FT (n:=0) (old:=0) (xs:=[]) (by simp) (by unfold maxLen; omega)
       obtain ⟨r1,r2⟩:=h.FO (cur:=[].toArray++us.toArray++Builtin.zeroCells zc.cells (grownCap w (0+(y :: ys).length) 0 e' - (0+(y :: ys).length))) (elem:=e') (n:=0+(y :: ys).length) (cap:=grownCap w (0+(y :: ys).length) 0 e') gf bA (fun b c=>by simp only [bW]; omega) (grownCap_ge w _ _ _) (grownCap_le_maxLen w _ _ _ (by unfold maxLen; omega)) dG
       exact grown (n:=0) (es':=[]) rfl (fun e he=>by simp at he) .nil (by simp) (by simp) hb (by unfold maxLen; omega) _ _ _ r1 r2 (fun j hj=>.inr ⟨rfl,hj⟩) (aC bA) (by simpa using bi)
     ·obtain ⟨ro,bA,rA⟩:=xk
      have cb:=h.g.obj id _ _ gf bA
      cases ro with
      | none=>exact cb.elim
      | bl=>exact rA.elim
      | bJ _=>exact cb.elim
      | aU _=>exact cb.elim
      | tok f' g c=>
       obtain ⟨rfl,cur,gB,k1,k3,k4,k5⟩:=cb
       obtain ⟨rfl,rfl,rfl⟩:=rA.2 rfl
       by_cases fB:es.length+(y :: ys).length≤cap
       ·have hle:(es.length+(y :: ys).length) * sz≤cap * sz:=Nat.mul_le_mul_right _ fB
        have bi:=hA.room mw b es.length cap cur gB fB (by rw [f2,y3,← Nat.add_mul,k4]; exact hle)
        rw [f2] at bi
        obtain ⟨r0,r1,r2⟩:=h.Jy (news:=us) (n:=es.length+(y :: ys).length) gf bA (by omega) fB gB k4 k3 (by rw [y3,← Nat.add_mul])
        refine ⟨_,_,_,_,β,eB bi,.inl rfl,r1.put o.dst ?_,by rw [aP]; exact r2⟩
        have ms:=setRow_heap w b cur (cur.toList.take (es.length * sz)++us++cur.toList.drop (es.length * sz+us.length)).toArray e' (0,0) gB
        have JC:cur.toList.take (es.length * sz)=xs:=by
         have JD:xs.length=es.length * sz:=x3
         apply List.ext_getElem?
         intro j
         rw [List.getElem?_take]
         split
         ·rename_i hj
          have Jd:j < xs.length:=by omega
          have qB:=rB j xs[j] (List.getElem?_eq_getElem Jd)
          rw [bY,Nat.zero_add,cell_of_row w b j cur e' (0,0) gB] at qB
          rw [Array.getElem?_toList,qB,List.getElem?_eq_getElem Jd]
         ·rw [List.getElem?_eq_none (by omega)]
        refine Rel.list (pD (vs:=xs++us) (jV x0 y0) (by rw [ck]; exact (x1.mono r0).append (y1.mono r0)) (gI x2 y2) (fun j v hj=>?_) (fun j hj=>.inr ⟨rfl,by rw [List.length_append,x3,y3,← Nat.add_mul] at hj; exact hj⟩)) (by simp) fB ⟨_,aC bA,Nat.le_refl _,fun _=>⟨rfl,rfl,rfl⟩⟩
        rw [cell_of_row _ _ j _ _ _ ms,JC]
        simp only [List.getElem?_toArray]
        rw [List.getElem?_append_left (List.getElem?_eq_some_iff.1 hj).1]
        exact hj
       ·have bi:=hA.grow mw ⟨b,0,none⟩ es.length cap xs (by rw [x3,f2]) rB (by omega) (by omega) (growslice_fits (by omega) (by rw [f3]; exact hb))
        obtain ⟨r1,r2⟩:=h.FO (cur:=xs.toArray++us.toArray++Builtin.zeroCells zc.cells (grownCap w (es.length+(y :: ys).length) cap e' - (es.length+(y :: ys).length))) (elem:=e') (n:=es.length+(y :: ys).length) (cap:=grownCap w (es.length+(y :: ys).length) cap e') gf bA (fun b c=>⟨by omega,fun e=>by omega⟩) (grownCap_ge w _ _ _) (grownCap_le_maxLen w _ _ _ (by unfold maxLen; omega)) (FT x3 (by unfold maxLen; omega))
        exact grown rfl x0 x1 x2 x3 hb (by unfold maxLen; omega) _ _ _ r1 r2 (fun j hj=>.inr ⟨rfl,hj⟩) (aC bA) bi
    ·cases ha
   ·cases ha
  ·-- of a member of a family
   rename_i id j
   split at ha
   ·rename_i fs bp e' gf
    split at ha
    ·rename_i b6
     simp only [Bool.and_eq_true] at b6
     obtain ⟨⟨q1,q2⟩,q3⟩:=b6
     have q1:=Nat.eq_of_beq_eq_true q1
     have q2:=Nat.eq_of_beq_eq_true q2
     have q3:=Nat.eq_of_beq_eq_true q3
     subst q1; subst q2; subst q3
     injection ha with ha; injection ha with hc ha; injection ha with p q
     subst p; subst q
     simp only [Bool.and_eq_true,decide_eq_true_eq] at hc
     exact sr h eB Df hz pf f2 f3 f6 h0 (fun Vq OA=>Ye Vq OA) y0 y1 y2 y3 gf hc.1 hc.2
    ·cases ha
   ·cases ha
  ·cases ha
 ·-- a slice that grows, and nothing
  injection ha with ha; injection ha with _ ha; injection ha with p q
  subst p; subst q
  refine aq (s:=s) h (c:=cx) (eB ?_) h0
  cases h0 with
  | gA=>exact hA.zero rfl _ _ _ (Nat.le_refl 0)
  | dC _ _ fN=>exact hA.zero rfl _ _ _ fN
 ·-- a slice that grows
  rename_i id f' off sz len y ys hA
  split at ha
  ·rename_i es bp e' gf
   split at ha
   ·rename_i b6
    simp only [Bool.and_eq_true] at b6
    obtain ⟨⟨q1,q2⟩,q3⟩:=b6
    have q1:=Nat.eq_of_beq_eq_true q1
    have q2:=Nat.eq_of_beq_eq_true q2
    have q3:=Nat.eq_of_beq_eq_true q3
    subst q1; subst q2; subst q3
    injection ha with ha; injection ha with hc ha; injection ha with p q
    subst p; subst q
    simp only [Bool.and_eq_true,decide_eq_true_eq] at hc
    exact lU h eB Df hz pf f2 f3 f6 h0 (fun Vq OA=>Ye Vq OA) y0.g y1 y2 y3 gf hc.1.1.1 hc.1.1.2 hc.1.2 hc.2
   ·cases ha
  ·cases ha
 ·cases ha
theorem zG (h:aY E R w β s a) {args:Array Operand} {t:TypeId} (ho:o.op=.call { callee:=.builtin .append,args:=args,argTypes:=#[t,t] }) {x:AV} {k2:LK} {kV:Nat} {ys:List AV}
  (hl:kr E s.ae args.toList=some [x,.list k2 kV ys]) {i:TI} (hi:E.ti t=some i) {elem esz eb:Nat} {ag:Bool} {z:AV} (hk:i.k=.sl elem esz ag eb (some z)) (El:ys=[]∨kV=esz) (Zv:1≤esz) (Df:1≤eb) (hz:z.cells.length=esz) (pf:z.aL=true)
  {v:AV} {G':List GO} (ha:eX s.G elem esz eb x ys=some (true,v,G')) :
  bH E R w β s a o ((s.bL G').put o.dst (.v v)):=by
 have hr:=fb h hl
 generalize hv:args.toList.map a.eval=vs at hr
 have hx:=dv (E:=E) (w:=w) ho vs hv
 cases hr with
 | @cons _ cx _ _ h0 h1=>
 cases h1 with
 | @cons _ cy _ _ h1 h2=>
 cases h2
 obtain ⟨fy,u,e1,e2,e3,e4,e5,e6⟩:=bO E hi
 have Bd:=hk
 rw [hk] at e5
 obtain ⟨ie,ue,rfl,f1,f2,f3,f4,f5,f6⟩:=cR e5
 have nX:(⟨[cx,cy]⟩:Array Value)=#[cx,cy]:=rfl
 obtain ⟨y0,us,y1,y2,y3,y4⟩:=eK (esz:=esz) h1 El
 refine kH h (cx:=cx) (cy:=cy) (t:=t) (u:=t) (fun hh=>?_) Bd Df hz pf f1 f2 f3 f6 h0 (fun zc ow=>?_) y0 y1 y2 y3 ha
 ·rw [hx]
  simp only [builtin,nX,Sem.run_bind,hh,Result.andThen_ok,Sem.run_pure]
 ·rcases y4 with ⟨rfl,rfl,ad,rfl,_⟩ | ⟨R7,oy,BN,rfl,Vr,_,tL,yE⟩
  ·refine ⟨fun _ base len cap C7=>?_,fun hh=>absurd hh (by simp),fun hh=>absurd hh (by simp),fun hh=>absurd hh (by simp)⟩
   cases ad <;> simp [Builtin.append_,run_underlying e2,run_sizeOf w f1,Builtin.lenOf,Builtin.firstCells,C7,storeCells,loadCells,loadCellsFrom] <;>
    cases base <;> simp [storeCells]
  ·refine ⟨fun hn base len cap C7=>?_,fun hh FU FV=>run_append_nil (P:=E.P) w t o.type elem ie zc e2 f1 ow _ _ BN us (by rw [y3,f2]) tL hh FU FV,fun _ b sLen ki xT zH Jh hg FU FV=>run_append_grow (P:=E.P) w t o.type elem ie zc e2 f1 ow b sLen ki xT zH Jh _ _ BN us (by rw [y3,f2]) tL hg FU FV,fun _ g sLen ki cur hg fB pE=>run_append_room (P:=E.P) w t o.type elem ie e2 f1 g sLen ki cur hg _ _ BN us (by rw [y3,f2]) tL y2 fB pE⟩
   rw [hn]
   simp [Builtin.append_,run_underlying e2,run_sizeOf w f1,Builtin.lenOf,Builtin.firstCells,C7,storeCells,loadCells,loadCellsFrom]
   cases base <;> simp [storeCells]
theorem tM:∀ (bs:List UInt8),aD R w (ar (bs.map po)) (Lib.strCells ⟨⟨bs⟩⟩)
 | []=>.nil
 | b :: bs=>.cons (Rel.int .u8 b.toNat) (tM bs)
theorem ss (h:aY E R w β s a) {args:Array Operand} {t u:TypeId} (ho:o.op=.call { callee:=.builtin .append,args:=args,argTypes:=#[t,u] }) {x:AV} {bs:List UInt8}
  (hl:kr E s.ae args.toList=some [x,.str bs]) {i j:TI} (hi:E.ti t=some i) (hj:E.ti u=some j) {elem eb:Nat} {ag:Bool} {z:AV} (hk:i.k=.sl elem 1 ag eb (some z)) (Rj:j.k=.str) (Df:1≤eb) (hz:z.cells.length=1) (pf:z.aL=true)
  {v:AV} {G':List GO} (ha:eX s.G elem 1 eb x (bs.map po)=some (true,v,G')) :
  bH E R w β s a o ((s.bL G').put o.dst (.v v)):=by
 have hr:=fb h hl
 generalize hv:args.toList.map a.eval=vs at hr
 have hx:=dv (E:=E) (w:=w) ho vs hv
 cases hr with
 | @cons _ cx _ _ h0 h1=>
 cases h1 with
 | @cons _ cy _ _ h1 h2=>
 cases h2
 obtain ⟨fy,ud,e1,e2,e3,e4,e5,e6⟩:=bO E hi
 obtain ⟨Sl,Zw,g1,g2,g3,g4,g5,g6⟩:=bO E hj
 rw [Rj] at g5
 have:=jf g5
 subst this
 have Bd:=hk
 rw [hk] at e5
 obtain ⟨ie,ue,rfl,f1,f2,f3,f4,f5,f6⟩:=cR e5
 cases h1
 have dG:(⟨⟨bs⟩⟩:ByteArray).size=bs.length:=rfl
 have hlen:(bs.map po).length=bs.length:=List.length_map _
 have nX:(⟨[cx,.string ⟨⟨bs⟩⟩]⟩:Array Value)=#[cx,.string ⟨⟨bs⟩⟩]:=rfl
 have iw:(Lib.strCells ⟨⟨bs⟩⟩).length=bs.length:=Lib.strCells_length _
 refine kH h (cx:=cx) (cy:=.string ⟨⟨bs⟩⟩) (us:=Lib.strCells ⟨⟨bs⟩⟩) (t:=t) (u:=u) (fun hh=>?_) Bd Df hz pf f1 f2 f3 f6 h0 (fun zc ow=>?_) ?_ (tM bs) (Lib.strCells_oneCell _) (by rw [iw,hlen,Nat.mul_one]) ha
 ·rw [hx]
  simp only [builtin,nX,Sem.run_bind,hh,Result.andThen_ok,Sem.run_pure]
 ·rw [hlen]
  refine ⟨fun hn base len cap C7=>?_,fun hh FU FV=>?_,fun _ b sLen ki xT zH Jh hg FU FV=>Lib.run_append_grow_string (P:=E.P) w t u o.type elem ie zc e2 g2 f1 ow b sLen ki xT zH Jh ⟨⟨bs⟩⟩ hg FU FV,fun _ g sLen ki cur hg fB pE=>?_⟩
  ·have hb:bs=[]:=List.eq_nil_of_length_eq_zero hn
   subst hb
   have Vs:(⟨⟨[]⟩⟩:ByteArray).size=0:=rfl
   simp [Vs,Builtin.append_,run_underlying e2,run_underlying g2,run_sizeOf w f1,Builtin.lenOf,Builtin.firstCells,C7,storeCells]
   cases base <;> simp [storeCells]
  ·rw [run_append_nil_string (P:=E.P) w t u o.type elem ie zc e2 g2 f1 ow ⟨⟨bs⟩⟩ hh FU FV]
   simp [Lib.strCells,dG]
  ·have:=Lib.run_append_room_string (P:=E.P) w t u o.type elem ie e2 g2 f1 f2 g sLen ki cur hg ⟨⟨bs⟩⟩ fB (by rw [f2,Nat.mul_one,iw] at pE; exact pE)
   rw [this,f2,Nat.mul_one,iw]
   rfl
 ·intro e he
  obtain ⟨b,_,rfl⟩:=List.mem_map.1 he
  exact ⟨rfl,rfl,rfl⟩
end ops
end Go.Am
