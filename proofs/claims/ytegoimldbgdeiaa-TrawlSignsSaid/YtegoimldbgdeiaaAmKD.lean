/- The abstract machine: what it does is what the model does: slices that grow and are written. -/
import Derived.Test.YtegoimldbgdeiaaAmKC
set_option linter.all false
namespace Go.Am
open Go
section lists
theorem yf {α:Type} (c us:List α) (n p sz off:Nat) (hn:n≤c.length) (hp:p+sz≤n) (ho:off+us.length≤sz) :
  (c.take (p+off)++us++c.drop (p+off+us.length)).take n =
   (c.take n).take p++((((c.take n).drop p).take sz).take off++us++(((c.take n).drop p).take sz).drop (off+us.length))++(c.take n).drop (p+sz):=by
 apply List.ext_getElem?;intro j;simp only [List.getElem?_append,List.getElem?_take,List.getElem?_drop,List.length_append,List.length_take,List.length_drop];by_cases h1:j < p
 ·rw [if_pos (by omega),if_pos (by omega),if_pos (by omega),if_pos (by omega),if_pos (by omega),if_pos (by omega),if_pos (by omega),if_pos (by omega)]
 ·by_cases h2:j < p+off
  ·rw [if_pos (by omega),if_pos (by omega),if_pos (by omega),if_pos (by omega),if_pos (by omega),if_neg (by omega),if_pos (by omega),if_pos (by omega),if_pos (by omega),if_pos (by omega),if_pos (by omega)];congr 1; omega
  ·by_cases h3:j < p+off+us.length
   ·rw [if_pos (by omega),if_pos (by omega),if_neg (by omega),if_pos (by omega),if_neg (by omega),if_pos (by omega),if_neg (by omega)];congr 1; omega
   ·by_cases h4:j < p+sz
    ·rw [if_pos (by omega),if_neg (by omega),if_pos (by omega),if_neg (by omega),if_neg (by omega),if_pos (by omega),if_pos (by omega)];congr 1; omega
    ·by_cases h5:j < n
     ·rw [if_pos (by omega),if_neg (by omega),if_neg (by omega),if_pos (by omega)];congr 1; omega
     ·rw [if_neg (by omega),if_neg (by omega),if_neg (by omega)]
theorem sh {sz:Nat}:∀ {es:List AV} {i:Nat} {e:AV},dw sz es→nth es i=some e→((aw es).drop (i * sz)).take sz=e.cells
 |[],_,_,_,h=>by simp [nth] at h
 |x :: es,0,e,h,hi=>by
  simp only [nth] at hi;cases hi;have h1:=(h x (by simp)).1;rw [Nat.zero_mul,List.drop_zero];simp only [aw];rw [← h1,List.take_left]
 |x :: es,i+1,e,h,hi=>by
  have h1:=(h x (by simp)).1;have ih:=sh (i:=i) (fun y hy=>h y (by simp [hy])) (show nth es i=some e from hi);simp only [aw];rw [show (i+1) * sz=x.cells.length+i * sz by rw [h1,Nat.succ_mul]; omega,List.drop_append,List.drop_of_length_le (by omega),List.nil_append,Nat.add_sub_cancel_left];exact ih
theorem te {sz:Nat} {l r:List AV} (h:dw sz l) (k:dw sz r):dw sz (l++r):=fun e he=>by
 rcases List.mem_append.1 he with he|he
 ·exact h e he
 ·exact k e he
theorem Bj {sz:Nat} {l:List AV} (n:Nat) (h:dw sz l):dw sz (l.take n):=fun e he=>h e (List.mem_of_mem_take he)
theorem I4 {sz:Nat} {l:List AV} (n:Nat) (h:dw sz l):dw sz (l.drop n):=fun e he=>h e (List.mem_of_mem_drop he)
theorem iS {sz:Nat}:∀ {es:List AV} (i:Nat),dw sz es→aw (es.take i)=(aw es).take (i * sz)
 |[],i,_=>by simp [aw]
 |e :: es,0,_=>by simp [aw]
 |e :: es,i+1,h=>by
  have h1:=(h e (by simp)).1;simp only [List.take_succ_cons,aw];rw [iS i (fun y hy=>h y (by simp [hy])),show (i+1) * sz=e.cells.length+i * sz by rw [h1,Nat.succ_mul]; omega,List.take_append,Nat.add_sub_cancel_left,List.take_of_length_le (by omega:e.cells.length≤e.cells.length+i * sz)]
theorem pY {sz:Nat}:∀ {es:List AV} (i:Nat),dw sz es→aw (es.drop i)=(aw es).drop (i * sz)
 |[],i,_=>by simp [aw]
 |e :: es,0,_=>by simp [aw]
 |e :: es,i+1,h=>by
  have h1:=(h e (by simp)).1;simp only [List.drop_succ_cons,aw];rw [pY i (fun y hy=>h y (by simp [hy])),show (i+1) * sz=e.cells.length+i * sz by rw [h1,Nat.succ_mul]; omega,List.drop_append,List.drop_of_length_le (by omega:e.cells.length≤e.cells.length+i * sz),List.nil_append,Nat.add_sub_cancel_left]
theorem cT {sz:Nat} {es:List AV} (h:dw sz es):(aw es).length=es.length * sz:=by
 induction es with
 |nil=>simp [aw]
 |cons e es ih=>
  have h1:=(h e (by simp)).1;have:=ih (fun x hx=>h x (by simp [hx]));simp only [aw,List.length_append,this,h1,List.length_cons,Nat.add_mul];omega
theorem FJ {sz:Nat} {es:List AV} {i:Nat} {v:AV} (h:dw sz es) (h1:v.cells.length=sz) (h2:v.aS=true):dw sz (aq es i v):=fun e he=>by
 rw [dQ] at he;rcases List.mem_or_eq_of_mem_set he with he|rfl
 ·exact h e he
 ·exact ⟨h1,h2⟩
theorem DA {sz:Nat} {es:List AV} {i:Nat} {v:AV} (h:dw sz es) (hi:i < es.length) (hv:v.cells.length=sz):aw (aq es i v)=b9 (aw es) (i * sz) v.cells:=by
 have Dj:i * sz+sz≤es.length * sz:=by
  rw [← Nat.succ_mul];exact Nat.mul_le_mul_right _ hi
 rw [dQ,List.set_eq_take_append_cons_drop,if_pos hi,fm _ _ _ (by rw [hv,cT h]; exact Dj),cJ,iS i h,hv];simp only [aw];rw [pY (i+1) h,Nat.succ_mul,List.append_assoc]
end lists
section ops
variable {E:Env} {R:ai} {w:World} {β:Nat→Nat} {s:St} {a:Act} {o:Oper}
theorem oK {G:List GO} (h:fj E R w G) {id:Nat} {es:List AV} {sz:Nat} {el:TypeId} {ro:RO} (hid:nth G id=some (.bo es sz el)) (bn:nth R.obj id=some ro) (hn:ro≠.bz) :
  ∃ b c cur vs,ro=.tok es.length b c 0∧dw sz es∧w.heap[b]?=some (.cells cur el (0,0))∧es.length≤c∧c≤maxLen∧cur.size=c * sz∧(∀ o,¬ R.I b o)∧aL R w (aw es) vs∧(∀ v∈vs,v.oneCell'=true)∧cur.toList.take (es.length * sz)=vs:=by
 have hr:=h.obj id _ _ hid bn;cases ro with
 |none=>exact hr.elim
 |bz=>exact absurd rfl hn
 |bK b=>exact hr.elim
 |bc _=>exact hr.elim
 |tok f b c k=>
  obtain ⟨rfl,rfl,h1,cur,vs,h2,h3,h4,h5,h6,h7,h8,h9⟩:=hr;exact ⟨b,c,cur,vs,rfl,h1,h2,h3,h4,h5,h6,h7,h8,h9⟩
theorem yg {id f i sz:Nat} {t:TypeId} {v:AV} (h:xK E s id f i sz t=some (true,v)) :
  ∃ es el e,nth s.G id=some (.bo es sz el)∧f=es.length∧nth es i=some e∧jA e v:=by
 unfold xK at h;split at h
 ·rename_i es bu el hid;split at h
  ·rename_i p hp;split at h
   ·rename_i fb;have fb:=Nat.eq_of_beq_eq_true fb;subst fb;injection h with h;injection h with h1 h2;simp only [Bool.and_eq_true,decide_eq_true_eq] at h1;obtain ⟨⟨h3,h4⟩,h5⟩:=h1;obtain ⟨e,he⟩:∃ e,nth es i=some e:=⟨es[i],by rw [aV]; exact List.getElem?_eq_getElem h4⟩;have hd:ab es i=e:=by simp [ab,he]
    rw [hd] at h5 h2;rw [← h2];exact ⟨es,el,e,hid,h3,he,p.cV h5⟩
   ·cases h
  ·split at h
   ·rename_i fb;have fb:=Nat.eq_of_beq_eq_true fb;subst fb;injection h with h;injection h with h1 h2;simp only [Bool.and_eq_true,decide_eq_true_eq] at h1;obtain ⟨h3,h4⟩:=h1;obtain ⟨e,he⟩:∃ e,nth es i=some e:=⟨es[i],by rw [aV]; exact List.getElem?_eq_getElem h4⟩;have hd:ab es i=e:=by simp [ab,he]
    rw [hd] at h2;rw [← h2];exact ⟨es,el,e,hid,h3,he,jA.refl e⟩
   ·cases h
 ·cases h
theorem HC {α:Type} {l:List α} {i:Nat} {x:α} (h:nth l i=some x):x∈l:=by
 rw [aV] at h;exact List.mem_of_getElem? h
theorem FK {i n sz:Nat} (h:i < n):i * sz+sz≤n * sz:=by
 rw [← Nat.succ_mul];exact Nat.mul_le_mul_right _ h
theorem FL (h:aX E R w β s a) (t:TypeId) (x:Operand) (ho:o.op=.load t x) {v:AV} (hl:A6 E s t (bw E s.ae x)=some (true,v)) :
  bH E R w β s a o (s.put o.dst (.v v)):=by
 have rx:=aQ h x;unfold A6 at hl;split at hl
 ·rename_i id f i off sz ty hx;rw [hx] at rx;split at hl
  ·rename_i ti c ve RZ hg;split at hl
   ·rename_i l hs;split at hl
    ·rename_i r hm;injection hl with hl;injection hl with h1 h2;subst h1; subst h2;obtain ⟨es,el,e,hid,R9,he,I5⟩:=yg hg;have dH:Rel R w (.gp id f i off sz ty) (a.eval x):=rx;generalize fD:a.eval x=xv at dH;cases dH with
     | @gp _ _ _ _ _ b o' _ ro bn fa=>
     obtain ⟨b',c',cur,vs,rfl,g1,g2,g3,g4,g5,g6,g7,g8,g9⟩:=oK h.g hid bn (fun k=>by subst k; exact fa);obtain ⟨rfl,rfl⟩:=fa.2 R9;have hem:=g1 e (HC he);have dm:aL R w e.cells ((vs.drop (i * sz)).take sz):=by
      rw [← sh g1 he];exact (g7.drop _).take _
     have hw:=(I5.cells hem.2).rel dm;obtain ⟨k1,k2,k3,k4⟩:=qN hs hw (fun y hy=>g8 y (List.mem_of_mem_drop (List.mem_of_mem_take hy)));obtain ⟨c,hc,hrr⟩:=pT (E:=E) RZ (b:=b) (off:=i * sz+off) k1 k2 k3 (fun j y hy=>by
      have h1:=k4 j y hy;rw [List.getElem?_take] at h1;split at h1
      ·rw [List.getElem?_drop,← g9,List.getElem?_take] at h1;split at h1
       ·rw [cell_of_row w b _ cur el (0,0) g2,Nat.add_assoc,← Array.getElem?_toList];exact h1
       ·cases h1
      ·cases h1) hm
     refine ao h (c:=c) ?_ hrr;simp [execOp,ho,Instr.loadAt,fD,Instr.sureAddr,hc]
    ·cases hl
   ·cases hl
  ·cases hl
 ·split at hl
  ·rename_i v' hv;injection hl with hl;injection hl with h1 h2;subst h2;exact IW h t x ho hv
  ·cases hl
theorem aX.K6 (h:aX E R w β s a) {id f b c:Nat} {es es':List AV} {sz:Nat} {el:TypeId} {cur Dz:Array Value} {vs':List Value} (hid:nth s.G id=some (.bo es sz el)) (bn:nth R.obj id=some (.tok f b c 0))
  (hb:w.heap[b]?=some (.cells cur el (0,0))) (hlen:es'.length=es.length) (nJ:dw sz es') (fb:Dz.size=cur.size) (hr:aL R w (aw es') vs') (h1:∀ v∈vs',v.oneCell'=true) (ht:Dz.toList.take (f * sz)=vs') :
  aX E R (w.setRow b Dz) β (s.bG (aq s.G id (.bo es' sz el))) a∧Step R w β s.boxes R (w.setRow b Dz) β s.boxes:=by
 obtain ⟨_,q0,q1,W6,vs0,p1,p2,p3,p4,p5,p6,p7,p8⟩:=h.g.obj id _ _ hid bn;rw [hb] at p1;cases p1;have hex:=lC (R:=R) (w:=w) p5 Dz;have FM:∀ k cs,di s.boxes k=some cs→β k≠b:=fun k cs hk e=>(h.b.box k cs hk).2.2 ⟨id,_,bn,by rw [e]; rfl⟩
 refine ⟨⟨⟨by simp [St.bG,h.g.len],fun j7 go ro hg lF=>?_,h.g.inj,fun b' o' qL=>by have:=h.g.wf b' o' qL; simp; omega,fun g eP hg=>(h.g.dV g eP hg).mono hex,h.g.lo⟩,?_,h.t.mono hex,h.n,h.d⟩,?_⟩
 ·rcases dZ hg with ⟨rfl,rfl,_⟩|⟨cz,Dg⟩
  ·rw [bn] at lF;cases lF;exact ⟨rfl,by rw [hlen]; exact q0,nJ,Dz,vs',setRow_heap w _ _ _ _ (0,0) hb,p2,p3,by rw [fb]; exact p4,p5,hr.mono hex,h1,ht⟩
  ·refine (h.g.obj j7 go ro Dg lF).mono hex (fun b' kM=>setRow_other w _ b' _ (fun e=>cz ?_)) (fun _ _ _ hi=>hi);subst e;exact h.g.inj id j7 _ _ b' bn lF rfl kM
 ·exact h.b.aZ hex (fun k eP jy=>setRow_other w _ _ _ (FM k eP jy)) (fun _ _ _ _ hi=>hi) (fun _ _ _ hl=>hl)
 ·have uT:Own R β s.boxes b:=.inl ⟨id,_,bn,rfl⟩;exact ⟨hex,rfl,rfl,rfl,by simp,fun b' _ hn=>setRow_other w _ b' _ (fun e=>hn (e ▸ uT)),fun _ _ hb=>hb,fun b o hi _ _=>hi⟩
theorem aX.HD (h:aX E R w β s a) {id b c i off:Nat} {es:List AV} {sz:Nat} {el:TypeId} {cur:Array Value} {vs us:List Value} {e':AV} (hid:nth s.G id=some (.bo es sz el)) (bn:nth R.obj id=some (.tok es.length b c 0))
  (hb:w.heap[b]?=some (.cells cur el (0,0))) (nJ:dw sz es) (hle:es.length≤c) (tc:cur.size=c * sz) (hr:aL R w (aw es) vs) (h1:∀ v∈vs,v.oneCell'=true) (ht:cur.toList.take (es.length * sz)=vs) (hi:i < es.length)
  (h2:∀ v∈us,v.oneCell'=true) (Cm:off+us.length≤sz) (s7:e'.cells.length=sz) (W7:e'.aS=true) (W8:aL R w e'.cells (((vs.drop (i * sz)).take sz).take off++us++((vs.drop (i * sz)).take sz).drop (off+us.length))) :
  aX E R (w.setRow b ⟨cur.toList.take (i * sz+off)++us++cur.toList.drop (i * sz+off+us.length)⟩) β (s.bG (aq s.G id (.bo (aq es i e') sz el))) a ∧
   Step R w β s.boxes R (w.setRow b ⟨cur.toList.take (i * sz+off)++us++cur.toList.drop (i * sz+off+us.length)⟩) β s.boxes:=by
 have Dj:=FK (sz:=sz) hi;have FN:es.length * sz≤cur.toList.length:=by
  rw [show cur.toList.length=cur.size from Array.length_toList,tc];exact Nat.mul_le_mul_right _ hle
 have Qy:vs.length=es.length * sz:=by rw [← hr.length,cT nJ]
 refine h.K6 hid bn hb (iR _ _ _) (FJ nJ s7 W7) ?_ (vs':=vs.take (i * sz)++(((vs.drop (i * sz)).take sz).take off++us++((vs.drop (i * sz)).take sz).drop (off+us.length))++vs.drop (i * sz+sz)) ?_ ?_ ?_
 ·rw [List.size_toArray,← Array.length_toList];simp only [List.length_append,List.length_take,List.length_drop];omega
 ·rw [DA nJ hi s7,fm _ _ _ (by rw [s7,cT nJ]; exact Dj),s7];exact ((hr.take _).append W8).append (hr.drop _)
 ·intro v hv;simp only [List.mem_append] at hv;rcases hv with (hv|((hv|hv)|hv))|hv
  ·exact h1 v (List.mem_of_mem_take hv)
  ·exact h1 v (List.mem_of_mem_drop (List.mem_of_mem_take (List.mem_of_mem_take hv)))
  ·exact h2 v hv
  ·exact h1 v (List.mem_of_mem_drop (List.mem_of_mem_take (List.mem_of_mem_drop hv)))
  ·exact h1 v (List.mem_of_mem_drop hv)
 ·rw [List.toList_toArray,yf _ _ _ _ _ _ FN Dj Cm,ht]
theorem aX.HE (h:aX E R w β s a) {id b c off:Nat} {es ns:List AV} {sz:Nat} {el:TypeId} {cur:Array Value} {vs us:List Value} (hid:nth s.G id=some (.bo es sz el)) (bn:nth R.obj id=some (.tok es.length b c 0))
  (hb:w.heap[b]?=some (.cells cur el (0,0))) (nJ:dw sz es) (hle:es.length≤c) (tc:cur.size=c * sz) (hr:aL R w (aw es) vs) (h1:∀ v∈vs,v.oneCell'=true) (ht:cur.toList.take (es.length * sz)=vs)
  (Cm:off+ns.length≤es.length) (hns:dw sz ns) (hu:aL R w (aw ns) us) (h2:∀ v∈us,v.oneCell'=true) :
  aX E R (w.setRow b ⟨cur.toList.take (off * sz)++us++cur.toList.drop (off * sz+us.length)⟩) β (s.bG (aq s.G id (.bo (b9 es off ns) sz el))) a ∧
   Step R w β s.boxes R (w.setRow b ⟨cur.toList.take (off * sz)++us++cur.toList.drop (off * sz+us.length)⟩) β s.boxes:=by
 have Od:us.length=ns.length * sz:=by rw [← hu.length,cT hns]
 have Dj:off * sz+ns.length * sz≤es.length * sz:=by rw [← Nat.add_mul]; exact Nat.mul_le_mul_right _ Cm
 have FN:es.length * sz≤cur.toList.length:=by
  rw [show cur.toList.length=cur.size from Array.length_toList,tc];exact Nat.mul_le_mul_right _ hle
 have Qy:vs.length=es.length * sz:=by rw [← hr.length,cT nJ]
 have hm:=yf cur.toList us (es.length * sz) (off * sz) (ns.length * sz) 0 FN Dj (by omega);simp only [Nat.add_zero,List.take_zero,List.nil_append,Nat.zero_add] at hm;rw [Od,ht,show List.drop (ns.length * sz) (List.take (ns.length * sz) (List.drop (off * sz) vs))=[] from List.drop_of_length_le (by rw [List.length_take]; exact Nat.min_le_left _ _),List.append_nil] at hm;rw [fm _ _ _ Cm];refine h.K6 hid bn hb (by simp; omega) (te (te (Bj _ nJ) hns) (I4 _ nJ)) ?_ (vs':=vs.take (off * sz)++us++vs.drop (off * sz+ns.length * sz)) ?_ ?_ ?_
 ·rw [List.size_toArray,← Array.length_toList];simp only [List.length_append,List.length_take,List.length_drop,Od];omega
 ·rw [cJ,cJ,iS _ nJ,pY _ nJ,Nat.add_mul];exact ((hr.take _).append hu).append (hr.drop _)
 ·intro v hv;simp only [List.mem_append] at hv;rcases hv with (hv|hv)|hv
  ·exact h1 v (List.mem_of_mem_take hv)
  ·exact h2 v hv
  ·exact h1 v (List.mem_of_mem_drop hv)
 ·rw [List.toList_toArray,Od];exact hm
theorem tf (h:aX E R w β s a) (t:TypeId) (p x:Operand) (ho:o.op=.store t p x) (hd:o.dst=none) {id f i off sz:Nat} {ty:TypeId} (Qw:bw E s.ae p=.v (.gp id f i off sz ty)) {x':SV} (rx:pQ R w β x' (a.eval x)) {s':St} (hs:gj E s t (.v (.gp id f i off sz ty)) x'=some (true,s')) :
  bH E R w β s a o s':=by
 have rp:=aQ h p;rw [Qw] at rp;have WU:Rel R w (.gp id f i off sz ty) (a.eval p):=rp;generalize WV:a.eval p=pv at WU;unfold gj at hs;simp only at hs;split at hs
 ·rename_i ti v es bu el RZ hid;split at hs
  ·rename_i gq;simp only [Bool.and_eq_true] at gq;obtain ⟨⟨Nq,hlen⟩,Sa⟩:=gq;have hlen:=Nat.eq_of_beq_eq_true hlen;have Sa:=Nat.eq_of_beq_eq_true Sa;subst Sa;have rxw:Rel R w v (a.eval x):=rx;obtain ⟨c1,c2⟩:=Rel.cells rxw Nq;have Ax:v.cells.length=(a.eval x).cells.toList.length:=c1.length;cases WU with
   | @gp _ _ _ _ _ b o' _ ro bn fa=>
   obtain ⟨b',c',cur,vs,rfl,g1,g2,g3,g4,g5,g6,g7,g8,g9⟩:=oK h.g hid bn (fun k=>by subst k; exact fa);have Qy:vs.length=es.length * sz:=by rw [← g7.length,cT g1]
   have FN:es.length * sz≤cur.toList.length:=by
    rw [show cur.toList.length=cur.size from Array.length_toList,g5];exact Nat.mul_le_mul_right _ g3
   split at hs
   ·rename_i hw;rw [Bool.and_eq_true] at hw;have Cm:=Nat.eq_of_beq_eq_true hw.1;have V5:=Nat.eq_of_beq_eq_true hw.2;subst Cm;injection hs with hs;injection hs with h1 h2;rw [Bool.and_eq_true,decide_eq_true_eq,decide_eq_true_eq] at h1;subst h2;obtain ⟨rfl,rfl⟩:=fa.2 h1.1;have Dj:=FK (sz:=sz) h1.2;have bB:=kN (E:=E) (w:=w) RZ (b:=b) (vs:=cur.toList) (off:=i * sz+0) (c:=a.eval x) g2 (by rw [← Ax]; exact hlen) (by rw [← Ax]; omega) c2;obtain ⟨r1,r2⟩:=h.HD (us:=(a.eval x).cells.toList) (off:=0) (i:=i) (e':=v) hid bn g2 g1 g3 g5 g7 g8 g9 h1.2 c2 (by rw [← Ax]; omega) (by omega) Nq (by
     rw [List.take_zero,List.nil_append,Nat.zero_add,List.drop_of_length_le (by rw [List.length_take,← Ax]; omega),List.append_nil];exact c1)
    simp only [Nat.add_zero] at WV bB r1 r2;refine ⟨.skip,undef,_,R,β,?_,.inr ⟨rfl,rfl⟩,by rw [hd]; exact r1,r2⟩;simp [execOp,ho,Instr.storeAt,WV,Instr.sureAddr,bB]
   ·split at hs
    ·rename_i cc cs hg;split at hs
     ·rename_i hw;simp only [Bool.and_eq_true] at hw;obtain ⟨hle,Sb⟩:=hw;have hle:=Nat.le_of_ble_eq_true hle;have Sb:=Nat.eq_of_beq_eq_true Sb;injection hs with hs;injection hs with h1 h2;subst h1; subst h2;obtain ⟨es0,el0,e,K7,R9,he,I5⟩:=yg hg;rw [hid] at K7;cases K7;obtain ⟨rfl,rfl⟩:=fa.2 R9;have hi:i < es.length:=bi he;have Dj:=FK (sz:=sz) hi;have hem:=g1 e (HC he);have dm:aL R w e.cells ((vs.drop (i * sz)).take sz):=by
       rw [← sh g1 he];exact (g7.drop _).take _
      have hw:=(I5.cells hem.2).rel dm;have hw':aL R w cs ((vs.drop (i * sz)).take sz):=hw;have bB:=kN (E:=E) (w:=w) RZ (b:=b) (vs:=cur.toList) (off:=i * sz+off) (c:=a.eval x) g2 (by rw [← Ax]; exact hlen) (by rw [← Ax]; omega) c2;have Dk:off+v.cells.length≤cs.length:=by omega
      obtain ⟨r1,r2⟩:=h.HD (us:=(a.eval x).cells.toList) (off:=off) (i:=i) (e':=.agg (b9 cs off v.cells)) hid bn g2 g1 g3 g5 g7 g8 g9 hi c2 (by rw [← Ax]; omega) (by show (b9 cs off v.cells).length=sz; rw [Aw _ _ _ Dk]; exact Sb) rfl (by
       show aL R w (b9 cs off v.cells) _;rw [fm _ _ _ Dk,Ax];exact ((hw'.take _).append c1).append (hw'.drop _))
      refine ⟨.skip,undef,_,R,β,?_,.inr ⟨rfl,rfl⟩,by rw [hd]; exact r1,r2⟩;simp [execOp,ho,Instr.storeAt,WV,Instr.sureAddr,bB]
     ·cases hs
    ·cases hs
  ·cases hs
 ·cases hs
theorem DB (h:aX E R w β s a) (t:TypeId) (p x:Operand) (ho:o.op=.store t p x) (hd:o.dst=none) {s':St} (hs:gj E s t (bw E s.ae p) (bw E s.ae x)=some (true,s')) :
  bH E R w β s a o s':=by
 have Zy:=hs;unfold gj at hs;split at hs
 ·rename_i id f i off sz ty Qw;rw [Qw] at Zy;exact tf h t p x ho hd Qw (aQ h x) Zy
 ·split at hs
  ·rename_i Cn hv;injection hs with hs;injection hs with h1 h2;subst h2;exact Fw h t p x ho hd hv
  ·cases hs
def ai.reset (R:ai) (id:Nat) (ro:RO):ai:=⟨R.I,aq R.obj id ro⟩
theorem si {id g:Nat} {r0 ro:RO} (hid:nth R.obj id=some r0) (bn:∀ b,ro.has b→b=g) {b:Nat} (hl:Live (R.reset id ro) b):b=g∨Live R b:=by
 obtain ⟨i,r,h1,h2⟩:=hl;rcases aB hid h1 with ⟨_,rfl⟩|⟨_,h1⟩
 ·exact .inl (bn b h2)
 ·exact .inr ⟨i,r,h1,h2⟩
theorem aX.Sc (h:aX E R w β s a) {cur:Array Value} {vs:List Value} {es es':List AV} {elem:TypeId} {sz cap id:Nat} {r0:RO} (hg:nth s.G id=some (.bo es sz elem)) (hid:nth R.obj id=some r0) (hf:∀ b c,cp r0 (.tok es'.length b c 0))
  (hn:es'.length≤cap) (hm:cap≤maxLen) (hs:cur.size=cap * sz) (nJ:dw sz es') (hr:aL R w (aw es') vs) (h1:∀ v∈vs,v.oneCell'=true) (ht:cur.toList.take (es'.length * sz)=vs) :
  aX E (R.reset id (.tok es'.length w.heap.size cap 0)) (w.drew.alloc (.cells cur elem)) β (s.bG (aq s.G id (.bo es' sz elem))) a ∧
  Step R w β s.boxes (R.reset id (.tok es'.length w.heap.size cap 0)) (w.drew.alloc (.cells cur elem)) β s.boxes:=by
 have e:Ext R w (R.reset id (.tok es'.length w.heap.size cap 0)) (w.drew.alloc (.cells cur elem)):=
  ⟨fun _ _ h=>h,fun b o hi=>bP (heap_alloc_old w.drew _ b (h.g.wf b o hi)) o,fun i r hr=>by
   by_cases ei:id=i
   ·subst ei;rw [hid] at hr;cases hr;exact ⟨_,ay hid,hf _ _⟩
   ·exact ⟨r,by rw [ai.reset,a8 ei]; exact hr,cp.refl r⟩,.old fun b hb=>heap_alloc_old w.drew _ b hb⟩
 have old:∀ b,b < w.heap.size→(w.drew.alloc (.cells cur elem)).heap[b]?=w.heap[b]?:=fun b hb=>heap_alloc_old w.drew _ b hb
 have new:(w.drew.alloc (.cells cur elem)).heap[w.heap.size]?=some (.cells cur elem (0,0)):=heap_alloc_new w.drew _;have live:∀ b,b < w.heap.size→Live (R.reset id (.tok es'.length w.heap.size cap 0)) b→Live R b:=fun b hb hl=>by
  rcases si (g:=w.heap.size) (ro:=.tok es'.length w.heap.size cap 0) hid (fun _ h=>h) hl with rfl|hl
  ·omega
  ·exact hl
 refine ⟨⟨⟨by simp [St.bG,ai.reset,h.g.len],fun i gg r qM h2=>?_,fun i j ri rj b qM h2 b1 b2=>?_,fun b o hi=>?_,fun g cs hg=>(h.g.dV g cs hg).mono e,Nat.le_succ_of_le h.g.lo⟩,?_,h.t.mono e,h.n,h.d.mono e⟩,?_⟩
 ·rcases aB hid h2 with ⟨rfl,rfl⟩|⟨cz,h2⟩
  ·simp only [St.bG] at qM;rw [ay hg] at qM;cases qM;exact ⟨rfl,rfl,nJ,cur,vs,new,hn,hm,hs,fun o hi=>by have:=h.g.wf _ _ hi; omega,hr.mono e,h1,ht⟩
  ·simp only [St.bG] at qM;rw [a8 (Ne.symm cz)] at qM;exact (h.g.obj i gg r qM h2).mono e (fun b hb=>old b (h.g.bS ⟨i,r,h2,hb⟩)) (fun b o _ hi=>hi)
 ·rcases aB hid qM with ⟨g3,e1⟩|⟨g3,g1⟩
  ·rcases aB hid h2 with ⟨g4,e2⟩|⟨g4,g2⟩
   ·omega
   ·have:=h.g.bS ⟨j,rj,g2,b2⟩;rw [e1] at b1;simp [RO.has] at b1;omega
  ·rcases aB hid h2 with ⟨g4,e2⟩|⟨g4,g2⟩
   ·have:=h.g.bS ⟨i,ri,g1,b1⟩;rw [e2] at b2;simp [RO.has] at b2;omega
   ·exact h.g.inj i j ri rj b g1 g2 b1 b2
 ·have:=h.g.wf b o hi;simp;omega
 ·exact h.b.aZ e (fun k cs hk=>old _ (h.eg (.inr ⟨k,cs,hk,rfl⟩))) (fun k cs o hk hi=>hi) (fun k cs hk hl=>live _ (h.eg (.inr ⟨k,cs,hk,rfl⟩)) hl)
 ·refine ⟨e,rfl,rfl,rfl,by simp,fun b hb _=>old b hb,fun b hb ho=>?_,fun b o hi hb _=>hi⟩;rcases ho with ho|ho
  ·exact .inl (live b hb ho)
  ·exact .inr ho
theorem aX.Oe (h:aX E R w β s a) {cur:Array Value} {vs:List Value} {es es':List AV} {elem:TypeId} {sz cap id:Nat} {r0:RO} (hg:nth s.G id=some (.bo es sz elem)) (hid:nth R.obj id=some r0) (hf:∀ b c,cp r0 (.tok es'.length b c 0))
  (hn:es'.length≤cap) (hm:cap≤maxLen) (hs:cur.size=cap * sz) (nJ:dw sz es') (hr:aL R w (aw es') vs) (h1:∀ v∈vs,v.oneCell'=true) (ht:cur.toList.take (es'.length * sz)=vs) :
  aX E (R.reset id (.tok es'.length w.heap.size cap 0)) (w.alloc (.cells cur elem)) β (s.bG (aq s.G id (.bo es' sz elem))) a ∧
  Step R w β s.boxes (R.reset id (.tok es'.length w.heap.size cap 0)) (w.alloc (.cells cur elem)) β s.boxes:=by
 have e:Ext R w (R.reset id (.tok es'.length w.heap.size cap 0)) (w.alloc (.cells cur elem)):=
  ⟨fun _ _ h=>h,fun b o hi=>bP (heap_alloc_old w _ b (h.g.wf b o hi)) o,fun i r hr=>by
   by_cases ei:id=i
   ·subst ei;rw [hid] at hr;cases hr;exact ⟨_,ay hid,hf _ _⟩
   ·exact ⟨r,by rw [ai.reset,a8 ei]; exact hr,cp.refl r⟩,.old fun b hb=>heap_alloc_old w _ b hb⟩
 have old:∀ b,b < w.heap.size→(w.alloc (.cells cur elem)).heap[b]?=w.heap[b]?:=fun b hb=>heap_alloc_old w _ b hb
 have new:(w.alloc (.cells cur elem)).heap[w.heap.size]?=some (.cells cur elem (0,0)):=heap_alloc_new w _;have live:∀ b,b < w.heap.size→Live (R.reset id (.tok es'.length w.heap.size cap 0)) b→Live R b:=fun b hb hl=>by
  rcases si (g:=w.heap.size) (ro:=.tok es'.length w.heap.size cap 0) hid (fun _ h=>h) hl with rfl|hl
  ·omega
  ·exact hl
 refine ⟨⟨⟨by simp [St.bG,ai.reset,h.g.len],fun i gg r qM h2=>?_,fun i j ri rj b qM h2 b1 b2=>?_,fun b o hi=>?_,fun g cs hg=>(h.g.dV g cs hg).mono e,h.g.lo⟩,?_,h.t.mono e,h.n,h.d.mono e⟩,?_⟩
 ·rcases aB hid h2 with ⟨rfl,rfl⟩|⟨cz,h2⟩
  ·simp only [St.bG] at qM;rw [ay hg] at qM;cases qM;exact ⟨rfl,rfl,nJ,cur,vs,new,hn,hm,hs,fun o hi=>by have:=h.g.wf _ _ hi; omega,hr.mono e,h1,ht⟩
  ·simp only [St.bG] at qM;rw [a8 (Ne.symm cz)] at qM;exact (h.g.obj i gg r qM h2).mono e (fun b hb=>old b (h.g.bS ⟨i,r,h2,hb⟩)) (fun b o _ hi=>hi)
 ·rcases aB hid qM with ⟨g3,e1⟩|⟨g3,g1⟩
  ·rcases aB hid h2 with ⟨g4,e2⟩|⟨g4,g2⟩
   ·omega
   ·have:=h.g.bS ⟨j,rj,g2,b2⟩;rw [e1] at b1;simp [RO.has] at b1;omega
  ·rcases aB hid h2 with ⟨g4,e2⟩|⟨g4,g2⟩
   ·have:=h.g.bS ⟨i,ri,g1,b1⟩;rw [e2] at b2;simp [RO.has] at b2;omega
   ·exact h.g.inj i j ri rj b g1 g2 b1 b2
 ·have:=h.g.wf b o hi;simp;omega
 ·exact h.b.aZ e (fun k cs hk=>old _ (h.eg (.inr ⟨k,cs,hk,rfl⟩))) (fun k cs o hk hi=>hi) (fun k cs hk hl=>live _ (h.eg (.inr ⟨k,cs,hk,rfl⟩)) hl)
 ·refine ⟨e,rfl,rfl,rfl,by simp,fun b hb _=>old b hb,fun b hb ho=>?_,fun b o hi hb _=>hi⟩;rcases ho with ho|ho
  ·exact .inl (live b hb ho)
  ·exact .inr ho
theorem aX.Of (h:aX E R w β s a) {cur cur2:Array Value} {vs:List Value} {es es':List AV} {elem:TypeId} {sz id g c:Nat} (hg:nth s.G id=some (.bo es sz elem)) (hid:nth R.obj id=some (.tok es.length g c 0)) (bO:es.length < es'.length) (hn:es'.length≤c)
  (jG:w.heap[g]?=some (.cells cur elem (0,0))) (hs:cur2.size=cur.size) (nJ:dw sz es') (hr:aL R w (aw es') vs) (h1:∀ v∈vs,v.oneCell'=true) (ht:cur2.toList.take (es'.length * sz)=vs) :
  aX E (R.reset id (.tok es'.length g c 0)) (w.setRow g cur2) β (s.bG (aq s.G id (.bo es' sz elem))) a ∧
  Step R w β s.boxes (R.reset id (.tok es'.length g c 0)) (w.setRow g cur2) β s.boxes:=by
 obtain ⟨_,q0,q1,W6,vs0,p1,p2,p3,p4,p5,p6,p7,p8⟩:=h.g.obj id _ _ hg hid;rw [jG] at p1;cases p1;have wM:Live R g:=⟨id,_,hid,rfl⟩;have old:∀ b,b≠g→(w.setRow g cur2).heap[b]?=w.heap[b]?:=fun b hb=>setRow_other w g b cur2 hb
 have new:(w.setRow g cur2).heap[g]?=some (.cells cur2 elem (0,0)):=setRow_heap w g cur cur2 elem (0,0) jG;have e:Ext R w (R.reset id (.tok es'.length g c 0)) (w.setRow g cur2):=by
  have e0:=lC (R:=R) (w:=w) p5 cur2;refine ⟨fun _ _ h=>h,e0.cell,fun i r hr=>?_,e0.lp⟩;by_cases ei:id=i
  ·subst ei;rw [hid] at hr;cases hr;exact ⟨_,ay hid,by omega,fun e=>by omega⟩
  ·exact ⟨r,by rw [ai.reset,a8 ei]; exact hr,cp.refl r⟩
 have live:∀ b,Live (R.reset id (.tok es'.length g c 0)) b→Live R b:=fun b hl=>by
  rcases si (g:=g) (ro:=.tok es'.length g c 0) hid (fun _ h=>h) hl with rfl|hl
  ·exact wM
  ·exact hl
 have se:∀ k cs,di s.boxes k=some cs→β k≠g:=fun k cs hk eq=>(h.b.box k cs hk).2.2 (eq ▸ wM)
 refine ⟨⟨⟨by simp [St.bG,ai.reset,h.g.len],fun i gg r qM h2=>?_,fun i j ri rj b qM h2 b1 b2=>?_,fun b o hi=>?_,fun g cs hg=>(h.g.dV g cs hg).mono e,h.g.lo⟩,?_,h.t.mono e,h.n,h.d.mono e⟩,?_⟩
 ·rcases aB hid h2 with ⟨rfl,rfl⟩|⟨cz,h2⟩
  ·simp only [St.bG] at qM;rw [ay hg] at qM;cases qM;exact ⟨rfl,rfl,nJ,cur2,vs,new,hn,p3,by rw [hs]; exact p4,p5,hr.mono e,h1,ht⟩
  ·simp only [St.bG] at qM;rw [a8 (Ne.symm cz)] at qM;have R7:∀ b,r.has b→b≠g:=fun b hb eq=>cz (h.g.inj i id _ _ b h2 hid hb (by rw [eq]; rfl))
   exact (h.g.obj i gg r qM h2).mono e (fun b hb=>old b (R7 b hb)) (fun b o hb hi=>hi)
 ·rcases aB hid qM with ⟨g3,e1⟩|⟨g3,g1⟩
  ·rcases aB hid h2 with ⟨g4,e2⟩|⟨g4,g2⟩
   ·omega
   ·rw [e1] at b1;exact g3.trans (h.g.inj id j _ _ b hid g2 b1 b2)
  ·rcases aB hid h2 with ⟨g4,e2⟩|⟨g4,g2⟩
   ·rw [e2] at b2;exact (h.g.inj i id _ _ b g1 hid b1 b2).trans g4.symm
   ·exact h.g.inj i j ri rj b g1 g2 b1 b2
 ·have:=h.g.wf b o hi;simpa using this
 ·exact h.b.aZ e (fun k cs hk=>old _ (se k cs hk)) (fun k cs o hk hi=>hi) (fun k cs hk hl=>live _ hl)
 ·refine ⟨e,rfl,rfl,rfl,by simp,fun b hb sf=>old b (fun eq=>sf (.inl (eq ▸ wM))),fun b hb ho=>?_,fun b o hi hb sf=>hi⟩;rcases ho with ho|ho
  ·exact .inl (live b ho)
  ·exact .inr ho
theorem aX.FO (h:aX E R w β s a) {cur:Array Value} {vs:List Value} {es:List AV} {elem:TypeId} {sz cap:Nat} (hn:es.length≤cap) (hm:cap≤maxLen) (hs:cur.size=cap * sz) (nJ:dw sz es) (hr:aL R w (aw es) vs) (h1:∀ v∈vs,v.oneCell'=true) (ht:cur.toList.take (es.length * sz)=vs) :
  aX E (R.add (.tok es.length w.heap.size cap 0)) (w.alloc (.cells cur elem)) β (s.dW (.bo es sz elem)) a:=
 h.lD (.cells cur elem) (.bo es sz elem) (.tok es.length w.heap.size cap 0) (by exact fun _ h=>h)
  ⟨rfl,rfl,nJ,cur,vs,heap_alloc_new w _,hn,hm,hs,fun o hi=>by have:=h.g.wf _ _ hi; omega,hr.mono (gZ h.g.wf _ _),h1,ht⟩
theorem wN (h:aX E R w β s a) (t:TypeId) (x y:Operand) (ho:o.op=.makeSlice t x y) {i:TI} (hi:E.ti t=some i) {k k':IntKind} {n m:Int} (hx:bw E s.ae x=.v (.int k n)) (hy:bw E s.ae y=.v (.int k' m))
  {elem esz oI:Nat} {ag:Bool} {z:AV} (hk:i.k=.sl elem esz ag oI (some z)) (hz:z.cells.length=esz) (FF:1≤esz) (pK:z.aS=true) (pD:z.closed=true) (hc:0≤n∧n≤m∧m≤140737488355328∧m * oI≤140737488355328) :
  bH E R w β s a o ((s.dW (.bo (List.replicate n.toNat z) esz elem)).put o.dst (.v (.cZ s.G.length n.toNat 0 esz n.toNat))):=by
 obtain ⟨us,z1,z2,bB⟩:=nt h t x y ho hi hx hy hk hz FF pK hc;have Nw:n.toNat≤m.toNat:=by omega
 have nJ:=(eF (n:=m.toNat) hz pK pD).g;have Od:us.length=m.toNat * esz:=by rw [← z1.length,cT nJ,List.length_replicate]
 have FN:(List.replicate n.toNat z).length=n.toNat:=List.length_replicate;have Kw:(List.replicate m.toNat z).take n.toNat=List.replicate n.toNat z:=by rw [List.take_replicate,Nat.min_eq_left Nw]
 have hr:aL R w (aw (List.replicate n.toNat z)) (us.take (n.toNat * esz)):=by
  rw [← Kw,iS _ nJ];exact z1.take _
 have r1:=h.FO (cur:=⟨us⟩) (vs:=us.take (n.toNat * esz)) (es:=List.replicate n.toNat z) (elem:=elem) (cap:=m.toNat) (by rw [FN]; exact Nw) (by unfold maxLen; omega) (by simpa using Od) (eF hz pK pD).g hr (fun v hv=>z2 v (List.mem_of_mem_take hv)) (by rw [FN]);rw [FN] at r1;have e:=gZ (R:=R) (w:=w) h.g.wf (.cells ⟨us⟩ elem) (.tok n.toNat w.heap.size m.toNat 0);exact ⟨_,.slice (some ⟨w.heap.size,0,none⟩) n.toNat m.toNat,_,R.add (.tok n.toNat w.heap.size m.toNat 0),β,bB,.inl rfl,r1.put o.dst (x:=.v (.cZ s.G.length n.toNat 0 esz n.toNat)) (Rel.cZ (gr h _) ⟨Nat.le_refl _,fun _=>⟨rfl,Nat.zero_add _,.inl (Nat.zero_mul _).symm⟩⟩ Nw),by rw [aT]; exact cQ h _ _ (by exact fun _ h=>h)⟩
theorem tg:∀ {G:List GO} {sz:Nat} {e:TypeId} {i j:Nat},qK G sz e i=some j→∃ k,j=i+k∧nth G k=some (.bo [] sz e)
 |[],_,_,_,_,h=>by cases h
 |g :: G,sz,e,i,j,h=>by
  have W9:qK G sz e (i+1)=some j→∃ k,j=i+k∧nth (g :: G) k=some (.bo [] sz e):=fun h=>by
   obtain ⟨k,h1,h2⟩:=tg h;exact ⟨k+1,by omega,h2⟩
  unfold qK at h;split at h
  ·cases ‹_ :: _=[]›
  ·rename_i es s' e' G' jW;obtain ⟨rfl,rfl⟩:=List.cons.inj jW;split at h
   ·rename_i j' hj;cases h;exact W9 hj
   ·rw [Bool.cond_eq_ite] at h;split at h
    ·rename_i hb;rw [Bool.and_eq_true] at hb;have q1:=Nat.eq_of_beq_eq_true hb.1;have q2:=Nat.eq_of_beq_eq_true hb.2;cases es with
     |nil=>
      injection h with h;rw [q1,q2];exact ⟨0,by omega,rfl⟩
     |cons x l=>cases h
    ·cases h
  ·rename_i g' G' _ jW;obtain ⟨rfl,rfl⟩:=List.cons.inj jW;exact W9 h
theorem Co (h:aX E R w β s a) (t:TypeId) (x y:Operand) (ho:o.op=.makeSlice t x y) {i:TI} (hi:E.ti t=some i) {k k':IntKind} {n m:Int} (hx:bw E s.ae x=.v (.int k n)) (hy:bw E s.ae y=.v (.int k' m))
  {elem esz oI:Nat} {ag:Bool} {z:AV} (hk:i.k=.sl elem esz ag oI (some z)) (hz:z.cells.length=esz) (FF:1≤esz) (pK:z.aS=true) {s':St} (hs:oD s o.dst elem esz oI z n m=some (true,s')) :
  bH E R w β s a o s':=by
 unfold oD at hs;split at hs
 ·rename_i id hid;split at hs
  ·rename_i pD;injection hs with hs; injection hs with hc hs;subst hs;have hc:=of_decide_eq_true hc;obtain ⟨j7,he,hid⟩:=tg hid;rw [Nat.zero_add] at he;subst he;obtain ⟨us,z1,z2,bB⟩:=nt h t x y ho hi hx hy hk hz FF pK ⟨by omega,by omega,by omega,by omega⟩;have Nw:n.toNat≤m.toNat:=by omega
   have nJ:=(eF (n:=m.toNat) hz pK pD).g;have Od:us.length=m.toNat * esz:=by rw [← z1.length,cT nJ,List.length_replicate]
   have FN:(List.replicate n.toNat z).length=n.toNat:=List.length_replicate;have Kw:(List.replicate m.toNat z).take n.toNat=List.replicate n.toNat z:=by rw [List.take_replicate,Nat.min_eq_left Nw]
   have hr:aL R w (aw (List.replicate n.toNat z)) (us.take (n.toNat * esz)):=by
    rw [← Kw,iS _ nJ];exact z1.take _
   obtain ⟨ro,bn⟩:∃ ro,nth R.obj id=some ro:=by
    have bO:=bi hid;rw [← h.g.len] at bO;exact ⟨R.obj[id],by rw [aV,List.getElem?_eq_getElem bO]⟩
   have hle:∀ b c,cp ro (.tok (List.replicate n.toNat z).length b c 0):=fun b c=>by
    have ca:=h.g.obj id _ _ hid bn;rw [FN];cases ro with
    |none=>exact ca.elim
    |bz=>show 1≤n.toNat; omega
    |bK _=>exact ca.elim
    |bc _=>exact ca.elim
    |tok f g c' k0=>
     obtain ⟨_,hf,_⟩:=ca;simp only [List.length_nil] at hf;exact ⟨by omega,fun e=>by omega⟩
   obtain ⟨r1,r2⟩:=h.Oe (cur:=⟨us⟩) (vs:=us.take (n.toNat * esz)) (es':=List.replicate n.toNat z) (elem:=elem) (cap:=m.toNat) hid bn hle (by rw [FN]; exact Nw) (by unfold maxLen; omega) (by simpa using Od) (eF hz pK pD).g hr (fun v hv=>z2 v (List.mem_of_mem_take hv)) (by rw [FN]);rw [FN] at r1 r2;exact ⟨_,.slice (some ⟨w.heap.size,0,none⟩) n.toNat m.toNat,_,_,β,bB,.inl rfl,r1.put o.dst (x:=.v (.cZ id n.toNat 0 esz n.toNat)) (Rel.cZ (ay bn) ⟨Nat.le_refl _,fun _=>⟨rfl,Nat.zero_add _,.inl (Nat.zero_mul _).symm⟩⟩ Nw),by rw [aT]; exact r2⟩
  ·cases hs
 ·cases hs
theorem vb (h:aX E R w β s a) (t:TypeId) (len:Nat) (parts:Array (Nat × Operand)) (ho:o.op=.buildSlice t len parts) {k:LK} {esz:Nat} {es:List AV} (hv:bZ E s t len parts.toList=some (.list k esz es)) {i:TI} (hi:E.ti t=some i) {elem bu oI:Nat} {ag:Bool} {z:Option AV} (hk:i.k=.sl elem bu ag oI z) (hm:len≤65536) :
  bH E R w β s a o ((s.dW (.bo es esz elem)).put o.dst (.v (.cZ s.G.length len 0 esz len))):=by
 obtain ⟨es',RW,us,W4,W1,bB,g2,hlen,u2,u3,i',ag',V3,z',qL,jy⟩:=jm h t len parts ho hv;cases W1;rw [hi] at qL;cases qL;rw [hk] at jy;cases jy;have W5:us.length=len * esz:=by rw [← u2.length,cS g2,hlen]
 have r1:=h.FO (cur:=⟨us⟩) (vs:=us) (es:=es) (elem:=elem) (cap:=len) (by rw [hlen]; exact Nat.le_refl _) (by simp [maxLen]; omega) (by simpa using W5) g2.g u2 u3 (by rw [hlen,← W5]; exact List.take_length);rw [hlen] at r1;exact ⟨_,.slice (some ⟨w.heap.size,0,none⟩) len len,_,R.add (.tok len w.heap.size len 0),β,bB,.inl rfl,r1.put o.dst (x:=.v (.cZ s.G.length len 0 esz len)) (Rel.cZ (gr h _) ⟨Nat.le_refl _,fun _=>⟨rfl,Nat.zero_add _,.inl (Nat.zero_mul _).symm⟩⟩ (Nat.le_refl _)),by rw [aT]; exact cQ h _ _ (by exact fun _ h=>h)⟩
end ops
end Go.Am
