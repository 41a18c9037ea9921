/- The abstract machine: what it does is what the model does: slices that grow and are written. -/
import Derived.Test.YtegoimldbgdeiaaGreatAmKC
set_option linter.all false
open Array renaming length_toList→aav, getElem?_toList→aa4
open Bool renaming and_eq_true→aaq
open Go.Instr renaming sureAddr→aaO, storeAt→aa0
open List renaming mem_of_mem_take→aao, mem_of_mem_drop→aap, getElem?_eq_getElem→aax, replicate→aaI, length_take→aaK, drop_of_length_le→aaL, getElem?_take→aaM, length_append→aaN, length_replicate→aaR, nil_append→aaS, length_drop→aaV, mem_append→aaW, toList_toArray→aaX, getElem?_drop→aaZ, size_toArray→aa1, append_nil→aa3, take_zero→aa5, take_replicate→aa7
open Nat renaming eq_of_beq_eq_true→aal, mul_le_mul_right→aas, zero_add→aaQ, succ_mul→aaT, add_sub_cancel_left→aaU, le_refl→aaY, zero_mul→aa2, le_of_ble_eq_true→aa6, add_zero→aa8
namespace Go.Am
open Go
section lists
theorem tJ {α:Type} (c us:List α) (n p sz off:Nat) (hn:n≤c.length) (hp:p+sz≤n) (ho:off+us.length≤sz) :
  (c.take (p+off)++us++c.drop (p+off+us.length)).take n =
   (c.take n).take p++((((c.take n).drop p).take sz).take off++us++(((c.take n).drop p).take sz).drop (off+us.length))++(c.take n).drop (p+sz):=by
 apply List.ext_getElem?;intro j;simp only [List.getElem?_append,aaM,aaZ,aaN,aaK,aaV];by_cases h1:j < p
 ·rw [if_pos (by omega),if_pos (by omega),if_pos (by omega),if_pos (by omega),if_pos (by omega),if_pos (by omega),if_pos (by omega),if_pos (by omega)]
 ·by_cases h2:j < p+off
  ·rw [if_pos (by omega),if_pos (by omega),if_pos (by omega),if_pos (by omega),if_pos (by omega),if_neg (by omega),if_pos (by omega),if_pos (by omega),if_pos (by omega),if_pos (by omega),if_pos (by omega)];congr 1; omega
  ·by_cases h3:j < p+off+us.length
   ·rw [if_pos (by omega),if_pos (by omega),if_neg (by omega),if_pos (by omega),if_neg (by omega),if_pos (by omega),if_neg (by omega)];congr 1; omega
   ·by_cases h4:j < p+sz
    ·rw [if_pos (by omega),if_neg (by omega),if_pos (by omega),if_neg (by omega),if_neg (by omega),if_pos (by omega),if_pos (by omega)];congr 1; omega
    ·by_cases h5:j < n
     ·rw [if_pos (by omega),if_neg (by omega),if_neg (by omega),if_pos (by omega)];congr 1; omega
     ·rw [if_neg (by omega),if_neg (by omega),if_neg (by omega)]
theorem mO {sz:Nat}:∀ {es:List AV} {i:Nat} {e:AV},dX sz es→nth es i=some e→((an es).drop (i * sz)).take sz=e.cells
 |[],_,_,_,h=>by simp [nth] at h
 |x :: es,0,e,h,hi=>by
  simp only [nth] at hi;cases hi;have h1:=(h x (by simp)).1;rw [aa2,List.drop_zero];simp only [an];rw [← h1,List.take_left]
 |x :: es,i+1,e,h,hi=>by
  have h1:=(h x (by simp)).1;have ih:=mO (i:=i) (fun y hy=>h y (by simp [hy])) (show nth es i=some e from hi);simp only [an];rw [show (i+1) * sz=x.cells.length+i * sz by rw [h1,aaT]; omega,List.drop_append,aaL (by omega),aaS,aaU];exact ih
theorem pg {sz:Nat} {l r:List AV} (h:dX sz l) (k:dX sz r):dX sz (l++r):=fun e he=>by
 rcases aaW.1 he with he|he
 ·exact h e he
 ·exact k e he
theorem sk {sz:Nat} {l:List AV} (n:Nat) (h:dX sz l):dX sz (l.take n):=fun e he=>h e (aao he)
theorem Cs {sz:Nat} {l:List AV} (n:Nat) (h:dX sz l):dX sz (l.drop n):=fun e he=>h e (aap he)
theorem gn {sz:Nat}:∀ {es:List AV} (i:Nat),dX sz es→an (es.take i)=(an es).take (i * sz)
 |[],i,_=>by simp [an]
 |e :: es,0,_=>by simp [an]
 |e :: es,i+1,h=>by
  have h1:=(h e (by simp)).1;simp only [List.take_succ_cons,an];rw [gn i (fun y hy=>h y (by simp [hy])),show (i+1) * sz=e.cells.length+i * sz by rw [h1,aaT]; omega,List.take_append,aaU,List.take_of_length_le (by omega:e.cells.length≤e.cells.length+i * sz)]
theorem n5 {sz:Nat}:∀ {es:List AV} (i:Nat),dX sz es→an (es.drop i)=(an es).drop (i * sz)
 |[],i,_=>by simp [an]
 |e :: es,0,_=>by simp [an]
 |e :: es,i+1,h=>by
  have h1:=(h e (by simp)).1;simp only [List.drop_succ_cons,an];rw [n5 i (fun y hy=>h y (by simp [hy])),show (i+1) * sz=e.cells.length+i * sz by rw [h1,aaT]; omega,List.drop_append,aaL (by omega:e.cells.length≤e.cells.length+i * sz),aaS,aaU]
theorem bM {sz:Nat} {es:List AV} (h:dX sz es):(an es).length=es.length * sz:=by
 induction es with
 |nil=>simp [an]
 |cons e es ih=>
  have h1:=(h e (by simp)).1;have:=ih (fun x hx=>h x (by simp [hx]));simp only [an,aaN,this,h1,List.length_cons,Nat.add_mul];omega
theorem Hi {sz:Nat} {es:List AV} {i:Nat} {v:AV} (h:dX sz es) (h1:v.cells.length=sz) (h2:v.aR=true):dX sz (ak es i v):=fun e he=>by
 rw [dV] at he;rcases List.mem_or_eq_of_mem_set he with he|rfl
 ·exact h e he
 ·exact ⟨h1,h2⟩
theorem xr {sz:Nat} {es:List AV} {i:Nat} {v:AV} (h:dX sz es) (hi:i < es.length) (hv:v.cells.length=sz):an (ak es i v)=bu (an es) (i * sz) v.cells:=by
 have Ct:i * sz+sz≤es.length * sz:=by
  rw [← aaT];exact aas _ hi
 rw [dV,List.set_eq_take_append_cons_drop,if_pos hi,eN _ _ _ (by rw [hv,bM h]; exact Ct),bZ,gn i h,hv];simp only [an];rw [n5 (i+1) h,aaT,List.append_assoc]
end lists
section ops
variable {E:Env} {R:ai} {w:World} {β:Nat→Nat} {s:St} {a:Act} {o:Oper}
theorem n9 {G:List GO} (h:eY E R w G) {id:Nat} {es:List AV} {sz:Nat} {el:TypeId} {ro:RO} (hid:nth G id=some (.cg es sz el)) (ba:nth R.obj id=some ro) (hn:ro≠.a8) :
  ∃ b c cur vs,ro=.tok es.length b c 0∧dX sz es∧w.heap[b]?=some (.cells cur el (0,0))∧es.length≤c∧c≤maxLen∧cur.size=c * sz∧(∀ o,¬ R.I b o)∧aL R w (an es) vs∧(∀ v∈vs,v.oneCell'=true)∧cur.toList.take (es.length * sz)=vs:=by
 have hr:=h.obj id _ _ hid ba;cases ro with
 |none=>exact hr.elim
 |a8=>exact absurd rfl hn
 |bE b=>exact hr.elim
 |aX _=>exact hr.elim
 |tok f b c k=>
  obtain ⟨rfl,rfl,h1,cur,vs,h2,h3,h4,h5,h6,h7,h8,h9⟩:=hr;exact ⟨b,c,cur,vs,rfl,h1,h2,h3,h4,h5,h6,h7,h8,h9⟩
theorem zB {id f i sz:Nat} {t:TypeId} {v:AV} (h:zh E s id f i sz t=some (true,v)) :
  ∃ es el e,nth s.G id=some (.cg es sz el)∧f=es.length∧nth es i=some e∧iX e v:=by
 unfold zh at h;split at h
 ·rename_i es bh el hid;split at h
  ·rename_i p hp;split at h
   ·rename_i eR;have eR:=aal eR;subst eR;injection h with h;injection h with h1 h2;simp only [aaq,decide_eq_true_eq] at h1;obtain ⟨⟨h3,h4⟩,h5⟩:=h1;obtain ⟨e,he⟩:∃ e,nth es i=some e:=⟨es[i],by rw [aN]; exact aax h4⟩;have hd:ae es i=e:=by simp [ae,he]
    rw [hd] at h5 h2;rw [← h2];exact ⟨es,el,e,hid,h3,he,p.dE h5⟩
   ·cases h
  ·split at h
   ·rename_i eR;have eR:=aal eR;subst eR;injection h with h;injection h with h1 h2;simp only [aaq,decide_eq_true_eq] at h1;obtain ⟨h3,h4⟩:=h1;obtain ⟨e,he⟩:∃ e,nth es i=some e:=⟨es[i],by rw [aN]; exact aax h4⟩;have hd:ae es i=e:=by simp [ae,he]
    rw [hd] at h2;rw [← h2];exact ⟨es,el,e,hid,h3,he,iX.refl e⟩
   ·cases h
 ·cases h
theorem DB {G:List GO} (h:eY E R w G) {id j:Nat} {rows:List (List AV)} {sz:Nat} {el:TypeId} {ro:RO} {b o f i off:Nat} (hid:nth G id=some (.gT rows sz el)) (ba:nth R.obj id=some ro) (dG:Md b o j f i off sz ro) (hf:f=(rowOf rows j).length) :
  ∃ ts c cur vs,ro=.aX ts∧nth ts j=some (.tok f b c)∧nth rows j=some (rowOf rows j)∧o=i * sz+off∧gD sz (rowOf rows j)∧w.heap[b]?=some (.cells cur el (0,0))∧f≤c∧c≤maxLen∧cur.size=c * sz∧(∀ o,¬ R.I b o)∧aL R w (an (rowOf rows j)) vs∧(∀ v∈vs,v.oneCell'=true)∧cur.toList.take (f * sz)=vs:=by
 have hr:=h.obj id _ _ hid ba;cases ro with
 |none=>exact hr.elim
 |a8=>exact hr.elim
 |bE b=>exact hr.elim
 |tok _ _ _ _=>exact hr.elim
 |aX ts=>
  obtain ⟨t,k1,k2⟩:=dG;obtain ⟨h1,h2,h3⟩:=hr;have bW:=aU k1;have kz:nth rows j=some rows[j]:=by rw [aN]; exact aax (by omega)
  have he:rowOf rows j=rows[j]:=by unfold rowOf; rw [kz]
  have h4:=h3 j _ t kz k1;rw [← he] at h4 kz;cases t with
  |a8=>exact k2.elim
  |full _=>exact h4.elim
  |tok f' b' c=>
   obtain ⟨h5,h6,cur,vs,q1,q2,q3,q4,q5,q6,q7,q8⟩:=h4;obtain ⟨e1,e2⟩:=k2.2 (by omega);subst e1;have e3:f'=f:=by omega
   subst e3;exact ⟨ts,c,cur,vs,rfl,k1,kz,e2,h6,q1,q2,q3,q4,q5,q6,q7,q8⟩
theorem zC {id j f i sz:Nat} {t:TypeId} {v:AV} (h:zi E s id j f i sz t=some (true,v)) :
  ∃ rows el e,nth s.G id=some (.gT rows sz el)∧f=(rowOf rows j).length∧nth (rowOf rows j) i=some e∧iX e v:=by
 unfold zi at h;split at h
 ·rename_i rows bh el hid;split at h
  ·rename_i p hp;split at h
   ·rename_i eR;have eR:=aal eR;subst eR;injection h with h;injection h with h1 h2;simp only [aaq,decide_eq_true_eq] at h1;obtain ⟨⟨h3,h4⟩,h5⟩:=h1;obtain ⟨e,he⟩:∃ e,nth (rowOf rows j) i=some e:=⟨(rowOf rows j)[i],by rw [aN]; exact aax h4⟩;have hd:ae (rowOf rows j) i=e:=by simp [ae,he]
    rw [hd] at h5 h2;rw [← h2];exact ⟨rows,el,e,hid,h3,he,p.dE h5⟩
   ·cases h
  ·split at h
   ·rename_i eR;have eR:=aal eR;subst eR;injection h with h;injection h with h1 h2;simp only [aaq,decide_eq_true_eq] at h1;obtain ⟨h3,h4⟩:=h1;obtain ⟨e,he⟩:∃ e,nth (rowOf rows j) i=some e:=⟨(rowOf rows j)[i],by rw [aN]; exact aax h4⟩;have hd:ae (rowOf rows j) i=e:=by simp [ae,he]
    rw [hd] at h2;rw [← h2];exact ⟨rows,el,e,hid,h3,he,iX.refl e⟩
   ·cases h
 ·cases h
theorem yO {α:Type} {l:List α} {i:Nat} {x:α} (h:nth l i=some x):x∈l:=by
 rw [aN] at h;exact List.mem_of_getElem? h
theorem wx {i n sz:Nat} (h:i < n):i * sz+sz≤n * sz:=by
 rw [← aaT];exact aas _ h
theorem Hj (h:aY E R w β s a) (t:TypeId) (x:Operand) (ho:o.op=.load t x) {v:AV} (hl:Ce E s t (bG E s.ab x)=some (true,v)) :
  bQ E R w β s a o (s.put o.dst (.v v)):=by
 have rx:=aV h x;unfold Ce at hl;split at hl
 ·rename_i id f i off sz ty hx;rw [hx] at rx;split at hl
  ·rename_i ti c ve LU hg;split at hl
   ·rename_i l hs;split at hl
    ·rename_i r hm;injection hl with hl;injection hl with h1 h2;subst h1; subst h2;obtain ⟨es,el,e,hid,I5,he,BQ⟩:=zB hg;have dW:Rel R w (.gp id f i off sz ty) (a.eval x):=rx;generalize fO:a.eval x=xv at dW;cases dW with
     | @gp _ _ _ _ _ b o' _ ro ba dG=>
     obtain ⟨b',c',cur,vs,rfl,g1,g2,g3,g4,g5,g6,g7,g8,g9⟩:=n9 h.g hid ba (fun k=>by subst k; exact dG);obtain ⟨rfl,rfl⟩:=dG.2 I5;have Ud:=g1 e (yO he);have dJ:aL R w e.cells ((vs.drop (i * sz)).take sz):=by
      rw [← mO g1 he];exact (g7.drop _).take _
     have hw:=(BQ.cells Ud.2).rel dJ;obtain ⟨k1,k2,k3,k4⟩:=pV hs hw (fun y hy=>g8 y (aap (aao hy)));obtain ⟨c,hc,hrr⟩:=nZ (E:=E) LU (b:=b) (off:=i * sz+off) k1 k2 k3 (fun j y hy=>by
      have h1:=k4 j y hy;rw [aaM] at h1;split at h1
      ·rw [aaZ,← g9,aaM] at h1;split at h1
       ·rw [cell_of_row w b _ cur el (0,0) g2,Nat.add_assoc,← aa4];exact h1
       ·cases h1
      ·cases h1) hm
     refine au h (c:=c) ?_ hrr;simp [execOp,ho,Instr.loadAt,fO,aaO,hc]
    ·cases hl
   ·cases hl
  ·cases hl
 ·rename_i id j f i off sz ty hx;rw [hx] at rx;split at hl
  ·rename_i ti c ve LU hg;split at hl
   ·rename_i l hs;split at hl
    ·rename_i r hm;injection hl with hl;injection hl with h1 h2;subst h1; subst h2;obtain ⟨rows,el,e,hid,I5,he,BQ⟩:=zC hg;have dW:Rel R w (.rp id j f i off sz ty) (a.eval x):=rx;generalize fO:a.eval x=xv at dW;cases dW with
     | @rp _ _ _ _ _ _ b o' _ ro ba dG=>
     obtain ⟨ts,c',cur,vs,rfl,k1,k2,rfl,BF,g2,g3,g4,g5,g6,g7,g8,g9⟩:=DB h.g hid ba dG I5;have g1:=BF.g;subst I5;have Ud:=g1 e (yO he);have dJ:aL R w e.cells ((vs.drop (i * sz)).take sz):=by
      rw [← mO g1 he];exact (g7.drop _).take _
     have hw:=(BQ.cells Ud.2).rel dJ;obtain ⟨k1,k2,k3,k4⟩:=pV hs hw (fun y hy=>g8 y (aap (aao hy)));obtain ⟨c,hc,hrr⟩:=nZ (E:=E) LU (b:=b) (off:=i * sz+off) k1 k2 k3 (fun j' y hy=>by
      have h1:=k4 j' y hy;rw [aaM] at h1;split at h1
      ·rw [aaZ,← g9,aaM] at h1;split at h1
       ·rw [cell_of_row w b _ cur el (0,0) g2,Nat.add_assoc,← aa4];exact h1
       ·cases h1
      ·cases h1) hm
     refine au h (c:=c) ?_ hrr;simp [execOp,ho,Instr.loadAt,fO,aaO,hc]
    ·cases hl
   ·cases hl
  ·cases hl
 ·split at hl
  ·rename_i v' hv;injection hl with hl;injection hl with h1 h2;subst h2;exact Kq h t x ho hv
  ·cases hl
theorem aY.Ue (h:aY E R w β s a) {id j f b c:Nat} {rows:List (List AV)} {row':List AV} {sz:Nat} {el:TypeId} {ts:List TR} {cur cur':Array Value} {vs':List Value} (hid:nth s.G id=some (.gT rows sz el)) (ba:nth R.obj id=some (.aX ts)) (MA:nth ts j=some (.tok f b c))
  (hb:w.heap[b]?=some (.cells cur el (0,0))) (hlen:row'.length=f) (kr:gD sz row') (eR:cur'.size=cur.size) (hr:aL R w (an row') vs') (h1:∀ v∈vs',v.oneCell'=true) (ht:cur'.toList.take (f * sz)=vs') :
  aY E R (w.setRow b cur') β (s.bq (ak s.G id (.gT (ak rows j row') sz el))) a∧Step R w β s.boxes R (w.setRow b cur') β s.boxes:=by
 obtain ⟨m1,m2,m3⟩:=h.g.obj id _ _ hid ba;have bW:=aU MA;have kz:nth rows j=some rows[j]:=by rw [aN]; exact aax (by omega)
 obtain ⟨_,q1,Uf,vs0,p1,p2,p3,p4,p5,p6,p7,p8⟩:=m3 j _ _ kz MA;rw [hb] at p1;cases p1;have hex:=jo (R:=R) (w:=w) p5 cur';have lG:RO.has (.aX ts) b:=⟨j,f,c,MA⟩;have zD:∀ k cs,dR s.boxes k=some cs→β k≠b:=fun k cs hk e=>(h.b.box k cs hk).2.2 ⟨id,_,ba,by rw [e]; exact lG⟩
 refine ⟨⟨⟨by simp [St.bq,h.g.len],fun iU go ro hg ky=>?_,h.g.inj,fun b' o' qP=>by have:=h.g.wf b' o' qP; simp; omega,fun g eZ hg=>(h.g.dF g eZ hg).mono hex,h.g.lo⟩,?_,h.t.mono hex,h.n,h.d⟩,?_⟩
 ·rcases b8 hg with ⟨rfl,rfl,_⟩|⟨cq,Ck⟩
  ·rw [ba] at ky;cases ky;refine ⟨by rw [cw]; exact m1,m2,fun j' row t hrj PH=>?_⟩;rcases b8 hrj with ⟨rfl,rfl,_⟩|⟨hnj,abK⟩
   ·rw [MA] at PH;cases PH;exact ⟨hlen.symm,kr,cur',vs',setRow_heap w _ _ _ _ (0,0) hb,p2,p3,by rw [eR]; exact p4,p5,hr.mono hex,h1,ht⟩
   ·have h4:=m3 j' row t abK PH;cases t with
    |a8=>exact h4
    |full _=>exact h4
    |tok f1 b1 c1=>
     obtain ⟨h5,h6,EW,vs1,k1,k2,k3,k4,k5,k6,k7,k8⟩:=h4;have Mi:b1≠b:=fun e=>hnj (m2 j' j f1 b1 c1 f c PH (by rw [e]; exact MA)).symm
     exact ⟨h5,h6,EW,vs1,(setRow_other w _ b1 _ Mi).trans k1,k2,k3,k4,k5,k6.mono hex,k7,k8⟩
  ·refine (h.g.obj iU go ro Ck ky).mono hex (fun b' kX=>setRow_other w _ b' _ (fun e=>cq ?_)) (fun _ _ _ hi=>hi);subst e;exact h.g.inj id iU _ _ b' ba ky lG kX
 ·exact h.b.keep hex (fun k eZ iZ=>setRow_other w _ _ _ (zD k eZ iZ)) (fun _ _ _ _ hi=>hi) (fun _ _ _ hl=>hl)
 ·have qY:Own R β s.boxes b:=.inl ⟨id,_,ba,lG⟩;exact ⟨hex,rfl,rfl,rfl,by simp,fun b' _ hn=>setRow_other w _ b' _ (fun e=>hn (e ▸ qY)),fun _ _ hb=>hb,fun b o hi _ _=>hi⟩
theorem aY.Hk (h:aY E R w β s a) {id f b c:Nat} {es es':List AV} {sz:Nat} {el:TypeId} {cur cur':Array Value} {vs':List Value} (hid:nth s.G id=some (.cg es sz el)) (ba:nth R.obj id=some (.tok f b c 0))
  (hb:w.heap[b]?=some (.cells cur el (0,0))) (hlen:es'.length=es.length) (kr:dX sz es') (eR:cur'.size=cur.size) (hr:aL R w (an es') vs') (h1:∀ v∈vs',v.oneCell'=true) (ht:cur'.toList.take (f * sz)=vs') :
  aY E R (w.setRow b cur') β (s.bq (ak s.G id (.cg es' sz el))) a∧Step R w β s.boxes R (w.setRow b cur') β s.boxes:=by
 obtain ⟨_,q0,q1,Uf,vs0,p1,p2,p3,p4,p5,p6,p7,p8⟩:=h.g.obj id _ _ hid ba;rw [hb] at p1;cases p1;have hex:=jo (R:=R) (w:=w) p5 cur';have zD:∀ k cs,dR s.boxes k=some cs→β k≠b:=fun k cs hk e=>(h.b.box k cs hk).2.2 ⟨id,_,ba,by rw [e]; rfl⟩
 refine ⟨⟨⟨by simp [St.bq,h.g.len],fun iU go ro hg ky=>?_,h.g.inj,fun b' o' qP=>by have:=h.g.wf b' o' qP; simp; omega,fun g eZ hg=>(h.g.dF g eZ hg).mono hex,h.g.lo⟩,?_,h.t.mono hex,h.n,h.d⟩,?_⟩
 ·rcases b8 hg with ⟨rfl,rfl,_⟩|⟨cq,Ck⟩
  ·rw [ba] at ky;cases ky;exact ⟨rfl,by rw [hlen]; exact q0,kr,cur',vs',setRow_heap w _ _ _ _ (0,0) hb,p2,p3,by rw [eR]; exact p4,p5,hr.mono hex,h1,ht⟩
  ·refine (h.g.obj iU go ro Ck ky).mono hex (fun b' kX=>setRow_other w _ b' _ (fun e=>cq ?_)) (fun _ _ _ hi=>hi);subst e;exact h.g.inj id iU _ _ b' ba ky rfl kX
 ·exact h.b.keep hex (fun k eZ iZ=>setRow_other w _ _ _ (zD k eZ iZ)) (fun _ _ _ _ hi=>hi) (fun _ _ _ hl=>hl)
 ·have qY:Own R β s.boxes b:=.inl ⟨id,_,ba,rfl⟩;exact ⟨hex,rfl,rfl,rfl,by simp,fun b' _ hn=>setRow_other w _ b' _ (fun e=>hn (e ▸ qY)),fun _ _ hb=>hb,fun b o hi _ _=>hi⟩
theorem aY.I6 (h:aY E R w β s a) {id b c i off:Nat} {es:List AV} {sz:Nat} {el:TypeId} {cur:Array Value} {vs us:List Value} {e':AV} (hid:nth s.G id=some (.cg es sz el)) (ba:nth R.obj id=some (.tok es.length b c 0))
  (hb:w.heap[b]?=some (.cells cur el (0,0))) (kr:dX sz es) (hle:es.length≤c) (sQ:cur.size=c * sz) (hr:aL R w (an es) vs) (h1:∀ v∈vs,v.oneCell'=true) (ht:cur.toList.take (es.length * sz)=vs) (hi:i < es.length)
  (h2:∀ v∈us,v.oneCell'=true) (wy:off+us.length≤sz) (sj:e'.cells.length=sz) (Ug:e'.aR=true) (Uh:aL R w e'.cells (((vs.drop (i * sz)).take sz).take off++us++((vs.drop (i * sz)).take sz).drop (off+us.length))) :
  aY E R (w.setRow b ⟨cur.toList.take (i * sz+off)++us++cur.toList.drop (i * sz+off+us.length)⟩) β (s.bq (ak s.G id (.cg (ak es i e') sz el))) a ∧
   Step R w β s.boxes R (w.setRow b ⟨cur.toList.take (i * sz+off)++us++cur.toList.drop (i * sz+off+us.length)⟩) β s.boxes:=by
 have Ct:=wx (sz:=sz) hi;have DC:es.length * sz≤cur.toList.length:=by
  rw [show cur.toList.length=cur.size from aav,sQ];exact aas _ hle
 have yM:vs.length=es.length * sz:=by rw [← hr.length,bM kr]
 refine h.Hk hid ba hb (cw _ _ _) (Hi kr sj Ug) ?_ (vs':=vs.take (i * sz)++(((vs.drop (i * sz)).take sz).take off++us++((vs.drop (i * sz)).take sz).drop (off+us.length))++vs.drop (i * sz+sz)) ?_ ?_ ?_
 ·rw [aa1,← aav];simp only [aaN,aaK,aaV];omega
 ·rw [xr kr hi sj,eN _ _ _ (by rw [sj,bM kr]; exact Ct),sj];exact ((hr.take _).append Uh).append (hr.drop _)
 ·intro v hv;simp only [aaW] at hv;rcases hv with (hv|((hv|hv)|hv))|hv
  ·exact h1 v (aao hv)
  ·exact h1 v (aap (aao (aao hv)))
  ·exact h2 v hv
  ·exact h1 v (aap (aao (aap hv)))
  ·exact h1 v (aap hv)
 ·rw [aaX,tJ _ _ _ _ _ _ DC Ct wy,ht]
theorem aY.I7 (h:aY E R w β s a) {id j b c i off:Nat} {rows:List (List AV)} {es:List AV} {ts:List TR} {sz:Nat} {el:TypeId} {cur:Array Value} {vs us:List Value} {e':AV} (hid:nth s.G id=some (.gT rows sz el)) (ba:nth R.obj id=some (.aX ts)) (MA:nth ts j=some (.tok es.length b c))
  (hb:w.heap[b]?=some (.cells cur el (0,0))) (uC:gD sz es) (hle:es.length≤c) (sQ:cur.size=c * sz) (hr:aL R w (an es) vs) (h1:∀ v∈vs,v.oneCell'=true) (ht:cur.toList.take (es.length * sz)=vs) (hi:i < es.length)
  (h2:∀ v∈us,v.oneCell'=true) (wy:off+us.length≤sz) (sj:e'.cells.length=sz) (Ug:e'.aR=true) (iz:e'.closed=true) (Uh:aL R w e'.cells (((vs.drop (i * sz)).take sz).take off++us++((vs.drop (i * sz)).take sz).drop (off+us.length))) :
  aY E R (w.setRow b ⟨cur.toList.take (i * sz+off)++us++cur.toList.drop (i * sz+off+us.length)⟩) β (s.bq (ak s.G id (.gT (ak rows j (ak es i e')) sz el))) a ∧
   Step R w β s.boxes R (w.setRow b ⟨cur.toList.take (i * sz+off)++us++cur.toList.drop (i * sz+off+us.length)⟩) β s.boxes:=by
 have kr:=uC.g;have Ct:=wx (sz:=sz) hi;have DC:es.length * sz≤cur.toList.length:=by
  rw [show cur.toList.length=cur.size from aav,sQ];exact aas _ hle
 have yM:vs.length=es.length * sz:=by rw [← hr.length,bM kr]
 refine h.Ue hid ba MA hb (cw _ _ _) (Cq uC sj Ug iz) ?_ (vs':=vs.take (i * sz)++(((vs.drop (i * sz)).take sz).take off++us++((vs.drop (i * sz)).take sz).drop (off+us.length))++vs.drop (i * sz+sz)) ?_ ?_ ?_
 ·rw [aa1,← aav];simp only [aaN,aaK,aaV];omega
 ·rw [xr kr hi sj,eN _ _ _ (by rw [sj,bM kr]; exact Ct),sj];exact ((hr.take _).append Uh).append (hr.drop _)
 ·intro v hv;simp only [aaW] at hv;rcases hv with (hv|((hv|hv)|hv))|hv
  ·exact h1 v (aao hv)
  ·exact h1 v (aap (aao (aao hv)))
  ·exact h2 v hv
  ·exact h1 v (aap (aao (aap hv)))
  ·exact h1 v (aap hv)
 ·rw [aaX,tJ _ _ _ _ _ _ DC Ct wy,ht]
theorem aY.I8 (h:aY E R w β s a) {id b c off:Nat} {es ns:List AV} {sz:Nat} {el:TypeId} {cur:Array Value} {vs us:List Value} (hid:nth s.G id=some (.cg es sz el)) (ba:nth R.obj id=some (.tok es.length b c 0))
  (hb:w.heap[b]?=some (.cells cur el (0,0))) (kr:dX sz es) (hle:es.length≤c) (sQ:cur.size=c * sz) (hr:aL R w (an es) vs) (h1:∀ v∈vs,v.oneCell'=true) (ht:cur.toList.take (es.length * sz)=vs)
  (wy:off+ns.length≤es.length) (hns:dX sz ns) (hu:aL R w (an ns) us) (h2:∀ v∈us,v.oneCell'=true) :
  aY E R (w.setRow b ⟨cur.toList.take (off * sz)++us++cur.toList.drop (off * sz+us.length)⟩) β (s.bq (ak s.G id (.cg (bu es off ns) sz el))) a ∧
   Step R w β s.boxes R (w.setRow b ⟨cur.toList.take (off * sz)++us++cur.toList.drop (off * sz+us.length)⟩) β s.boxes:=by
 have DD:us.length=ns.length * sz:=by rw [← hu.length,bM hns]
 have Ct:off * sz+ns.length * sz≤es.length * sz:=by rw [← Nat.add_mul]; exact aas _ wy
 have DC:es.length * sz≤cur.toList.length:=by
  rw [show cur.toList.length=cur.size from aav,sQ];exact aas _ hle
 have yM:vs.length=es.length * sz:=by rw [← hr.length,bM kr]
 have hm:=tJ cur.toList us (es.length * sz) (off * sz) (ns.length * sz) 0 DC Ct (by omega);simp only [aa8,aa5,aaS,aaQ] at hm;rw [DD,ht,show List.drop (ns.length * sz) (List.take (ns.length * sz) (List.drop (off * sz) vs))=[] from aaL (by rw [aaK]; exact Nat.min_le_left _ _),aa3] at hm;rw [eN _ _ _ wy];refine h.Hk hid ba hb (by simp; omega) (pg (pg (sk _ kr) hns) (Cs _ kr)) ?_ (vs':=vs.take (off * sz)++us++vs.drop (off * sz+ns.length * sz)) ?_ ?_ ?_
 ·rw [aa1,← aav];simp only [aaN,aaK,aaV,DD];omega
 ·rw [bZ,bZ,gn _ kr,n5 _ kr,Nat.add_mul];exact ((hr.take _).append hu).append (hr.drop _)
 ·intro v hv;simp only [aaW] at hv;rcases hv with (hv|hv)|hv
  ·exact h1 v (aao hv)
  ·exact h2 v hv
  ·exact h1 v (aap hv)
 ·rw [aaX,DD];exact hm
theorem uD (h:aY E R w β s a) (t:TypeId) (p x:Operand) (ho:o.op=.store t p x) (hd:o.dst=none) {id f i off sz:Nat} {ty:TypeId} (Ks:bG E s.ab p=.v (.gp id f i off sz ty)) {x':SV} (rx:qJ R w β x' (a.eval x)) {s':St} (hs:fQ E s t (.v (.gp id f i off sz ty)) x'=some (true,s')) :
  bQ E R w β s a o s':=by
 have rp:=aV h p;rw [Ks] at rp;have Sz:Rel R w (.gp id f i off sz ty) (a.eval p):=rp;generalize Pt:a.eval p=pv at Sz;unfold fQ at hs;simp only at hs;split at hs
 ·rename_i ti v es bh el LU hid;split at hs
  ·rename_i fA;simp only [aaq] at fA;obtain ⟨⟨Kr,hlen⟩,Hl⟩:=fA;have hlen:=aal hlen;have Hl:=aal Hl;subst Hl;have rxw:Rel R w v (a.eval x):=rx;obtain ⟨c1,c2⟩:=Rel.cells rxw Kr;have uc:v.cells.length=(a.eval x).cells.toList.length:=c1.length;cases Sz with
   | @gp _ _ _ _ _ b o' _ ro ba dG=>
   obtain ⟨b',c',cur,vs,rfl,g1,g2,g3,g4,g5,g6,g7,g8,g9⟩:=n9 h.g hid ba (fun k=>by subst k; exact dG);have yM:vs.length=es.length * sz:=by rw [← g7.length,bM g1]
   have DC:es.length * sz≤cur.toList.length:=by
    rw [show cur.toList.length=cur.size from aav,g5];exact aas _ g3
   split at hs
   ·rename_i hw;rw [aaq] at hw;have wy:=aal hw.1;have I9:=aal hw.2;subst wy;injection hs with hs;injection hs with h1 h2;rw [aaq,decide_eq_true_eq,decide_eq_true_eq] at h1;subst h2;obtain ⟨rfl,rfl⟩:=dG.2 h1.1;have Ct:=wx (sz:=sz) h1.2;have bp:=iF (E:=E) (w:=w) LU (b:=b) (vs:=cur.toList) (off:=i * sz+0) (c:=a.eval x) g2 (by rw [← uc]; exact hlen) (by rw [← uc]; omega) c2;obtain ⟨r1,r2⟩:=h.I6 (us:=(a.eval x).cells.toList) (off:=0) (i:=i) (e':=v) hid ba g2 g1 g3 g5 g7 g8 g9 h1.2 c2 (by rw [← uc]; omega) (by omega) Kr (by
     rw [aa5,aaS,aaQ,aaL (by rw [aaK,← uc]; omega),aa3];exact c1)
    simp only [aa8] at Pt bp r1 r2;refine ⟨.skip,undef,_,R,β,?_,.inr ⟨rfl,rfl⟩,by rw [hd]; exact r1,r2⟩;simp [execOp,ho,aa0,Pt,aaO,bp]
   ·split at hs
    ·rename_i cc cs hg;split at hs
     ·rename_i hw;simp only [aaq] at hw;obtain ⟨hle,Hm⟩:=hw;have hle:=aa6 hle;have Hm:=aal Hm;injection hs with hs;injection hs with h1 h2;subst h1; subst h2;obtain ⟨es0,el0,e,EX,I5,he,BQ⟩:=zB hg;rw [hid] at EX;cases EX;obtain ⟨rfl,rfl⟩:=dG.2 I5;have hi:i < es.length:=aU he;have Ct:=wx (sz:=sz) hi;have Ud:=g1 e (yO he);have dJ:aL R w e.cells ((vs.drop (i * sz)).take sz):=by
       rw [← mO g1 he];exact (g7.drop _).take _
      have hw:=(BQ.cells Ud.2).rel dJ;have Yn:aL R w cs ((vs.drop (i * sz)).take sz):=hw;have bp:=iF (E:=E) (w:=w) LU (b:=b) (vs:=cur.toList) (off:=i * sz+off) (c:=a.eval x) g2 (by rw [← uc]; exact hlen) (by rw [← uc]; omega) c2;have yl:off+v.cells.length≤cs.length:=by omega
      obtain ⟨r1,r2⟩:=h.I6 (us:=(a.eval x).cells.toList) (off:=off) (i:=i) (e':=.agg (bu cs off v.cells)) hid ba g2 g1 g3 g5 g7 g8 g9 hi c2 (by rw [← uc]; omega) (by show (bu cs off v.cells).length=sz; rw [sU _ _ _ yl]; exact Hm) rfl (by
       show aL R w (bu cs off v.cells) _;rw [eN _ _ _ yl,uc];exact ((Yn.take _).append c1).append (Yn.drop _))
      refine ⟨.skip,undef,_,R,β,?_,.inr ⟨rfl,rfl⟩,by rw [hd]; exact r1,r2⟩;simp [execOp,ho,aa0,Pt,aaO,bp]
     ·cases hs
    ·cases hs
  ·cases hs
 ·cases hs
theorem DE (h:aY E R w β s a) (t:TypeId) (p x:Operand) (ho:o.op=.store t p x) (hd:o.dst=none) {id j f i off sz:Nat} {ty:TypeId} (Ks:bG E s.ab p=.v (.rp id j f i off sz ty)) {x':SV} (rx:qJ R w β x' (a.eval x)) {s':St} (hs:fQ E s t (.v (.rp id j f i off sz ty)) x'=some (true,s')) :
  bQ E R w β s a o s':=by
 have rp:=aV h p;rw [Ks] at rp;have Sz:Rel R w (.rp id j f i off sz ty) (a.eval p):=rp;generalize Pt:a.eval p=pv at Sz;unfold fQ at hs;simp only at hs;split at hs
 ·rename_i ti v rows bh el LU hid;split at hs
  ·rename_i fA;simp only [aaq] at fA;obtain ⟨⟨Kr,hlen⟩,Hl⟩:=fA;have hlen:=aal hlen;have Hl:=aal Hl;subst Hl;have rxw:Rel R w v (a.eval x):=rx;obtain ⟨c1,c2⟩:=Rel.cells rxw Kr;have uc:v.cells.length=(a.eval x).cells.toList.length:=c1.length;cases Sz with
   | @rp _ _ _ _ _ _ b o' _ ro ba dG=>
   split at hs
   ·rename_i hw;rw [aaq] at hw;have wy:=aal hw.1;have I9:=aal hw.2;subst wy;injection hs with hs;injection hs with h1 h2;rw [aaq,aaq,decide_eq_true_eq,decide_eq_true_eq] at h1;obtain ⟨⟨h1a,h1b⟩,h1c⟩:=h1;subst h2;obtain ⟨ts,c',cur,vs,rfl,MA,kz,rfl,BF,g2,g3,g4,g5,g6,g7,g8,g9⟩:=DB h.g hid ba dG h1a;have g1:=BF.g;have yM:vs.length=(rowOf rows j).length * sz:=by rw [← g7.length,bM g1]
    have DC:(rowOf rows j).length * sz≤cur.toList.length:=by
     rw [show cur.toList.length=cur.size from aav,g5,← h1a];exact aas _ g3
    subst h1a;have Ct:=wx (sz:=sz) h1b;have bp:=iF (E:=E) (w:=w) LU (b:=b) (vs:=cur.toList) (off:=i * sz+0) (c:=a.eval x) g2 (by rw [← uc]; exact hlen) (by rw [← uc]; omega) c2;obtain ⟨r1,r2⟩:=h.I7 (us:=(a.eval x).cells.toList) (off:=0) (i:=i) (e':=v) hid ba MA g2 BF g3 g5 g7 g8 g9 h1b c2 (by rw [← uc]; omega) (by omega) Kr h1c (by
     rw [aa5,aaS,aaQ,aaL (by rw [aaK,← uc]; omega),aa3];exact c1)
    simp only [aa8] at Pt bp r1 r2;refine ⟨.skip,undef,_,R,β,?_,.inr ⟨rfl,rfl⟩,by rw [hd]; exact r1,r2⟩;simp [execOp,ho,aa0,Pt,aaO,bp]
   ·split at hs
    ·rename_i cc cs hg;split at hs
     ·rename_i hw;simp only [aaq] at hw;obtain ⟨hle,Hm⟩:=hw;have hle:=aa6 hle;have Hm:=aal Hm;injection hs with hs;injection hs with h1 h2;rw [aaq] at h1;obtain ⟨h1,h1c⟩:=h1;subst h1; subst h2;obtain ⟨es0,el0,e,EX,I5,he,BQ⟩:=zC hg;rw [hid] at EX;cases EX;obtain ⟨ts,c',cur,vs,rfl,MA,kz,rfl,BF,g2,g3,g4,g5,g6,g7,g8,g9⟩:=DB h.g hid ba dG I5;have g1:=BF.g;have yM:vs.length=(rowOf rows j).length * sz:=by rw [← g7.length,bM g1]
      have DC:(rowOf rows j).length * sz≤cur.toList.length:=by
       rw [show cur.toList.length=cur.size from aav,g5,← I5];exact aas _ g3
      subst I5;have hi:i < (rowOf rows j).length:=aU he;have Ct:=wx (sz:=sz) hi;have Ud:=g1 e (yO he);have dJ:aL R w e.cells ((vs.drop (i * sz)).take sz):=by
       rw [← mO g1 he];exact (g7.drop _).take _
      have hw:=(BQ.cells Ud.2).rel dJ;have Yn:aL R w cs ((vs.drop (i * sz)).take sz):=hw;have bp:=iF (E:=E) (w:=w) LU (b:=b) (vs:=cur.toList) (off:=i * sz+off) (c:=a.eval x) g2 (by rw [← uc]; exact hlen) (by rw [← uc]; omega) c2;have yl:off+v.cells.length≤cs.length:=by omega
      obtain ⟨r1,r2⟩:=h.I7 (us:=(a.eval x).cells.toList) (off:=off) (i:=i) (e':=.agg (bu cs off v.cells)) hid ba MA g2 BF g3 g5 g7 g8 g9 hi c2 (by rw [← uc]; omega) (by show (bu cs off v.cells).length=sz; rw [sU _ _ _ yl]; exact Hm) rfl h1c (by
       show aL R w (bu cs off v.cells) _;rw [eN _ _ _ yl,uc];exact ((Yn.take _).append c1).append (Yn.drop _))
      refine ⟨.skip,undef,_,R,β,?_,.inr ⟨rfl,rfl⟩,by rw [hd]; exact r1,r2⟩;simp [execOp,ho,aa0,Pt,aaO,bp]
     ·cases hs
    ·cases hs
  ·cases hs
 ·cases hs
theorem EY (h:aY E R w β s a) (t:TypeId) (p x:Operand) (ho:o.op=.store t p x) (hd:o.dst=none) {s':St} (hs:fQ E s t (bG E s.ab p) (bG E s.ab x)=some (true,s')) :
  bQ E R w β s a o s':=by
 have XB:=hs;unfold fQ at hs;split at hs
 ·rename_i id f i off sz ty Ks;rw [Ks] at XB;exact uD h t p x ho hd Ks (aV h x) XB
 ·rename_i id j f i off sz ty Ks;rw [Ks] at XB;exact DE h t p x ho hd Ks (aV h x) XB
 ·split at hs
  ·rename_i DF hv;injection hs with hs;injection hs with h1 h2;subst h2;exact G6 h t p x ho hd hv
  ·cases hs
def ai.reset (R:ai) (id:Nat) (ro:RO):ai:=⟨R.I,ak R.obj id ro⟩
theorem tK {id g:Nat} {r0 ro:RO} (hid:nth R.obj id=some r0) (ba:∀ b,ro.has b→b=g) {b:Nat} (hl:Live (R.reset id ro) b):b=g∨Live R b:=by
 obtain ⟨i,r,h1,h2⟩:=hl;rcases ar hid h1 with ⟨_,rfl⟩|⟨_,h1⟩
 ·exact .inl (ba b h2)
 ·exact .inr ⟨i,r,h1,h2⟩
theorem aY.Ui (h:aY E R w β s a) {cur:Array Value} {vs:List Value} {es es':List AV} {elem:TypeId} {sz cap id:Nat} {r0:RO} (hg:nth s.G id=some (.cg es sz elem)) (hid:nth R.obj id=some r0) (hf:∀ b c,cj r0 (.tok es'.length b c 0))
  (hn:es'.length≤cap) (hm:cap≤maxLen) (hs:cur.size=cap * sz) (kr:dX sz es') (hr:aL R w (an es') vs) (h1:∀ v∈vs,v.oneCell'=true) (ht:cur.toList.take (es'.length * sz)=vs) :
  aY E (R.reset id (.tok es'.length w.heap.size cap 0)) (w.drew.alloc (.cells cur elem)) β (s.bq (ak s.G id (.cg es' sz elem))) a ∧
  Step R w β s.boxes (R.reset id (.tok es'.length w.heap.size cap 0)) (w.drew.alloc (.cells cur elem)) β s.boxes:=by
 have e:Ext R w (R.reset id (.tok es'.length w.heap.size cap 0)) (w.drew.alloc (.cells cur elem)):=
  ⟨fun _ _ h=>h,fun b o hi=>bL (heap_alloc_old w.drew _ b (h.g.wf b o hi)) o,fun i r hr=>by
   by_cases ei:id=i
   ·subst ei;rw [hid] at hr;cases hr;exact ⟨_,aj hid,hf _ _⟩
   ·exact ⟨r,by rw [ai.reset,aJ ei]; exact hr,cj.refl r⟩,.old fun b hb=>heap_alloc_old w.drew _ b hb⟩
 have old:∀ b,b < w.heap.size→(w.drew.alloc (.cells cur elem)).heap[b]?=w.heap[b]?:=fun b hb=>heap_alloc_old w.drew _ b hb
 have new:(w.drew.alloc (.cells cur elem)).heap[w.heap.size]?=some (.cells cur elem (0,0)):=heap_alloc_new w.drew _;have live:∀ b,b < w.heap.size→Live (R.reset id (.tok es'.length w.heap.size cap 0)) b→Live R b:=fun b hb hl=>by
  rcases tK (g:=w.heap.size) (ro:=.tok es'.length w.heap.size cap 0) hid (fun _ h=>h) hl with rfl|hl
  ·omega
  ·exact hl
 refine ⟨⟨⟨by simp [St.bq,ai.reset,h.g.len],fun i gg r oI h2=>?_,fun i j ri rj b oI h2 b1 b2=>?_,fun b o hi=>?_,fun g cs hg=>(h.g.dF g cs hg).mono e,Nat.le_succ_of_le h.g.lo⟩,?_,h.t.mono e,h.n,h.d.mono e⟩,?_⟩
 ·rcases ar hid h2 with ⟨rfl,rfl⟩|⟨cq,h2⟩
  ·simp only [St.bq] at oI;rw [aj hg] at oI;cases oI;exact ⟨rfl,rfl,kr,cur,vs,new,hn,hm,hs,fun o hi=>by have:=h.g.wf _ _ hi; omega,hr.mono e,h1,ht⟩
  ·simp only [St.bq] at oI;rw [aJ (Ne.symm cq)] at oI;exact (h.g.obj i gg r oI h2).mono e (fun b hb=>old b (h.g.bT ⟨i,r,h2,hb⟩)) (fun b o _ hi=>hi)
 ·rcases ar hid oI with ⟨g3,e1⟩|⟨g3,g1⟩
  ·rcases ar hid h2 with ⟨g4,e2⟩|⟨g4,g2⟩
   ·omega
   ·have:=h.g.bT ⟨j,rj,g2,b2⟩;rw [e1] at b1;simp [RO.has] at b1;omega
  ·rcases ar hid h2 with ⟨g4,e2⟩|⟨g4,g2⟩
   ·have:=h.g.bT ⟨i,ri,g1,b1⟩;rw [e2] at b2;simp [RO.has] at b2;omega
   ·exact h.g.inj i j ri rj b g1 g2 b1 b2
 ·have:=h.g.wf b o hi;simp;omega
 ·exact h.b.keep e (fun k cs hk=>old _ (h.ea (.inr ⟨k,cs,hk,rfl⟩))) (fun k cs o hk hi=>hi) (fun k cs hk hl=>live _ (h.ea (.inr ⟨k,cs,hk,rfl⟩)) hl)
 ·refine ⟨e,rfl,rfl,rfl,by simp,fun b hb _=>old b hb,fun b hb ho=>?_,fun b o hi hb _=>hi⟩;rcases ho with ho|ho
  ·exact .inl (live b hb ho)
  ·exact .inr ho
theorem aY.PI (h:aY E R w β s a) {cur:Array Value} {vs:List Value} {es es':List AV} {elem:TypeId} {sz cap id:Nat} {r0:RO} (hg:nth s.G id=some (.cg es sz elem)) (hid:nth R.obj id=some r0) (hf:∀ b c,cj r0 (.tok es'.length b c 0))
  (hn:es'.length≤cap) (hm:cap≤maxLen) (hs:cur.size=cap * sz) (kr:dX sz es') (hr:aL R w (an es') vs) (h1:∀ v∈vs,v.oneCell'=true) (ht:cur.toList.take (es'.length * sz)=vs) :
  aY E (R.reset id (.tok es'.length w.heap.size cap 0)) (w.alloc (.cells cur elem)) β (s.bq (ak s.G id (.cg es' sz elem))) a ∧
  Step R w β s.boxes (R.reset id (.tok es'.length w.heap.size cap 0)) (w.alloc (.cells cur elem)) β s.boxes:=by
 have e:Ext R w (R.reset id (.tok es'.length w.heap.size cap 0)) (w.alloc (.cells cur elem)):=
  ⟨fun _ _ h=>h,fun b o hi=>bL (heap_alloc_old w _ b (h.g.wf b o hi)) o,fun i r hr=>by
   by_cases ei:id=i
   ·subst ei;rw [hid] at hr;cases hr;exact ⟨_,aj hid,hf _ _⟩
   ·exact ⟨r,by rw [ai.reset,aJ ei]; exact hr,cj.refl r⟩,.old fun b hb=>heap_alloc_old w _ b hb⟩
 have old:∀ b,b < w.heap.size→(w.alloc (.cells cur elem)).heap[b]?=w.heap[b]?:=fun b hb=>heap_alloc_old w _ b hb
 have new:(w.alloc (.cells cur elem)).heap[w.heap.size]?=some (.cells cur elem (0,0)):=heap_alloc_new w _;have live:∀ b,b < w.heap.size→Live (R.reset id (.tok es'.length w.heap.size cap 0)) b→Live R b:=fun b hb hl=>by
  rcases tK (g:=w.heap.size) (ro:=.tok es'.length w.heap.size cap 0) hid (fun _ h=>h) hl with rfl|hl
  ·omega
  ·exact hl
 refine ⟨⟨⟨by simp [St.bq,ai.reset,h.g.len],fun i gg r oI h2=>?_,fun i j ri rj b oI h2 b1 b2=>?_,fun b o hi=>?_,fun g cs hg=>(h.g.dF g cs hg).mono e,h.g.lo⟩,?_,h.t.mono e,h.n,h.d.mono e⟩,?_⟩
 ·rcases ar hid h2 with ⟨rfl,rfl⟩|⟨cq,h2⟩
  ·simp only [St.bq] at oI;rw [aj hg] at oI;cases oI;exact ⟨rfl,rfl,kr,cur,vs,new,hn,hm,hs,fun o hi=>by have:=h.g.wf _ _ hi; omega,hr.mono e,h1,ht⟩
  ·simp only [St.bq] at oI;rw [aJ (Ne.symm cq)] at oI;exact (h.g.obj i gg r oI h2).mono e (fun b hb=>old b (h.g.bT ⟨i,r,h2,hb⟩)) (fun b o _ hi=>hi)
 ·rcases ar hid oI with ⟨g3,e1⟩|⟨g3,g1⟩
  ·rcases ar hid h2 with ⟨g4,e2⟩|⟨g4,g2⟩
   ·omega
   ·have:=h.g.bT ⟨j,rj,g2,b2⟩;rw [e1] at b1;simp [RO.has] at b1;omega
  ·rcases ar hid h2 with ⟨g4,e2⟩|⟨g4,g2⟩
   ·have:=h.g.bT ⟨i,ri,g1,b1⟩;rw [e2] at b2;simp [RO.has] at b2;omega
   ·exact h.g.inj i j ri rj b g1 g2 b1 b2
 ·have:=h.g.wf b o hi;simp;omega
 ·exact h.b.keep e (fun k cs hk=>old _ (h.ea (.inr ⟨k,cs,hk,rfl⟩))) (fun k cs o hk hi=>hi) (fun k cs hk hl=>live _ (h.ea (.inr ⟨k,cs,hk,rfl⟩)) hl)
 ·refine ⟨e,rfl,rfl,rfl,by simp,fun b hb _=>old b hb,fun b hb ho=>?_,fun b o hi hb _=>hi⟩;rcases ho with ho|ho
  ·exact .inl (live b hb ho)
  ·exact .inr ho
theorem aY.PJ (h:aY E R w β s a) {cur cur2:Array Value} {vs:List Value} {es es':List AV} {elem:TypeId} {sz id g c:Nat} (hg:nth s.G id=some (.cg es sz elem)) (hid:nth R.obj id=some (.tok es.length g c 0)) (bW:es.length < es'.length) (hn:es'.length≤c)
  (kA:w.heap[g]?=some (.cells cur elem (0,0))) (hs:cur2.size=cur.size) (kr:dX sz es') (hr:aL R w (an es') vs) (h1:∀ v∈vs,v.oneCell'=true) (ht:cur2.toList.take (es'.length * sz)=vs) :
  aY E (R.reset id (.tok es'.length g c 0)) (w.setRow g cur2) β (s.bq (ak s.G id (.cg es' sz elem))) a ∧
  Step R w β s.boxes (R.reset id (.tok es'.length g c 0)) (w.setRow g cur2) β s.boxes:=by
 obtain ⟨_,q0,q1,Uf,vs0,p1,p2,p3,p4,p5,p6,p7,p8⟩:=h.g.obj id _ _ hg hid;rw [kA] at p1;cases p1;have wv:Live R g:=⟨id,_,hid,rfl⟩;have old:∀ b,b≠g→(w.setRow g cur2).heap[b]?=w.heap[b]?:=fun b hb=>setRow_other w g b cur2 hb
 have new:(w.setRow g cur2).heap[g]?=some (.cells cur2 elem (0,0)):=setRow_heap w g cur cur2 elem (0,0) kA;have e:Ext R w (R.reset id (.tok es'.length g c 0)) (w.setRow g cur2):=by
  have e0:=jo (R:=R) (w:=w) p5 cur2;refine ⟨fun _ _ h=>h,e0.cell,fun i r hr=>?_,e0.lp⟩;by_cases ei:id=i
  ·subst ei;rw [hid] at hr;cases hr;exact ⟨_,aj hid,by omega,fun e=>by omega⟩
  ·exact ⟨r,by rw [ai.reset,aJ ei]; exact hr,cj.refl r⟩
 have live:∀ b,Live (R.reset id (.tok es'.length g c 0)) b→Live R b:=fun b hl=>by
  rcases tK (g:=g) (ro:=.tok es'.length g c 0) hid (fun _ h=>h) hl with rfl|hl
  ·exact wv
  ·exact hl
 have tH:∀ k cs,dR s.boxes k=some cs→β k≠g:=fun k cs hk eq=>(h.b.box k cs hk).2.2 (eq ▸ wv)
 refine ⟨⟨⟨by simp [St.bq,ai.reset,h.g.len],fun i gg r oI h2=>?_,fun i j ri rj b oI h2 b1 b2=>?_,fun b o hi=>?_,fun g cs hg=>(h.g.dF g cs hg).mono e,h.g.lo⟩,?_,h.t.mono e,h.n,h.d.mono e⟩,?_⟩
 ·rcases ar hid h2 with ⟨rfl,rfl⟩|⟨cq,h2⟩
  ·simp only [St.bq] at oI;rw [aj hg] at oI;cases oI;exact ⟨rfl,rfl,kr,cur2,vs,new,hn,p3,by rw [hs]; exact p4,p5,hr.mono e,h1,ht⟩
  ·simp only [St.bq] at oI;rw [aJ (Ne.symm cq)] at oI;have Ub:∀ b,r.has b→b≠g:=fun b hb eq=>cq (h.g.inj i id _ _ b h2 hid hb (by rw [eq]; rfl))
   exact (h.g.obj i gg r oI h2).mono e (fun b hb=>old b (Ub b hb)) (fun b o hb hi=>hi)
 ·rcases ar hid oI with ⟨g3,e1⟩|⟨g3,g1⟩
  ·rcases ar hid h2 with ⟨g4,e2⟩|⟨g4,g2⟩
   ·omega
   ·rw [e1] at b1;exact g3.trans (h.g.inj id j _ _ b hid g2 b1 b2)
  ·rcases ar hid h2 with ⟨g4,e2⟩|⟨g4,g2⟩
   ·rw [e2] at b2;exact (h.g.inj i id _ _ b g1 hid b1 b2).trans g4.symm
   ·exact h.g.inj i j ri rj b g1 g2 b1 b2
 ·have:=h.g.wf b o hi;simpa using this
 ·exact h.b.keep e (fun k cs hk=>old _ (tH k cs hk)) (fun k cs o hk hi=>hi) (fun k cs hk hl=>live _ hl)
 ·refine ⟨e,rfl,rfl,rfl,by simp,fun b hb rq=>old b (fun eq=>rq (.inl (eq ▸ wv))),fun b hb ho=>?_,fun b o hi hb rq=>hi⟩;rcases ho with ho|ho
  ·exact .inl (live b ho)
  ·exact .inr ho
theorem aY.Hn (h:aY E R w β s a) {cur:Array Value} {vs:List Value} {es:List AV} {elem:TypeId} {sz cap:Nat} (hn:es.length≤cap) (hm:cap≤maxLen) (hs:cur.size=cap * sz) (kr:dX sz es) (hr:aL R w (an es) vs) (h1:∀ v∈vs,v.oneCell'=true) (ht:cur.toList.take (es.length * sz)=vs) :
  aY E (R.add (.tok es.length w.heap.size cap 0)) (w.alloc (.cells cur elem)) β (s.eF (.cg es sz elem)) a:=
 h.mK (.cells cur elem) (.cg es sz elem) (.tok es.length w.heap.size cap 0) (by exact fun _ h=>h)
  ⟨rfl,rfl,kr,cur,vs,heap_alloc_new w _,hn,hm,hs,fun o hi=>by have:=h.g.wf _ _ hi; omega,hr.mono (iG h.g.wf _ _),h1,ht⟩
theorem ym (h:aY E R w β s a) (t:TypeId) (x y:Operand) (ho:o.op=.makeSlice t x y) {i:TI} (hi:E.ti t=some i) {k k':IntKind} {n m:Int} (hx:bG E s.ab x=.v (.int k n)) (hy:bG E s.ab y=.v (.int k' m))
  {elem esz pK:Nat} {ag:Bool} {z:AV} (hk:i.k=.sl elem esz ag pK (some z)) (hz:z.cells.length=esz) (BH:1≤esz) (mg:z.aR=true) (lF:z.closed=true) (hc:0≤n∧n≤m∧m≤140737488355328∧m * pK≤140737488355328) :
  bQ E R w β s a o ((s.eF (.cg (aaI n.toNat z) esz elem)).put o.dst (.v (.de s.G.length n.toNat 0 esz n.toNat))):=by
 obtain ⟨us,z1,z2,bp⟩:=oK h t x y ho hi hx hy hk hz BH mg hc;have O4:n.toNat≤m.toNat:=by omega
 have kr:=(fc (n:=m.toNat) hz mg lF).g;have DD:us.length=m.toNat * esz:=by rw [← z1.length,bM kr,aaR]
 have DC:(aaI n.toNat z).length=n.toNat:=aaR;have LW:(aaI m.toNat z).take n.toNat=aaI n.toNat z:=by rw [aa7,Nat.min_eq_left O4]
 have hr:aL R w (an (aaI n.toNat z)) (us.take (n.toNat * esz)):=by
  rw [← LW,gn _ kr];exact z1.take _
 have r1:=h.Hn (cur:=⟨us⟩) (vs:=us.take (n.toNat * esz)) (es:=aaI n.toNat z) (elem:=elem) (cap:=m.toNat) (by rw [DC]; exact O4) (by unfold maxLen; omega) (by simpa using DD) (fc hz mg lF).g hr (fun v hv=>z2 v (aao hv)) (by rw [DC]);rw [DC] at r1;have e:=iG (R:=R) (w:=w) h.g.wf (.cells ⟨us⟩ elem) (.tok n.toNat w.heap.size m.toNat 0);exact ⟨_,.slice (some ⟨w.heap.size,0,none⟩) n.toNat m.toNat,_,R.add (.tok n.toNat w.heap.size m.toNat 0),β,bp,.inl rfl,r1.put o.dst (x:=.v (.de s.G.length n.toNat 0 esz n.toNat)) (Rel.de (gV h _) ⟨aaY _,fun _=>⟨rfl,aaQ _,.inl (aa2 _).symm⟩⟩ O4),by rw [bf]; exact dy h _ _ (by exact fun _ h=>h)⟩
theorem uE:∀ {G:List GO} {sz:Nat} {e:TypeId} {i j:Nat},si G sz e i=some j→∃ k,j=i+k∧nth G k=some (.cg [] sz e)
 |[],_,_,_,_,h=>by cases h
 |g :: G,sz,e,i,j,h=>by
  have Yo:si G sz e (i+1)=some j→∃ k,j=i+k∧nth (g :: G) k=some (.cg [] sz e):=fun h=>by
   obtain ⟨k,h1,h2⟩:=uE h;exact ⟨k+1,by omega,h2⟩
  unfold si at h;split at h
  ·cases ‹_ :: _=[]›
  ·rename_i es s' e' G' jS;obtain ⟨rfl,rfl⟩:=List.cons.inj jS;split at h
   ·rename_i j' hj;cases h;exact Yo hj
   ·rw [Bool.cond_eq_ite] at h;split at h
    ·rename_i hb;rw [aaq] at hb;have q1:=aal hb.1;have q2:=aal hb.2;cases es with
     |nil=>
      injection h with h;rw [q1,q2];exact ⟨0,by omega,rfl⟩
     |cons x l=>cases h
    ·cases h
  ·rename_i g' G' _ jS;obtain ⟨rfl,rfl⟩:=List.cons.inj jS;exact Yo h
theorem DG (h:aY E R w β s a) (t:TypeId) (x y:Operand) (ho:o.op=.makeSlice t x y) {i:TI} (hi:E.ti t=some i) {k k':IntKind} {n m:Int} (hx:bG E s.ab x=.v (.int k n)) (hy:bG E s.ab y=.v (.int k' m))
  {elem esz pK:Nat} {ag:Bool} {z:AV} (hk:i.k=.sl elem esz ag pK (some z)) (hz:z.cells.length=esz) (BH:1≤esz) (mg:z.aR=true) {s':St} (hs:pR s o.dst elem esz pK z n m=some (true,s')) :
  bQ E R w β s a o s':=by
 unfold pR at hs;split at hs
 ·rename_i id hid;split at hs
  ·rename_i lF;injection hs with hs; injection hs with hc hs;subst hs;have hc:=of_decide_eq_true hc;obtain ⟨iU,he,hid⟩:=uE hid;rw [aaQ] at he;subst he;obtain ⟨us,z1,z2,bp⟩:=oK h t x y ho hi hx hy hk hz BH mg ⟨by omega,by omega,by omega,by omega⟩;have O4:n.toNat≤m.toNat:=by omega
   have kr:=(fc (n:=m.toNat) hz mg lF).g;have DD:us.length=m.toNat * esz:=by rw [← z1.length,bM kr,aaR]
   have DC:(aaI n.toNat z).length=n.toNat:=aaR;have LW:(aaI m.toNat z).take n.toNat=aaI n.toNat z:=by rw [aa7,Nat.min_eq_left O4]
   have hr:aL R w (an (aaI n.toNat z)) (us.take (n.toNat * esz)):=by
    rw [← LW,gn _ kr];exact z1.take _
   obtain ⟨ro,ba⟩:∃ ro,nth R.obj id=some ro:=by
    have bW:=aU hid;rw [← h.g.len] at bW;exact ⟨R.obj[id],by rw [aN,aax bW]⟩
   have hle:∀ b c,cj ro (.tok (aaI n.toNat z).length b c 0):=fun b c=>by
    have bl:=h.g.obj id _ _ hid ba;rw [DC];cases ro with
    |none=>exact bl.elim
    |a8=>show 1≤n.toNat; omega
    |bE _=>exact bl.elim
    |aX _=>exact bl.elim
    |tok f g c' k0=>
     obtain ⟨_,hf,_⟩:=bl;simp only [List.length_nil] at hf;exact ⟨by omega,fun e=>by omega⟩
   obtain ⟨r1,r2⟩:=h.PI (cur:=⟨us⟩) (vs:=us.take (n.toNat * esz)) (es':=aaI n.toNat z) (elem:=elem) (cap:=m.toNat) hid ba hle (by rw [DC]; exact O4) (by unfold maxLen; omega) (by simpa using DD) (fc hz mg lF).g hr (fun v hv=>z2 v (aao hv)) (by rw [DC]);rw [DC] at r1 r2;exact ⟨_,.slice (some ⟨w.heap.size,0,none⟩) n.toNat m.toNat,_,_,β,bp,.inl rfl,r1.put o.dst (x:=.v (.de id n.toNat 0 esz n.toNat)) (Rel.de (aj ba) ⟨aaY _,fun _=>⟨rfl,aaQ _,.inl (aa2 _).symm⟩⟩ O4),by rw [bf]; exact r2⟩
  ·cases hs
 ·cases hs
theorem wz (h:aY E R w β s a) (t:TypeId) (len:Nat) (parts:Array (Nat × Operand)) (ho:o.op=.buildSlice t len parts) {k:LK} {esz:Nat} {es:List AV} (hv:cG E s t len parts.toList=some (.list k esz es)) {i:TI} (hi:E.ti t=some i) {elem bh pK:Nat} {ag:Bool} {z:Option AV} (hk:i.k=.sl elem bh ag pK z) (hm:len≤65536) :
  bQ E R w β s a o ((s.eF (.cg es esz elem)).put o.dst (.v (.de s.G.length len 0 esz len))):=by
 obtain ⟨es',T4,us,Yl,Yi,bp,g2,hlen,u2,u3,i',ag',Xz,z',qP,iZ⟩:=j7 h t len parts ho hv;cases Yi;rw [hi] at qP;cases qP;rw [hk] at iZ;cases iZ;have Ym:us.length=len * esz:=by rw [← u2.length,dH g2,hlen]
 have r1:=h.Hn (cur:=⟨us⟩) (vs:=us) (es:=es) (elem:=elem) (cap:=len) (by rw [hlen]; exact aaY _) (by simp [maxLen]; omega) (by simpa using Ym) g2.g u2 u3 (by rw [hlen,← Ym]; exact List.take_length);rw [hlen] at r1;exact ⟨_,.slice (some ⟨w.heap.size,0,none⟩) len len,_,R.add (.tok len w.heap.size len 0),β,bp,.inl rfl,r1.put o.dst (x:=.v (.de s.G.length len 0 esz len)) (Rel.de (gV h _) ⟨aaY _,fun _=>⟨rfl,aaQ _,.inl (aa2 _).symm⟩⟩ (aaY _)),by rw [bf]; exact dy h _ _ (by exact fun _ h=>h)⟩
end ops
end Go.Am
