/- The abstract machine: what it does is what the model does: slices that grow and are written. -/
import Derived.Test.YtegoimldbgdeiaaAmKC
set_option linter.all false
open Array renaming length_toList→aax
open Bool renaming and_eq_true→aav
open Go.Instr renaming sureAddr→acz
open List renaming mem_of_mem_take→aal, replicate→aas, mem_of_mem_drop→aat, drop_of_length_le→aay, length_replicate→aaA, length_take→aaK, length_append→aaM, getElem?_eq_getElem→aaT, nil_append→aa6, getElem?_take→abQ, length_drop→ab9, mem_append→acv, toList_toArray→acC, take_replicate→acG
open Nat renaming eq_of_beq_eq_true→aae, mul_le_mul_right→aau, succ_mul→aaP, zero_add→aa0, add_sub_cancel_left→aa3, le_refl→abd, zero_mul→acg
namespace Go.Am
open Go
section lists
theorem Cq {α:Type} (c us:List α) (n p sz off:Nat) (hn:n≤c.length) (hp:p+sz≤n) (ho:off+us.length≤sz) :
  (c.take (p+off)++us++c.drop (p+off+us.length)).take n =
   (c.take n).take p++((((c.take n).drop p).take sz).take off++us++(((c.take n).drop p).take sz).drop (off+us.length))++(c.take n).drop (p+sz):=by
 apply List.ext_getElem?;intro j;simp only [List.getElem?_append,abQ,List.getElem?_drop,aaM,aaK,ab9];by_cases h1:j < p
 ·rw [if_pos (by omega),if_pos (by omega),if_pos (by omega),if_pos (by omega),if_pos (by omega),if_pos (by omega),if_pos (by omega),if_pos (by omega)]
 ·by_cases h2:j < p+off
  ·rw [if_pos (by omega),if_pos (by omega),if_pos (by omega),if_pos (by omega),if_pos (by omega),if_neg (by omega),if_pos (by omega),if_pos (by omega),if_pos (by omega),if_pos (by omega),if_pos (by omega)];congr 1; omega
  ·by_cases h3:j < p+off+us.length
   ·rw [if_pos (by omega),if_pos (by omega),if_neg (by omega),if_pos (by omega),if_neg (by omega),if_pos (by omega),if_neg (by omega)];congr 1; omega
   ·by_cases h4:j < p+sz
    ·rw [if_pos (by omega),if_neg (by omega),if_pos (by omega),if_neg (by omega),if_neg (by omega),if_pos (by omega),if_pos (by omega)];congr 1; omega
    ·by_cases h5:j < n
     ·rw [if_pos (by omega),if_neg (by omega),if_neg (by omega),if_pos (by omega)];congr 1; omega
     ·rw [if_neg (by omega),if_neg (by omega),if_neg (by omega)]
theorem wz {sz:Nat}:∀ {es:List AV} {i:Nat} {e:AV},eW sz es→nth es i=some e→((aC es).drop (i * sz)).take sz=e.cells
 |[],_,_,_,h=>by simp [nth] at h
 |x :: es,0,e,h,hi=>by
  simp only [nth] at hi;cases hi;have h1:=(h x (by simp)).1;rw [acg,List.drop_zero];simp only [aC];rw [← h1,List.take_left]
 |x :: es,i+1,e,h,hi=>by
  have h1:=(h x (by simp)).1;have ih:=wz (i:=i) (fun y hy=>h y (by simp [hy])) (show nth es i=some e from hi);simp only [aC];rw [show (i+1) * sz=x.cells.length+i * sz by rw [h1,aaP]; omega,List.drop_append,aay (by omega),aa6,aa3];exact ih
theorem xy {sz:Nat} {l r:List AV} (h:eW sz l) (k:eW sz r):eW sz (l++r):=fun e he=>by
 rcases acv.1 he with he|he
 ·exact h e he
 ·exact k e he
theorem OL {sz:Nat} {l:List AV} (n:Nat) (h:eW sz l):eW sz (l.take n):=fun e he=>h e (aal he)
theorem OM {sz:Nat} {l:List AV} (n:Nat) (h:eW sz l):eW sz (l.drop n):=fun e he=>h e (aat he)
theorem mC {sz:Nat}:∀ {es:List AV} (i:Nat),eW sz es→aC (es.take i)=(aC es).take (i * sz)
 |[],i,_=>by simp [aC]
 |e :: es,0,_=>by simp [aC]
 |e :: es,i+1,h=>by
  have h1:=(h e (by simp)).1;simp only [List.take_succ_cons,aC];rw [mC i (fun y hy=>h y (by simp [hy])),show (i+1) * sz=e.cells.length+i * sz by rw [h1,aaP]; omega,List.take_append,aa3,List.take_of_length_le (by omega:e.cells.length≤e.cells.length+i * sz)]
theorem tN {sz:Nat}:∀ {es:List AV} (i:Nat),eW sz es→aC (es.drop i)=(aC es).drop (i * sz)
 |[],i,_=>by simp [aC]
 |e :: es,0,_=>by simp [aC]
 |e :: es,i+1,h=>by
  have h1:=(h e (by simp)).1;simp only [List.drop_succ_cons,aC];rw [tN i (fun y hy=>h y (by simp [hy])),show (i+1) * sz=e.cells.length+i * sz by rw [h1,aaP]; omega,List.drop_append,aay (by omega:e.cells.length≤e.cells.length+i * sz),aa6,aa3]
theorem eR {sz:Nat} {es:List AV} (h:eW sz es):(aC es).length=es.length * sz:=by
 induction es with
 |nil=>simp [aC]
 |cons e es ih=>
  have h1:=(h e (by simp)).1;have:=ih (fun x hx=>h x (by simp [hx]));simp only [aC,aaM,this,h1,List.length_cons,Nat.add_mul];omega
theorem KR {sz:Nat} {es:List AV} {i:Nat} {v:AV} (h:eW sz es) (h1:v.cells.length=sz) (h2:v.ba=true):eW sz (aE es i v):=fun e he=>by
 rw [fh] at he;rcases List.mem_or_eq_of_mem_set he with he|rfl
 ·exact h e he
 ·exact ⟨h1,h2⟩
theorem Ig {sz:Nat} {es:List AV} {i:Nat} {v:AV} (h:eW sz es) (hi:i < es.length) (hv:v.cells.length=sz):aC (aE es i v)=eT (aC es) (i * sz) v.cells:=by
 have KS:i * sz+sz≤es.length * sz:=by
  rw [← aaP];exact aau _ hi
 rw [fh,List.set_eq_take_append_cons_drop,if_pos hi,iE _ _ _ (by rw [hv,eR h]; exact KS),dZ,mC i h,hv];simp only [aC];rw [tN (i+1) h,aaP,List.append_assoc]
end lists
section ops
variable {E:Env} {R:aj} {w:World} {β:Nat→Nat} {s:St} {a:Act} {o:Oper}
theorem uU {G:List GO} (h:gG E R w G) {id:Nat} {es:List AV} {sz:Nat} {el:TypeId} {ro:RO} (bV:nth G id=some (.bF es sz el)) (bD:nth R.obj id=some ro) (hn:ro≠.bL) :
  ∃ b c cur vs,ro=.tok es.length b c 0∧eW sz es∧w.heap[b]?=some (.cells cur el (0,0))∧es.length≤c∧c≤maxLen∧cur.size=c * sz∧(∀ o,¬ R.I b o)∧aW R w (aC es) vs∧(∀ v∈vs,v.oneCell'=true)∧cur.toList.take (es.length * sz)=vs:=by
 have hr:=h.obj id _ _ bV bD;cases ro with
 |none=>exact hr.elim
 |bL=>exact absurd rfl hn
 |cu b=>exact hr.elim
 |bt _=>exact hr.elim
 |tok f b c k=>
  obtain ⟨rfl,rfl,h1,cur,vs,h2,h3,h4,h5,h6,h7,h8,h9⟩:=hr;exact ⟨b,c,cur,vs,rfl,h1,h2,h3,h4,h5,h6,h7,h8,h9⟩
theorem Cr {id f i sz:Nat} {t:TypeId} {v:AV} (h:B8 E s id f i sz t=some (true,v)) :
  ∃ es el e,nth s.G id=some (.bF es sz el)∧f=es.length∧nth es i=some e∧lC e v:=by
 unfold B8 at h;split at h
 ·rename_i es cL el bV;split at h
  ·rename_i p hp;split at h
   ·rename_i gX;have gX:=aae gX;subst gX;injection h with h;injection h with h1 h2;simp only [aav,decide_eq_true_eq] at h1;obtain ⟨⟨h3,h4⟩,h5⟩:=h1;obtain ⟨e,he⟩:∃ e,nth es i=some e:=⟨es[i],by rw [bg]; exact aaT h4⟩;have hd:ae es i=e:=by simp [ae,he]
    rw [hd] at h5 h2;rw [← h2];exact ⟨es,el,e,bV,h3,he,p.eg h5⟩
   ·cases h
  ·split at h
   ·rename_i gX;have gX:=aae gX;subst gX;injection h with h;injection h with h1 h2;simp only [aav,decide_eq_true_eq] at h1;obtain ⟨h3,h4⟩:=h1;obtain ⟨e,he⟩:∃ e,nth es i=some e:=⟨es[i],by rw [bg]; exact aaT h4⟩;have hd:ae es i=e:=by simp [ae,he]
    rw [hd] at h2;rw [← h2];exact ⟨es,el,e,bV,h3,he,lC.refl e⟩
   ·cases h
 ·cases h
theorem MQ {α:Type} {l:List α} {i:Nat} {x:α} (h:nth l i=some x):x∈l:=by
 rw [bg] at h;exact List.mem_of_getElem? h
theorem KT {i n sz:Nat} (h:i < n):i * sz+sz≤n * sz:=by
 rw [← aaP];exact aau _ h
theorem KU (h:bk E R w β s a) (t:TypeId) (x:Operand) (ho:o.op=.load t x) {v:AV} (hl:E9 E s t (bJ E s.af x)=some (true,v)) :
  cn E R w β s a o (s.put o.dst (.v v)):=by
 have rx:=aY h x;unfold E9 at hl;split at hl
 ·rename_i id f i off sz ty hx;rw [hx] at rx;split at hl
  ·rename_i ti c ve YU hg;split at hl
   ·rename_i l hs;split at hl
    ·rename_i r hm;injection hl with hl;injection hl with h1 h2;subst h1; subst h2;obtain ⟨es,el,e,bV,hfe,he,ON⟩:=Cr hg;have fy:Rel R w (.gp id f i off sz ty) (a.eval x):=rx;generalize iX:a.eval x=xv at fy;cases fy with
     | @gp _ _ _ _ _ b o' _ ro bD gJ=>
     obtain ⟨b',c',cur,vs,rfl,g1,g2,g3,g4,g5,g6,g7,g8,g9⟩:=uU h.g bV bD (fun k=>by subst k; exact gJ);obtain ⟨rfl,rfl⟩:=gJ.2 hfe;have hem:=g1 e (MQ he);have fT:aW R w e.cells ((vs.drop (i * sz)).take sz):=by
      rw [← wz g1 he];exact (g7.drop _).take _
     have hw:=(ON.cells hem.2).rel fT;obtain ⟨k1,k2,k3,k4⟩:=xr hs hw (fun y hy=>g8 y (aat (aal hy)));obtain ⟨c,hc,hrr⟩:=tG (E:=E) YU (b:=b) (off:=i * sz+off) k1 k2 k3 (fun j y hy=>by
      have h1:=k4 j y hy;rw [abQ] at h1;split at h1
      ·rw [List.getElem?_drop,← g9,abQ] at h1;split at h1
       ·rw [cell_of_row w b _ cur el (0,0) g2,Nat.add_assoc,← Array.getElem?_toList];exact h1
       ·cases h1
      ·cases h1) hm
     refine ax h (c:=c) ?_ hrr;simp [execOp,ho,Instr.loadAt,iX,acz,hc]
    ·cases hl
   ·cases hl
  ·cases hl
 ·split at hl
  ·rename_i v' hv;injection hl with hl;injection hl with h1 h2;subst h2;exact OE h t x ho hv
  ·cases hl
theorem bk.QV (h:bk E R w β s a) {id f b c:Nat} {es es':List AV} {sz:Nat} {el:TypeId} {cur Ie:Array Value} {vs':List Value} (bV:nth s.G id=some (.bF es sz el)) (bD:nth R.obj id=some (.tok f b c 0))
  (hb:w.heap[b]?=some (.cells cur el (0,0))) (hlen:es'.length=es.length) (qQ:eW sz es') (gX:Ie.size=cur.size) (hr:aW R w (aC es') vs') (h1:∀ v∈vs',v.oneCell'=true) (ht:Ie.toList.take (f * sz)=vs') :
  bk E R (w.setRow b Ie) β (s.cj (aE s.G id (.bF es' sz el))) a∧Step R w β s.boxes R (w.setRow b Ie) β s.boxes:=by
 obtain ⟨_,q0,q1,adG,vs0,p1,p2,p3,p4,p5,p6,p7,p8⟩:=h.g.obj id _ _ bV bD;rw [hb] at p1;cases p1;have hex:=oD (R:=R) (w:=w) p5 Ie;have KV:∀ k cs,eJ s.boxes k=some cs→β k≠b:=fun k cs hk e=>(h.b.box k cs hk).2.2 ⟨id,_,bD,by rw [e]; rfl⟩
 refine ⟨⟨⟨by simp [St.cj,h.g.len],fun nN go ro hg nD=>?_,h.g.inj,fun b' o' tj=>by have:=h.g.wf b' o' tj; simp; omega,fun g gr hg=>(h.g.fm g gr hg).mono hex,h.g.lo⟩,?_,h.t.mono hex,h.n,h.d⟩,?_⟩
 ·rcases fA hg with ⟨rfl,rfl,_⟩|⟨du,Kh⟩
  ·rw [bD] at nD;cases nD;exact ⟨rfl,by rw [hlen]; exact q0,qQ,Ie,vs',setRow_heap w _ _ _ _ (0,0) hb,p2,p3,by rw [gX]; exact p4,p5,hr.mono hex,h1,ht⟩
  ·refine (h.g.obj nN go ro Kh nD).mono hex (fun b' mX=>setRow_other w _ b' _ (fun e=>du ?_)) (fun _ _ _ hi=>hi);subst e;exact h.g.inj id nN _ _ b' bD nD rfl mX
 ·exact h.b.bh hex (fun k gr kT=>setRow_other w _ _ _ (KV k gr kT)) (fun _ _ _ _ hi=>hi) (fun _ _ _ hl=>hl)
 ·have zn:Own R β s.boxes b:=.inl ⟨id,_,bD,rfl⟩;exact ⟨hex,rfl,rfl,rfl,by simp,fun b' _ hn=>setRow_other w _ b' _ (fun e=>hn (e ▸ zn)),fun _ _ hb=>hb,fun b o hi _ _=>hi⟩
theorem bk.MR (h:bk E R w β s a) {id b c i off:Nat} {es:List AV} {sz:Nat} {el:TypeId} {cur:Array Value} {vs us:List Value} {e':AV} (bV:nth s.G id=some (.bF es sz el)) (bD:nth R.obj id=some (.tok es.length b c 0))
  (hb:w.heap[b]?=some (.cells cur el (0,0))) (qQ:eW sz es) (hle:es.length≤c) (xw:cur.size=c * sz) (hr:aW R w (aC es) vs) (h1:∀ v∈vs,v.oneCell'=true) (ht:cur.toList.take (es.length * sz)=vs) (hi:i < es.length)
  (h2:∀ v∈us,v.oneCell'=true) (GI:off+us.length≤sz) (xq:e'.cells.length=sz) (hn':e'.ba=true) (hre:aW R w e'.cells (((vs.drop (i * sz)).take sz).take off++us++((vs.drop (i * sz)).take sz).drop (off+us.length))) :
  bk E R (w.setRow b ⟨cur.toList.take (i * sz+off)++us++cur.toList.drop (i * sz+off+us.length)⟩) β (s.cj (aE s.G id (.bF (aE es i e') sz el))) a ∧
   Step R w β s.boxes R (w.setRow b ⟨cur.toList.take (i * sz+off)++us++cur.toList.drop (i * sz+off+us.length)⟩) β s.boxes:=by
 have KS:=KT (sz:=sz) hi;have MS:es.length * sz≤cur.toList.length:=by
  rw [show cur.toList.length=cur.size from aax,xw];exact aau _ hle
 have Xj:vs.length=es.length * sz:=by rw [← hr.length,eR qQ]
 refine h.QV bV bD hb (kr _ _ _) (KR qQ xq hn') ?_ (vs':=vs.take (i * sz)++(((vs.drop (i * sz)).take sz).take off++us++((vs.drop (i * sz)).take sz).drop (off+us.length))++vs.drop (i * sz+sz)) ?_ ?_ ?_
 ·rw [List.size_toArray,← aax];simp only [aaM,aaK,ab9];omega
 ·rw [Ig qQ hi xq,iE _ _ _ (by rw [xq,eR qQ]; exact KS),xq];exact ((hr.take _).append hre).append (hr.drop _)
 ·intro v hv;simp only [acv] at hv;rcases hv with (hv|((hv|hv)|hv))|hv
  ·exact h1 v (aal hv)
  ·exact h1 v (aat (aal (aal hv)))
  ·exact h2 v hv
  ·exact h1 v (aat (aal (aat hv)))
  ·exact h1 v (aat hv)
 ·rw [acC,Cq _ _ _ _ _ _ MS KS GI,ht]
theorem bk.UF (h:bk E R w β s a) {id b c off:Nat} {es ns:List AV} {sz:Nat} {el:TypeId} {cur:Array Value} {vs us:List Value} (bV:nth s.G id=some (.bF es sz el)) (bD:nth R.obj id=some (.tok es.length b c 0))
  (hb:w.heap[b]?=some (.cells cur el (0,0))) (qQ:eW sz es) (hle:es.length≤c) (xw:cur.size=c * sz) (hr:aW R w (aC es) vs) (h1:∀ v∈vs,v.oneCell'=true) (ht:cur.toList.take (es.length * sz)=vs)
  (GI:off+ns.length≤es.length) (hns:eW sz ns) (hu:aW R w (aC ns) us) (h2:∀ v∈us,v.oneCell'=true) :
  bk E R (w.setRow b ⟨cur.toList.take (off * sz)++us++cur.toList.drop (off * sz+us.length)⟩) β (s.cj (aE s.G id (.bF (eT es off ns) sz el))) a ∧
   Step R w β s.boxes R (w.setRow b ⟨cur.toList.take (off * sz)++us++cur.toList.drop (off * sz+us.length)⟩) β s.boxes:=by
 have UG:us.length=ns.length * sz:=by rw [← hu.length,eR hns]
 have KS:off * sz+ns.length * sz≤es.length * sz:=by rw [← Nat.add_mul]; exact aau _ GI
 have MS:es.length * sz≤cur.toList.length:=by
  rw [show cur.toList.length=cur.size from aax,xw];exact aau _ hle
 have Xj:vs.length=es.length * sz:=by rw [← hr.length,eR qQ]
 have hm:=Cq cur.toList us (es.length * sz) (off * sz) (ns.length * sz) 0 MS KS (by omega);simp only [Nat.add_zero,List.take_zero,aa6,aa0] at hm;rw [UG,ht,show List.drop (ns.length * sz) (List.take (ns.length * sz) (List.drop (off * sz) vs))=[] from aay (by rw [aaK]; exact Nat.min_le_left _ _),List.append_nil] at hm;rw [iE _ _ _ GI];refine h.QV bV bD hb (by simp; omega) (xy (xy (OL _ qQ) hns) (OM _ qQ)) ?_ (vs':=vs.take (off * sz)++us++vs.drop (off * sz+ns.length * sz)) ?_ ?_ ?_
 ·rw [List.size_toArray,← aax];simp only [aaM,aaK,ab9,UG];omega
 ·rw [dZ,dZ,mC _ qQ,tN _ qQ,Nat.add_mul];exact ((hr.take _).append hu).append (hr.drop _)
 ·intro v hv;simp only [acv] at hv;rcases hv with (hv|hv)|hv
  ·exact h1 v (aal hv)
  ·exact h2 v hv
  ·exact h1 v (aat hv)
 ·rw [acC,UG];exact hm
theorem xA (h:bk E R w β s a) (t:TypeId) (p x:Operand) (ho:o.op=.store t p x) (hd:o.dst=none) {id f i off sz:Nat} {ty:TypeId} (Xh:bJ E s.af p=.v (.gp id f i off sz ty)) {x':SV} (rx:tD R w β x' (a.eval x)) {s':St} (hs:iS E s t (.v (.gp id f i off sz ty)) x'=some (true,s')) :
  cn E R w β s a o s':=by
 have rp:=aY h p;rw [Xh] at rp;have rp':Rel R w (.gp id f i off sz ty) (a.eval p):=rp;generalize hpv:a.eval p=pv at rp';unfold iS at hs;simp only at hs;split at hs
 ·rename_i ti v es cL el YU bV;split at hs
  ·rename_i iV;simp only [aav] at iV;obtain ⟨⟨TS,hlen⟩,YY⟩:=iV;have hlen:=aae hlen;have YY:=aae YY;subst YY;have rxw:Rel R w v (a.eval x):=rx;obtain ⟨c1,c2⟩:=Rel.cells rxw TS;have EE:v.cells.length=(a.eval x).cells.toList.length:=c1.length;cases rp' with
   | @gp _ _ _ _ _ b o' _ ro bD gJ=>
   obtain ⟨b',c',cur,vs,rfl,g1,g2,g3,g4,g5,g6,g7,g8,g9⟩:=uU h.g bV bD (fun k=>by subst k; exact gJ);have Xj:vs.length=es.length * sz:=by rw [← g7.length,eR g1]
   have MS:es.length * sz≤cur.toList.length:=by
    rw [show cur.toList.length=cur.size from aax,g5];exact aau _ g3
   split at hs
   ·rename_i hw;rw [aav] at hw;have GI:=aae hw.1;have hts:=aae hw.2;subst GI;injection hs with hs;injection hs with h1 h2;rw [aav,decide_eq_true_eq,decide_eq_true_eq] at h1;subst h2;obtain ⟨rfl,rfl⟩:=gJ.2 h1.1;have KS:=KT (sz:=sz) h1.2;have cq:=nQ (E:=E) (w:=w) YU (b:=b) (vs:=cur.toList) (off:=i * sz+0) (c:=a.eval x) g2 (by rw [← EE]; exact hlen) (by rw [← EE]; omega) c2;obtain ⟨r1,r2⟩:=h.MR (us:=(a.eval x).cells.toList) (off:=0) (i:=i) (e':=v) bV bD g2 g1 g3 g5 g7 g8 g9 h1.2 c2 (by rw [← EE]; omega) (by omega) TS (by
     rw [List.take_zero,aa6,aa0,aay (by rw [aaK,← EE]; omega),List.append_nil];exact c1)
    simp only [Nat.add_zero] at hpv cq r1 r2;refine ⟨.skip,undef,_,R,β,?_,.inr ⟨rfl,rfl⟩,by rw [hd]; exact r1,r2⟩;simp [execOp,ho,Instr.storeAt,hpv,acz,cq]
   ·split at hs
    ·rename_i cc cs hg;split at hs
     ·rename_i hw;simp only [aav] at hw;obtain ⟨hle,YZ⟩:=hw;have hle:=Nat.le_of_ble_eq_true hle;have YZ:=aae YZ;injection hs with hs;injection hs with h1 h2;subst h1; subst h2;obtain ⟨es0,el0,e,QW,hfe,he,ON⟩:=Cr hg;rw [bV] at QW;cases QW;obtain ⟨rfl,rfl⟩:=gJ.2 hfe;have hi:i < es.length:=bA he;have KS:=KT (sz:=sz) hi;have hem:=g1 e (MQ he);have fT:aW R w e.cells ((vs.drop (i * sz)).take sz):=by
       rw [← wz g1 he];exact (g7.drop _).take _
      have hw:=(ON.cells hem.2).rel fT;have hw':aW R w cs ((vs.drop (i * sz)).take sz):=hw;have cq:=nQ (E:=E) (w:=w) YU (b:=b) (vs:=cur.toList) (off:=i * sz+off) (c:=a.eval x) g2 (by rw [← EE]; exact hlen) (by rw [← EE]; omega) c2;have HS:off+v.cells.length≤cs.length:=by omega
      obtain ⟨r1,r2⟩:=h.MR (us:=(a.eval x).cells.toList) (off:=off) (i:=i) (e':=.agg (eT cs off v.cells)) bV bD g2 g1 g3 g5 g7 g8 g9 hi c2 (by rw [← EE]; omega) (by show (eT cs off v.cells).length=sz; rw [ED _ _ _ HS]; exact YZ) rfl (by
       show aW R w (eT cs off v.cells) _;rw [iE _ _ _ HS,EE];exact ((hw'.take _).append c1).append (hw'.drop _))
      refine ⟨.skip,undef,_,R,β,?_,.inr ⟨rfl,rfl⟩,by rw [hd]; exact r1,r2⟩;simp [execOp,ho,Instr.storeAt,hpv,acz,cq]
     ·cases hs
    ·cases hs
  ·cases hs
 ·cases hs
theorem Ih (h:bk E R w β s a) (t:TypeId) (p x:Operand) (ho:o.op=.store t p x) (hd:o.dst=none) {s':St} (hs:iS E s t (bJ E s.af p) (bJ E s.af x)=some (true,s')) :
  cn E R w β s a o s':=by
 have hs0:=hs;unfold iS at hs;split at hs
 ·rename_i id f i off sz ty Xh;rw [Xh] at hs0;exact xA h t p x ho hd Xh (aY h x) hs0
 ·split at hs
  ·rename_i GJ hv;injection hs with hs;injection hs with h1 h2;subst h2;exact KF h t p x ho hd hv
  ·cases hs
def aj.reset (R:aj) (id:Nat) (ro:RO):aj:=⟨R.I,aE R.obj id ro⟩
theorem wA {id g:Nat} {r0 ro:RO} (bV:nth R.obj id=some r0) (bD:∀ b,ro.has b→b=g) {b:Nat} (hl:Live (R.reset id ro) b):b=g∨Live R b:=by
 obtain ⟨i,r,h1,h2⟩:=hl;rcases aH bV h1 with ⟨_,rfl⟩|⟨_,h1⟩
 ·exact .inl (bD b h2)
 ·exact .inr ⟨i,r,h1,h2⟩
theorem bk.Y0 (h:bk E R w β s a) {cur:Array Value} {vs:List Value} {es es':List AV} {elem:TypeId} {sz cap id:Nat} {r0:RO} (hg:nth s.G id=some (.bF es sz elem)) (bV:nth R.obj id=some r0) (hf:∀ b c,di r0 (.tok es'.length b c 0))
  (hn:es'.length≤cap) (hm:cap≤maxLen) (hs:cur.size=cap * sz) (qQ:eW sz es') (hr:aW R w (aC es') vs) (h1:∀ v∈vs,v.oneCell'=true) (ht:cur.toList.take (es'.length * sz)=vs) :
  bk E (R.reset id (.tok es'.length w.heap.size cap 0)) (w.drew.alloc (.cells cur elem)) β (s.cj (aE s.G id (.bF es' sz elem))) a ∧
  Step R w β s.boxes (R.reset id (.tok es'.length w.heap.size cap 0)) (w.drew.alloc (.cells cur elem)) β s.boxes:=by
 have e:Ext R w (R.reset id (.tok es'.length w.heap.size cap 0)) (w.drew.alloc (.cells cur elem)):=
  ⟨fun _ _ h=>h,fun b o hi=>cH (heap_alloc_old w.drew _ b (h.g.wf b o hi)) o,fun i r hr=>by
   by_cases ei:id=i
   ·subst ei;rw [bV] at hr;cases hr;exact ⟨_,aB bV,hf _ _⟩
   ·exact ⟨r,by rw [aj.reset,bn ei]; exact hr,di.refl r⟩,.old fun b hb=>heap_alloc_old w.drew _ b hb⟩
 have old:∀ b,b < w.heap.size→(w.drew.alloc (.cells cur elem)).heap[b]?=w.heap[b]?:=fun b hb=>heap_alloc_old w.drew _ b hb
 have new:(w.drew.alloc (.cells cur elem)).heap[w.heap.size]?=some (.cells cur elem (0,0)):=heap_alloc_new w.drew _;have live:∀ b,b < w.heap.size→Live (R.reset id (.tok es'.length w.heap.size cap 0)) b→Live R b:=fun b hb hl=>by
  rcases wA (g:=w.heap.size) (ro:=.tok es'.length w.heap.size cap 0) bV (fun _ h=>h) hl with rfl|hl
  ·omega
  ·exact hl
 refine ⟨⟨⟨by simp [St.cj,aj.reset,h.g.len],fun i gg r vG h2=>?_,fun i j ri rj b vG h2 b1 b2=>?_,fun b o hi=>?_,fun g cs hg=>(h.g.fm g cs hg).mono e,Nat.le_succ_of_le h.g.lo⟩,?_,h.t.mono e,h.n,h.d.mono e⟩,?_⟩
 ·rcases aH bV h2 with ⟨rfl,rfl⟩|⟨du,h2⟩
  ·simp only [St.cj] at vG;rw [aB hg] at vG;cases vG;exact ⟨rfl,rfl,qQ,cur,vs,new,hn,hm,hs,fun o hi=>by have:=h.g.wf _ _ hi; omega,hr.mono e,h1,ht⟩
  ·simp only [St.cj] at vG;rw [bn (Ne.symm du)] at vG;exact (h.g.obj i gg r vG h2).mono e (fun b hb=>old b (h.g.cM ⟨i,r,h2,hb⟩)) (fun b o _ hi=>hi)
 ·rcases aH bV vG with ⟨g3,e1⟩|⟨g3,g1⟩
  ·rcases aH bV h2 with ⟨g4,e2⟩|⟨g4,g2⟩
   ·omega
   ·have:=h.g.cM ⟨j,rj,g2,b2⟩;rw [e1] at b1;simp [RO.has] at b1;omega
  ·rcases aH bV h2 with ⟨g4,e2⟩|⟨g4,g2⟩
   ·have:=h.g.cM ⟨i,ri,g1,b1⟩;rw [e2] at b2;simp [RO.has] at b2;omega
   ·exact h.g.inj i j ri rj b g1 g2 b1 b2
 ·have:=h.g.wf b o hi;simp;omega
 ·exact h.b.bh e (fun k cs hk=>old _ (h.fD (.inr ⟨k,cs,hk,rfl⟩))) (fun k cs o hk hi=>hi) (fun k cs hk hl=>live _ (h.fD (.inr ⟨k,cs,hk,rfl⟩)) hl)
 ·refine ⟨e,rfl,rfl,rfl,by simp,fun b hb _=>old b hb,fun b hb ho=>?_,fun b o hi hb _=>hi⟩;rcases ho with ho|ho
  ·exact .inl (live b hb ho)
  ·exact .inr ho
theorem bk.UH (h:bk E R w β s a) {cur:Array Value} {vs:List Value} {es es':List AV} {elem:TypeId} {sz cap id:Nat} {r0:RO} (hg:nth s.G id=some (.bF es sz elem)) (bV:nth R.obj id=some r0) (hf:∀ b c,di r0 (.tok es'.length b c 0))
  (hn:es'.length≤cap) (hm:cap≤maxLen) (hs:cur.size=cap * sz) (qQ:eW sz es') (hr:aW R w (aC es') vs) (h1:∀ v∈vs,v.oneCell'=true) (ht:cur.toList.take (es'.length * sz)=vs) :
  bk E (R.reset id (.tok es'.length w.heap.size cap 0)) (w.alloc (.cells cur elem)) β (s.cj (aE s.G id (.bF es' sz elem))) a ∧
  Step R w β s.boxes (R.reset id (.tok es'.length w.heap.size cap 0)) (w.alloc (.cells cur elem)) β s.boxes:=by
 have e:Ext R w (R.reset id (.tok es'.length w.heap.size cap 0)) (w.alloc (.cells cur elem)):=
  ⟨fun _ _ h=>h,fun b o hi=>cH (heap_alloc_old w _ b (h.g.wf b o hi)) o,fun i r hr=>by
   by_cases ei:id=i
   ·subst ei;rw [bV] at hr;cases hr;exact ⟨_,aB bV,hf _ _⟩
   ·exact ⟨r,by rw [aj.reset,bn ei]; exact hr,di.refl r⟩,.old fun b hb=>heap_alloc_old w _ b hb⟩
 have old:∀ b,b < w.heap.size→(w.alloc (.cells cur elem)).heap[b]?=w.heap[b]?:=fun b hb=>heap_alloc_old w _ b hb
 have new:(w.alloc (.cells cur elem)).heap[w.heap.size]?=some (.cells cur elem (0,0)):=heap_alloc_new w _;have live:∀ b,b < w.heap.size→Live (R.reset id (.tok es'.length w.heap.size cap 0)) b→Live R b:=fun b hb hl=>by
  rcases wA (g:=w.heap.size) (ro:=.tok es'.length w.heap.size cap 0) bV (fun _ h=>h) hl with rfl|hl
  ·omega
  ·exact hl
 refine ⟨⟨⟨by simp [St.cj,aj.reset,h.g.len],fun i gg r vG h2=>?_,fun i j ri rj b vG h2 b1 b2=>?_,fun b o hi=>?_,fun g cs hg=>(h.g.fm g cs hg).mono e,h.g.lo⟩,?_,h.t.mono e,h.n,h.d.mono e⟩,?_⟩
 ·rcases aH bV h2 with ⟨rfl,rfl⟩|⟨du,h2⟩
  ·simp only [St.cj] at vG;rw [aB hg] at vG;cases vG;exact ⟨rfl,rfl,qQ,cur,vs,new,hn,hm,hs,fun o hi=>by have:=h.g.wf _ _ hi; omega,hr.mono e,h1,ht⟩
  ·simp only [St.cj] at vG;rw [bn (Ne.symm du)] at vG;exact (h.g.obj i gg r vG h2).mono e (fun b hb=>old b (h.g.cM ⟨i,r,h2,hb⟩)) (fun b o _ hi=>hi)
 ·rcases aH bV vG with ⟨g3,e1⟩|⟨g3,g1⟩
  ·rcases aH bV h2 with ⟨g4,e2⟩|⟨g4,g2⟩
   ·omega
   ·have:=h.g.cM ⟨j,rj,g2,b2⟩;rw [e1] at b1;simp [RO.has] at b1;omega
  ·rcases aH bV h2 with ⟨g4,e2⟩|⟨g4,g2⟩
   ·have:=h.g.cM ⟨i,ri,g1,b1⟩;rw [e2] at b2;simp [RO.has] at b2;omega
   ·exact h.g.inj i j ri rj b g1 g2 b1 b2
 ·have:=h.g.wf b o hi;simp;omega
 ·exact h.b.bh e (fun k cs hk=>old _ (h.fD (.inr ⟨k,cs,hk,rfl⟩))) (fun k cs o hk hi=>hi) (fun k cs hk hl=>live _ (h.fD (.inr ⟨k,cs,hk,rfl⟩)) hl)
 ·refine ⟨e,rfl,rfl,rfl,by simp,fun b hb _=>old b hb,fun b hb ho=>?_,fun b o hi hb _=>hi⟩;rcases ho with ho|ho
  ·exact .inl (live b hb ho)
  ·exact .inr ho
theorem bk.UI (h:bk E R w β s a) {cur cur2:Array Value} {vs:List Value} {es es':List AV} {elem:TypeId} {sz id g c:Nat} (hg:nth s.G id=some (.bF es sz elem)) (bV:nth R.obj id=some (.tok es.length g c 0)) (cI:es.length < es'.length) (hn:es'.length≤c)
  (lG:w.heap[g]?=some (.cells cur elem (0,0))) (hs:cur2.size=cur.size) (qQ:eW sz es') (hr:aW R w (aC es') vs) (h1:∀ v∈vs,v.oneCell'=true) (ht:cur2.toList.take (es'.length * sz)=vs) :
  bk E (R.reset id (.tok es'.length g c 0)) (w.setRow g cur2) β (s.cj (aE s.G id (.bF es' sz elem))) a ∧
  Step R w β s.boxes (R.reset id (.tok es'.length g c 0)) (w.setRow g cur2) β s.boxes:=by
 obtain ⟨_,q0,q1,adG,vs0,p1,p2,p3,p4,p5,p6,p7,p8⟩:=h.g.obj id _ _ hg bV;rw [lG] at p1;cases p1;have A7:Live R g:=⟨id,_,bV,rfl⟩;have old:∀ b,b≠g→(w.setRow g cur2).heap[b]?=w.heap[b]?:=fun b hb=>setRow_other w g b cur2 hb
 have new:(w.setRow g cur2).heap[g]?=some (.cells cur2 elem (0,0)):=setRow_heap w g cur cur2 elem (0,0) lG;have e:Ext R w (R.reset id (.tok es'.length g c 0)) (w.setRow g cur2):=by
  have e0:=oD (R:=R) (w:=w) p5 cur2;refine ⟨fun _ _ h=>h,e0.cell,fun i r hr=>?_,e0.lp⟩;by_cases ei:id=i
  ·subst ei;rw [bV] at hr;cases hr;exact ⟨_,aB bV,by omega,fun e=>by omega⟩
  ·exact ⟨r,by rw [aj.reset,bn ei]; exact hr,di.refl r⟩
 have live:∀ b,Live (R.reset id (.tok es'.length g c 0)) b→Live R b:=fun b hl=>by
  rcases wA (g:=g) (ro:=.tok es'.length g c 0) bV (fun _ h=>h) hl with rfl|hl
  ·exact A7
  ·exact hl
 have wx:∀ k cs,eJ s.boxes k=some cs→β k≠g:=fun k cs hk eq=>(h.b.box k cs hk).2.2 (eq ▸ A7)
 refine ⟨⟨⟨by simp [St.cj,aj.reset,h.g.len],fun i gg r vG h2=>?_,fun i j ri rj b vG h2 b1 b2=>?_,fun b o hi=>?_,fun g cs hg=>(h.g.fm g cs hg).mono e,h.g.lo⟩,?_,h.t.mono e,h.n,h.d.mono e⟩,?_⟩
 ·rcases aH bV h2 with ⟨rfl,rfl⟩|⟨du,h2⟩
  ·simp only [St.cj] at vG;rw [aB hg] at vG;cases vG;exact ⟨rfl,rfl,qQ,cur2,vs,new,hn,p3,by rw [hs]; exact p4,p5,hr.mono e,h1,ht⟩
  ·simp only [St.cj] at vG;rw [bn (Ne.symm du)] at vG;have YW:∀ b,r.has b→b≠g:=fun b hb eq=>du (h.g.inj i id _ _ b h2 bV hb (by rw [eq]; rfl))
   exact (h.g.obj i gg r vG h2).mono e (fun b hb=>old b (YW b hb)) (fun b o hb hi=>hi)
 ·rcases aH bV vG with ⟨g3,e1⟩|⟨g3,g1⟩
  ·rcases aH bV h2 with ⟨g4,e2⟩|⟨g4,g2⟩
   ·omega
   ·rw [e1] at b1;exact g3.trans (h.g.inj id j _ _ b bV g2 b1 b2)
  ·rcases aH bV h2 with ⟨g4,e2⟩|⟨g4,g2⟩
   ·rw [e2] at b2;exact (h.g.inj i id _ _ b g1 bV b1 b2).trans g4.symm
   ·exact h.g.inj i j ri rj b g1 g2 b1 b2
 ·have:=h.g.wf b o hi;simpa using this
 ·exact h.b.bh e (fun k cs hk=>old _ (wx k cs hk)) (fun k cs o hk hi=>hi) (fun k cs hk hl=>live _ hl)
 ·refine ⟨e,rfl,rfl,rfl,by simp,fun b hb wy=>old b (fun eq=>wy (.inl (eq ▸ A7))),fun b hb ho=>?_,fun b o hi hb wy=>hi⟩;rcases ho with ho|ho
  ·exact .inl (live b ho)
  ·exact .inr ho
theorem bk.KW (h:bk E R w β s a) {cur:Array Value} {vs:List Value} {es:List AV} {elem:TypeId} {sz cap:Nat} (hn:es.length≤cap) (hm:cap≤maxLen) (hs:cur.size=cap * sz) (qQ:eW sz es) (hr:aW R w (aC es) vs) (h1:∀ v∈vs,v.oneCell'=true) (ht:cur.toList.take (es.length * sz)=vs) :
  bk E (R.add (.tok es.length w.heap.size cap 0)) (w.alloc (.cells cur elem)) β (s.fq (.bF es sz elem)) a:=
 h.oE (.cells cur elem) (.bF es sz elem) (.tok es.length w.heap.size cap 0) (by exact fun _ h=>h)
  ⟨rfl,rfl,qQ,cur,vs,heap_alloc_new w _,hn,hm,hs,fun o hi=>by have:=h.g.wf _ _ hi; omega,hr.mono (jx h.g.wf _ _),h1,ht⟩
theorem A8 (h:bk E R w β s a) (t:TypeId) (x y:Operand) (ho:o.op=.makeSlice t x y) {i:TI} (hi:E.ti t=some i) {k k':IntKind} {n m:Int} (hx:bJ E s.af x=.v (.int k n)) (hy:bJ E s.af y=.v (.int k' m))
  {elem esz r7:Nat} {ag:Bool} {z:AV} (hk:i.k=.sl elem esz ag r7 (some z)) (hz:z.cells.length=esz) (KN:1≤esz) (tu:z.ba=true) (tk:z.closed=true) (hc:0≤n∧n≤m∧m≤140737488355328∧m * r7≤140737488355328) :
  cn E R w β s a o ((s.fq (.bF (aas n.toNat z) esz elem)).put o.dst (.v (.eH s.G.length n.toNat 0 esz n.toNat))):=by
 obtain ⟨us,z1,z2,cq⟩:=qy h t x y ho hi hx hy hk hz KN tu hc;have T0:n.toNat≤m.toNat:=by omega
 have qQ:=(fL (n:=m.toNat) hz tu tk).g;have UG:us.length=m.toNat * esz:=by rw [← z1.length,eR qQ,aaA]
 have MS:(aas n.toNat z).length=n.toNat:=aaA;have T1:(aas m.toNat z).take n.toNat=aas n.toNat z:=by rw [acG,Nat.min_eq_left T0]
 have hr:aW R w (aC (aas n.toNat z)) (us.take (n.toNat * esz)):=by
  rw [← T1,mC _ qQ];exact z1.take _
 have r1:=h.KW (cur:=⟨us⟩) (vs:=us.take (n.toNat * esz)) (es:=aas n.toNat z) (elem:=elem) (cap:=m.toNat) (by rw [MS]; exact T0) (by unfold maxLen; omega) (by simpa using UG) (fL hz tu tk).g hr (fun v hv=>z2 v (aal hv)) (by rw [MS]);rw [MS] at r1;have e:=jx (R:=R) (w:=w) h.g.wf (.cells ⟨us⟩ elem) (.tok n.toNat w.heap.size m.toNat 0);exact ⟨_,.slice (some ⟨w.heap.size,0,none⟩) n.toNat m.toNat,_,R.add (.tok n.toNat w.heap.size m.toNat 0),β,cq,.inl rfl,r1.put o.dst (x:=.v (.eH s.G.length n.toNat 0 esz n.toNat)) (Rel.eH (iW h _) ⟨abd _,fun _=>⟨rfl,aa0 _,.inl (acg _).symm⟩⟩ T0),by rw [bo]; exact dP h _ _ (by exact fun _ h=>h)⟩
theorem xB:∀ {G:List GO} {sz:Nat} {e:TypeId} {i j:Nat},uT G sz e i=some j→∃ k,j=i+k∧nth G k=some (.bF [] sz e)
 |[],_,_,_,_,h=>by cases h
 |g :: G,sz,e,i,j,h=>by
  have adJ:uT G sz e (i+1)=some j→∃ k,j=i+k∧nth (g :: G) k=some (.bF [] sz e):=fun h=>by
   obtain ⟨k,h1,h2⟩:=xB h;exact ⟨k+1,by omega,h2⟩
  unfold uT at h;split at h
  ·cases ‹_ :: _=[]›
  ·rename_i es s' e' G' mm;obtain ⟨rfl,rfl⟩:=List.cons.inj mm;split at h
   ·rename_i j' hj;cases h;exact adJ hj
   ·rw [Bool.cond_eq_ite] at h;split at h
    ·rename_i hb;rw [aav] at hb;have q1:=aae hb.1;have q2:=aae hb.2;cases es with
     |nil=>
      injection h with h;rw [q1,q2];exact ⟨0,by omega,rfl⟩
     |cons x l=>cases h
    ·cases h
  ·rename_i g' G' _ mm;obtain ⟨rfl,rfl⟩:=List.cons.inj mm;exact adJ h
theorem GK (h:bk E R w β s a) (t:TypeId) (x y:Operand) (ho:o.op=.makeSlice t x y) {i:TI} (hi:E.ti t=some i) {k k':IntKind} {n m:Int} (hx:bJ E s.af x=.v (.int k n)) (hy:bJ E s.af y=.v (.int k' m))
  {elem esz r7:Nat} {ag:Bool} {z:AV} (hk:i.k=.sl elem esz ag r7 (some z)) (hz:z.cells.length=esz) (KN:1≤esz) (tu:z.ba=true) {s':St} (hs:rV s o.dst elem esz r7 z n m=some (true,s')) :
  cn E R w β s a o s':=by
 unfold rV at hs;split at hs
 ·rename_i id bV;split at hs
  ·rename_i tk;injection hs with hs; injection hs with hc hs;subst hs;have hc:=of_decide_eq_true hc;obtain ⟨nN,he,bV⟩:=xB bV;rw [aa0] at he;subst he;obtain ⟨us,z1,z2,cq⟩:=qy h t x y ho hi hx hy hk hz KN tu ⟨by omega,by omega,by omega,by omega⟩;have T0:n.toNat≤m.toNat:=by omega
   have qQ:=(fL (n:=m.toNat) hz tu tk).g;have UG:us.length=m.toNat * esz:=by rw [← z1.length,eR qQ,aaA]
   have MS:(aas n.toNat z).length=n.toNat:=aaA;have T1:(aas m.toNat z).take n.toNat=aas n.toNat z:=by rw [acG,Nat.min_eq_left T0]
   have hr:aW R w (aC (aas n.toNat z)) (us.take (n.toNat * esz)):=by
    rw [← T1,mC _ qQ];exact z1.take _
   obtain ⟨ro,bD⟩:∃ ro,nth R.obj id=some ro:=by
    have cI:=bA bV;rw [← h.g.len] at cI;exact ⟨R.obj[id],by rw [bg,aaT cI]⟩
   have hle:∀ b c,di ro (.tok (aas n.toNat z).length b c 0):=fun b c=>by
    have cY:=h.g.obj id _ _ bV bD;rw [MS];cases ro with
    |none=>exact cY.elim
    |bL=>show 1≤n.toNat; omega
    |cu _=>exact cY.elim
    |bt _=>exact cY.elim
    |tok f g c' k0=>
     obtain ⟨_,hf,_⟩:=cY;simp only [List.length_nil] at hf;exact ⟨by omega,fun e=>by omega⟩
   obtain ⟨r1,r2⟩:=h.UH (cur:=⟨us⟩) (vs:=us.take (n.toNat * esz)) (es':=aas n.toNat z) (elem:=elem) (cap:=m.toNat) bV bD hle (by rw [MS]; exact T0) (by unfold maxLen; omega) (by simpa using UG) (fL hz tu tk).g hr (fun v hv=>z2 v (aal hv)) (by rw [MS]);rw [MS] at r1 r2;exact ⟨_,.slice (some ⟨w.heap.size,0,none⟩) n.toNat m.toNat,_,_,β,cq,.inl rfl,r1.put o.dst (x:=.v (.eH id n.toNat 0 esz n.toNat)) (Rel.eH (aB bD) ⟨abd _,fun _=>⟨rfl,aa0 _,.inl (acg _).symm⟩⟩ T0),by rw [bo]; exact r2⟩
  ·cases hs
 ·cases hs
theorem zx (h:bk E R w β s a) (t:TypeId) (len:Nat) (parts:Array (Nat × Operand)) (ho:o.op=.buildSlice t len parts) {k:LK} {esz:Nat} {es:List AV} (hv:cV E s t len parts.toList=some (.list k esz es)) {i:TI} (hi:E.ti t=some i) {elem cL r7:Nat} {ag:Bool} {z:Option AV} (hk:i.k=.sl elem cL ag r7 z) (hm:len≤65536) :
  cn E R w β s a o ((s.fq (.bF es esz elem)).put o.dst (.v (.eH s.G.length len 0 esz len))):=by
 obtain ⟨es',YR,us,adD,hve,cq,g2,hlen,u2,u3,i',ag',by',z',tj,kT⟩:=kU h t len parts ho hv;cases hve;rw [hi] at tj;cases tj;rw [hk] at kT;cases kT;have hus:us.length=len * esz:=by rw [← u2.length,eQ g2,hlen]
 have r1:=h.KW (cur:=⟨us⟩) (vs:=us) (es:=es) (elem:=elem) (cap:=len) (by rw [hlen]; exact abd _) (by simp [maxLen]; omega) (by simpa using hus) g2.g u2 u3 (by rw [hlen,← hus]; exact List.take_length);rw [hlen] at r1;exact ⟨_,.slice (some ⟨w.heap.size,0,none⟩) len len,_,R.add (.tok len w.heap.size len 0),β,cq,.inl rfl,r1.put o.dst (x:=.v (.eH s.G.length len 0 esz len)) (Rel.eH (iW h _) ⟨abd _,fun _=>⟨rfl,aa0 _,.inl (acg _).symm⟩⟩ (abd _)),by rw [bo]; exact dP h _ _ (by exact fun _ h=>h)⟩
end ops
end Go.Am
